import Derived.Test.YtfpdlnkkcnmebaaGreatEng6
namespace Go.Eng
open Go Go.RowKit
section
variable {S:Nat→Prop}{w:World}
theorem RdE.gather{z b:Nat}:∀(us:List U)(off:Nat),RdE S w z b off us→(∀u∈us,u.sz=z)→∃cs,cs.length=us.length*z∧Rds S w us cs∧(∀(j:Nat)(v:Value),cs[j]? =some v→w.cell? ⟨b,off+j,none⟩=some v)
 | [],off,_,_=>⟨[],by simp,by simp [Rds],fun j v h=>by simp at h⟩
 | u::us,off,h,hz=>by
   simp only [RdE] at h;obtain⟨⟨c1,h1,⟨row,e,fz,r1,r2⟩,h3⟩,h4⟩:=h;obtain⟨c2,k1,k2,k3⟩:=RdE.gather us (off+z) h4 (fun v hv=>hz v (by simp [hv]));refine⟨c1++c2,by simp [h1,k1,Nat.add_mul];omega,?_,fun j v hj=>?_⟩
   ·simp only [Rds];exact⟨c1,c2,rfl,h3,k2⟩
   ·by_cases hlt:j < c1.length
    ·rw [List.getElem?_append_left hlt] at hj
     have:=r2 j hlt
     rw [hj] at this;simp [World.cell?,r1,this]
    ·rw [List.getElem?_append_right (by omega)] at hj
     have:=k3 _ _ hj
     rw [←this];congr 2;omega
structure Src (S:Nat→Prop)(w:World)(z:Nat)(us:List U)(v:Value)(news:List Value):Prop where
 form:∃base c,v=.slice base us.length c∧(us=[]∨∃a,base=some a∧∀(j:Nat)(u:Value),news[j]? =some u→w.cell? (a.add j)=some u)
 rds:Rds S w us news
 len:news.length=us.length*z
 one:∀u∈news,u.oneCell'=true
theorem Src.of_data{L:List LO}{env:List Value}{z:Nat}{us:List U}{v:Value}(h:SVr S L env w (.d (.sl z us)) v)(hz:∀u∈us,u.sz=z):∃news,Src S w z us v news:=by
 rw [SVr.slice] at h;obtain⟨_,base,cap,rfl,h⟩:=h;rcases h with rfl | ⟨b,off,rfl,_,h⟩
 ·exact⟨[],⟨base,_,rfl,.inl rfl⟩,by simp [Rds],by simp,by simp⟩
 ·obtain⟨cs,h1,h2,h3⟩:=RdE.gather us off h hz;exact⟨cs,⟨_,_,rfl,.inr ⟨_,rfl,fun j u hu=>by rw [Addr.add_lit];exact h3 j u hu⟩⟩,h2,h1,Rds.oneCell us cs h2⟩
theorem Src.of_arr{L:List LO}{env:List Value}{e z ver:Nat}{us:List U}{hv:Value}(h:gH2 S L env w (.arr e z ver us) hv):∃news,Src S w z us hv news:=by
 obtain⟨_,hz,xs,h1,h2⟩:=h;refine⟨xs,?_,h2,h1.1,Rds.oneCell us xs h2⟩;rcases h1.2 with ⟨rfl,h0⟩ | ⟨g,cap,cur,rfl,_,hg,hc1,hc2,hc3,htake⟩
 ·exact⟨none,0,by rw [h0],.inl (List.eq_nil_of_length_eq_zero h0)⟩
 ·refine⟨some ⟨g,0,none⟩,cap,rfl,.inr ⟨_,rfl,fun j u hu=>h1.cells (g:=g) rfl j u hu⟩⟩
end
theorem gXo {P:Program}{S:Nat→Prop}{w:World}{T e:TypeId}{ty:TypeId}{gg:Bool}{z bs:Nat}{zs:List Value}(hT:tyE P T=some e)(he:tyI P e=some (gg,z,bs))(_:0 < z)(hZ:tyZ P e=some zs)(hzl:zs.length=z)
  {hv:Value} {n:Nat} {xs:List Value} (hown:w.ownsRow 0 e z hv n xs) {us:List U} {v2:Value} {news:List Value} (src:Src S w z us v2 news)
  (hbig:n+us.length≤big) (hbytes:(n+us.length)*bs≤140737488355328) :
  ∃v' w',(Builtin.append_ #[T,T] ty #[hv,v2]).run P w=.ok v' w'∧w'.ownsRow 0 e z v' (n+us.length) (xs++news)∧
   w'.os=w.os∧w'.tape=w.tape∧w'.output=w.output∧w.heap.size≤w'.heap.size∧(∀k,k < w.heap.size→blk hv≠some k→w'.heap[k]? =w.heap[k]?)∧
   (∀k,blk v'=some k→k < w'.heap.size∧(blk hv=some k∨w.heap.size≤k)):=by
 obtain⟨i,hi,his,hib⟩:=gPw he;have hsl:=zN hT;obtain⟨zv,hzv,hzc⟩:∃zv,i.zero=some zv∧zv.cells.toList=zs:=by
  unfold tyZ at hZ;simp only [hi] at hZ;cases hz:i.zero with
  | none=>simp [hz] at hZ
  | some zv=>exact⟨zv,rfl,by simpa [hz] using hZ⟩
 have hzsz:zv.cells.size=z:=by rw [←hzl,←hzc];simp
 obtain⟨⟨base,c,rfl,hbase⟩,hr,hl,h1⟩:=src;rw [yY] at hbig;have hmax:n+us.length≤maxLen:=by simp only [maxLen];omega
 have hxl:=hown.1;by_cases hm:us=[]
 ·subst hm;have hnews:news=[]:=List.eq_nil_of_length_eq_zero (by simpa using hl);subst hnews;refine⟨hv,w,?_,by simpa using hown,rfl,rfl,rfl,Nat.le_refl _,fun _ _ _=>rfl,fun k hk=>?_⟩
  ·rcases hown.2 with ⟨rfl,rfl⟩ | ⟨g,cap,cur,rfl,_,hg,hnc,_⟩
   ·cases base<;>simp [Builtin.append_,run_underlying hsl,sizeOf,typeInfo,hi,Builtin.lenOf,Builtin.firstCells,loadCells,loadCellsFrom]
   ·cases base<;>simp [Builtin.append_,run_underlying hsl,sizeOf,typeInfo,hi,Builtin.lenOf,Builtin.firstCells,loadCells,loadCellsFrom,hnc,storeCells]
  ·rcases hown.2 with ⟨rfl,rfl⟩ | ⟨g,cap,cur,rfl,_,hg,hnc,_⟩
   ·simp [blk] at hk
   ·simp [blk] at hk;subst hk;exact⟨(Array.getElem?_eq_some_iff.1 hg).1,.inl rfl⟩
 ·have hm0:0 < us.length:=List.length_pos_iff.2 hm;obtain⟨a,rfl,hnews⟩:=hbase.resolve_left hm
  have mk:∀old,old < n+us.length→∀(cells:Array Value),cells=xs.toArray++news.toArray++Builtin.zeroCells zv.cells (grownCap w (n+us.length) old e - (n+us.length))→
    (w.drew.alloc (.cells cells e)).ownsRow 0 e z (.slice (some ⟨w.heap.size,0,none⟩) (n+us.length) (grownCap w (n+us.length) old e)) (n+us.length) (xs++news):=by
   intro old _ cells hcells;have hge:=grownCap_ge w (n+us.length) old e;refine⟨by rw [List.length_append,hxl,hl,Nat.add_mul],.inr ⟨w.heap.size,_,cells,rfl,Nat.zero_le _,heap_alloc_new w.drew _,hge,grownCap_le_maxLen w _ old e hmax,?_,?_⟩⟩
   ·rw [hcells];simp only [Array.size_append,List.size_toArray,size_zeroCells,hzsz,hxl,hl,←Nat.add_mul];congr 1;omega
   ·rw [hcells];have hlen:(n+us.length)*z=(xs++news).length:=by rw [List.length_append,hxl,hl,Nat.add_mul]
    simp only [Array.toList_append,List.append_assoc];rw [←List.append_assoc,hlen,List.take_left]
  rcases hown.2 with ⟨rfl,rfl⟩ | ⟨g,cap,cur,rfl,_,hg,hnc,hcm,hcs,htake⟩
  ·have hx:xs=[]:=List.eq_nil_of_length_eq_zero (by simpa using hxl);subst hx;have hrun:=run_append_nil (P:=P) w T ty e i zv hsl hi hzv a us.length c news (by rw [his];exact hl) hnews hm0 (by omega) (by rw [hib];simp at hbytes;omega);have ho:=mk 0 (by omega) _ rfl;simp only [Nat.zero_add,List.nil_append] at ho ⊢;refine⟨_,_,hrun,by simpa using ho,rfl,rfl,rfl,by simp,fun k hk _=>heap_alloc_old w.drew _ hk,fun k hk=>?_⟩;simp [blk] at hk;subst hk;exact⟨by simp,.inr (Nat.le_refl _)⟩
  ·by_cases hroom:n+us.length≤cap
   ·have hfit:n*i.size+news.length≤cur.size:=by rw [hl,hcs,his,←Nat.add_mul];exact Nat.mul_le_mul_right _ hroom
    have hrun:=run_append_room (P:=P) w T ty e i hsl hi g n cap cur hg a us.length c news (by rw [his];exact hl) hnews h1 hroom hfit;have hrow:=setRow_heap w g cur ((cur.toList.take (n*i.size)++news++cur.toList.drop (n*i.size+news.length)).toArray) e (0,0) hg;refine⟨_,_,hrun,⟨by rw [List.length_append,hxl,hl,Nat.add_mul],.inr ⟨g,cap,_,rfl,Nat.zero_le _,hrow,hroom,hcm,?_,?_⟩⟩,rfl,rfl,rfl,by rw [setRow_size];exact Nat.le_refl _,fun k _ hk=>setRow_other w g k _ (fun e=>hk (by simp [blk,e])),fun k hk=>?_⟩
    ·simp only [List.size_toArray,List.length_append,List.length_take,List.length_drop,Array.length_toList];omega
    ·have hlen:(n+us.length)*z=(xs++news).length:=by rw [List.length_append,hxl,hl,Nat.add_mul]
     rw [his,htake,hlen];exact List.take_left
    ·simp [blk] at hk;subst hk;exact⟨by rw [setRow_size];exact(Array.getElem?_eq_some_iff.1 hg).1,.inl (by simp [blk])⟩
   ·have holds:∀(j:Nat)(u:Value),xs[j]? =some u→w.cell? ((⟨g,0,none⟩:Addr).add j)=some u:=hown.cells (g:=g) rfl;have hrun:=run_append_grow (P:=P) w T ty e i zv hsl hi hzv ⟨g,0,none⟩ n cap xs (by rw [his];exact hxl) holds a us.length c news (by rw [his];exact hl) hnews (by omega) (by omega) (by rw [hib];exact growslice_fits (by omega) hbytes);refine⟨_,_,hrun,mk cap (by omega) _ rfl,rfl,rfl,rfl,by simp,fun k hk _=>heap_alloc_old w.drew _ hk,fun k hk=>?_⟩;simp [blk] at hk;subst hk;exact⟨by simp,.inr (Nat.le_refl _)⟩
theorem pW.move {A:Amb}{S:Nat→Prop}{L:List LO}{env:List Value}{w w':World}(h:pW A S L env w)(i:Nat)(o o2:LO)(hv hv2:Value)
  (hL:L[i]? =some o) (hlive:o.live=true) (he:env[i]? =some hv) (hver:o.ver < o2.ver) (hnp:∀b,hv≠.pointer (some ⟨b,0,none⟩))
  (hsz:w.heap.size≤w'.heap.size) (hold:∀k,k < w.heap.size→blk hv≠some k→w'.heap[k]? =w.heap[k]?) (hos:w'.os=w.os) (htape:w'.tape=w.tape) (hout:w'.output=w.output)
  (hb2:∀k,blk hv2=some k→k < w'.heap.size∧(blk hv=some k∨w.heap.size≤k))
  (ho:(C:Carry S L env w S (L.set i o2) (env.set i hv2) w')→gH2 S (L.set i o2) (env.set i hv2) w' o2 hv2)
  (hft1:∀k,blk hv=some k→o.ft w hv k:=by intro k hk;exact hk) (hft2:∀k,o2.ft w' hv2 k→blk hv2=some k:=by intro k hk;exact hk) :
  pW A S (L.set i o2) (env.set i hv2) w'∧Carry S L env w S (L.set i o2) (env.set i hv2) w':=by
 have hi:=(List.getElem?_eq_some_iff.1 hL).1;have hie:=(List.getElem?_eq_some_iff.1 he).1;have hset:∀(j:Nat)(o':LO)(hv':Value),(L.set i o2)[j]? =some o'→(env.set i hv2)[j]? =some hv'→(j=i∧o'=o2∧hv'=hv2)∨(j≠i∧L[j]? =some o'∧env[j]? =some hv'):=by
  intro j o' hv' hj hj';by_cases hij:i=j
  ·subst hij;rw [List.getElem?_set_self hi] at hj;rw [List.getElem?_set_self hie] at hj';exact .inl ⟨rfl,(Option.some.inj hj).symm,(Option.some.inj hj').symm⟩
  ·rw [List.getElem?_set_ne hij] at hj hj';exact .inr ⟨fun e=>hij e.symm,hj,hj'⟩
 have hkeep:∀(j:Nat)(o':LO)(hv':Value),j≠i→L[j]? =some o'→o'.live=true→env[j]? =some hv'→∀k,o'.ft w hv' k→w'.heap[k]? =w.heap[k]? :=fun j o' hv' hj h3 hl h2 k hk=>
  hold k (h.excl j o' hv' k h3 hl h2 hk).2.2 (fun e=>hj (h.dist j i o' o hv' hv k h3 hL hl hlive h2 he hk (hft1 k e)))
 have hfe:∀(j:Nat)(o':LO)(hv':Value),j≠i→L[j]? =some o'→o'.live=true→env[j]? =some hv'→∀k,o'.ft w' hv' k→o'.ft w hv' k:=fun j o' hv' hj h3 hl h2 k hk=>
  (LO.ft_eq (h.objs j o' hv' h3 h2) (hkeep j o' hv' hj h3 hl h2) k).1 hk
 have C:Carry S L env w S (L.set i o2) (env.set i hv2) w':=by
  refine⟨fun _ h _=>h,fun k hk hlt=>hold k hlt (fun e=>(h.excl i o hv k hL hlive he (hft1 k e)).1 hk),fun j b hj=>?_,fun j hv' o' h1 h2=>?_⟩
  ·by_cases hij:i=j
   ·subst hij;rw [he] at hj;exact absurd (Option.some.inj hj) (hnp b)
   ·rw [List.getElem?_set_ne hij];exact hj
  ·by_cases hij:i=j
   ·subst hij;rw [hL] at h2;obtain rfl:=Option.some.inj h2;exact⟨hv2,o2,by rw [List.getElem?_set_self hie],by rw [List.getElem?_set_self hi],Nat.le_of_lt hver,fun e=>by omega⟩
   ·exact⟨hv',o',by rw [List.getElem?_set_ne hij];exact h1,by rw [List.getElem?_set_ne hij];exact h2,Nat.le_refl _,fun _=>rfl⟩
 have hblk:∀k,blk hv2=some k→¬S k∧(A.E k∨A.w0.heap.size≤k)∧k < w'.heap.size:=by
  intro k hk;obtain⟨h1,h2⟩:=hb2 k hk;rcases h2 with h2 | h2
  ·have:=h.excl i o hv k hL hlive he (hft1 k h2)
   exact⟨this.1,this.2.1,h1⟩
  ·exact⟨fun hs=>by have:=h.sS k hs;omega,.inr (Nat.le_trans h.size h2),h1⟩
 have hne:∀(j:Nat)(o':LO)(hv':Value)(k:Nat),j≠i→L[j]? =some o'→o'.live=true→env[j]? =some hv'→o'.ft w hv' k→blk hv2=some k→False:=by
  intro j o' hv' k hj h1 h2 h3 h4 h5;rcases(hb2 k h5).2 with h6 | h6
  ·exact hj (h.dist j i o' o hv' hv k h1 hL h2 hlive h3 he h4 (hft1 k h6))
  ·have:=(h.excl j o' hv' k h1 h2 h3 h4).2.2
   omega
 refine⟨⟨by simp [h.len],?_,?_,?_,fun b hb=>Nat.lt_of_lt_of_le (h.sS b hb) hsz,h.sA,fun k h1 h2=>?_,Nat.le_trans h.size hsz,hos.trans h.os,htape.trans h.tape,hout.trans h.output,h.base.carry C h.len (by simp),h.glob⟩,C⟩
 ·intro j o' hv' h1 h2;rcases hset j o' hv' h1 h2 with ⟨rfl,rfl,rfl⟩ | ⟨hj,h3,h4⟩
  ·exact ho C
  ·exact gH2.carry C (fun k hl hk=>hkeep j o' hv' hj h3 hl h4 k hk) (h.objs j o' hv' h3 h4)
 ·intro j o' hv' k h1 hl h2 hk;rcases hset j o' hv' h1 h2 with ⟨rfl,rfl,rfl⟩ | ⟨hj,h3,h4⟩
  ·exact hblk k (hft2 k hk)
  ·have:=h.excl j o' hv' k h3 hl h4 (hfe j o' hv' hj h3 hl h4 k hk)
   exact⟨this.1,this.2.1,by omega⟩
 ·intro j j' o1 o1' hv1 hv1' k h1 h2 hl1 hl2 e1 e2 b1 b2;rcases hset j o1 hv1 h1 e1 with ⟨rfl,rfl,rfl⟩ | ⟨hj,h3,h4⟩<;>rcases hset j' o1' hv1' h2 e2 with ⟨rfl,rfl,rfl⟩ | ⟨hj',h3',h4'⟩
  ·rfl
  ·exact(hne j' o1' hv1' k hj' h3' hl2 h4' (hfe j' o1' hv1' hj' h3' hl2 h4' k b2) (hft2 k b1)).elim
  ·exact(hne j o1 hv1 k hj h3 hl1 h4 (hfe j o1 hv1 hj h3 hl1 h4 k b1) (hft2 k b2)).elim
  ·exact h.dist j j' o1 o1' hv1 hv1' k h3 h3' hl1 hl2 h4 h4' (hfe j o1 hv1 hj h3 hl1 h4 k b1) (hfe j' o1' hv1' hj' h3' hl2 h4' k b2)
 ·by_cases hk:blk hv=some k
  ·rcases(h.excl i o hv k hL hlive he (hft1 k hk)).2.1 with hE | hE
   ·exact absurd hE h2
   ·omega
  ·rw [hold k (Nat.lt_of_lt_of_le h1 h.size) hk];exact h.frame k h1 h2
section
variable {P:Program}{A:Amb}{σ:St}{K:St→Prop}
variable {ops:Array Oper}{rest:List Oper}{t:Nat}{ty:TypeId}{pos:String}{af:Array Edge}{x y:Operand}{sv:SV}
def SrcOf(σ:St)(z:Nat)(us:List U):SV→Prop
 | .d (.sl z' us')=>z'=z∧us'=us∧∀u∈us,u.sz=z
 | .sl i ver=>∃e,σ.L[i]? =some (.arr e z ver us)
 | .nilsl=>us=[]
 | _=>False
theorem SrcOf.src{S:Nat→Prop}{env:List Value}{w:World}(hH:pW A S σ.L env w){z:Nat}{us:List U}{v:Value}(h:SrcOf σ z us sv)(hv:SVr S σ.L env w sv v):∃news,Src S w z us v news:=by
 cases sv with
 | d u=>
   cases u with
   | sl z' us'=>
     obtain⟨rfl,rfl,hz⟩:=h;exact Src.of_data hv hz
   | _=>exact h.elim
 | sl i ver=>
   obtain⟨e,h⟩:=h;simp only [SVr] at hv;obtain⟨hv',o,k1,k2,k3,k5,k4⟩:=hv;rw [h] at k2;obtain rfl:=Option.some.inj k2;rw [k4 rfl];exact Src.of_arr (hH.objs i _ _ h k1)
 | nilsl=>
   simp only [SVr] at hv
   have:us=[]:=h
   subst this;subst hv;exact⟨[],⟨none,0,rfl,.inl rfl⟩,by simp [Rds],by simp,by simp⟩
 | _=>exact h.elim
theorem hEw {T e T':TypeId}{gg:Bool}{z bs i ver:Nat}{zs:List Value}{es us:List U}{sy:SV}{fr:List (Nat × SV)}{L L':List LO}{N:Nat}(hx:(St.mk fr L N).ev x=.sl i ver)(hL:L[i]? =some (.arr e z ver es))(hy:(St.mk fr L N).ev y=sy)(hs:SrcOf ⟨fr,L,N⟩ z us sy)
  (hT:tyE P T=some e) (he:tyI P e=some (gg,z,bs)) (hZ:tyZ P e=some zs) (hz:(Nat.blt 0 z && zs.length==z)=true) (hus:∀u∈us,u.sz=z)
  (hbig:es.length+us.length≤big) (hbytes:(es.length+us.length)*bs≤140737488355328) (ht:Nat.blt t N=true) (hL':L.set i (.arr e z (ver+1) (es++us))=L')
  (h:VO P A ops rest ⟨(t,.sl i (ver+1))::fr,L',N⟩ K) :
  VO P A ops (⟨some t,.call { callee:=.builtin .append,args:=#[x,y],argTypes:=#[T,T] },T',pos,af,none⟩::rest) ⟨fr,L,N⟩ K:=by
 subst hL';refine gDd rfl (fun S env a w hH hf hN hd=>?_) h;have h1:=mY.ev hf hH x;have h2:=mY.ev hf hH y;rw [hx] at h1;rw [hy] at h2;simp only [Bool.and_eq_true,Nat.blt_eq,beq_iff_eq] at hz;obtain⟨news,src⟩:=SrcOf.src hH hs h2;simp only [SVr] at h1;obtain⟨hv,o,k1,k2,k3,k5,k4⟩:=h1;rw [hL] at k2;obtain rfl:=Option.some.inj k2;have k6:=k4 rfl;obtain⟨hb0,hzs,xs,m1,m2⟩:=hH.objs i _ hv hL k1;obtain⟨v',w',hrun,hown,e1,e2,e3,e4,e5,e6⟩:=gXo (P:=P) (ty:=T') hT he hz.1 hZ hz.2 m1 src hbig hbytes;have hnp:∀b,hv≠.pointer (some ⟨b,0,none⟩):=by
  intro b hb;rcases m1.2 with ⟨h,_⟩ | ⟨g,cap,cur,h,_⟩<;>rw [h] at hb<;>cases hb
 obtain⟨hH',C⟩:=hH.move (w':=w') i _ (.arr e z (ver+1) (es++us)) hv v' hL rfl k1 (by simp [LO.ver]) hnp e4 e5 e1 e2 e3 e6
  (fun C=>⟨by rw [List.length_append];exact hbig,fun u hu=>(List.mem_append.1 hu).elim (hzs u) (hus u),xs++news,by rw [List.length_append];exact hown,Rds.append _ _ _ _ (Rds.mono C.hS C.hw _ _ m2) (Rds.mono C.hS C.hw _ _ src.rds)⟩)
 refine⟨.value v',w',?_,.inl ⟨_,rfl,uU hf hN hd ht hH' C ?_⟩⟩
 ·rw [←k6] at hrun;simp [execOp,resolve,invoke,builtin,hrun]
 ·have hie:=(List.getElem?_eq_some_iff.1 k1).1;have hi:=(List.getElem?_eq_some_iff.1 hL).1;simp only [SVr];refine⟨v',_,by rw [List.getElem?_set_self hie],by rw [List.getElem?_set_self hi],Nat.le_refl _,?_,fun _=>rfl⟩;rcases hown.2 with ⟨h,_⟩ | ⟨g,cap,cur,h,_⟩<;>rw [h]<;>rfl
end
def VL(L:List LO):SV→U→Prop
 | .d u,u'=>u=u'
 | .nilsl,.sl _ us=>us=[]
 | .sl i ver,.sl z es=>∃e,L[i]? =some (.frz e z ver es)
 | _,_=>False
def VLs(L:List LO):List SV→List U→Prop
 | [],[]=>True
 | sv::svs,u::us=>VL L sv u∧VLs L svs us
 | _,_=>False
def VD(L:List LO):SV→U→Prop
 | .ag cs,.st us=>VLs L cs (U.flats us)
 | sv,u=>VL L sv u
section
variable {A:Amb}{S:Nat→Prop}{L:List LO}{env:List Value}{w:World}
theorem VL.r(hH:pW A S L env w){sv:SV}{u:U}{v:Value}(h:VL L sv u)(hv:SVr S L env w sv v):SVr S L env w (.d u) v:=by
 cases sv with
 | d u'=>have:u'=u:=h;subst this;exact hv
 | nilsl=>
   cases u with
   | sl z us=>
     have:us=[]:=h
     subst this;simp only [SVr] at hv;subst hv;exact SVr.slice.2 ⟨by simp [yY],none,0,rfl,.inl rfl⟩
   | _=>exact h.elim
 | sl i ver=>
   cases u with
   | sl z us=>
     obtain⟨e,h⟩:=h;simp only [SVr] at hv;obtain⟨hv',o,k1,k2,k3,k5,k4⟩:=hv;rw [h] at k2;obtain rfl:=Option.some.inj k2;rw [k4 rfl];simp only [SVr];exact hH.objs i _ _ h k1
   | _=>exact h.elim
 | _=>exact h.elim
theorem VLs.r(hH:pW A S L env w):∀{svs:List SV}{us:List U}{vs:List Value},(∀u∈us,u.isSt=false)→VLs L svs us→kP S L env w svs vs→yZ (fun u c=>Rd S w u [c]) us vs
 | [],[],[],_,_,_=>trivial
 | sv::svs,u::us,v::vs,hu,h,hv=>by
   simp only [kP] at hv;exact⟨(SVr.leaf (hu u (by simp))).1 (VL.r hH h.1 hv.1),VLs.r hH (fun u hu'=>hu u (by simp [hu'])) h.2 hv.2⟩
 | [],_::_,_,_,h,_=>h.elim
 | _::_,[],_,_,h,_=>h.elim
 | [],[],_::_,_,_,h=>by simp [kP] at h
 | _::_,_::_,[],_,_,h=>by simp [kP] at h
theorem VD.r(hH:pW A S L env w){sv:SV}{u:U}{v:Value}(h:VD L sv u)(hv:SVr S L env w sv v):SVr S L env w (.d u) v:=by
 cases sv with
 | ag cs=>
   cases u with
   | st us=>
     have h:VLs L cs (U.flats us):=h;simp only [SVr] at hv;obtain⟨vs,rfl,hv⟩:=hv
     have:=VLs.r hH (U.flats_leaf us) h hv
     simp only [SVr];refine⟨vs,rfl,?_⟩;simp only [Rd];exact Rds.of_leafs us vs this
   | _=>exact h.elim
 | d u'=>exact VL.r hH (show VL L (.d u') u by cases u<;>exact h) hv
 | nilsl=>exact VL.r hH (show VL L .nilsl u by cases u<;>exact h) hv
 | sl i ver=>exact VL.r hH (show VL L (.sl i ver) u by cases u<;>exact h) hv
 | junk=>cases u<;>exact h.elim
 | ptr i off=>cases u<;>exact h.elim
 | dp u=>cases u<;>exact h.elim
 | ep i ver z k off=>cases u<;>exact h.elim
 | fn f caps=>cases u<;>exact h.elim
 | tup vs=>cases u<;>exact h.elim
end
section
variable {P:Program}{A:Amb}{σ:St}{K:St→Prop}
variable {ops:Array Oper}{rest:List Oper}{t:Nat}{ty:TypeId}{pos:String}{af:Array Edge}{x y:Operand}{sv:SV}
theorem gLg{u:U}{cs:List Value}{S:Nat→Prop}{w:World}(h:Rd S w u cs):(val u cs).cells.toList=cs:=by
 by_cases hst:u.isSt=true
 ·simp [val,hst,Value.cells]
 ·have hst:u.isSt=false:=by simpa using hst
  have hlen:=Rd.length _ _ h;rw [gD7 hst] at hlen
  match cs,hlen,h with
  | [c],_,h=>
    have:=Rd.oneCell _ _ h c (by simp)
    simp [val,hst,cells_one this]
theorem gJz{α:Type}(l:List α)(a n:Nat)(m:List α)(h:a+m.length≤n)(hn:n≤l.length) :
  (l.take a++m++l.drop (a+m.length)).take n=(l.take n).take a++m++(l.take n).drop (a+m.length):=by
 have hl:(l.take a++m).length=a+m.length:=by simp only [List.length_append,List.length_take];omega
 rw [List.take_append,hl,List.take_of_length_le (by omega),List.drop_take,List.take_take,Nat.min_eq_left (by omega)]
theorem gXp {T:TypeId}{gg:Bool}{i ver z k e bs:Nat}{es:List U}{u:U}{fr:List (Nat × SV)}{L L':List LO}{N:Nat}(hx:(St.mk fr L N).ev x=.ep i ver z k 0)(hL:L[i]? =some (.arr e z ver es))(hy:VD L ((St.mk fr L N).ev y) u)
  (hT:tyI P T=some (gg,z,bs)) (hu:u.sz=z) (hk:k < es.length) (hL':L.set i (.arr e z ver (es.set k u))=L')
  (h:VO P A ops rest ⟨fr,L',N⟩ K) :
  VO P A ops (⟨none,.store T x y,ty,pos,af,none⟩::rest) ⟨fr,L,N⟩ K:=by
 subst hL';refine gDd rfl (fun S env a w hH hf hN hd=>?_) h;have h1:=mY.ev hf hH x;have h2:=VD.r hH hy (mY.ev hf hH y);rw [hx] at h1;simp only [SVr] at h1 h2;obtain⟨hv,o,k1,k2,k3,k5,k4⟩:=h1;rw [hL] at k2;obtain rfl:=Option.some.inj k2;obtain⟨b,e1,e2⟩:=k4 rfl;obtain⟨hbg,hz,xs,m1,m2⟩:=hH.objs i _ hv hL k1;obtain⟨cs,c1,c2⟩:=h2;have hcl:=Rd.length _ _ c2;rw [hu] at hcl;rcases m1.2 with ⟨rfl,_⟩ | ⟨g,cap,cur,rfl,hg0,hg,hnc,hcm,hcs,htake⟩
 ·simp [blk] at e1
 simp only [blk,Option.some.injEq] at e1;subst e1;have hkz:(k+1)*z≤es.length*z:=Nat.mul_le_mul_right _ hk;have hcap:es.length*z≤cap*z:=Nat.mul_le_mul_right _ hnc;have hkz1:(k+1)*z=k*z+z:=by rw [Nat.add_mul];omega
 have hxl:=m1.1;have hst:=run_storeCells_at P g (k*z) e cs 0 cur w hg (by omega) (Rd.oneCell _ _ c2);rw [Nat.add_zero,hcl] at hst;have hrow:=setRow_heap w g cur ((cur.toList.take (k*z)++cs++cur.toList.drop (k*z+z)).toArray) e (0,0) hg
 obtain⟨hH',C⟩:=hH.turn (w':=w.setRow g (cur.toList.take (k*z)++cs++cur.toList.drop (k*z+z)).toArray) i _ (.arr e z ver (es.set k u)) _ g hL rfl k1 rfl rfl rfl
  (setRow_size _ _ _) (fun k hk=>setRow_other w g k _ hk) rfl rfl rfl
  (fun C=>⟨by simpa using hbg,fun v hv=>by
    rcases List.mem_or_eq_of_mem_set hv with hv | rfl
    ·exact hz v hv
    ·exact hu,
   xs.take (k*z)++cs++xs.drop ((k+1)*z),⟨by simp only [List.length_append,List.length_take,List.length_drop,List.length_set,hxl,hcl];omega,.inr ⟨g,cap,_,by simp,hg0,hrow,by simpa using hnc,hcm,by simp only [List.size_toArray,List.length_append,List.length_take,List.length_drop,Array.length_toList,hcl];omega,by
    rw [List.length_set,←htake,hkz1]
    have:=gJz cur.toList (k*z) (es.length*z) cs (by rw [hcl];omega) (by simp only [Array.length_toList];omega)
    rw [hcl] at this
    exact this⟩⟩,
   Rds.set es xs k u cs hz (Rds.mono C.hS C.hw _ _ m2) (c2.mono C.hS C.hw) hk⟩)
 refine⟨.skip,_,?_,.inr ⟨rfl,gBw hf hN hd hH' C⟩⟩;have hcells:(a.eval y).cells.toList=cs:=by rw [c1];exact gLg c2
 have hsz:(a.eval y).cells.size=z:=by rw [←hcl,←hcells];simp
 simp [execOp,Instr.storeAt,e2,Instr.sureAddr,storeVar,run_sizeOf hT,hsz,hcells,hst]
theorem mY.freeze{a:Act}{w:World}{i e z ver:Nat}{es:List U}(hL:σ.L[i]? =some (.arr e z ver es))(h:mY A σ a w):mY A ⟨σ.fr,σ.L.set i (.frz e z ver es),σ.N⟩ a w:=by
 obtain⟨S,env,hH,hf,hN,hd⟩:=h;have hi:=(List.getElem?_eq_some_iff.1 hL).1;have hie:i < env.length:=by rw [hH.len];exact hi
 obtain⟨hv,he⟩:∃hv,env[i]? =some hv:=⟨_,List.getElem?_eq_getElem hie⟩
 have hob:=hH.objs i _ hv hL he;let S':Nat→Prop:=fun b=>S b∨blk hv=some b;have hset:∀(j:Nat)(o':LO),(σ.L.set i (.frz e z ver es))[j]? =some o'→(j=i∧o'=.frz e z ver es)∨(j≠i∧σ.L[j]? =some o'):=by
  intro j o' hj;by_cases hij:i=j
  ·subst hij;rw [List.getElem?_set_self hi] at hj;exact .inl ⟨rfl,(Option.some.inj hj).symm⟩
  ·rw [List.getElem?_set_ne hij] at hj;exact .inr ⟨fun e=>hij e.symm,hj⟩
 have C:Carry S σ.L env w S' (σ.L.set i (.frz e z ver es)) env w:=by
  refine⟨fun b hb _=>.inl hb,fun _ _ _=>rfl,fun _ _ h=>h,fun j hv' o' h1 h2=>?_⟩;by_cases hij:i=j
  ·subst hij;rw [hL] at h2;obtain rfl:=Option.some.inj h2;exact⟨hv',.frz e z ver es,h1,by rw [List.getElem?_set_self hi],Nat.le_refl _,fun _=>rfl⟩
  ·exact⟨hv',o',h1,by rw [List.getElem?_set_ne hij];exact h2,Nat.le_refl _,fun _=>rfl⟩
 refine⟨S',env,⟨by simp [hH.len],?_,?_,?_,?_,?_,hH.frame,hH.size,hH.os,hH.tape,hH.output,hH.base.carry C hH.len (by simp),hH.glob⟩,fun t=>SVr.carry C _ _ (hf t),hN,hd⟩
 ·intro j o' hv' h1 h2;rcases hset j o' h1 with ⟨rfl,rfl⟩ | ⟨hj,h3⟩
  ·rw [he] at h2;obtain rfl:=Option.some.inj h2;obtain⟨hbg,hz,xs,m1,m2⟩:=hob;have hmono:Rds S' w es xs:=Rds.mono C.hS C.hw _ _ m2
   have:RdV S' w (.sl z es) hv:=by
    rcases m1.2 with ⟨rfl,h0⟩ | ⟨g,cap,cur,rfl,hg0,hg,hnc,hcm,hcs,htake⟩
    ·have:es=[]:=List.eq_nil_of_length_eq_zero h0
     subst this;exact⟨[_],rfl,by simp only [Rd];exact⟨hbg,none,0,rfl,.inl trivial⟩⟩
    ·refine⟨[.slice (some ⟨g,0,none⟩) es.length cap],rfl,?_⟩;simp only [Rd];exact⟨hbg,_,cap - es.length,by rw [Nat.add_sub_cancel' hnc],.inr ⟨g,0,rfl,.inr rfl,RdE.of_Rds es xs 0 hz hmono (gOt m1 rfl)⟩⟩
   exact this
  ·exact gH2.carry C (fun _ _ _=>rfl) (hH.objs j o' hv' h3 h2)
 ·intro j o' hv' b h1 hl h2 hb;rcases hset j o' h1 with ⟨rfl,rfl⟩ | ⟨hj,h3⟩
  ·cases hl
  ·have:=hH.excl j o' hv' b h3 hl h2 hb
   refine⟨fun hs=>hs.elim this.1 (fun hs=>hj (hH.dist j i o' _ hv' hv b h3 hL hl rfl h2 he hb (show(LO.arr e z ver es).ft w hv b from hs))),this.2⟩
 ·intro j j' o1 o1' hv1 hv1' k h1 h2 hl1 hl2 e1 e2 b1 b2;rcases hset j o1 h1 with ⟨rfl,rfl⟩ | ⟨hj,h3⟩
  ·cases hl1
  ·rcases hset j' o1' h2 with ⟨rfl,rfl⟩ | ⟨hj',h3'⟩
   ·cases hl2
   ·exact hH.dist j j' o1 o1' hv1 hv1' k h3 h3' hl1 hl2 e1 e2 b1 b2
 ·intro b hb;rcases hb with hb | hb
  ·exact hH.sS b hb
  ·exact(hH.excl i _ hv b hL rfl he hb).2.2
 ·intro b hb;rcases hb with hb | hb
  ·exact hH.sA b hb
  ·exact .inr (hH.excl i _ hv b hL rfl he hb).2.1
end
end Go.Eng
