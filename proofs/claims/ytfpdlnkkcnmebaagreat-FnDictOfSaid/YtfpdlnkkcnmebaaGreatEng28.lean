import Derived.Test.YtfpdlnkkcnmebaaGreatEng21
namespace Go.Eng
open Go Go.RowKit
def gW8(zu:U)(zs:List Value):Prop:=∀w,Tr w zu zs∧zu.fp w zs=[]
theorem hKk{zu:U}{zs:List Value}{z:Nat}(hz:gW8 zu zs)(hs:zu.sz=z){w:World}:∀(n:Nat)(cs:List Value),cs.length=n*z→(∀j,j < n*z→cs[j]? =zs[j % z]?)→Trs w (List.replicate n zu) cs∧U.fps w (List.replicate n zu) cs=[]:=by
 have hzl:zs.length=z:=by rw [Tr.len _ _ (hz w).1,hs]
 intro n
 induction n with
 | zero=>intro cs hl _;simp at hl;subst hl;simp [Trs,U.fps]
 | succ n ih=>
   intro cs hl hc;have hnz:(n+1)*z=z+n*z:=by rw [Nat.add_mul];omega
   have htk:cs.take z=zs:=by
    apply List.ext_getElem?;intro j;rw [List.getElem?_take];split
    ·rw [hc j (by omega),Nat.mod_eq_of_lt (by assumption)]
    ·rw [List.getElem?_eq_none (by omega)]
   obtain⟨k1,k2⟩:=ih (cs.drop z) (by rw [List.length_drop,hl,hnz];omega) (fun j hj=>by rw [List.getElem?_drop,hc (z+j) (by omega),Nat.add_mod_left]);simp only [List.replicate_succ,Trs,U.fps];rw [hs,htk,(hz w).2,k2];exact⟨⟨(hz w).1,k1⟩,rfl⟩
section
variable {P:Program}{A:Amb}{σ:St}{K:St→Prop}
variable {ops:Array Oper}{rest:List Oper}{t:Nat}{ty:TypeId}{pos:String}{af:Array Edge}{x y:Operand}{sv:SV}
theorem pW.newO {S:Nat→Prop}{L:List LO}{env:List Value}{w w':World}(h:pW A S L env w)(js:List Nat)(o:LO)(hv:Value)
  (hsz:w.heap.size≤w'.heap.size) (hold:∀b,b < w.heap.size→w'.heap[b]? =w.heap[b]?) (hos:w'.os=w.os) (htape:w'.tape=w.tape) (hout:w'.output=w.output)
  (hft:∀k,o.ft w' hv k→k < w'.heap.size∧(w.heap.size≤k∨∃j∈js,gT4 L env w j k))
  (ho:Carry S L env w S (kill js 0 L++[o]) (env++[hv]) w'→gH2 S (kill js 0 L++[o]) (env++[hv]) w' o hv) :
  pW A S (kill js 0 L++[o]) (env++[hv]) w'∧Carry S L env w S (kill js 0 L++[o]) (env++[hv]) w':=by
 have hlen:=h.len
 refine h.eat js L.length o hv (by simp [gA9,hlen]) (fun j hj=>?_) (by rw [List.getElem?_append_right (by rw [gA9];exact Nat.le_refl _),gA9];simp) (fun j hj=>?_) (by rw [←hlen];simp) (fun k hk _=>hold k hk)
  (fun o' hv' h1 _=>by rw [List.getElem?_eq_none (Nat.le_refl _)] at h1;cases h1) hsz hos htape hout (fun k hk=>?_) ho
 ·by_cases hlt:j < L.length
  ·rw [List.getElem?_append_left (by rw [gA9];exact hlt),gNq,Nat.zero_add]
  ·rw [List.getElem?_eq_none (by simp [gA9];omega),List.getElem?_eq_none (by omega)];rfl
 ·by_cases hlt:j < env.length
  ·rw [List.getElem?_append_left hlt]
  ·rw [List.getElem?_eq_none (by simp;omega),List.getElem?_eq_none (by omega)]
 ·obtain⟨h1,h2⟩:=hft k hk;refine⟨h1,h2.imp id ?_⟩;rintro⟨j,hj,o',hv',k1,k2,k3,k4⟩;exact⟨j,o',hv',.inr (gF4 hj),k1,k2,k3,k4⟩
theorem gY2{S:Nat→Prop}{L:List LO}{env:List Value}{w:World}{o:LO}{hv:Value}{js:List Nat}(hlen:env.length=L.length)(h1:hv.oneCell'=true)(hv0:o.ver=0):SVr S (kill js 0 L++[o]) (env++[hv]) w (.sl L.length 0) hv:=by
 simp only [SVr];exact⟨hv,o,by rw [←hlen];simp,by rw [List.getElem?_append_right (by rw [gA9];exact Nat.le_refl _),gA9];simp,by rw [hv0];exact Nat.le_refl _,h1,fun _=>rfl⟩
theorem hHy {T e:TypeId}{gg:Bool}{z bs:Nat}{zs:List Value}{zu:U}{k k':IntKind}{l c:Int}{fr:List (Nat × SV)}{L L':List LO}{N i:Nat}(hx:(St.mk fr L N).ev x=.d (.i k l))(hy:(St.mk fr L N).ev y=.d (.i k' c))
  (hT:tyE P T=some e) (he:tyI P e=some (gg,z,bs)) (hZ:tyZ P e=some zs) (hz:(Nat.blt 0 z && zs.length==z)=true) (hzu:gW8 zu zs)
  (h0:0≤l) (hlc:l≤c) (hc:c≤big) (hbytes:(bs:Int)*c≤281474976710656) (ht:Nat.blt t N=true) (hi:L.length=i) (hL':Sn (.own e z 0 (List.replicate l.toNat zu)) L i L')
  (h:VO P A ops rest ⟨(t,.sl i 0)::fr,L',N⟩ K) :
  VO P A ops (⟨some t,.makeSlice T x y,ty,pos,af,none⟩::rest) ⟨fr,L,N⟩ K:=by
 have hL2:=hL'.spec.2;subst hi;subst hL2;refine gDd rfl (fun S env a w hH hf hN hd=>?_) h;have h1:=mY.ev hf hH x;have h2:=mY.ev hf hH y;rw [hx,SVr.int] at h1;rw [hy,SVr.int] at h2;simp only [Bool.and_eq_true,Nat.blt_eq,beq_iff_eq] at hz;obtain⟨i,hi,his,hib⟩:=gPw he;have hsl:=zN hT;obtain⟨zv,hzv,hzc⟩:∃zv,i.zero=some zv∧zv.cells.toList=zs:=by
  unfold tyZ at hZ;simp only [hi] at hZ;cases hz:i.zero with
  | none=>simp [hz] at hZ
  | some zv=>exact⟨zv,rfl,by simpa [hz] using hZ⟩
 have hzsz:zv.cells.size=z:=by rw [←hz.2,←hzc];simp
 rw [yY] at hc;have hrun:=run_make (P:=P) w T e i zv hsl hi hzv k k' l c h0 hlc (by rw [hib];exact hbytes) (by omega);have hsu:zu.sz=z:=by rw [←Tr.len _ _ (hzu w).1,hz.2]
 have hcells:∀(j:Nat),j < (madeCells zv.cells (c.toNat*i.size)).toList.length→(madeCells zv.cells (c.toNat*i.size)).toList[j]? =zs[j % z]? :=by
  intro j hj;simp only [Array.length_toList,size_madeCells] at hj;have hjm:j % z < zv.cells.size:=by rw [hzsz];exact Nat.mod_lt _ hz.1
  rw [Array.getElem?_toList];simp only [madeCells,Array.getElem?_map,←hzc,Array.getElem?_toList];rw [Array.getElem?_eq_getElem (by simpa using hj)];simp only [Array.getElem_range,Option.map_some,hzsz];rw [Array.getElem?_eq_getElem hjm,getElem!_pos zv.cells (j % z) hjm]
 have hln:l.toNat≤c.toNat:=by omega
 have hlz:l.toNat*z≤c.toNat*z:=Nat.mul_le_mul_right _ hln;have htr:=fun w'=>hKk (w:=w') hzu hsu l.toNat ((madeCells zv.cells (c.toNat*i.size)).toList.take (l.toNat*z)) (by simp [size_madeCells,his,Nat.min_eq_left hln]) (fun j hj=>by rw [List.getElem?_take,if_pos hj];exact hcells j (by simp only [Array.length_toList,size_madeCells,his];omega));have hall:∀u∈List.replicate l.toNat zu,u.sz=z:=fun u hu=>by rw [(List.mem_replicate.1 hu).2];exact hsu
 have hown:(w.alloc (.cells (madeCells zv.cells (c.toNat*i.size)) e)).ownsRow 0 e z (.slice (some ⟨w.heap.size,0,none⟩) l.toNat c.toNat) (List.replicate l.toNat zu).length ((madeCells zv.cells (c.toNat*i.size)).toList.take (l.toNat*z)):=
  ⟨by simp [size_madeCells,his,Nat.min_eq_left hln],.inr ⟨w.heap.size,c.toNat,_,by rw [List.length_replicate],Nat.zero_le _,heap_alloc_new w _,by rw [List.length_replicate];exact hln,by simp only [maxLen];omega,by rw [size_madeCells,his],by rw [List.length_replicate]⟩⟩
 have hfp:=gVf hall hown w.heap.size rfl;rw [(htr _).2] at hfp
 obtain⟨hH',C⟩:=hH.newO (w':=w.alloc (.cells (madeCells zv.cells (c.toNat*i.size)) e)) [] (.own e z 0 (List.replicate l.toNat zu)) (.slice (some ⟨w.heap.size,0,none⟩) l.toNat c.toNat)
  (by simp) (fun b hb=>heap_alloc_old w _ hb) rfl rfl rfl (fun b hb=>by simp only [LO.ft] at hb;rw [hfp] at hb;simp at hb;subst hb;exact⟨by simp,.inl (Nat.le_refl _)⟩)
  (fun C=>⟨by rw [List.length_replicate,yY];omega,hall,⟨_,hown,(htr _).1⟩,by rw [hfp];simp⟩)
 have hk:kill [] 0 L=L:=by
  have:∀(L:List LO)(n:Nat),kill [] n L=L:=by
   intro L
   induction L with
   | nil=>intro n;rfl
   | cons o L ih=>intro n;simp [kill,ih]
  exact this L 0
 have hsl':=gY2 (S:=S) (w:=w.alloc (.cells (madeCells zv.cells (c.toNat*i.size)) e)) (o:=.own e z 0 (List.replicate l.toNat zu)) (hv:=.slice (some ⟨w.heap.size,0,none⟩) l.toNat c.toNat) (js:=[]) hH.len rfl rfl;simp only [hk] at hH' C hsl';refine⟨.value (.slice (some ⟨w.heap.size,0,none⟩) l.toNat c.toNat),_,?_,.inl ⟨_,rfl,uU hf hN hd ht hH' C hsl'⟩⟩;simp only [execOp,h1,h2,Sem.run_bind,hrun,Result.andThen_ok,Sem.run_pure]
inductive gW9 (L:List LO)(z:Nat):SV→List U→List Nat→Prop
 | own {j ver e:Nat} {us:List U} (h:L[j]? =some (.own e z ver us)):gW9 L z (.sl j ver) us [j]
 | data {us:List U} (hs:∀u∈us,u.sz=z) (hn:U.noSls us=true):gW9 L z (.d (.sl z us)) us []
 | nil:gW9 L z .nilsl [] []
theorem gW9.r{S:Nat→Prop}{L:List LO}{env:List Value}{w:World}(hH:pW A S L env w){z:Nat}{us:List U}{js:List Nat}{v:Value}(h:gW9 L z sv us js)(hv:SVr S L env w sv v) :
  ∃news,Src (fun _=>True) w z us v news∧Trs w us news∧(U.fps w us news).Nodup∧(∀b∈U.fps w us news,∃j∈js,gT4 L env w j b)∧∀u∈us,u.sz=z:=by
 cases h with
 | @own j ver e us h=>
   simp only [SVr] at hv;obtain⟨hv',o,k1,k2,k3,k5,k4⟩:=hv;rw [h] at k2;obtain rfl:=Option.some.inj k2;have k6:=k4 rfl;subst k6;have hob:=hH.objs j _ _ h k1;obtain⟨hb,hz,⟨xs,h1,h2⟩,hnd⟩:=hob;have hr:=Trs.rd (S:=fun _=>True) us xs h2 (fun _ _=>trivial);refine⟨xs,⟨?_,hr,h1.1,Rds.oneCell us xs hr⟩,h2,?_,?_,hz⟩
   ·rcases h1.2 with ⟨rfl,h0⟩ | ⟨g,cap,cur,rfl,_,hg,hc1,hc2,hc3,htake⟩
    ·exact⟨none,0,by rw [h0],.inl (List.eq_nil_of_length_eq_zero h0)⟩
    ·exact⟨some ⟨g,0,none⟩,cap,rfl,.inr ⟨_,rfl,fun j u hu=>h1.cells (g:=g) rfl j u hu⟩⟩
   ·rcases gGm hz h1 with ⟨_,rfl,_⟩ | ⟨g,cap,rfl,hf⟩
    ·simp [U.fps]
    ·rw [hf] at hnd;exact(List.nodup_cons.1 hnd).2
   ·intro b hb';refine⟨j,by simp,_,_,h,rfl,k1,?_⟩;simp only [LO.ft];rcases gGm hz h1 with ⟨_,rfl,_⟩ | ⟨g,cap,rfl,hf⟩
    ·simp [U.fps] at hb'
    ·rw [hf];simp [hb']
 | data hs hn=>
   obtain⟨news,src⟩:=Src.of_data hv hs;obtain⟨k1,k2⟩:=Rds.tr (w':=w) _ _ hn src.rds;exact⟨news,⟨src.form,Rds.mono (fun _ _ _=>trivial) (fun _ _ _=>rfl) _ _ src.rds,src.len,src.one⟩,k1,by rw [k2];exact List.nodup_nil,by rw [k2];simp,hs⟩
 | nil=>
   simp only [SVr] at hv;subst hv;exact⟨[],⟨⟨none,0,rfl,.inl rfl⟩,by simp [Rds],by simp,by simp⟩,by simp [Trs],by simp [U.fps],by simp [U.fps],by simp⟩
theorem hDj {L:List LO}{env:List Value}{w w':World}{e z:Nat}{es us:List U}{hv v':Value}{xs news:List Value}{js:List Nat}{Q:Nat→Prop}(hz:∀u∈es,u.sz=z)(hus:∀u∈us,u.sz=z)
  (m1:w.ownsRow 0 e z hv es.length xs) (m2:Trs w es xs) (hnd:((U.sl z es).fp w [hv]).Nodup) (t1:Trs w us news) (t2:(U.fps w us news).Nodup) (t3:∀b∈U.fps w us news,(∃j∈js,gT4 L env w j b)∧b < w.heap.size∧b∉(U.sl z es).fp w [hv])
  (hown:w'.ownsRow 0 e z v' (es.length+us.length) (xs++news)) (e5:∀k,k < w.heap.size→blk hv≠some k→w'.heap[k]? =w.heap[k]?)
  (e6:∀k,blk v'=some k→k < w'.heap.size∧(blk hv=some k∨w.heap.size≤k)) (hsz:w.heap.size≤w'.heap.size) (hQ:∀b,b∈(U.sl z es).fp w [hv]→b < w.heap.size∧Q b) :
  (∀u∈es++us,u.sz=z)∧w'.ownsRow 0 e z v' (es++us).length (xs++news)∧Trs w' (es++us) (xs++news)∧((U.sl z (es++us)).fp w' [v']).Nodup∧
  ∀b∈(U.sl z (es++us)).fp w' [v'],b < w'.heap.size∧(w.heap.size≤b∨Q b∨∃j∈js,gT4 L env w j b):=by
 have hall:∀u∈es++us,u.sz=z:=fun u hu=>(List.mem_append.1 hu).elim (hz u) (hus u);have hown':w'.ownsRow 0 e z v' (es++us).length (xs++news):=by rw [List.length_append];exact hown
 have hin:∀b∈U.fps w es xs,b∈(U.sl z es).fp w [hv]∧blk hv≠some b:=by
  intro b hb;rcases gGm hz m1 with ⟨_,rfl,_⟩ | ⟨g,cap,rfl,hf⟩
  ·simp [U.fps] at hb
  ·rw [hf] at hnd ⊢;exact⟨by simp [hb],fun e=>by simp [blk] at e;subst e;exact(List.nodup_cons.1 hnd).1 hb⟩
 have hnb:∀b,blk hv=some b→b∈(U.sl z es).fp w [hv]:=by
  intro b hb;rcases gGm hz m1 with ⟨rfl,rfl,_⟩ | ⟨g,cap,rfl,hf⟩
  ·simp [blk] at hb
  ·simp [blk] at hb;subst hb;rw [hf];simp
 obtain⟨a1,a2⟩:=Trs.loc (w':=w') _ _ m2 (fun b hb=>e5 b (hQ b (hin b hb).1).1 (hin b hb).2);obtain⟨b1,b2⟩:=Trs.loc (w':=w') _ _ t1 (fun b hb=>e5 b (t3 b hb).2.1 (fun e=>(t3 b hb).2.2 (hnb b e)));obtain⟨c1,c2⟩:=Trs.append _ _ _ _ a1 b1;rw [a2,b2] at c2;have hes:(U.fps w es xs).Nodup:=by
  rcases gGm hz m1 with ⟨_,rfl,_⟩ | ⟨g,cap,rfl,hf⟩
  ·simp [U.fps]
  ·rw [hf] at hnd;exact(List.nodup_cons.1 hnd).2
 have hjoin:(U.fps w es xs++U.fps w us news).Nodup:=List.nodup_append.2 ⟨hes,t2,fun x hx y hy hxy=>(t3 y hy).2.2 (hxy▸(hin x hx).1)⟩;rcases gGm hall hown' with ⟨rfl,h0,hf⟩ | ⟨g,cap,rfl,hf⟩
 ·exact⟨hall,hown',c1,by rw [hf];exact List.nodup_nil,by rw [hf];simp⟩
 ·have h6:=e6 g rfl;rw [c2] at hf;refine⟨hall,hown',c1,?_,?_⟩
  ·rw [hf];refine List.nodup_cons.2 ⟨?_,hjoin⟩;rw [List.mem_append,not_or];refine⟨fun hm=>?_,fun hm=>?_⟩
   ·rcases h6.2 with h | h
    ·exact(hin g hm).2 h
    ·have:=(hQ g (hin g hm).1).1;omega
   ·rcases h6.2 with h | h
    ·exact(t3 g hm).2.2 (hnb g h)
    ·have:=(t3 g hm).2.1;omega
  ·intro b hb;rw [hf] at hb;rcases List.mem_cons.1 hb with rfl | hb
   ·exact⟨h6.1,h6.2.elim (fun h=>.inr (.inl (hQ b (hnb b h)).2)) .inl⟩
   ·rcases List.mem_append.1 hb with hb | hb
    ·have:=hQ b (hin b hb).1
     exact⟨Nat.lt_of_lt_of_le this.1 hsz,.inr (.inl this.2)⟩
    ·have:=t3 b hb
     exact⟨Nat.lt_of_lt_of_le this.2.1 hsz,.inr (.inr this.1)⟩
theorem hAi {T e T':TypeId}{gg:Bool}{z bs i ver:Nat}{zs:List Value}{es us:List U}{js:List Nat}{fr:List (Nat × SV)}{L L':List LO}{N:Nat}(hx:(St.mk fr L N).ev x=.sl i ver)(hL:L[i]? =some (.own e z ver es))(hs:gW9 L z ((St.mk fr L N).ev y) us js)
  (hjs:(!js.contains i)=true) (hT:tyE P T=some e) (he:tyI P e=some (gg,z,bs)) (hZ:tyZ P e=some zs) (hz:(Nat.blt 0 z && zs.length==z)=true)
  (hbig:es.length+us.length≤big) (hbytes:(es.length+us.length)*bs≤140737488355328) (ht:Nat.blt t N=true) (hL':(kill js 0 L).set i (.own e z (ver+1) (es++us))=L')
  (h:VO P A ops rest ⟨(t,.sl i (ver+1))::fr,L',N⟩ K) :
  VO P A ops (⟨some t,.call { callee:=.builtin .append,args:=#[x,y],argTypes:=#[T,T] },T',pos,af,none⟩::rest) ⟨fr,L,N⟩ K:=by
 subst hL';simp only [Bool.not_eq_true'] at hjs;refine gDd rfl (fun S env a w hH hf hN hd=>?_) h;have h1:=mY.ev hf hH x;have h2:=mY.ev hf hH y;rw [hx] at h1;simp only [Bool.and_eq_true,Nat.blt_eq,beq_iff_eq] at hz;obtain⟨news,src,t1,t2,t3,hus⟩:=hs.r hH h2;simp only [SVr] at h1;obtain⟨hv,o,k1,k2,k3,k5,k4⟩:=h1;rw [hL] at k2;obtain rfl:=Option.some.inj k2;have k6:=k4 rfl;obtain⟨hb0,hzs,⟨xs,m1,m2⟩,hnd⟩:=hH.objs i _ hv hL k1;obtain⟨v',w',hrun,hown,e1,e2,e3,e4,e5,e6⟩:=gXo (P:=P) (ty:=T') hT he hz.1 hZ hz.2 m1 src hbig hbytes;have hself:∀b∈(U.sl z es).fp w [hv],gT4 L env w i b:=fun b hb=>⟨_,_,hL,rfl,k1,hb⟩
 obtain⟨q1,q2,q3,q4,q5⟩:=hDj (L:=L) (env:=env) (Q:=gT4 L env w i) (js:=js) hzs hus m1 m2 hnd t1 t2 (fun b hb=>by
   obtain⟨j,hj,ho⟩:=t3 b hb;refine⟨⟨j,hj,ho⟩,?_,fun hm=>?_⟩
   ·obtain⟨o,hv',n1,n2,n3,n4⟩:=ho;exact(hH.excl j o hv' b n1 n2 n3 n4).2.2
   ·have:=ho.inj hH (hself b hm)
    subst this;rw [gF4 hj] at hjs
    cases hjs) hown e5 e6 e4 (fun b hb=>⟨(hH.excl i _ hv b hL rfl k1 hb).2.2,hself b hb⟩)
 have hi:=(List.getElem?_eq_some_iff.1 hL).1;have hie:=(List.getElem?_eq_some_iff.1 k1).1;have hnb:∀b,blk hv=some b→b∈(U.sl z es).fp w [hv]:=by
  intro b hb;rw [gVf hzs m1 b hb];simp
 obtain⟨hH',C⟩:=hH.eat (w':=w') js i (.own e z (ver+1) (es++us)) v' (L':=(kill js 0 L).set i (.own e z (ver+1) (es++us))) (env':=env.set i v')
  (by simp [gA9,hH.len]) (fun j hj=>by rw [List.getElem?_set_ne (fun e=>hj e.symm),gNq,Nat.zero_add]) (by rw [List.getElem?_set_self (by rw [gA9];exact hi)]) (fun j hj=>by rw [List.getElem?_set_ne (fun e=>hj e.symm)]) (by rw [List.getElem?_set_self hie])
  (fun k hk hno=>e5 k hk (fun e=>hno _ _ hL k1 ⟨rfl,hnb k e⟩))
  (fun o hv' h1 h2=>by
   rw [hL] at h1;cases h1;rw [k1] at h2;cases h2;refine⟨Nat.le_succ _,fun e=>by simp only [LO.ver] at e;omega,fun b hb=>?_⟩
   rcases m1.2 with ⟨h,_⟩ | ⟨g,cap,cur,h,_⟩<;>rw [h] at hb<;>cases hb)
  e4 e1 e2 e3
  (fun b hb=>by
   obtain⟨r1,r2⟩:=q5 b hb;refine⟨r1,r2.imp id (fun r=>?_)⟩;rcases r with ⟨o,hv',n1,n2,n3,n4⟩ | ⟨j,hj,o,hv',n1,n2,n3,n4⟩
   ·exact⟨i,o,hv',.inl rfl,n1,n2,n3,n4⟩
   ·exact⟨j,o,hv',.inr (gF4 hj),n1,n2,n3,n4⟩)
  (fun C=>⟨by rw [List.length_append];exact hbig,q1,⟨_,q2,q3⟩,q4⟩)
 refine⟨.value v',w',?_,.inl ⟨_,rfl,uU hf hN hd ht hH' C ?_⟩⟩
 ·rw [←k6] at hrun;simp [execOp,resolve,invoke,builtin,hrun]
 ·simp only [SVr];refine⟨v',_,by rw [List.getElem?_set_self hie],by rw [List.getElem?_set_self (by rw [gA9];exact hi)],Nat.le_refl _,?_,fun _=>rfl⟩;rcases hown.2 with ⟨h,_⟩ | ⟨g,cap,cur,h,_⟩<;>rw [h]<;>rfl
theorem gSm {T e T':TypeId}{gg:Bool}{z bs i:Nat}{zs:List Value}{us:List U}{js:List Nat}{fr:List (Nat × SV)}{L L':List LO}{N:Nat}(hx:(St.mk fr L N).ev x=.nilsl)(hs:gW9 L z ((St.mk fr L N).ev y) us js)
  (hT:tyE P T=some e) (he:tyI P e=some (gg,z,bs)) (hZ:tyZ P e=some zs) (hz:(Nat.blt 0 z && zs.length==z)=true)
  (hbig:us.length≤big) (hbytes:us.length*bs≤140737488355328) (ht:Nat.blt t N=true) (hi:L.length=i) (hL':kill js 0 L++[.own e z 0 us]=L')
  (h:VO P A ops rest ⟨(t,.sl i 0)::fr,L',N⟩ K) :
  VO P A ops (⟨some t,.call { callee:=.builtin .append,args:=#[x,y],argTypes:=#[T,T] },T',pos,af,none⟩::rest) ⟨fr,L,N⟩ K:=by
 subst hL';subst hi;refine gDd rfl (fun S env a w hH hf hN hd=>?_) h;have h1:=mY.ev hf hH x;have h2:=mY.ev hf hH y;rw [hx] at h1;simp only [Bool.and_eq_true,Nat.blt_eq,beq_iff_eq] at hz;obtain⟨news,src,t1,t2,t3,hus⟩:=hs.r hH h2;simp only [SVr] at h1;obtain⟨v',w',hrun,hown,e1,e2,e3,e4,e5,e6⟩:=gXo (P:=P) (ty:=T') hT he hz.1 hZ hz.2 (World.ownsRow_nil w 0 e z) src (by omega) (by simpa using hbytes)
 obtain⟨q1,q2,q3,q4,q5⟩:=hDj (L:=L) (env:=env) (Q:=fun _=>False) (js:=js) (es:=[]) (by simp) hus (World.ownsRow_nil w 0 e z) (by simp [Trs]) (by rw [(Tr.nil w z).2];exact List.nodup_nil) t1 t2 (fun b hb=>by
   obtain⟨j,hj,ho⟩:=t3 b hb;refine⟨⟨j,hj,ho⟩,?_,fun hm=>by rw [(Tr.nil w z).2] at hm;cases hm⟩;obtain⟨o,hv',n1,n2,n3,n4⟩:=ho
   exact(hH.excl j o hv' b n1 n2 n3 n4).2.2) hown e5 e6 e4 (fun b hb=>by rw [(Tr.nil w z).2] at hb;cases hb)
 simp only [List.nil_append] at q1 q2 q3 q4 q5
 obtain⟨hH',C⟩:=hH.newO (w':=w') js (.own e z 0 us) v' e4 (fun b hb=>e5 b hb (by simp [blk])) e1 e2 e3
  (fun b hb=>by
   obtain⟨r1,r2⟩:=q5 b hb
   exact⟨r1,r2.imp id (fun r=>r.elim (fun h=>h.elim) id)⟩)
  (fun C=>⟨hbig,q1,⟨_,q2,q3⟩,q4⟩)
 refine⟨.value v',w',?_,.inl ⟨_,rfl,uU hf hN hd ht hH' C (gY2 hH.len ?_ rfl)⟩⟩
 ·simp [execOp,resolve,invoke,builtin,h1,hrun]
 ·rcases hown.2 with ⟨h,_⟩ | ⟨g,cap,cur,h,_⟩<;>rw [h]<;>rfl
theorem gY3 {T e:TypeId}{gg:Bool}{z bs i:Nat}{fr:List (Nat × SV)}{L L':List LO}{N:Nat}(hT:tyE P T=some e)(he:tyI P e=some (gg,z,bs))(ht:Nat.blt t N=true)(hL':Sn (.own e z 0 []) L i L')
  (h:VO P A ops rest ⟨(t,.sl i 0)::fr,L',N⟩ K) :
  VO P A ops (⟨some t,.buildSlice T 0 #[],ty,pos,af,none⟩::rest) ⟨fr,L,N⟩ K:=by
 obtain⟨hi,hL2⟩:=hL'.spec;subst hi;subst hL2;refine gDd rfl (fun S env a w hH hf hN hd=>?_) h
 have hown:(w.alloc (.cells #[] e)).ownsRow 0 e z (.slice (some ⟨w.heap.size,0,none⟩) 0 0) ([]:List U).length []:=
  ⟨by simp,.inr ⟨w.heap.size,0,#[],rfl,Nat.zero_le _,heap_alloc_new w _,Nat.le_refl _,by simp [maxLen],by simp,by simp⟩⟩
 have hfp:=gVf (us:=[]) (by simp) hown w.heap.size rfl;simp only [U.fps] at hfp
 obtain⟨hH',C⟩:=hH.newO (w':=w.alloc (.cells #[] e)) [] (.own e z 0 []) (.slice (some ⟨w.heap.size,0,none⟩) 0 0)
  (by simp) (fun b hb=>heap_alloc_old w _ hb) rfl rfl rfl (fun b hb=>by simp only [LO.ft] at hb;rw [hfp] at hb;simp at hb;subst hb;exact⟨by simp,.inl (Nat.le_refl _)⟩)
  (fun C=>⟨by simp [yY],by simp,⟨_,hown,by simp [Trs]⟩,by rw [hfp];simp⟩)
 have hk:kill [] 0 L=L:=by
  have:∀(L:List LO)(n:Nat),kill [] n L=L:=by
   intro L
   induction L with
   | nil=>intro n;rfl
   | cons o L ih=>intro n;simp [kill,ih]
  exact this L 0
 have hsl':=gY2 (S:=S) (w:=w.alloc (.cells #[] e)) (o:=.own e z 0 []) (hv:=.slice (some ⟨w.heap.size,0,none⟩) 0 0) (js:=[]) hH.len rfl rfl;simp only [hk] at hH' C hsl';refine⟨.value (.slice (some ⟨w.heap.size,0,none⟩) 0 0),_,?_,.inl ⟨_,rfl,uU hf hN hd ht hH' C hsl'⟩⟩;simp [execOp,Instr.buildSlice,run_underlying (zN hT),run_sizeOf he,Instr.fill,newRow];congr 2;apply Array.ext';simp
theorem hHz {T e:TypeId}{gg:Bool}{z bs i:Nat}{zs:List Value}{u:U}{js:List Nat}{fr:List (Nat × SV)}{L L':List LO}{N:Nat}(hy:OV L ((St.mk fr L N).ev x) u js)(hjs:decide js.Nodup=true)(hT:tyE P T=some e)(he:tyI P e=some (gg,z,bs))(hZ:tyZ P e=some zs)
  (hz:(Nat.blt 0 z && Nat.blt z 16777216 && zs.length==z)=true) (hu:u.sz=z) (ht:Nat.blt t N=true) (hi:L.length=i) (hL':kill js 0 L++[.own e z 0 [u]]=L')
  (h:VO P A ops rest ⟨(t,.sl i 0)::fr,L',N⟩ K) :
  VO P A ops (⟨some t,.buildSlice T 1 #[(0,x)],ty,pos,af,none⟩::rest) ⟨fr,L,N⟩ K:=by
 subst hL';subst hi;simp only [Bool.and_eq_true,Nat.blt_eq,beq_iff_eq] at hz;refine gDd rfl (fun S env a w hH hf hN hd=>?_) h;obtain⟨cs,c1,hcells,c2,c3,c4,c5⟩:=hy.r hH (of_decide_eq_true hjs) (mY.ev hf hH x);have hcl:=Tr.len _ _ c2;rw [hu] at hcl;obtain⟨zv,hrz,hzc⟩:=gNy hZ w;have hold:∀b,b < w.heap.size→(w.alloc (.cells (a.eval x).cells e)).heap[b]? =w.heap[b]? :=fun b hb=>heap_alloc_old w _ hb;obtain⟨t5,t6⟩:=Tr.loc (w':=w.alloc (.cells (a.eval x).cells e)) _ _ c2 (fun b hb=>hold b (Tr.lt _ _ c2 b hb));have hsz:(a.eval x).cells.size=z:=by rw [←hcl,←hcells];simp
 have hown:(w.alloc (.cells (a.eval x).cells e)).ownsRow 0 e z (.slice (some ⟨w.heap.size,0,none⟩) 1 1) [u].length cs:=
  ⟨by simp [hcl],.inr ⟨w.heap.size,1,_,rfl,Nat.zero_le _,heap_alloc_new w _,Nat.le_refl _,by simp [maxLen],by rw [hsz];simp,by rw [hcells];rw [List.take_of_length_le (by simp [hcl])]⟩⟩
 have hall:∀v∈[u],v.sz=z:=by simpa using hu
 have hfp:=gVf hall hown w.heap.size rfl;have htk:cs.take u.sz=cs:=List.take_of_length_le (by omega);have hdr:cs.drop u.sz=[]:=List.drop_eq_nil_of_le (by omega);simp only [U.fps,htk,t6,List.append_nil] at hfp
 obtain⟨hH',C⟩:=hH.newO (w':=w.alloc (.cells (a.eval x).cells e)) js (.own e z 0 [u]) (.slice (some ⟨w.heap.size,0,none⟩) 1 1)
  (by simp) hold rfl rfl rfl (fun b hb=>by
   simp only [LO.ft] at hb;rw [hfp] at hb;rcases List.mem_cons.1 hb with rfl | hb
   ·exact⟨by simp,.inl (Nat.le_refl _)⟩
   ·have:=Tr.lt _ _ c2 b hb
    exact⟨by simp;omega,.inr (c4 b hb)⟩)
  (fun C=>⟨by simp [yY],hall,⟨_,hown,by simp only [Trs,htk,hdr];exact⟨t5,trivial⟩⟩,by
   rw [hfp]
   exact List.nodup_cons.2 ⟨fun hm=>by have:=Tr.lt _ _ c2 _ hm;omega,c3⟩⟩)
 refine⟨.value (.slice (some ⟨w.heap.size,0,none⟩) 1 1),_,?_,.inl ⟨_,rfl,uU hf hN hd ht hH' C (gY2 hH.len rfl rfl)⟩⟩;have hzs:zv.cells.size=z:=by rw [←hz.2,←hzc];simp
 have hfill:Instr.fill (fun i=>some (i*z,z)) ((Array.range (1*z)).map (zv.cells[· % zv.cells.size]!)) [(0,a.eval x)]=some (a.eval x).cells:=by
  rw [gPs (off:=0) (n:=z) (by simp) hsz (by simp)];simp only [Instr.fill,Option.some.injEq,List.take_zero,List.nil_append,Nat.zero_add];apply Array.ext';simp
 have h1:¬z > 2^24:=by omega
 have h2:¬z=0:=by omega
 simp only [Nat.one_mul] at hfill;simp [execOp,Instr.buildSlice,run_underlying (zN hT),run_sizeOf he,hrz,h1,h2,newRow];simp only [gt_iff_lt] at h1;simp [hfill]
end
theorem gPt:∀(L:List LO)(n:Nat),kill [] n L=L
 | [],_=>rfl
 | o::L,n=>by simp [kill,gPt L]
section
variable {P:Program}{A:Amb}{σ:St}{K:St→Prop}
variable {ops:Array Oper}{rest:List Oper}{t:Nat}{ty:TypeId}{pos:String}{af:Array Edge}{x y:Operand}{sv:SV}
end
section
variable {hv:Nat→Value}{e:Nat→Nat}{w:World}
end
section
variable {P:Program}
end
section
variable {A:Amb}{S:Nat→Prop}{L:List LO}{env:List Value}{w:World}
end
section
variable {P:Program}{A:Amb}{σ:St}{K:St→Prop}
variable {ops:Array Oper}{rest:List Oper}{t:Nat}{ty:TypeId}{pos:String}{af:Array Edge}{x y:Operand}{sv:SV}
end
section
variable {P:Program}{A:Amb}{σ:St}{K:St→Prop}{Q:Exit→St→Prop}
variable {dst:Option Nat}{ty:TypeId}{pos:String}{af:Array Edge}{g:Option (Nat × Bool)}{x y:Operand}{sv:SV}
theorem gXa{T T2:TypeId}{k k1 k2:IntKind}{m:Int}(hx:σ.ev x=.d (.i k m))(h1:P.underlying T=some (.int k1))(h2:P.underlying T2=some (.int k2)):Quiet P A σ ⟨dst,.convert T T2 x,ty,pos,af,g⟩ (.d (.i k2 (k2.wrap m))):=Quiet.pure fun S env a w hH ho=>by
 have h3:=ho x (by simp [Op.operands]);rw [hx,SVr.int] at h3;exact⟨.int k2 (k2.wrap m),by simp [execOp,h3,convert,run_underlying h1,run_underlying h2,Conv.intToInt],SVr.int.2 rfl⟩
theorem gY4{T T2 e:TypeId}{j ver e':Nat}{m:Int}(hx:σ.ev x=.sl j ver)(hL:σ.L[j]? =some (.own e' 1 ver [.i .u8 m]))(h1:P.underlying T=some (.slice e))(h2:P.underlying e=some (.int .u8))(h3:P.underlying T2=some .string) :
  Quiet P A σ ⟨dst,.convert T T2 x,ty,pos,af,g⟩ (.d (.s [UInt8.ofNat m.toNat])):=Quiet.pure fun S env a w hH ho=>by
 have h4:=ho x (by simp [Op.operands]);rw [hx] at h4;simp only [SVr] at h4;obtain⟨hv,o,k1,k2,k3,k5,k4⟩:=h4;rw [hL] at k2;obtain rfl:=Option.some.inj k2;have k6:=k4 rfl;obtain⟨_,_,⟨xs,h5,h6⟩,_⟩:=hH.objs j _ hv hL k1;simp only [Trs,Tr,U.sz] at h6;have hl:=h5.1
 match xs,hl with
 | [c],_=>
   simp only [List.take_succ_cons,List.take_zero,List.cons.injEq,and_true] at h6;obtain⟨rfl,_⟩:=h6;rcases h5.2 with ⟨_,h0⟩ | ⟨b,cap,cur,rfl,r⟩
   ·simp at h0
   ·refine⟨.string ⟨#[UInt8.ofNat m.toNat]⟩,?_,SVr.str.2 ⟨by simp [yY],rfl⟩⟩;have hld:=run_loadCells_list (P:=P) (w:=w) ⟨b,0,none⟩ [.int .u8 m] (fun j u hu=>h5.cells (g:=b) rfl j u hu);simp only [List.length_cons,List.length_nil,Nat.zero_add] at hld;simp [execOp,k6,convert,run_underlying h1,run_underlying h2,run_underlying h3,Conv.bytesToString,hld];rfl
theorem hOx{T T':TypeId}{a b:LB}(hx:σ.ev x=.d (.s a))(hy:σ.ev y=.d (.s b))(hl:a.length+b.length≤big):Quiet P A σ ⟨dst,.binOp .add T x y T',ty,pos,af,g⟩ (.d (.s (a++b))):=Quiet.pure fun S env ac w hH ho=>by
 have h1:=ho x (by simp [Op.operands]);have h2:=ho y (by simp [Op.operands]);rw [hx,SVr.str] at h1;rw [hy,SVr.str] at h2;refine⟨.string ⟨(a++b).toArray⟩,?_,SVr.str.2 ⟨by rw [List.length_append];exact hl,rfl⟩⟩;rw [yY] at hl;have hs:(⟨a.toArray⟩:ByteArray).size=a.length:=rfl;have hs':(⟨b.toArray⟩:ByteArray).size=b.length:=rfl;have happ:(⟨a.toArray⟩:ByteArray)++⟨b.toArray⟩=⟨(a++b).toArray⟩:=by
  apply ByteArray.ext;simp [ByteArray.data_append]
 simp [execOp,h1.2,h2.2,eqGuard,binOp,Op.stringOp,hs,hs',happ];omega
end
inductive KR:List Nat→List LO→List LO→Prop
 | nil {L:List LO}:KR [] L L
 | cons {j:Nat} {js:List Nat} {o:LO} {L L1 L':List LO} (h:L[j]? =some o) (hs:St1 (.dead (o.ver+1)) j L L1) (r:KR js L1 L'):KR (j::js) L L'
theorem KR.spec{js:List Nat}{L L':List LO}(h:KR js L L')(hn:js.Nodup):kill js 0 L=L':=by
 have key:∀{js:List Nat}{L L':List LO},KR js L L'→js.Nodup→L'.length=L.length∧∀i,L'[i]? =L[i]?.map (fun o=>if js.contains i then .dead (o.ver+1)else o):=by
  intro js L L' h
  induction h with
  | nil=>intro _;exact⟨rfl,fun i=>by cases h:(_:List LO)[i]? <;>simp⟩
  | @cons j js o L L1 L' h hs r ih=>
    intro hn;have h1:=hs.spec;subst h1;obtain⟨n1,n2⟩:=List.nodup_cons.1 hn;obtain⟨i1,i2⟩:=ih n2;refine⟨by rw [i1,List.length_set],fun i=>?_⟩;rw [i2 i];by_cases hij:j=i
    ·subst hij;have hlt:=(List.getElem?_eq_some_iff.1 h).1;have hc:js.contains j=false:=by simpa using n1
     rw [List.getElem?_set_self hlt,h];simp only [Option.map_some,hc,List.contains_cons,beq_self_eq_true,Bool.true_or,if_true,Bool.false_eq_true,if_false]
    ·rw [List.getElem?_set_ne hij]
     have:(j::js).contains i=js.contains i:=by
      have:(i==j)=false:=by simpa using fun e=>hij e.symm
      simp only [List.contains_cons,this,Bool.false_or]
     rw [this]
 obtain⟨k1,k2⟩:=key h hn;apply List.ext_getElem?;intro i;rw [gNq,Nat.zero_add,k2 i]
section
variable {P:Program}{A:Amb}{σ:St}{K:St→Prop}
variable {ops:Array Oper}{rest:List Oper}{t:Nat}{ty:TypeId}{pos:String}{af:Array Edge}{x y:Operand}{sv:SV}
theorem hH4 {T:TypeId}{gg:Bool}{i ver z k e bs:Nat}{es:List U}{u:U}{js:List Nat}{fr:List (Nat × SV)}{L L1 L':List LO}{N:Nat}(hx:(St.mk fr L N).ev x=.ep i ver z k 0)(hL:L[i]? =some (.own e z ver es))(hy:OV L ((St.mk fr L N).ev y) u js)
  (hjs:(decide js.Nodup && !js.contains i)=true) (hT:tyI P T=some (gg,z,bs)) (hu:u.sz=z) (hk:k < es.length) (hk1:KR js L L1) (hL':St1 (.own e z ver (es.set k u)) i L1 L')
  (h:VO P A ops rest ⟨fr,L',N⟩ K):VO P A ops (⟨none,.store T x y,ty,pos,af,none⟩::rest) ⟨fr,L,N⟩ K:=by
 have hjs':=hjs;simp only [Bool.and_eq_true,decide_eq_true_eq] at hjs';exact hDb hx hL hy hjs hT hu hk (by rw [hk1.spec hjs'.1];exact hL'.spec) h
theorem hMf {T e:TypeId}{gg:Bool}{z bs:Nat}{zs:List Value}{zu:U}{k k':IntKind}{l c:Int}{fr:List (Nat × SV)}{L L':List LO}{N i:Nat}(hx:(St.mk fr L N).ev x=.d (.i k l))(hy:(St.mk fr L N).ev y=.d (.i k' c))
  (hT:tyE P T=some e) (he:tyI P e=some (gg,z,bs)) (hZ:tyZ P e=some zs) (hz:(Nat.blt 0 z && zs.length==z)=true) (hzu:gW8 zu zs)
  (h0:0≤l) (hlc:l≤c) (hc:c≤big) (hbytes:(bs:Int)*c≤281474976710656) (ht:Nat.blt t N=true) (hL':Sn (.own e z 0 (List.replicate l.toNat zu)) L i L')
  (h:VO P A ops rest ⟨(t,.sl i 0)::fr,L',N⟩ K):VO P A ops (⟨some t,.makeSlice T x y,ty,pos,af,none⟩::rest) ⟨fr,L,N⟩ K:=hHy hx hy hT he hZ hz hzu h0 hlc hc hbytes ht hL'.spec.1 hL' h
theorem gVg {T e T':TypeId}{gg:Bool}{z bs i ver:Nat}{zs:List Value}{es us:List U}{js:List Nat}{fr:List (Nat × SV)}{L L1 L':List LO}{N:Nat}(hx:(St.mk fr L N).ev x=.sl i ver)(hL:L[i]? =some (.own e z ver es))(hs:gW9 L z ((St.mk fr L N).ev y) us js)
  (hjs:(decide js.Nodup && !js.contains i)=true) (hT:tyE P T=some e) (he:tyI P e=some (gg,z,bs)) (hZ:tyZ P e=some zs) (hz:(Nat.blt 0 z && zs.length==z)=true)
  (hbig:es.length+us.length≤big) (hbytes:(es.length+us.length)*bs≤140737488355328) (ht:Nat.blt t N=true) (hk1:KR js L L1) (hL':St1 (.own e z (ver+1) (es++us)) i L1 L')
  (h:VO P A ops rest ⟨(t,.sl i (ver+1))::fr,L',N⟩ K):VO P A ops (⟨some t,.call { callee:=.builtin .append,args:=#[x,y],argTypes:=#[T,T] },T',pos,af,none⟩::rest) ⟨fr,L,N⟩ K:=by
 simp only [Bool.and_eq_true,decide_eq_true_eq] at hjs;exact hAi hx hL hs hjs.2 hT he hZ hz hbig hbytes ht (by rw [hk1.spec hjs.1];exact hL'.spec) h
theorem gNr {T e T':TypeId}{gg:Bool}{z bs i:Nat}{zs:List Value}{us:List U}{js:List Nat}{fr:List (Nat × SV)}{L L1 L':List LO}{N:Nat}(hx:(St.mk fr L N).ev x=.nilsl)(hs:gW9 L z ((St.mk fr L N).ev y) us js)(hjs:decide js.Nodup=true)
  (hT:tyE P T=some e) (he:tyI P e=some (gg,z,bs)) (hZ:tyZ P e=some zs) (hz:(Nat.blt 0 z && zs.length==z)=true)
  (hbig:us.length≤big) (hbytes:us.length*bs≤140737488355328) (ht:Nat.blt t N=true) (hk1:KR js L L1) (hL':Sn (.own e z 0 us) L1 i L')
  (h:VO P A ops rest ⟨(t,.sl i 0)::fr,L',N⟩ K):VO P A ops (⟨some t,.call { callee:=.builtin .append,args:=#[x,y],argTypes:=#[T,T] },T',pos,af,none⟩::rest) ⟨fr,L,N⟩ K:=by
 have hk:=hk1.spec (of_decide_eq_true hjs);obtain⟨h1,h2⟩:=hL'.spec;exact gSm hx hs hT he hZ hz hbig hbytes ht (by rw [←h1,←hk,gA9]) (by rw [hk];exact h2) h
theorem gT6 {T e:TypeId}{gg:Bool}{z bs i:Nat}{zs:List Value}{u:U}{js:List Nat}{fr:List (Nat × SV)}{L L1 L':List LO}{N:Nat}(hy:OV L ((St.mk fr L N).ev x) u js)(hjs:decide js.Nodup=true)(hT:tyE P T=some e)(he:tyI P e=some (gg,z,bs))(hZ:tyZ P e=some zs)
  (hz:(Nat.blt 0 z && Nat.blt z 16777216 && zs.length==z)=true) (hu:u.sz=z) (ht:Nat.blt t N=true) (hk1:KR js L L1) (hL':Sn (.own e z 0 [u]) L1 i L')
  (h:VO P A ops rest ⟨(t,.sl i 0)::fr,L',N⟩ K):VO P A ops (⟨some t,.buildSlice T 1 #[(0,x)],ty,pos,af,none⟩::rest) ⟨fr,L,N⟩ K:=by
 have hk:=hk1.spec (of_decide_eq_true hjs);obtain⟨h1,h2⟩:=hL'.spec;exact hHz hy hjs hT he hZ hz hu ht (by rw [←h1,←hk,gA9]) (by rw [hk];exact h2) h
end
theorem tI:∀w,Tr w (.i .i64 0) [.int .i64 0]∧(U.i .i64 0).fp w [.int .i64 0]=[]:=fun w=>⟨by simp [Tr],rfl⟩
theorem tB:∀w,Tr w (.b false) [.bool false]∧(U.b false).fp w [.bool false]=[]:=fun w=>⟨by simp [Tr],rfl⟩
theorem tS:∀w,Tr w (.s []) [.string ⟨#[]⟩]∧(U.s []).fp w [.string ⟨#[]⟩]=[]:=fun w=>⟨by simp [Tr,big],rfl⟩
theorem tL(z:Nat):∀w,Tr w (.sl z []) [.slice none 0 0]∧(U.sl z []).fp w [.slice none 0 0]=[]:=fun w=>Tr.nil w z
inductive ZL:List U→List Value→Prop
 | nil:ZL [] []
 | i {us:List U} {vs:List Value} (h:ZL us vs):ZL (.i .i64 0::us) (.int .i64 0::vs)
 | b {us:List U} {vs:List Value} (h:ZL us vs):ZL (.b false::us) (.bool false::vs)
 | s {us:List U} {vs:List Value} (h:ZL us vs):ZL (.s []::us) (.string ⟨#[]⟩::vs)
 | l {z:Nat} {us:List U} {vs:List Value} (h:ZL us vs):ZL (.sl z []::us) (.slice none 0 0::vs)
theorem ZL.r{us:List U}{vs:List Value}(h:ZL us vs)(w:World):yZ (fun u c=>Tr w u [c]) us vs∧fpl w us vs=[]:=by
 induction h with
 | nil=>exact⟨trivial,rfl⟩
 | i h ih=>exact⟨⟨(tI w).1,ih.1⟩,by simp only [fpl,(tI w).2,ih.2,List.nil_append]⟩
 | b h ih=>exact⟨⟨(tB w).1,ih.1⟩,by simp only [fpl,(tB w).2,ih.2,List.nil_append]⟩
 | s h ih=>exact⟨⟨(tS w).1,ih.1⟩,by simp only [fpl,(tS w).2,ih.2,List.nil_append]⟩
 | l h ih=>exact⟨⟨(tL _ w).1,ih.1⟩,by simp only [fpl,(tL _ w).2,ih.2,List.nil_append]⟩
theorem hOy{u:U}{fl:List U}{vs:List Value}(hl:Lv u fl)(h:ZL fl vs):gW8 u vs:=fun w=>by
 have:=hl.eq
 subst this;obtain⟨h1,h2⟩:=h.r w;exact⟨Tr.of_leafs _ _ h1,by rw [gT3 _ _ (by rw [←h1.length,U.flat_len]),h2]⟩
section
variable {P:Program}{A:Amb}{σ:St}{K:St→Prop}
variable {ops:Array Oper}{rest:List Oper}{t:Nat}{ty:TypeId}{pos:String}{af:Array Edge}{x y:Operand}{sv:SV}
end
end Go.Eng
