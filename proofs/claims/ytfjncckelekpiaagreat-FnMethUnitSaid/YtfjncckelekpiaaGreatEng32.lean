import Derived.Test.YtfjncckelekpiaaGreatEng21
namespace Go.Eng
open Go Go.RowKit
def hMf(zu:U)(zs:List Value):Prop:=∀w,Tr w zu zs∧zu.fp w zs=[]
theorem hWk{zu:U}{zs:List Value}{z:Nat}(hz:hMf zu zs)(hs:zu.sz=z){w:World}:∀(n:Nat)(cs:List Value),cs.length=n*z→(∀j,j < n*z→cs[j]? =zs[j % z]?)→Trs w (List.replicate n zu) cs∧U.fps w (List.replicate n zu) cs=[]:=by
 have hzl:zs.length=z:=by rw [Tr.len _ _ (hz w).1,hs]
 intro n
 induction n with
 | zero=>intro cs hl _;simp at hl;subst hl;simp [Trs,U.fps]
 | succ n ih=>
   intro cs hl hc;have hnz:(n+1)*z=z+n*z:=by rw [Nat.add_mul];omega
   have htk:cs.take z=zs:=by
    apply List.ext_getElem?;intro j;rw [List.getElem?_take];split
    ·rw [hc j (by omega),Nat.mod_eq_of_lt (by assumption)]
    ·rw [List.getElem?_eq_none (by omega)]
   obtain⟨k1,k2⟩:=ih (cs.drop z) (by rw [List.length_drop,hl,hnz];omega) (fun j hj=>by rw [List.getElem?_drop,hc (z+j) (by omega),Nat.add_mod_left]);simp only [List.replicate_succ,Trs,U.fps];rw [hs,htk,(hz w).2,k2];exact⟨⟨(hz w).1,k1⟩,rfl⟩
section
variable {P:Program}{A:Amb}{σ:St}{K:St→Prop}
variable {ops:Array Oper}{rest:List Oper}{t:Nat}{ty:TypeId}{pos:String}{af:Array Edge}{x y:Operand}{sv:SV}
theorem pU.newO {S:Nat→Prop}{L:List LO}{env:List Value}{w w':World}(h:pU A S L env w)(js:List Nat)(o:LO)(hv:Value)
  (hsz:w.heap.size≤w'.heap.size) (hold:∀b,b < w.heap.size→w'.heap[b]? =w.heap[b]?) (hos:w'.os=w.os) (htape:w'.tape=w.tape) (hout:w'.output=w.output)
  (hft:∀k,o.ft w' hv k→k < w'.heap.size∧(w.heap.size≤k∨∃j∈js,gZs L env w j k))
  (ho:Carry S L env w S (kill js 0 L++[o]) (env++[hv]) w'→gLm S (kill js 0 L++[o]) (env++[hv]) w' o hv) :
  pU A S (kill js 0 L++[o]) (env++[hv]) w'∧Carry S L env w S (kill js 0 L++[o]) (env++[hv]) w':=by
 have hlen:=h.len
 refine h.eat js L.length o hv (by simp [gDe,hlen]) (fun j hj=>?_) (by rw [List.getElem?_append_right (by rw [gDe];exact Nat.le_refl _),gDe];simp) (fun j hj=>?_) (by rw [←hlen];simp) (fun k hk _=>hold k hk)
  (fun o' hv' h1 _=>by rw [List.getElem?_eq_none (Nat.le_refl _)] at h1;cases h1) hsz hos htape hout (fun k hk=>?_) ho
 ·by_cases hlt:j < L.length
  ·rw [List.getElem?_append_left (by rw [gDe];exact hlt),gRw,Nat.zero_add]
  ·rw [List.getElem?_eq_none (by simp [gDe];omega),List.getElem?_eq_none (by omega)];rfl
 ·by_cases hlt:j < env.length
  ·rw [List.getElem?_append_left hlt]
  ·rw [List.getElem?_eq_none (by simp;omega),List.getElem?_eq_none (by omega)]
 ·obtain⟨h1,h2⟩:=hft k hk;refine⟨h1,h2.imp id ?_⟩;rintro⟨j,hj,o',hv',k1,k2,k3,k4⟩;exact⟨j,o',hv',.inr (gJr hj),k1,k2,k3,k4⟩
theorem hMg{S:Nat→Prop}{L:List LO}{env:List Value}{w:World}{o:LO}{hv:Value}{js:List Nat}(hlen:env.length=L.length)(h1:hv.oneCell'=true)(hv0:o.ver=0):SVr S (kill js 0 L++[o]) (env++[hv]) w (.sl L.length 0) hv:=by
 simp only [SVr];exact⟨hv,o,by rw [←hlen];simp,by rw [List.getElem?_append_right (by rw [gDe];exact Nat.le_refl _),gDe];simp,by rw [hv0];exact Nat.le_refl _,h1,fun _=>rfl⟩
theorem hP9 {T e:TypeId}{gg:Bool}{z bs:Nat}{zs:List Value}{zu:U}{k k':IntKind}{l c:Int}{fr:List (Nat × SV)}{L L':List LO}{N i:Nat}(hx:(St.mk fr L N).ev x=.d (.i k l))(hy:(St.mk fr L N).ev y=.d (.i k' c))
  (hT:tyE P T=some e) (he:tyI P e=some (gg,z,bs)) (hZ:tyZ P e=some zs) (hz:(Nat.blt 0 z && zs.length==z)=true) (hzu:hMf zu zs)
  (h0:0≤l) (hlc:l≤c) (hc:c≤big) (hbytes:(bs:Int)*c≤281474976710656) (ht:Nat.blt t N=true) (hi:L.length=i) (hL':Sn (.own e z 0 (List.replicate l.toNat zu)) L i L')
  (h:VO P A ops rest ⟨(t,.sl i 0)::fr,L',N⟩ K) :
  VO P A ops (⟨some t,.makeSlice T x y,ty,pos,af,none⟩::rest) ⟨fr,L,N⟩ K:=by
 have hL2:=hL'.spec.2;subst hi;subst hL2;refine gH9 rfl (fun S env a w hH hf hN hd=>?_) h;have h1:=mP.ev hf hH x;have h2:=mP.ev hf hH y;rw [hx,SVr.int] at h1;rw [hy,SVr.int] at h2;simp only [Bool.and_eq_true,Nat.blt_eq,beq_iff_eq] at hz;obtain⟨i,hi,his,hib⟩:=gZ2 he;have hsl:=gA8 hT;obtain⟨zv,hzv,hzc⟩:∃zv,i.zero=some zv∧zv.cells.toList=zs:=by
  unfold tyZ at hZ;simp only [hi] at hZ;cases hz:i.zero with
  | none=>simp [hz] at hZ
  | some zv=>exact⟨zv,rfl,by simpa [hz] using hZ⟩
 have hzsz:zv.cells.size=z:=by rw [←hz.2,←hzc];simp
 rw [gAy] at hc;have hrun:=run_make (P:=P) w T e i zv hsl hi hzv k k' l c h0 hlc (by rw [hib];exact hbytes) (by omega);have hsu:zu.sz=z:=by rw [←Tr.len _ _ (hzu w).1,hz.2]
 have hcells:∀(j:Nat),j < (madeCells zv.cells (c.toNat*i.size)).toList.length→(madeCells zv.cells (c.toNat*i.size)).toList[j]? =zs[j % z]? :=by
  intro j hj;simp only [Array.length_toList,size_madeCells] at hj;have hjm:j % z < zv.cells.size:=by rw [hzsz];exact Nat.mod_lt _ hz.1
  rw [Array.getElem?_toList];simp only [madeCells,Array.getElem?_map,←hzc,Array.getElem?_toList];rw [Array.getElem?_eq_getElem (by simpa using hj)];simp only [Array.getElem_range,Option.map_some,hzsz];rw [Array.getElem?_eq_getElem hjm,getElem!_pos zv.cells (j % z) hjm]
 have hln:l.toNat≤c.toNat:=by omega
 have hlz:l.toNat*z≤c.toNat*z:=Nat.mul_le_mul_right _ hln;have htr:=fun w'=>hWk (w:=w') hzu hsu l.toNat ((madeCells zv.cells (c.toNat*i.size)).toList.take (l.toNat*z)) (by simp [size_madeCells,his,Nat.min_eq_left hln]) (fun j hj=>by rw [List.getElem?_take,if_pos hj];exact hcells j (by simp only [Array.length_toList,size_madeCells,his];omega));have hall:∀u∈List.replicate l.toNat zu,u.sz=z:=fun u hu=>by rw [(List.mem_replicate.1 hu).2];exact hsu
 have hown:(w.alloc (.cells (madeCells zv.cells (c.toNat*i.size)) e)).ownsRow 0 e z (.slice (some ⟨w.heap.size,0,none⟩) l.toNat c.toNat) (List.replicate l.toNat zu).length ((madeCells zv.cells (c.toNat*i.size)).toList.take (l.toNat*z)):=
  ⟨by simp [size_madeCells,his,Nat.min_eq_left hln],.inr ⟨w.heap.size,c.toNat,_,by rw [List.length_replicate],Nat.zero_le _,heap_alloc_new w _,by rw [List.length_replicate];exact hln,by simp only [maxLen];omega,by rw [size_madeCells,his],by rw [List.length_replicate]⟩⟩
 have hfp:=hHx hall hown w.heap.size rfl;rw [(htr _).2] at hfp
 obtain⟨hH',C⟩:=hH.newO (w':=w.alloc (.cells (madeCells zv.cells (c.toNat*i.size)) e)) [] (.own e z 0 (List.replicate l.toNat zu)) (.slice (some ⟨w.heap.size,0,none⟩) l.toNat c.toNat)
  (by simp) (fun b hb=>heap_alloc_old w _ hb) rfl rfl rfl (fun b hb=>by simp only [LO.ft] at hb;rw [hfp] at hb;simp at hb;subst hb;exact⟨by simp,.inl (Nat.le_refl _)⟩)
  (fun C=>⟨by rw [List.length_replicate,gAy];omega,hall,⟨_,hown,(htr _).1⟩,by rw [hfp];simp⟩)
 have hk:kill [] 0 L=L:=by
  have:∀(L:List LO)(n:Nat),kill [] n L=L:=by
   intro L
   induction L with
   | nil=>intro n;rfl
   | cons o L ih=>intro n;simp [kill,ih]
  exact this L 0
 have hsl':=hMg (S:=S) (w:=w.alloc (.cells (madeCells zv.cells (c.toNat*i.size)) e)) (o:=.own e z 0 (List.replicate l.toNat zu)) (hv:=.slice (some ⟨w.heap.size,0,none⟩) l.toNat c.toNat) (js:=[]) hH.len rfl rfl;simp only [hk] at hH' C hsl';refine⟨.value (.slice (some ⟨w.heap.size,0,none⟩) l.toNat c.toNat),_,?_,.inl ⟨_,rfl,vZ hf hN hd ht hH' C hsl'⟩⟩;simp only [execOp,h1,h2,Sem.run_bind,hrun,Result.andThen_ok,Sem.run_pure]
inductive hOp (L:List LO)(z:Nat):SV→List U→List Nat→Prop
 | own {j ver e:Nat} {us:List U} (h:L[j]? =some (.own e z ver us)):hOp L z (.sl j ver) us [j]
 | data {us:List U} (hs:∀u∈us,u.sz=z) (hn:U.noSls us=true):hOp L z (.d (.sl z us)) us []
 | nil:hOp L z .nilsl [] []
theorem hOp.r{S:Nat→Prop}{L:List LO}{env:List Value}{w:World}(hH:pU A S L env w){z:Nat}{us:List U}{js:List Nat}{v:Value}(h:hOp L z sv us js)(hv:SVr S L env w sv v) :
  ∃news,Src (fun _=>True) w z us v news∧Trs w us news∧(U.fps w us news).Nodup∧(∀b∈U.fps w us news,∃j∈js,gZs L env w j b)∧∀u∈us,u.sz=z:=by
 cases h with
 | @own j ver e us h=>
   simp only [SVr] at hv;obtain⟨hv',o,k1,k2,k3,k5,k4⟩:=hv;rw [h] at k2;obtain rfl:=Option.some.inj k2;have k6:=k4 rfl;subst k6;have hob:=hH.objs j _ _ h k1;obtain⟨hb,hz,⟨xs,h1,h2⟩,hnd⟩:=hob;have hr:=Trs.rd (S:=fun _=>True) us xs h2 (fun _ _=>trivial);refine⟨xs,⟨?_,hr,h1.1,Rds.oneCell us xs hr⟩,h2,?_,?_,hz⟩
   ·rcases h1.2 with ⟨rfl,h0⟩ | ⟨g,cap,cur,rfl,_,hg,hc1,hc2,hc3,htake⟩
    ·exact⟨none,0,by rw [h0],.inl (List.eq_nil_of_length_eq_zero h0)⟩
    ·exact⟨some ⟨g,0,none⟩,cap,rfl,.inr ⟨_,rfl,fun j u hu=>h1.cells (g:=g) rfl j u hu⟩⟩
   ·rcases gJ6 hz h1 with ⟨_,rfl,_⟩ | ⟨g,cap,rfl,hf⟩
    ·simp [U.fps]
    ·rw [hf] at hnd;exact(List.nodup_cons.1 hnd).2
   ·intro b hb';refine⟨j,by simp,_,_,h,rfl,k1,?_⟩;simp only [LO.ft];rcases gJ6 hz h1 with ⟨_,rfl,_⟩ | ⟨g,cap,rfl,hf⟩
    ·simp [U.fps] at hb'
    ·rw [hf];simp [hb']
 | data hs hn=>
   obtain⟨news,src⟩:=Src.of_data hv hs;obtain⟨k1,k2⟩:=Rds.tr (w':=w) _ _ hn src.rds;exact⟨news,⟨src.form,Rds.mono (fun _ _ _=>trivial) (fun _ _ _=>rfl) _ _ src.rds,src.len,src.one⟩,k1,by rw [k2];exact List.nodup_nil,by rw [k2];simp,hs⟩
 | nil=>
   simp only [SVr] at hv;subst hv;exact⟨[],⟨⟨none,0,rfl,.inl rfl⟩,by simp [Rds],by simp,by simp⟩,by simp [Trs],by simp [U.fps],by simp [U.fps],by simp⟩
theorem hT5 {L:List LO}{env:List Value}{w w':World}{e z:Nat}{es us:List U}{hv v':Value}{xs news:List Value}{js:List Nat}{Q:Nat→Prop}(hz:∀u∈es,u.sz=z)(hus:∀u∈us,u.sz=z)
  (m1:w.ownsRow 0 e z hv es.length xs) (m2:Trs w es xs) (hnd:((U.sl z es).fp w [hv]).Nodup) (t1:Trs w us news) (t2:(U.fps w us news).Nodup) (t3:∀b∈U.fps w us news,(∃j∈js,gZs L env w j b)∧b < w.heap.size∧b∉(U.sl z es).fp w [hv])
  (hown:w'.ownsRow 0 e z v' (es.length+us.length) (xs++news)) (e5:∀k,k < w.heap.size→blk hv≠some k→w'.heap[k]? =w.heap[k]?)
  (e6:∀k,blk v'=some k→k < w'.heap.size∧(blk hv=some k∨w.heap.size≤k)) (hsz:w.heap.size≤w'.heap.size) (hQ:∀b,b∈(U.sl z es).fp w [hv]→b < w.heap.size∧Q b) :
  (∀u∈es++us,u.sz=z)∧w'.ownsRow 0 e z v' (es++us).length (xs++news)∧Trs w' (es++us) (xs++news)∧((U.sl z (es++us)).fp w' [v']).Nodup∧
  ∀b∈(U.sl z (es++us)).fp w' [v'],b < w'.heap.size∧(w.heap.size≤b∨Q b∨∃j∈js,gZs L env w j b):=by
 have hall:∀u∈es++us,u.sz=z:=fun u hu=>(List.mem_append.1 hu).elim (hz u) (hus u);have hown':w'.ownsRow 0 e z v' (es++us).length (xs++news):=by rw [List.length_append];exact hown
 have hin:∀b∈U.fps w es xs,b∈(U.sl z es).fp w [hv]∧blk hv≠some b:=by
  intro b hb;rcases gJ6 hz m1 with ⟨_,rfl,_⟩ | ⟨g,cap,rfl,hf⟩
  ·simp [U.fps] at hb
  ·rw [hf] at hnd ⊢;exact⟨by simp [hb],fun e=>by simp [blk] at e;subst e;exact(List.nodup_cons.1 hnd).1 hb⟩
 have hnb:∀b,blk hv=some b→b∈(U.sl z es).fp w [hv]:=by
  intro b hb;rcases gJ6 hz m1 with ⟨rfl,rfl,_⟩ | ⟨g,cap,rfl,hf⟩
  ·simp [blk] at hb
  ·simp [blk] at hb;subst hb;rw [hf];simp
 obtain⟨a1,a2⟩:=Trs.loc (w':=w') _ _ m2 (fun b hb=>e5 b (hQ b (hin b hb).1).1 (hin b hb).2);obtain⟨b1,b2⟩:=Trs.loc (w':=w') _ _ t1 (fun b hb=>e5 b (t3 b hb).2.1 (fun e=>(t3 b hb).2.2 (hnb b e)));obtain⟨c1,c2⟩:=Trs.append _ _ _ _ a1 b1;rw [a2,b2] at c2;have hes:(U.fps w es xs).Nodup:=by
  rcases gJ6 hz m1 with ⟨_,rfl,_⟩ | ⟨g,cap,rfl,hf⟩
  ·simp [U.fps]
  ·rw [hf] at hnd;exact(List.nodup_cons.1 hnd).2
 have hjoin:(U.fps w es xs++U.fps w us news).Nodup:=List.nodup_append.2 ⟨hes,t2,fun x hx y hy hxy=>(t3 y hy).2.2 (hxy▸(hin x hx).1)⟩;rcases gJ6 hall hown' with ⟨rfl,h0,hf⟩ | ⟨g,cap,rfl,hf⟩
 ·exact⟨hall,hown',c1,by rw [hf];exact List.nodup_nil,by rw [hf];simp⟩
 ·have h6:=e6 g rfl;rw [c2] at hf;refine⟨hall,hown',c1,?_,?_⟩
  ·rw [hf];refine List.nodup_cons.2 ⟨?_,hjoin⟩;rw [List.mem_append,not_or];refine⟨fun hm=>?_,fun hm=>?_⟩
   ·rcases h6.2 with h | h
    ·exact(hin g hm).2 h
    ·have:=(hQ g (hin g hm).1).1;omega
   ·rcases h6.2 with h | h
    ·exact(t3 g hm).2.2 (hnb g h)
    ·have:=(t3 g hm).2.1;omega
  ·intro b hb;rw [hf] at hb;rcases List.mem_cons.1 hb with rfl | hb
   ·exact⟨h6.1,h6.2.elim (fun h=>.inr (.inl (hQ b (hnb b h)).2)) .inl⟩
   ·rcases List.mem_append.1 hb with hb | hb
    ·have:=hQ b (hin b hb).1
     exact⟨Nat.lt_of_lt_of_le this.1 hsz,.inr (.inl this.2)⟩
    ·have:=t3 b hb
     exact⟨Nat.lt_of_lt_of_le this.2.1 hsz,.inr (.inr this.1)⟩
theorem hHz {T e T':TypeId}{gg:Bool}{z bs i ver:Nat}{zs:List Value}{es us:List U}{js:List Nat}{fr:List (Nat × SV)}{L L':List LO}{N:Nat}(hx:(St.mk fr L N).ev x=.sl i ver)(hL:L[i]? =some (.own e z ver es))(hs:hOp L z ((St.mk fr L N).ev y) us js)
  (hjs:(!js.contains i)=true) (hT:tyE P T=some e) (he:tyI P e=some (gg,z,bs)) (hZ:tyZ P e=some zs) (hz:(Nat.blt 0 z && zs.length==z)=true)
  (hbig:es.length+us.length≤big) (hbytes:(es.length+us.length)*bs≤140737488355328) (ht:Nat.blt t N=true) (hL':(kill js 0 L).set i (.own e z (ver+1) (es++us))=L')
  (h:VO P A ops rest ⟨(t,.sl i (ver+1))::fr,L',N⟩ K) :
  VO P A ops (⟨some t,.call { callee:=.builtin .append,args:=#[x,y],argTypes:=#[T,T] },T',pos,af,none⟩::rest) ⟨fr,L,N⟩ K:=by
 subst hL';simp only [Bool.not_eq_true'] at hjs;refine gH9 rfl (fun S env a w hH hf hN hd=>?_) h;have h1:=mP.ev hf hH x;have h2:=mP.ev hf hH y;rw [hx] at h1;simp only [Bool.and_eq_true,Nat.blt_eq,beq_iff_eq] at hz;obtain⟨news,src,t1,t2,t3,hus⟩:=hs.r hH h2;simp only [SVr] at h1;obtain⟨hv,o,k1,k2,k3,k5,k4⟩:=h1;rw [hL] at k2;obtain rfl:=Option.some.inj k2;have k6:=k4 rfl;obtain⟨hb0,hzs,⟨xs,m1,m2⟩,hnd⟩:=hH.objs i _ hv hL k1;obtain⟨v',w',hrun,hown,e1,e2,e3,e4,e5,e6⟩:=hNe (P:=P) (ty:=T') hT he hz.1 hZ hz.2 m1 src hbig hbytes;have hself:∀b∈(U.sl z es).fp w [hv],gZs L env w i b:=fun b hb=>⟨_,_,hL,rfl,k1,hb⟩
 obtain⟨q1,q2,q3,q4,q5⟩:=hT5 (L:=L) (env:=env) (Q:=gZs L env w i) (js:=js) hzs hus m1 m2 hnd t1 t2 (fun b hb=>by
   obtain⟨j,hj,ho⟩:=t3 b hb;refine⟨⟨j,hj,ho⟩,?_,fun hm=>?_⟩
   ·obtain⟨o,hv',n1,n2,n3,n4⟩:=ho;exact(hH.excl j o hv' b n1 n2 n3 n4).2.2
   ·have:=ho.inj hH (hself b hm)
    subst this;rw [gJr hj] at hjs
    cases hjs) hown e5 e6 e4 (fun b hb=>⟨(hH.excl i _ hv b hL rfl k1 hb).2.2,hself b hb⟩)
 have hi:=(List.getElem?_eq_some_iff.1 hL).1;have hie:=(List.getElem?_eq_some_iff.1 k1).1;have hnb:∀b,blk hv=some b→b∈(U.sl z es).fp w [hv]:=by
  intro b hb;rw [hHx hzs m1 b hb];simp
 obtain⟨hH',C⟩:=hH.eat (w':=w') js i (.own e z (ver+1) (es++us)) v' (L':=(kill js 0 L).set i (.own e z (ver+1) (es++us))) (env':=env.set i v')
  (by simp [gDe,hH.len]) (fun j hj=>by rw [List.getElem?_set_ne (fun e=>hj e.symm),gRw,Nat.zero_add]) (by rw [List.getElem?_set_self (by rw [gDe];exact hi)]) (fun j hj=>by rw [List.getElem?_set_ne (fun e=>hj e.symm)]) (by rw [List.getElem?_set_self hie])
  (fun k hk hno=>e5 k hk (fun e=>hno _ _ hL k1 ⟨rfl,hnb k e⟩))
  (fun o hv' h1 h2=>by
   rw [hL] at h1;cases h1;rw [k1] at h2;cases h2;refine⟨Nat.le_succ _,fun e=>by simp only [LO.ver] at e;omega,fun b hb=>?_⟩
   rcases m1.2 with ⟨h,_⟩ | ⟨g,cap,cur,h,_⟩<;>rw [h] at hb<;>cases hb)
  e4 e1 e2 e3
  (fun b hb=>by
   obtain⟨r1,r2⟩:=q5 b hb;refine⟨r1,r2.imp id (fun r=>?_)⟩;rcases r with ⟨o,hv',n1,n2,n3,n4⟩ | ⟨j,hj,o,hv',n1,n2,n3,n4⟩
   ·exact⟨i,o,hv',.inl rfl,n1,n2,n3,n4⟩
   ·exact⟨j,o,hv',.inr (gJr hj),n1,n2,n3,n4⟩)
  (fun C=>⟨by rw [List.length_append];exact hbig,q1,⟨_,q2,q3⟩,q4⟩)
 refine⟨.value v',w',?_,.inl ⟨_,rfl,vZ hf hN hd ht hH' C ?_⟩⟩
 ·rw [←k6] at hrun;simp [execOp,resolve,invoke,builtin,hrun]
 ·simp only [SVr];refine⟨v',_,by rw [List.getElem?_set_self hie],by rw [List.getElem?_set_self (by rw [gDe];exact hi)],Nat.le_refl _,?_,fun _=>rfl⟩;rcases hown.2 with ⟨h,_⟩ | ⟨g,cap,cur,h,_⟩<;>rw [h]<;>rfl
theorem hF8 {T e:TypeId}{gg:Bool}{z bs i:Nat}{fr:List (Nat × SV)}{L L':List LO}{N:Nat}(hT:tyE P T=some e)(he:tyI P e=some (gg,z,bs))(ht:Nat.blt t N=true)(hL':Sn (.own e z 0 []) L i L')
  (h:VO P A ops rest ⟨(t,.sl i 0)::fr,L',N⟩ K) :
  VO P A ops (⟨some t,.buildSlice T 0 #[],ty,pos,af,none⟩::rest) ⟨fr,L,N⟩ K:=by
 obtain⟨hi,hL2⟩:=hL'.spec;subst hi;subst hL2;refine gH9 rfl (fun S env a w hH hf hN hd=>?_) h
 have hown:(w.alloc (.cells #[] e)).ownsRow 0 e z (.slice (some ⟨w.heap.size,0,none⟩) 0 0) ([]:List U).length []:=
  ⟨by simp,.inr ⟨w.heap.size,0,#[],rfl,Nat.zero_le _,heap_alloc_new w _,Nat.le_refl _,by simp [maxLen],by simp,by simp⟩⟩
 have hfp:=hHx (us:=[]) (by simp) hown w.heap.size rfl;simp only [U.fps] at hfp
 obtain⟨hH',C⟩:=hH.newO (w':=w.alloc (.cells #[] e)) [] (.own e z 0 []) (.slice (some ⟨w.heap.size,0,none⟩) 0 0)
  (by simp) (fun b hb=>heap_alloc_old w _ hb) rfl rfl rfl (fun b hb=>by simp only [LO.ft] at hb;rw [hfp] at hb;simp at hb;subst hb;exact⟨by simp,.inl (Nat.le_refl _)⟩)
  (fun C=>⟨by simp [gAy],by simp,⟨_,hown,by simp [Trs]⟩,by rw [hfp];simp⟩)
 have hk:kill [] 0 L=L:=by
  have:∀(L:List LO)(n:Nat),kill [] n L=L:=by
   intro L
   induction L with
   | nil=>intro n;rfl
   | cons o L ih=>intro n;simp [kill,ih]
  exact this L 0
 have hsl':=hMg (S:=S) (w:=w.alloc (.cells #[] e)) (o:=.own e z 0 []) (hv:=.slice (some ⟨w.heap.size,0,none⟩) 0 0) (js:=[]) hH.len rfl rfl;simp only [hk] at hH' C hsl';refine⟨.value (.slice (some ⟨w.heap.size,0,none⟩) 0 0),_,?_,.inl ⟨_,rfl,vZ hf hN hd ht hH' C hsl'⟩⟩;simp [execOp,Instr.buildSlice,run_underlying (gA8 hT),run_sizeOf he,Instr.fill,newRow];congr 2;apply Array.ext';simp
theorem hQa {T e:TypeId}{gg:Bool}{z bs i:Nat}{zs:List Value}{u:U}{js:List Nat}{fr:List (Nat × SV)}{L L':List LO}{N:Nat}(hy:OV L ((St.mk fr L N).ev x) u js)(hjs:decide js.Nodup=true)(hT:tyE P T=some e)(he:tyI P e=some (gg,z,bs))(hZ:tyZ P e=some zs)
  (hz:(Nat.blt 0 z && Nat.blt z 16777216 && zs.length==z)=true) (hu:u.sz=z) (ht:Nat.blt t N=true) (hi:L.length=i) (hL':kill js 0 L++[.own e z 0 [u]]=L')
  (h:VO P A ops rest ⟨(t,.sl i 0)::fr,L',N⟩ K) :
  VO P A ops (⟨some t,.buildSlice T 1 #[(0,x)],ty,pos,af,none⟩::rest) ⟨fr,L,N⟩ K:=by
 subst hL';subst hi;simp only [Bool.and_eq_true,Nat.blt_eq,beq_iff_eq] at hz;refine gH9 rfl (fun S env a w hH hf hN hd=>?_) h;obtain⟨cs,c1,hcells,c2,c3,c4,c5⟩:=hy.r hH (of_decide_eq_true hjs) (mP.ev hf hH x);have hcl:=Tr.len _ _ c2;rw [hu] at hcl;obtain⟨zv,hrz,hzc⟩:=gR4 hZ w;have hold:∀b,b < w.heap.size→(w.alloc (.cells (a.eval x).cells e)).heap[b]? =w.heap[b]? :=fun b hb=>heap_alloc_old w _ hb;obtain⟨t5,t6⟩:=Tr.loc (w':=w.alloc (.cells (a.eval x).cells e)) _ _ c2 (fun b hb=>hold b (Tr.lt _ _ c2 b hb));have hsz:(a.eval x).cells.size=z:=by rw [←hcl,←hcells];simp
 have hown:(w.alloc (.cells (a.eval x).cells e)).ownsRow 0 e z (.slice (some ⟨w.heap.size,0,none⟩) 1 1) [u].length cs:=
  ⟨by simp [hcl],.inr ⟨w.heap.size,1,_,rfl,Nat.zero_le _,heap_alloc_new w _,Nat.le_refl _,by simp [maxLen],by rw [hsz];simp,by rw [hcells];rw [List.take_of_length_le (by simp [hcl])]⟩⟩
 have hall:∀v∈[u],v.sz=z:=by simpa using hu
 have hfp:=hHx hall hown w.heap.size rfl;have htk:cs.take u.sz=cs:=List.take_of_length_le (by omega);have hdr:cs.drop u.sz=[]:=List.drop_eq_nil_of_le (by omega);simp only [U.fps,htk,t6,List.append_nil] at hfp
 obtain⟨hH',C⟩:=hH.newO (w':=w.alloc (.cells (a.eval x).cells e)) js (.own e z 0 [u]) (.slice (some ⟨w.heap.size,0,none⟩) 1 1)
  (by simp) hold rfl rfl rfl (fun b hb=>by
   simp only [LO.ft] at hb;rw [hfp] at hb;rcases List.mem_cons.1 hb with rfl | hb
   ·exact⟨by simp,.inl (Nat.le_refl _)⟩
   ·have:=Tr.lt _ _ c2 b hb
    exact⟨by simp;omega,.inr (c4 b hb)⟩)
  (fun C=>⟨by simp [gAy],hall,⟨_,hown,by simp only [Trs,htk,hdr];exact⟨t5,trivial⟩⟩,by
   rw [hfp]
   exact List.nodup_cons.2 ⟨fun hm=>by have:=Tr.lt _ _ c2 _ hm;omega,c3⟩⟩)
 refine⟨.value (.slice (some ⟨w.heap.size,0,none⟩) 1 1),_,?_,.inl ⟨_,rfl,vZ hf hN hd ht hH' C (hMg hH.len rfl rfl)⟩⟩;have hzs:zv.cells.size=z:=by rw [←hz.2,←hzc];simp
 have hfill:Instr.fill (fun i=>some (i*z,z)) ((Array.range (1*z)).map (zv.cells[· % zv.cells.size]!)) [(0,a.eval x)]=some (a.eval x).cells:=by
  rw [gUk (off:=0) (n:=z) (by simp) hsz (by simp)];simp only [Instr.fill,Option.some.injEq,List.take_zero,List.nil_append,Nat.zero_add];apply Array.ext';simp
 have h1:¬z > 2^24:=by omega
 have h2:¬z=0:=by omega
 simp only [Nat.one_mul] at hfill;simp [execOp,Instr.buildSlice,run_underlying (gA8 hT),run_sizeOf he,hrz,h1,h2,newRow];simp only [gt_iff_lt] at h1;simp [hfill]
end
theorem gUl:∀(L:List LO)(n:Nat),kill [] n L=L
 | [],_=>rfl
 | o::L,n=>by simp [kill,gUl L]
section
variable {P:Program}{A:Amb}{σ:St}{K:St→Prop}
variable {ops:Array Oper}{rest:List Oper}{t:Nat}{ty:TypeId}{pos:String}{af:Array Edge}{x y:Operand}{sv:SV}
end
section
variable {hv:Nat→Value}{e:Nat→Nat}{w:World}
end
section
variable {P:Program}
end
section
variable {A:Amb}{S:Nat→Prop}{L:List LO}{env:List Value}{w:World}
end
section
variable {P:Program}{A:Amb}{σ:St}{K:St→Prop}
variable {ops:Array Oper}{rest:List Oper}{t:Nat}{ty:TypeId}{pos:String}{af:Array Edge}{x y:Operand}{sv:SV}
end
section
variable {P:Program}{A:Amb}{σ:St}{K:St→Prop}{Q:Exit→St→Prop}
variable {dst:Option Nat}{ty:TypeId}{pos:String}{af:Array Edge}{g:Option (Nat × Bool)}{x y:Operand}{sv:SV}
theorem hEd{T T2:TypeId}{k k1 k2:IntKind}{m:Int}(hx:σ.ev x=.d (.i k m))(h1:P.underlying T=some (.int k1))(h2:P.underlying T2=some (.int k2)):Quiet P A σ ⟨dst,.convert T T2 x,ty,pos,af,g⟩ (.d (.i k2 (k2.wrap m))):=Quiet.pure fun S env a w hH ho=>by
 have h3:=ho x (by simp [Op.operands]);rw [hx,SVr.int] at h3;exact⟨.int k2 (k2.wrap m),by simp [execOp,h3,convert,run_underlying h1,run_underlying h2,Conv.intToInt],SVr.int.2 rfl⟩
theorem hF9{T T2 e:TypeId}{j ver e':Nat}{m:Int}(hx:σ.ev x=.sl j ver)(hL:σ.L[j]? =some (.own e' 1 ver [.i .u8 m]))(h1:P.underlying T=some (.slice e))(h2:P.underlying e=some (.int .u8))(h3:P.underlying T2=some .string) :
  Quiet P A σ ⟨dst,.convert T T2 x,ty,pos,af,g⟩ (.d (.s [UInt8.ofNat m.toNat])):=Quiet.pure fun S env a w hH ho=>by
 have h4:=ho x (by simp [Op.operands]);rw [hx] at h4;simp only [SVr] at h4;obtain⟨hv,o,k1,k2,k3,k5,k4⟩:=h4;rw [hL] at k2;obtain rfl:=Option.some.inj k2;have k6:=k4 rfl;obtain⟨_,_,⟨xs,h5,h6⟩,_⟩:=hH.objs j _ hv hL k1;simp only [Trs,Tr,U.sz] at h6;have hl:=h5.1
 match xs,hl with
 | [c],_=>
   simp only [List.take_succ_cons,List.take_zero,List.cons.injEq,and_true] at h6;obtain⟨rfl,_⟩:=h6;rcases h5.2 with ⟨_,h0⟩ | ⟨b,cap,cur,rfl,r⟩
   ·simp at h0
   ·refine⟨.string ⟨#[UInt8.ofNat m.toNat]⟩,?_,SVr.str.2 ⟨by simp [gAy],rfl⟩⟩;have hld:=run_loadCells_list (P:=P) (w:=w) ⟨b,0,none⟩ [.int .u8 m] (fun j u hu=>h5.cells (g:=b) rfl j u hu);simp only [List.length_cons,List.length_nil,Nat.zero_add] at hld;simp [execOp,k6,convert,run_underlying h1,run_underlying h2,run_underlying h3,Conv.bytesToString,hld];rfl
theorem hWl{T T':TypeId}{a b:LB}(hx:σ.ev x=.d (.s a))(hy:σ.ev y=.d (.s b))(hl:a.length+b.length≤big):Quiet P A σ ⟨dst,.binOp .add T x y T',ty,pos,af,g⟩ (.d (.s (a++b))):=Quiet.pure fun S env ac w hH ho=>by
 have h1:=ho x (by simp [Op.operands]);have h2:=ho y (by simp [Op.operands]);rw [hx,SVr.str] at h1;rw [hy,SVr.str] at h2;refine⟨.string ⟨(a++b).toArray⟩,?_,SVr.str.2 ⟨by rw [List.length_append];exact hl,rfl⟩⟩;rw [gAy] at hl;have hs:(⟨a.toArray⟩:ByteArray).size=a.length:=rfl;have hs':(⟨b.toArray⟩:ByteArray).size=b.length:=rfl;have happ:(⟨a.toArray⟩:ByteArray)++⟨b.toArray⟩=⟨(a++b).toArray⟩:=by
  apply ByteArray.ext;simp [ByteArray.data_append]
 simp [execOp,h1.2,h2.2,eqGuard,binOp,Op.stringOp,hs,hs',happ];omega
end
inductive KR:List Nat→List LO→List LO→Prop
 | nil {L:List LO}:KR [] L L
 | cons {j:Nat} {js:List Nat} {o:LO} {L L1 L':List LO} (h:L[j]? =some o) (hs:St1 (.dead (o.ver+1)) j L L1) (r:KR js L1 L'):KR (j::js) L L'
theorem KR.spec{js:List Nat}{L L':List LO}(h:KR js L L')(hn:js.Nodup):kill js 0 L=L':=by
 have key:∀{js:List Nat}{L L':List LO},KR js L L'→js.Nodup→L'.length=L.length∧∀i,L'[i]? =L[i]?.map (fun o=>if js.contains i then .dead (o.ver+1)else o):=by
  intro js L L' h
  induction h with
  | nil=>intro _;exact⟨rfl,fun i=>by cases h:(_:List LO)[i]? <;>simp⟩
  | @cons j js o L L1 L' h hs r ih=>
    intro hn;have h1:=hs.spec;subst h1;obtain⟨n1,n2⟩:=List.nodup_cons.1 hn;obtain⟨i1,i2⟩:=ih n2;refine⟨by rw [i1,List.length_set],fun i=>?_⟩;rw [i2 i];by_cases hij:j=i
    ·subst hij;have hlt:=(List.getElem?_eq_some_iff.1 h).1;have hc:js.contains j=false:=by simpa using n1
     rw [List.getElem?_set_self hlt,h];simp only [Option.map_some,hc,List.contains_cons,beq_self_eq_true,Bool.true_or,if_true,Bool.false_eq_true,if_false]
    ·rw [List.getElem?_set_ne hij]
     have:(j::js).contains i=js.contains i:=by
      have:(i==j)=false:=by simpa using fun e=>hij e.symm
      simp only [List.contains_cons,this,Bool.false_or]
     rw [this]
 obtain⟨k1,k2⟩:=key h hn;apply List.ext_getElem?;intro i;rw [gRw,Nat.zero_add,k2 i]
section
variable {P:Program}{A:Amb}{σ:St}{K:St→Prop}
variable {ops:Array Oper}{rest:List Oper}{t:Nat}{ty:TypeId}{pos:String}{af:Array Edge}{x y:Operand}{sv:SV}
theorem hQb {T:TypeId}{gg:Bool}{i ver z k e bs:Nat}{es:List U}{u:U}{js:List Nat}{fr:List (Nat × SV)}{L L1 L':List LO}{N:Nat}(hx:(St.mk fr L N).ev x=.ep i ver z k 0)(hL:L[i]? =some (.own e z ver es))(hy:OV L ((St.mk fr L N).ev y) u js)
  (hjs:(decide js.Nodup && !js.contains i)=true) (hT:tyI P T=some (gg,z,bs)) (hu:u.sz=z) (hk:k < es.length) (hk1:KR js L L1) (hL':St1 (.own e z ver (es.set k u)) i L1 L')
  (h:VO P A ops rest ⟨fr,L',N⟩ K):VO P A ops (⟨none,.store T x y,ty,pos,af,none⟩::rest) ⟨fr,L,N⟩ K:=by
 have hjs':=hjs;simp only [Bool.and_eq_true,decide_eq_true_eq] at hjs';exact hMb hx hL hy hjs hT hu hk (by rw [hk1.spec hjs'.1];exact hL'.spec) h
theorem hT6 {T e:TypeId}{gg:Bool}{z bs:Nat}{zs:List Value}{zu:U}{k k':IntKind}{l c:Int}{fr:List (Nat × SV)}{L L':List LO}{N i:Nat}(hx:(St.mk fr L N).ev x=.d (.i k l))(hy:(St.mk fr L N).ev y=.d (.i k' c))
  (hT:tyE P T=some e) (he:tyI P e=some (gg,z,bs)) (hZ:tyZ P e=some zs) (hz:(Nat.blt 0 z && zs.length==z)=true) (hzu:hMf zu zs)
  (h0:0≤l) (hlc:l≤c) (hc:c≤big) (hbytes:(bs:Int)*c≤281474976710656) (ht:Nat.blt t N=true) (hL':Sn (.own e z 0 (List.replicate l.toNat zu)) L i L')
  (h:VO P A ops rest ⟨(t,.sl i 0)::fr,L',N⟩ K):VO P A ops (⟨some t,.makeSlice T x y,ty,pos,af,none⟩::rest) ⟨fr,L,N⟩ K:=hP9 hx hy hT he hZ hz hzu h0 hlc hc hbytes ht hL'.spec.1 hL' h
theorem hCb {T e T':TypeId}{gg:Bool}{z bs i ver:Nat}{zs:List Value}{es us:List U}{js:List Nat}{fr:List (Nat × SV)}{L L1 L':List LO}{N:Nat}(hx:(St.mk fr L N).ev x=.sl i ver)(hL:L[i]? =some (.own e z ver es))(hs:hOp L z ((St.mk fr L N).ev y) us js)
  (hjs:(decide js.Nodup && !js.contains i)=true) (hT:tyE P T=some e) (he:tyI P e=some (gg,z,bs)) (hZ:tyZ P e=some zs) (hz:(Nat.blt 0 z && zs.length==z)=true)
  (hbig:es.length+us.length≤big) (hbytes:(es.length+us.length)*bs≤140737488355328) (ht:Nat.blt t N=true) (hk1:KR js L L1) (hL':St1 (.own e z (ver+1) (es++us)) i L1 L')
  (h:VO P A ops rest ⟨(t,.sl i (ver+1))::fr,L',N⟩ K):VO P A ops (⟨some t,.call { callee:=.builtin .append,args:=#[x,y],argTypes:=#[T,T] },T',pos,af,none⟩::rest) ⟨fr,L,N⟩ K:=by
 simp only [Bool.and_eq_true,decide_eq_true_eq] at hjs;exact hHz hx hL hs hjs.2 hT he hZ hz hbig hbytes ht (by rw [hk1.spec hjs.1];exact hL'.spec) h
theorem gZt {T e:TypeId}{gg:Bool}{z bs i:Nat}{zs:List Value}{u:U}{js:List Nat}{fr:List (Nat × SV)}{L L1 L':List LO}{N:Nat}(hy:OV L ((St.mk fr L N).ev x) u js)(hjs:decide js.Nodup=true)(hT:tyE P T=some e)(he:tyI P e=some (gg,z,bs))(hZ:tyZ P e=some zs)
  (hz:(Nat.blt 0 z && Nat.blt z 16777216 && zs.length==z)=true) (hu:u.sz=z) (ht:Nat.blt t N=true) (hk1:KR js L L1) (hL':Sn (.own e z 0 [u]) L1 i L')
  (h:VO P A ops rest ⟨(t,.sl i 0)::fr,L',N⟩ K):VO P A ops (⟨some t,.buildSlice T 1 #[(0,x)],ty,pos,af,none⟩::rest) ⟨fr,L,N⟩ K:=by
 have hk:=hk1.spec (of_decide_eq_true hjs);obtain⟨h1,h2⟩:=hL'.spec;exact hQa hy hjs hT he hZ hz hu ht (by rw [←h1,←hk,gDe]) (by rw [hk];exact h2) h
end
theorem tI:∀w,Tr w (.i .i64 0) [.int .i64 0]∧(U.i .i64 0).fp w [.int .i64 0]=[]:=fun w=>⟨by simp [Tr],rfl⟩
theorem tB:∀w,Tr w (.b false) [.bool false]∧(U.b false).fp w [.bool false]=[]:=fun w=>⟨by simp [Tr],rfl⟩
theorem tS:∀w,Tr w (.s []) [.string ⟨#[]⟩]∧(U.s []).fp w [.string ⟨#[]⟩]=[]:=fun w=>⟨by simp [Tr,big],rfl⟩
theorem tL(z:Nat):∀w,Tr w (.sl z []) [.slice none 0 0]∧(U.sl z []).fp w [.slice none 0 0]=[]:=fun w=>Tr.nil w z
inductive ZL:List U→List Value→Prop
 | nil:ZL [] []
 | i {us:List U} {vs:List Value} (h:ZL us vs):ZL (.i .i64 0::us) (.int .i64 0::vs)
 | b {us:List U} {vs:List Value} (h:ZL us vs):ZL (.b false::us) (.bool false::vs)
 | s {us:List U} {vs:List Value} (h:ZL us vs):ZL (.s []::us) (.string ⟨#[]⟩::vs)
 | l {z:Nat} {us:List U} {vs:List Value} (h:ZL us vs):ZL (.sl z []::us) (.slice none 0 0::vs)
theorem ZL.r{us:List U}{vs:List Value}(h:ZL us vs)(w:World):zX (fun u c=>Tr w u [c]) us vs∧fpl w us vs=[]:=by
 induction h with
 | nil=>exact⟨trivial,rfl⟩
 | i h ih=>exact⟨⟨(tI w).1,ih.1⟩,by simp only [fpl,(tI w).2,ih.2,List.nil_append]⟩
 | b h ih=>exact⟨⟨(tB w).1,ih.1⟩,by simp only [fpl,(tB w).2,ih.2,List.nil_append]⟩
 | s h ih=>exact⟨⟨(tS w).1,ih.1⟩,by simp only [fpl,(tS w).2,ih.2,List.nil_append]⟩
 | l h ih=>exact⟨⟨(tL _ w).1,ih.1⟩,by simp only [fpl,(tL _ w).2,ih.2,List.nil_append]⟩
theorem jA1{u:U}{fl:List U}{vs:List Value}(hl:Lv u fl)(h:ZL fl vs):hMf u vs:=fun w=>by
 have:=hl.eq
 subst this;obtain⟨h1,h2⟩:=h.r w;exact⟨Tr.of_leafs _ _ h1,by rw [gZr _ _ (by rw [←h1.length,U.flat_len]),h2]⟩
section
variable {P:Program}{A:Amb}{σ:St}{K:St→Prop}
variable {ops:Array Oper}{rest:List Oper}{t:Nat}{ty:TypeId}{pos:String}{af:Array Edge}{x y:Operand}{sv:SV}
end
section
variable {P:Program}{A:Amb}{ops:Array Oper}{K:St→Prop}{r:List (Nat × Bool)}{pf:PF}{o:Oper}{fr:List (Nat × SV)}{L L1 L':List LO}{N i t j:Nat}{sv:SV}
variable {ty:TypeId}{pos:String}{af:Array Edge}{x y:Operand}
theorem gTq(hi:ops[i]? =some o)(h:HSt P A ops ⟨fr,L,N⟩ o sv L')(hp:gDf ops i L' pf)(hv:VY P A ops K r pf (St.setO ⟨fr,L',N⟩ o.dst sv)):VY P A ops K ((i,false)::r) pf ⟨fr,L,N⟩:=hWi ⟨hi,h,hp.ok,hv⟩
theorem hH4 {T e T':TypeId}{gg:Bool}{z bs ver:Nat}{zs:List Value}{es us:List U}{js:List Nat}(hx:(St.mk fr L N).ev x=.sl i ver)(hL:L[i]? =some (.own e z ver es))(hs:hOp L z ((St.mk fr L N).ev y) us js)
  (hjs:(decide js.Nodup && !js.contains i)=true) (hT:tyE P T=some e) (he:tyI P e=some (gg,z,bs)) (hZ:tyZ P e=some zs) (hz:(Nat.blt 0 z && zs.length==z)=true)
  (hbig:es.length+us.length≤big) (hbytes:(es.length+us.length)*bs≤140737488355328) (ht:Nat.blt t N=true) (hk1:KR js L L1) (hL':St1 (.own e z (ver+1) (es++us)) i L1 L') :
  HSt P A ops ⟨fr,L,N⟩ ⟨some t,.call { callee:=.builtin .append,args:=#[x,y],argTypes:=#[T,T] },T',pos,af,none⟩ (.sl i (ver+1)) L':=fun _ he' _ hK=>
 hCb (by rw [he' x (by simp [Op.operands,Call.operands])];exact hx) hL (by rw [he' y (by simp [Op.operands,Call.operands])];exact hs) hjs hT he hZ hz hbig hbytes ht hk1 hL' (gF4 hK)
theorem hMi {T e:TypeId}{gg:Bool}{z bs:Nat}{zs:List Value}{u:U}{js:List Nat}(hy:OV L ((St.mk fr L N).ev x) u js)(hjs:decide js.Nodup=true)(hT:tyE P T=some e)(he:tyI P e=some (gg,z,bs))(hZ:tyZ P e=some zs)
  (hz:(Nat.blt 0 z && Nat.blt z 16777216 && zs.length==z)=true) (hu:u.sz=z) (ht:Nat.blt t N=true) (hk1:KR js L L1) (hL':Sn (.own e z 0 [u]) L1 i L') :
  HSt P A ops ⟨fr,L,N⟩ ⟨some t,.buildSlice T 1 #[(0,x)],ty,pos,af,none⟩ (.sl i 0) L':=fun _ he' _ hK=>
 gZt (by rw [he' x (by simp [Op.operands])];exact hy) hjs hT he hZ hz hu ht hk1 hL' (gF4 hK)
theorem hMk{T e:TypeId}{gg:Bool}{z bs:Nat}(hT:tyE P T=some e)(he:tyI P e=some (gg,z,bs))(ht:Nat.blt t N=true)(hL':Sn (.own e z 0 []) L i L') :
  HSt P A ops ⟨fr,L,N⟩ ⟨some t,.buildSlice T 0 #[],ty,pos,af,none⟩ (.sl i 0) L':=fun _ _ _ hK=>hF8 hT he ht hL' (gF4 hK)
theorem mP.adopt{a:Act}{w:World}{cs cs':List SV}{e z:Nat}(hL:L[j]? =some (.box cs))(k:Nat)(hc:cs[k]? =some .nilsl)(hcs:cs.set k (.sl L.length 0)=cs')(h:mP A ⟨fr,L,N⟩ a w):mP A ⟨fr,L.set j (.box cs')++[.own e z 0 []],N⟩ a w:=by
 subst hcs;obtain⟨S,env,hH,hf,hN,hd⟩:=h;have hj:=(List.getElem?_eq_some_iff.1 hL).1;obtain⟨hH1,C1⟩:=hH.newO [] (.own e z 0 []) (.slice none 0 0) (Nat.le_refl _) (fun _ _=>rfl) rfl rfl rfl (fun b hb=>by simp only [LO.ft] at hb;rw [(Tr.nil w z).2] at hb;cases hb) (fun _=>hEc e z 0);rw [gUl] at hH1 C1;have hL1:(L++[LO.own e z 0 []])[j]? =some (.box cs):=by rw [List.getElem?_append_left hj];exact hL
 have hje:j < (env++[Value.slice none 0 0]).length:=by rw [hH1.len];simp;omega
 obtain⟨hv,he⟩:∃hv,(env++[Value.slice none 0 0])[j]? =some hv:=⟨_,List.getElem?_eq_getElem hje⟩
 obtain⟨b,vals,e',r1,r2,r3,r4⟩:=hH1.objs j _ hv hL1 he
 obtain⟨hH2,C2⟩:=hH1.turnF (w':=w) j (.box cs) (.box (cs.set k (.sl L.length 0))) hv hL1 rfl he rfl rfl (fun _ _=>rfl) rfl rfl rfl (fun k hk=>hk) (fun C=>⟨b,vals,e',r1,r2,by
  have r3':=kV.carry C _ _ r3;rw [kV.iff] at r3' ⊢;obtain⟨v,v1,v2⟩:=zX.get ((kV.iff _ _).1 r3) k _ hc;simp only [SVr] at v2;subst v2
  have hset:=zX.set k (.sl L.length 0) (.slice none 0 0) r3' (by
   simp only [SVr];refine⟨.slice none 0 0,.own e z 0 [],by rw [←hH.len];simp,?_,Nat.le_refl _,rfl,fun _=>rfl⟩;rw [List.getElem?_set_ne (by omega)]
   simp)
  have hk:k < vals.toList.length:=(List.getElem?_eq_some_iff.1 v1).1
  have:vals.toList.set k (.slice none 0 0)=vals.toList:=by
   apply List.ext_getElem?;intro m;rw [List.getElem?_set];by_cases hm:k=m
   ·subst hm;rw [if_pos rfl,if_pos hk,v1]
   ·rw [if_neg hm]
  rwa [this] at hset,r4⟩)
 have hse:(L++[LO.own e z 0 []]).set j (.box (cs.set k (.sl L.length 0)))=L.set j (.box (cs.set k (.sl L.length 0)))++[.own e z 0 []]:=by rw [List.set_append_left _ _ hj]
 rw [hse] at hH2 C2;exact⟨S,_,hH2,fun t=>SVr.carry C2 _ _ (SVr.carry C1 _ _ (hf t)),hN,hd⟩
theorem hT7 {Q:Exit→St→Prop}{c:Code}{cs cs':List SV}{n:Nat}(e z:Nat)(j k:Nat)(hL:L[j]? =some (.box cs))(hc:cs[k]? =some .nilsl)(hn:Ln L n)(hcs:St1 (.sl n 0) k cs cs')(h1:St1 (.box cs') j L L1)(h2:Jn L1 [.own e z 0 []] L')
  (h:V P A c ⟨fr,L',N⟩ Q):V P A c ⟨fr,L,N⟩ Q:=by
 have e1:=hn.eq;have e2:=hcs.spec;have e3:=h1.spec;have e4:=h2.spec;subst e1;subst e2;subst e3;subst e4;exact fun a w hr=>h a w (mP.adopt hL k hc rfl hr)
end
section
variable {P:Program}{A:Amb}{ops:Array Oper}{K:St→Prop}{r:List (Nat × Bool)}{pf:PF}{fr:List (Nat × SV)}{L:List LO}{N i t:Nat}
variable {ty:TypeId}{pos:String}{af:Array Edge}{x y:Operand}
theorem jA2{o:Oper}{sv:SV}(hi:ops[i]? =some o)(hd:o.dst=some t)(hg:o.guard=none)(h:∀fr' L',(∀x∈o.op.operands.toList,St.ev ⟨fr',L',N⟩ x=St.ev ⟨fr,L,N⟩ x)→gP8 L L'→Quiet P A ⟨fr',L',N⟩ o sv)(ht:Nat.blt t N=true)(hv:VY P A ops K r ((i,L)::pf) ⟨(t,sv)::fr,L,N⟩):VY P A ops K ((i,true)::r) pf ⟨fr,L,N⟩:=by
 refine⟨o,sv,hi,⟨fun d h'=>(by rw [hd] at h';cases h';exact ht),gP8.refl _,.inl ⟨by unfold Gd;simp only [hg],h⟩⟩,?_⟩;rw [hd];exact hv
end
end Go.Eng
set_option linter.unusedVariables false
set_option linter.unusedSimpArgs false
namespace Go.Eng
open Go Go.RowKit
mutual
def SV.ren(ρ:Nat→Nat):SV→SV
 | .junk=>.junk
 | .d u=>.d u
 | .ag cs=>.ag (SV.rens ρ cs)
 | .ptr i off=>.ptr (ρ i) off
 | .sl i ver=>.sl (ρ i) ver
 | .dp u=>.dp u
 | .ep i ver z k off=>.ep (ρ i) ver z k off
 | .fn f cs=>.fn f (SV.rens ρ cs)
 | .tup cs=>.tup (SV.rens ρ cs)
 | .nilsl=>.nilsl
def SV.rens(ρ:Nat→Nat):List SV→List SV
 | []=>[]
 | c::cs=>SV.ren ρ c::SV.rens ρ cs
end
def LO.ren(ρ:Nat→Nat):LO→LO
 | .box cs=>.box (SV.rens ρ cs)
 | o=>o
section
variable {ρ:Nat→Nat}{S:Nat→Prop}{L L':List LO}{env env':List Value}{w:World}
theorem LO.ren_ver(o:LO):(o.ren ρ).ver=o.ver:=by cases o<;>rfl
theorem LO.ren_live(o:LO):(o.ren ρ).live=o.live:=by cases o<;>rfl
theorem LO.ren_ft(o:LO)(hv:Value)(b:Nat):(o.ren ρ).ft w hv b↔o.ft w hv b:=by cases o<;>exact Iff.rfl
theorem gZu{o:LO}{i:Nat}(h:(L'[ρ i]?).map LO.ver=(L[i]?).map LO.ver)(ho:L[i]? =some o):∃o',L'[ρ i]? =some o'∧o'.ver=o.ver:=by
 rw [ho] at h;cases h':L'[ρ i]? with
 | none=>rw [h'] at h;cases h
 | some o'=>rw [h'] at h;exact⟨o',rfl,by simpa using h⟩
mutual
theorem SVr.ren(H:∀i,i < env.length→env'[ρ i]? =env[i]? ∧(L'[ρ i]?).map LO.ver=(L[i]?).map LO.ver):∀(sv:SV)(v:Value),SVr S L env w sv v→SVr S L' env' w (sv.ren ρ) v
 | .junk,v,_=>by simp only [SV.ren,SVr]
 | .d u,v,h=>by simpa only [SV.ren,SVr] using h
 | .ag cs,v,h=>by
   simp only [SV.ren,SVr] at h ⊢;obtain⟨vs,h1,h2⟩:=h;exact⟨vs,h1,kV.ren H cs vs h2⟩
 | .ptr i off,v,h=>by
   simp only [SV.ren,SVr] at h ⊢;obtain⟨b,h1,h2⟩:=h;exact⟨b,by rw [(H i (List.getElem?_eq_some_iff.1 h1).1).1];exact h1,h2⟩
 | .sl i ver,v,h=>by
   simp only [SV.ren,SVr] at h ⊢;obtain⟨hv,o,h1,h2,h3,h5,h4⟩:=h;obtain⟨k1,k2⟩:=H i (List.getElem?_eq_some_iff.1 h1).1;obtain⟨o',k3,k4⟩:=gZu k2 h2;exact⟨hv,o',by rw [k1];exact h1,k3,by omega,h5,fun he=>h4 (by omega)⟩
 | .dp u,v,h=>by simpa only [SV.ren,SVr] using h
 | .ep i ver z k off,v,h=>by
   simp only [SV.ren,SVr] at h ⊢;obtain⟨hv,o,h1,h2,h3,h5,h4⟩:=h;obtain⟨k1,k2⟩:=H i (List.getElem?_eq_some_iff.1 h1).1;obtain⟨o',k3,k4⟩:=gZu k2 h2;exact⟨hv,o',by rw [k1];exact h1,k3,by omega,h5,fun he=>h4 (by omega)⟩
 | .fn f cs,v,h=>by
   simp only [SV.ren,SVr] at h ⊢;obtain⟨vs,h1,h2⟩:=h;exact⟨vs,h1,kV.ren H cs vs h2⟩
 | .tup cs,v,h=>by
   simp only [SV.ren,SVr] at h ⊢;obtain⟨vs,h1,h2⟩:=h;exact⟨vs,h1,kV.ren H cs vs h2⟩
 | .nilsl,v,h=>by simpa only [SV.ren,SVr] using h
theorem kV.ren(H:∀i,i < env.length→env'[ρ i]? =env[i]? ∧(L'[ρ i]?).map LO.ver=(L[i]?).map LO.ver):∀(svs:List SV)(vs:List Value),kV S L env w svs vs→kV S L' env' w (SV.rens ρ svs) vs
 | [],[],_=>by simp only [SV.rens,kV]
 | sv::svs,v::vs,h=>by
   simp only [SV.rens,kV] at h ⊢;exact⟨SVr.ren H sv v h.1,kV.ren H svs vs h.2⟩
 | [],_::_,h=>by simp [kV] at h
 | _::_,[],h=>by simp [kV] at h
end
mutual
theorem SVr.unren{n:Nat}(H:∀i,i < n→env'[ρ i]? =env[i]? ∧(L'[ρ i]?).map LO.ver=(L[i]?).map LO.ver):∀(sv:SV)(v:Value),sv.lt n=true→SVr S L' env' w (sv.ren ρ) v→SVr S L env w sv v
 | .junk,v,_,_=>by simp only [SVr]
 | .d u,v,_,h=>by simpa only [SV.ren,SVr] using h
 | .ag cs,v,hl,h=>by
   simp only [SV.ren,SVr] at h ⊢;obtain⟨vs,h1,h2⟩:=h;exact⟨vs,h1,kV.unren H cs vs (by simpa only [SV.lt] using hl) h2⟩
 | .ptr i off,v,hl,h=>by
   simp only [SV.lt,Nat.blt_eq] at hl;simp only [SV.ren,SVr] at h ⊢;obtain⟨b,h1,h2⟩:=h;exact⟨b,by rw [← (H i hl).1];exact h1,h2⟩
 | .sl i ver,v,hl,h=>by
   simp only [SV.lt,Nat.blt_eq] at hl;simp only [SV.ren,SVr] at h ⊢;obtain⟨hv,o,h1,h2,h3,h5,h4⟩:=h;obtain⟨k1,k2⟩:=H i hl;obtain⟨o',k3,k4⟩:=gZu (L':=L) (L:=L') (ρ:=fun _=>i) (i:=ρ i) k2.symm h2;exact⟨hv,o',by rw [←k1];exact h1,k3,by omega,h5,fun he=>h4 (by omega)⟩
 | .dp u,v,_,h=>by simpa only [SV.ren,SVr] using h
 | .ep i ver z k off,v,hl,h=>by
   simp only [SV.lt,Nat.blt_eq] at hl;simp only [SV.ren,SVr] at h ⊢;obtain⟨hv,o,h1,h2,h3,h5,h4⟩:=h;obtain⟨k1,k2⟩:=H i hl;obtain⟨o',k3,k4⟩:=gZu (L':=L) (L:=L') (ρ:=fun _=>i) (i:=ρ i) k2.symm h2;exact⟨hv,o',by rw [←k1];exact h1,k3,by omega,h5,fun he=>h4 (by omega)⟩
 | .fn f cs,v,hl,h=>by
   simp only [SV.ren,SVr] at h ⊢;obtain⟨vs,h1,h2⟩:=h;exact⟨vs,h1,kV.unren H cs vs (by simpa only [SV.lt] using hl) h2⟩
 | .tup cs,v,hl,h=>by
   simp only [SV.ren,SVr] at h ⊢;obtain⟨vs,h1,h2⟩:=h;exact⟨vs,h1,kV.unren H cs vs (by simpa only [SV.lt] using hl) h2⟩
 | .nilsl,v,_,h=>by simpa only [SV.ren,SVr] using h
theorem kV.unren{n:Nat}(H:∀i,i < n→env'[ρ i]? =env[i]? ∧(L'[ρ i]?).map LO.ver=(L[i]?).map LO.ver):∀(svs:List SV)(vs:List Value),SV.lts n svs=true→kV S L' env' w (SV.rens ρ svs) vs→kV S L env w svs vs
 | [],[],_,_=>by simp only [kV]
 | sv::svs,v::vs,hl,h=>by
   simp only [SV.lts,Bool.and_eq_true] at hl;simp only [SV.rens,kV] at h ⊢;exact⟨SVr.unren H sv v hl.1 h.1,kV.unren H svs vs hl.2 h.2⟩
 | [],_::_,_,h=>by simp [SV.rens,kV] at h
 | _::_,[],_,h=>by simp [SV.rens,kV] at h
end
end
structure gZv (ρ:Nat→Nat)(L Lc:List LO):Prop where
 get:∀(m:Nat)(o:LO),Lc[m]? =some o→L[ρ m]? =some (o.ren ρ)
 inj:∀(m m':Nat),m < Lc.length→m' < Lc.length→ρ m=ρ m'→m=m'
 lt:LO.lts Lc.length Lc=true
def gWo(ρ:Nat→Nat)(n:Nat)(env:List Value):List Value:=(List.range n).map fun m=>env.getD (ρ m) undef
section
variable {ρ:Nat→Nat}{A A':Amb}{S:Nat→Prop}{L Lc:List LO}{env:List Value}{w:World}
theorem gWp{n:Nat}(hH:pU A S L env w){m:Nat}(hm:m < n){o:LO}(ho:L[ρ m]? =some o):(gWo ρ n env)[m]? =env[ρ m]? :=by
 have hj:=(List.getElem?_eq_some_iff.1 ho).1;rw [←hH.len] at hj;simp only [gWo,List.getElem?_map,List.getElem?_range hm,Option.map_some];rw [List.getElem?_eq_getElem hj];simp [List.getD_eq_getElem?_getD,List.getElem?_eq_getElem hj]
theorem gZv.H(hH:pU A S L env w)(hp:gZv ρ L Lc):∀i,i < Lc.length→env[ρ i]? =(gWo ρ Lc.length env)[i]? ∧(L[ρ i]?).map LO.ver=(Lc[i]?).map LO.ver:=by
 intro i hi;obtain⟨o,ho⟩:∃o,Lc[i]? =some o:=⟨_,List.getElem?_eq_getElem hi⟩
 have h1:=hp.get i o ho;exact⟨(gWp hH hi h1).symm,by rw [h1,ho];simp [LO.ren_ver]⟩
theorem pU.pick (hH:pU A S L env w)(hp:gZv ρ L Lc)(hw:A'.w0.heap.size≤w.heap.size)
  (hexcl:∀(m:Nat)(b:Nat),m < Lc.length→gZs L env w (ρ m) b→A'.E b∨A'.w0.heap.size≤b) (hsA:∀b,S b→A'.S0 b∨A'.E b∨A'.w0.heap.size≤b)
  (hframe:∀b,b < A'.w0.heap.size→¬A'.E b→w.heap[b]? =A'.w0.heap[b]?) (hos:w.os=A'.w0.os) (htape:w.tape=A'.w0.tape) (hout:w.output=A'.w0.output)
  (hbase:Base A' Lc (gWo ρ Lc.length env)) (hglob:Gok A'.E A'.w0):pU A' S Lc (gWo ρ Lc.length env) w:=by
 have H:=hp.H hH;have key:∀(m:Nat)(o:LO)(hv:Value),Lc[m]? =some o→(gWo ρ Lc.length env)[m]? =some hv→m < Lc.length∧L[ρ m]? =some (o.ren ρ)∧env[ρ m]? =some hv:=by
  intro m o hv h1 h2;have hm:=(List.getElem?_eq_some_iff.1 h1).1;exact⟨hm,hp.get m o h1,by rw [(H m hm).1];exact h2⟩
 refine⟨by simp [gWo],?_,?_,?_,hH.sS,hsA,hframe,hw,hos,htape,hout,hbase,hglob⟩
 ·intro m o hv h1 h2;obtain⟨hm,k1,k2⟩:=key m o hv h1 h2;have hob:=hH.objs _ _ _ k1 k2;cases o with
  | box cs=>
    obtain⟨b,vals,e,r1,r2,r3,r4⟩:=hob;refine⟨b,vals,e,r1,r2,kV.unren H _ _ ?_ r3,r4⟩
    have:=LO.lts_get Lc hp.lt m _ h1
    simpa only [LO.lt] using this
  | arr e z ver es=>exact hob
  | frz e z ver es=>exact hob
  | own e z ver es=>exact hob
  | dead ver=>exact hob
  | ownp h e z es=>exact hob
  | mix e z ver fs es=>exact hob
  | set ks=>exact hob
  | bld e T l=>exact hob
  | slot=>exact hob
 ·intro m o hv b h1 hl h2 hb;obtain⟨hm,k1,k2⟩:=key m o hv h1 h2;have hl':(o.ren ρ).live=true:=by rw [LO.ren_live];exact hl
  have hb':=(LO.ren_ft (ρ:=ρ) o hv b).2 hb
  have:=hH.excl _ _ _ b k1 hl' k2 hb'
  exact⟨this.1,hexcl m b hm ⟨_,_,k1,hl',k2,hb'⟩,this.2.2⟩
 ·intro m m' o o' hv hv' b h1 h2 hl1 hl2 e1 e2 b1 b2;obtain⟨hm,k1,k2⟩:=key m o hv h1 e1;obtain⟨hm',k1',k2'⟩:=key m' o' hv' h2 e2;exact hp.inj m m' hm hm' (hH.dist _ _ _ _ _ _ b k1 k1' (by rw [LO.ren_live];exact hl1) (by rw [LO.ren_live];exact hl2) k2 k2' ((LO.ren_ft o hv b).2 b1) ((LO.ren_ft o' hv' b).2 b2))
end
def gNn{α:Type}:List Nat→List α→List α→List α
 | [],new,old=>old++new
 | j::js,x::new,old=>gNn js new (old.set j x)
 | _::_,[],old=>old
def rn(js:List Nat)(n0 m:Nat):Nat:=(js[m]?).getD (n0+(m - js.length))
section
variable {α:Type}
theorem gUm:∀(js:List Nat)(new old:List α),js.length≤new.length→(gNn js new old).length=old.length+(new.length - js.length)
 | [],new,old,_=>by simp [gNn]
 | j::js,x::new,old,h=>by
   simp only [gNn];rw [gUm js new (old.set j x) (by simpa using h)];simp
 | _::_,[],_,h=>by simp at h
theorem gNo:∀(js:List Nat)(new old:List α)(j:Nat),j < old.length→j∉js→(gNn js new old)[j]? =old[j]?
 | [],new,old,j,h,_=>by simp only [gNn];exact List.getElem?_append_left h
 | i::js,x::new,old,j,h,hn=>by
   simp only [List.mem_cons,not_or] at hn;simp only [gNn];rw [gNo js new (old.set i x) j (by simpa using h) hn.2,List.getElem?_set_ne (fun e=>hn.1 e.symm)]
 | _::_,[],_,_,_,_=>rfl
theorem gZw:∀(js:List Nat)(new old:List α)(m:Nat),js.length≤new.length→(∀j∈js,j < old.length)→js.Nodup→(gNn js new old)[rn js old.length m]? =new[m]?
 | [],new,old,m,_,_,_=>by
   simp only [gNn,rn,List.getElem?_nil,Option.getD_none,List.length_nil,Nat.sub_zero];rw [List.getElem?_append_right (by omega)];congr 1;omega
 | j::js,x::new,old,m,hl,hlt,hnd=>by
   simp only [gNn];simp only [List.nodup_cons] at hnd;cases m with
   | zero=>
     simp only [rn,List.getElem?_cons_zero,Option.getD_some];rw [gNo js new _ j (by simpa using hlt j (by simp)) hnd.1];simp [hlt j (by simp)]
   | succ m=>
     have:=gZw js new (old.set j x) m (by simpa using hl) (fun i hi=>by simpa using hlt i (by simp [hi])) hnd.2
     simp only [List.length_set] at this;rw [List.getElem?_cons_succ,←this];congr 1;simp only [rn,List.getElem?_cons_succ,List.length_cons];congr 2;omega
 | _::_,[],_,_,h,_,_=>by simp at h
theorem hH8(js:List Nat)(new old:List α)(hl:js.length≤new.length)(i:Nat)(hi:i < (gNn js new old).length):(i < old.length∧i∉js)∨∃m,m < new.length∧rn js old.length m=i:=by
 rw [gUm _ _ _ hl] at hi;by_cases h1:i∈js
 ·obtain⟨m,hm,rfl⟩:=List.mem_iff_getElem.1 h1;exact .inr ⟨m,by omega,by simp [rn,List.getElem?_eq_getElem hm]⟩
 ·by_cases h2:i < old.length
  ·exact .inl ⟨h2,h1⟩
  ·refine .inr ⟨js.length+(i - old.length),by omega,?_⟩;simp only [rn];rw [List.getElem?_eq_none (by omega)];simp only [Option.getD_none];omega
theorem hMl{l:List Nat}(h:l.Nodup){i j:Nat}(hi:i < l.length)(hj:j < l.length)(he:l[i]=l[j]):i=j:=by
 have hp:=List.pairwise_iff_getElem.1 h;rcases Nat.lt_trichotomy i j with h1 | h1 | h1
 ·exact absurd he (hp i j hi hj h1)
 ·exact h1
 ·exact absurd he.symm (hp j i hj hi h1)
theorem hMm{js:List Nat}{n0:Nat}(hlt:∀j∈js,j < n0)(hnd:js.Nodup){m m':Nat}(h:rn js n0 m=rn js n0 m'):m=m':=by
 simp only [rn] at h;by_cases h1:m < js.length<;>by_cases h2:m' < js.length
 ·rw [List.getElem?_eq_getElem h1,List.getElem?_eq_getElem h2] at h;exact hMl hnd h1 h2 (by simpa using h)
 ·rw [List.getElem?_eq_getElem h1,List.getElem?_eq_none (by omega)] at h
  have:=hlt _ (List.getElem_mem h1)
  simp at h;omega
 ·rw [List.getElem?_eq_getElem h2,List.getElem?_eq_none (by omega)] at h
  have:=hlt _ (List.getElem_mem h2)
  simp at h;omega
 ·rw [List.getElem?_eq_none (by omega),List.getElem?_eq_none (by omega)] at h;simp at h;omega
end
end Go.Eng
