import Derived.Test.YtegahmhnmjnhhaaGreatTn
set_option maxHeartbeats 4000000
set_option linter.unusedVariables false
set_option linter.unusedSimpArgs false
set_option linter.unusedSectionVars false
namespace Go.Proofs.YtegahmhnmjnhhaaGreat
open Go Go.Eng
attribute [local irreducible] V VO VQ VY Quiet QR gY kR Rng mU mW mG
mutual
theorem hK7{l:List gG}{v:LB}:∀(t:gB),v∈tvs (apT l t)→(v∈tvs t∧v∉dom l)∨∃u∈tvs t,(lkp u l).2=true∧v∈tvs (lkp u l).1
 | ⟨k,n,ts⟩,h=>by
   have key:v∈gGc (gK4 l ts)→(v∈tvs ⟨k,n,ts⟩∧v∉dom l)∨∃u∈tvs ⟨k,n,ts⟩,(lkp u l).2=true∧v∈tvs (lkp u l).1:=fun h=>(hDk ts h).imp (fun h=>⟨by simp [tvs,h.1],h.2⟩) (fun⟨u,c,f⟩=>⟨u,by simp [tvs,c],f⟩);simp only [apT] at h;by_cases hk:k=1
   ·subst hk;cases hb:(lkp n l).2 with
    | true=>
      rw [hb] at h;simp only [beq_self_eq_true,gT] at h;exact .inr ⟨n,by simp [tvs],hb,h⟩
    | false=>
      rw [hb] at h;simp only [beq_self_eq_true,gT,gI,tvs,if_true,List.mem_append,List.mem_singleton] at h;rcases h with rfl | h
      ·refine .inl ⟨by simp [tvs],fun hd=>?_⟩;rw [hGo hd] at hb;cases hb
      ·exact key h
   ·rw [beq_false_of_ne hk] at h;simp only [gI,tvs,if_neg hk,List.nil_append] at h;exact key h
theorem hDk{l:List gG}{v:LB}:∀(ts:List gB),v∈gGc (gK4 l ts)→(v∈gGc ts∧v∉dom l)∨∃u∈gGc ts,(lkp u l).2=true∧v∈tvs (lkp u l).1
 | [],h=>by simp [gK4,gGc] at h
 | a::ts,h=>by
   simp only [gK4,gGc,List.mem_append] at h;rcases h with h | h
   ·exact(hK7 a h).imp (fun h=>⟨by simp [gGc,h.1],h.2⟩) (fun⟨u,c,f⟩=>⟨u,by simp [gGc,c],f⟩)
   ·exact(hDk ts h).imp (fun h=>⟨by simp [gGc,h.1],h.2⟩) (fun⟨u,c,f⟩=>⟨u,by simp [gGc,c],f⟩)
end
mutual
theorem gFf{p:LB→Bool}:∀(t:gB),gVa p t=true↔∃v∈tvs t,p v=true
 | ⟨k,n,ts⟩=>by
   simp only [gVa,Bool.or_eq_true,Bool.and_eq_true,beq_iff_eq,gYs ts,tvs,List.mem_append];constructor
   ·rintro(⟨rfl,h⟩ | ⟨v,c,f⟩)
    ·exact⟨n,.inl (by simp),h⟩
    ·exact⟨v,.inr c,f⟩
   ·rintro⟨v,c | c,f⟩
    ·split at c
     ·simp only [List.mem_singleton] at c;subst c;exact .inl ⟨by assumption,f⟩
     ·simp at c
    ·exact .inr ⟨v,c,f⟩
theorem gYs{p:LB→Bool}:∀(ts:List gB),gGf p ts=true↔∃v∈gGc ts,p v=true
 | []=>by simp [gGf,gGc]
 | a::ts=>by
   simp only [gGf,Bool.or_eq_true,gFf a,gYs ts,gGc,List.mem_append];constructor
   ·rintro(⟨v,c,f⟩ | ⟨v,c,f⟩)
    ·exact⟨v,.inl c,f⟩
    ·exact⟨v,.inr c,f⟩
   ·rintro⟨v,c | c,f⟩
    ·exact .inl ⟨v,c,f⟩
    ·exact .inr ⟨v,c,f⟩
end
def Tri(l:List gG):Prop:=∀(i:Nat)(b:gG),l[i]? =some b→b.var_∉dom (l.take i)∧∀v∈tvs b.type_,v∉dom (l.take (i+1))
def low(l:List gG)(k:Nat)(t:gB):Prop:=∀v∈tvs t,v∉dom (l.take k)
theorem hDm{l:List gG}{v:LB}{k:Nat}(h:v∈dom (l.take k)):v∈dom l:=by
 unfold dom at *;rw [List.map_take] at h;exact List.mem_of_mem_take h
theorem hOy{l:List gG}{v:LB}{j k:Nat}(hjk:j≤k)(h:v∈dom (l.take j)):v∈dom (l.take k):=by
 have:l.take j=(l.take k).take j:=by rw [List.take_take,Nat.min_eq_left hjk]
 rw [this] at h;exact hDm h
theorem hDo{v:LB}:∀{l:List gG},(lkp v l).2=true→∃(i:Nat)(b:gG),l[i]? =some b∧b.var_=v∧(lkp v l).1=b.type_
 | [],h=>by cases h
 | b::l,h=>by
   simp only [lkp] at h ⊢;cases hb:b.var_==v with
   | true=>exact⟨0,b,rfl,by simpa using hb,rfl⟩
   | false=>
     rw [hb] at h;obtain⟨i,c,f,y,h3⟩:=hDo (l:=l) h;exact⟨i+1,c,by simpa using f,y,h3⟩
theorem hW4{l:List gG}(hl:Tri l){k:Nat}{t:gB}(h:low l k t):low l (k+1) (apT l t):=by
 intro v hv hd;rcases hK7 t hv with ⟨_,c⟩ | ⟨u,h1,c,f⟩
 ·exact c (hDm hd)
 ·obtain⟨i,b,y,g2,g3⟩:=hDo c;rw [g3] at f;have hik:k≤i:=by
   rcases Nat.lt_or_ge i k with hlt | hge
   ·exfalso;refine h u h1 ?_
    unfold dom;have hg:(l.take k)[i]? =some b:=by rw [List.getElem?_take];rw [if_pos hlt];exact y
    exact List.mem_map.2 ⟨b,List.mem_of_getElem? hg,g2⟩
   ·exact hge
  exact(hl i b y).2 v f (hOy (by omega) hd)
def jD0(l:List gG):Prop:=∀b∈l,isInf b.var_=true
theorem hDp(l:List gG)(v:LB):hasB l v=true↔v∈dom l:=by
 unfold hasB dom;simp only [List.any_eq_true,beq_iff_eq,List.mem_map]
theorem hW5{l:List gG}{t:gB}(h:∀v∈tvs t,v∉dom l):zbd l t=false:=by
 cases hz:zbd l t with
 | false=>rfl
 | true=>
   obtain⟨v,f,c⟩:=(gFf t).1 hz;unfold zp at c;simp only [Bool.and_eq_true] at c;exact absurd ((hDp l v).1 c.2) (h v f)
theorem gNl{l:List gG}(hi:jD0 l){t:gB}(h:zbd l t=false):∀v∈tvs t,v∉dom l:=by
 intro v hv hd
 have:zbd l t=true:=(gFf t).2 ⟨v,hv,by
  unfold zp;rw [(hDp l v).2 hd,Bool.and_true];obtain⟨b,c,rfl⟩:=List.mem_map.1 hd
  exact hi b c⟩
 rw [h] at this;cases this
theorem gLr{l:List gG}(hl:Tri l):∀(n k:Nat)(t:gB),low l k t→l.length≤k+n→zbd l (zk l n t)=false∨¬tsz (zk l n t) < 4000
 | 0,k,t,h,hk=>.inl (hW5 (by rw [zk];intro v hv hd;exact h v hv (by rw [List.take_of_length_le (by omega)];exact hd)))
 | n+1,k,t,h,hk=>by
   rw [zk];cases hz:zbd l t with
   | false=>simp only [Bool.false_and,gI];exact .inl hz
   | true=>
     cases hs:decide (tsz t < 4000)with
     | false=>simp only [Bool.and_false,gI];exact .inr (of_decide_eq_false hs)
     | true=>simp only [Bool.and_self,gT];exact gLr hl n (k+1) _ (hW4 hl h) (by omega)
theorem gNm{l:List gG}{t:gB}(n:Nat)(h:zbd l t=false∨¬tsz t < 4000):zk l n t=t:=by
 cases n with
 | zero=>rfl
 | succ n=>
   rw [zk];rcases h with h | h
   ·rw [h];rfl
   ·rw [show decide (tsz t < 4000)=false from decide_eq_false h,Bool.and_false,gI]
mutual
theorem hQx{V:LS}{l:List gG}(hl:∀b∈l,DT V b.type_):∀(t:gB),DT V t→DT V (apT l t)
 | ⟨k,n,ts⟩,h=>by
   have c:DT V ⟨k,n,gK4 l ts⟩:=hXu h (hK8 hl ts (fun u hu=>gE7 h u hu)) (hEt l ts);simp only [apT];cases k==1 with
   | false=>exact c
   | true=>
     rw [gT];cases hb:(lkp n l).2 with
     | false=>exact c
     | true=>
       obtain⟨b,f,_,y⟩:=gL6 hb;rw [gT,y];exact hl b f
theorem hK8{V:LS}{l:List gG}(hl:∀b∈l,DT V b.type_):∀(ts:List gB),(∀t∈ts,DT V t)→∀t∈gK4 l ts,DT V t
 | [],_,t,h=>by simp [gK4] at h
 | a::ts,h,t,ht=>by
   simp only [gK4,List.mem_cons] at ht;rcases ht with rfl | ht
   ·exact hQx hl a (h a (by simp))
   ·exact hK8 hl ts (fun t ht=>h t (by simp [ht])) t ht
end
theorem gYt{V:LS}{l:List gG}(hl:∀b∈l,DT V b.type_):∀(n:Nat)(t:gB),DT V t→DT V (zk l n t)
 | 0,t,h=>h
 | n+1,t,h=>by
   rw [zk];cases zbd l t && decide (tsz t < 4000)with
   | false=>exact h
   | true=>exact gYt hl n _ (hQx hl t h)
theorem gQg{l:List gG}(c:gU4 2000 l):∀(n:Nat)(t:gB),tnd t≤8000000→tnd (zk l n t)≤8000000
 | 0,t,h=>h
 | n+1,t,h=>by
   rw [zk];cases hc:zbd l t && decide (tsz t < 4000)with
   | false=>exact h
   | true=>
     simp only [Bool.and_eq_true,decide_eq_true_eq] at hc;rw [uN t (by omega)] at hc;have f:=hBu c t;have y:2000*tnd t≤2000*4000:=Nat.mul_le_mul_left 2000 (by omega);exact gQg c n _ (by omega)
mutual
theorem hDq(v:LB):∀(n:Nat)(t:gB),tnd t≤n→tnd t≤4294967296→uC n t v=some (((tvs t).count v:Nat):Int)
 | 0,t,h,_=>by have:=gBs t;omega
 | n+1,⟨k,s,ts⟩,h,hb=>by
   simp only [tnd] at h hb;rw [uC];unfold zX;simp only [lt_];have key:∀y:Nat,y≤1→mR (uC n) v ts (y:Int)=some ((y+(gGc ts).count v:Nat):Int):=fun y hy=>gYu v n ts y (by omega) (by omega);by_cases hk:k=1
   ·subst hk;rw [beq_self_eq_true,gT];by_cases hs:s=v
    ·subst hs;rw [beq_self_eq_true,gT];simp only [bnd];rw [show (1:Int)=((1:Nat):Int)from rfl,key 1 (by omega)];simp [tvs];omega
    ·rw [beq_false_of_ne hs,gI];simp only [bnd];rw [show (0:Int)=((0:Nat):Int)from rfl,key 0 (by omega)];simp [tvs,List.count_cons,hs]
   ·rw [beq_false_of_ne hk,gI,gI];simp only [bnd];rw [show (0:Int)=((0:Nat):Int)from rfl,key 0 (by omega)];simp [tvs,hk]
theorem gYu(v:LB):∀(n:Nat)(ts:List gB)(y:Nat),gAb ts≤n→y+gAb ts≤4294967296→mR (uC n) v ts (y:Int)=some ((y+(gGc ts).count v:Nat):Int)
 | n,[],y,_,_=>by simp [mR,gGc]
 | n,a::ts,y,h,hb=>by
   simp only [gAb] at h hb;have c:=gZr a;have f:(tvs a).count v≤(tvs a).length:=List.count_le_length;rw [mR,jO (hDq v n a (by omega) (by omega)),show IntKind.i64.wrap ((y:Int)+(((tvs a).count v:Nat):Int))=((y+(tvs a).count v:Nat):Int)from by rw [qR _ (by omega) (by omega)];omega];rw [gYu v n ts (y+(tvs a).count v) (by omega) (by omega)];simp only [gGc,List.count_append];congr 2;omega
end
theorem hK9{v:LB}{t:gB}(h:tnd t≤5000):gEw v t=some (decide (v∈tvs t)):=by
 unfold gEw;rw [jO (hDq v 5000 t h (by omega))];congr 1;by_cases hm:v∈tvs t
 ·have:=List.count_pos_iff.2 hm
  rw [decide_eq_true hm];exact decide_eq_true (by omega)
 ·rw [decide_eq_false hm,List.count_eq_zero_of_not_mem hm];rfl
def gFx(c:kI→Option (gD)):List kI→(List gD)→Option (LB × List gD)
 | [],f=>(some ([],f))
 | y::xs,f=>bnd (c y) fun h=>
gd (f.length+[h].length≤4294967296) (
gFx c xs (f++[h]))
def gS4(f:(List gD)→(List kI)→Option (LB × List gD))(c:kI→Option (gD))(l0:List gD)(list:List kI):Option (LB × List gD):=
gFx c list l0
def gS5(c:(List gD)→(List kI)→Option (LB × List gD)):Prop:=∀(h:List gD)(y:List kI)(f:Nat){r:LB × List gD},c h y=some r→Go.Eng.Spec Tryz.prog 229 [.sl 0 f,.L 9 (gCa y)] [.arr 135 2 f (gX h)] (fun sv Lo=>sv=.ag [.S r.1,.sl 0 (f+1)]∧Lo=[.arr 135 2 (f+1) (gX r.2)])
def gWm(c:kI→Option (gD)):Prop:=∀(f:kI){r:gD},c f=some r→gY Tryz.prog 209 [.d (gCy f)] [pJ r]
theorem hLa{f}{c}(ab:gS5 f)(y:gWm c)(l0:List gD)(list:List kI)(v0:Nat){r:LB × List gD}(h:gS4 f c l0 list=some r):Go.Eng.Spec Tryz.prog 229 [.sl 0 v0,.L 9 (gCa list)] [.arr 135 2 v0 (gX l0)] (fun sv Lo=>sv=.ag [.S r.1,.sl 0 (v0+1)]∧Lo=[.arr 135 2 (v0+1) (gX r.2)]):=by
 unfold gS4 at h;refine Spec.verF (g:=fun v'=>.ag [.S r.1,.sl 0 v']) ?_ (fun _ _ _ _ _ hh=>hWr hh);refine kF 1 Tryz.func229 rfl (by kernel_rfl) rfl rfl fun A _=>?_;refine goL ?_;refine gBn (jX TBd.h TZ.h rfl (by repeat constructor)) ?_;refine noB ?_;refine gB0 1 (fun z4=>?_);refine kS (fun(y3:Nat)(y1:List gD)(v2:Nat)=>⟨[(1,.L 9 (gCa list)),(4,.ptr 1 0),(5,.ptr 2 0),(6,.N y3)],[.arr 135 2 v2 (gX y1),.box [.S [],.nilsl],.box [.S [],.sl 0 v2]],Tryz.f229.ntmps⟩) (fun y3 y1 v2=>gFx c (list.drop y3) y1=some r) (fun y3 y1 v2=>list.length - y3) 0 l0 v0 eJ h ?_;rintro y3 y1 v2 h;refine goL ?_;refine kX (fun c5=>?_) (fun c5=>?_)
 ·have aa:=uR c5;obtain⟨x6,ap,ak⟩:=drop_at aa;rw [ak,gFx.eq_2] at h;obtain⟨ar,au,av,aw,⟨al,am,an⟩,ax,ay⟩:=x6;refine noS ?_;refine jY (jA ?_);refine uM (P:=Tryz.prog) Mix.h [(0,true),(1,true),(2,true),(3,true),(4,true),(5,true),(6,true),(7,false),(8,false),(9,true),(10,false)] (by kernel_rfl) ?_;refine goY ?_;refine jF rfl (jJ y3 (hAg ap)) ?_;refine goY ?_;obtain⟨⟨ae,ah⟩,aq,h⟩:=gM h;refine jF rfl (gF (y _ aq)) ?_;refine qE (T:=133) (us:=gX [(gD.mk ae ah)]) ?_;obtain⟨g8,h⟩:=mY h;refine pW (T:=133) g8 ?_;refine goY ?_;refine kQ ?_;refine goL ?_;refine jI (jW y3 (by omega)) ?_;exact⟨(y3+1),(y1++[(gD.mk ae ah)]),(v2+1),h,by omega,eJ⟩
 ·have aa:=uS c5;rw [jC aa,gFx.eq_1] at h;refine goX ?_;refine jG ?_;obtain rfl:=Option.some.inj h;exact yK [.ag [.S [],.sl 0 v2]] _ ⟨v2,rfl,rfl⟩
def gJq(c:kI→Option (gD))(ac:LB × List gD):List gO7→(List gD)→Option (gD)
 | [],f=>(some (gD.mk ac.1 f))
 | aa::xs,f=>lt_ (mF aa.constructor) fun h=>
bnd (gN0 aa.vars) fun y=>
gd ([h].length+y.length≤4294967296) (
bnd (c aa.body) fun ab=>
gd (([h]++y).length+[ab].length≤4294967296) (
gd (f.length+[(gD.mk [] (([h]++y)++[ab]))].length≤4294967296) (
gJq c ac xs (f++[(gD.mk [] (([h]++y)++[ab]))]))))
def hAz(c:(List gD)→(List kI)→Option (LB × List gD))(h:kI→Option (gD))(f:kI):Option (gD):=
(cnd (f.kind==1) (
gd (gGi f.n) (lt_ (mF (Lib.itoa f.n)) fun x3=>
(some x3))) (
(cnd (f.kind==2) (
bnd (at? [[102,97,108,115,101],[116,114,117,101]] f.n) fun x5=>
lt_ (mF x5) fun x6=>
(some x6)) (
(cnd (f.kind==3) (
lt_ (mF f.name) fun x8=>
(some x8)) (
(cnd (f.kind==4) (
lt_ (mF [99,97,108,108]) fun aj=>
lt_ (mF f.name) fun ak=>
bnd (c [aj,ak] f.args) fun y=>
(some (gD.mk y.1 y.2))) (
(cnd (f.kind==5) (
lt_ (mF [109,101,116,104,111,100]) fun al=>
lt_ (mF f.trait) fun am=>
lt_ (mF f.name) fun an=>
bnd (c [al,am,an] f.args) fun aa=>
(some (gD.mk aa.1 aa.2))) (
(cnd (f.kind==6) (
lt_ (mF [110,101,119]) fun ao=>
lt_ (mF f.name) fun ap=>
bnd (c [ao,ap] f.args) fun ab=>
(some (gD.mk ab.1 ab.2))) (
(cnd (f.kind==8) (
lt_ (mF [108,101,116]) fun aq=>
lt_ (mF f.name) fun ar=>
bnd (c [aq,ar] f.args) fun ac=>
(some (gD.mk ac.1 ac.2))) (
(cnd (f.kind==9) (
lt_ (mF [105,102]) fun au=>
bnd (c [au] f.args) fun ad=>
(some (gD.mk ad.1 ad.2))) (
(cnd (f.kind==10) (
lt_ (mF f.name) fun av=>
bnd (c [av] f.args) fun ae=>
(some (gD.mk ae.1 ae.2))) (
(cnd (f.kind==11) (
lt_ (mF [112,97,99,107]) fun aw=>
lt_ (mF f.trait) fun ax=>
bnd (c [aw,ax] f.args) fun ag=>
(some (gD.mk ag.1 ag.2))) (
(cnd (f.kind==12) (
lt_ (mF [116,104,101]) fun ay=>
bnd (gM1 5000 f.type_) fun a3=>
bnd (c [ay,a3] f.args) fun ah=>
(some (gD.mk ah.1 ah.2))) (
lt_ (mF [99,97,115,101]) fun a4=>
bnd (c [a4] f.args) fun ai=>
gJq h ai f.arms ai.2))))))))))))))))))))))
theorem hT8{ak}{aj}(c:gS5 ak)(ar:gWm aj)(a0:kI){r:gD}(h:hAz ak aj a0=some r):gY Tryz.prog 209 [.d (gCy a0)] [pJ r]:=by
 obtain⟨ai,ad,ac,ae,⟨y,aa,ab⟩,f,ah⟩:=a0;unfold hAz at h;refine SpI Tryz.func209 fun A _=>?_;refine goL ?_;refine jA ?_;refine goC h ?_ ?_<;>intro c1 h
 ·refine goL ?_;obtain⟨g2,h⟩:=mY h;refine qK (gF (gK6 ae g2)) ?_;obtain⟨⟨d2,d3⟩,du,h⟩:=qA h;have sx3:=mO (Lib.itoa ae);rw [du] at sx3;refine qK (gF (sx3)) ?_;exact goR h
 ·refine goC h ?_ ?_<;>intro c4 h
  ·refine goL ?_;refine gPz (us:=jL [[102,97,108,115,101],[116,114,117,101]]) ?_;refine goL ?_;obtain⟨x5,b1,h⟩:=gM h;obtain⟨co,b1⟩:=gDy b1;refine zZ (gYl co (List.getElem?_eq_some_iff.1 b1).1) ?_;refine zZ (hOp b1) ?_;obtain⟨⟨d4,d5⟩,dv,h⟩:=qA h;have sx6:=mO x5;rw [dv] at sx6;refine qK (gF (sx6)) ?_;exact goR h
  ·refine goC h ?_ ?_<;>intro c7 h
   ·refine goL ?_;obtain⟨⟨d6,d7⟩,dw,h⟩:=qA h;have sx8:=mO ac;rw [dw] at sx8;refine qK (gF (sx8)) ?_;exact goR h
   ·refine goC h ?_ ?_<;>intro c9 h
    ·refine jK (P:=Tryz.prog) Mix.h [(0,true),(1,true),(2,true),(3,true),(5,true),(6,true),(4,false),(7,false),(8,false)] (by kernel_rfl) ?_;obtain⟨⟨a4,a5⟩,cp,h⟩:=qA h;have sx10:=mO [99,97,108,108];rw [cp] at sx10;refine jF rfl (gF (sx10)) ?_;refine goY ?_;obtain⟨⟨a6,a7⟩,cq,h⟩:=qA h;have sx11:=mO ac;rw [cq] at sx11;refine jF rfl (gF (sx11)) ?_;refine goY ?_;refine qE (T:=133) (us:=gX [(gD.mk a4 a5),(gD.mk a6 a7)]) ?_;obtain⟨⟨b2,b3⟩,cr,h⟩:=gM h;refine gC5 (sv:=.ag [.S b2,.sl 2 (0+1)]) (L':=[bEx ai ad ac ae y aa ab f ah,.box [.S [],.nilsl],.arr 135 2 (0+1) (gX b3)]) [2] (c [(gD.mk a4 a5),(gD.mk a6 a7)] f 0 cr) ?_;refine goY ?_;refine kQ ?_;refine goL ?_;refine kP 2 rfl rfl ?_;refine jG ?_;cases h;exact qD
    ·refine goC h ?_ ?_<;>intro ea h
     ·refine jK (P:=Tryz.prog) Mix.h [(0,true),(1,true),(2,true),(3,true),(4,true),(5,true),(6,true),(8,true),(9,true),(7,false),(10,false),(11,false)] (by kernel_rfl) ?_;obtain⟨⟨a8,a9⟩,cs,h⟩:=qA h;have sx14:=mO [109,101,116,104,111,100];rw [cs] at sx14;refine jF rfl (gF (sx14)) ?_;refine goY ?_;obtain⟨⟨ba,bb⟩,ct,h⟩:=qA h;have sx15:=mO ad;rw [ct] at sx15;refine jF rfl (gF (sx15)) ?_;refine goY ?_;obtain⟨⟨bc,bd⟩,cu,h⟩:=qA h;have sx16:=mO ac;rw [cu] at sx16;refine jF rfl (gF (sx16)) ?_;refine goY ?_;refine qE (T:=133) (us:=gX [(gD.mk a8 a9),(gD.mk ba bb),(gD.mk bc bd)]) ?_;obtain⟨⟨b4,b5⟩,cv,h⟩:=gM h;refine gC5 (sv:=.ag [.S b4,.sl 2 (0+1)]) (L':=[bEx ai ad ac ae y aa ab f ah,.box [.S [],.nilsl],.arr 135 2 (0+1) (gX b5)]) [2] (c [(gD.mk a8 a9),(gD.mk ba bb),(gD.mk bc bd)] f 0 cv) ?_;refine goY ?_;refine kQ ?_;refine goL ?_;refine kP 2 rfl rfl ?_;refine jG ?_;cases h;exact qD
     ·refine goC h ?_ ?_<;>intro eb h
      ·refine jK (P:=Tryz.prog) Mix.h [(0,true),(1,true),(2,true),(3,true),(5,true),(6,true),(4,false),(7,false),(8,false)] (by kernel_rfl) ?_;obtain⟨⟨be,bf⟩,cw,h⟩:=qA h;have sx19:=mO [110,101,119];rw [cw] at sx19;refine jF rfl (gF (sx19)) ?_;refine goY ?_;obtain⟨⟨bg,bh⟩,cx,h⟩:=qA h;have sx20:=mO ac;rw [cx] at sx20;refine jF rfl (gF (sx20)) ?_;refine goY ?_;refine qE (T:=133) (us:=gX [(gD.mk be bf),(gD.mk bg bh)]) ?_;obtain⟨⟨b6,b7⟩,cy,h⟩:=gM h;refine gC5 (sv:=.ag [.S b6,.sl 2 (0+1)]) (L':=[bEx ai ad ac ae y aa ab f ah,.box [.S [],.nilsl],.arr 135 2 (0+1) (gX b7)]) [2] (c [(gD.mk be bf),(gD.mk bg bh)] f 0 cy) ?_;refine goY ?_;refine kQ ?_;refine goL ?_;refine kP 2 rfl rfl ?_;refine jG ?_;cases h;exact qD
      ·refine goC h ?_ ?_<;>intro ec h
       ·refine jK (P:=Tryz.prog) Mix.h [(0,true),(1,true),(2,true),(3,true),(5,true),(6,true),(4,false),(7,false),(8,false)] (by kernel_rfl) ?_;obtain⟨⟨bi,bj⟩,cz,h⟩:=qA h;have sx23:=mO [108,101,116];rw [cz] at sx23;refine jF rfl (gF (sx23)) ?_;refine goY ?_;obtain⟨⟨bk,bl⟩,c0,h⟩:=qA h;have sx24:=mO ac;rw [c0] at sx24;refine jF rfl (gF (sx24)) ?_;refine goY ?_;refine qE (T:=133) (us:=gX [(gD.mk bi bj),(gD.mk bk bl)]) ?_;obtain⟨⟨b8,b9⟩,c2,h⟩:=gM h;refine gC5 (sv:=.ag [.S b8,.sl 2 (0+1)]) (L':=[bEx ai ad ac ae y aa ab f ah,.box [.S [],.nilsl],.arr 135 2 (0+1) (gX b9)]) [2] (c [(gD.mk bi bj),(gD.mk bk bl)] f 0 c2) ?_;refine goY ?_;refine kQ ?_;refine goL ?_;refine kP 2 rfl rfl ?_;refine jG ?_;cases h;exact qD
       ·refine goC h ?_ ?_<;>intro ed h
        ·refine jK (P:=Tryz.prog) Mix.h [(0,true),(2,true),(3,true),(1,false),(4,false),(5,false)] (by kernel_rfl) ?_;obtain⟨⟨bm,bn⟩,c3,h⟩:=qA h;have sx27:=mO [105,102];rw [c3] at sx27;refine jF rfl (gF (sx27)) ?_;refine goY ?_;refine qE (T:=133) (us:=gX [(gD.mk bm bn)]) ?_;obtain⟨⟨ca,cb⟩,c5,h⟩:=gM h;refine gC5 (sv:=.ag [.S ca,.sl 2 (0+1)]) (L':=[bEx ai ad ac ae y aa ab f ah,.box [.S [],.nilsl],.arr 135 2 (0+1) (gX cb)]) [2] (c [(gD.mk bm bn)] f 0 c5) ?_;refine goY ?_;refine kQ ?_;refine goL ?_;refine kP 2 rfl rfl ?_;refine jG ?_;cases h;exact qD
        ·refine goC h ?_ ?_<;>intro ee h
         ·refine jK (P:=Tryz.prog) Mix.h [(0,true),(1,true),(2,true),(4,true),(5,true),(3,false),(6,false),(7,false)] (by kernel_rfl) ?_;refine goY ?_;obtain⟨⟨bo,bp⟩,c6,h⟩:=qA h;have sx30:=mO ac;rw [c6] at sx30;refine jF rfl (gF (sx30)) ?_;refine goY ?_;refine qE (T:=133) (us:=gX [(gD.mk bo bp)]) ?_;obtain⟨⟨cc,cd⟩,c8,h⟩:=gM h;refine gC5 (sv:=.ag [.S cc,.sl 2 (0+1)]) (L':=[bEx ai ad ac ae y aa ab f ah,.box [.S [],.nilsl],.arr 135 2 (0+1) (gX cd)]) [2] (c [(gD.mk bo bp)] f 0 c8) ?_;refine goY ?_;refine kQ ?_;refine goL ?_;refine kP 2 rfl rfl ?_;refine jG ?_;cases h;exact qD
         ·refine goC h ?_ ?_<;>intro ef h
          ·refine jK (P:=Tryz.prog) Mix.h [(0,true),(1,true),(2,true),(3,true),(5,true),(6,true),(4,false),(7,false),(8,false)] (by kernel_rfl) ?_;obtain⟨⟨bq,br⟩,da,h⟩:=qA h;have sx33:=mO [112,97,99,107];rw [da] at sx33;refine jF rfl (gF (sx33)) ?_;refine goY ?_;obtain⟨⟨bt,bu⟩,db,h⟩:=qA h;have sx34:=mO ad;rw [db] at sx34;refine jF rfl (gF (sx34)) ?_;refine goY ?_;refine qE (T:=133) (us:=gX [(gD.mk bq br),(gD.mk bt bu)]) ?_;obtain⟨⟨ce,cf⟩,dc,h⟩:=gM h;refine gC5 (sv:=.ag [.S ce,.sl 2 (0+1)]) (L':=[bEx ai ad ac ae y aa ab f ah,.box [.S [],.nilsl],.arr 135 2 (0+1) (gX cf)]) [2] (c [(gD.mk bq br),(gD.mk bt bu)] f 0 dc) ?_;refine goY ?_;refine kQ ?_;refine goL ?_;refine kP 2 rfl rfl ?_;refine jG ?_;cases h;exact qD
          ·refine goC h ?_ ?_<;>intro eg h
           ·refine jK (P:=Tryz.prog) Mix.h [(0,true),(1,true),(2,true),(3,true),(5,true),(6,true),(4,false),(7,false),(8,false)] (by kernel_rfl) ?_;obtain⟨⟨bv,bw⟩,dd,h⟩:=qA h;have sx37:=mO [116,104,101];rw [dd] at sx37;refine jF rfl (gF (sx37)) ?_;refine goY ?_;obtain⟨⟨bx,bz⟩,de,h⟩:=gM h;refine jF rfl (gF (gKu _ _ de)) ?_;refine goY ?_;refine qE (T:=133) (us:=gX [(gD.mk bv bw),(gD.mk bx bz)]) ?_;obtain⟨⟨cg,ch⟩,df,h⟩:=gM h;refine gC5 (sv:=.ag [.S cg,.sl 2 (0+1)]) (L':=[bEx ai ad ac ae y aa ab f ah,.box [.S [],.nilsl],.arr 135 2 (0+1) (gX ch)]) [2] (c [(gD.mk bv bw),(gD.mk bx bz)] f 0 df) ?_;refine goY ?_;refine kQ ?_;refine goL ?_;refine kP 2 rfl rfl ?_;refine jG ?_;cases h;exact qD
           ·refine noS ?_;obtain⟨⟨an,ao⟩,dg,h⟩:=qA h;have sx40:=mO [99,97,115,101];rw [dg] at sx40;obtain⟨⟨al,am⟩,b0,h⟩:=gM h;refine qJ (P:=Tryz.prog) Mix.h (.q 0 (.q 2 (.q 3 (.h 1 (.h 4 (.h 5 (.h 6 .nil .nil) .nil) (.h 5 (.h 4 (.h 6 .nil .nil) .nil) .nil)) (.h 5 (.h 1 (.h 4 (.h 6 .nil .nil) .nil) .nil) .nil))))) ⟨[(1,.ptr 0 0),(2,.ptr 1 0),(3,.ptr 3 0)],[bEx ai ad ac ae y aa ab f ah,.box [.S [],.nilsl],.arr 135 2 (0+1) (gX am),.box [.S al,.sl 2 (0+1)]],Tryz.f209.ntmps⟩ (by kernel_rfl) ?_ ?_
            ·refine gAt (jF rfl (gF (sx40)) jU) ?_;refine goT ?_;refine uV (qE (T:=133) (us:=gX [(gD.mk an ao)]) jU) ?_ ?_
             ·refine uV (gC5 (sv:=.ag [.S al,.sl 2 (0+1)]) (L':=[bEx ai ad ac ae y aa ab f ah,.box [.S [],.nilsl],.arr 135 2 (0+1) (gX am)]) [2] (c [(gD.mk an ao)] f 0 b0) jU) ?_ ?_
              ·refine goT ?_;refine jV ?_;exact qX 0 [0,1,2,3]
              refine goT ?_;refine jR (gC5 (sv:=.ag [.S al,.sl 2 (0+1)]) (L':=[bEx ai ad ac ae y aa ab f ah,.box [.S [],.nilsl],.arr 135 2 (0+1) (gX am),.box [.S [],.nilsl]]) [2] (c [(gD.mk an ao)] f 0 b0) jU) ?_;refine goT ?_;refine jV ?_;exact qX 0 [0,1,2,3]
             refine goT ?_;refine jR (qE (T:=133) (us:=gX [(gD.mk an ao)]) jU) ?_;refine jR (gC5 (sv:=.ag [.S al,.sl 3 (0+1)]) (L':=[bEx ai ad ac ae y aa ab f ah,.box [.S [],.nilsl],.box [.S [],.nilsl],.arr 135 2 (0+1) (gX am)]) [3] (c [(gD.mk an ao)] f 0 b0) jU) ?_;refine goT ?_;refine jV ?_;exact qX 0 [0,1,3,2]
            refine goL ?_;refine noB ?_;refine wJ 0 8 (fun eh=>?_);refine kS (fun(ap:Nat)(ay:List gD)(a3:Nat)=>⟨[(1,.ptr 0 0),(2,.ptr 1 0),(3,.ptr 3 0),(4,.N ap)],[bEx ai ad ac ae y aa ab f ah,.box [.S [],.nilsl],.arr 135 2 a3 (gX ay),.box [.S al,.sl 2 a3]],Tryz.f209.ntmps⟩) (fun ap ay a3=>gJq aj (al,am) (ah.drop ap) ay=some r) (fun ap ay a3=>ah.length - ap) 0 am (0+1) eJ h ?_;rintro ap ay a3 h;refine goL ?_;refine kX (fun ci=>?_) (fun ci=>?_)
            ·have aq:=uR ci;obtain⟨dx,dh,cj⟩:=drop_at aq;rw [cj,gJq.eq_2] at h;obtain⟨ck,dy,⟨di,dj,dk,dl,⟨cl,cm,cn⟩,dm,dn⟩⟩:=dx;refine noS ?_;refine jY (jA ?_);refine goL ?_;refine qK (jJ ap (hJk dh)) ?_;refine gId ?_;refine jK (P:=Tryz.prog) Mix.h [(0,true),(1,true),(2,true),(4,true),(5,true),(6,true),(3,false),(7,false),(8,true)] (by kernel_rfl) ?_;refine goY ?_;obtain⟨⟨au,av⟩,dp,h⟩:=qA h;have sx48:=mO ck;rw [dp] at sx48;refine jF rfl (gF (sx48)) ?_;refine goY ?_;obtain⟨dq,dr,h⟩:=gM h;refine jF rfl (gF (gXh _ dr)) ?_;refine qE (T:=133) (us:=gX [(gD.mk au av)]) ?_;obtain⟨dz,h⟩:=mY h;refine pW (T:=133) dz ?_;refine goY ?_;refine kQ ?_;refine gId ?_;refine uM (P:=Tryz.prog) Mix.h [(0,true),(1,true),(2,true),(3,true),(4,true),(5,true),(6,false),(7,false),(8,true),(9,false),(10,false),(11,true),(12,false)] (by kernel_rfl) ?_;refine goY ?_;obtain⟨⟨aw,ax⟩,ds,h⟩:=gM h;refine jF rfl (gF (ar _ ds)) ?_;refine qE (T:=133) (us:=gX [(gD.mk aw ax)]) ?_;obtain⟨d0,h⟩:=mY h;refine pW (T:=133) d0 ?_;refine goY ?_;refine gBe 5 rfl rfl ?_;refine qE (T:=133) (us:=gX [(gD.mk [] (([(gD.mk au av)]++dq)++[(gD.mk aw ax)]))]) ?_;obtain⟨d1,h⟩:=mY h;refine pW (T:=133) d1 ?_;refine goY ?_;refine kQ ?_;refine goL ?_;refine jI (jW ap (by omega)) ?_;exact⟨(ap+1),(ay++[(gD.mk [] (([(gD.mk au av)]++dq)++[(gD.mk aw ax)]))]),(a3+1),h,by omega,eJ⟩
            ·have aq:=uS ci;rw [jC aq,gJq.eq_1] at h;refine goX ?_;refine kP 2 rfl rfl ?_;refine jG ?_;cases h;exact qD
mutual
def gS6:Nat→(List gD)→(List kI)→Option (LB × List gD)
 | 0,_,_=>none
 | n+1,c,f=>gS4 (gS6 n) (gNn n) c f
def gNn:Nat→kI→Option (gD)
 | 0,_=>none
 | n+1,c=>hAz (gS6 n) (gNn n) c
end
theorem hFx:∀(n:Nat),gS5 (gS6 n)∧gWm (gNn n):=by
 intro n
 induction n with
 | zero=>exact⟨(by intro c f y r h;cases h),(by intro c r h;cases h)⟩
 | succ n ih=>
   obtain⟨ih0,ih1⟩:=ih;refine⟨(fun c f y r h=>hLa ih0 ih1 c f y h),(fun c r h=>hT8 ih0 ih1 c h)⟩
theorem hA4:∀(n:Nat),gWm (gNn n):=fun n=>(hFx n).2
def gC6:List gD→(List gW)→Option (List gW)
 | [],c=>(some c)
 | f::xs,c=>bnd (qM f 0) fun h=>
bnd (qM f 1) fun x8=>
bnd (gM4 5000 x8) fun y=>
gd (c.length+[(gW.mk h.atom y)].length≤4294967296) (
gC6 xs (c++[(gW.mk h.atom y)]))
def gKb(c:gD):Option (List gW):=
gC6 c.list []
theorem gS7(a0:gD){r:List gW}(h:gKb a0=some r):gY Tryz.prog 172 [.d (pJ a0)] [.sl 4 (kY r)]:=by
 obtain⟨ah,f⟩:=a0;unfold gKb at h;refine SpI Tryz.func172 fun A _=>?_;refine goL ?_;refine gAp ?_;refine goL ?_;refine noB ?_;refine wJ 0 1 (fun z4=>?_);refine kS (fun(y:Nat)(y1:List gW)(v2:Nat)=>⟨[(1,.ptr 0 0),(3,.sl 1 v2),(4,.N y)],[bSx ah f,.arr 73 4 v2 (kY y1)],Tryz.f172.ntmps⟩) (fun y y1 v2=>gC6 (f.drop y) y1=some r) (fun y y1 v2=>f.length - y) 0 [] 0 eJ h ?_;rintro y y1 v2 h;refine goL ?_;refine kX (fun c5=>?_) (fun c5=>?_)
 ·have c:=uR c5;obtain⟨x6,ai,aj⟩:=drop_at c;rw [aj,gC6.eq_2] at h;obtain⟨aq,ar⟩:=x6;refine noS ?_;refine jY (jA ?_);refine uM (P:=Tryz.prog) Mix.h [(0,true),(1,true),(2,true),(3,true),(4,true),(5,true),(6,true),(7,true),(8,true),(9,true),(10,true),(11,true),(12,true),(13,true),(14,true),(15,true),(16,false),(17,false),(18,true)] (by kernel_rfl) ?_;refine goY ?_;refine jF rfl (jJ y (uK ai)) ?_;refine goY ?_;obtain⟨⟨aa,au⟩,am,h⟩:=gM h;refine jF rfl (gF (uB _ _ am)) ?_;refine jF rfl (gIq) ?_;refine goY ?_;refine jF rfl (jJ y (uK ai)) ?_;refine goY ?_;obtain⟨⟨av,aw⟩,an,h⟩:=gM h;refine jF rfl (gF (uB _ _ an)) ?_;obtain⟨⟨ab,ac,ad⟩,ao,h⟩:=gM h;refine jF rfl (gF (gQl _ _ ao)) ?_;refine goY ?_;refine qE (T:=27) (us:=kY [(gW.mk aa (gB.mk ab ac ad))]) ?_;obtain⟨ap,h⟩:=mY h;refine pW (T:=27) ap ?_;refine goY ?_;refine kQ ?_;refine goL ?_;refine jI (jW y (by omega)) ?_;exact⟨(y+1),(y1++[(gW.mk aa (gB.mk ab ac ad))]),(v2+1),h,by omega,eJ⟩
 ·have c:=uS c5;rw [jC c,gC6.eq_1] at h;refine goX ?_;refine kP 1 rfl rfl ?_;refine jG ?_;cases h;exact qD
def gEg:List gW→(List gD)→Option (gD)
 | [],c=>(some (gD.mk [] c))
 | f::xs,c=>lt_ (mF f.trait) fun y=>
bnd (gM1 5000 f.type_) fun x8=>
bnd (gIx [y,x8]) fun h=>
gd (c.length+[h].length≤4294967296) (
gEg xs (c++[h]))
def gMl(c:List gW):Option (gD):=
gEg c []
theorem gE5(a0:List gW){r:gD}(h:gMl a0=some r):gY Tryz.prog 211 [.L 4 (kY a0)] [pJ r]:=by
 unfold gMl at h;refine SpI Tryz.func211 fun A _=>?_;refine goL ?_;refine gBn (jX TBd.h TZ.h rfl (by repeat constructor)) ?_;refine noB ?_;refine yT 135 2 1 1 rfl rfl (by repeat constructor) (by repeat constructor) (by repeat constructor) (by repeat constructor) ?_;show V _ _ _ _ _;refine gB0 0 (fun z4=>?_);refine kS (fun(f:Nat)(y1:List gD)(v2:Nat)=>⟨[(0,.L 4 (kY a0)),(2,.ptr 0 0),(3,.ptr 1 0),(4,.N f)],[.box [.S [],.nilsl],.box [.S [],.sl 2 v2],.arr 135 2 v2 (gX y1)],Tryz.f211.ntmps⟩) (fun f y1 v2=>gEg (a0.drop f) y1=some r) (fun f y1 v2=>a0.length - f) 0 [] 0 eJ h ?_;rintro f y1 v2 h;refine goL ?_;refine kX (fun c5=>?_) (fun c5=>?_)
 ·have c:=uR c5;obtain⟨x6,am,an⟩:=drop_at c;rw [an,gEg.eq_2] at h;obtain⟨ao,⟨y,aa,ab⟩⟩:=x6;refine noS ?_;refine jY (jA ?_);refine uM (P:=Tryz.prog) Mix.h [(0,true),(1,true),(2,true),(3,true),(4,true),(5,true),(6,true),(8,true),(9,true),(10,true),(11,true),(12,true),(7,false),(13,false),(14,false),(15,false),(16,false),(17,false),(18,true),(19,false)] (by kernel_rfl) ?_;refine goY ?_;refine jF rfl (jJ f (gHt am)) ?_;refine goY ?_;refine jF rfl (jJ f (gHt am)) ?_;refine goY ?_;obtain⟨⟨ac,ad⟩,aq,h⟩:=qA h;have sx7:=mO ao;rw [aq] at sx7;refine pX (sx7) ?_;obtain⟨⟨ae,ag⟩,ar,h⟩:=gM h;refine pX (gKu 5000 (gB.mk y aa ab) ar) ?_;refine qE (T:=133) (us:=gX [(gD.mk ac ad),(gD.mk ae ag)]) ?_;refine gBe 3 rfl rfl ?_;obtain⟨⟨ah,ai⟩,au,h⟩:=gM h;refine pX (gMs [(gD.mk ac ad),(gD.mk ae ag)] au) ?_;refine qE (T:=133) (us:=gX [(gD.mk ah ai)]) ?_;obtain⟨av,h⟩:=mY h;refine pW (T:=133) av ?_;refine goY ?_;refine kQ ?_;refine goL ?_;refine jI (jW f (by omega)) ?_;exact⟨(f+1),(y1++[(gD.mk ah ai)]),(v2+1),h,by omega,eJ⟩
 ·have c:=uS c5;rw [jC c,gEg.eq_1] at h;refine goX ?_;refine kP 2 rfl rfl ?_;refine jG ?_;cases h;exact qD
def gFg(c:jB):Option (LB × jB):=
bnd (gLc c) fun f=>
bnd (gEb f.2 5) fun h=>
(cnd h.1 (
(some (f.1,h.2))) (
gd (f.1.length+([10]:LB).length≤4294967296) (
bnd (gN8 h.2) fun y=>
gd ((f.1++([10]:LB)).length+y.1.length≤4294967296) (
(some (((f.1++([10]:LB))++y.1),y.2))))))
theorem gT5(c:jB){r:LB × jB}(h:gFg c=some r):Go.Eng.Spec Tryz.prog 36 [.ptr 0 0] [bCu c.b c.i c.h] (fun sv Lo=>sv=.S r.1∧Lo=[bCu r.2.b r.2.i r.2.h]):=by
 obtain⟨ak,al,am⟩:=c;unfold gFg at h;refine kF 1 Tryz.func36 rfl (by kernel_rfl) rfl rfl fun A _=>?_;refine goL ?_;obtain⟨⟨ae,⟨f,y,aa⟩⟩,an,h⟩:=gM h;refine gA7 0 (hGu (jB.mk ak al am) an) ?_;refine goL ?_;obtain⟨⟨aq,⟨ab,ac,ad⟩⟩,ao,h⟩:=gM h;refine gA7 0 (gJ2 (jB.mk f y aa) 5 ao) ?_;refine goC h ?_ ?_<;>intro c3 h
 ·refine goL ?_;refine jG ?_;obtain rfl:=Option.some.inj h;exact yK [.S ae] _ ⟨rfl,rfl⟩
 ·refine goS ?_;obtain⟨g4,h⟩:=mY h;refine jI (wK g4) ?_;obtain⟨⟨ag,⟨ah,ai,aj⟩⟩,ap,h⟩:=gM h;refine gA7 0 (hNw (jB.mk ab ac ad) ap) ?_;obtain⟨g6,h⟩:=mY h;refine jI (wK g6) ?_;refine jG ?_;obtain rfl:=Option.some.inj h;exact yK [.d (.s ((ae++([10]:LB))++ag))] _ ⟨rfl,rfl⟩
def gC7(c:gJ)(a1:LB)(a2:gB):Option (gJ):=
bnd (gEw a1 a2) fun f=>
(cnd f (
lt_ (pG c 2) fun h=>
(some h)) (
gd (([]:List gG).length+c.bindings.length≤4294967296) (
gd (([]++c.bindings).length+[(gG.mk a1 a2)].length≤4294967296) (
(some (gJ.mk c.next c.count c.node (([]++c.bindings)++[(gG.mk a1 a2)]) c.equations c.obligations c.code c.at_))))))
theorem gYv(a0:gJ)(a1:LB)(a2:gB){r:gJ}(h:gC7 a0 a1 a2=some r):gY Tryz.prog 60 [.d (mJ a0),.S a1,.d (jS a2)] [mJ r]:=by
 obtain⟨aa,ab,ac,ad,ae,ag,ah,ai⟩:=a0;obtain⟨c,f,y⟩:=a2;unfold gC7 at h;refine SpI Tryz.func60 fun A _=>?_;refine goL ?_;obtain⟨x1,ak,h⟩:=gM h;refine jI (gF (gRx _ _ ak)) ?_;refine kX (fun c2=>?_) (fun c2=>?_)
 ·replace h:=kD c2 h;refine goL ?_;obtain⟨⟨ap,aq,ar,au,av,aw,ax,ay⟩,am,h⟩:=qA h;have sx3:=gLg (gJ.mk aa ab ac ad ae ag ah ai) 2;rw [am] at sx3;refine qK (gF (sx3)) ?_;exact goR h
 ·replace h:=kE c2 h;refine noS ?_;obtain⟨g4,h⟩:=mY h;obtain⟨g5,h⟩:=mY h;refine qJ (P:=Tryz.prog) Mix.h (.q 1 (.q 2 (.q 4 (.q 5 (.q 6 (.h 0 (.h 3 (.h 7 (.h 8 (.q 9 (.h 10 .nil .nil)) .nil) .nil) (.h 7 (.h 3 (.h 8 (.q 9 (.h 10 .nil .nil)) .nil) .nil) .nil)) (.h 7 (.h 0 (.h 3 (.h 8 (.q 9 (.h 10 .nil .nil)) .nil) .nil) .nil) .nil))))))) ⟨[(3,.ptr 0 0),(6,.ptr 2 0)],[.box [.I aa,.I ab,.I ac,.sl 3 ((0+1)+1),.L 7 (jM ae),.L 5 (jD ag),.I ah,.I ai],bTy c f y,.box [.I 0,.I 0,.I 0,.nilsl,.nilsl,.nilsl,.I 0,.I 0],.arr 101 4 ((0+1)+1) (gP (([]++ad)++[(gG.mk a1 (gB.mk c f y))])),.arr 101 4 0 (gP [(gG.mk a1 (gB.mk c f y))])],Tryz.f60.ntmps⟩ (by kernel_rfl) ?_ ?_
  ·refine goT ?_;refine uV (hDf jU) ?_ ?_
   ·refine uV (pW (T:=28) g4 jU) ?_ ?_
    ·refine jR (qE (T:=28) (us:=gP [(gG.mk a1 (gB.mk c f y))]) jU) ?_;refine jR (pW (T:=28) g5 jU) ?_;refine goT ?_;refine jV ?_;exact qX 0 [0,1,2,3,4]
    refine jR (qE (T:=28) (us:=gP [(gG.mk a1 (gB.mk c f y))]) jU) ?_;refine jR (pW (T:=28) g4 jU) ?_;refine jR (pW (T:=28) g5 jU) ?_;refine goT ?_;refine jV ?_;exact qX 0 [0,1,2,3,4]
   refine jR (qE (T:=28) (us:=gP [(gG.mk a1 (gB.mk c f y))]) jU) ?_;refine jR (hDf jU) ?_;refine jR (pW (T:=28) g4 jU) ?_;refine jR (pW (T:=28) g5 jU) ?_;refine goT ?_;refine jV ?_;exact qX 0 [0,1,2,4,3]
  refine goL ?_;refine kP 3 rfl rfl ?_;refine jG ?_;cases h;exact qD
def gFy(c:kI)(a1:LS):LS→Option (Bool)
 | []=>bnd (gJa c) fun f=>
(some f)
 | h::xs=>(cnd (!(wM a1 h)) (
(some false)) (
gFy c a1 xs ))
def gLs(c:kI)(a1:LS):Option (Bool):=
bnd (gGl c) fun f=>
gFy c a1 f
theorem gS8(a0:kI)(a1:LS){r:Bool}(h:gLs a0 a1=some r):gY Tryz.prog 217 [.d (gCy a0),.L 1 (jL a1)] [.b r]:=by
 obtain⟨ac,ad,ae,ag,⟨f,y,aa⟩,ah,ai⟩:=a0;unfold gLs at h;refine SpI Tryz.func217 fun A _=>?_;refine goL ?_;obtain⟨x1,am,h⟩:=gM h;refine jI (gF (gQu _ am)) ?_;refine noB ?_;refine gB0 5 (fun z3=>?_);refine mV (fun(y2:Nat)=>⟨[(1,.L 1 (jL a1)),(2,.ptr 0 0),(5,.L 1 (jL x1)),(6,.N y2)],[bEx ac ad ae ag f y aa ah ai],Tryz.f217.ntmps⟩) (fun y2=>gFy (kI.mk ac ad ae ag (gB.mk f y aa) ah ai) a1 (x1.drop y2)  =some r) (fun y2=>x1.length - y2) 0 eJ h ?_;rintro y2 h;refine goL ?_;refine kX (fun c4=>?_) (fun c4=>?_)
 ·have c:=uR c4;obtain⟨x5,ao,aj⟩:=drop_at c;rw [aj,gFy.eq_2] at h;refine noS ?_;refine jY (jA ?_);refine goL ?_;refine jI (jJ y2 (gQr ao)) ?_;refine jI (gF (gGg a1 x5)) ?_;refine kX (fun c6=>?_) (fun c6=>?_)
  ·replace h:=kD c6 h;exact goR h
  ·replace h:=kE c6 h;refine goS ?_;refine jI (jW y2 (by omega)) ?_;exact⟨(y2+1),h,by omega,eJ⟩
 ·have c:=uS c4;rw [jC c,gFy.eq_1] at h;refine goX ?_;obtain⟨x7,aq,h⟩:=gM h;refine qK (gF (gT6 _ aq)) ?_;exact goR h
def vW(f:mP):List pV→LS→Option (Bool)
 | [],c=>bnd ((cnd (mH f.name) (bnd (yA f.vars 3) fun y=>
(cnd y ((cnd (decide ((c.length:Int) > 0)) (bnd (yA c 5) fun aa=>
(some aa)) ((some false)))) ((some false)))) ((some false)))) fun ab=>
(some ab)
 | h::xs,c=>bnd ((cnd (decide ((h.fields.length:Int) > 4)) ((some true)) (bnd (gRe h.fields f.vars) fun x9=>
(some (!x9))))) fun b7=>
(cnd b7 (
(some false)) (
gd (c.length+[h.name].length≤4294967296) (
vW f xs (c++[h.name]))))
def gBx(c:mP):Option (Bool):=
vW c c.constructors []
theorem gIt(a0:mP){r:Bool}(h:gBx a0=some r):gY Tryz.prog 178 [.d (gFu a0)] [.b r]:=by
 obtain⟨f,aa,c⟩:=a0;unfold gBx at h;refine SpI Tryz.func178 fun A _=>?_;refine goL ?_;refine gGk ?_;refine goL ?_;refine noB ?_;refine wJ 0 2 (fun z4=>?_);refine kS (fun(y3:Nat)(y1:LS)(v2:Nat)=>⟨[(1,.ptr 0 0),(3,.sl 1 v2),(4,.N y3)],[bDa f aa c,.own 9 1 v2 (jL y1)],Tryz.f178.ntmps⟩) (fun y3 y1 v2=>vW (mP.mk f aa c) (c.drop y3) y1=some r) (fun y3 y1 v2=>c.length - y3) 0 [] 0 eJ h ?_;rintro y3 y1 v2 h;refine goL ?_;refine kX (fun c5=>?_) (fun c5=>?_)
 ·have y:=uR c5;obtain⟨x6,ag,ah⟩:=drop_at y;rw [ah,vW.eq_2] at h;obtain⟨ae,aq⟩:=x6;refine noS ?_;refine jY (jA ?_);refine gId ?_;obtain⟨b7,hb7,h⟩:=gM h;refine uE (P:=Tryz.prog) Mix.h ⟨[(1,.ptr 0 0),(3,.sl 1 v2),(4,.N y3),(32,.B b7)],[bDa f aa c,.own 9 1 v2 (jL y1)],Tryz.f178.ntmps⟩ (by kernel_rfl) ?_ ?_
  ·refine goL ?_;refine gFd (jJ y3 (gDu ag)) ?_;refine goL ?_;refine vG 21 (fun c8=>?_) (fun c8=>?_)
   ·replace hb7:=kD c8 hb7;refine goL ?_;cases hb7;exact eJ
   ·replace hb7:=kE c8 hb7;refine goL ?_;refine gC1 (jJ y3 (gDu ag)) ?_;refine goL ?_;obtain⟨x9,an,hb7⟩:=gM hb7;refine gC1 (gF (hEd _ _ an)) ?_;refine goL ?_;cases hb7;exact eJ
  refine goC h ?_ ?_<;>intro av h
  ·exact goR h
  ·refine goS ?_;refine jI (jJ y3 (gDu ag)) ?_;refine gBc ae ?_;obtain⟨ao,h⟩:=mY h;refine gIe ao ?_;refine goL ?_;refine jI (jW y3 (by omega)) ?_;exact⟨(y3+1),(y1++[ae]),(v2+1),h,by omega,eJ⟩
 ·have y:=uS c5;rw [jC y,vW.eq_1] at h;refine goX ?_;refine jI (gF (qG f)) ?_;obtain⟨ap,hb12,h⟩:=gM h;refine jT ⟨[(2,.B ap)],[bDa f aa c,.own 9 1 v2 (jL y1)],Tryz.f178.ntmps⟩ ?_ ?_
  ·refine gqA 45 hb12 (fun aw hb12=>?_);obtain⟨ax,ai,hb12⟩:=gM hb12;refine jI (gF (gAc _ _ ai)) ?_;refine gqA 50 hb12 (fun ay hb12=>?_);refine gqA 55 hb12 (fun a3 hb12=>?_);obtain⟨a4,aj,hb12⟩:=gM hb12;refine gBn (gV9 (gAc y1 5 aj)) ?_;cases hb12;exact eJ
  exact goR h
def gAu(f:gK)(a1:List gW)(a2:gB):Option (gB × Int):=
bnd (mE 100000 f a1 a2 12) fun c=>
(some (c.1,c.2))
theorem gYw(a0:gK)(a1:List gW)(a2:gB){r:gB × Int}(h:gAu a0 a1 a2=some r):gY Tryz.prog 87 [.d (kT a0),.L 4 (kY a1),.d (jS a2)] [jS r.1,.i .i64 r.2]:=by
 obtain⟨ac⟩:=a0;obtain⟨ad,ae,ag⟩:=a2;unfold gAu at h;refine SpI Tryz.func87 fun A _=>?_;refine goL ?_;obtain⟨⟨⟨c,f,y⟩,ah⟩,ab,h⟩:=gM h;refine qK (gF (hA7 _ _ _ _ _ ab)) ?_;exact goR h
def yL(a1:LB→Option Bool):LS→Nat→Option (Int)
 | [],c=>(some (-1))
 | f::xs,c=>bnd (a1 f) fun h=>
(cnd h (
(some (c:Int))) (
yL a1 xs (c+1)))
def gIu(c:LS)(a1:LB→Option Bool):Option (Int):=
yL a1 c 0
theorem gYx(y:LS){a1f:Nat}{a1c:List SV}{a1:LB→Option Bool}(a1_lt:∀n,SV.lts n a1c=true)(ha1:∀(x0:LB)(r:Bool),a1 x0=some r→gY Tryz.prog a1f ([.S x0]++a1c) [.b r]){r:Int}(h:gIu y a1=some r):gY Tryz.prog 88 [.L 1 (jL y),.fn a1f a1c] [.i .i64 r]:=by
 unfold gIu at h;refine SpI Tryz.func88 fun A _=>?_;refine goL ?_;refine noB ?_;refine gB0 0 (fun z2=>?_);refine mV (fun(f:Nat)=>⟨[(0,.L 1 (jL y)),(1,.fn a1f a1c),(7,.I (y.length:Int)),(8,.N f)],[],Tryz.f88.ntmps⟩) (fun f=>yL a1 (y.drop f) f=some r) (fun f=>y.length - f) 0 ⟨rfl,⟨⟨rfl,rfl⟩,⟨rfl,a1_lt _⟩,⟨rfl,rfl⟩,⟨rfl,rfl⟩,trivial⟩,⟨[],rfl⟩,rfl⟩ h ?_;rintro f h;refine goL ?_;refine jY (kX (fun c3=>?_) (fun c3=>?_))
 ·have c:=uR c3;obtain⟨x4,ac,aa⟩:=drop_at c;rw [aa,yL.eq_2] at h;refine noS ?_;refine jY (jA ?_);refine goL ?_;refine jI (jJ f (gQr ac)) ?_;obtain⟨x5,ad,h⟩:=gM h;refine jI (gOm (ha1 _ _ ad) (a1_lt 0)) ?_;refine kX (fun c6=>?_) (fun c6=>?_)
  ·replace h:=kD c6 h;exact goR h
  ·replace h:=kE c6 h;refine goS ?_;refine jI (jW f (by omega)) ?_;exact⟨(f+1),h,by omega,⟨rfl,⟨⟨rfl,rfl⟩,⟨rfl,a1_lt _⟩,⟨rfl,rfl⟩,⟨rfl,rfl⟩,trivial⟩,⟨_,rfl⟩,rfl⟩⟩
 ·have c:=uS c3;rw [jC c,yL.eq_1] at h;refine goX ?_;refine jG ?_;cases h;exact qD
def gCe(c:LS)(a1:LB→Option Bool):Option (Bool):=
bnd (gIu c a1) fun f=>
(some (decide (f≥0)))
theorem gS9(c:LS){a1f:Nat}{a1c:List SV}{a1:LB→Option Bool}(a1_lt:∀n,SV.lts n a1c=true)(ha1:∀(y:LB)(r:Bool),a1 y=some r→gY Tryz.prog a1f ([.S y]++a1c) [.b r]){r:Bool}(h:gCe c a1=some r):gY Tryz.prog 63 [.L 1 (jL c),.fn a1f a1c] [.b r]:=by
 unfold gCe at h;refine SpI Tryz.func63 fun A _=>?_;refine goL ?_;obtain⟨x1,f,h⟩:=gM h;refine qK (gF (gYx c (a1:=a1) a1_lt ha1 f)) ?_;exact goR h
def gUu(c:gB):Option (Bool):=
bnd (yS c) fun f=>
bnd (gCe f wP) fun h=>
(some h)
theorem hQy(a0:gB){r:Bool}(h:gUu a0=some r):gY Tryz.prog 52 [.d (jS a0)] [.b r]:=by
 obtain⟨c,f,y⟩:=a0;unfold gUu at h;refine SpI Tryz.func52 fun A _=>?_;refine goL ?_;obtain⟨x1,ab,h⟩:=gM h;refine qK (gF ((gIc (gB.mk c f y) ab).p)) ?_;obtain⟨x2,ac,h⟩:=gM h;refine qK (gF (gS9 x1 (a1:=wP) (fun _=>rfl) (fun x0 r hr=>gG4 x0 hr) ac)) ?_;exact goR h
def gFz(c:gB→Option (Bool))(f:gB):List gB→Option (Bool)
 | []=>bnd (gGb f) fun h=>
(some h)
 | y::xs=>bnd (c y) fun x5=>
(cnd x5 (
(some true)) (
gFz c f xs ))
def hDr(c:gB→Option (Bool))(f:gB):Option (Bool):=
gFz c f f.args
theorem hW6{c:gB→Option (Bool)}(f:∀(x0:gB){r:Bool},c x0=some r→gY Tryz.prog 62 [.d (jS x0)] [.b r])(a0:gB){r:Bool}(h:hDr c a0=some r):gY Tryz.prog 62 [.d (jS a0)] [.b r]:=by
 obtain⟨ac,ad,aa⟩:=a0;unfold hDr at h;refine SpI Tryz.func62 fun A _=>?_;refine goL ?_;refine noB ?_;refine wJ 0 2 (fun z2=>?_);refine mV (fun(y1:Nat)=>⟨[(1,.ptr 0 0),(3,.N y1)],[bTy ac ad aa],Tryz.f62.ntmps⟩) (fun y1=>gFz c (gB.mk ac ad aa) (aa.drop y1)  =some r) (fun y1=>aa.length - y1) 0 eJ h ?_;rintro y1 h;refine goL ?_;refine kX (fun c3=>?_) (fun c3=>?_)
 ·have y:=uR c3;obtain⟨x4,ai,ae⟩:=drop_at y;rw [ae,gFz.eq_2] at h;obtain⟨an,ao,ap⟩:=x4;refine noS ?_;refine jY (jA ?_);refine goL ?_;refine jI (jJ y1 (zJ ai)) ?_;obtain⟨x5,aj,h⟩:=gM h;refine jI (gF (f _ aj)) ?_;refine kX (fun c6=>?_) (fun c6=>?_)
  ·replace h:=kD c6 h;exact goR h
  ·replace h:=kE c6 h;refine goS ?_;refine jI (jW y1 (by omega)) ?_;exact⟨(y1+1),h,by omega,eJ⟩
 ·have y:=uS c3;rw [jC y,gFz.eq_1] at h;refine goX ?_;obtain⟨x7,al,h⟩:=gM h;refine qK (gF (gO5 _ al)) ?_;exact goR h
def gUv:Nat→gB→Option (Bool)
 | 0,_=>none
 | n+1,c=>hDr (gUv n) c
theorem hW7:∀(n:Nat)(c:gB){r:Bool},gUv n c=some r→gY Tryz.prog 62 [.d (jS c)] [.b r]:=by
 intro n
 induction n with
 | zero=>intro c r h;cases h
 | succ n ih=>intro c r h;exact hW6 ih c h
def gG8(t:gB):Bool:=gVa isInf t
theorem gKw{p:LB→Option Bool}{q:LB→Bool}(hp:∀x,p x=some (q x)):∀(l:LS)(k:Nat),∃i,yL p l k=some i∧(0≤i↔l.any q=true)
 | [],k=>⟨-1,rfl,by simp⟩
 | x::l,k=>by
   obtain⟨i,c,f⟩:=gKw hp l (k+1);simp only [yL,hp,bnd];cases hq:q x with
   | true=>exact⟨k,by simp [cnd],by simp [hq]⟩
   | false=>exact⟨i,by simpa [cnd] using c,by simpa [hq] using f⟩
theorem gQs{p:LB→Option Bool}{q:LB→Bool}(hp:∀x,p x=some (q x))(l:LS):gCe l p=some (l.any q):=by
 obtain⟨i,f,c⟩:=gKw hp l 0;unfold gCe gIu;rw [f];simp only [bnd,Option.some.injEq];cases h:l.any q with
 | true=>exact decide_eq_true (c.2 h)
 | false=>exact decide_eq_false (fun hi=>by rw [c.1 hi] at h;cases h)
theorem hLb(t:gB)(h:tnd t≤4294967296):gUu t=some (gG8 t):=by
 unfold gUu;rw [gKt t h];simp only [bnd];rw [gQs gJc,gRr];simp [gG8]
theorem gUw{n:Nat}{t:gB}:∀(xs:List gB),(∀x∈xs,gUv n x=some (gG8 x))→gFz (gUv n) t xs=some (((t.kind==1) && isInf t.name) || gGf isInf xs)
 | [],_=>by simp only [gFz,gDx,bnd,gGf,Bool.or_false]
 | x::xs,h=>by
   simp only [gFz,gGf];rw [h x (by simp)];simp only [bnd];show cnd (gVa isInf x) _ _=_;cases hx:gVa isInf x with
   | true=>simp [cnd]
   | false=>
     rw [gI,gUw xs (fun y hy=>h y (by simp [hy]))];simp
theorem hLc:∀(n:Nat)(t:gB),tnd t≤n→gUv n t=some (gG8 t)
 | 0,t,h=>by have:=gBs t;omega
 | n+1,⟨k,s,ts⟩,h=>by
   simp only [tnd] at h;rw [gUv.eq_2];unfold hDr;simp only [];rw [gUw ts (fun x hx=>hLc n x (by have:=yU hx;omega))];rfl
theorem hDt(c:gB):gY Tryz.prog 62 [.d (jS c)] [.b (gG8 c)]:=hW7 (tnd c) c (hLc _ _ (Nat.le_refl _))
end Go.Proofs.YtegahmhnmjnhhaaGreat
