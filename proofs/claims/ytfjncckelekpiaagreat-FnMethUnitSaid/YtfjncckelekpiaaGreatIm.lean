import Derived.Test.YtfjncckelekpiaaGreatB5
set_option maxHeartbeats 4000000
set_option linter.unusedVariables false
set_option linter.unusedSimpArgs false
set_option linter.unusedSectionVars false
namespace Go.Proofs.YtfjncckelekpiaaGreat
open Go Go.Eng
attribute [local irreducible] V VO VQ VY Quiet QR gW pJ Rng vF uW uI
def gHh(f:gF→(List gU)→Option (List gU)):List gF→(List gU)→Option (List gU)
 | [],q=>(some q)
 | y::xs,q=>bnd (f y q) fun aa=>
gHh f xs aa
def gHi(f:gF→(List gU)→Option (List gU)):List gF→(List gU)→Option (List gU)
 | [],q=>(some q)
 | y::xs,q=>bnd (f y q) fun aa=>
gHi f xs aa
def gHj(f:gF→(List gU)→Option (List gU))(t:gF)(q:List gU)(y:gF):List gU→Bool→Option (List gU)
 | [],y7=>(cnd (!y7) (
gd (q.length+[(gU.mk t.name y)].length≤4294967296) (
gHh f t.args (q++[(gU.mk t.name y)]))) (
gHi f t.args q))
 | ab::xs,y7=>lt_ (cnd y7 (true) (gDw ab (gU.mk t.name y))) fun ac=>
gHj f t q y xs ac
def gHk(f:gF→(List gU)→Option (List gU)):List gF→(List gU)→Option (List gU)
 | [],q=>(some q)
 | y::xs,q=>bnd (f y q) fun aa=>
gHk f xs aa
def gTc(f:gF→(List gU)→Option (List gU))(t:gF)(q:List gU):Option (List gU):=
lt_ (cnd (t.kind==3) (decide ((t.args.length:Int) > 0)) (false)) fun b1=>
(cnd b1 (
bnd (at? t.args 0) fun y=>
gd (tok y) (lt_ (idT y) fun x6=>
gHj f t q x6 q false)) (
gHk f t.args q))
theorem hIf{f:gF→(List gU)→Option (List gU)}(q:∀(x0:gF)(x1:List gU)(w0:Nat){r:List gU},f x0 x1=some r→Go.Eng.Spec Tryz.prog 218 [.d (kT x0),.sl 0 w0] [.arr 110 4 w0 (kM x1)] (fun sv Lo=>∃v'0,sv=.sl 0 v'0∧Lo=[.arr 110 4 v'0 (kM r)]))(t:gF)(l0:List gU)(v0:Nat){r:List gU}(h:gTc f t l0=some r):Go.Eng.Spec Tryz.prog 218 [.d (kT t),.sl 0 v0] [.arr 110 4 v0 (kM l0)] (fun sv Lo=>∃v'0,sv=.sl 0 v'0∧Lo=[.arr 110 4 v'0 (kM r)]):=by
 obtain⟨ae,y,ad⟩:=t;unfold gTc at h;refine pK 1 Tryz.func218 rfl (by kernel_rfl) rfl rfl fun A _=>?_;refine goL ?_;obtain⟨b1,hb1,h⟩:=pI h;refine kG ⟨[(1,.sl 0 v0),(2,.ptr 1 0),(17,.B b1)],[.arr 110 4 v0 (kM l0),bTy ae y ad],Tryz.f218.ntmps⟩ ?_ ?_
 ·refine uJ 12 (fun c2=>?_) (fun c2=>?_) (by first | rfl | (simp only [jG,gQ];rfl))
  ·replace hb1:=jU c2 hb1;refine goL ?_;cases hb1;exact⟨rfl,⟨⟨rfl,rfl⟩,⟨rfl,rfl⟩,⟨by first | rfl | (simp only [jG,gQ];rfl),rfl⟩,trivial⟩,⟨_,rfl⟩,rfl⟩
  ·replace hb1:=jV c2 hb1;refine goL ?_;cases hb1;exact⟨rfl,⟨⟨rfl,rfl⟩,⟨rfl,rfl⟩,⟨by first | rfl | (simp only [jG,gQ];rfl),rfl⟩,trivial⟩,⟨_,rfl⟩,rfl⟩
 refine goC h ?_ ?_<;>intro c3 h
 ·refine sZ 1 ?_;refine goW ?_;obtain⟨x4,a4,h⟩:=gK h;obtain⟨bt,a4⟩:=yY a4;obtain⟨bu,bv,bw⟩:=x4;refine kR (fun _=>kY bt (gAw a4)) ?_;refine goW ?_;obtain⟨g5,h⟩:=mI h;obtain⟨⟨aa,ab,ac⟩,cb,h⟩:=pI h;have sx6:=(mR (gF.mk bu bv bw) g5).p;rw [cb] at sx6;refine kR (fun _=>gD (sx6)) ?_;refine goW ?_;refine jY ?_;refine goL ?_;refine noB ?_;refine jEx 0 (fun z9=>?_);refine gAg (fun(y8:Nat)(y7:Bool)=>⟨[(1,.sl 0 v0),(2,.ptr 1 0),(5,.ptr 2 0),(6,.B y7),(7,.N y8)],[.arr 110 4 v0 (kM l0),bTy ae y ad,bBd y aa ab ac],Tryz.f218.ntmps⟩) (fun y8 y7=>gHj f (gF.mk ae y ad) l0 (gF.mk aa ab ac) (l0.drop y8) y7=some r) (fun y8 y7=>l0.length - y8) 0 false eJ h ?_;rintro y8 y7 h;refine goL ?_;refine kN (fun a5=>?_) (fun a5=>?_)
  ·have ap:=qB a5;obtain⟨cc,a3,a6⟩:=drop_at ap;rw [a6,gHj.eq_2] at h;obtain⟨a7,⟨ax,ay,a0⟩⟩:=cc;refine noS ?_;refine kC (gP ?_);obtain⟨bz,hb12,h⟩:=pI h;refine hEm (P:=Tryz.prog) Mix.h ⟨[(1,.sl 0 v0),(2,.ptr 1 0),(5,.ptr 2 0),(7,.N y8),(6,.B bz)],[.arr 110 4 v0 (kM l0),bTy ae y ad,bBd y aa ab ac],Tryz.f218.ntmps⟩ (by kernel_rfl) ?_ ?_
   ·refine goL ?_;refine qE 33 (fun a8=>?_) (fun a8=>?_)
    ·replace hb12:=jU a8 hb12;refine goL ?_;cases hb12;exact eJ
    ·replace hb12:=jV a8 hb12;refine goL ?_;refine hIa (jEw y8 (List.getElem?_eq_some_iff.1 a3).1) ?_;refine hIa (hQk a3) ?_;refine goL ?_;refine wN (gD (gOp (gU.mk a7 (gF.mk ax ay a0)) (gU.mk y (gF.mk aa ab ac)))) ?_;refine goL ?_;cases hb12;exact eJ
   refine goL ?_;refine gX (jK y8 (by omega)) ?_;exact⟨(y8+1),bz,h,by omega,eJ⟩
  ·have ap:=qC a5;rw [gT ap,gHj.eq_1] at h;refine goX ?_;refine kN (fun a9=>?_) (fun a9=>?_)
   ·replace h:=jU a9 h;refine goL ?_;refine uN (u:=(.st [.s y,.st [.i .i64 aa,.s ab,.sl 3 (jJ ac)]])) ?_;obtain⟨cd,h⟩:=mI h;refine vR cd ?_;refine goL ?_;refine noB ?_;refine pG 1 2 (fun cn=>?_);refine kQ (fun(ag:Nat)(aq:List gU)(am:Nat)=>⟨[(1,.sl 0 am),(2,.ptr 1 0),(8,.N ag)],[.arr 110 4 am (kM aq),bTy ae y ad,bBd y aa ab ac,.arr 110 4 0 (kM [(gU.mk y (gF.mk aa ab ac))])],Tryz.f218.ntmps⟩) (fun ag aq am=>gHh f (ad.drop ag) aq=some r) (fun ag aq am=>ad.length - ag) 0 (l0++[(gU.mk y (gF.mk aa ab ac))]) (v0+1) eJ h ?_;rintro ag aq am h;refine goL ?_;refine kN (fun ba=>?_) (fun ba=>?_)
    ·have ah:=qB ba;obtain⟨ce,b0,bb⟩:=drop_at ah;rw [bb,gHh.eq_2] at h;obtain⟨bc,bd,be⟩:=ce;refine noS ?_;refine kC (gP ?_);refine goL ?_;refine gX (gV ag (gAw b0)) ?_;obtain⟨b2,b3,h⟩:=gK h;refine gLg [0] (q (gF.mk bc bd be) aq am b3) ?_;rintro _ _ ⟨bf,rfl,rfl⟩;show VO _ _ _ _ ⟨(_,.sl 0 bf)::_,[.arr 110 4 bf (kM b2),bTy ae y ad,bBd y aa ab ac,.arr 110 4 0 (kM [(gU.mk y (gF.mk aa ab ac))])],_⟩ _;refine goL ?_;refine gX (jK ag (by omega)) ?_;exact⟨(ag+1),b2,bf,h,by omega,eJ⟩
    ·have ah:=qC ba;rw [gT ah,gHh.eq_1] at h;refine goX ?_;refine jH ?_;obtain rfl:=Option.some.inj h;exact gHr [.sl 0 am] _ ⟨am,rfl,rfl⟩
   ·replace h:=jV a9 h;refine goS ?_;refine noB ?_;refine pG 1 2 (fun co=>?_);refine kQ (fun(ai:Nat)(ar:List gU)(an:Nat)=>⟨[(1,.sl 0 an),(2,.ptr 1 0),(8,.N ai)],[.arr 110 4 an (kM ar),bTy ae y ad,bBd y aa ab ac],Tryz.f218.ntmps⟩) (fun ai ar an=>gHi f (ad.drop ai) ar=some r) (fun ai ar an=>ad.length - ai) 0 l0 v0 eJ h ?_;rintro ai ar an h;refine goL ?_;refine kN (fun bg=>?_) (fun bg=>?_)
    ·have aj:=qB bg;obtain⟨cf,b4,bh⟩:=drop_at aj;rw [bh,gHi.eq_2] at h;obtain⟨bi,bj,bk⟩:=cf;refine noS ?_;refine kC (gP ?_);refine goL ?_;refine gX (gV ai (gAw b4)) ?_;obtain⟨b5,b6,h⟩:=gK h;refine gLg [0] (q (gF.mk bi bj bk) ar an b6) ?_;rintro _ _ ⟨bl,rfl,rfl⟩;show VO _ _ _ _ ⟨(_,.sl 0 bl)::_,[.arr 110 4 bl (kM b5),bTy ae y ad,bBd y aa ab ac],_⟩ _;refine goL ?_;refine gX (jK ai (by omega)) ?_;exact⟨(ai+1),b5,bl,h,by omega,eJ⟩
    ·have aj:=qC bg;rw [gT aj,gHi.eq_1] at h;refine goX ?_;refine jH ?_;obtain rfl:=Option.some.inj h;exact gHr [.sl 0 an] _ ⟨an,rfl,rfl⟩
 ·refine goS ?_;refine noB ?_;refine pG 1 2 (fun cp=>?_);refine kQ (fun(ak:Nat)(au:List gU)(ao:Nat)=>⟨[(1,.sl 0 ao),(2,.ptr 1 0),(8,.N ak)],[.arr 110 4 ao (kM au),bTy ae y ad],Tryz.f218.ntmps⟩) (fun ak au ao=>gHk f (ad.drop ak) au=some r) (fun ak au ao=>ad.length - ak) 0 l0 v0 eJ h ?_;rintro ak au ao h;refine goL ?_;refine kN (fun bm=>?_) (fun bm=>?_)
  ·have al:=qB bm;obtain⟨cg,b7,bn⟩:=drop_at al;rw [bn,gHk.eq_2] at h;obtain⟨bo,bp,bq⟩:=cg;refine noS ?_;refine kC (gP ?_);refine goL ?_;refine gX (gV ak (gAw b7)) ?_;obtain⟨b8,b9,h⟩:=gK h;refine gLg [0] (q (gF.mk bo bp bq) au ao b9) ?_;rintro _ _ ⟨br,rfl,rfl⟩;show VO _ _ _ _ ⟨(_,.sl 0 br)::_,[.arr 110 4 br (kM b8),bTy ae y ad],_⟩ _;refine goL ?_;refine gX (jK ak (by omega)) ?_;exact⟨(ak+1),b8,br,h,by omega,eJ⟩
  ·have al:=qC bm;rw [gT al,gHk.eq_1] at h;refine goX ?_;refine jH ?_;obtain rfl:=Option.some.inj h;exact gHr [.sl 0 ao] _ ⟨ao,rfl,rfl⟩
def gTd:Nat→gF→(List gU)→Option (List gU)
 | 0,_,_=>none
 | n+1,f,q=>gTc (gTd n) f q
theorem hIg:∀(n:Nat)(f:gF)(q:List gU)(y:Nat){r:List gU},gTd n f q=some r→Go.Eng.Spec Tryz.prog 218 [.d (kT f),.sl 0 y] [.arr 110 4 y (kM q)] (fun sv Lo=>∃v'0,sv=.sl 0 v'0∧Lo=[.arr 110 4 v'0 (kM r)]):=by
 intro n
 induction n with
 | zero=>intro f q y r h;cases h
 | succ n ih=>intro f q y r h;exact hIf ih f q y h
def hAc(f:kW):Option (kW):=
gd (hIr f.params) (gd (tok f.result) (lt_ (idT f.result) fun q=>
gd (([]:LS).length+f.vars.length≤4294967296) (
bnd (gOq 5000 f.body) fun y=>
some (kW.mk f.name (hS4 f.params) q f.hasDefault ([]++f.vars) y))))
theorem hQt(a0:kW){r:kW}(h:hAc a0=some r):gW Tryz.prog 162 [.d (gC0 a0)] [gC0 r]:=by
 obtain⟨ar,ad,⟨f,q,y⟩,au,av,⟨ae,ag,ah,ai,⟨aa,ab,ac⟩,aj,ak⟩⟩:=a0;unfold hAc at h;refine SpI Tryz.func162 fun A _=>?_;refine goL ?_;obtain⟨g1,h⟩:=mI h;refine gX (gD ((gPh ad g1).p)) ?_;obtain⟨g2,h⟩:=mI h;obtain⟨⟨aw,ax,ay⟩,ap,h⟩:=pI h;have sx3:=(mR (gF.mk f q y) g2).p;rw [ap] at sx3;refine gX (gD (sx3)) ?_;refine gFh ?_;refine goL ?_;obtain⟨g4,h⟩:=mI h;refine gDj g4 ?_;refine goL ?_;obtain⟨⟨a2,a3,a4,a5,⟨al,am,an⟩,a6,a7⟩,aq,h⟩:=gK h;refine gX (gD (gWa _ _ aq)) ?_;refine qW 2 rfl rfl ?_;refine jH ?_;cases h;exact mM
def gJv(f:jF):List qX→(List qX)→Option (jF)
 | [],y=>gd (([]:LS).length+f.vars.length≤4294967296) (
gd (tok f.head) (lt_ (idT f.head) fun aa=>
bnd (gNh f.where_) fun ab=>
gd (tok f.assoc) (lt_ (idT f.assoc) fun ac=>
some (jF.mk f.trait ([]++f.vars) aa ab f.default_ f.hasAssoc ac y))))
 | q::xs,y=>gd (([]:LS).length+q.vars.length≤4294967296) (
bnd (gOq 5000 q.body) fun x8=>
gd (y.length+[(qX.mk q.name ([]++q.vars) x8)].length≤4294967296) (
gJv f xs (y++[(qX.mk q.name ([]++q.vars) x8)])))
def gW6(f:jF):Option (jF):=
gJv f f.methods []
theorem hNn(a0:jF){r:jF}(h:gW6 a0=some r):gW Tryz.prog 163 [.d (vY a0)] [vY r]:=by
 obtain⟨ak,al,⟨f,q,y⟩,am,an,ao,⟨aa,ab,ac⟩,ae⟩:=a0;unfold gW6 at h;refine SpI Tryz.func163 fun A _=>?_;refine goL ?_;refine qO ?_;refine goL ?_;refine noB ?_;refine pG 0 11 (fun z4=>?_);refine kQ (fun(y3:Nat)(y1:List qX)(v2:Nat)=>⟨[(1,.ptr 0 0),(2,.ptr 1 0),(3,.sl 2 v2),(4,.N y3)],[bIn ak al f q y am an ao aa ab ac ae,.box [.S [],.nilsl,.I 0,.S [],.nilsl,.nilsl,.B false,.B false,.I 0,.S [],.nilsl,.nilsl],.arr 116 11 v2 (gEt y1)],Tryz.f163.ntmps⟩) (fun y3 y1 v2=>gJv (jF.mk ak al (gF.mk f q y) am an ao (gF.mk aa ab ac) ae) (ae.drop y3) y1=some r) (fun y3 y1 v2=>ae.length - y3) 0 [] 0 eJ h ?_;rintro y3 y1 v2 h;refine goL ?_;refine kN (fun c5=>?_) (fun c5=>?_)
 ·have ad:=qB c5;obtain⟨x6,bj,a7⟩:=drop_at ad;rw [a7,gJv.eq_2] at h;obtain⟨ap,aq,⟨bb,bc,bd,be,⟨a4,a5,a6⟩,bf,bg⟩⟩:=x6;refine noS ?_;refine kC (gP ?_);refine goL ?_;refine pX (gV y3 (gMi bj)) ?_;refine gCj ?_;refine dZ 1 ?_;refine goW ?_;refine gTb ?_;refine goW ?_;obtain⟨g7,h⟩:=mI h;refine uL g7 ?_;refine goW ?_;obtain⟨⟨ar,au,av,aw,⟨ag,ah,ai⟩,ax,ay⟩,bk,h⟩:=gK h;refine kR (fun _=>gD (gWa _ _ bk)) ?_;refine goW ?_;refine gSk (LH.frz 4 (h:=LH.ld (us:=gEt [(qX.mk ap ([]++aq) (gY.mk ar au av aw (gF.mk ag ah ai) ax ay))]))) ?_;obtain⟨g9,h⟩:=mI h;refine uL g9 ?_;refine goW ?_;refine jY ?_;refine goL ?_;refine gX (jK y3 (by omega)) ?_;exact⟨(y3+1),(y1++[(qX.mk ap ([]++aq) (gY.mk ar au av aw (gF.mk ag ah ai) ax ay))]),(v2+1),h,by omega,eJ⟩
 ·have ad:=qC c5;rw [gT ad,gJv.eq_1] at h;refine goX ?_;refine gFh ?_;refine goL ?_;obtain⟨bl,h⟩:=mI h;refine gDj bl ?_;refine goL ?_;obtain⟨bm,h⟩:=mI h;obtain⟨⟨bn,bo,bp⟩,a8,h⟩:=pI h;have sx12:=(mR (gF.mk f q y) bm).p;rw [a8] at sx12;refine gX (gD (sx12)) ?_;obtain⟨bz,a9,h⟩:=gK h;refine gX (gD (gWe _ a9)) ?_;obtain⟨bq,h⟩:=mI h;obtain⟨⟨br,bt,bu⟩,ba,h⟩:=pI h;have sx15:=(mR (gF.mk aa ab ac) bq).p;rw [ba] at sx15;refine gX (gD (sx15)) ?_;refine qW 3 rfl rfl ?_;refine jS 2 rfl rfl ?_;refine jH ?_;cases h;exact mM
def gKe(y:gG)(a1:LB)(a2:LB)(q:gF):Option (List gF × gF × Bool):=
lt_ (uC y a1) fun x1=>
lt_ (gNe x1.1 a2) fun f=>
(cnd (!f.2) (some ([],(gF.mk 0 [] []),false)) (
gd (bok [(gM.mk [115,101,108,102] q)]∧hIr f.1.params) (gd (bok [(gM.mk [115,101,108,102] q)]∧tok f.1.result) (lt_ (apT [(gM.mk [115,101,108,102] q)] f.1.result) fun x6=>
some ((gT7 [(gM.mk [115,101,108,102] q)] f.1.params),x6,true)))))
theorem gR5(a0:gG)(a1:LB)(a2:LB)(a3:gF){r:List gF × gF × Bool}(h:gKe a0 a1 a2 a3=some r):gW Tryz.prog 114 [.d (jX a0),.S a1,.S a2,.d (kT a3)] [.sl 3 (jJ r.1),kT r.2.1,.b r.2.2]:=by
 obtain⟨av⟩:=a0;obtain⟨aa,ab,ac⟩:=a3;unfold gKe at h;refine SpI Tryz.func114 fun A _=>?_;refine goL ?_;obtain⟨⟨⟨ad,ae,ag,ah,ai⟩,bb,bc⟩,a7,h⟩:=pI h;have sx1:=gDt (gG.mk av) a1;rw [a7] at sx1;refine gX (gD (sx1)) ?_;obtain⟨⟨⟨aw,aj,⟨f,q,y⟩,ax,ay,⟨an,ao,ap,aq,⟨ak,al,am⟩,ar,au⟩⟩,bd⟩,a8,h⟩:=pI h;have sx2:=gZg (mE.mk ad ae ag ah ai) a2;rw [a8] at sx2;refine gX (gD (sx2)) ?_;refine kN (fun c3=>?_) (fun c3=>?_)
 ·replace h:=jU c3 h;refine goL ?_;refine qO ?_;refine gC1 (jI TBd.h TZ.h rfl (by repeat constructor)) ?_;refine jS 5 rfl rfl ?_;refine jH ?_;cases h;exact mM
 ·replace h:=jV c3 h;refine goS ?_;refine uX (jI TBd.h TZ.h rfl (by repeat constructor)) ?_;refine uN (u:=(.st [.s [115,101,108,102],.st [.i .i64 aa,.s ab,.sl 3 (jJ ac)]])) ?_;refine gCj ?_;refine jS 5 rfl rfl ?_;refine sZ 0 ?_;refine goW ?_;obtain⟨g4,h⟩:=mI h;refine gSk (LH.cl ((gQ6 [(gM.mk [115,101,108,102] (gF.mk aa ab ac))] aj g4).p)) ?_;refine goW ?_;obtain⟨g5,h⟩:=mI h;obtain⟨⟨be,bf,bg⟩,ba,h⟩:=pI h;have sx6:=(gDi [(gM.mk [115,101,108,102] (gF.mk aa ab ac))] (gF.mk f q y) g5).p;rw [ba] at sx6;refine gSk (LH.cl (sx6)) ?_;refine goW ?_;refine jY ?_;exact goR h
def gMy(f:kF):List jT→(List jT)→Option (kF)
 | [],q=>gd (([]:LS).length+f.vars.length≤4294967296) (
bnd (gNh f.where_) fun aa=>
gd (tok f.result) (lt_ (idT f.result) fun ab=>
bnd (gOq 5000 f.body) fun ac=>
some (kF.mk f.name ([]++f.vars) aa q ab ac)))
 | y::xs,q=>gd (tok y.type_) (lt_ (idT y.type_) fun x8=>
gd (q.length+[(jT.mk y.name x8)].length≤4294967296) (
gMy f xs (q++[(jT.mk y.name x8)])))
def gW7(f:kF):Option (kF):=
gMy f f.params []
theorem hUt(a0:kF){r:kF}(h:gW7 a0=some r):gW Tryz.prog 72 [.d (gCr a0)] [gCr r]:=by
 obtain⟨aq,ar,au,ae,⟨aa,ab,ac⟩,⟨ag,ah,ai,aj,⟨f,q,y⟩,ak,al⟩⟩:=a0;unfold gW7 at h;refine SpI Tryz.func72 fun A _=>?_;refine goL ?_;refine qO ?_;refine goL ?_;refine noB ?_;refine pG 0 3 (fun z4=>?_);refine kQ (fun(y3:Nat)(y1:List jT)(v2:Nat)=>⟨[(1,.ptr 0 0),(2,.ptr 1 0),(3,.sl 2 v2),(4,.N y3)],[.box [.S aq,.L 1 (kD ar),.L 4 (kM au),.L 4 (mK ae),.I aa,.S ab,.L 3 (jJ ac),.I ag,.S ah,.S ai,.I aj,.I f,.S q,.L 3 (jJ y),.L 9 (vP ak),.L 11 (gBv al)],.box [.S [],.nilsl,.nilsl,.nilsl,.I 0,.S [],.nilsl,.I 0,.S [],.S [],.I 0,.I 0,.S [],.nilsl,.nilsl,.nilsl],.arr 225 4 v2 (mK y1)],Tryz.f72.ntmps⟩) (fun y3 y1 v2=>gMy (kF.mk aq ar au ae (gF.mk aa ab ac) (gY.mk ag ah ai aj (gF.mk f q y) ak al)) (ae.drop y3) y1=some r) (fun y3 y1 v2=>ae.length - y3) 0 [] 0 eJ h ?_;rintro y3 y1 v2 h;refine goL ?_;refine kN (fun c5=>?_) (fun c5=>?_)
 ·have ad:=qB c5;obtain⟨x6,a4,a5⟩:=drop_at ad;rw [a5,gMy.eq_2] at h;obtain⟨av,⟨an,ao,ap⟩⟩:=x6;refine noS ?_;refine kC (gP ?_);refine dZ 0 ?_;refine goW ?_;refine kR (fun _=>gV y3 (gQf a4)) ?_;refine goW ?_;refine kR (fun _=>gV y3 (gQf a4)) ?_;refine goW ?_;obtain⟨g7,h⟩:=mI h;obtain⟨⟨aw,ax,ay⟩,be,h⟩:=pI h;have sx8:=(mR (gF.mk an ao ap) g7).p;rw [be] at sx8;refine kR (fun _=>gD (sx8)) ?_;refine goW ?_;refine uK (us:=mK [(jT.mk av (gF.mk aw ax ay))]) ?_;obtain⟨g9,h⟩:=mI h;refine uL g9 ?_;refine goW ?_;refine jY ?_;refine goL ?_;refine gX (jK y3 (by omega)) ?_;exact⟨(y3+1),(y1++[(jT.mk av (gF.mk aw ax ay))]),(v2+1),h,by omega,eJ⟩
 ·have ad:=qC c5;rw [gT ad,gMy.eq_1] at h;refine goX ?_;refine gFh ?_;refine goL ?_;obtain⟨bf,h⟩:=mI h;refine gDj bf ?_;refine goL ?_;obtain⟨bu,a6,h⟩:=gK h;refine gX (gD (gWe _ a6)) ?_;obtain⟨bg,h⟩:=mI h;obtain⟨⟨bh,bi,bj⟩,a7,h⟩:=pI h;have sx13:=(mR (gF.mk aa ab ac) bg).p;rw [a7] at sx13;refine gX (gD (sx13)) ?_;obtain⟨⟨bk,bl,bm,bn,⟨a8,a9,ba⟩,bo,bp⟩,bb,h⟩:=gK h;refine gX (gD (gWa _ _ bb)) ?_;refine qW 3 rfl rfl ?_;refine jS 2 rfl rfl ?_;refine jH ?_;cases h;exact mM
def gHl(y:gB)(x1:List gM)(y2:List kK):List jZ→(List jZ)→Option (gB)
 | [],q=>(some (gB.mk y.next y.count y.node x1 y2 q y.code y.at_))
 | f::xs,q=>gd (tok f.goal.type_) (lt_ (idT f.goal.type_) fun aa=>
gd (q.length+[(jZ.mk (gU.mk f.goal.trait aa) f.node)].length≤4294967296) (
gHl y x1 y2 xs (q++[(jZ.mk (gU.mk f.goal.trait aa) f.node)])))
def gHm(a0:gB)(x1:List gM):List kK→(List kK)→Option (gB)
 | [],y=>gHl a0 x1 y a0.obligations []
 | f::xs,y=>gd (tok f.a) (lt_ (idT f.a) fun x9=>
gd (tok f.b) (lt_ (idT f.b) fun q=>
gd (y.length+[(kK.mk x9 q f.node)].length≤4294967296) (
gHm a0 x1 xs (y++[(kK.mk x9 q f.node)]))))
def gKh(f:gB):Option (gB):=
bnd (gUh f.bindings) fun q=>
gHm f q f.equations []
theorem gP0(a0:gB){r:gB}(h:gKh a0=some r):gW Tryz.prog 120 [.d (jR a0)] [jR r]:=by
 obtain⟨y,aa,ab,am,ac,f,ad,ae⟩:=a0;unfold gKh at h;refine SpI Tryz.func120 fun A _=>?_;refine goL ?_;obtain⟨x1,bn,h⟩:=gK h;refine gX (gD (hFl _ bn)) ?_;refine qO ?_;refine goL ?_;refine noB ?_;refine pG 0 4 (fun z5=>?_);refine kQ (fun(y4:Nat)(y2:List kK)(v3:Nat)=>⟨[(1,.ptr 0 0),(2,.ptr 1 0),(3,.ptr 2 0),(4,.N y4)],[bSt y aa ab am ac f ad ae,.box [.I 0,.I 0,.I 0,.nilsl,.nilsl,.nilsl,.I 0,.I 0],.box [.I y,.I aa,.I ab,.L 4 (jM x1),.sl 3 v3,.L 5 (uY f),.I ad,.I ae],.arr 239 7 v3 (vV y2)],Tryz.f120.ntmps⟩) (fun y4 y2 v3=>gHm (gB.mk y aa ab am ac f ad ae) x1 (ac.drop y4) y2=some r) (fun y4 y2 v3=>ac.length - y4) 0 [] 0 eJ h ?_;rintro y4 y2 v3 h;refine goL ?_;refine kN (fun c6=>?_) (fun c6=>?_)
 ·have ai:=qB c6;obtain⟨x7,bf,bi⟩:=drop_at ai;rw [bi,gHm.eq_2] at h;obtain⟨⟨a2,a3,a4⟩,⟨a5,a6,a7⟩,ba⟩:=x7;refine noS ?_;refine kC (gP ?_);refine dZ 0 ?_;refine goW ?_;refine kR (fun _=>gV y4 (gJu bf)) ?_;refine goW ?_;obtain⟨g8,h⟩:=mI h;obtain⟨⟨bb,bc,bd⟩,bp,h⟩:=pI h;have sx9:=(mR (gF.mk a2 a3 a4) g8).p;rw [bp] at sx9;refine kR (fun _=>gD (sx9)) ?_;refine goW ?_;refine kR (fun _=>gV y4 (gJu bf)) ?_;refine goW ?_;obtain⟨bq,h⟩:=mI h;obtain⟨⟨aq,ar,au⟩,bj,h⟩:=pI h;have sx11:=(mR (gF.mk a5 a6 a7) bq).p;rw [bj] at sx11;refine kR (fun _=>gD (sx11)) ?_;refine goW ?_;refine kR (fun _=>gV y4 (gJu bf)) ?_;refine goW ?_;refine uK (us:=vV [(kK.mk (gF.mk bb bc bd) (gF.mk aq ar au) ba)]) ?_;obtain⟨br,h⟩:=mI h;refine uL br ?_;refine goW ?_;refine jY ?_;refine goL ?_;refine gX (jK y4 (by omega)) ?_;exact⟨(y4+1),(y2++[(kK.mk (gF.mk bb bc bd) (gF.mk aq ar au) ba)]),(v3+1),h,by omega,eJ⟩
 ·have ai:=qC c6;rw [gT ai,gHm.eq_1] at h;refine goX ?_;refine qO ?_;refine goL ?_;refine noB ?_;refine pG 0 5 (fun bz=>?_);refine kQ (fun(q:Nat)(an:List jZ)(ao:Nat)=>⟨[(1,.ptr 0 0),(2,.ptr 1 0),(3,.ptr 2 0),(5,.N q)],[bSt y aa ab am ac f ad ae,.box [.I 0,.I 0,.I 0,.nilsl,.nilsl,.nilsl,.I 0,.I 0],.box [.I y,.I aa,.I ab,.L 4 (jM x1),.sl 3 v3,.sl 4 ao,.I ad,.I ae],.arr 239 7 v3 (vV y2),.arr 300 5 ao (uY an)],Tryz.f120.ntmps⟩) (fun q an ao=>gHl (gB.mk y aa ab am ac f ad ae) x1 y2 (f.drop q) an=some r) (fun q an ao=>f.length - q) 0 [] 0 eJ h ?_;rintro q an ao h;refine goL ?_;refine kN (fun bg=>?_) (fun bg=>?_)
  ·have ag:=qB bg;obtain⟨bt,be,bh⟩:=drop_at ag;rw [bh,gHl.eq_2] at h;obtain⟨⟨ah,⟨aj,ak,al⟩⟩,av⟩:=bt;refine noS ?_;refine kC (gP ?_);refine goL ?_;refine pX (gV q (gD6 be)) ?_;refine gCj ?_;refine dZ 0 ?_;refine goW ?_;obtain⟨bu,h⟩:=mI h;obtain⟨⟨aw,ax,ay⟩,bk,h⟩:=pI h;have sx20:=(mR (gF.mk aj ak al) bu).p;rw [bk] at sx20;refine kR (fun _=>gD (sx20)) ?_;refine goW ?_;refine kR (fun _=>gV q (gD6 be)) ?_;refine goW ?_;refine uK (us:=uY [(jZ.mk (gU.mk ah (gF.mk aw ax ay)) av)]) ?_;obtain⟨bv,h⟩:=mI h;refine uL bv ?_;refine goW ?_;refine jY ?_;refine goL ?_;refine gX (jK q (by omega)) ?_;exact⟨(q+1),(an++[(jZ.mk (gU.mk ah (gF.mk aw ax ay)) av)]),(ao+1),h,by omega,eJ⟩
  ·have ag:=qC bg;rw [gT ag,gHl.eq_1] at h;refine goX ?_;refine jS 3 rfl rfl ?_;refine jS 4 rfl rfl ?_;refine jH ?_;cases h;exact mM
def gTe  :Option (gF):=
bnd (gGh [105,110,116] []) fun f=>
(some f)
theorem hAd  {r:gF}(h:gTe  =some r):gW Tryz.prog 226 [] [kT r]:=by
 unfold gTe at h;refine SpI Tryz.func226 fun A _=>?_;refine goL ?_;obtain⟨⟨q,y,aa⟩,f,h⟩:=gK h;refine pX (gD (gMa _ _ f)) ?_;exact goR h
def gR6  :Option (gF):=
bnd (gGh [98,111,111,108] []) fun f=>
(some f)
theorem hAe  {r:gF}(h:gR6  =some r):gW Tryz.prog 227 [] [kT r]:=by
 unfold gR6 at h;refine SpI Tryz.func227 fun A _=>?_;refine goL ?_;obtain⟨⟨q,y,aa⟩,f,h⟩:=gK h;refine pX (gD (gMa _ _ f)) ?_;exact goR h
def gCv(q:gB):Option (gB × gF):=
bnd (gWf q) fun f=>
gd (gK9 q.next) (gd (([63]:LB).length+(Lib.itoa q.next).length≤4294967296) (
lt_ (gM4 (([63]:LB)++(Lib.itoa q.next))) fun y=>
some ((gB.mk (IntKind.i64.wrap (q.next+1)) f.count f.node f.bindings f.equations f.obligations f.code f.at_),y)))
theorem gJ4(q:gB){r:gB × gF}(h:gCv q=some r):gW Tryz.prog 268 [.d (jR q)] [jR r.1,kT r.2]:=by
 obtain⟨f,ab,ac,ad,ae,ag,ah,ai⟩:=q;unfold gCv at h;refine SpI Tryz.func268 fun A _=>?_;refine goL ?_;obtain⟨⟨aj,ak,al,am,an,ao,ap,aq⟩,y,h⟩:=gK h;refine gX (gD (hLh _ y)) ?_;refine pX (pR) ?_;refine gCj ?_;refine sZ 0 ?_;refine goW ?_;obtain⟨g2,h⟩:=mI h;refine kR (fun _=>gD (gOa f g2)) ?_;obtain⟨g3,h⟩:=mI h;refine kR (fun _=>yS g3) ?_;obtain⟨⟨ar,au,av⟩,aa,h⟩:=pI h;have sx4:=gVi (([63]:LB)++(Lib.itoa f));rw [aa] at sx4;refine kR (fun _=>gD (sx4)) ?_;refine goW ?_;refine jY ?_;exact goR h
def qJ(a1:LB):List kW→Nat→kW × Int × Bool
 | [],f=>((kW.mk [] [] (gF.mk 0 [] []) false [] (gY.mk 0 [] [] 0 (gF.mk 0 [] []) [] [])),0,false)
 | q::xs,f=>(cnd (q.name==a1) (q,(f:Int),true) (
qJ a1 xs (f+1)))
def pV(f:mE)(a1:LB):kW × Int × Bool:=
qJ a1 f.signatures 0
theorem gR7(a0:mE)(a1:LB):gW Tryz.prog 19 [.d (gF2 a0),.S a1] [gC0 (pV a0 a1).1,.i .i64 (pV a0 a1).2.1,.b (pV a0 a1).2.2]:=by
 obtain⟨r,h⟩:∃r,pV a0 a1=r:=⟨_,rfl⟩
 rw [h];obtain⟨ae,ag,ah,ai,f⟩:=a0;unfold pV at h;refine SpI Tryz.func19 fun A _=>?_;refine goL ?_;refine noB ?_;refine gB0 10 (fun z2=>?_);refine kZ (fun(y:Nat)=>⟨[(1,.S a1),(4,.ptr 1 0),(10,.L 16 (gA6 f)),(11,.I (f.length:Int)),(12,.N y)],[bTr ae ag ah ai f,.box [.S [],.nilsl,.I 0,.S [],.nilsl,.B false,.nilsl,.I 0,.S [],.S [],.I 0,.I 0,.S [],.nilsl,.nilsl,.nilsl]],Tryz.f19.ntmps⟩) (fun y=>qJ a1 (f.drop y) y=r) (fun y=>f.length - y) 0 eJ h ?_;rintro y h;refine goL ?_;refine kC (kN (fun c3=>?_) (fun c3=>?_))
 ·have q:=qB c3;obtain⟨x4,aw,aj⟩:=drop_at q;rw [aj,qJ.eq_2] at h;obtain⟨ay,a2,⟨ak,al,am⟩,a3,a4,⟨an,ao,ap,aq,⟨ab,ac,ad⟩,ar,au⟩⟩:=x4;refine noS ?_;refine kC (gP ?_);refine goL ?_;refine gX (gV y (vU aw)) ?_;refine kN (fun c5=>?_) (fun c5=>?_)
  ·replace h:=jU c5 h;refine goL ?_;refine jH ?_;subst h;exact mM
  ·replace h:=jV c5 h;refine goS ?_;refine gX (jK y (by omega)) ?_;exact⟨(y+1),h,by omega,eJ⟩
 ·have q:=qC c3;rw [gT q,qJ.eq_1] at h;refine goX ?_;refine gC1 (jI TBd.h TZ.h rfl (by repeat constructor)) ?_;refine jH ?_;subst h;exact mM
def gD8(a1:LB):List qX→Nat→Int
 | [],f=>(-1)
 | q::xs,f=>(cnd (q.name==a1) (f:Int) (
gD8 a1 xs (f+1)))
def wB(f:jF)(a1:LB):Int:=
gD8 a1 f.methods 0
theorem hNo(a0:jF)(a1:LB):gW Tryz.prog 23 [.d (vY a0),.S a1] [.i .i64 (wB a0 a1)]:=by
 obtain⟨r,h⟩:∃r,wB a0 a1=r:=⟨_,rfl⟩
 rw [h];obtain⟨ak,al,⟨aa,ab,ac⟩,am,an,ao,⟨ad,ae,ag⟩,q⟩:=a0;unfold wB at h;refine SpI Tryz.func23 fun A _=>?_;refine goL ?_;refine noB ?_;refine pG 0 11 (fun z2=>?_);refine kZ (fun(y:Nat)=>⟨[(1,.S a1),(2,.ptr 0 0),(5,.N y)],[bIn ak al aa ab ac am an ao ad ae ag q],Tryz.f23.ntmps⟩) (fun y=>gD8 a1 (q.drop y) y=r) (fun y=>q.length - y) 0 eJ h ?_;rintro y h;refine goL ?_;refine kN (fun c3=>?_) (fun c3=>?_)
 ·have f:=qB c3;obtain⟨x4,a3,ap⟩:=drop_at f;rw [ap,gD8.eq_2] at h;obtain⟨a5,a6,⟨ar,au,av,aw,⟨ah,ai,aj⟩,ax,ay⟩⟩:=x4;refine noS ?_;refine kC (gP ?_);refine goL ?_;refine gX (gV y (gMi a3)) ?_;refine kN (fun c5=>?_) (fun c5=>?_)
  ·replace h:=jU c5 h;refine goL ?_;refine jH ?_;subst h;exact mM
  ·replace h:=jV c5 h;refine goS ?_;refine gX (jK y (by omega)) ?_;exact⟨(y+1),h,by omega,eJ⟩
 ·have f:=qC c3;rw [gT f,gD8.eq_1] at h;refine goX ?_;refine jH ?_;subst h;exact mM
def vE(a1:Int)(y:Int)(a3:Int)(a4:Int):List pQ→Nat→Int
 | [],q=>(-1)
 | f::xs,q=>lt_ (cnd (f.kind==a1) (cnd (f.package==y) (cnd (f.at_==a3) (f.sub==a4) (false)) (false)) (false)) fun b5=>
(cnd b5 (q:Int) (
vE a1 y a3 a4 xs (q+1)))
def qF(f:List pQ)(a1:Int)(q:Int)(y:Int)(a4:Int):Int:=
vE a1 q y a4 f 0
theorem gW8(a0:List pQ)(a1:Int)(a2:Int)(a3:Int)(a4:Int):gW Tryz.prog 24 [.L 21 (zR a0),.I a1,.I a2,.I a3,.I a4] [.i .i64 (qF a0 a1 a2 a3 a4)]:=by
 obtain⟨r,h⟩:∃r,qF a0 a1 a2 a3 a4=r:=⟨_,rfl⟩
 rw [h];unfold qF at h;refine SpI Tryz.func24 fun A _=>?_;refine goL ?_;refine noB ?_;refine gB0 0 (fun z2=>?_);refine kZ (fun(q:Nat)=>⟨[(0,.L 21 (zR a0)),(1,.I a1),(2,.I a2),(3,.I a3),(4,.I a4),(11,.N q)],[],Tryz.f24.ntmps⟩) (fun q=>vE a1 a2 a3 a4 (a0.drop q) q=r) (fun q=>a0.length - q) 0 eJ h ?_;rintro q h;refine goL ?_;refine kN (fun c3=>?_) (fun c3=>?_)
 ·have f:=qB c3;obtain⟨x4,y,ai⟩:=drop_at f;rw [ai,vE.eq_2] at h;obtain⟨ax,ay,a5,a6,a7,a8,a9,⟨aj,ak,al⟩,⟨am,an,ao,ap,⟨ae,ag,ah⟩,aq,ar,au,av⟩⟩:=x4;refine noS ?_;refine kC (gP ?_);refine goL ?_;refine gX (gV q (gT6 y)) ?_;obtain⟨b5,hb5,h⟩:=pI h;refine kG ⟨[(0,.L 21 (zR a0)),(1,.I a1),(2,.I a2),(3,.I a3),(4,.I a4),(11,.N q),(51,.B b5)],[],Tryz.f24.ntmps⟩ ?_ ?_
  ·refine gqA 25 hb5 (fun c6 hb5=>?_);refine gX (gV q (gT6 y)) ?_;refine gqA 34 hb5 (fun c7 hb5=>?_);refine gX (gV q (gT6 y)) ?_;refine gqA 43 hb5 (fun c8 hb5=>?_);refine gX (gV q (gT6 y)) ?_;cases hb5;exact eJ
  refine goC h ?_ ?_<;>intro c9 h
  ·refine goL ?_;refine jH ?_;subst h;exact mM
  ·refine goS ?_;refine gX (jK q (by omega)) ?_;exact⟨(q+1),h,by omega,eJ⟩
 ·have f:=qC c3;rw [gT f,vE.eq_1] at h;refine goX ?_;refine jH ?_;subst h;exact mM
def gA0(a1:LB)(y:Nat)(f:Int × Int):List mE→Nat→Int × Int
 | [],q=>f
 | x8::xs,q=>(cnd (x8.name==a1) ((y:Int),(q:Int)) (
gA0 a1 y f xs (q+1)))
def yE(a1:LB):List jL→Nat→Int × Int
 | [],f=>((-1),(-1))
 | q::xs,f=>gA0 a1 f (yE a1 xs (f+1)) q.traits 0
def gC2(f:gG)(a1:LB):Int × Int:=
yE a1 f.packages 0
theorem hIi(a0:gG)(a1:LB):gW Tryz.prog 44 [.d (jX a0),.S a1] [.i .i64 (gC2 a0 a1).1,.i .i64 (gC2 a0 a1).2]:=by
 obtain⟨r,h⟩:∃r,gC2 a0 a1=r:=⟨_,rfl⟩
 rw [h];obtain⟨f⟩:=a0;unfold gC2 at h;refine SpI Tryz.func44 fun A _=>?_;refine goL ?_;refine noB ?_;refine pG 0 0 (fun z2=>?_);refine kZ (fun(q:Nat)=>⟨[(1,.S a1),(2,.ptr 0 0),(6,.N q)],[bPr f],Tryz.f44.ntmps⟩) (fun q=>yE a1 (f.drop q) q=r) (fun q=>f.length - q) 0 eJ h ?_;rintro q h;refine goL ?_;refine kN (fun c3=>?_) (fun c3=>?_)
 ·have y:=qB c3;obtain⟨x4,ae,ag⟩:=drop_at y;rw [ag,yE.eq_2] at h;obtain⟨am,an,ac,ao,ap,aq⟩:=x4;refine noS ?_;refine kC (gP ?_);refine goL ?_;refine noB ?_;refine kZ (fun(y5:Nat)=>⟨[(1,.S a1),(2,.ptr 0 0),(6,.N q),(7,.N y5)],[bPr f],Tryz.f44.ntmps⟩) (fun y5=>gA0 a1 q (yE a1 (f.drop (q+1)) (q+1)) (ac.drop y5) y5=r) (fun y5=>ac.length - y5) 0 eJ h ?_;rintro y5 h;refine goL ?_;refine gX (gV q (mX ae)) ?_;refine kN (fun c6=>?_) (fun c6=>?_)
  ·have aa:=qB c6;refine gB0 21 (fun z7=>?_);obtain⟨x8,ak,ah⟩:=drop_at aa;rw [ah,gA0.eq_2] at h;obtain⟨ar,au,av,aw,ax⟩:=x8;refine noS ?_;refine kC (gP ?_);refine goL ?_;refine gX (gV q (mX ae)) ?_;refine gX (gV y5 (gLc ak)) ?_;refine kN (fun c9=>?_) (fun c9=>?_)
   ·replace h:=jU c9 h;refine goL ?_;refine jH ?_;subst h;exact mM
   ·replace h:=jV c9 h;refine goS ?_;refine gX (jK y5 (by omega)) ?_;exact⟨(y5+1),h,by omega,eJ⟩
  ·have aa:=qC c6;rw [gT aa,gA0.eq_1] at h;refine goX ?_;refine gX (jK q (by omega)) ?_;exact⟨(q+1),h,by omega,eJ⟩
 ·have y:=qC c3;rw [gT y,yE.eq_1] at h;refine goX ?_;refine jH ?_;subst h;exact mM
def uZ(f:gJ→gJ→Option (Bool))(a1:gJ):List gJ→Nat→Option (Bool)
 | [],q=>(some true)
 | y::xs,q=>bnd (at? a1.args (q:Int)) fun aa=>
bnd (f y aa) fun ab=>
(cnd (!ab) (some false) (
uZ f a1 xs (q+1)))
def vB(f:gJ→gJ→Option (Bool))(a0:gJ)(a1:gJ):List Int→Nat→Option (Bool)
 | [],q=>uZ f a1 a0.args 0
 | x9::xs,q=>bnd (at? a1.steps (q:Int)) fun y=>
(cnd (x9 != y) (some false) (
vB f a0 a1 xs (q+1)))
def gDg(f:gJ→gJ→Option (Bool))(q:gJ)(a1:gJ):Option (Bool):=
lt_ (cnd (q.kind != a1.kind) (true) (cnd (!(q.at_.package==a1.at_.package && q.at_.at_==a1.at_.at_)) (true) (cnd ((q.steps.length:Int) !=(a1.steps.length:Int)) (true) ((q.args.length:Int) !=(a1.args.length:Int))))) fun y=>
(cnd y (some false) (
vB f q a1 q.steps 0))
theorem gR8{f:gJ→gJ→Option (Bool)}(q:∀(x0:gJ)(x1:gJ){r:Bool},f x0 x1=some r→gW Tryz.prog 8 [.d (jP x0),.d (jP x1)] [.b r])(a0:gJ)(a1:gJ){r:Bool}(h:gDg f a0 a1=some r):gW Tryz.prog 8 [.d (jP a0),.d (jP a1)] [.b r]:=by
 obtain⟨am,⟨ab,ac⟩,ae,ag⟩:=a0;obtain⟨ai,⟨y,aa⟩,aj,ak⟩:=a1;unfold gDg at h;refine SpI Tryz.func8 fun A _=>?_;refine goL ?_;obtain⟨b1,hb1,h⟩:=pI h;refine kG ⟨[(2,.ptr 0 0),(3,.ptr 1 0),(36,.B b1)],[.box [.I am,.I ab,.I ac,.L 1 (yC ae),.L 5 (jQ ag)],.box [.I ai,.I y,.I aa,.L 1 (yC aj),.L 5 (jQ ak)]],Tryz.f8.ntmps⟩ ?_ ?_
 ·refine gqO 12 hb1 (fun c2 hb1=>?_);refine goL ?_;refine gqO 19 hb1 (fun c3 hb1=>?_);exact gqZ 28 hb1
 refine goC h ?_ ?_<;>intro c5 h
 ·exact goR h
 ·refine goS ?_;refine noB ?_;refine pG 0 3 (fun z7=>?_);refine kZ (fun(y6:Nat)=>⟨[(2,.ptr 0 0),(3,.ptr 1 0),(5,.N y6)],[.box [.I am,.I ab,.I ac,.L 1 (yC ae),.L 5 (jQ ag)],.box [.I ai,.I y,.I aa,.L 1 (yC aj),.L 5 (jQ ak)]],Tryz.f8.ntmps⟩) (fun y6=>vB f (gJ.mk am (gI.mk ab ac) ae ag) (gJ.mk ai (gI.mk y aa) aj ak) (ae.drop y6) y6=some r) (fun y6=>ae.length - y6) 0 eJ h ?_;rintro y6 h;refine goL ?_;refine kN (fun c8=>?_) (fun c8=>?_)
  ·have al:=qB c8;obtain⟨x9,a6,au⟩:=drop_at al;rw [au,vB.eq_2] at h;refine noS ?_;refine kC (gP ?_);refine goL ?_;refine wC (gV y6 (hVk a6)) ?_;refine goL ?_;obtain⟨bi,ao,h⟩:=gK h;rw [gBb] at ao;refine wC (gV y6 (hVk ao)) ?_;refine goC h ?_ ?_<;>intro bj h
   ·exact goR h
   ·refine goS ?_;refine gX (jK y6 (by omega)) ?_;exact⟨(y6+1),h,by omega,eJ⟩
  ·have al:=qC c8;rw [gT al,vB.eq_1] at h;refine goX ?_;refine noB ?_;refine pG 0 4 (fun bk=>?_);refine kZ (fun(ad:Nat)=>⟨[(2,.ptr 0 0),(3,.ptr 1 0),(6,.N ad)],[.box [.I am,.I ab,.I ac,.L 1 (yC ae),.L 5 (jQ ag)],.box [.I ai,.I y,.I aa,.L 1 (yC aj),.L 5 (jQ ak)]],Tryz.f8.ntmps⟩) (fun ad=>uZ f (gJ.mk ai (gI.mk y aa) aj ak) (ag.drop ad) ad=some r) (fun ad=>ag.length - ad) 0 eJ h ?_;rintro ad h;refine goL ?_;refine kN (fun aq=>?_) (fun aq=>?_)
   ·have ah:=qB aq;obtain⟨a7,av,ar⟩:=drop_at ah;rw [ar,uZ.eq_2] at h;obtain⟨a8,⟨aw,ax⟩,a9,ba⟩:=a7;refine noS ?_;refine kC (gP ?_);refine goL ?_;refine wC (gV ad (gA7 av)) ?_;refine goL ?_;obtain⟨bb,ap,h⟩:=gK h;rw [gBb] at ap;obtain⟨bc,⟨ay,a2⟩,bd,be⟩:=bb;refine wC (gV ad (gA7 ap)) ?_;refine goL ?_;obtain⟨bl,a3,h⟩:=gK h;refine wC (gD (q _ _ a3)) ?_;refine goC h ?_ ?_<;>intro bm h
    ·exact goR h
    ·refine goS ?_;refine gX (jK ad (by omega)) ?_;exact⟨(ad+1),h,by omega,eJ⟩
   ·have ah:=qC aq;rw [gT ah,uZ.eq_1] at h;refine goX ?_;refine jH ?_;cases h;exact mM
def vS:Nat→gJ→gJ→Option (Bool)
 | 0,_,_=>none
 | n+1,f,q=>gDg (vS n) f q
theorem gDh:∀(n:Nat)(f:gJ)(q:gJ){r:Bool},vS n f q=some r→gW Tryz.prog 8 [.d (jP f),.d (jP q)] [.b r]:=by
 intro n
 induction n with
 | zero=>intro f q r h;cases h
 | succ n ih=>intro f q r h;exact gR8 ih f q h
def idI(l:List Int):List Int:=l
theorem hQu(l:List Int)(hl:l.length≤4294967296):pJ Tryz.prog 42 [.L 1 (yC l)] [3] [.sl 1 (yC (idI l))]:=by
 refine yB Tryz.func42 rfl (by kernel_rfl) rfl (by simp) fun A _=>?_;refine goL ?_;refine hQo (fun b hb=>?_);refine goL ?_;cases b with
 | true=>
   have f:l=[]:=by
    cases l with
    | nil=>rfl
    | cons a l=>cases hb rfl
   subst f;refine jA6 ?_;refine goL ?_;refine hM4 3 1 2 ?_;refine jH ?_;show uW _ _ _ [.sl 1 ([]:List U)] _ _;exact hCk
 | false=>
   refine jA7 ?_;refine gCs ?_;refine goL ?_;refine gFh ?_;refine goL ?_;refine gDj (l:=[]) (r:=l) (by simpa using hl) ?_;refine goL ?_;refine jH ?_;show uW _ _ _ [.sl 1 (yC ([]++l))] _ _;exact hCk
def gUt(q:gJ→Option (gJ))(f:(List gJ)→Option (List gJ))(y:gJ):Option (gJ):=
gd (y.steps.length≤4294967296) (lt_ (idI y.steps) fun x2=>
bnd (f y.args) fun x3=>
some (gJ.mk y.kind y.at_ x2 x3))
def gUu(f:gJ→Option (gJ)):Prop:=∀(q:gJ){r:gJ},f q=some r→pJ Tryz.prog 21 [.d (jP q)] [3,33] [jP r]
def gR9(f:(List gJ)→Option (List gJ)):Prop:=∀(q:List gJ){r:List gJ},f q=some r→pJ Tryz.prog 17 [.L 5 (jQ q)] [33] [.sl 5 (jQ r)]
theorem hQv{q}{f}(aa:gUu q)(y:gR9 f)(a0:gJ){r:gJ}(h:gUt q f a0=some r):pJ Tryz.prog 21 [.d (jP a0)] [3,33] [jP r]:=by
 obtain⟨aj,⟨ad,ae⟩,ab,ac⟩:=a0;unfold gUt at h;refine yB Tryz.func21 rfl (by kernel_rfl) rfl (by simp) fun A _=>?_;refine goL ?_;obtain⟨g1,h⟩:=mI h;obtain⟨x2,ah,h⟩:=pI h;have sx2:=hQu ab g1;rw [ah] at sx2;refine gO9 (sx2) ?_;refine goL ?_;obtain⟨x3,ai,h⟩:=gK h;refine gO9 (y ac ai) ?_;refine goL ?_;refine jH ?_;obtain rfl:=Option.some.inj h;exact hCk
def gB1(f:gJ→Option (gJ)):List gJ→Nat→(List gJ)→Option (List gJ)
 | [],q,y=>(some y)
 | x7::xs,q,y=>bnd (f x7) fun x8=>
gd (q < y.length) (
gB1 f xs (q+1) (y.set q x8))
def gSa(f:gJ→Option (gJ))(q:(List gJ)→Option (List gJ))(y:List gJ):Option (List gJ):=
gd (y.length≤4294967296) (
gB1 f y 0 (List.replicate y.length (gJ.mk 0 (gI.mk 0 0) [] [])))
theorem hNp{f}{q}(y:gUu f)(ae:gR9 q)(a0:List gJ){r:List gJ}(h:gSa f q a0=some r):pJ Tryz.prog 17 [.L 5 (jQ a0)] [33] [.sl 5 (jQ r)]:=by
 unfold gSa at h;refine yB Tryz.func17 rfl (by kernel_rfl) rfl (by simp) fun A _=>?_;refine goL ?_;obtain⟨g1,h⟩:=mI h;refine jEr (gJ.mk 0 (gI.mk 0 0) [] []) g1 ?_;refine goL ?_;refine noB ?_;refine gB0 9 (fun z5=>?_);refine kQ (fun(y4:Nat)(y2:List gJ)(v3:Nat)=>⟨[(3,.sl 0 v3),(9,.L 5 (jQ a0)),(10,.I (a0.length:Int)),(11,.N y4)],[.own 33 5 v3 (jQ y2)],Tryz.f17.ntmps⟩) (fun y4 y2 v3=>gB1 f (a0.drop y4) y4 y2=some r) (fun y4 y2 v3=>a0.length - y4) 0 (List.replicate a0.length (gJ.mk 0 (gI.mk 0 0) [] [])) 0 eJ h ?_;rintro y4 y2 v3 h;refine goL ?_;refine kC (kN (fun c6=>?_) (fun c6=>?_))
 ·have aa:=qB c6;obtain⟨x7,av,ao⟩:=drop_at aa;rw [ao,gB1.eq_2] at h;obtain⟨ap,⟨ag,ah⟩,aq,ar⟩:=x7;refine noS ?_;refine kC (gP ?_);refine goL ?_;refine gX (gV y4 (gA7 av)) ?_;obtain⟨⟨ai,⟨ab,ac⟩,aj,ak⟩,aw,h⟩:=gK h;refine gO9 (y (gJ.mk ap (gI.mk ag ah) aq ar) aw) ?_;obtain⟨g9,h⟩:=mI h;refine uX (jEs y4 g9) ?_;refine jEt (gJ.mk ai (gI.mk ab ac) aj ak) g9 ?_;refine goL ?_;refine gX (jK y4 (by omega)) ?_;exact⟨(y4+1),(y2.set y4 (gJ.mk ai (gI.mk ab ac) aj ak)),v3,h,by omega,eJ⟩
 ·have aa:=qC c6;rw [gT aa,gB1.eq_1] at h;refine goX ?_;refine jH ?_;obtain rfl:=Option.some.inj h;exact hCk
mutual
def gP1:Nat→gJ→Option (gJ)
 | 0,_=>none
 | n+1,f=>gUt (gP1 n) (gMz n) f
def gMz:Nat→(List gJ)→Option (List gJ)
 | 0,_=>none
 | n+1,f=>gSa (gP1 n) (gMz n) f
end
theorem hCu:∀(n:Nat),gUu (gP1 n)∧gR9 (gMz n):=by
 intro n
 induction n with
 | zero=>exact⟨(by intro f r h;cases h),(by intro f r h;cases h)⟩
 | succ n ih=>
   obtain⟨ih0,ih1⟩:=ih;refine⟨(fun f r h=>hQv ih0 ih1 f h),(fun f r h=>hNp ih0 ih1 f h)⟩
theorem hQw:∀(n:Nat),gUu (gP1 n):=fun n=>(hCu n).1
theorem hNq:∀(n:Nat),gR9 (gMz n):=fun n=>(hCu n).2
def gD9(f:gJ→Option (gJ))(q:gJ):List gJ→(List gJ)→Option (gJ)
 | [],y=>(some (gJ.mk q.kind q.at_ ([]++q.steps) y))
 | x7::xs,y=>bnd (f x7) fun x8=>
gd (y.length+[x8].length≤4294967296) (
gD9 f q xs (y++[x8]))
def gUv(f:gJ→Option (gJ))(q:gJ):Option (gJ):=
gd (([]:List Int).length+q.steps.length≤4294967296) (
gD9 f q q.args [])
theorem hQx{f:gJ→Option (gJ)}(q:∀(x0:gJ){r:gJ},f x0=some r→pJ Tryz.prog 25 [.d (jP x0)] [3,33] [jP r])(a0:gJ){r:gJ}(h:gUv f a0=some r):pJ Tryz.prog 25 [.d (jP a0)] [3,33] [jP r]:=by
 obtain⟨aj,⟨aa,ab⟩,ak,ac⟩:=a0;unfold gUv at h;refine yB Tryz.func25 rfl (by kernel_rfl) rfl (by simp) fun A _=>?_;refine goL ?_;refine gFh ?_;refine goL ?_;obtain⟨g1,h⟩:=mI h;refine gDj g1 ?_;refine goL ?_;refine gFh ?_;refine goL ?_;refine noB ?_;refine pG 0 4 (fun z5=>?_);refine kQ (fun(y4:Nat)(y2:List gJ)(v3:Nat)=>⟨[(1,.ptr 0 0),(2,.ptr 1 0),(3,.sl 3 v3),(4,.N y4)],[.box [.I aj,.I aa,.I ab,.sl 2 (0+1),.L 5 (jQ ac)],.box [.I 0,.I 0,.I 0,.nilsl,.nilsl],.own 3 1 (0+1) (yC ([]++ak)),.own 33 5 v3 (jQ y2)],Tryz.f25.ntmps⟩) (fun y4 y2 v3=>gD9 f (gJ.mk aj (gI.mk aa ab) ak ac) (ac.drop y4) y2=some r) (fun y4 y2 v3=>ac.length - y4) 0 [] 0 eJ h ?_;rintro y4 y2 v3 h;refine goL ?_;refine kN (fun c6=>?_) (fun c6=>?_)
 ·have y:=qB c6;obtain⟨x7,ay,aq⟩:=drop_at y;rw [aq,gD9.eq_2] at h;obtain⟨ar,⟨ah,ai⟩,au,av⟩:=x7;refine noS ?_;refine kC (gP ?_);refine goL ?_;refine gX (gV y4 (gA7 ay)) ?_;obtain⟨⟨al,⟨ad,ae⟩,am,an⟩,a2,h⟩:=gK h;refine gO9 (q (gJ.mk ar (gI.mk ah ai) au av) a2) ?_;refine gAz (gJ.mk al (gI.mk ad ae) am an) ?_;obtain⟨g9,h⟩:=mI h;refine gDj g9 ?_;refine goL ?_;refine gX (jK y4 (by omega)) ?_;exact⟨(y4+1),(y2++[(gJ.mk al (gI.mk ad ae) am an)]),(v3+1),h,by omega,eJ⟩
 ·have y:=qC c6;rw [gT y,gD9.eq_1] at h;refine goX ?_;refine jH ?_;obtain rfl:=Option.some.inj h;exact hCk
def gUw:Nat→gJ→Option (gJ)
 | 0,_=>none
 | n+1,f=>gUv (gUw n) f
theorem hQy:∀(n:Nat)(f:gJ){r:gJ},gUw n f=some r→pJ Tryz.prog 25 [.d (jP f)] [3,33] [jP r]:=by
 intro n
 induction n with
 | zero=>intro f r h;cases h
 | succ n ih=>intro f r h;exact hQx ih f h
def idX{α:Type}(x:α):α:=x
theorem hAf(l:List Int):(yC l).length=l.length:=Enc.len l
theorem gYh(l:List gJ):(jQ l).length=l.length:=Enc.len l
theorem hAg{α:Type}{y:List α}{k:Nat}{x:α}(h:k < y.length):(y.set k x).take (k+1)=y.take k++[x]:=by
 rw [List.take_succ_eq_append_getElem (by simp;omega),List.take_set_of_le (by omega)];simp
theorem hNr{a:gJ}{l:List gJ}(h:a∈l):W (jP a)≤Ws (jQ l):=gWl (by rw [show jQ l=l.map jP from Enc.h l];exact List.mem_map_of_mem h)
theorem gSb{rec:gJ→Option gJ}:∀(xs:List gJ)(k:Nat)(y:List gJ),(∀a∈xs,rec a=some a)→y.length=k+xs.length→gB1 rec xs k y=some (y.take k++xs)
 | [],k,y,_,h=>by
   rw [gB1.eq_1,List.take_of_length_le (by simp at h;omega),List.append_nil]
 | x::xs,k,y,h,f=>by
   simp only [List.length_cons] at f;rw [gB1.eq_2,h x (by simp)];simp only [bnd];rw [wI (by omega),gSb xs (k+1) _ (fun a ha=>h a (by simp [ha])) (by simp;omega),hAg (by omega)];simp
theorem hUu:∀(n:Nat),(∀e:gJ,2*W (jP e)+2≤n→W (jP e)≤4294967296→gP1 n e=some (idX e))∧(∀es:List gJ,2*W (.sl 5 (jQ es))+1≤n→W (.sl 5 (jQ es))≤4294967296→gMz n es=some (idX es))
 | 0=>⟨fun _ h=>by omega,fun _ h=>by omega⟩
 | n+1=>by
   obtain⟨f,q⟩:=hUu n;refine⟨fun e hn hw=>?_,fun es hn hw=>?_⟩
   ·obtain⟨a0,a1,y,a3⟩:=e;simp only [jP,W,Ws,gYh,hAf] at hn hw;rw [gP1.eq_2];unfold gUt;rw [wI (by show y.length≤_;omega)];simp only [lt_,idI];rw [q a3 (by simp only [W,gYh];omega) (by simp only [W,gYh];omega)];rfl
   ·simp only [W,gYh] at hn hw;rw [gMz.eq_2];unfold gSa;rw [wI (by omega),gSb _ 0 _ (fun a ha=>?_) (by simp)]
    ·simp [idX]
    ·have:=hNr ha
     have hl:1≤es.length:=List.length_pos_of_mem ha;exact f a (by omega) (by omega)
theorem gTt{rec:gJ→Option gJ}(f:gJ):∀(xs y:List gJ),(∀a∈xs,rec a=some a)→y.length+xs.length≤4294967296→gD9 rec f xs y=some (gJ.mk f.kind f.at_ ([]++f.steps) (y++xs))
 | [],y,_,h=>by rw [gD9.eq_1,List.append_nil]
 | x::xs,y,h,q=>by
   simp only [List.length_cons] at q;rw [gD9.eq_2,h x (by simp)];simp only [bnd];rw [wI (by simp;omega),gTt f xs _ (fun a ha=>h a (by simp [ha])) (by simp;omega)];simp
theorem hXg:∀(n:Nat)(e:gJ),W (jP e)+1≤n→W (jP e)≤4294967296→gUw n e=some (idX e)
 | 0,_,h,_=>by omega
 | n+1,⟨y,a1,q,f⟩,hn,hw=>by
   simp only [jP,W,Ws,gYh,hAf] at hn hw;rw [gUw.eq_2];unfold gUv;rw [wI (by show([]:List Int).length+q.length≤_;simp;omega),gTt _ _ [] (fun a ha=>?_) (by simp;omega)]
   ·rfl
   ·have:=hNr (l:=f) ha
    have hl:1≤f.length:=List.length_pos_of_mem ha;exact hXg n a (by omega) (by omega)
theorem hQz(x:gJ)(h:W (jP x)≤4294967296):pJ Tryz.prog 21 [.d (jP x)] [3,33] [jP (idX x)]:=hQw (2*W (jP x)+2) x ((hUu (2*W (jP x)+2)).1 x (Nat.le_refl _) h)
theorem hNt(x:List gJ)(h:W (.sl 5 (jQ x))≤4294967296):pJ Tryz.prog 17 [.L 5 (jQ x)] [33] [.sl 5 (jQ (idX x))]:=hNq (2*W (.sl 5 (jQ x))+2) x ((hUu (2*W (.sl 5 (jQ x))+2)).2 x (by omega) h)
theorem gUx(x:gJ)(h:W (jP x)≤4294967296):pJ Tryz.prog 25 [.d (jP x)] [3,33] [jP (idX x)]:=hQy (W (jP x)+1) x (hXg (W (jP x)+1) x (Nat.le_refl _) h)
def gCh(a1:qX→Option Bool):List qX→Nat→Option (Int)
 | [],f=>(some (-1))
 | q::xs,f=>bnd (a1 q) fun y=>
(cnd y (some (f:Int)) (
gCh a1 xs (f+1)))
def gP2(f:List qX)(a1:qX→Option Bool):Option (Int):=
gCh a1 f 0
theorem hIk(y:List qX){a1f:Nat}{a1c:List SV}{a1:qX→Option Bool}(a1_lt:∀n,SV.lts n a1c=true)(ha1:∀(x0:qX)(r:Bool),a1 x0=some r→gW Tryz.prog a1f ([.d (gQz x0)]++a1c) [.b r]){r:Int}(h:gP2 y a1=some r):gW Tryz.prog 36 [.L 11 (gEt y),.fn a1f a1c] [.i .i64 r]:=by
 unfold gP2 at h;refine SpI Tryz.func36 fun A _=>?_;refine goL ?_;refine noB ?_;refine gB0 0 (fun z2=>?_);refine kZ (fun(q:Nat)=>⟨[(0,.L 11 (gEt y)),(1,.fn a1f a1c),(7,.I (y.length:Int)),(8,.N q)],[],Tryz.f36.ntmps⟩) (fun q=>gCh a1 (y.drop q) q=some r) (fun q=>y.length - q) 0 ⟨rfl,⟨⟨rfl,rfl⟩,⟨rfl,a1_lt _⟩,⟨rfl,rfl⟩,⟨rfl,rfl⟩,trivial⟩,⟨[],rfl⟩,rfl⟩ h ?_;rintro q h;refine goL ?_;refine kC (kN (fun c3=>?_) (fun c3=>?_))
 ·have f:=qB c3;obtain⟨x4,am,ad⟩:=drop_at f;rw [ad,gCh.eq_2] at h;obtain⟨aq,ar,⟨ae,ag,ah,ai,⟨aa,ab,ac⟩,aj,ak⟩⟩:=x4;refine noS ?_;refine kC (gP ?_);refine goL ?_;refine gX (gV q (gMi am)) ?_;obtain⟨x5,an,h⟩:=gK h;refine gX (gZ5 (ha1 _ _ an) (a1_lt 0)) ?_;refine kN (fun c6=>?_) (fun c6=>?_)
  ·replace h:=jU c6 h;exact goR h
  ·replace h:=jV c6 h;refine goS ?_;refine gX (jK q (by omega)) ?_;exact⟨(q+1),h,by omega,⟨rfl,⟨⟨rfl,rfl⟩,⟨rfl,a1_lt _⟩,⟨rfl,rfl⟩,⟨rfl,rfl⟩,trivial⟩,⟨_,rfl⟩,rfl⟩⟩
 ·have f:=qC c3;rw [gT f,gCh.eq_1] at h;refine goX ?_;refine jH ?_;cases h;exact mM
def gLh(f:qX)(a1:LB):Bool:=
(f.name==a1)
theorem hNu(a0:qX)(a1:LB):gW Tryz.prog 37 [.d (gQz a0),.dp (.s a1)] [.b (gLh a0 a1)]:=by
 obtain⟨r,h⟩:∃r,gLh a0 a1=r:=⟨_,rfl⟩
 rw [h];obtain⟨ai,aj,⟨ab,ac,ad,ae,⟨f,q,y⟩,ag,ah⟩⟩:=a0;unfold gLh at h;refine SpI Tryz.func37 fun A _=>?_;refine goL ?_;refine jH ?_;subst h;exact mM
def gSc(f:jF)(a1:LB):Option (Int):=
bnd (gP2 f.methods (fun q=>some (gLh q a1))) fun y=>
(some y)
theorem hQ0(a0:jF)(a1:LB){r:Int}(h:gSc a0 a1=some r):gW Tryz.prog 15 [.d (vY a0),.S a1] [.i .i64 r]:=by
 obtain⟨ai,aj,⟨q,y,aa⟩,ak,al,am,⟨ab,ac,ad⟩,f⟩:=a0;unfold gSc at h;refine SpI Tryz.func15 fun A _=>?_;refine goL ?_;refine pX (hT8) ?_;obtain⟨x1,ag,h⟩:=gK h;refine uX (jEy (hIk f (a1:=(fun z0=>some (gLh z0 a1))) (fun _=>rfl) (fun z0 r hr=>by cases hr;exact hNu z0 a1) ag)) ?_;exact goR h
def gFs(a1:pQ→Option Bool):List pQ→Nat→Option (Int)
 | [],f=>(some (-1))
 | q::xs,f=>bnd (a1 q) fun y=>
(cnd y (some (f:Int)) (
gFs a1 xs (f+1)))
def gUy(f:List pQ)(a1:pQ→Option Bool):Option (Int):=
gFs a1 f 0
theorem hQ1(y:List pQ){a1f:Nat}{a1c:List SV}{a1:pQ→Option Bool}(a1_lt:∀n,SV.lts n a1c=true)(ha1:∀(x0:pQ)(r:Bool),a1 x0=some r→gW Tryz.prog a1f ([.d (gXy x0)]++a1c) [.b r]){r:Int}(h:gUy y a1=some r):gW Tryz.prog 38 [.L 21 (zR y),.fn a1f a1c] [.i .i64 r]:=by
 unfold gUy at h;refine SpI Tryz.func38 fun A _=>?_;refine goL ?_;refine noB ?_;refine gB0 0 (fun z2=>?_);refine kZ (fun(q:Nat)=>⟨[(0,.L 21 (zR y)),(1,.fn a1f a1c),(7,.I (y.length:Int)),(8,.N q)],[],Tryz.f38.ntmps⟩) (fun q=>gFs a1 (y.drop q) q=some r) (fun q=>y.length - q) 0 ⟨rfl,⟨⟨rfl,rfl⟩,⟨rfl,a1_lt _⟩,⟨rfl,rfl⟩,⟨rfl,rfl⟩,trivial⟩,⟨[],rfl⟩,rfl⟩ h ?_;rintro q h;refine goL ?_;refine kC (kN (fun c3=>?_) (fun c3=>?_))
 ·have f:=qB c3;obtain⟨x4,ar,ad⟩:=drop_at f;rw [ad,gFs.eq_2] at h;obtain⟨ax,ay,a2,a3,a4,a5,a6,⟨ae,ag,ah⟩,⟨ai,aj,ak,al,⟨aa,ab,ac⟩,am,an,ao,ap⟩⟩:=x4;refine noS ?_;refine kC (gP ?_);refine goL ?_;refine gX (gV q (gT6 ar)) ?_;obtain⟨x5,au,h⟩:=gK h;refine gX (gZ5 (ha1 _ _ au) (a1_lt 0)) ?_;refine kN (fun c6=>?_) (fun c6=>?_)
  ·replace h:=jU c6 h;exact goR h
  ·replace h:=jV c6 h;refine goS ?_;refine gX (jK q (by omega)) ?_;exact⟨(q+1),h,by omega,⟨rfl,⟨⟨rfl,rfl⟩,⟨rfl,a1_lt _⟩,⟨rfl,rfl⟩,⟨rfl,rfl⟩,trivial⟩,⟨_,rfl⟩,rfl⟩⟩
 ·have f:=qC c3;rw [gT f,gFs.eq_1] at h;refine goX ?_;refine jH ?_;cases h;exact mM
def gNp(f:pQ)(a1:Int)(q:Int)(y:Int)(a4:Int):Bool:=
lt_ (cnd (f.kind==a1) (cnd (f.package==q) (cnd (f.at_==y) (f.sub==a4) (false)) (false)) (false)) fun b1=>
b1
theorem hQ2(a0:pQ)(a1:Int)(a2:Int)(a3:Int)(a4:Int):gW Tryz.prog 39 [.d (gXy a0),.dp (.i .i64 a1),.dp (.i .i64 a2),.dp (.i .i64 a3),.dp (.i .i64 a4)] [.b (gNp a0 a1 a2 a3 a4)]:=by
 obtain⟨r,h⟩:∃r,gNp a0 a1 a2 a3 a4=r:=⟨_,rfl⟩
 rw [h];obtain⟨am,an,ao,ap,aq,ar,au,⟨aa,ab,ac⟩,⟨ad,ae,ag,ah,⟨f,q,y⟩,ai,aj,ak,al⟩⟩:=a0;unfold gNp at h;refine SpI Tryz.func39 fun A _=>?_;refine goL ?_;obtain⟨b1,hb1,h⟩:=pI h;refine kG ⟨[(6,.B b1)],[.box [.I am,.I an,.I ao,.I ap,.L 1 (kD aq),.L 4 (kM ar),.L 4 (mK au),.I aa,.S ab,.L 3 (jJ ac),.I ad,.S ae,.S ag,.I ah,.I f,.S q,.L 3 (jJ y),.L 3 (jJ ai),.L 5 (mD aj),.L 11 (zK ak),.L 13 (vK al)]],Tryz.f39.ntmps⟩ ?_ ?_
 ·refine gqA 11 hb1 (fun c2 hb1=>?_);refine gqA 17 hb1 (fun c3 hb1=>?_);exact gqZ 23 hb1
 refine goL ?_;refine jH ?_;subst h;exact mM
def gP3(f:List pQ)(a1:Int)(q:Int)(y:Int)(a4:Int):Option (Int):=
bnd (gUy f (fun z0=>some (gNp z0 a1 q y a4))) fun x1=>
(some x1)
theorem hGp(a0:List pQ)(a1:Int)(f:Int)(q:Int)(y:Int){r:Int}(h:gP3 a0 a1 f q y=some r):gW Tryz.prog 16 [.L 21 (zR a0),.I a1,.I f,.I q,.I y] [.i .i64 r]:=by
 unfold gP3 at h;refine SpI Tryz.func16 fun A _=>?_;refine goL ?_;refine pX (hT8) ?_;obtain⟨x1,ab,h⟩:=gK h;refine uX (jEy (hQ1 a0 (a1:=(fun z0=>some (gNp z0 a1 f q y))) (fun _=>rfl) (fun z0 r hr=>by cases hr;exact hQ2 z0 a1 f q y) ab)) ?_;exact goR h
def gEa(a1:mE→Option Bool):List mE→Nat→Option (Int)
 | [],f=>(some (-1))
 | q::xs,f=>bnd (a1 q) fun y=>
(cnd y (some (f:Int)) (
gEa a1 xs (f+1)))
def gSd(f:List mE)(a1:mE→Option Bool):Option (Int):=
gEa a1 f 0
theorem hNv(y:List mE){a1f:Nat}{a1c:List SV}{a1:mE→Option Bool}(a1_lt:∀n,SV.lts n a1c=true)(ha1:∀(x0:mE)(r:Bool),a1 x0=some r→gW Tryz.prog a1f ([.d (gF2 x0)]++a1c) [.b r]){r:Int}(h:gSd y a1=some r):gW Tryz.prog 40 [.L 5 (gFr y),.fn a1f a1c] [.i .i64 r]:=by
 unfold gSd at h;refine SpI Tryz.func40 fun A _=>?_;refine goL ?_;refine noB ?_;refine gB0 0 (fun z2=>?_);refine kZ (fun(q:Nat)=>⟨[(0,.L 5 (gFr y)),(1,.fn a1f a1c),(7,.I (y.length:Int)),(8,.N q)],[],Tryz.f40.ntmps⟩) (fun q=>gEa a1 (y.drop q) q=some r) (fun q=>y.length - q) 0 ⟨rfl,⟨⟨rfl,rfl⟩,⟨rfl,a1_lt _⟩,⟨rfl,rfl⟩,⟨rfl,rfl⟩,trivial⟩,⟨[],rfl⟩,rfl⟩ h ?_;rintro q h;refine goL ?_;refine kC (kN (fun c3=>?_) (fun c3=>?_))
 ·have f:=qB c3;obtain⟨x4,ac,aa⟩:=drop_at f;rw [aa,gEa.eq_2] at h;obtain⟨ah,ai,aj,ak,al⟩:=x4;refine noS ?_;refine kC (gP ?_);refine goL ?_;refine gX (gV q (gLc ac)) ?_;obtain⟨x5,ad,h⟩:=gK h;refine gX (gZ5 (ha1 _ _ ad) (a1_lt 0)) ?_;refine kN (fun c6=>?_) (fun c6=>?_)
  ·replace h:=jU c6 h;exact goR h
  ·replace h:=jV c6 h;refine goS ?_;refine gX (jK q (by omega)) ?_;exact⟨(q+1),h,by omega,⟨rfl,⟨⟨rfl,rfl⟩,⟨rfl,a1_lt _⟩,⟨rfl,rfl⟩,⟨rfl,rfl⟩,trivial⟩,⟨_,rfl⟩,rfl⟩⟩
 ·have f:=qC c3;rw [gT f,gEa.eq_1] at h;refine goX ?_;refine jH ?_;cases h;exact mM
def gIb(f:mE)(a1:LB):Bool:=
(f.name==a1)
theorem hIl(f:mE)(a1:LB):gW Tryz.prog 41 [.d (gF2 f),.dp (.s a1)] [.b (gIb f a1)]:=by
 obtain⟨r,h⟩:∃r,gIb f a1=r:=⟨_,rfl⟩
 rw [h];obtain⟨q,y,aa,ab,ac⟩:=f;unfold gIb at h;refine SpI Tryz.func41 fun A _=>?_;refine goL ?_;refine jH ?_;subst h;exact mM
def gPd(f:jL)(a1:LB):Option (Int):=
bnd (gSd f.traits (fun q=>some (gIb q a1))) fun y=>
(some y)
theorem hNw(q:jL)(a1:LB){r:Int}(h:gPd q a1=some r):gW Tryz.prog 20 [.d (gHd q),.S a1] [.i .i64 r]:=by
 obtain⟨ab,ac,f,ad,ae,ag⟩:=q;unfold gPd at h;refine SpI Tryz.func20 fun A _=>?_;refine goL ?_;refine pX (hT8) ?_;obtain⟨x1,y,h⟩:=gK h;refine uX (jEy (hNv f (a1:=(fun z0=>some (gIb z0 a1))) (fun _=>rfl) (fun z0 r hr=>by cases hr;exact hIl z0 a1) y)) ?_;exact goR h
end Go.Proofs.YtfjncckelekpiaaGreat
