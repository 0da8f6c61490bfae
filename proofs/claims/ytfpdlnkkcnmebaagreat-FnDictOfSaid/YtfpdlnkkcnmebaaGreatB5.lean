import Derived.Test.YtfpdlnkkcnmebaaGreatVr
set_option maxHeartbeats 4000000
set_option linter.unusedVariables false
set_option linter.unusedSimpArgs false
set_option linter.unusedSectionVars false
namespace Go.Proofs.YtfpdlnkkcnmebaaGreat
open Go Go.Eng
attribute [local irreducible] V VO VQ VY Quiet QR jI mK Rng qE qA pX
def gCc(f:gY→gY→Option (Bool))(a1:gY):List gL8→Nat→Option (Bool)
 | [],h=>(some true)
 | q::xs,h=>bnd (bnd (at? a1.arms (h:Int)) fun y=>
(cnd (!(q.constructor==y.constructor)) ((some true)) (bnd (gOu q.vars y.vars) fun aa=>
(cnd (!aa) ((some true)) (bnd (f q.body y.body) fun ab=>
(some (!ab))))))) fun ac=>
(cnd ac (
(some false)) (
gCc f a1 xs (h+1)))
def gCd(f:gY→gY→Option (Bool))(a0:gY)(a1:gY):List gY→Nat→Option (Bool)
 | [],h=>gCc f a1 a0.arms 0
 | q::xs,h=>bnd (at? a1.args (h:Int)) fun y=>
bnd (f q y) fun aa=>
(cnd (!aa) (
(some false)) (
gCd f a0 a1 xs (h+1)))
def gK1(f:gY→gY→Option (Bool))(h:gY)(a1:gY):Option (Bool):=
lt_ ((cnd (h.kind != a1.kind) (true) ((cnd (!(h.trait==a1.trait)) (true) ((cnd (!(h.name==a1.name)) (true) ((cnd (h.n != a1.n) (true) ((cnd (!(teq h.type_ a1.type_)) (true) ((cnd ((h.args.length:Int) !=(a1.args.length:Int)) (true) (((h.arms.length:Int) !=(a1.arms.length:Int))))))))))))))) fun q=>
(cnd q (
(some false)) (
gCd f h a1 h.args 0))
theorem gU7{f:gY→gY→Option (Bool)}(q:∀(x0:gY)(x1:gY){r:Bool},f x0 x1=some r→jI Tryz.prog 244 [.d (gBp x0),.d (gBp x1)] [.b r])(a0:gY)(a1:gY){r:Bool}(h:gK1 f a0 a1=some r):jI Tryz.prog 244 [.d (gBp a0),.d (gBp a1)] [.b r]:=by
 obtain⟨aq,ar,au,av,⟨ac,ad,ae⟩,ah,ai⟩:=a0;obtain⟨aj,ak,al,am,⟨y,aa,ab⟩,an,ao⟩:=a1;unfold gK1 at h;refine SpI Tryz.func244 fun A _=>?_;refine goL ?_;obtain⟨b1,hb1,h⟩:=uK h;refine kH ⟨[(2,.ptr 0 0),(3,.ptr 1 0),(58,.B b1)],[bEx aq ar au av ac ad ae ah ai,bEx aj ak al am y aa ab an ao],Tryz.f244.ntmps⟩ ?_ ?_
 ·refine gqO 12 hb1 (fun c2 hb1=>?_);refine gqO 19 hb1 (fun c3 hb1=>?_);refine gqO 26 hb1 (fun c4 hb1=>?_);refine gqO 33 hb1 (fun c5 hb1=>?_);refine jP (gI (gIq (gB.mk ac ad ae) (gB.mk y aa ab))) ?_;refine gqO 41 hb1 (fun c6 hb1=>?_);exact gqZ 50 hb1
 refine goC h ?_ ?_<;>intro c8 h
 ·exact goR h
 ·refine goS ?_;refine noB ?_;refine yC 0 7 (fun cv=>?_);refine pY (fun(y9:Nat)=>⟨[(2,.ptr 0 0),(3,.ptr 1 0),(5,.N y9)],[bEx aq ar au av ac ad ae ah ai,bEx aj ak al am y aa ab an ao],Tryz.f244.ntmps⟩) (fun y9=>gCd f (gY.mk aq ar au av (gB.mk ac ad ae) ah ai) (gY.mk aj ak al am (gB.mk y aa ab) an ao) (ah.drop y9) y9=some r) (fun y9=>ah.length - y9) 0 eJ h ?_;rintro y9 h;refine goL ?_;refine mR (fun a5=>?_) (fun a5=>?_)
  ·have aw:=vR a5;obtain⟨b7,bh,a6⟩:=drop_at aw;rw [a6,gCd.eq_2] at h;obtain⟨b8,b9,ca,cb,⟨bi,bj,bk⟩,cc,cd⟩:=b7;refine noS ?_;refine kI (jA ?_);refine goL ?_;refine gDi (jR y9 (gXd bh)) ?_;refine goL ?_;obtain⟨ce,a4,h⟩:=gJ h;rw [gA4] at a4;obtain⟨cf,cg,ch,ci,⟨bl,bm,bn⟩,cj,ck⟩:=ce;refine gDi (jR y9 (gXd a4)) ?_;refine goL ?_;obtain⟨cw,bo,h⟩:=gJ h;refine gDi (gI (q _ _ bo)) ?_;refine goC h ?_ ?_<;>intro cx h
   ·exact goR h
   ·refine goS ?_;refine jP (kD y9 (by omega)) ?_;exact⟨(y9+1),h,by omega,eJ⟩
  ·have aw:=vS a5;rw [jK aw,gCd.eq_1] at h;refine goX ?_;refine noB ?_;refine yC 0 8 (fun cy=>?_);refine pY (fun(ag:Nat)=>⟨[(2,.ptr 0 0),(3,.ptr 1 0),(6,.N ag)],[bEx aq ar au av ac ad ae ah ai,bEx aj ak al am y aa ab an ao],Tryz.f244.ntmps⟩) (fun ag=>gCc f (gY.mk aj ak al am (gB.mk y aa ab) an ao) (ai.drop ag) ag=some r) (fun ag=>ai.length - ag) 0 eJ h ?_;rintro ag h;refine goL ?_;refine mR (fun a7=>?_) (fun a7=>?_)
   ·have ap:=vR a7;obtain⟨cl,a3,a8⟩:=drop_at ap;rw [a8,gCc.eq_2] at h;obtain⟨cm,cn,⟨bp,bq,br,bt,⟨a9,ba,bb⟩,bu,bv⟩⟩:=cl;refine noS ?_;refine kI (jA ?_);obtain⟨co,hb20,h⟩:=gJ h;refine wG (P:=Tryz.prog) Mix.h ⟨[(2,.ptr 0 0),(3,.ptr 1 0),(6,.N ag),(129,.B co)],[bEx aq ar au av ac ad ae ah ai,bEx aj ak al am y aa ab an ao],Tryz.f244.ntmps⟩ (by kernel_rfl) ?_ ?_
    ·refine goL ?_;refine gDi (jR ag (hDv a3)) ?_;refine goL ?_;obtain⟨cp,ax,hb20⟩:=gJ hb20;rw [gA4] at ax;obtain⟨cq,cr,⟨bw,bx,bz,b0,⟨bc,bd,be⟩,b2,b3⟩⟩:=cp;refine gDi (jR ag (hDv ax)) ?_;refine goL ?_;refine gAl 98 (fun bf=>?_) (fun bf=>?_)
     ·replace hb20:=kU bf hb20;refine goL ?_;cases hb20;exact eJ
     ·replace hb20:=kV bf hb20;refine goL ?_;refine gGh (jR ag (hDv a3)) ?_;refine goL ?_;refine gGh (jR ag (hDv ax)) ?_;refine goL ?_;obtain⟨cz,b4,hb20⟩:=gJ hb20;refine gGh (gI (hAy _ _ b4)) ?_;refine goL ?_;refine gAl 114 (fun bg=>?_) (fun bg=>?_)
      ·replace hb20:=kU bg hb20;refine goL ?_;cases hb20;exact eJ
      ·replace hb20:=kV bg hb20;refine goL ?_;refine gGh (jR ag (hDv a3)) ?_;refine goL ?_;refine gGh (jR ag (hDv ax)) ?_;refine goL ?_;obtain⟨c0,b5,hb20⟩:=gJ hb20;refine gGh (gI (q _ _ b5)) ?_;refine goL ?_;cases hb20;exact eJ
    refine goC h ?_ ?_<;>intro c1 h
    ·exact goR h
    ·refine goS ?_;refine jP (kD ag (by omega)) ?_;exact⟨(ag+1),h,by omega,eJ⟩
   ·have ap:=vS a7;rw [jK ap,gCc.eq_1] at h;refine goX ?_;refine jF ?_;cases h;exact uM
def gK2:Nat→gY→gY→Option (Bool)
 | 0,_,_=>none
 | n+1,f,h=>gK1 (gK2 n) f h
theorem gU8:∀(n:Nat)(f:gY)(q:gY){r:Bool},gK2 n f q=some r→jI Tryz.prog 244 [.d (gBp f),.d (gBp q)] [.b r]:=by
 intro n
 induction n with
 | zero=>intro f q r h;cases h
 | succ n ih=>intro f q r h;exact gU7 ih f q h
def gF0:LS→(List gF)→Option (List gF)
 | [],f=>(some f)
 | q::xs,f=>lt_ (pG q) fun h=>
gd (f.length+[h].length≤4294967296) (
gF0 xs (f++[h]))
def gNk(f:LS):Option (List gF):=
gF0 f []
theorem gU9(a0:LS){r:List gF}(h:gNk a0=some r):jI Tryz.prog 235 [.L 1 (gT a0)] [.sl 2 (jB r)]:=by
 unfold gNk at h;refine SpI Tryz.func235 fun A _=>?_;refine goL ?_;refine gAu ?_;refine goL ?_;refine noB ?_;refine gCw 0 (fun z4=>?_);refine mG (fun(q:Nat)(y1:List gF)(v2:Nat)=>⟨[(0,.L 1 (gT a0)),(3,.sl 0 v2),(4,.N q)],[.arr 223 2 v2 (jB y1)],Tryz.f235.ntmps⟩) (fun q y1 v2=>gF0 (a0.drop q) y1=some r) (fun q y1 v2=>a0.length - q) 0 [] 0 eJ h ?_;rintro q y1 v2 h;refine goL ?_;refine mR (fun c5=>?_) (fun c5=>?_)
 ·have f:=vR c5;obtain⟨x6,ah,ae⟩:=drop_at f;rw [ae,gF0.eq_2] at h;refine noS ?_;refine kI (jA ?_);refine goL ?_;refine jP (jR q (gO7 ah)) ?_;obtain⟨⟨y,aa⟩,ai,h⟩:=uK h;have sx7:=pR x6;rw [ai] at sx7;refine uN (gI (sx7)) ?_;refine uO (u:=(.st [.s y,.sl 2 (jB aa)])) ?_;obtain⟨g8,h⟩:=pU h;refine gAd g8 ?_;refine goL ?_;refine jP (kD q (by omega)) ?_;exact⟨(q+1),(y1++[(gF.mk y aa)]),(v2+1),h,by omega,eJ⟩
 ·have f:=vS c5;rw [jK f,gF0.eq_1] at h;refine goX ?_;refine gV 0 rfl rfl ?_;refine jF ?_;cases h;exact uM
def gK3(f:gB→Option (gF)):List gB→(List gF)→Option (gF)
 | [],h=>(some (gF.mk [] h))
 | y::xs,h=>bnd (f y) fun q=>
gd (h.length+[q].length≤4294967296) (
gK3 f xs (h++[q]))
def gK4(f:gB→Option (gF)):List gB→(List gF)→Option (gF)
 | [],h=>(some (gF.mk [] h))
 | y::xs,h=>bnd (f y) fun q=>
gd (h.length+[q].length≤4294967296) (
gK4 f xs (h++[q]))
def hCv(f:gB→Option (gF))(h:gB):Option (gF):=
(cnd (h.kind==1) (
gd (([39]:LB).length+h.name.length≤4294967296) (
lt_ (pG (([39]:LB)++h.name)) fun x3=>
(some x3))) (
(cnd (h.kind==4) (
lt_ (pG [100,121,110]) fun x5=>
lt_ (pG h.name) fun x6=>
bnd (gIh [x5,x6]) fun x7=>
(some x7)) (
lt_ ((cnd (h.kind==2) (((h.args.length:Int)==0)) (false))) fun b8=>
(cnd b8 (
lt_ (pG h.name) fun ab=>
(some ab)) (
(cnd (h.kind==3) (
lt_ (pG [97,115,115,111,99]) fun q=>
gd (([]:List gF).length+[q].length≤4294967296) (
lt_ (pG h.name) fun y=>
gd (([]++[q]).length+[y].length≤4294967296) (
gK3 f h.args (([]++[q])++[y])))) (
lt_ (pG h.name) fun aa=>
gd (([]:List gF).length+[aa].length≤4294967296) (
gK4 f h.args ([]++[aa]))))))))))
theorem hOl{f:gB→Option (gF)}(y:∀(x0:gB){r:gF},f x0=some r→jI Tryz.prog 223 [.d (mM x0)] [qJ r])(a0:gB){r:gF}(h:hCv f a0=some r):jI Tryz.prog 223 [.d (mM a0)] [qJ r]:=by
 obtain⟨aq,q,aa⟩:=a0;unfold hCv at h;refine SpI Tryz.func223 fun A _=>?_;refine goL ?_;refine kI (jA ?_);refine goC h ?_ ?_<;>intro c1 h
 ·refine goL ?_;obtain⟨g2,h⟩:=pU h;refine uN (zB g2) ?_;obtain⟨⟨b6,b7⟩,bp,h⟩:=uK h;have sx3:=pR (([39]:LB)++q);rw [bp] at sx3;refine uN (gI (sx3)) ?_;exact goR h
 ·refine goC h ?_ ?_<;>intro c4 h
  ·refine jS (P:=Tryz.prog) Mix.h [(1,true),(2,true),(0,false),(3,false),(4,false),(5,false),(6,false)] (by kernel_rfl) ?_;refine goY ?_;obtain⟨⟨ax,ay⟩,bq,h⟩:=uK h;have sx5:=pR [100,121,110];rw [bq] at sx5;refine qD (sx5) ?_;obtain⟨⟨a3,a4⟩,br,h⟩:=uK h;have sx6:=pR q;rw [br] at sx6;refine qD (sx6) ?_;refine kT (T:=221) (us:=jB [(gF.mk ax ay),(gF.mk a3 a4)]) ?_;refine qC 2 rfl rfl ?_;obtain⟨⟨b9,ca⟩,bt,h⟩:=gJ h;refine qD (gMf [(gF.mk ax ay),(gF.mk a3 a4)] bt) ?_;refine goY ?_;refine mJ ?_;exact goR h
  ·refine goL ?_;obtain⟨b8,hb8,h⟩:=uK h;refine kH ⟨[(1,.ptr 0 0),(2,.ptr 1 0),(23,.B b8)],[bTy aq q aa,.box [.S [],.nilsl]],Tryz.f223.ntmps⟩ ?_ ?_
   ·refine wW 27 (fun c9=>?_) (fun c9=>?_) (by first | rfl | (simp only [kE,jO];rfl))
    ·replace hb8:=kU c9 hb8;refine goL ?_;cases hb8;exact⟨rfl,⟨⟨rfl,rfl⟩,⟨rfl,rfl⟩,⟨by first | rfl | (simp only [kE,jO];rfl),rfl⟩,trivial⟩,⟨_,rfl⟩,rfl⟩
    ·replace hb8:=kV c9 hb8;refine goL ?_;cases hb8;exact⟨rfl,⟨⟨rfl,rfl⟩,⟨rfl,rfl⟩,⟨by first | rfl | (simp only [kE,jO];rfl),rfl⟩,trivial⟩,⟨_,rfl⟩,rfl⟩
   refine goC h ?_ ?_<;>intro cd h
   ·refine goL ?_;obtain⟨⟨bv,bw⟩,bg,h⟩:=uK h;have sx11:=pR q;rw [bg] at sx11;refine uN (gI (sx11)) ?_;exact goR h
   ·refine goS ?_;refine yT (jN TBd.h TZ.h rfl (by repeat constructor)) ?_;refine mR (fun a5=>?_) (fun a5=>?_)
    ·replace h:=kU a5 h;refine qZ 223 2 2 1 rfl rfl (by repeat constructor) (by repeat constructor) (by repeat constructor) (by repeat constructor) ?_;refine yL (P:=Tryz.prog) Mix.h [(0,true),(1,true),(2,false),(3,false),(4,false),(5,true),(6,false)] (by kernel_rfl) ?_;refine goY ?_;obtain⟨⟨ag,ah⟩,bh,h⟩:=uK h;have sx13:=pR [97,115,115,111,99];rw [bh] at sx13;refine qD (sx13) ?_;refine kT (T:=221) (us:=jB [(gF.mk ag ah)]) ?_;obtain⟨bx,h⟩:=pU h;refine kN (T:=221) bx ?_;refine goY ?_;refine mJ ?_;refine gIb ?_;refine jS (P:=Tryz.prog) Mix.h [(0,true),(1,true),(2,true),(3,true),(4,false),(5,false),(6,false),(7,true),(8,false)] (by kernel_rfl) ?_;refine goY ?_;obtain⟨⟨ai,aj⟩,bi,h⟩:=uK h;have sx15:=pR q;rw [bi] at sx15;refine qD (sx15) ?_;refine kT (T:=221) (us:=jB [(gF.mk ai aj)]) ?_;obtain⟨bz,h⟩:=pU h;refine kN (T:=221) bz ?_;refine goY ?_;refine mJ ?_;refine goL ?_;refine noB ?_;refine yC 0 2 (fun ce=>?_);refine mG (fun(ab:Nat)(am:List gF)(an:Nat)=>⟨[(1,.ptr 0 0),(2,.ptr 1 0),(3,.ptr 2 0),(4,.N ab)],[bTy aq q aa,.box [.S [],.nilsl],.box [.S [],.sl 3 an],.arr 223 2 an (jB am),.arr 223 2 0 (jB [(gF.mk ag ah)]),.arr 223 2 0 (jB [(gF.mk ai aj)])],Tryz.f223.ntmps⟩) (fun ab am an=>gK3 f (aa.drop ab) am=some r) (fun ab am an=>aa.length - ab) 0 (([]++[(gF.mk ag ah)])++[(gF.mk ai aj)]) ((0+1)+1) eJ h ?_;rintro ab am an h;refine goL ?_;refine mR (fun a6=>?_) (fun a6=>?_)
     ·have ac:=vR a6;obtain⟨b0,bj,a7⟩:=drop_at ac;rw [a7,gK3.eq_2] at h;obtain⟨a8,a9,ba⟩:=b0;refine noS ?_;refine kI (jA ?_);refine yL (P:=Tryz.prog) Mix.h [(0,true),(1,true),(2,true),(3,true),(4,true),(5,true),(6,true),(7,false),(8,false),(9,false),(10,true),(11,false)] (by kernel_rfl) ?_;refine goY ?_;refine jW rfl (jR ab (gDj bj)) ?_;refine goY ?_;obtain⟨⟨ar,au⟩,bk,h⟩:=gJ h;refine qD (y (gB.mk a8 a9 ba) bk) ?_;refine kT (T:=221) (us:=jB [(gF.mk ar au)]) ?_;obtain⟨b1,h⟩:=pU h;refine kN (T:=221) b1 ?_;refine goY ?_;refine mJ ?_;refine goL ?_;refine jP (kD ab (by omega)) ?_;exact⟨(ab+1),(am++[(gF.mk ar au)]),(an+1),h,by omega,eJ⟩
     ·have ac:=vS a6;rw [jK ac,gK3.eq_1] at h;refine goX ?_;refine gV 3 rfl rfl ?_;refine jF ?_;cases h;exact uM
    ·replace h:=kV a5 h;refine noS ?_;refine qZ 223 2 2 1 rfl rfl (by repeat constructor) (by repeat constructor) (by repeat constructor) (by repeat constructor) ?_;refine jS (P:=Tryz.prog) Mix.h [(0,true),(1,true),(2,true),(3,true),(4,false),(5,false),(6,false),(7,true),(8,false)] (by kernel_rfl) ?_;refine goY ?_;obtain⟨⟨ak,al⟩,bl,h⟩:=uK h;have sx25:=pR q;rw [bl] at sx25;refine qD (sx25) ?_;refine kT (T:=221) (us:=jB [(gF.mk ak al)]) ?_;obtain⟨b2,h⟩:=pU h;refine kN (T:=221) b2 ?_;refine goY ?_;refine mJ ?_;refine goL ?_;refine noB ?_;refine yC 0 2 (fun cf=>?_);refine mG (fun(ad:Nat)(ao:List gF)(ap:Nat)=>⟨[(1,.ptr 0 0),(2,.ptr 1 0),(3,.ptr 2 0),(4,.N ad)],[bTy aq q aa,.box [.S [],.nilsl],.box [.S [],.sl 3 ap],.arr 223 2 ap (jB ao),.arr 223 2 0 (jB [(gF.mk ak al)])],Tryz.f223.ntmps⟩) (fun ad ao ap=>gK4 f (aa.drop ad) ao=some r) (fun ad ao ap=>aa.length - ad) 0 ([]++[(gF.mk ak al)]) (0+1) eJ h ?_;rintro ad ao ap h;refine goL ?_;refine mR (fun bb=>?_) (fun bb=>?_)
     ·have ae:=vR bb;obtain⟨b3,bm,bc⟩:=drop_at ae;rw [bc,gK4.eq_2] at h;obtain⟨bd,be,bf⟩:=b3;refine noS ?_;refine kI (jA ?_);refine yL (P:=Tryz.prog) Mix.h [(0,true),(1,true),(2,true),(3,true),(4,true),(5,true),(6,true),(7,false),(8,false),(9,false),(10,true),(11,false)] (by kernel_rfl) ?_;refine goY ?_;refine jW rfl (jR ad (gDj bm)) ?_;refine goY ?_;obtain⟨⟨av,aw⟩,bn,h⟩:=gJ h;refine qD (y (gB.mk bd be bf) bn) ?_;refine kT (T:=221) (us:=jB [(gF.mk av aw)]) ?_;obtain⟨b4,h⟩:=pU h;refine kN (T:=221) b4 ?_;refine goY ?_;refine mJ ?_;refine goL ?_;refine jP (kD ad (by omega)) ?_;exact⟨(ad+1),(ao++[(gF.mk av aw)]),(ap+1),h,by omega,eJ⟩
     ·have ae:=vS bb;rw [jK ae,gK4.eq_1] at h;refine goX ?_;refine gV 3 rfl rfl ?_;refine jF ?_;cases h;exact uM
def gMo:Nat→gB→Option (gF)
 | 0,_=>none
 | n+1,f=>hCv (gMo n) f
theorem gKk:∀(n:Nat)(f:gB){r:gF},gMo n f=some r→jI Tryz.prog 223 [.d (mM f)] [qJ r]:=by
 intro n
 induction n with
 | zero=>intro f r h;cases h
 | succ n ih=>intro f r h;exact hOl ih f h
def gMx(f:LB)(a1:gB):Option (Bool):=
bnd (gDf 5000 a1 f) fun h=>
(some (decide (h > 0)))
theorem gWz(q:LB)(a1:gB){r:Bool}(h:gMx q a1=some r):jI Tryz.prog 231 [.S q,.d (mM a1)] [.b r]:=by
 obtain⟨y,aa,ab⟩:=a1;unfold gMx at h;refine SpI Tryz.func231 fun A _=>?_;refine goL ?_;obtain⟨x1,f,h⟩:=gJ h;refine uN (gI (gMm _ _ _ f)) ?_;exact goR h
@[reducible] def yH:LB:=List.append [40,112,97,99,107,97,103,101,32,99,111,114,101,32,40,41,32,40,116,114,97,105,116,32,115,104,111,119,32,40,41,32,40,41,32,40,109,32,40,41,32,105,110,116,41,32,40,116,119,111,32,40,39,115,101] [108,102,41,32,105,110,116,32,40,120,32,121,41,32,40,43,32,40,109,101,116,104,111,100,32,115,104,111,119,32,109,32,120,41,32,40,109,101,116,104,111,100,32,115,104,111,119,32,109,32,121,41,41,41,41]
@[reducible] def yI:LB:=List.append (List.append [32,40,116,114,97,105,116,32,101,113,32,40,41,32,40,41,32,40,115,97,109,101,32,40,39,115,101,108,102,41,32,98,111,111,108,41,41,32,40] [116,114,97,105,116,32,111,114,100,32,40,101,113,41,32,40,41,32,40,108,101,115,115,32,40,39,115,101,108,102,41,32,98,111,111,108,41,41,32]) (List.append [40,116,114,97,105,116,32,97,100,100,32,40,41,32,40,97,115,115,111,99,41,32,40,112,108,117,115,32,40,39,115,101,108,102,41,32,40,97,115] [115,111,99,32,97,100,100,32,39,115,101,108,102,41,41,41,32,40,116,114,97,105,116,32,115,101,110,100,32,40,41,32,40,97,117,116,111,41,41])
@[reducible] def zM:LB:=List.append [32,40,100,97,116,97,32,108,105,115,116,32,40,97,41,32,40,110,105,108,41,32,40,99,111,110,115,32,39,97,32,40,108,105,115,116,32,39,97,41,41,41,32,40,100,97,116,97,32,112,97,105,114,32,40,97,32,98,41] [32,40,112,97,105,114,32,39,97,32,39,98,41,41,32,40,100,97,116,97,32,98,111,120,32,40,97,41,32,40,98,111,120,32,39,97,41,41,32,40,100,97,116,97,32,117,110,105,116,32,40,41,32,40,117,110,105,116,41,41]
@[reducible] def gAj:LB:=List.append [32,40,105,110,115,116,32,115,104,111,119,32,40,41,32,105,110,116,32,40,41,32,40,41,32,40,41,32,40,109,32,40,120,41,32,120,41,41,32,40,105,110,115] [116,32,115,104,111,119,32,40,41,32,98,111,111,108,32,40,41,32,40,41,32,40,41,32,40,109,32,40,120,41,32,40,105,102,32,120,32,49,32,48,41,41,41]
@[reducible] def gDs:LB:=List.append [32,40,105,110,115,116,32,115,104,111,119,32,40,97,41,32,40,108,105,115,116,32,39,97,41,32,40,40,115,104,111,119,32,39,97,41,41,32,40,41,32,40,41,32,40,109,32,40,120,41,32,40,99,97,115,101,32,120,32,40] [110,105,108,32,48,41,32,40,99,111,110,115,32,104,32,116,32,40,43,32,40,109,101,116,104,111,100,32,115,104,111,119,32,109,32,104,41,32,40,109,101,116,104,111,100,32,115,104,111,119,32,109,32,116,41,41,41,41,41,41]
@[reducible] def gDt:LB:=List.append (List.append [32,40,105,110,115,116,32,115,104,111,119,32,40,97,41,32,40,108,105,115,116,32,39,97,41,32,40,41,32,40,100,101,102,97,117,108] [116,41,32,40,41,32,40,109,32,40,120,41,32,55,41,41,32,40,105,110,115,116,32,115,104,111,119,32,40,41,32,40,108,105,115,116,32]) (List.append [105,110,116,41,32,40,41,32,40,41,32,40,41,32,40,109,32,40,120,41,32,40,99,97,115,101,32,120,32,40,110,105,108,32,48,41,32] [40,99,111,110,115,32,104,32,116,32,40,43,32,104,32,40,109,101,116,104,111,100,32,115,104,111,119,32,109,32,116,41,41,41,41,41,41])
@[reducible] def vT:LB:=List.append [32,40,105,110,115,116,32,115,104,111,119,32,40,97,32,98,41,32,40,112,97,105,114,32,39,97,32,39,98,41,32,40,40,115,104,111,119,32,39,97,41,32,40,115,104,111,119,32,39,98,41,41,32,40,41,32,40,41,32,40,109,32,40] [120,41,32,40,99,97,115,101,32,120,32,40,112,97,105,114,32,121,32,122,32,40,45,32,40,109,101,116,104,111,100,32,115,104,111,119,32,109,32,121,41,32,40,109,101,116,104,111,100,32,115,104,111,119,32,109,32,122,41,41,41,41,41,41]
@[reducible] def wF:LB:=List.append [32,40,105,110,115,116,32,101,113,32,40,41,32,105,110,116,32,40,41,32,40,41,32,40,41,32,40,115,97,109,101,32,40,120,32,121,41,32,40,61,32,120,32,121,41,41,41] [32,40,105,110,115,116,32,111,114,100,32,40,41,32,105,110,116,32,40,41,32,40,41,32,40,41,32,40,108,101,115,115,32,40,120,32,121,41,32,40,60,32,120,32,121,41,41,41]
@[reducible] def yJ:LB:=List.append [32,40,105,110,115,116,32,101,113,32,40,97,41,32,40,98,111,120,32,39,97,41,32,40,40,101,113,32,39,97,41,41,32,40,41,32,40,41,32,40,115,97,109,101,32,40,120,32,121,41,32,40,99] [97,115,101,32,120,32,40,98,111,120,32,112,32,40,99,97,115,101,32,121,32,40,98,111,120,32,113,32,40,109,101,116,104,111,100,32,101,113,32,115,97,109,101,32,112,32,113,41,41,41,41,41,41,41]
@[reducible] def wU:LB:=[32,40,105,110,115,116,32,97,100,100,32,40,41,32,105,110,116,32,40,41,32,40,41,32,40,105,110,116,41,32,40,112,108,117,115,32,40,120,32,121,41,32,40,43,32,120,32,121,41,41,41]
@[reducible] def yX:LB:=List.append (List.append [32,40,105,110,115,116,32,97,100,100,32,40,97,41,32,40,98,111,120,32,39,97,41,32,40,40,97,100,100,32,39,97,41,41,32] [40,41,32,40,40,98,111,120,32,40,97,115,115,111,99,32,97,100,100,32,39,97,41,41,41,32,40,112,108,117,115,32,40,120,32]) (List.append [121,41,32,40,99,97,115,101,32,120,32,40,98,111,120,32,112,32,40,99,97,115,101,32,121,32,40,98,111,120,32,113,32,40,110] [101,119,32,98,111,120,32,40,109,101,116,104,111,100,32,97,100,100,32,112,108,117,115,32,112,32,113,41,41,41,41,41,41,41,41])
@[reducible] def gAa:LB:=List.append [32,40,102,110,32,105,100,32,40,97,41,32,40,41,32,40,40,120,32,39,97,41,41,32,39,97,32,120,41,32,40,102,110,32,98,111,116,104,32,40,97,41,32,40,40] [115,104,111,119,32,39,97,41,41,32,40,40,120,32,39,97,41,41,32,105,110,116,32,40,109,101,116,104,111,100,32,115,104,111,119,32,116,119,111,32,120,32,120,41,41]
def gK5(c:gK):Option (LB × gK):=
gd (yH.length+yI.length≤4294967296) (
gd ((yH++yI).length+zM.length≤4294967296) (
gd (((yH++yI)++zM).length+gAj.length≤4294967296) (
bnd (uS c 2) fun h=>
bnd ((cnd h.1 (
gd ((((yH++yI)++zM)++gAj).length+gDs.length≤4294967296) (
(some ((((yH++yI)++zM)++gAj)++gDs)))) (
gd ((((yH++yI)++zM)++gAj).length+gDt.length≤4294967296) (
(some ((((yH++yI)++zM)++gAj)++gDt)))))) fun f=>
gd (f.length+vT.length≤4294967296) (
gd ((f++vT).length+wF.length≤4294967296) (
gd (((f++vT)++wF).length+yJ.length≤4294967296) (
gd ((((f++vT)++wF)++yJ).length+wU.length≤4294967296) (
gd (((((f++vT)++wF)++yJ)++wU).length+yX.length≤4294967296) (
gd ((((((f++vT)++wF)++yJ)++wU)++yX).length+gAa.length≤4294967296) (
gd (((((((f++vT)++wF)++yJ)++wU)++yX)++gAa).length+([41]:LB).length≤4294967296) (
(some ((((((((f++vT)++wF)++yJ)++wU)++yX)++gAa)++([41]:LB)),h.2))))))))))))
set_option maxRecDepth 100000 in
theorem hCw(c:gK){r:LB × gK}(h:gK5 c=some r):Go.Eng.Spec Tryz.prog 141 [.ptr 0 0] [bCu c.b c.i c.h] (fun sv Lo=>sv=.S r.1∧Lo=[bCu r.2.b r.2.i r.2.h]):=by
 obtain⟨aa,ab,ac⟩:=c;unfold gK5 at h;refine kJ 1 Tryz.func141 rfl (by kernel_rfl) rfl rfl fun A _=>?_;refine goL ?_;obtain⟨g1,h⟩:=pU h;refine jP (zB g1) ?_;obtain⟨g2,h⟩:=pU h;refine jP (zB g2) ?_;obtain⟨g3,h⟩:=pU h;refine jP (zB g3) ?_;obtain⟨⟨am,⟨f,q,y⟩⟩,ad,h⟩:=gJ h;refine mI 0 (wB (gK.mk aa ab ac) 2 ad) ?_;refine goL ?_;obtain⟨b5,hb5,h⟩:=gJ h;refine wY ⟨[(3,.S b5)],[bCu f q y],Tryz.f141.ntmps⟩ ?_ ?_
 ·refine mR (fun c6=>?_) (fun c6=>?_)
  ·replace hb5:=kU c6 hb5;refine goL ?_;obtain⟨g7,hb5⟩:=pU hb5;refine jP (zB g7) ?_;cases hb5;exact eJ
  ·replace hb5:=kV c6 hb5;refine goL ?_;obtain⟨g8,hb5⟩:=pU hb5;refine jP (zB g8) ?_;cases hb5;exact eJ
 refine goL ?_;obtain⟨g9,h⟩:=pU h;refine jP (zB g9) ?_;obtain⟨ag,h⟩:=pU h;refine jP (zB ag) ?_;obtain⟨ah,h⟩:=pU h;refine jP (zB ah) ?_;obtain⟨ai,h⟩:=pU h;refine jP (zB ai) ?_;obtain⟨aj,h⟩:=pU h;refine jP (zB aj) ?_;obtain⟨ak,h⟩:=pU h;refine jP (zB ak) ?_;obtain⟨al,h⟩:=pU h;refine jP (zB al) ?_;refine jF ?_;obtain rfl:=Option.some.inj h;exact gAg [.d (.s (((((((b5++vT)++wF)++yJ)++wU)++yX)++gAa)++([41]:LB)))] _ ⟨rfl,rfl⟩
end Go.Proofs.YtfpdlnkkcnmebaaGreat
