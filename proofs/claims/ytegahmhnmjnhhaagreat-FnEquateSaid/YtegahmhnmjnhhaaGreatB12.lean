import Derived.Test.YtegahmhnmjnhhaaGreatVr
set_option maxHeartbeats 4000000
set_option linter.unusedVariables false
set_option linter.unusedSimpArgs false
set_option linter.unusedSectionVars false
namespace Go.Proofs.YtegahmhnmjnhhaaGreat
open Go Go.Eng
attribute [local irreducible] V VO VQ VY Quiet QR gY kR Rng mU mW mG
def gB1(c:kI→kI→Option (Bool))(a1:kI):List gO7→Nat→Option (Bool)
 | [],f=>(some true)
 | h::xs,f=>bnd (bnd (at? a1.arms (f:Int)) fun y=>
(cnd (!(h.constructor==y.constructor)) ((some true)) (bnd (gPg h.vars y.vars) fun aa=>
(cnd (!aa) ((some true)) (bnd (c h.body y.body) fun ab=>
(some (!ab))))))) fun ac=>
(cnd ac (
(some false)) (
gB1 c a1 xs (f+1)))
def gB2(c:kI→kI→Option (Bool))(a0:kI)(a1:kI):List kI→Nat→Option (Bool)
 | [],f=>gB1 c a1 a0.arms 0
 | h::xs,f=>bnd (at? a1.args (f:Int)) fun y=>
bnd (c h y) fun aa=>
(cnd (!aa) (
(some false)) (
gB2 c a0 a1 xs (f+1)))
def gK8(c:kI→kI→Option (Bool))(f:kI)(a1:kI):Option (Bool):=
lt_ ((cnd (f.kind != a1.kind) (true) ((cnd (!(f.trait==a1.trait)) (true) ((cnd (!(f.name==a1.name)) (true) ((cnd (f.n != a1.n) (true) ((cnd (!(teq f.type_ a1.type_)) (true) ((cnd ((f.args.length:Int) !=(a1.args.length:Int)) (true) (((f.arms.length:Int) !=(a1.arms.length:Int))))))))))))))) fun h=>
(cnd h (
(some false)) (
gB2 c f a1 f.args 0))
theorem gXf{c:kI→kI→Option (Bool)}(f:∀(x0:kI)(x1:kI){r:Bool},c x0 x1=some r→gY Tryz.prog 241 [.d (gCy x0),.d (gCy x1)] [.b r])(a0:kI)(a1:kI){r:Bool}(h:gK8 c a0 a1=some r):gY Tryz.prog 241 [.d (gCy a0),.d (gCy a1)] [.b r]:=by
 obtain⟨aq,ar,au,av,⟨ac,ad,ae⟩,ah,ai⟩:=a0;obtain⟨aj,ak,al,am,⟨y,aa,ab⟩,an,ao⟩:=a1;unfold gK8 at h;refine SpI Tryz.func241 fun A _=>?_;refine goL ?_;obtain⟨b1,hb1,h⟩:=qA h;refine jT ⟨[(2,.ptr 0 0),(3,.ptr 1 0),(58,.B b1)],[bEx aq ar au av ac ad ae ah ai,bEx aj ak al am y aa ab an ao],Tryz.f241.ntmps⟩ ?_ ?_
 ·refine gqO 12 hb1 (fun c2 hb1=>?_);refine gqO 19 hb1 (fun c3 hb1=>?_);refine gqO 26 hb1 (fun c4 hb1=>?_);refine gqO 33 hb1 (fun c5 hb1=>?_);refine jI (gF (gDw (gB.mk ac ad ae) (gB.mk y aa ab))) ?_;refine gqO 41 hb1 (fun c6 hb1=>?_);exact gqZ 50 hb1
 refine goC h ?_ ?_<;>intro c8 h
 ·exact goR h
 ·refine goS ?_;refine noB ?_;refine wJ 0 7 (fun cv=>?_);refine mV (fun(y9:Nat)=>⟨[(2,.ptr 0 0),(3,.ptr 1 0),(5,.N y9)],[bEx aq ar au av ac ad ae ah ai,bEx aj ak al am y aa ab an ao],Tryz.f241.ntmps⟩) (fun y9=>gB2 c (kI.mk aq ar au av (gB.mk ac ad ae) ah ai) (kI.mk aj ak al am (gB.mk y aa ab) an ao) (ah.drop y9) y9=some r) (fun y9=>ah.length - y9) 0 eJ h ?_;rintro y9 h;refine goL ?_;refine kX (fun a5=>?_) (fun a5=>?_)
  ·have aw:=uR a5;obtain⟨b7,bh,a6⟩:=drop_at aw;rw [a6,gB2.eq_2] at h;obtain⟨b8,b9,ca,cb,⟨bi,bj,bk⟩,cc,cd⟩:=b7;refine noS ?_;refine jY (jA ?_);refine goL ?_;refine gFd (jJ y9 (hAg bh)) ?_;refine goL ?_;obtain⟨ce,a4,h⟩:=gM h;rw [zI] at a4;obtain⟨cf,cg,ch,ci,⟨bl,bm,bn⟩,cj,ck⟩:=ce;refine gFd (jJ y9 (hAg a4)) ?_;refine goL ?_;obtain⟨cw,bo,h⟩:=gM h;refine gFd (gF (f _ _ bo)) ?_;refine goC h ?_ ?_<;>intro cx h
   ·exact goR h
   ·refine goS ?_;refine jI (jW y9 (by omega)) ?_;exact⟨(y9+1),h,by omega,eJ⟩
  ·have aw:=uS a5;rw [jC aw,gB2.eq_1] at h;refine goX ?_;refine noB ?_;refine wJ 0 8 (fun cy=>?_);refine mV (fun(ag:Nat)=>⟨[(2,.ptr 0 0),(3,.ptr 1 0),(6,.N ag)],[bEx aq ar au av ac ad ae ah ai,bEx aj ak al am y aa ab an ao],Tryz.f241.ntmps⟩) (fun ag=>gB1 c (kI.mk aj ak al am (gB.mk y aa ab) an ao) (ai.drop ag) ag=some r) (fun ag=>ai.length - ag) 0 eJ h ?_;rintro ag h;refine goL ?_;refine kX (fun a7=>?_) (fun a7=>?_)
   ·have ap:=uR a7;obtain⟨cl,a3,a8⟩:=drop_at ap;rw [a8,gB1.eq_2] at h;obtain⟨cm,cn,⟨bp,bq,br,bt,⟨a9,ba,bb⟩,bu,bv⟩⟩:=cl;refine noS ?_;refine jY (jA ?_);obtain⟨co,hb20,h⟩:=gM h;refine uE (P:=Tryz.prog) Mix.h ⟨[(2,.ptr 0 0),(3,.ptr 1 0),(6,.N ag),(129,.B co)],[bEx aq ar au av ac ad ae ah ai,bEx aj ak al am y aa ab an ao],Tryz.f241.ntmps⟩ (by kernel_rfl) ?_ ?_
    ·refine goL ?_;refine gFd (jJ ag (hJk a3)) ?_;refine goL ?_;obtain⟨cp,ax,hb20⟩:=gM hb20;rw [zI] at ax;obtain⟨cq,cr,⟨bw,bx,bz,b0,⟨bc,bd,be⟩,b2,b3⟩⟩:=cp;refine gFd (jJ ag (hJk ax)) ?_;refine goL ?_;refine vG 98 (fun bf=>?_) (fun bf=>?_)
     ·replace hb20:=kD bf hb20;refine goL ?_;cases hb20;exact eJ
     ·replace hb20:=kE bf hb20;refine goL ?_;refine gC1 (jJ ag (hJk a3)) ?_;refine goL ?_;refine gC1 (jJ ag (hJk ax)) ?_;refine goL ?_;obtain⟨cz,b4,hb20⟩:=gM hb20;refine gC1 (gF (hE8 _ _ b4)) ?_;refine goL ?_;refine vG 114 (fun bg=>?_) (fun bg=>?_)
      ·replace hb20:=kD bg hb20;refine goL ?_;cases hb20;exact eJ
      ·replace hb20:=kE bg hb20;refine goL ?_;refine gC1 (jJ ag (hJk a3)) ?_;refine goL ?_;refine gC1 (jJ ag (hJk ax)) ?_;refine goL ?_;obtain⟨c0,b5,hb20⟩:=gM hb20;refine gC1 (gF (f _ _ b5)) ?_;refine goL ?_;cases hb20;exact eJ
    refine goC h ?_ ?_<;>intro c1 h
    ·exact goR h
    ·refine goS ?_;refine jI (jW ag (by omega)) ?_;exact⟨(ag+1),h,by omega,eJ⟩
   ·have ap:=uS a7;rw [jC ap,gB1.eq_1] at h;refine goX ?_;refine jG ?_;cases h;exact qD
def gK9:Nat→kI→kI→Option (Bool)
 | 0,_,_=>none
 | n+1,c,f=>gK8 (gK9 n) c f
theorem gXg:∀(n:Nat)(c:kI)(f:kI){r:Bool},gK9 n c f=some r→gY Tryz.prog 241 [.d (gCy c),.d (gCy f)] [.b r]:=by
 intro n
 induction n with
 | zero=>intro c f r h;cases h
 | succ n ih=>intro c f r h;exact gXf ih c f h
def gFn:LS→(List gD)→Option (List gD)
 | [],c=>(some c)
 | h::xs,c=>lt_ (mF h) fun f=>
gd (c.length+[f].length≤4294967296) (
gFn xs (c++[f]))
def gN0(c:LS):Option (List gD):=
gFn c []
theorem gXh(a0:LS){r:List gD}(h:gN0 a0=some r):gY Tryz.prog 228 [.L 1 (jL a0)] [.sl 2 (gX r)]:=by
 unfold gN0 at h;refine SpI Tryz.func228 fun A _=>?_;refine goL ?_;refine gAp ?_;refine goL ?_;refine noB ?_;refine gB0 0 (fun z4=>?_);refine kS (fun(f:Nat)(y1:List gD)(v2:Nat)=>⟨[(0,.L 1 (jL a0)),(3,.sl 0 v2),(4,.N f)],[.arr 135 2 v2 (gX y1)],Tryz.f228.ntmps⟩) (fun f y1 v2=>gFn (a0.drop f) y1=some r) (fun f y1 v2=>a0.length - f) 0 [] 0 eJ h ?_;rintro f y1 v2 h;refine goL ?_;refine kX (fun c5=>?_) (fun c5=>?_)
 ·have c:=uR c5;obtain⟨x6,ah,ae⟩:=drop_at c;rw [ae,gFn.eq_2] at h;refine noS ?_;refine jY (jA ?_);refine goL ?_;refine jI (jJ f (gQr ah)) ?_;obtain⟨⟨y,aa⟩,ai,h⟩:=qA h;have sx7:=mO x6;rw [ai] at sx7;refine qK (gF (sx7)) ?_;refine gAo (u:=(.st [.s y,.sl 2 (gX aa)])) ?_;obtain⟨g8,h⟩:=mY h;refine gBd g8 ?_;refine goL ?_;refine jI (jW f (by omega)) ?_;exact⟨(f+1),(y1++[(gD.mk y aa)]),(v2+1),h,by omega,eJ⟩
 ·have c:=uS c5;rw [jC c,gFn.eq_1] at h;refine goX ?_;refine kP 0 rfl rfl ?_;refine jG ?_;cases h;exact qD
def gLa(c:gB→Option (gD)):List gB→(List gD)→Option (gD)
 | [],f=>(some (gD.mk [] f))
 | y::xs,f=>bnd (c y) fun h=>
gd (f.length+[h].length≤4294967296) (
gLa c xs (f++[h]))
def gLb(c:gB→Option (gD)):List gB→(List gD)→Option (gD)
 | [],f=>(some (gD.mk [] f))
 | y::xs,f=>bnd (c y) fun h=>
gd (f.length+[h].length≤4294967296) (
gLb c xs (f++[h]))
def hGt(c:gB→Option (gD))(f:gB):Option (gD):=
(cnd (f.kind==1) (
gd (([39]:LB).length+f.name.length≤4294967296) (
lt_ (mF (([39]:LB)++f.name)) fun x3=>
(some x3))) (
(cnd (f.kind==4) (
lt_ (mF [100,121,110]) fun x5=>
lt_ (mF f.name) fun x6=>
bnd (gIx [x5,x6]) fun x7=>
(some x7)) (
lt_ ((cnd (f.kind==2) (((f.args.length:Int)==0)) (false))) fun b8=>
(cnd b8 (
lt_ (mF f.name) fun ab=>
(some ab)) (
(cnd (f.kind==3) (
lt_ (mF [97,115,115,111,99]) fun h=>
gd (([]:List gD).length+[h].length≤4294967296) (
lt_ (mF f.name) fun y=>
gd (([]++[h]).length+[y].length≤4294967296) (
gLa c f.args (([]++[h])++[y])))) (
lt_ (mF f.name) fun aa=>
gd (([]:List gD).length+[aa].length≤4294967296) (
gLb c f.args ([]++[aa]))))))))))
theorem hU3{c:gB→Option (gD)}(y:∀(x0:gB){r:gD},c x0=some r→gY Tryz.prog 208 [.d (jS x0)] [pJ r])(a0:gB){r:gD}(h:hGt c a0=some r):gY Tryz.prog 208 [.d (jS a0)] [pJ r]:=by
 obtain⟨aq,f,aa⟩:=a0;unfold hGt at h;refine SpI Tryz.func208 fun A _=>?_;refine goL ?_;refine jY (jA ?_);refine goC h ?_ ?_<;>intro c1 h
 ·refine goL ?_;obtain⟨g2,h⟩:=mY h;refine qK (wK g2) ?_;obtain⟨⟨b6,b7⟩,bp,h⟩:=qA h;have sx3:=mO (([39]:LB)++f);rw [bp] at sx3;refine qK (gF (sx3)) ?_;exact goR h
 ·refine goC h ?_ ?_<;>intro c4 h
  ·refine jK (P:=Tryz.prog) Mix.h [(1,true),(2,true),(0,false),(3,false),(4,false),(5,false),(6,false)] (by kernel_rfl) ?_;refine goY ?_;obtain⟨⟨ax,ay⟩,bq,h⟩:=qA h;have sx5:=mO [100,121,110];rw [bq] at sx5;refine pX (sx5) ?_;obtain⟨⟨a3,a4⟩,br,h⟩:=qA h;have sx6:=mO f;rw [br] at sx6;refine pX (sx6) ?_;refine qE (T:=133) (us:=gX [(gD.mk ax ay),(gD.mk a3 a4)]) ?_;refine gBe 2 rfl rfl ?_;obtain⟨⟨b9,ca⟩,bt,h⟩:=gM h;refine pX (gMs [(gD.mk ax ay),(gD.mk a3 a4)] bt) ?_;refine goY ?_;refine kQ ?_;exact goR h
  ·refine goL ?_;obtain⟨b8,hb8,h⟩:=qA h;refine jT ⟨[(1,.ptr 0 0),(2,.ptr 1 0),(23,.B b8)],[bTy aq f aa,.box [.S [],.nilsl]],Tryz.f208.ntmps⟩ ?_ ?_
   ·refine uD 27 (fun c9=>?_) (fun c9=>?_) (by first | rfl | (simp only [jE,gU];rfl))
    ·replace hb8:=kD c9 hb8;refine goL ?_;cases hb8;exact⟨rfl,⟨⟨rfl,rfl⟩,⟨rfl,rfl⟩,⟨by first | rfl | (simp only [jE,gU];rfl),rfl⟩,trivial⟩,⟨_,rfl⟩,rfl⟩
    ·replace hb8:=kE c9 hb8;refine goL ?_;cases hb8;exact⟨rfl,⟨⟨rfl,rfl⟩,⟨rfl,rfl⟩,⟨by first | rfl | (simp only [jE,gU];rfl),rfl⟩,trivial⟩,⟨_,rfl⟩,rfl⟩
   refine goC h ?_ ?_<;>intro cd h
   ·refine goL ?_;obtain⟨⟨bv,bw⟩,bg,h⟩:=qA h;have sx11:=mO f;rw [bg] at sx11;refine qK (gF (sx11)) ?_;exact goR h
   ·refine goS ?_;refine gBn (jX TBd.h TZ.h rfl (by repeat constructor)) ?_;refine kX (fun a5=>?_) (fun a5=>?_)
    ·replace h:=kD a5 h;refine yT 135 2 2 1 rfl rfl (by repeat constructor) (by repeat constructor) (by repeat constructor) (by repeat constructor) ?_;refine uM (P:=Tryz.prog) Mix.h [(0,true),(1,true),(2,false),(3,false),(4,false),(5,true),(6,false)] (by kernel_rfl) ?_;refine goY ?_;obtain⟨⟨ag,ah⟩,bh,h⟩:=qA h;have sx13:=mO [97,115,115,111,99];rw [bh] at sx13;refine pX (sx13) ?_;refine qE (T:=133) (us:=gX [(gD.mk ag ah)]) ?_;obtain⟨bx,h⟩:=mY h;refine pW (T:=133) bx ?_;refine goY ?_;refine kQ ?_;refine gId ?_;refine jK (P:=Tryz.prog) Mix.h [(0,true),(1,true),(2,true),(3,true),(4,false),(5,false),(6,false),(7,true),(8,false)] (by kernel_rfl) ?_;refine goY ?_;obtain⟨⟨ai,aj⟩,bi,h⟩:=qA h;have sx15:=mO f;rw [bi] at sx15;refine pX (sx15) ?_;refine qE (T:=133) (us:=gX [(gD.mk ai aj)]) ?_;obtain⟨bz,h⟩:=mY h;refine pW (T:=133) bz ?_;refine goY ?_;refine kQ ?_;refine goL ?_;refine noB ?_;refine wJ 0 2 (fun ce=>?_);refine kS (fun(ab:Nat)(am:List gD)(an:Nat)=>⟨[(1,.ptr 0 0),(2,.ptr 1 0),(3,.ptr 2 0),(4,.N ab)],[bTy aq f aa,.box [.S [],.nilsl],.box [.S [],.sl 3 an],.arr 135 2 an (gX am),.arr 135 2 0 (gX [(gD.mk ag ah)]),.arr 135 2 0 (gX [(gD.mk ai aj)])],Tryz.f208.ntmps⟩) (fun ab am an=>gLa c (aa.drop ab) am=some r) (fun ab am an=>aa.length - ab) 0 (([]++[(gD.mk ag ah)])++[(gD.mk ai aj)]) ((0+1)+1) eJ h ?_;rintro ab am an h;refine goL ?_;refine kX (fun a6=>?_) (fun a6=>?_)
     ·have ac:=uR a6;obtain⟨b0,bj,a7⟩:=drop_at ac;rw [a7,gLa.eq_2] at h;obtain⟨a8,a9,ba⟩:=b0;refine noS ?_;refine jY (jA ?_);refine uM (P:=Tryz.prog) Mix.h [(0,true),(1,true),(2,true),(3,true),(4,true),(5,true),(6,true),(7,false),(8,false),(9,false),(10,true),(11,false)] (by kernel_rfl) ?_;refine goY ?_;refine jF rfl (jJ ab (zJ bj)) ?_;refine goY ?_;obtain⟨⟨ar,au⟩,bk,h⟩:=gM h;refine pX (y (gB.mk a8 a9 ba) bk) ?_;refine qE (T:=133) (us:=gX [(gD.mk ar au)]) ?_;obtain⟨b1,h⟩:=mY h;refine pW (T:=133) b1 ?_;refine goY ?_;refine kQ ?_;refine goL ?_;refine jI (jW ab (by omega)) ?_;exact⟨(ab+1),(am++[(gD.mk ar au)]),(an+1),h,by omega,eJ⟩
     ·have ac:=uS a6;rw [jC ac,gLa.eq_1] at h;refine goX ?_;refine kP 3 rfl rfl ?_;refine jG ?_;cases h;exact qD
    ·replace h:=kE a5 h;refine noS ?_;refine yT 135 2 2 1 rfl rfl (by repeat constructor) (by repeat constructor) (by repeat constructor) (by repeat constructor) ?_;refine jK (P:=Tryz.prog) Mix.h [(0,true),(1,true),(2,true),(3,true),(4,false),(5,false),(6,false),(7,true),(8,false)] (by kernel_rfl) ?_;refine goY ?_;obtain⟨⟨ak,al⟩,bl,h⟩:=qA h;have sx25:=mO f;rw [bl] at sx25;refine pX (sx25) ?_;refine qE (T:=133) (us:=gX [(gD.mk ak al)]) ?_;obtain⟨b2,h⟩:=mY h;refine pW (T:=133) b2 ?_;refine goY ?_;refine kQ ?_;refine goL ?_;refine noB ?_;refine wJ 0 2 (fun cf=>?_);refine kS (fun(ad:Nat)(ao:List gD)(ap:Nat)=>⟨[(1,.ptr 0 0),(2,.ptr 1 0),(3,.ptr 2 0),(4,.N ad)],[bTy aq f aa,.box [.S [],.nilsl],.box [.S [],.sl 3 ap],.arr 135 2 ap (gX ao),.arr 135 2 0 (gX [(gD.mk ak al)])],Tryz.f208.ntmps⟩) (fun ad ao ap=>gLb c (aa.drop ad) ao=some r) (fun ad ao ap=>aa.length - ad) 0 ([]++[(gD.mk ak al)]) (0+1) eJ h ?_;rintro ad ao ap h;refine goL ?_;refine kX (fun bb=>?_) (fun bb=>?_)
     ·have ae:=uR bb;obtain⟨b3,bm,bc⟩:=drop_at ae;rw [bc,gLb.eq_2] at h;obtain⟨bd,be,bf⟩:=b3;refine noS ?_;refine jY (jA ?_);refine uM (P:=Tryz.prog) Mix.h [(0,true),(1,true),(2,true),(3,true),(4,true),(5,true),(6,true),(7,false),(8,false),(9,false),(10,true),(11,false)] (by kernel_rfl) ?_;refine goY ?_;refine jF rfl (jJ ad (zJ bm)) ?_;refine goY ?_;obtain⟨⟨av,aw⟩,bn,h⟩:=gM h;refine pX (y (gB.mk bd be bf) bn) ?_;refine qE (T:=133) (us:=gX [(gD.mk av aw)]) ?_;obtain⟨b4,h⟩:=mY h;refine pW (T:=133) b4 ?_;refine goY ?_;refine kQ ?_;refine goL ?_;refine jI (jW ad (by omega)) ?_;exact⟨(ad+1),(ao++[(gD.mk av aw)]),(ap+1),h,by omega,eJ⟩
     ·have ae:=uS bb;rw [jC ae,gLb.eq_1] at h;refine goX ?_;refine kP 3 rfl rfl ?_;refine jG ?_;cases h;exact qD
def gM1:Nat→gB→Option (gD)
 | 0,_=>none
 | n+1,c=>hGt (gM1 n) c
theorem gKu:∀(n:Nat)(c:gB){r:gD},gM1 n c=some r→gY Tryz.prog 208 [.d (jS c)] [pJ r]:=by
 intro n
 induction n with
 | zero=>intro c r h;cases h
 | succ n ih=>intro c r h;exact hU3 ih c h
def gEw(c:LB)(a1:gB):Option (Bool):=
bnd (uC 5000 a1 c) fun f=>
(some (decide (f > 0)))
theorem gRx(f:LB)(a1:gB){r:Bool}(h:gEw f a1=some r):gY Tryz.prog 86 [.S f,.d (jS a1)] [.b r]:=by
 obtain⟨y,aa,ab⟩:=a1;unfold gEw at h;refine SpI Tryz.func86 fun A _=>?_;refine goL ?_;obtain⟨x1,c,h⟩:=gM h;refine qK (gF (gMx _ _ _ c)) ?_;exact goR h
@[reducible] def wD:LB:=List.append [40,112,97,99,107,97,103,101,32,99,111,114,101,32,40,41,32,40,116,114,97,105,116,32,115,104,111,119,32,40,41,32,40,41,32,40,109,32,40,41,32,105,110,116,41,32,40,116,119,111,32,40,39,115,101] [108,102,41,32,105,110,116,32,40,120,32,121,41,32,40,43,32,40,109,101,116,104,111,100,32,115,104,111,119,32,109,32,120,41,32,40,109,101,116,104,111,100,32,115,104,111,119,32,109,32,121,41,41,41,41]
@[reducible] def wE:LB:=List.append (List.append [32,40,116,114,97,105,116,32,101,113,32,40,41,32,40,41,32,40,115,97,109,101,32,40,39,115,101,108,102,41,32,98,111,111,108,41,41,32,40] [116,114,97,105,116,32,111,114,100,32,40,101,113,41,32,40,41,32,40,108,101,115,115,32,40,39,115,101,108,102,41,32,98,111,111,108,41,41,32]) (List.append [40,116,114,97,105,116,32,97,100,100,32,40,41,32,40,97,115,115,111,99,41,32,40,112,108,117,115,32,40,39,115,101,108,102,41,32,40,97,115] [115,111,99,32,97,100,100,32,39,115,101,108,102,41,41,41,32,40,116,114,97,105,116,32,115,101,110,100,32,40,41,32,40,97,117,116,111,41,41])
@[reducible] def yF:LB:=List.append [32,40,100,97,116,97,32,108,105,115,116,32,40,97,41,32,40,110,105,108,41,32,40,99,111,110,115,32,39,97,32,40,108,105,115,116,32,39,97,41,41,41,32,40,100,97,116,97,32,112,97,105,114,32,40,97,32,98,41] [32,40,112,97,105,114,32,39,97,32,39,98,41,41,32,40,100,97,116,97,32,98,111,120,32,40,97,41,32,40,98,111,120,32,39,97,41,41,32,40,100,97,116,97,32,117,110,105,116,32,40,41,32,40,117,110,105,116,41,41]
@[reducible] def zO:LB:=List.append [32,40,105,110,115,116,32,115,104,111,119,32,40,41,32,105,110,116,32,40,41,32,40,41,32,40,41,32,40,109,32,40,120,41,32,120,41,41,32,40,105,110,115] [116,32,115,104,111,119,32,40,41,32,98,111,111,108,32,40,41,32,40,41,32,40,41,32,40,109,32,40,120,41,32,40,105,102,32,120,32,49,32,48,41,41,41]
@[reducible] def gDf:LB:=List.append [32,40,105,110,115,116,32,115,104,111,119,32,40,97,41,32,40,108,105,115,116,32,39,97,41,32,40,40,115,104,111,119,32,39,97,41,41,32,40,41,32,40,41,32,40,109,32,40,120,41,32,40,99,97,115,101,32,120,32,40] [110,105,108,32,48,41,32,40,99,111,110,115,32,104,32,116,32,40,43,32,40,109,101,116,104,111,100,32,115,104,111,119,32,109,32,104,41,32,40,109,101,116,104,111,100,32,115,104,111,119,32,109,32,116,41,41,41,41,41,41]
@[reducible] def gDg:LB:=List.append (List.append [32,40,105,110,115,116,32,115,104,111,119,32,40,97,41,32,40,108,105,115,116,32,39,97,41,32,40,41,32,40,100,101,102,97,117,108] [116,41,32,40,41,32,40,109,32,40,120,41,32,55,41,41,32,40,105,110,115,116,32,115,104,111,119,32,40,41,32,40,108,105,115,116,32]) (List.append [105,110,116,41,32,40,41,32,40,41,32,40,41,32,40,109,32,40,120,41,32,40,99,97,115,101,32,120,32,40,110,105,108,32,48,41,32] [40,99,111,110,115,32,104,32,116,32,40,43,32,104,32,40,109,101,116,104,111,100,32,115,104,111,119,32,109,32,116,41,41,41,41,41,41])
@[reducible] def uT:LB:=List.append [32,40,105,110,115,116,32,115,104,111,119,32,40,97,32,98,41,32,40,112,97,105,114,32,39,97,32,39,98,41,32,40,40,115,104,111,119,32,39,97,41,32,40,115,104,111,119,32,39,98,41,41,32,40,41,32,40,41,32,40,109,32,40] [120,41,32,40,99,97,115,101,32,120,32,40,112,97,105,114,32,121,32,122,32,40,45,32,40,109,101,116,104,111,100,32,115,104,111,119,32,109,32,121,41,32,40,109,101,116,104,111,100,32,115,104,111,119,32,109,32,122,41,41,41,41,41,41]
@[reducible] def vF:LB:=List.append [32,40,105,110,115,116,32,101,113,32,40,41,32,105,110,116,32,40,41,32,40,41,32,40,41,32,40,115,97,109,101,32,40,120,32,121,41,32,40,61,32,120,32,121,41,41,41] [32,40,105,110,115,116,32,111,114,100,32,40,41,32,105,110,116,32,40,41,32,40,41,32,40,41,32,40,108,101,115,115,32,40,120,32,121,41,32,40,60,32,120,32,121,41,41,41]
@[reducible] def wF:LB:=List.append [32,40,105,110,115,116,32,101,113,32,40,97,41,32,40,98,111,120,32,39,97,41,32,40,40,101,113,32,39,97,41,41,32,40,41,32,40,41,32,40,115,97,109,101,32,40,120,32,121,41,32,40,99] [97,115,101,32,120,32,40,98,111,120,32,112,32,40,99,97,115,101,32,121,32,40,98,111,120,32,113,32,40,109,101,116,104,111,100,32,101,113,32,115,97,109,101,32,112,32,113,41,41,41,41,41,41,41]
@[reducible] def vK:LB:=[32,40,105,110,115,116,32,97,100,100,32,40,41,32,105,110,116,32,40,41,32,40,41,32,40,105,110,116,41,32,40,112,108,117,115,32,40,120,32,121,41,32,40,43,32,120,32,121,41,41,41]
@[reducible] def wQ:LB:=List.append (List.append [32,40,105,110,115,116,32,97,100,100,32,40,97,41,32,40,98,111,120,32,39,97,41,32,40,40,97,100,100,32,39,97,41,41,32] [40,41,32,40,40,98,111,120,32,40,97,115,115,111,99,32,97,100,100,32,39,97,41,41,41,32,40,112,108,117,115,32,40,120,32]) (List.append [121,41,32,40,99,97,115,101,32,120,32,40,98,111,120,32,112,32,40,99,97,115,101,32,121,32,40,98,111,120,32,113,32,40,110] [101,119,32,98,111,120,32,40,109,101,116,104,111,100,32,97,100,100,32,112,108,117,115,32,112,32,113,41,41,41,41,41,41,41,41])
@[reducible] def zB:LB:=List.append [32,40,102,110,32,105,100,32,40,97,41,32,40,41,32,40,40,120,32,39,97,41,41,32,39,97,32,120,41,32,40,102,110,32,98,111,116,104,32,40,97,41,32,40,40] [115,104,111,119,32,39,97,41,41,32,40,40,120,32,39,97,41,41,32,105,110,116,32,40,109,101,116,104,111,100,32,115,104,111,119,32,116,119,111,32,120,32,120,41,41]
def gLc(c:jB):Option (LB × jB):=
gd (wD.length+wE.length≤4294967296) (
gd ((wD++wE).length+yF.length≤4294967296) (
gd (((wD++wE)++yF).length+zO.length≤4294967296) (
bnd (gEb c 2) fun h=>
bnd ((cnd h.1 (
gd ((((wD++wE)++yF)++zO).length+gDf.length≤4294967296) (
(some ((((wD++wE)++yF)++zO)++gDf)))) (
gd ((((wD++wE)++yF)++zO).length+gDg.length≤4294967296) (
(some ((((wD++wE)++yF)++zO)++gDg)))))) fun f=>
gd (f.length+uT.length≤4294967296) (
gd ((f++uT).length+vF.length≤4294967296) (
gd (((f++uT)++vF).length+wF.length≤4294967296) (
gd ((((f++uT)++vF)++wF).length+vK.length≤4294967296) (
gd (((((f++uT)++vF)++wF)++vK).length+wQ.length≤4294967296) (
gd ((((((f++uT)++vF)++wF)++vK)++wQ).length+zB.length≤4294967296) (
gd (((((((f++uT)++vF)++wF)++vK)++wQ)++zB).length+([41]:LB).length≤4294967296) (
(some ((((((((f++uT)++vF)++wF)++vK)++wQ)++zB)++([41]:LB)),h.2))))))))))))
set_option maxRecDepth 100000 in
theorem hGu(c:jB){r:LB × jB}(h:gLc c=some r):Go.Eng.Spec Tryz.prog 73 [.ptr 0 0] [bCu c.b c.i c.h] (fun sv Lo=>sv=.S r.1∧Lo=[bCu r.2.b r.2.i r.2.h]):=by
 obtain⟨ab,ac,ad⟩:=c;unfold gLc at h;refine kF 1 Tryz.func73 rfl (by kernel_rfl) rfl rfl fun A _=>?_;refine goL ?_;obtain⟨g1,h⟩:=mY h;refine jI (wK g1) ?_;obtain⟨g2,h⟩:=mY h;refine jI (wK g2) ?_;obtain⟨g3,h⟩:=mY h;refine jI (wK g3) ?_;obtain⟨⟨an,⟨f,y,aa⟩⟩,ae,h⟩:=gM h;refine gA7 0 (gJ2 (jB.mk ab ac ad) 2 ae) ?_;refine goL ?_;obtain⟨b5,hb5,h⟩:=gM h;refine gE4 ⟨[(3,.S b5)],[bCu f y aa],Tryz.f73.ntmps⟩ ?_ ?_
 ·refine kX (fun c6=>?_) (fun c6=>?_)
  ·replace hb5:=kD c6 hb5;refine goL ?_;obtain⟨g7,hb5⟩:=mY hb5;refine jI (wK g7) ?_;cases hb5;exact eJ
  ·replace hb5:=kE c6 hb5;refine goL ?_;obtain⟨g8,hb5⟩:=mY hb5;refine jI (wK g8) ?_;cases hb5;exact eJ
 refine goL ?_;obtain⟨g9,h⟩:=mY h;refine jI (wK g9) ?_;obtain⟨ah,h⟩:=mY h;refine jI (wK ah) ?_;obtain⟨ai,h⟩:=mY h;refine jI (wK ai) ?_;obtain⟨aj,h⟩:=mY h;refine jI (wK aj) ?_;obtain⟨ak,h⟩:=mY h;refine jI (wK ak) ?_;obtain⟨al,h⟩:=mY h;refine jI (wK al) ?_;obtain⟨am,h⟩:=mY h;refine jI (wK am) ?_;refine jG ?_;obtain rfl:=Option.some.inj h;exact yK [.d (.s (((((((b5++uT)++vF)++wF)++vK)++wQ)++zB)++([41]:LB)))] _ ⟨rfl,rfl⟩
def gHe(c:gB→Option (Bool)):List gB→Bool→Option (Bool)
 | [],f=>(some f)
 | h::xs,f=>bnd ((cnd f (bnd (c h) fun y=>
(some y)) ((some false)))) fun aa=>
gHe c xs aa
def gHf(c:gB→Option (Bool)):List gB→Bool→Option (Bool)
 | [],f=>(some f)
 | h::xs,f=>bnd ((cnd f (bnd (c h) fun y=>
(some y)) ((some false)))) fun aa=>
gHf c xs aa
def gHg(c:gB→Option (Bool)):List gB→Bool→Option (Bool)
 | [],f=>(some f)
 | h::xs,f=>bnd ((cnd f (bnd (c h) fun y=>
(some y)) ((some false)))) fun aa=>
gHg c xs aa
def gVm(c:gB→Option (Bool))(f:gB):Option (Bool):=
bnd ((cnd (f.kind==1) (
(some (f.kind==1))) (
(some (f.kind==4))))) fun b1=>
(cnd b1 (
lt_ ((cnd (mH f.name) (((f.args.length:Int)==0)) (false))) fun b4=>
gHe c f.args b4) (
(cnd (f.kind==3) (
lt_ ((cnd (mH f.name) (((f.args.length:Int)==1)) (false))) fun h=>
gHf c f.args h) (
(cnd (f.kind==2) (
lt_ ((cnd (mH f.name) ((cnd (decide ((f.args.length:Int)≤3)) (true) ((cnd (gN4 f.name) (((f.args.length:Int)==0)) (false))))) ((cnd (gN4 f.name) (((f.args.length:Int)==0)) (false))))) fun y=>
gHg c f.args y) (
(some false)))))))
theorem hNh{c:gB→Option (Bool)}(aa:∀(x0:gB){r:Bool},c x0=some r→gY Tryz.prog 245 [.d (jS x0)] [.b r])(a0:gB){r:Bool}(h:gVm c a0=some r):gY Tryz.prog 245 [.d (jS a0)] [.b r]:=by
 obtain⟨ab,y,f⟩:=a0;unfold gVm at h;refine SpI Tryz.func245 fun A _=>?_;refine goL ?_;refine jI (gF (qG y)) ?_;refine jA ?_;refine goL ?_;obtain⟨b1,hb1,h⟩:=gM h;refine gE4 ⟨[(1,.ptr 0 0),(3,.B (mH y)),(9,.I ab),(10,.B b1)],[bTy ab y f],Tryz.f245.ntmps⟩ ?_ ?_
 ·refine kX (fun c2=>?_) (fun c2=>?_)
  ·replace hb1:=kD c2 hb1;refine gAn ?_;cases hb1;exact eJ
  ·replace hb1:=kE c2 hb1;refine goL ?_;cases hb1;exact eJ
 refine goC h ?_ ?_<;>intro c3 h
 ·refine goL ?_;obtain⟨b4,hb4,h⟩:=qA h;refine jT ⟨[(1,.ptr 0 0),(3,.B b4)],[bTy ab y f],Tryz.f245.ntmps⟩ ?_ ?_
  ·refine uD 14 (fun c5=>?_) (fun c5=>?_) (by first | rfl | (simp only [jE,gU];rfl))
   ·replace hb4:=kD c5 hb4;refine goL ?_;cases hb4;exact⟨rfl,⟨⟨rfl,rfl⟩,⟨by first | rfl | (simp only [jE,gU];rfl),rfl⟩,trivial⟩,⟨_,rfl⟩,rfl⟩
   ·replace hb4:=kE c5 hb4;refine goL ?_;cases hb4;exact⟨rfl,⟨⟨rfl,rfl⟩,⟨by first | rfl | (simp only [jE,gU];rfl),rfl⟩,trivial⟩,⟨_,rfl⟩,rfl⟩
  refine goL ?_;refine noB ?_;refine wJ 0 2 (fun z8=>?_);refine gEe (fun(y7:Nat)(y6:Bool)=>⟨[(1,.ptr 0 0),(3,.B y6),(4,.N y7)],[bTy ab y f],Tryz.f245.ntmps⟩) (fun y7 y6=>gHe c (f.drop y7) y6=some r) (fun y7 y6=>f.length - y7) 0 b4 eJ h ?_;rintro y7 y6 h;refine goL ?_;refine kX (fun c9=>?_) (fun c9=>?_)
  ·have ah:=uR c9;obtain⟨bh,ay,al⟩:=drop_at ah;rw [al,gHe.eq_2] at h;obtain⟨bi,bj,bk⟩:=bh;refine noS ?_;refine jY (jA ?_);refine goL ?_;obtain⟨a3,hb11,h⟩:=gM h;refine jT ⟨[(1,.ptr 0 0),(4,.N y7),(3,.B a3)],[bTy ab y f],Tryz.f245.ntmps⟩ ?_ ?_
   ·refine gqA 57 hb11 (fun bx hb11=>?_);refine jI (jJ y7 (zJ ay)) ?_;refine gQq ?_;obtain⟨bz,a4,hb11⟩:=gM hb11;refine jI (gF (aa _ a4)) ?_;cases hb11;exact eJ
   refine goL ?_;refine jI (jW y7 (by omega)) ?_;exact⟨(y7+1),a3,h,by omega,eJ⟩
  ·have ah:=uS c9;rw [jC ah,gHe.eq_1] at h;refine goX ?_;refine jG ?_;cases h;exact qD
 ·refine goC h ?_ ?_<;>intro b0 h
  ·refine goL ?_;obtain⟨a5,hb15,h⟩:=qA h;refine jT ⟨[(1,.ptr 0 0),(3,.B a5)],[bTy ab y f],Tryz.f245.ntmps⟩ ?_ ?_
   ·refine uD 23 (fun am=>?_) (fun am=>?_) (by first | rfl | (simp only [jE,gU];rfl))
    ·replace hb15:=kD am hb15;refine goL ?_;cases hb15;exact⟨rfl,⟨⟨rfl,rfl⟩,⟨by first | rfl | (simp only [jE,gU];rfl),rfl⟩,trivial⟩,⟨_,rfl⟩,rfl⟩
    ·replace hb15:=kE am hb15;refine goL ?_;cases hb15;exact⟨rfl,⟨⟨rfl,rfl⟩,⟨by first | rfl | (simp only [jE,gU];rfl),rfl⟩,trivial⟩,⟨_,rfl⟩,rfl⟩
   refine goL ?_;refine noB ?_;refine wJ 0 2 (fun b2=>?_);refine gEe (fun(ac:Nat)(ai:Bool)=>⟨[(1,.ptr 0 0),(3,.B ai),(4,.N ac)],[bTy ab y f],Tryz.f245.ntmps⟩) (fun ac ai=>gHf c (f.drop ac) ai=some r) (fun ac ai=>f.length - ac) 0 a5 eJ h ?_;rintro ac ai h;refine goL ?_;refine kX (fun an=>?_) (fun an=>?_)
   ·have ae:=uR an;obtain⟨bl,a6,ao⟩:=drop_at ae;rw [ao,gHf.eq_2] at h;obtain⟨bm,bn,bo⟩:=bl;refine noS ?_;refine jY (jA ?_);refine goL ?_;obtain⟨a7,hb22,h⟩:=gM h;refine jT ⟨[(1,.ptr 0 0),(4,.N ac),(3,.B a7)],[bTy ab y f],Tryz.f245.ntmps⟩ ?_ ?_
    ·refine gqA 57 hb22 (fun b3 hb22=>?_);refine jI (jJ ac (zJ a6)) ?_;refine gQq ?_;obtain⟨b5,a8,hb22⟩:=gM hb22;refine jI (gF (aa _ a8)) ?_;cases hb22;exact eJ
    refine goL ?_;refine jI (jW ac (by omega)) ?_;exact⟨(ac+1),a7,h,by omega,eJ⟩
   ·have ae:=uS an;rw [jC ae,gHf.eq_1] at h;refine goX ?_;refine jG ?_;cases h;exact qD
  ·refine goC h ?_ ?_<;>intro b6 h
   ·refine goL ?_;obtain⟨a9,hb26,h⟩:=qA h;refine jT ⟨[(1,.ptr 0 0),(3,.B a9)],[bTy ab y f],Tryz.f245.ntmps⟩ ?_ ?_
    ·refine uD 32 (fun ap=>?_) (fun ap=>?_) (by first | rfl | (simp only [jE,gU];rfl))
     ·replace hb26:=kD ap hb26;refine goL ?_;refine uD 38 (fun aq=>?_) (fun aq=>?_) (by first | rfl | (simp only [jE,gU];rfl))
      ·replace hb26:=kD aq hb26;refine goL ?_;cases hb26;exact⟨rfl,⟨⟨rfl,rfl⟩,⟨by first | rfl | (simp only [jE,gU];rfl),rfl⟩,trivial⟩,⟨_,rfl⟩,rfl⟩
      ·replace hb26:=kE aq hb26;refine goL ?_;refine gQq ?_;refine jI (gF (hCf y)) ?_;refine uD 42 (fun ar=>?_) (fun ar=>?_) (by first | rfl | (simp only [jE,gU];rfl))
       ·replace hb26:=kD ar hb26;refine goL ?_;cases hb26;exact⟨rfl,⟨⟨rfl,rfl⟩,⟨by first | rfl | (simp only [jE,gU];rfl),rfl⟩,trivial⟩,⟨_,rfl⟩,rfl⟩
       ·replace hb26:=kE ar hb26;refine goL ?_;cases hb26;exact⟨rfl,⟨⟨rfl,rfl⟩,⟨by first | rfl | (simp only [jE,gU];rfl),rfl⟩,trivial⟩,⟨_,rfl⟩,rfl⟩
     ·replace hb26:=kE ap hb26;refine goL ?_;refine gQq ?_;refine jI (gF (hCf y)) ?_;refine uD 42 (fun au=>?_) (fun au=>?_) (by first | rfl | (simp only [jE,gU];rfl))
      ·replace hb26:=kD au hb26;refine goL ?_;cases hb26;exact⟨rfl,⟨⟨rfl,rfl⟩,⟨by first | rfl | (simp only [jE,gU];rfl),rfl⟩,trivial⟩,⟨_,rfl⟩,rfl⟩
      ·replace hb26:=kE au hb26;refine goL ?_;cases hb26;exact⟨rfl,⟨⟨rfl,rfl⟩,⟨by first | rfl | (simp only [jE,gU];rfl),rfl⟩,trivial⟩,⟨_,rfl⟩,rfl⟩
    refine goL ?_;refine noB ?_;refine wJ 0 2 (fun b7=>?_);refine gEe (fun(ad:Nat)(aj:Bool)=>⟨[(1,.ptr 0 0),(3,.B aj),(4,.N ad)],[bTy ab y f],Tryz.f245.ntmps⟩) (fun ad aj=>gHg c (f.drop ad) aj=some r) (fun ad aj=>f.length - ad) 0 a9 eJ h ?_;rintro ad aj h;refine goL ?_;refine kX (fun av=>?_) (fun av=>?_)
    ·have ag:=uR av;obtain⟨bp,ba,aw⟩:=drop_at ag;rw [aw,gHg.eq_2] at h;obtain⟨bq,br,bt⟩:=bp;refine noS ?_;refine jY (jA ?_);refine goL ?_;obtain⟨bb,hb36,h⟩:=gM h;refine jT ⟨[(1,.ptr 0 0),(4,.N ad),(3,.B bb)],[bTy ab y f],Tryz.f245.ntmps⟩ ?_ ?_
     ·refine gqA 57 hb36 (fun b8 hb36=>?_);refine jI (jJ ad (zJ ba)) ?_;refine gQq ?_;obtain⟨b9,bc,hb36⟩:=gM hb36;refine jI (gF (aa _ bc)) ?_;cases hb36;exact eJ
     refine goL ?_;refine jI (jW ad (by omega)) ?_;exact⟨(ad+1),bb,h,by omega,eJ⟩
    ·have ag:=uS av;rw [jC ag,gHg.eq_1] at h;refine goX ?_;refine jG ?_;cases h;exact qD
   ·exact goR h
def gVn:Nat→gB→Option (Bool)
 | 0,_=>none
 | n+1,c=>gVm (gVn n) c
theorem hNi:∀(n:Nat)(c:gB){r:Bool},gVn n c=some r→gY Tryz.prog 245 [.d (jS c)] [.b r]:=by
 intro n
 induction n with
 | zero=>intro c r h;cases h
 | succ n ih=>intro c r h;exact hNh ih c h
def gRy(c:kI):Option (Bool):=
bnd (gK9 5000 c (kI.mk 0 [] [] 0 (gB.mk 0 [] []) [] [])) fun f=>
(some f)
theorem hGv(a0:kI){r:Bool}(h:gRy a0=some r):gY Tryz.prog 230 [.d (gCy a0)] [.b r]:=by
 obtain⟨ac,ad,ae,ag,⟨c,f,y⟩,ah,ai⟩:=a0;unfold gRy at h;refine SpI Tryz.func230 fun A _=>?_;refine goL ?_;refine zZ (jX TBd.h TZ.h rfl (by repeat constructor)) ?_;obtain⟨x1,ab,h⟩:=gM h;refine qK (gF (gXg _ _ _ ab)) ?_;exact goR h
def gBh(c:LS):Option (gD):=
bnd (gN0 c) fun f=>
(some (gD.mk [] f))
theorem uO(f:LS){r:gD}(h:gBh f=some r):gY Tryz.prog 206 [.L 1 (jL f)] [pJ r]:=by
 unfold gBh at h;refine SpI Tryz.func206 fun A _=>?_;refine goL ?_;obtain⟨y,c,h⟩:=gM h;refine qK (gF (gXh _ c)) ?_;refine zZ (jX TBd.h TZ.h rfl (by repeat constructor)) ?_;exact goR h
def gD0:List gB→(List gD)→Option (List gD)
 | [],c=>(some c)
 | h::xs,c=>bnd (gM1 5000 h) fun f=>
gd (c.length+[f].length≤4294967296) (
gD0 xs (c++[f]))
def gMb(c:List gB):Option (List gD):=
gD0 c []
theorem gUd(a0:List gB){r:List gD}(h:gMb a0=some r):gY Tryz.prog 207 [.L 3 (jH a0)] [.sl 2 (gX r)]:=by
 unfold gMb at h;refine SpI Tryz.func207 fun A _=>?_;refine goL ?_;refine gAp ?_;refine goL ?_;refine noB ?_;refine gB0 0 (fun z4=>?_);refine kS (fun(f:Nat)(y1:List gD)(v2:Nat)=>⟨[(0,.L 3 (jH a0)),(3,.sl 0 v2),(4,.N f)],[.arr 135 2 v2 (gX y1)],Tryz.f207.ntmps⟩) (fun f y1 v2=>gD0 (a0.drop f) y1=some r) (fun f y1 v2=>a0.length - f) 0 [] 0 eJ h ?_;rintro f y1 v2 h;refine goL ?_;refine kX (fun c5=>?_) (fun c5=>?_)
 ·have c:=uR c5;obtain⟨x6,ah,ae⟩:=drop_at c;rw [ae,gD0.eq_2] at h;obtain⟨aj,ak,al⟩:=x6;refine noS ?_;refine jY (jA ?_);refine goL ?_;refine jI (jJ f (zJ ah)) ?_;obtain⟨⟨y,aa⟩,ai,h⟩:=gM h;refine qK (gF (gKu _ _ ai)) ?_;refine gAo (u:=(.st [.s y,.sl 2 (gX aa)])) ?_;obtain⟨g8,h⟩:=mY h;refine gBd g8 ?_;refine goL ?_;refine jI (jW f (by omega)) ?_;exact⟨(f+1),(y1++[(gD.mk y aa)]),(v2+1),h,by omega,eJ⟩
 ·have c:=uS c5;rw [jC c,gD0.eq_1] at h;refine goX ?_;refine kP 0 rfl rfl ?_;refine jG ?_;cases h;exact qD
def qN(c:gD):Option (Bool):=
bnd (gVi 5000 c 900) fun f=>
bnd ((cnd (decide (f≥0)) (bnd (gW1 5000 c) fun h=>
(cnd h (bnd (gKg 5000 c) fun y=>
(some (decide (y≤14)))) ((some false)))) ((some false)))) fun b2=>
(some b2)
theorem yG(y:gD){r:Bool}(h:qN y=some r):gY Tryz.prog 111 [.d (pJ y)] [.b r]:=by
 obtain⟨c,f⟩:=y;unfold qN at h;refine SpI Tryz.func111 fun A _=>?_;refine goL ?_;obtain⟨x1,aa,h⟩:=gM h;refine jI (gF (hNa _ _ _ aa)) ?_;obtain⟨b2,hb2,h⟩:=gM h;refine jT ⟨[(2,.B b2)],[bSx c f],Tryz.f111.ntmps⟩ ?_ ?_
 ·refine gqA 6 hb2 (fun c3 hb2=>?_);obtain⟨x4,ab,hb2⟩:=gM hb2;refine jI (gF (hPk _ _ ab)) ?_;refine gqA 10 hb2 (fun c5 hb2=>?_);obtain⟨x6,ac,hb2⟩:=gM hb2;refine jI (gF (gWz _ _ ac)) ?_;cases hb2;exact eJ
 exact goR h
def yA(c:LS)(a1:Int):Option (Bool):=
bnd ((cnd (decide ((c.length:Int)≤a1)) ((cnd (gL0 c) (bnd (wT c) fun f=>
(some f)) ((some false)))) ((some false)))) fun h=>
(some h)
theorem gAc(c:LS)(a1:Int){r:Bool}(h:yA c a1=some r):gY Tryz.prog 138 [.L 1 (jL c),.I a1] [.b r]:=by
 unfold yA at h;refine SpI Tryz.func138 fun A _=>?_;refine goL ?_;obtain⟨y,hb1,h⟩:=gM h;refine jT ⟨[(4,.B y)],[],Tryz.f138.ntmps⟩ ?_ ?_
 ·refine gqA 9 hb1 (fun c2 hb1=>?_);refine jI (gF (gY7 c)) ?_;refine gqA 13 hb1 (fun c3 hb1=>?_);obtain⟨x4,f,hb1⟩:=gM hb1;refine jI (gF (gBk _ f)) ?_;cases hb1;exact eJ
 exact goR h
def wR(c:gB):Option (Bool):=
bnd (gVt 5000 c 60) fun f=>
bnd ((cnd (decide (f≥0)) (bnd (gLy 5000 c) fun h=>
(cnd (decide (h≤6)) (bnd (gVn 5000 c) fun y=>
(some y)) ((some false)))) ((some false)))) fun b2=>
(some b2)
theorem gBi(a0:gB){r:Bool}(h:wR a0=some r):gY Tryz.prog 232 [.d (jS a0)] [.b r]:=by
 obtain⟨c,f,y⟩:=a0;unfold wR at h;refine SpI Tryz.func232 fun A _=>?_;refine goL ?_;obtain⟨x1,ab,h⟩:=gM h;refine jI (gF (hNr _ _ _ ab)) ?_;obtain⟨b2,hb2,h⟩:=gM h;refine jT ⟨[(2,.B b2)],[bTy c f y],Tryz.f232.ntmps⟩ ?_ ?_
 ·refine gqA 6 hb2 (fun c3 hb2=>?_);obtain⟨x4,ac,hb2⟩:=gM hb2;refine jI (gF (gY6 _ _ ac)) ?_;refine gqA 11 hb2 (fun c5 hb2=>?_);obtain⟨x6,ad,hb2⟩:=gM hb2;refine jI (gF (hNi _ _ ad)) ?_;cases hb2;exact eJ
 exact goR h
def zC(c:gK→(List gQ)→gW→Int→Option (gN × Int))(a0:gK)(a1:List gQ)(a3:Int)(x1:gH × Int)(x5:List gG × Bool):List gW→(List gN)→Option (gN × Int)
 | [],y=>(some ((gN.mk 1 0 x1.1 y),0))
 | h::xs,y=>gd (bok x5.1∧tok h.type_) (lt_ (apT x5.1 h.type_) fun ab=>
bnd (c a0 a1 (gW.mk h.trait ab) (IntKind.i64.wrap (a3 - 1))) fun f=>
(cnd (f.2 != 0) (
(some ((gN.mk 0 0 (gH.mk 0 0) []),f.2))) (
gd (y.length+[f.1].length≤4294967296) (
zC c a0 a1 a3 x1 x5 xs (y++[f.1])))))
def gLd(f:gK→(List gQ)→gW→Int→Option (gN × Int))(c:gK→(List gQ)→gW→Int→Option (gN × Int))(y:gK)(a1:List gQ)(a2:gW)(a3:Int):Option (gN × Int):=
bnd (gAd y a2) fun h=>
(cnd (h.2 != 0) (
(some ((gN.mk 0 0 (gH.mk 0 0) []),h.2))) (
bnd (at? y.packages h.1.package) fun x3=>
bnd (at? x3.instances h.1.at_) fun x4=>
bnd (gFj x4.head a2.type_) fun x5=>
zC c y a1 a3 h x5 x4.where_ []))
def gRz(c:gK→(List gQ)→gW→Int→Option (gN × Int)):Prop:=∀(f:gK)(h:List gQ)(y:gW)(x3:Int){r:gN × Int},c f h y x3=some r→gY Tryz.prog 195 [.d (kT f),.L 6 (gV h),.d (zW y),.I x3] [qB r.1,.i .i64 r.2]
def gMc(c:gK→(List gQ)→gW→Int→Option (gN × Int)):Prop:=∀(f:gK)(h:List gQ)(y:gW)(x3:Int){r:gN × Int},c f h y x3=some r→gY Tryz.prog 158 [.d (kT f),.L 6 (gV h),.d (zW y),.I x3] [qB r.1,.i .i64 r.2]
theorem hGw{f}{c}(ao:gRz f)(y:gMc c)(a0:gK)(a1:List gQ)(a2:gW)(a3:Int){r:gN × Int}(h:gLd f c a0 a1 a2 a3=some r):gY Tryz.prog 195 [.d (kT a0),.L 6 (gV a1),.d (zW a2),.I a3] [qB r.1,.i .i64 r.2]:=by
 obtain⟨a6⟩:=a0;obtain⟨be,⟨aq,ar,au⟩⟩:=a2;unfold gLd at h;refine SpI Tryz.func195 fun A _=>?_;refine goL ?_;obtain⟨⟨⟨ac,ad⟩,bf⟩,bt,h⟩:=gM h;refine jI (gF (gPe _ _ bt)) ?_;refine kX (fun c2=>?_) (fun c2=>?_)
 ·replace h:=kD c2 h;refine goL ?_;refine zZ (jX TBd.h TZ.h rfl (by repeat constructor)) ?_;exact goR h
 ·replace h:=kE c2 h;refine noS ?_;refine jK (P:=Tryz.prog) Mix.h [(0,true),(1,true),(2,true),(3,true),(4,true),(5,true),(6,true),(7,true),(8,true),(9,true),(10,true),(11,false),(12,false)] (by kernel_rfl) ?_;refine goY ?_;obtain⟨x3,a8,h⟩:=gM h;obtain⟨bg,a8⟩:=gDy a8;obtain⟨b5,b6,b7,b8,b9,ca⟩:=x3;refine jF rfl (qW bg (gBt a8)) ?_;refine goY ?_;obtain⟨x4,a9,h⟩:=gM h;obtain⟨bh,a9⟩:=gDy a9;obtain⟨bi,bj,⟨av,aw,ax⟩,aj,bk,bl,⟨ay,a4,a5⟩,bm⟩:=x4;refine jF rfl (qW bh (gHu a9)) ?_;refine goY ?_;refine kQ ?_;refine goL ?_;obtain⟨⟨ak,bn⟩,bv,h⟩:=gM h;refine jI (gF (gRu _ _ bv)) ?_;refine gBn (jX TBd.h TZ.h rfl (by repeat constructor)) ?_;refine noB ?_;refine yT 147 5 5 4 rfl rfl (by repeat constructor) (by repeat constructor) (by repeat constructor) (by repeat constructor) ?_;show V _ _ _ _ _;refine wJ 4 5 (fun z9=>?_);refine kS (fun(y8:Nat)(y6:List gN)(v7:Nat)=>⟨[(1,.L 6 (gV a1)),(3,.I a3),(4,.ptr 0 0),(8,.ptr 2 0),(12,.ptr 4 0),(13,.L 4 (gP ak)),(15,.ptr 5 0),(16,.N y8)],[bPr a6,bBd be aq ar au,.box [.I 0,.I 0,.I 0,.I 0,.nilsl],.box [.I ac,.I ad],bIn bi bj av aw ax aj bk bl ay a4 a5 bm,.box [.I 1,.I 0,.I ac,.I ad,.sl 6 v7],.arr 147 5 v7 (kN y6)],Tryz.f195.ntmps⟩) (fun y8 y6 v7=>zC c (gK.mk a6) a1 a3 ((gH.mk ac ad),bf) (ak,bn) (aj.drop y8) y6=some r) (fun y8 y6 v7=>aj.length - y8) 0 [] 0 eJ h ?_;rintro y8 y6 v7 h;refine goL ?_;refine kX (fun ba=>?_) (fun ba=>?_)
  ·have ai:=uR ba;obtain⟨bw,a7,bb⟩:=drop_at ai;rw [bb,zC.eq_2] at h;obtain⟨bx,⟨al,am,an⟩⟩:=bw;refine noS ?_;refine jY (jA ?_);refine jK (P:=Tryz.prog) Mix.h [(0,true),(1,true),(2,true),(3,true),(4,true),(5,true),(6,true),(7,true),(8,true),(9,true),(10,true),(11,true),(12,true),(13,true),(14,true),(15,true),(16,true),(17,true),(18,true),(19,true),(20,true),(21,true),(22,true),(23,false),(24,false),(25,true)] (by kernel_rfl) ?_;refine goY ?_;refine jF rfl (jJ y8 (gHt a7)) ?_;refine goY ?_;refine jF rfl (jJ y8 (gHt a7)) ?_;refine goY ?_;obtain⟨bz,h⟩:=mY h;obtain⟨⟨b0,b1,b2⟩,bo,h⟩:=qA h;have sx13:=(gW7 ak (gB.mk al am an) bz).p;rw [bo] at sx13;refine jF rfl (gF (sx13)) ?_;refine goY ?_;refine jF rfl (pU) ?_;obtain⟨⟨⟨ae,ag,⟨aa,ab⟩,ah⟩,b3⟩,bp,h⟩:=gM h;refine jF rfl (gF (y _ _ _ _ bp)) ?_;refine goY ?_;refine kQ ?_;refine goC h ?_ ?_<;>intro cd h
   ·refine goL ?_;refine zZ (jX TBd.h TZ.h rfl (by repeat constructor)) ?_;exact goR h
   ·refine goS ?_;refine gAo (u:=(.st [.i .i64 ae,.i .i64 ag,.st [.i .i64 aa,.i .i64 ab],.sl 5 (kN ah)])) ?_;obtain⟨b4,h⟩:=mY h;refine gBd b4 ?_;refine goL ?_;refine jI (jW y8 (by omega)) ?_;exact⟨(y8+1),(y6++[(gN.mk ae ag (gH.mk aa ab) ah)]),(v7+1),h,by omega,eJ⟩
  ·have ai:=uS ba;rw [jC ai,zC.eq_1] at h;refine goX ?_;refine kP 6 rfl rfl ?_;refine jG ?_;cases h;exact qD
def gCm(c:gK→(List gQ)→gW→Int→Option (gN × Int))(f:gK→(List gQ)→gW→Int→Option (gN × Int))(a0:gK)(a1:List gQ)(a2:gW)(a3:Int):Option (gN × Int):=
(cnd (decide ((jZ a1 a2)≥0)) (
bnd (at? a1 (jZ a1 a2)) fun x2=>
bnd (qP (gN.mk 2 x2.from_ (gH.mk 0 0) []) x2.steps) fun x3=>
(some (x3,0))) (
(cnd (decide (a3≤0)) (
(some ((gN.mk 0 0 (gH.mk 0 0) []),3))) (
lt_ (wV a0 a2.trait) fun x5=>
(cnd x5.1.auto (
none) (
lt_ ((cnd (a2.type_.kind==1) (true) ((a2.type_.kind==3)))) fun b7=>
(cnd b7 (
(some ((gN.mk 0 0 (gH.mk 0 0) []),1))) (
(cnd (a2.type_.kind==4) (
bnd (yB a0 a2.type_.name a2.trait) fun h=>
(cnd h.2 (
bnd (qP (gN.mk 4 0 (gH.mk 0 0) []) h.1) fun ad=>
(some (ad,0))) (
bnd (c a0 a1 a2 a3) fun y=>
(some (y.1,y.2))))) (
bnd (c a0 a1 a2 a3) fun aa=>
(some (aa.1,aa.2))))))))))))
theorem hE4{y}{c}(f:gRz y)(ad:gMc c)(a0:gK)(a1:List gQ)(a2:gW)(a3:Int){r:gN × Int}(h:gCm y c a0 a1 a2 a3=some r):gY Tryz.prog 158 [.d (kT a0),.L 6 (gV a1),.d (zW a2),.I a3] [qB r.1,.i .i64 r.2]:=by
 obtain⟨am⟩:=a0;obtain⟨ae,⟨aa,ab,ac⟩⟩:=a2;unfold gCm at h;refine SpI Tryz.func158 fun A _=>?_;refine goL ?_;refine jI (gF (gPi a1 (gW.mk ae (gB.mk aa ab ac)))) ?_;refine kX (fun c1=>?_) (fun c1=>?_)
 ·replace h:=kD c1 h;refine jK (P:=Tryz.prog) Mix.h [(0,true),(1,true),(2,true),(3,true),(4,true),(5,true),(6,true),(7,true),(8,true),(9,true),(10,true),(11,true),(12,false),(13,true)] (by kernel_rfl) ?_;refine goY ?_;obtain⟨x2,ag,h⟩:=gM h;obtain⟨an,ag⟩:=gDy ag;obtain⟨⟨bj,⟨ax,ay,a4⟩⟩,a5,a6⟩:=x2;refine jF rfl (qW an (gHx ag)) ?_;refine goY ?_;refine jF rfl (qW an (gHx ag)) ?_;refine goY ?_;obtain⟨⟨b1,b2,⟨bk,bl⟩,b3⟩,bp,h⟩:=gM h;refine jF rfl (gF ((gHm (gN.mk 2 a5 (gH.mk 0 0) []) a6 bp).p)) ?_;refine goY ?_;refine kQ ?_;exact goR h
 ·replace h:=kE c1 h;refine goS ?_;refine kX (fun c4=>?_) (fun c4=>?_)
  ·replace h:=kD c4 h;refine goL ?_;refine zZ (jX TBd.h TZ.h rfl (by repeat constructor)) ?_;exact goR h
  ·replace h:=kE c4 h;refine goS ?_;obtain⟨⟨⟨ah,ai,aj,ak,al⟩,b4,b5⟩,br,h⟩:=qA h;have sx5:=gLh (gK.mk am) ae;rw [br] at sx5;refine jI (gF (sx5)) ?_;refine kX (fun c6=>?_) (fun c6=>?_)
   ·replace h:=kD c6 h;refine goL ?_;refine gAp ?_;cases h
   ·replace h:=kE c6 h;refine goS ?_;obtain⟨b7,hb7,h⟩:=qA h;refine jT ⟨[(1,.L 6 (gV a1)),(3,.I a3),(4,.ptr 0 0),(6,.ptr 1 0),(8,.ptr 2 0),(66,.B b7)],[bPr am,bBd ae aa ab ac,.box [.I 0,.I 0,.I 0,.I 0,.nilsl],bTr ah ai aj ak al],Tryz.f158.ntmps⟩ ?_ ?_
    ·exact gqZ 61 hb7
    refine goC h ?_ ?_<;>intro c9 h
    ·refine goL ?_;refine zZ (jX TBd.h TZ.h rfl (by repeat constructor)) ?_;exact goR h
    ·refine goS ?_;refine kX (fun ao=>?_) (fun ao=>?_)
     ·replace h:=kD ao h;refine goL ?_;obtain⟨⟨ap,bu⟩,a7,h⟩:=gM h;refine jI (gF (gJf _ _ _ a7)) ?_;refine kX (fun aq=>?_) (fun aq=>?_)
      ·replace h:=kD aq h;refine goL ?_;refine gBn (jX TBd.h TZ.h rfl (by repeat constructor)) ?_;obtain⟨⟨bv,bw,⟨a8,a9⟩,bx⟩,ba,h⟩:=gM h;refine qK (gF ((gHm (gN.mk 4 0 (gH.mk 0 0) []) ap ba).p)) ?_;exact goR h
      ·replace h:=kE aq h;refine goS ?_;obtain⟨⟨⟨bb,bc,⟨ar,au⟩,bd⟩,bz⟩,be,h⟩:=gM h;refine qK (gF (f _ _ _ _ be)) ?_;exact goR h
     ·replace h:=kE ao h;refine goS ?_;obtain⟨⟨⟨bf,bg,⟨av,aw⟩,bh⟩,b0⟩,bi,h⟩:=gM h;refine qK (gF (f _ _ _ _ bi)) ?_;exact goR h
mutual
def gHh:Nat→gK→(List gQ)→gW→Int→Option (gN × Int)
 | 0,_,_,_,_=>none
 | n+1,c,f,h,y=>gLd (gHh n) (uI n) c f h y
def uI:Nat→gK→(List gQ)→gW→Int→Option (gN × Int)
 | 0,_,_,_,_=>none
 | n+1,c,f,h,y=>gCm (gHh n) (uI n) c f h y
end
theorem hE5:∀(n:Nat),gRz (gHh n)∧gMc (uI n):=by
 intro n
 induction n with
 | zero=>exact⟨(by intro c f y x3 r h;cases h),(by intro c f y x3 r h;cases h)⟩
 | succ n ih=>
   obtain⟨ih0,ih1⟩:=ih;refine⟨(fun c f y x3 r h=>hGw ih0 ih1 c f y x3 h),(fun c f y x3 r h=>hE4 ih0 ih1 c f y x3 h)⟩
theorem hE6:∀(n:Nat),gMc (uI n):=fun n=>(hE5 n).2
def qC(a0:gK)(y3:Nat)(x6:gW)(f:(List gQ)→Option (List gQ)):LS→(List gQ)→Option (List gQ)
 | [],c=>(f c)
 | h::xs,c=>bnd (yB a0 x6.trait h) fun y=>
gd (tok x6.type_) (lt_ (idT x6.type_) fun aa=>
gd (c.length+[(gQ.mk (gW.mk h aa) (y3:Int) y.1)].length≤4294967296) (
qC a0 y3 x6 f xs (c++[(gQ.mk (gW.mk h aa) (y3:Int) y.1)])))
def pQ(y:gK):List gW→Nat→(List gQ)→Option (List gQ)
 | [],f,h=>(some h)
 | c::xs,f,h=>gd (tok c.type_) (lt_ (idT c.type_) fun x8=>
gd (h.length+[(gQ.mk (gW.mk c.trait x8) (f:Int) [])].length≤4294967296) (
bnd (qY y c.trait) fun aa=>
qC y f c (fun ab=>pQ y xs (f+1) ab) aa (h++[(gQ.mk (gW.mk c.trait x8) (f:Int) [])])))
def pK(c:gK)(a1:List gW):Option (List gQ):=
pQ c a1 0 []
theorem gTw(a0:gK)(a1:List gW){r:List gQ}(h:pK a0 a1=some r):gY Tryz.prog 159 [.d (kT a0),.L 4 (kY a1)] [.sl 6 (gV r)]:=by
 obtain⟨ae⟩:=a0;unfold pK at h;refine SpI Tryz.func159 fun A _=>?_;refine goL ?_;refine gAp ?_;refine goL ?_;refine noB ?_;refine gB0 1 (fun z4=>?_);refine kS (fun(c:Nat)(y1:List gQ)(v2:Nat)=>⟨[(1,.L 4 (kY a1)),(2,.ptr 0 0),(5,.sl 1 v2),(6,.N c)],[bPr ae,.arr 121 6 v2 (gV y1)],Tryz.f159.ntmps⟩) (fun c y1 v2=>pQ (gK.mk ae) (a1.drop c) c y1=some r) (fun c y1 v2=>a1.length - c) 0 [] 0 eJ h ?_;rintro c y1 v2 h;refine goL ?_;refine kX (fun c5=>?_) (fun c5=>?_)
 ·have ag:=uR c5;obtain⟨x6,aj,a3⟩:=drop_at ag;rw [a3,pQ.eq_2] at h;obtain⟨ai,⟨y,aa,ab⟩⟩:=x6;refine noS ?_;refine jY (jA ?_);refine jK (P:=Tryz.prog) Mix.h [(0,true),(1,true),(2,true),(3,true),(4,true),(5,true),(6,true),(7,true),(8,true),(9,true),(10,true),(11,true),(12,true),(13,true),(14,true),(15,false),(16,false),(17,true)] (by kernel_rfl) ?_;refine goY ?_;refine jF rfl (jJ c (gHt aj)) ?_;refine goY ?_;refine jF rfl (jJ c (gHt aj)) ?_;refine goY ?_;obtain⟨g7,h⟩:=mY h;obtain⟨⟨ak,al,am⟩,ba,h⟩:=qA h;have sx8:=(zT (gB.mk y aa ab) g7).p;rw [ba] at sx8;refine jF rfl (gF (sx8)) ?_;refine goY ?_;refine qE (T:=88) (us:=gV [(gQ.mk (gW.mk ai (gB.mk ak al am)) (c:Int) [])]) ?_;obtain⟨g9,h⟩:=mY h;refine pW (T:=88) g9 ?_;refine goY ?_;refine kQ ?_;refine goL ?_;refine gFd (jJ c (gHt aj)) ?_;refine goL ?_;obtain⟨au,a4,h⟩:=gM h;refine gFd (gF (gPf _ _ a4)) ?_;refine goL ?_;refine noB ?_;refine gB0 7 (fun bh=>?_);refine kS (fun(f:Nat)(ac:List gQ)(ah:Nat)=>⟨[(1,.L 4 (kY a1)),(2,.ptr 0 0),(5,.sl 1 ah),(6,.N c),(7,.L 1 (jL au)),(8,.N f)],[bPr ae,.arr 121 6 ah (gV ac),.arr 121 6 0 (gV [(gQ.mk (gW.mk ai (gB.mk ak al am)) (c:Int) [])])],Tryz.f159.ntmps⟩) (fun f ac ah=>qC (gK.mk ae) c (gW.mk ai (gB.mk y aa ab)) (fun ac=>pQ (gK.mk ae) (a1.drop (c+1)) (c+1) ac) (au.drop f) ac=some r) (fun f ac ah=>au.length - f) 0 (y1++[(gQ.mk (gW.mk ai (gB.mk ak al am)) (c:Int) [])]) (v2+1) eJ h ?_;rintro f ac ah h;refine goL ?_;refine kX (fun av=>?_) (fun av=>?_)
  ·have ad:=uR av;obtain⟨a5,ar,aw⟩:=drop_at ad;rw [aw,qC.eq_2] at h;refine noS ?_;refine jY (jA ?_);refine goL ?_;refine gFd (jJ c (gHt aj)) ?_;refine goL ?_;refine gFd (jJ f (gQr ar)) ?_;refine goL ?_;obtain⟨⟨an,bb⟩,a6,h⟩:=gM h;refine gFd (gF (gJf _ _ _ a6)) ?_;refine gId ?_;refine uM (P:=Tryz.prog) Mix.h [(0,true),(1,true),(2,true),(3,true),(4,true),(5,true),(6,true),(7,true),(8,true),(9,true),(10,true),(11,true),(12,true),(13,true),(14,true),(15,false),(16,false),(17,true)] (by kernel_rfl) ?_;refine goY ?_;refine jF rfl (jJ f (gQr ar)) ?_;refine goY ?_;refine jF rfl (jJ c (gHt aj)) ?_;refine goY ?_;obtain⟨bc,h⟩:=mY h;obtain⟨⟨ao,ap,aq⟩,a7,h⟩:=qA h;have sx19:=(zT (gB.mk y aa ab) bc).p;rw [a7] at sx19;refine jF rfl (gF (sx19)) ?_;refine goY ?_;refine qE (T:=88) (us:=gV [(gQ.mk (gW.mk a5 (gB.mk ao ap aq)) (c:Int) an)]) ?_;obtain⟨bd,h⟩:=mY h;refine pW (T:=88) bd ?_;refine goY ?_;refine kQ ?_;refine goL ?_;refine jI (jW f (by omega)) ?_;exact⟨(f+1),(ac++[(gQ.mk (gW.mk a5 (gB.mk ao ap aq)) (c:Int) an)]),(ah+1),h,by omega,eJ⟩
  ·have ad:=uS av;rw [jC ad,qC.eq_1] at h;refine goX ?_;refine jI (jW c (by omega)) ?_;exact⟨(c+1),ac,ah,h,by omega,eJ⟩
 ·have ag:=uS c5;rw [jC ag,pQ.eq_1] at h;refine goX ?_;refine kP 1 rfl rfl ?_;refine jG ?_;cases h;exact qD
end Go.Proofs.YtegahmhnmjnhhaaGreat
