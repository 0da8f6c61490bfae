import Derived.Test.YtegahmhnmjnhhaaGreatVr
set_option maxHeartbeats 4000000
set_option linter.unusedVariables false
set_option linter.unusedSimpArgs false
set_option linter.unusedSectionVars false
namespace Go.Proofs.YtegahmhnmjnhhaaGreat
open Go Go.Eng
attribute [local irreducible] V VO VQ VY Quiet QR jC kT Rng mU mV mI
def gB2(c:kJ→kJ→Option (Bool))(a1:kJ):List gOv→Nat→Option (Bool)
 | [],f=>(some true)
 | h::xs,f=>bnd (bnd (at? a1.arms (f:Int)) fun y=>
(cnd (!(h.constructor==y.constructor)) ((some true)) (bnd (gPo h.vars y.vars) fun aa=>
(cnd (!aa) ((some true)) (bnd (c h.body y.body) fun ab=>
(some (!ab))))))) fun ac=>
(cnd ac (
(some false)) (
gB2 c a1 xs (f+1)))
def gB3(c:kJ→kJ→Option (Bool))(a0:kJ)(a1:kJ):List kJ→Nat→Option (Bool)
 | [],f=>gB2 c a1 a0.arms 0
 | h::xs,f=>bnd (at? a1.args (f:Int)) fun y=>
bnd (c h y) fun aa=>
(cnd (!aa) (
(some false)) (
gB3 c a0 a1 xs (f+1)))
def gLa(c:kJ→kJ→Option (Bool))(f:kJ)(a1:kJ):Option (Bool):=
lt_ ((cnd (f.kind != a1.kind) (true) ((cnd (!(f.trait==a1.trait)) (true) ((cnd (!(f.name==a1.name)) (true) ((cnd (f.n != a1.n) (true) ((cnd (!(teq f.type_ a1.type_)) (true) ((cnd ((f.args.length:Int) !=(a1.args.length:Int)) (true) (((f.arms.length:Int) !=(a1.arms.length:Int))))))))))))))) fun h=>
(cnd h (
(some false)) (
gB3 c f a1 f.args 0))
theorem gXa{c:kJ→kJ→Option (Bool)}(f:∀(x0:kJ) (x1:kJ) {r:Bool},c x0 x1=some r→jC Tryz.prog 241 [.d (gCx x0),.d (gCx x1)] [.b r])(a0:kJ)(a1:kJ){r:Bool}(h:gLa c a0 a1=some r):jC Tryz.prog 241 [.d (gCx a0),.d (gCx a1)] [.b r]:=by
 obtain⟨aq,ar,au,av,⟨ac,ad,ae⟩,ah,ai⟩:=a0;obtain⟨aj,ak,al,am,⟨y,aa,ab⟩,an,ao⟩:=a1;unfold gLa at h;refine SpI Tryz.func241 fun A _=>?_;refine goL ?_;obtain⟨b1,hb1,h⟩:=qB h;refine jT ⟨[(2,.ptr 0 0),(3,.ptr 1 0),(58,.B b1)],[bEx aq ar au av ac ad ae ah ai,bEx aj ak al am y aa ab an ao],Tryz.f241.ntmps⟩ ?_ ?_
 ·refine gqO 12 hb1 (fun c2 hb1=>?_);refine gqO 19 hb1 (fun c3 hb1=>?_);refine gqO 26 hb1 (fun c4 hb1=>?_);refine gqO 33 hb1 (fun c5 hb1=>?_);refine jL (gF (gF0 (gB.mk ac ad ae) (gB.mk y aa ab))) ?_;refine gqO 41 hb1 (fun c6 hb1=>?_);exact gqZ 50 hb1
 refine goC h ?_ ?_<;>intro c8 h
 ·exact goR h
 ·refine goS ?_;refine noB ?_;refine wN 0 7 (fun cv=>?_);refine mQ (fun(y9:Nat)=>⟨[(2,.ptr 0 0),(3,.ptr 1 0),(5,.N y9)],[bEx aq ar au av ac ad ae ah ai,bEx aj ak al am y aa ab an ao],Tryz.f241.ntmps⟩) (fun y9=>gB3 c (kJ.mk aq ar au av (gB.mk ac ad ae) ah ai) (kJ.mk aj ak al am (gB.mk y aa ab) an ao) (ah.drop y9) y9=some r) (fun y9=>ah.length - y9) 0 eJ h ?_;rintro y9 h;refine goL ?_;refine kX (fun a5=>?_) (fun a5=>?_)
  ·have aw:=uR a5;obtain⟨b7,bh,a6⟩:=drop_at aw;rw [a6,gB3.eq_2] at h;obtain⟨b8,b9,ca,cb,⟨bi,bj,bk⟩,cc,cd⟩:=b7;refine noS ?_;refine jW (jE ?_);refine goL ?_;refine gE7 (jM y9 (gZ3 bh)) ?_;refine goL ?_;obtain⟨ce,a4,h⟩:=gP h;rw [yZ] at a4;obtain⟨cf,cg,ch,ci,⟨bl,bm,bn⟩,cj,ck⟩:=ce;refine gE7 (jM y9 (gZ3 a4)) ?_;refine goL ?_;obtain⟨cw,bo,h⟩:=gP h;refine gE7 (gF (f _ _ bo)) ?_;refine goC h ?_ ?_<;>intro cx h
   ·exact goR h
   ·refine goS ?_;refine jL (jR y9 (by omega)) ?_;exact⟨(y9+1),h,by omega,eJ⟩
  ·have aw:=uS a5;rw [jF aw,gB3.eq_1] at h;refine goX ?_;refine noB ?_;refine wN 0 8 (fun cy=>?_);refine mQ (fun(ag:Nat)=>⟨[(2,.ptr 0 0),(3,.ptr 1 0),(6,.N ag)],[bEx aq ar au av ac ad ae ah ai,bEx aj ak al am y aa ab an ao],Tryz.f241.ntmps⟩) (fun ag=>gB2 c (kJ.mk aj ak al am (gB.mk y aa ab) an ao) (ai.drop ag) ag=some r) (fun ag=>ai.length - ag) 0 eJ h ?_;rintro ag h;refine goL ?_;refine kX (fun a7=>?_) (fun a7=>?_)
   ·have ap:=uR a7;obtain⟨cl,a3,a8⟩:=drop_at ap;rw [a8,gB2.eq_2] at h;obtain⟨cm,cn,⟨bp,bq,br,bt,⟨a9,ba,bb⟩,bu,bv⟩⟩:=cl;refine noS ?_;refine jW (jE ?_);obtain⟨co,hb20,h⟩:=gP h;refine uJ (P:=Tryz.prog) Mix.h ⟨[(2,.ptr 0 0),(3,.ptr 1 0),(6,.N ag),(129,.B co)],[bEx aq ar au av ac ad ae ah ai,bEx aj ak al am y aa ab an ao],Tryz.f241.ntmps⟩ (by kernel_rfl) ?_ ?_
    ·refine goL ?_;refine gE7 (jM ag (hH4 a3)) ?_;refine goL ?_;obtain⟨cp,ax,hb20⟩:=gP hb20;rw [yZ] at ax;obtain⟨cq,cr,⟨bw,bx,bz,b0,⟨bc,bd,be⟩,b2,b3⟩⟩:=cp;refine gE7 (jM ag (hH4 ax)) ?_;refine goL ?_;refine yQ 98 (fun bf=>?_) (fun bf=>?_)
     ·replace hb20:=kD bf hb20;refine goL ?_;cases hb20;exact eJ
     ·replace hb20:=kE bf hb20;refine goL ?_;refine gDf (jM ag (hH4 a3)) ?_;refine goL ?_;refine gDf (jM ag (hH4 ax)) ?_;refine goL ?_;obtain⟨cz,b4,hb20⟩:=gP hb20;refine gDf (gF (hFb _ _ b4)) ?_;refine goL ?_;refine yQ 114 (fun bg=>?_) (fun bg=>?_)
      ·replace hb20:=kD bg hb20;refine goL ?_;cases hb20;exact eJ
      ·replace hb20:=kE bg hb20;refine goL ?_;refine gDf (jM ag (hH4 a3)) ?_;refine goL ?_;refine gDf (jM ag (hH4 ax)) ?_;refine goL ?_;obtain⟨c0,b5,hb20⟩:=gP hb20;refine gDf (gF (f _ _ b5)) ?_;refine goL ?_;cases hb20;exact eJ
    refine goC h ?_ ?_<;>intro c1 h
    ·exact goR h
    ·refine goS ?_;refine jL (jR ag (by omega)) ?_;exact⟨(ag+1),h,by omega,eJ⟩
   ·have ap:=uS a7;rw [jF ap,gB2.eq_1] at h;refine goX ?_;refine jK ?_;cases h;exact qA
def gLb:Nat→kJ→kJ→Option (Bool)
 | 0,_,_=>none
 | n+1,c,f=>gLa (gLb n) c f
theorem gXb:∀(n:Nat) (c:kJ) (f:kJ) {r:Bool},gLb n c f=some r→jC Tryz.prog 241 [.d (gCx c),.d (gCx f)] [.b r]:=by
 intro n
 induction n with
 | zero=>intro c f r h;cases h
 | succ n ih=>intro c f r h;exact gXa ih c f h
def gFj:List (List UInt8)→(List gD)→Option (List gD)
 | [],c=>(some c)
 | h::xs,c=>lt_ (mG h) fun f=>
gd (c.length+[f].length≤4294967296) (
gFj xs (c++[f]))
def gNz(c:List (List UInt8)):Option (List gD):=
gFj c []
theorem gXc(a0:List (List UInt8)){r:List gD}(h:gNz a0=some r):jC Tryz.prog 228 [.L 1 (jP a0)] [.sl 2 (jA r)]:=by
 unfold gNz at h;refine SpI Tryz.func228 fun A _=>?_;refine goL ?_;refine gAl ?_;refine goL ?_;refine noB ?_;refine gBx 0 (fun z4=>?_);refine kS (fun(f:Nat) (y1:List gD) (v2:Nat)=>⟨[(0,.L 1 (jP a0)),(3,.sl 0 v2),(4,.N f)],[.arr 135 2 v2 (jA y1)],Tryz.f228.ntmps⟩) (fun f y1 v2=>gFj (a0.drop f) y1=some r) (fun f y1 v2=>a0.length - f) 0 [] 0 eJ h ?_;rintro f y1 v2 h;refine goL ?_;refine kX (fun c5=>?_) (fun c5=>?_)
 ·have c:=uR c5;obtain⟨x6,ah,ae⟩:=drop_at c;rw [ae,gFj.eq_2] at h;refine noS ?_;refine jW (jE ?_);refine goL ?_;refine jL (jM f (gQq ah)) ?_;obtain⟨⟨y,aa⟩,ai,h⟩:=qB h;have sx7:=mM x6;rw [ai] at sx7;refine qI (gF (sx7)) ?_;refine gAk (u:=(.st [.s y,.sl 2 (jA aa)])) ?_;obtain⟨g8,h⟩:=mW h;refine gBd g8 ?_;refine goL ?_;refine jL (jR f (by omega)) ?_;exact⟨(f+1),(y1++[(gD.mk y aa)]),(v2+1),h,by omega,eJ⟩
 ·have c:=uS c5;rw [jF c,gFj.eq_1] at h;refine goX ?_;refine kN 0 rfl rfl ?_;refine jK ?_;cases h;exact qA
def gLc(c:gB→Option (gD)):List gB→(List gD)→Option (gD)
 | [],f=>(some (gD.mk [] f))
 | y::xs,f=>bnd (c y) fun h=>
gd (f.length+[h].length≤4294967296) (
gLc c xs (f++[h]))
def gLd(c:gB→Option (gD)):List gB→(List gD)→Option (gD)
 | [],f=>(some (gD.mk [] f))
 | y::xs,f=>bnd (c y) fun h=>
gd (f.length+[h].length≤4294967296) (
gLd c xs (f++[h]))
def hGj(c:gB→Option (gD))(f:gB):Option (gD):=
(cnd (f.kind==1) (
gd (([39]:List UInt8).length+f.name.length≤4294967296) (
lt_ (mG (([39]:List UInt8)++f.name)) fun x3=>
(some x3))) (
(cnd (f.kind==4) (
lt_ (mG [100,121,110]) fun x5=>
lt_ (mG f.name) fun x6=>
bnd (gIe [x5,x6]) fun x7=>
(some x7)) (
lt_ ((cnd (f.kind==2) (((f.args.length:Int)==0)) (false))) fun b8=>
(cnd b8 (
lt_ (mG f.name) fun ab=>
(some ab)) (
(cnd (f.kind==3) (
lt_ (mG [97,115,115,111,99]) fun h=>
gd (([]:List gD).length+[h].length≤4294967296) (
lt_ (mG f.name) fun y=>
gd (([]++[h]).length+[y].length≤4294967296) (
gLc c f.args (([]++[h])++[y])))) (
lt_ (mG f.name) fun aa=>
gd (([]:List gD).length+[aa].length≤4294967296) (
gLd c f.args ([]++[aa]))))))))))
theorem hTp{c:gB→Option (gD)}(y:∀(x0:gB) {r:gD},c x0=some r→jC Tryz.prog 208 [.d (jS x0)] [pF r])(a0:gB){r:gD}(h:hGj c a0=some r):jC Tryz.prog 208 [.d (jS a0)] [pF r]:=by
 obtain⟨aq,f,aa⟩:=a0;unfold hGj at h;refine SpI Tryz.func208 fun A _=>?_;refine goL ?_;refine jW (jE ?_);refine goC h ?_ ?_<;>intro c1 h
 ·refine goL ?_;obtain⟨g2,h⟩:=mW h;refine qI (wO g2) ?_;obtain⟨⟨b6,b7⟩,bp,h⟩:=qB h;have sx3:=mM (([39]:List UInt8)++f);rw [bp] at sx3;refine qI (gF (sx3)) ?_;exact goR h
 ·refine goC h ?_ ?_<;>intro c4 h
  ·refine jO (P:=Tryz.prog) Mix.h [(1,true),(2,true),(0,false),(3,false),(4,false),(5,false),(6,false)] (by kernel_rfl) ?_;refine goY ?_;obtain⟨⟨ax,ay⟩,bq,h⟩:=qB h;have sx5:=mM [100,121,110];rw [bq] at sx5;refine pW (sx5) ?_;obtain⟨⟨a3,a4⟩,br,h⟩:=qB h;have sx6:=mM f;rw [br] at sx6;refine pW (sx6) ?_;refine qE (T:=133) (us:=jA [(gD.mk ax ay),(gD.mk a3 a4)]) ?_;refine gBe 2 rfl rfl ?_;obtain⟨⟨b9,ca⟩,bt,h⟩:=gP h;refine pW (gMd [(gD.mk ax ay),(gD.mk a3 a4)] bt) ?_;refine goY ?_;refine kQ ?_;exact goR h
  ·refine goL ?_;obtain⟨b8,hb8,h⟩:=qB h;refine jT ⟨[(1,.ptr 0 0),(2,.ptr 1 0),(23,.B b8)],[bTy aq f aa,.box [.S [],.nilsl]],Tryz.f208.ntmps⟩ ?_ ?_
   ·refine pX 27 (fun c9=>?_) (fun c9=>?_) (by first | rfl | (simp only [jG,gV];rfl))
    ·replace hb8:=kD c9 hb8;refine goL ?_;cases hb8;exact⟨rfl,⟨⟨rfl,rfl⟩,⟨rfl,rfl⟩,⟨by first | rfl | (simp only [jG,gV];rfl),rfl⟩,trivial⟩,⟨_,rfl⟩,rfl⟩
    ·replace hb8:=kE c9 hb8;refine goL ?_;cases hb8;exact⟨rfl,⟨⟨rfl,rfl⟩,⟨rfl,rfl⟩,⟨by first | rfl | (simp only [jG,gV];rfl),rfl⟩,trivial⟩,⟨_,rfl⟩,rfl⟩
   refine goC h ?_ ?_<;>intro cd h
   ·refine goL ?_;obtain⟨⟨bv,bw⟩,bg,h⟩:=qB h;have sx11:=mM f;rw [bg] at sx11;refine qI (gF (sx11)) ?_;exact goR h
   ·refine goS ?_;refine gBn (jU TBd.h TZ.h rfl (by repeat constructor)) ?_;refine kX (fun a5=>?_) (fun a5=>?_)
    ·replace h:=kD a5 h;refine wT 135 2 2 1 rfl rfl (by repeat constructor) (by repeat constructor) (by repeat constructor) (by repeat constructor) ?_;refine uF (P:=Tryz.prog) Mix.h [(0,true),(1,true),(2,false),(3,false),(4,false),(5,true),(6,false)] (by kernel_rfl) ?_;refine goY ?_;obtain⟨⟨ag,ah⟩,bh,h⟩:=qB h;have sx13:=mM [97,115,115,111,99];rw [bh] at sx13;refine pW (sx13) ?_;refine qE (T:=133) (us:=jA [(gD.mk ag ah)]) ?_;obtain⟨bx,h⟩:=mW h;refine pV (T:=133) bx ?_;refine goY ?_;refine kQ ?_;refine gH2 ?_;refine jO (P:=Tryz.prog) Mix.h [(0,true),(1,true),(2,true),(3,true),(4,false),(5,false),(6,false),(7,true),(8,false)] (by kernel_rfl) ?_;refine goY ?_;obtain⟨⟨ai,aj⟩,bi,h⟩:=qB h;have sx15:=mM f;rw [bi] at sx15;refine pW (sx15) ?_;refine qE (T:=133) (us:=jA [(gD.mk ai aj)]) ?_;obtain⟨bz,h⟩:=mW h;refine pV (T:=133) bz ?_;refine goY ?_;refine kQ ?_;refine goL ?_;refine noB ?_;refine wN 0 2 (fun ce=>?_);refine kS (fun(ab:Nat) (am:List gD) (an:Nat)=>⟨[(1,.ptr 0 0),(2,.ptr 1 0),(3,.ptr 2 0),(4,.N ab)],[bTy aq f aa,.box [.S [],.nilsl],.box [.S [],.sl 3 an],.arr 135 2 an (jA am),.arr 135 2 0 (jA [(gD.mk ag ah)]),.arr 135 2 0 (jA [(gD.mk ai aj)])],Tryz.f208.ntmps⟩) (fun ab am an=>gLc c (aa.drop ab) am=some r) (fun ab am an=>aa.length - ab) 0 (([]++[(gD.mk ag ah)])++[(gD.mk ai aj)]) ((0+1)+1) eJ h ?_;rintro ab am an h;refine goL ?_;refine kX (fun a6=>?_) (fun a6=>?_)
     ·have ac:=uR a6;obtain⟨b0,bj,a7⟩:=drop_at ac;rw [a7,gLc.eq_2] at h;obtain⟨a8,a9,ba⟩:=b0;refine noS ?_;refine jW (jE ?_);refine uF (P:=Tryz.prog) Mix.h [(0,true),(1,true),(2,true),(3,true),(4,true),(5,true),(6,true),(7,false),(8,false),(9,false),(10,true),(11,false)] (by kernel_rfl) ?_;refine goY ?_;refine jI rfl (jM ab (zL bj)) ?_;refine goY ?_;obtain⟨⟨ar,au⟩,bk,h⟩:=gP h;refine pW (y (gB.mk a8 a9 ba) bk) ?_;refine qE (T:=133) (us:=jA [(gD.mk ar au)]) ?_;obtain⟨b1,h⟩:=mW h;refine pV (T:=133) b1 ?_;refine goY ?_;refine kQ ?_;refine goL ?_;refine jL (jR ab (by omega)) ?_;exact⟨(ab+1),(am++[(gD.mk ar au)]),(an+1),h,by omega,eJ⟩
     ·have ac:=uS a6;rw [jF ac,gLc.eq_1] at h;refine goX ?_;refine kN 3 rfl rfl ?_;refine jK ?_;cases h;exact qA
    ·replace h:=kE a5 h;refine noS ?_;refine wT 135 2 2 1 rfl rfl (by repeat constructor) (by repeat constructor) (by repeat constructor) (by repeat constructor) ?_;refine jO (P:=Tryz.prog) Mix.h [(0,true),(1,true),(2,true),(3,true),(4,false),(5,false),(6,false),(7,true),(8,false)] (by kernel_rfl) ?_;refine goY ?_;obtain⟨⟨ak,al⟩,bl,h⟩:=qB h;have sx25:=mM f;rw [bl] at sx25;refine pW (sx25) ?_;refine qE (T:=133) (us:=jA [(gD.mk ak al)]) ?_;obtain⟨b2,h⟩:=mW h;refine pV (T:=133) b2 ?_;refine goY ?_;refine kQ ?_;refine goL ?_;refine noB ?_;refine wN 0 2 (fun cf=>?_);refine kS (fun(ad:Nat) (ao:List gD) (ap:Nat)=>⟨[(1,.ptr 0 0),(2,.ptr 1 0),(3,.ptr 2 0),(4,.N ad)],[bTy aq f aa,.box [.S [],.nilsl],.box [.S [],.sl 3 ap],.arr 135 2 ap (jA ao),.arr 135 2 0 (jA [(gD.mk ak al)])],Tryz.f208.ntmps⟩) (fun ad ao ap=>gLd c (aa.drop ad) ao=some r) (fun ad ao ap=>aa.length - ad) 0 ([]++[(gD.mk ak al)]) (0+1) eJ h ?_;rintro ad ao ap h;refine goL ?_;refine kX (fun bb=>?_) (fun bb=>?_)
     ·have ae:=uR bb;obtain⟨b3,bm,bc⟩:=drop_at ae;rw [bc,gLd.eq_2] at h;obtain⟨bd,be,bf⟩:=b3;refine noS ?_;refine jW (jE ?_);refine uF (P:=Tryz.prog) Mix.h [(0,true),(1,true),(2,true),(3,true),(4,true),(5,true),(6,true),(7,false),(8,false),(9,false),(10,true),(11,false)] (by kernel_rfl) ?_;refine goY ?_;refine jI rfl (jM ad (zL bm)) ?_;refine goY ?_;obtain⟨⟨av,aw⟩,bn,h⟩:=gP h;refine pW (y (gB.mk bd be bf) bn) ?_;refine qE (T:=133) (us:=jA [(gD.mk av aw)]) ?_;obtain⟨b4,h⟩:=mW h;refine pV (T:=133) b4 ?_;refine goY ?_;refine kQ ?_;refine goL ?_;refine jL (jR ad (by omega)) ?_;exact⟨(ad+1),(ao++[(gD.mk av aw)]),(ap+1),h,by omega,eJ⟩
     ·have ae:=uS bb;rw [jF ae,gLd.eq_1] at h;refine goX ?_;refine kN 3 rfl rfl ?_;refine jK ?_;cases h;exact qA
def gMt:Nat→gB→Option (gD)
 | 0,_=>none
 | n+1,c=>hGj (gMt n) c
theorem gKo:∀(n:Nat) (c:gB) {r:gD},gMt n c=some r→jC Tryz.prog 208 [.d (jS c)] [pF r]:=by
 intro n
 induction n with
 | zero=>intro c r h;cases h
 | succ n ih=>intro c r h;exact hTp ih c h
@[reducible] def wH:List UInt8:=List.append [40,112,97,99,107,97,103,101,32,99,111,114,101,32,40,41,32,40,116,114,97,105,116,32,115,104,111,119,32,40,41,32,40,41,32,40,109,32,40,41,32,105,110,116,41,32,40,116,119,111,32,40,39,115,101] [108,102,41,32,105,110,116,32,40,120,32,121,41,32,40,43,32,40,109,101,116,104,111,100,32,115,104,111,119,32,109,32,120,41,32,40,109,101,116,104,111,100,32,115,104,111,119,32,109,32,121,41,41,41,41]
@[reducible] def wI:List UInt8:=List.append (List.append [32,40,116,114,97,105,116,32,101,113,32,40,41,32,40,41,32,40,115,97,109,101,32,40,39,115,101,108,102,41,32,98,111,111,108,41,41,32,40] [116,114,97,105,116,32,111,114,100,32,40,101,113,41,32,40,41,32,40,108,101,115,115,32,40,39,115,101,108,102,41,32,98,111,111,108,41,41,32]) (List.append [40,116,114,97,105,116,32,97,100,100,32,40,41,32,40,97,115,115,111,99,41,32,40,112,108,117,115,32,40,39,115,101,108,102,41,32,40,97,115] [115,111,99,32,97,100,100,32,39,115,101,108,102,41,41,41,32,40,116,114,97,105,116,32,115,101,110,100,32,40,41,32,40,97,117,116,111,41,41])
@[reducible] def yO:List UInt8:=List.append [32,40,100,97,116,97,32,108,105,115,116,32,40,97,41,32,40,110,105,108,41,32,40,99,111,110,115,32,39,97,32,40,108,105,115,116,32,39,97,41,41,41,32,40,100,97,116,97,32,112,97,105,114,32,40,97,32,98,41] [32,40,112,97,105,114,32,39,97,32,39,98,41,41,32,40,100,97,116,97,32,98,111,120,32,40,97,41,32,40,98,111,120,32,39,97,41,41,32,40,100,97,116,97,32,117,110,105,116,32,40,41,32,40,117,110,105,116,41,41]
@[reducible] def zS:List UInt8:=List.append [32,40,105,110,115,116,32,115,104,111,119,32,40,41,32,105,110,116,32,40,41,32,40,41,32,40,41,32,40,109,32,40,120,41,32,120,41,41,32,40,105,110,115] [116,32,115,104,111,119,32,40,41,32,98,111,111,108,32,40,41,32,40,41,32,40,41,32,40,109,32,40,120,41,32,40,105,102,32,120,32,49,32,48,41,41,41]
@[reducible] def gDc:List UInt8:=List.append [32,40,105,110,115,116,32,115,104,111,119,32,40,97,41,32,40,108,105,115,116,32,39,97,41,32,40,40,115,104,111,119,32,39,97,41,41,32,40,41,32,40,41,32,40,109,32,40,120,41,32,40,99,97,115,101,32,120,32,40] [110,105,108,32,48,41,32,40,99,111,110,115,32,104,32,116,32,40,43,32,40,109,101,116,104,111,100,32,115,104,111,119,32,109,32,104,41,32,40,109,101,116,104,111,100,32,115,104,111,119,32,109,32,116,41,41,41,41,41,41]
@[reducible] def gDd:List UInt8:=List.append (List.append [32,40,105,110,115,116,32,115,104,111,119,32,40,97,41,32,40,108,105,115,116,32,39,97,41,32,40,41,32,40,100,101,102,97,117,108] [116,41,32,40,41,32,40,109,32,40,120,41,32,55,41,41,32,40,105,110,115,116,32,115,104,111,119,32,40,41,32,40,108,105,115,116,32]) (List.append [105,110,116,41,32,40,41,32,40,41,32,40,41,32,40,109,32,40,120,41,32,40,99,97,115,101,32,120,32,40,110,105,108,32,48,41,32] [40,99,111,110,115,32,104,32,116,32,40,43,32,104,32,40,109,101,116,104,111,100,32,115,104,111,119,32,109,32,116,41,41,41,41,41,41])
@[reducible] def uU:List UInt8:=List.append [32,40,105,110,115,116,32,115,104,111,119,32,40,97,32,98,41,32,40,112,97,105,114,32,39,97,32,39,98,41,32,40,40,115,104,111,119,32,39,97,41,32,40,115,104,111,119,32,39,98,41,41,32,40,41,32,40,41,32,40,109,32,40] [120,41,32,40,99,97,115,101,32,120,32,40,112,97,105,114,32,121,32,122,32,40,45,32,40,109,101,116,104,111,100,32,115,104,111,119,32,109,32,121,41,32,40,109,101,116,104,111,100,32,115,104,111,119,32,109,32,122,41,41,41,41,41,41]
@[reducible] def vG:List UInt8:=List.append [32,40,105,110,115,116,32,101,113,32,40,41,32,105,110,116,32,40,41,32,40,41,32,40,41,32,40,115,97,109,101,32,40,120,32,121,41,32,40,61,32,120,32,121,41,41,41] [32,40,105,110,115,116,32,111,114,100,32,40,41,32,105,110,116,32,40,41,32,40,41,32,40,41,32,40,108,101,115,115,32,40,120,32,121,41,32,40,60,32,120,32,121,41,41,41]
@[reducible] def wJ:List UInt8:=List.append [32,40,105,110,115,116,32,101,113,32,40,97,41,32,40,98,111,120,32,39,97,41,32,40,40,101,113,32,39,97,41,41,32,40,41,32,40,41,32,40,115,97,109,101,32,40,120,32,121,41,32,40,99] [97,115,101,32,120,32,40,98,111,120,32,112,32,40,99,97,115,101,32,121,32,40,98,111,120,32,113,32,40,109,101,116,104,111,100,32,101,113,32,115,97,109,101,32,112,32,113,41,41,41,41,41,41,41]
@[reducible] def vU:List UInt8:=[32,40,105,110,115,116,32,97,100,100,32,40,41,32,105,110,116,32,40,41,32,40,41,32,40,105,110,116,41,32,40,112,108,117,115,32,40,120,32,121,41,32,40,43,32,120,32,121,41,41,41]
@[reducible] def wW:List UInt8:=List.append (List.append [32,40,105,110,115,116,32,97,100,100,32,40,97,41,32,40,98,111,120,32,39,97,41,32,40,40,97,100,100,32,39,97,41,41,32] [40,41,32,40,40,98,111,120,32,40,97,115,115,111,99,32,97,100,100,32,39,97,41,41,41,32,40,112,108,117,115,32,40,120,32]) (List.append [121,41,32,40,99,97,115,101,32,120,32,40,98,111,120,32,112,32,40,99,97,115,101,32,121,32,40,98,111,120,32,113,32,40,110] [101,119,32,98,111,120,32,40,109,101,116,104,111,100,32,97,100,100,32,112,108,117,115,32,112,32,113,41,41,41,41,41,41,41,41])
@[reducible] def zI:List UInt8:=List.append [32,40,102,110,32,105,100,32,40,97,41,32,40,41,32,40,40,120,32,39,97,41,41,32,39,97,32,120,41,32,40,102,110,32,98,111,116,104,32,40,97,41,32,40,40] [115,104,111,119,32,39,97,41,41,32,40,40,120,32,39,97,41,41,32,105,110,116,32,40,109,101,116,104,111,100,32,115,104,111,119,32,116,119,111,32,120,32,120,41,41]
def gLe(c:jH):Option (List UInt8 × jH):=
gd (wH.length+wI.length≤4294967296) (
gd ((wH++wI).length+yO.length≤4294967296) (
gd (((wH++wI)++yO).length+zS.length≤4294967296) (
bnd (gC8 c 2) fun h=>
bnd ((cnd h.1 (
gd ((((wH++wI)++yO)++zS).length+gDc.length≤4294967296) (
(some ((((wH++wI)++yO)++zS)++gDc)))) (
gd ((((wH++wI)++yO)++zS).length+gDd.length≤4294967296) (
(some ((((wH++wI)++yO)++zS)++gDd)))))) fun f=>
gd (f.length+uU.length≤4294967296) (
gd ((f++uU).length+vG.length≤4294967296) (
gd (((f++uU)++vG).length+wJ.length≤4294967296) (
gd ((((f++uU)++vG)++wJ).length+vU.length≤4294967296) (
gd (((((f++uU)++vG)++wJ)++vU).length+wW.length≤4294967296) (
gd ((((((f++uU)++vG)++wJ)++vU)++wW).length+zI.length≤4294967296) (
gd (((((((f++uU)++vG)++wJ)++vU)++wW)++zI).length+([41]:List UInt8).length≤4294967296) (
(some ((((((((f++uU)++vG)++wJ)++vU)++wW)++zI)++([41]:List UInt8)),h.2))))))))))))
set_option maxRecDepth 100000 in
theorem hGk(c:jH){r:List UInt8 × jH}(h:gLe c=some r):Go.Eng.Spec Tryz.prog 73 [.ptr 0 0] [bCu c.b c.i c.h] (fun sv Lo=>sv=.S r.1∧Lo=[bCu r.2.b r.2.i r.2.h]):=by
 obtain⟨ab,ac,ad⟩:=c;unfold gLe at h;refine kM 1 Tryz.func73 rfl (by kernel_rfl) rfl rfl fun A _=>?_;refine goL ?_;obtain⟨g1,h⟩:=mW h;refine jL (wO g1) ?_;obtain⟨g2,h⟩:=mW h;refine jL (wO g2) ?_;obtain⟨g3,h⟩:=mW h;refine jL (wO g3) ?_;obtain⟨⟨an,⟨f,y,aa⟩⟩,ae,h⟩:=gP h;refine gAr 0 (gIw (jH.mk ab ac ad) 2 ae) ?_;refine goL ?_;obtain⟨b5,hb5,h⟩:=gP h;refine gEf ⟨[(3,.S b5)],[bCu f y aa],Tryz.f73.ntmps⟩ ?_ ?_
 ·refine kX (fun c6=>?_) (fun c6=>?_)
  ·replace hb5:=kD c6 hb5;refine goL ?_;obtain⟨g7,hb5⟩:=mW hb5;refine jL (wO g7) ?_;cases hb5;exact eJ
  ·replace hb5:=kE c6 hb5;refine goL ?_;obtain⟨g8,hb5⟩:=mW hb5;refine jL (wO g8) ?_;cases hb5;exact eJ
 refine goL ?_;obtain⟨g9,h⟩:=mW h;refine jL (wO g9) ?_;obtain⟨ah,h⟩:=mW h;refine jL (wO ah) ?_;obtain⟨ai,h⟩:=mW h;refine jL (wO ai) ?_;obtain⟨aj,h⟩:=mW h;refine jL (wO aj) ?_;obtain⟨ak,h⟩:=mW h;refine jL (wO ak) ?_;obtain⟨al,h⟩:=mW h;refine jL (wO al) ?_;obtain⟨am,h⟩:=mW h;refine jL (wO am) ?_;refine jK ?_;obtain rfl:=Option.some.inj h;exact zB [.d (.s (((((((b5++uU)++vG)++wJ)++vU)++wW)++zI)++([41]:List UInt8)))] [bCu f y aa] ⟨rfl,rfl⟩
end Go.Proofs.YtegahmhnmjnhhaaGreat
