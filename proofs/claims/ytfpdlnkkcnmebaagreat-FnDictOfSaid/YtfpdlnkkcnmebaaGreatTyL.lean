import Derived.Test.YtfpdlnkkcnmebaaGreatB9
set_option maxHeartbeats 4000000
set_option linter.unusedVariables false
set_option linter.unusedSimpArgs false
set_option linter.unusedSectionVars false
namespace Go.Proofs.YtfpdlnkkcnmebaaGreat
open Go Go.Eng
attribute [local irreducible] V VO VQ VY Quiet QR jI mK Rng qE qA pX
def gZx(f:gK→LS→Int→Option (gB × gK))(c:gK)(a1:LS)(a2:Int):Option (gB × gK):=
bnd (kW c 8) fun h=>
lt_ ((cnd (decide (h.1 < 3)) ((decide ((a1.length:Int) > 0))) (false))) fun b2=>
(cnd b2 (
bnd (kW h.2 (a1.length:Int)) fun x5=>
bnd (at? a1 x5.1) fun x6=>
lt_ (vZ x6) fun x7=>
(some (x7,x5.2))) (
lt_ ((cnd (decide (h.1 < 5)) (true) ((decide (a2≤0))))) fun b8=>
(cnd b8 (
bnd (pK h.2 [[105,110,116],[98,111,111,108],[117,110,105,116]]) fun q=>
bnd (gBa q.1 []) fun ad=>
(some (ad,q.2))) (
(cnd (h.1==5) (
bnd (f h.2 a1 (IntKind.i64.wrap (a2 - 1))) fun y=>
bnd (f y.2 a1 (IntKind.i64.wrap (a2 - 1))) fun aa=>
bnd (gBa [112,97,105,114] [y.1,aa.1]) fun ae=>
(some (ae,aa.2))) (
bnd (pK h.2 [[108,105,115,116],[108,105,115,116],[98,111,120]]) fun ab=>
bnd (f ab.2 a1 (IntKind.i64.wrap (a2 - 1))) fun ac=>
bnd (gBa ab.1 [ac.1]) fun ag=>
(some (ag,ac.2))))))))
theorem hP8{ab:gK→LS→Int→Option (gB × gK)}(aa:∀(x0:gK)(x1:LS)(x2:Int){r:gB × gK},ab x0 x1 x2=some r→Go.Eng.Spec Tryz.prog 95 [.ptr 0 0,.L 1 (gT x1),.I x2] [bCu x0.b x0.i x0.h] (fun sv Lo=>sv=.d (mM r.1)∧Lo=[bCu r.2.b r.2.i r.2.h]))(c:gK)(a1:LS)(a2:Int){r:gB × gK}(h:gZx ab c a1 a2=some r):Go.Eng.Spec Tryz.prog 95 [.ptr 0 0,.L 1 (gT a1),.I a2] [bCu c.b c.i c.h] (fun sv Lo=>sv=.d (mM r.1)∧Lo=[bCu r.2.b r.2.i r.2.h]):=by
 obtain⟨b0,b1,b3⟩:=c;unfold gZx at h;refine kJ 1 Tryz.func95 rfl (by kernel_rfl) rfl rfl fun A _=>?_;refine goL ?_;obtain⟨⟨au,⟨f,q,y⟩⟩,b4,h⟩:=gJ h;refine mI 0 (mH (gK.mk b0 b1 b3) 8 b4) ?_;refine goL ?_;refine kI (jA ?_);refine goL ?_;obtain⟨b2,hb2,h⟩:=uK h;refine kH ⟨[(0,.ptr 0 0),(1,.L 1 (gT a1)),(2,.I a2),(6,.ptr 1 0),(7,.I au),(10,.B b2)],[bCu f q y,.box [.I 0,.S [],.nilsl]],Tryz.f95.ntmps⟩ ?_ ?_
 ·exact gqZ 13 hb2
 refine goC h ?_ ?_<;>intro c4 h
 ·refine goL ?_;obtain⟨⟨cb,⟨bw,bx,bz⟩⟩,b5,h⟩:=gJ h;refine mI 0 (mH (gK.mk f q y) (a1.length:Int) b5) ?_;obtain⟨x6,av,h⟩:=gJ h;obtain⟨a9,av⟩:=gBm av;refine jP (uL a9 (gO7 av)) ?_;obtain⟨⟨ba,bb,bc⟩,b6,h⟩:=uK h;have sx7:=gCl x6;rw [b6] at sx7;refine jP (gI (sx7)) ?_;refine jF ?_;obtain rfl:=Option.some.inj h;exact gAg [.d (.st [.i .i64 ba,.s bb,.sl 3 (gN bc)])] _ ⟨rfl,rfl⟩
 ·refine goL ?_;obtain⟨b8,hb8,h⟩:=uK h;refine kH ⟨[(0,.ptr 0 0),(1,.L 1 (gT a1)),(2,.I a2),(6,.ptr 1 0),(7,.I au),(26,.B b8)],[bCu f q y,.box [.I 0,.S [],.nilsl]],Tryz.f95.ntmps⟩ ?_ ?_
  ·exact gqZ 29 hb8
  refine goC h ?_ ?_<;>intro cf h
  ·refine goL ?_;refine yQ (us:=gT [[105,110,116],[98,111,111,108],[117,110,105,116]]) ?_;refine kS 2 rfl rfl ?_;obtain⟨⟨b7,⟨bd,be,bf⟩⟩,bg,h⟩:=gJ h;refine mI 0 (kZ (gK.mk f q y) [[105,110,116],[98,111,111,108],[117,110,105,116]] bg) ?_;obtain⟨⟨aw,ax,ay⟩,bh,h⟩:=gJ h;refine jP (gI (gDy _ _ bh)) ?_;refine jF ?_;obtain rfl:=Option.some.inj h;exact gAg [.d (.st [.i .i64 aw,.s ax,.sl 3 (gN ay)])] _ ⟨rfl,rfl⟩
  ·refine goC h ?_ ?_<;>intro cg h
   ·refine goL ?_;refine uN (pV) ?_;obtain⟨⟨⟨ac,ad,ae⟩,⟨am,an,ao⟩⟩,bi,h⟩:=gJ h;refine mI 0 (aa (gK.mk f q y) a1 (IntKind.i64.wrap (a2 - 1)) bi) ?_;refine goL ?_;refine uN (pV) ?_;obtain⟨⟨⟨ag,ah,ai⟩,⟨bj,bk,bl⟩⟩,bm,h⟩:=gJ h;refine mI 0 (aa (gK.mk am an ao) a1 (IntKind.i64.wrap (a2 - 1)) bm) ?_;refine yQ (us:=gN [(gB.mk ac ad ae),(gB.mk ag ah ai)]) ?_;refine kS 2 rfl rfl ?_;obtain⟨⟨a0,a3,a4⟩,bn,h⟩:=gJ h;refine yT (gRe (gDy [112,97,105,114] [(gB.mk ac ad ae),(gB.mk ag ah ai)] bn)) ?_;refine jF ?_;obtain rfl:=Option.some.inj h;exact gAg [.d (.st [.i .i64 a0,.s a3,.sl 3 (gN a4)])] _ ⟨rfl,rfl⟩
   ·refine goS ?_;refine yQ (us:=gT [[108,105,115,116],[108,105,115,116],[98,111,120]]) ?_;refine kS 2 rfl rfl ?_;obtain⟨⟨a5,⟨ap,aq,ar⟩⟩,bo,h⟩:=gJ h;refine mI 0 (kZ (gK.mk f q y) [[108,105,115,116],[108,105,115,116],[98,111,120]] bo) ?_;refine goL ?_;refine uN (pV) ?_;obtain⟨⟨⟨aj,ak,al⟩,⟨bp,bq,br⟩⟩,bt,h⟩:=gJ h;refine mI 0 (aa (gK.mk ap aq ar) a1 (IntKind.i64.wrap (a2 - 1)) bt) ?_;refine uO (u:=(.st [.i .i64 aj,.s ak,.sl 3 (gN al)])) ?_;refine kS 3 rfl rfl ?_;obtain⟨⟨a6,a7,a8⟩,bu,h⟩:=gJ h;refine yT (gRe (gDy a5 [(gB.mk aj ak al)] bu)) ?_;refine jF ?_;obtain rfl:=Option.some.inj h;exact gAg [.d (.st [.i .i64 a6,.s a7,.sl 3 (gN a8)])] _ ⟨rfl,rfl⟩
def gN9:Nat→gK→LS→Int→Option (gB × gK)
 | 0,_,_,_=>none
 | n+1,f,h,q=>gZx (gN9 n) f h q
theorem hGd:∀(n:Nat)(f:gK)(q:LS)(y:Int){r:gB × gK},gN9 n f q y=some r→Go.Eng.Spec Tryz.prog 95 [.ptr 0 0,.L 1 (gT q),.I y] [bCu f.b f.i f.h] (fun sv Lo=>sv=.d (mM r.1)∧Lo=[bCu r.2.b r.2.i r.2.h]):=by
 intro n
 induction n with
 | zero=>intro f q y r h;cases h
 | succ n ih=>intro f q y r h;exact hP8 ih f q y h
def zT(c:gK)(a1:Int):Option (gB × gK):=
bnd (gN9 5000 c [[97],[98]] a1) fun h=>
bnd (kW h.2 8) fun f=>
(cnd (f.1==0) (
bnd (pK f.2 [[97,100,100],[115,104,111,119]]) fun q=>
bnd (gMc q.1 h.1) fun y=>
(some (y,q.2))) (
(cnd (f.1==1) (
bnd (gMc [97,100,100] h.1) fun x7=>
bnd (gBa [108,105,115,116] [x7]) fun x8=>
(some (x8,f.2))) (
(cnd (f.1==2) (
(some ((gB.mk 4 [115,104,111,119] []),f.2))) (
(some (h.1,f.2))))))))
theorem zU(c:gK)(a1:Int){r:gB × gK}(h:zT c a1=some r):Go.Eng.Spec Tryz.prog 96 [.ptr 0 0,.I a1] [bCu c.b c.i c.h] (fun sv Lo=>sv=.d (mM r.1)∧Lo=[bCu r.2.b r.2.i r.2.h]):=by
 obtain⟨ay,a0,a3⟩:=c;unfold zT at h;refine kJ 1 Tryz.func96 rfl (by kernel_rfl) rfl rfl fun A _=>?_;refine goL ?_;refine yQ (us:=gT [[97],[98]]) ?_;refine goL ?_;refine kS 2 rfl rfl ?_;obtain⟨⟨⟨ab,ac,ad⟩,⟨ae,ag,ah⟩⟩,a4,h⟩:=gJ h;refine mI 0 (hGd 5000 (gK.mk ay a0 a3) [[97],[98]] a1 a4) ?_;refine goL ?_;obtain⟨⟨a8,⟨f,y,aa⟩⟩,a5,h⟩:=gJ h;refine mI 0 (mH (gK.mk ae ag ah) 8 a5) ?_;refine goL ?_;refine jA ?_;refine goC h ?_ ?_<;>intro c3 h
 ·obtain⟨⟨a9,⟨ai,aj,ak⟩⟩,ar,h⟩:=gJ h;obtain⟨⟨al,am,an⟩,au,h⟩:=gJ h;refine uC (P:=Tryz.prog) Mix.h (.q 0 (.h 1 (.h 2 (hcT 3 (.q 4 (hzT 5))) (hcT 3 (hcT 2 (.q 4 (hzT 5))))) (hcT 3 (hcT 1 (hcT 2 (.q 4 (hzT 5))))))) ⟨[(4,.ptr 1 0)],[bCu ai aj ak,bTy al am an,.frz 9 1 0 (gT [[97],[98]]),bTy ab ac ad,.frz 9 1 0 (gT [[97,100,100],[115,104,111,119]])],Tryz.f96.ntmps⟩ (by kernel_rfl) ?_ ?_
  ·refine goT ?_;refine uD (kT (T:=34) (us:=gT [[97,100,100],[115,104,111,119]]) gZ) ?_ ?_
   ·refine uD (qC 4 rfl rfl (qU 0 (kZ (gK.mk f y aa) [[97,100,100],[115,104,111,119]] ar) gZ)) ?_ ?_
    ·refine gQ (kF gZ) ?_;refine gGt (jW rfl (gI (gP0 _ _ au)) gZ) ?_;refine goT ?_;refine jL ?_;exact pQ 1 [0,1,2,3,4]
    refine gQ (kF gZ) ?_;refine gQ (qC 4 rfl rfl (qU 0 (kZ (gK.mk f y aa) [[97,100,100],[115,104,111,119]] ar) gZ)) ?_;refine gGt (jW rfl (gI (gP0 _ _ au)) gZ) ?_;refine goT ?_;refine jL ?_;exact pQ 1 [0,1,2,3,4]
   refine gQ (kF gZ) ?_;refine gQ (kT (T:=34) (us:=gT [[97,100,100],[115,104,111,119]]) gZ) ?_;refine gQ (qC 4 rfl rfl (qU 0 (kZ (gK.mk f y aa) [[97,100,100],[115,104,111,119]] ar) gZ)) ?_;refine gGt (jW rfl (gI (gP0 _ _ au)) gZ) ?_;refine goT ?_;refine jL ?_;exact pQ 1 [0,1,2,3,4]
  refine goL ?_;refine jF ?_;obtain rfl:=Option.some.inj h;exact gAg [.d (.st [.i .i64 al,.s am,.sl 3 (gN an)])] _ ⟨rfl,rfl⟩
 ·refine goC h ?_ ?_<;>intro c6 h
  ·refine goL ?_;obtain⟨⟨ao,ap,aq⟩,a6,h⟩:=gJ h;refine uN (gI (gP0 _ _ a6)) ?_;refine uO (u:=(.st [.i .i64 ao,.s ap,.sl 3 (gN aq)])) ?_;refine kS 4 rfl rfl ?_;obtain⟨⟨av,aw,ax⟩,a7,h⟩:=gJ h;refine yT (gRe (gDy [108,105,115,116] [(gB.mk ao ap aq)] a7)) ?_;refine jF ?_;obtain rfl:=Option.some.inj h;exact gAg [.d (.st [.i .i64 av,.s aw,.sl 3 (gN ax)])] _ ⟨rfl,rfl⟩
  ·refine goC h ?_ ?_<;>intro c9 h
   ·refine goL ?_;refine yT (jN TBd.h TZ.h rfl (by repeat constructor)) ?_;refine jF ?_;obtain rfl:=Option.some.inj h;exact gAg [.d (.st [.i .i64 4,.s [115,104,111,119],.sl 3 []])] _ ⟨rfl,rfl⟩
   ·refine goS ?_;refine jF ?_;obtain rfl:=Option.some.inj h;exact gAg [.d (.st [.i .i64 ab,.s ac,.sl 3 (gN ad)])] _ ⟨rfl,rfl⟩
def uY(f:gF):Option (Bool):=
bnd (gTl 5000 f 900) fun h=>
bnd ((cnd (decide (h≥0)) (bnd (gTv 5000 f) fun q=>
(cnd q (bnd (gJq 5000 f) fun y=>
(some (decide (y≤14)))) ((some false)))) ((some false)))) fun b2=>
(some b2)
theorem zQ(y:gF){r:Bool}(h:uY y=some r):jI Tryz.prog 175 [.d (qJ y)] [.b r]:=by
 obtain⟨f,q⟩:=y;unfold uY at h;refine SpI Tryz.func175 fun A _=>?_;refine goL ?_;obtain⟨x1,aa,h⟩:=gJ h;refine jP (gI (hGz _ _ _ aa)) ?_;obtain⟨b2,hb2,h⟩:=gJ h;refine kH ⟨[(2,.B b2)],[bSx f q],Tryz.f175.ntmps⟩ ?_ ?_
 ·refine gqA 6 hb2 (fun c3 hb2=>?_);obtain⟨x4,ab,hb2⟩:=gJ hb2;refine jP (gI (hHe _ _ ab)) ?_;refine gqA 10 hb2 (fun c5 hb2=>?_);obtain⟨x6,ac,hb2⟩:=gJ hb2;refine jP (gI (gTt _ _ ac)) ?_;cases hb2;exact eJ
 exact goR h
def zJ(f:LS)(a1:Int):Option (Bool):=
bnd ((cnd (decide ((f.length:Int)≤a1)) ((cnd (gK7 f) (bnd (zC f) fun h=>
(some h)) ((some false)))) ((some false)))) fun q=>
(some q)
theorem gAy(f:LS)(a1:Int){r:Bool}(h:zJ f a1=some r):jI Tryz.prog 193 [.L 1 (gT f),.I a1] [.b r]:=by
 unfold zJ at h;refine SpI Tryz.func193 fun A _=>?_;refine goL ?_;obtain⟨y,hb1,h⟩:=gJ h;refine kH ⟨[(4,.B y)],[],Tryz.f193.ntmps⟩ ?_ ?_
 ·refine gqA 9 hb1 (fun c2 hb1=>?_);refine jP (gI (gVa f)) ?_;refine gqA 13 hb1 (fun c3 hb1=>?_);obtain⟨x4,q,hb1⟩:=gJ hb1;refine jP (gI (gBx _ q)) ?_;cases hb1;exact eJ
 exact goR h
def zD(f:gB):Option (Bool):=
bnd (gUl 5000 f 60) fun h=>
bnd ((cnd (decide (h≥0)) (bnd (gK0 5000 f) fun q=>
(cnd (decide (q≤6)) (bnd (gTy 5000 f) fun y=>
(some y)) ((some false)))) ((some false)))) fun b2=>
(some b2)
theorem gBy(a0:gB){r:Bool}(h:zD a0=some r):jI Tryz.prog 239 [.d (mM a0)] [.b r]:=by
 obtain⟨f,q,y⟩:=a0;unfold zD at h;refine SpI Tryz.func239 fun A _=>?_;refine goL ?_;obtain⟨x1,ab,h⟩:=gJ h;refine jP (gI (hIw _ _ _ ab)) ?_;obtain⟨b2,hb2,h⟩:=gJ h;refine kH ⟨[(2,.B b2)],[bTy f q y],Tryz.f239.ntmps⟩ ?_ ?_
 ·refine gqA 6 hb2 (fun c3 hb2=>?_);obtain⟨x4,ac,hb2⟩:=gJ hb2;refine jP (gI (gU6 _ _ ac)) ?_;refine gqA 11 hb2 (fun c5 hb2=>?_);obtain⟨x6,ad,hb2⟩:=gJ hb2;refine jP (gI (hHh _ _ ad)) ?_;cases hb2;exact eJ
 exact goR h
def gLt(c:gK):Option (kG × gK):=
lt_ (vZ [97]) fun h=>
lt_ (vZ [97]) fun x2=>
bnd (gBa [108,105,115,116] [x2]) fun q=>
bnd (kW c 10) fun f=>
(cnd (f.1==0) (
bnd (pK f.2 [[97],[98]]) fun x6=>
gd (([[97]]:LS).length+[x6.1].length≤4294967296) (
(some ((kG.mk [108,105,115,116] ([[97]]++[x6.1]) [(jC.mk [110,105,108] []),(jC.mk [99,111,110,115] [h,q])]),x6.2)))) (
(cnd (f.1==1) (
bnd (kW f.2 2) fun x9=>
gd (0≤x9.1∧x9.1≤([(jC.mk [110,105,108] []),(jC.mk [99,111,110,115] [h,q])].length:Int)) (
(some ((kG.mk [108,105,115,116] [[97]] ([(jC.mk [110,105,108] []),(jC.mk [99,111,110,115] [h,q])].take (Int.toNat x9.1))),x9.2)))) (
(cnd (f.1==2) (
bnd (zT f.2 2) fun y=>
bnd (at? [(jC.mk [110,105,108] []),(jC.mk [99,111,110,115] [h,q])] 0) fun ad=>
(some ((kG.mk [108,105,115,116] [[97]] ([(jC.mk [110,105,108] []),(jC.mk [99,111,110,115] [h,q])].set 0 (jC.mk ad.name [y.1]))),y.2))) (
(cnd (f.1==3) (
bnd (pK f.2 [[99,111,110,115],[],[111,110,101]]) fun aa=>
bnd (at? [(jC.mk [110,105,108] []),(jC.mk [99,111,110,115] [h,q])] 0) fun ae=>
(some ((kG.mk [108,105,115,116] [[97]] ([(jC.mk [110,105,108] []),(jC.mk [99,111,110,115] [h,q])].set 0 (jC.mk aa.1 ae.fields))),aa.2))) (
(some ((kG.mk [108,105,115,116] [[97]] [(jC.mk [110,105,108] []),(jC.mk [99,111,110,115] [h,q])]),f.2))))))))))
theorem gWb(c:gK){r:kG × gK}(h:gLt c=some r):Go.Eng.Spec Tryz.prog 101 [.ptr 0 0] [bCu c.b c.i c.h] (fun sv Lo=>sv=.d (gDk r.1)∧Lo=[bCu r.2.b r.2.i r.2.h]):=by
 obtain⟨bk,bl,bm⟩:=c;unfold gLt at h;refine kJ 1 Tryz.func101 rfl (by kernel_rfl) rfl rfl fun A _=>?_;refine goL ?_;refine uO (u:=(.s [97])) ?_;refine vP (jN TBd.h TZ.h rfl (by repeat constructor)) ?_;obtain⟨⟨ae,ag,ah⟩,bn,h⟩:=uK h;have sx1:=gCl [97];rw [bn] at sx1;refine uN (gI (sx1)) ?_;obtain⟨⟨av,aw,ax⟩,bo,h⟩:=uK h;have sx2:=gCl [97];rw [bo] at sx2;refine uN (gI (sx2)) ?_;refine uO (u:=(.st [.i .i64 av,.s aw,.sl 3 (gN ax)])) ?_;refine kS 3 rfl rfl ?_;obtain⟨⟨ai,aj,ak⟩,bp,h⟩:=gJ h;refine vP (gRe (gDy [108,105,115,116] [(gB.mk av aw ax)] bp)) ?_;refine yQ (us:=gN [(gB.mk ae ag ah),(gB.mk ai aj ak)]) ?_;refine vP (jN TBd.h TZ.h rfl (by repeat constructor)) ?_;refine kS 4 rfl rfl ?_;refine yQ (us:=pO [(jC.mk [110,105,108] []),(jC.mk [99,111,110,115] [(gB.mk ae ag ah),(gB.mk ai aj ak)])]) ?_;refine yT (jN TBd.h TZ.h rfl (by repeat constructor)) ?_;obtain⟨⟨bw,⟨ab,ac,ad⟩⟩,bq,h⟩:=gJ h;refine mI 0 (mH (gK.mk bk bl bm) 10 bq) ?_;refine goL ?_;refine jA ?_;refine goC h ?_ ?_<;>intro c5 h
 ·obtain⟨⟨au,⟨a7,a8,a9⟩⟩,bg,h⟩:=gJ h;obtain⟨g7,h⟩:=pU h;refine qY (P:=Tryz.prog) Mix.h (.q 0 (.q 2 (.h 1 (hcT 3 (hcT 4 (hcT 5 (hcT 6 (.q 7 (hzT 8)))))) (hcT 3 (.h 1 (hcT 4 (hcT 5 (hcT 6 (.q 7 (hzT 8))))) (hcT 4 (.h 1 (hcT 5 (hcT 6 (.q 7 (hzT 8)))) (hcT 5 (hcT 1 (hcT 6 (.q 7 (hzT 8)))))))))))) ⟨[(2,.ptr 1 0),(3,.ptr 6 0)],[bCu a7 a8 a9,.box [.S [],.nilsl,.nilsl],.arr 9 1 (0+1) (gT ([[97]]++[au])),.frz 37 3 0 (gN [(gB.mk av aw ax)]),.frz 37 3 0 (gN [(gB.mk ae ag ah),(gB.mk ai aj ak)]),.arr 188 2 0 (pO [(jC.mk [110,105,108] []),(jC.mk [99,111,110,115] [(gB.mk ae ag ah),(gB.mk ai aj ak)])]),.box [.d (.s [108,105,115,116]),.sl 2 (0+1),.sl 5 0],.frz 9 1 0 (gT [[97],[98]]),.frz 9 1 0 (gT [au])],Tryz.f101.ntmps⟩ (by kernel_rfl) ?_ ?_
  ·refine mU ?_;refine uD (kF gZ) ?_ ?_
   ·refine gQ (uE (T:=34) (us:=gT [[97],[98]]) gZ) ?_;refine gQ (qU 0 (kZ (gK.mk ab ac ad) [[97],[98]] bg) gZ) ?_;refine gQ (uE (T:=34) (us:=gT [au]) gZ) ?_;refine gQ (kN (T:=34) g7 gZ) ?_;refine mU ?_;refine jL ?_;exact pQ 1 [0,1,2,3,4,5,6,7,8]
   refine gQ (uE (T:=34) (us:=gT [[97],[98]]) gZ) ?_;refine uD (kF gZ) ?_ ?_
   ·refine gQ (qU 0 (kZ (gK.mk ab ac ad) [[97],[98]] bg) gZ) ?_;refine gQ (uE (T:=34) (us:=gT [au]) gZ) ?_;refine gQ (kN (T:=34) g7 gZ) ?_;refine mU ?_;refine jL ?_;exact pQ 1 [0,1,2,3,4,5,6,7,8]
   refine gQ (qU 0 (kZ (gK.mk ab ac ad) [[97],[98]] bg) gZ) ?_;refine uD (kF gZ) ?_ ?_
   ·refine gQ (uE (T:=34) (us:=gT [au]) gZ) ?_;refine gQ (kN (T:=34) g7 gZ) ?_;refine mU ?_;refine jL ?_;exact pQ 1 [0,1,2,3,4,5,6,7,8]
   refine gQ (uE (T:=34) (us:=gT [au]) gZ) ?_;refine gQ (kF gZ) ?_;refine gQ (kN (T:=34) g7 gZ) ?_;refine mU ?_;refine jL ?_;exact pQ 1 [0,1,2,3,4,5,6,7,8]
  refine goL ?_;refine gV 2 rfl rfl ?_;refine gV 5 rfl rfl ?_;refine jF ?_;obtain rfl:=Option.some.inj h;exact gB5 [.d (.st [.s [108,105,115,116],.sl 1 (gT ([[97]]++[au])),.sl 2 (pO [(jC.mk [110,105,108] []),(jC.mk [99,111,110,115] [(gB.mk ae ag ah),(gB.mk ai aj ak)])])])] [bCu a7 a8 a9] ⟨rfl,rfl⟩
 ·refine goC h ?_ ?_<;>intro c8 h
  ·obtain⟨⟨be,⟨ba,bb,bc⟩⟩,bh,h⟩:=gJ h;obtain⟨bi,h⟩:=pU h;refine qY (P:=Tryz.prog) Mix.h (.q 0 (.q 2 (.h 1 (hcT 3 (hcT 4 (.q 5 (hzT 6)))) (hcT 3 (hcT 1 (hcT 4 (.q 5 (hzT 6)))))))) ⟨[(2,.ptr 1 0),(3,.ptr 6 0)],[bCu ba bb bc,.box [.S [],.nilsl,.nilsl],.arr 9 1 0 (gT [[97]]),.frz 37 3 0 (gN [(gB.mk av aw ax)]),.frz 37 3 0 (gN [(gB.mk ae ag ah),(gB.mk ai aj ak)]),.frz 188 2 0 (pO [(jC.mk [110,105,108] []),(jC.mk [99,111,110,115] [(gB.mk ae ag ah),(gB.mk ai aj ak)])]),.box [.d (.s [108,105,115,116]),.sl 2 0,.d (.sl 2 (pO ([(jC.mk [110,105,108] []),(jC.mk [99,111,110,115] [(gB.mk ae ag ah),(gB.mk ai aj ak)])].take (Int.toNat be))))]],Tryz.f101.ntmps⟩ (by kernel_rfl) ?_ ?_
   ·refine mU ?_;refine uD (kF gZ) ?_ ?_
    ·refine gQ (qU 0 (mH (gK.mk ab ac ad) 2 bh) gZ) ?_;refine gQ (qC 5 rfl rfl (hKv bi gZ)) ?_;refine mU ?_;refine jL ?_;exact pQ 1 [0,1,2,3,4,5,6]
    refine gQ (qU 0 (mH (gK.mk ab ac ad) 2 bh) gZ) ?_;refine gQ (kF gZ) ?_;refine gQ (qC 5 rfl rfl (hKv bi gZ)) ?_;refine mU ?_;refine jL ?_;exact pQ 1 [0,1,2,3,4,5,6]
   refine goL ?_;refine gV 2 rfl rfl ?_;refine jF ?_;obtain rfl:=Option.some.inj h;exact gB5 [.d (.st [.s [108,105,115,116],.sl 1 (gT [[97]]),.sl 2 (pO ([(jC.mk [110,105,108] []),(jC.mk [99,111,110,115] [(gB.mk ae ag ah),(gB.mk ai aj ak)])].take (Int.toNat be)))])] [bCu ba bb bc] ⟨rfl,rfl⟩
  ·refine goC h ?_ ?_<;>intro bx h
   ·obtain⟨⟨⟨f,y,aa⟩,⟨ay,a0,a3⟩⟩,bf,h⟩:=gJ h;obtain⟨br,aq,h⟩:=gJ h;obtain⟨bt,aq⟩:=gBm aq;obtain⟨al,ao⟩:=br;refine qY (P:=Tryz.prog) Mix.h (.q 0 (.q 2 (.h 1 (hcT 3 (hcT 4 (hcT 5 (hcT 6 (hzT 7))))) (hcT 3 (.h 1 (hcT 4 (hcT 5 (hcT 6 (hzT 7)))) (hcT 4 (hcT 1 (hcT 5 (hcT 6 (hzT 7)))))))))) ⟨[(2,.ptr 1 0),(3,.ptr 6 0)],[bCu ay a0 a3,.box [.S [],.nilsl,.nilsl],.arr 9 1 0 (gT [[97]]),.frz 37 3 0 (gN [(gB.mk av aw ax)]),.frz 37 3 0 (gN [(gB.mk ae ag ah),(gB.mk ai aj ak)]),.arr 188 2 0 (pO ([(jC.mk [110,105,108] []),(jC.mk [99,111,110,115] [(gB.mk ae ag ah),(gB.mk ai aj ak)])].set 0 (jC.mk al [(gB.mk f y aa)]))),.box [.d (.s [108,105,115,116]),.sl 2 0,.sl 5 0],.frz 37 3 0 (gN [(gB.mk f y aa)])],Tryz.f101.ntmps⟩ (by kernel_rfl) ?_ ?_
    ·refine mU ?_;refine uD (kF gZ) ?_ ?_
     ·refine gQ (qU 0 (zU (gK.mk ab ac ad) 2 bf) gZ) ?_;refine gQ (uE (T:=35) (us:=gN [(gB.mk f y aa)]) gZ) ?_;refine gQ (gAo 0 (List.getElem?_eq_some_iff.1 aq).1 gZ) ?_;refine gQ (gA6 gZ) ?_;refine gQ (gA7 [(.s al)] [] (.sl 3 (gN ao)) (.sl 3 (gN [(gB.mk f y aa)])) (jC.mk al ao) (jC.mk al [(gB.mk f y aa)]) aq gZ) ?_;refine jL ?_;exact pQ 1 [0,1,2,3,4,5,6,7]
     refine gQ (qU 0 (zU (gK.mk ab ac ad) 2 bf) gZ) ?_;refine uD (kF gZ) ?_ ?_
     ·refine gQ (uE (T:=35) (us:=gN [(gB.mk f y aa)]) gZ) ?_;refine gQ (gAo 0 (List.getElem?_eq_some_iff.1 aq).1 gZ) ?_;refine gQ (gA6 gZ) ?_;refine gQ (gA7 [(.s al)] [] (.sl 3 (gN ao)) (.sl 3 (gN [(gB.mk f y aa)])) (jC.mk al ao) (jC.mk al [(gB.mk f y aa)]) aq gZ) ?_;refine jL ?_;exact pQ 1 [0,1,2,3,4,5,6,7]
     refine gQ (uE (T:=35) (us:=gN [(gB.mk f y aa)]) gZ) ?_;refine gQ (kF gZ) ?_;refine gQ (gAo 0 (List.getElem?_eq_some_iff.1 aq).1 gZ) ?_;refine gQ (gA6 gZ) ?_;refine gQ (gA7 [(.s al)] [] (.sl 3 (gN ao)) (.sl 3 (gN [(gB.mk f y aa)])) (jC.mk al ao) (jC.mk al [(gB.mk f y aa)]) aq gZ) ?_;refine jL ?_;exact pQ 1 [0,1,2,3,4,5,6,7]
    refine goL ?_;refine gV 2 rfl rfl ?_;refine gV 5 rfl rfl ?_;refine jF ?_;obtain rfl:=Option.some.inj h;exact gB5 [.d (.st [.s [108,105,115,116],.sl 1 (gT [[97]]),.sl 2 (pO ([(jC.mk [110,105,108] []),(jC.mk [99,111,110,115] [(gB.mk ae ag ah),(gB.mk ai aj ak)])].set 0 (jC.mk al [(gB.mk f y aa)])))])] [bCu ay a0 a3] ⟨rfl,rfl⟩
   ·refine goC h ?_ ?_<;>intro bz h
    ·obtain⟨⟨an,⟨a4,a5,a6⟩⟩,bd,h⟩:=gJ h;obtain⟨bu,ar,h⟩:=gJ h;obtain⟨bv,ar⟩:=gBm ar;obtain⟨ap,am⟩:=bu;refine qY (P:=Tryz.prog) Mix.h (.q 0 (.q 2 (.h 1 (hcT 3 (hcT 4 (hcT 5 (hcT 6 (hzT 7))))) (hcT 3 (.h 1 (hcT 4 (hcT 5 (hcT 6 (hzT 7)))) (hcT 4 (hcT 1 (hcT 5 (hcT 6 (hzT 7)))))))))) ⟨[(2,.ptr 1 0),(3,.ptr 6 0)],[bCu a4 a5 a6,.box [.S [],.nilsl,.nilsl],.arr 9 1 0 (gT [[97]]),.frz 37 3 0 (gN [(gB.mk av aw ax)]),.frz 37 3 0 (gN [(gB.mk ae ag ah),(gB.mk ai aj ak)]),.arr 188 2 0 (pO ([(jC.mk [110,105,108] []),(jC.mk [99,111,110,115] [(gB.mk ae ag ah),(gB.mk ai aj ak)])].set 0 (jC.mk an am))),.box [.d (.s [108,105,115,116]),.sl 2 0,.sl 5 0],.frz 9 1 0 (gT [[99,111,110,115],[],[111,110,101]])],Tryz.f101.ntmps⟩ (by kernel_rfl) ?_ ?_
     ·refine mU ?_;refine uD (kF gZ) ?_ ?_
      ·refine gQ (uE (T:=34) (us:=gT [[99,111,110,115],[],[111,110,101]]) gZ) ?_;refine gQ (qU 0 (kZ (gK.mk ab ac ad) [[99,111,110,115],[],[111,110,101]] bd) gZ) ?_;refine gQ (gAo 0 (List.getElem?_eq_some_iff.1 ar).1 gZ) ?_;refine gQ (gA6 gZ) ?_;refine gQ (gA7 [] [(.sl 3 (gN am))] (.s ap) (.s an) (jC.mk ap am) (jC.mk an am) ar gZ) ?_;refine jL ?_;exact pQ 1 [0,1,2,3,4,5,6,7]
      refine gQ (uE (T:=34) (us:=gT [[99,111,110,115],[],[111,110,101]]) gZ) ?_;refine uD (kF gZ) ?_ ?_
      ·refine gQ (qU 0 (kZ (gK.mk ab ac ad) [[99,111,110,115],[],[111,110,101]] bd) gZ) ?_;refine gQ (gAo 0 (List.getElem?_eq_some_iff.1 ar).1 gZ) ?_;refine gQ (gA6 gZ) ?_;refine gQ (gA7 [] [(.sl 3 (gN am))] (.s ap) (.s an) (jC.mk ap am) (jC.mk an am) ar gZ) ?_;refine jL ?_;exact pQ 1 [0,1,2,3,4,5,6,7]
      refine gQ (qU 0 (kZ (gK.mk ab ac ad) [[99,111,110,115],[],[111,110,101]] bd) gZ) ?_;refine gQ (kF gZ) ?_;refine gQ (gAo 0 (List.getElem?_eq_some_iff.1 ar).1 gZ) ?_;refine gQ (gA6 gZ) ?_;refine gQ (gA7 [] [(.sl 3 (gN am))] (.s ap) (.s an) (jC.mk ap am) (jC.mk an am) ar gZ) ?_;refine jL ?_;exact pQ 1 [0,1,2,3,4,5,6,7]
     refine goL ?_;refine gV 2 rfl rfl ?_;refine gV 5 rfl rfl ?_;refine jF ?_;obtain rfl:=Option.some.inj h;exact gB5 [.d (.st [.s [108,105,115,116],.sl 1 (gT [[97]]),.sl 2 (pO ([(jC.mk [110,105,108] []),(jC.mk [99,111,110,115] [(gB.mk ae ag ah),(gB.mk ai aj ak)])].set 0 (jC.mk an am)))])] [bCu a4 a5 a6] ⟨rfl,rfl⟩
    ·refine goS ?_;refine gV 2 rfl rfl ?_;refine gV 5 rfl rfl ?_;refine jF ?_;obtain rfl:=Option.some.inj h;exact gB5 [.d (.st [.s [108,105,115,116],.sl 1 (gT [[97]]),.sl 2 (pO [(jC.mk [110,105,108] []),(jC.mk [99,111,110,115] [(gB.mk ae ag ah),(gB.mk ai aj ak)])])])] [bCu ab ac ad] ⟨rfl,rfl⟩
def gX3(f:gK→LS→Int→Option (gB × gK))(c:gK)(vars:LS)(deep:Int):Option (gB × gK):=
bnd (kW c 8) fun h=>
lt_ ((cnd (decide (h.1 < 3)) ((decide ((vars.length:Int) > 0))) (false))) fun b2=>
(cnd b2 (
bnd (kW h.2 (vars.length:Int)) fun x5=>
bnd (at? vars x5.1) fun x6=>
lt_ (vZ x6) fun x7=>
(some (x7,x5.2))) (
lt_ ((cnd (decide (h.1 < 5)) (true) ((decide (deep≤0))))) fun b8=>
(cnd b8 (
bnd (pK h.2 [[105,110,116],[98,111,111,108],[117,110,105,116]]) fun q=>
bnd (gBa q.1 []) fun ad=>
(some (ad,q.2))) (
(cnd (h.1==5) (
bnd (f h.2 vars (IntKind.i64.wrap (deep - 1))) fun y=>
bnd (f y.2 vars (IntKind.i64.wrap (deep - 1))) fun aa=>
bnd (gBa [112,97,105,114] [y.1,aa.1]) fun ae=>
(some (ae,aa.2))) (
bnd (pK h.2 [[108,105,115,116],[108,105,115,116],[98,111,120]]) fun ab=>
bnd (f ab.2 vars (IntKind.i64.wrap (deep - 1))) fun ac=>
bnd (gBa ab.1 [ac.1]) fun ag=>
(some (ag,ac.2))))))))
theorem hNq{ab:gK→LS→Int→Option (gB × gK)}(f:∀(x0:gK)(x1:LS)(x2:Int)(w0:Nat){r:gB × gK},ab x0 x1 x2=some r→Go.Eng.Spec Tryz.prog 95 [.ptr 0 0,.sl 1 w0,.I x2] [bCu x0.b x0.i x0.h,.arr 9 1 w0 (gT x1)] (fun sv Lo=>sv=.d (mM r.1)∧Lo=[bCu r.2.b r.2.i r.2.h,.arr 9 1 w0 (gT x1)]))(c:gK)(vars:LS)(deep:Int)(v1:Nat){r:gB × gK}(h:gX3 ab c vars deep=some r):Go.Eng.Spec Tryz.prog 95 [.ptr 0 0,.sl 1 v1,.I deep] [bCu c.b c.i c.h,.arr 9 1 v1 (gT vars)] (fun sv Lo=>sv=.d (mM r.1)∧Lo=[bCu r.2.b r.2.i r.2.h,.arr 9 1 v1 (gT vars)]):=by
 obtain⟨b4,b5,b6⟩:=c;unfold gX3 at h;refine kJ 2 Tryz.func95 rfl (by kernel_rfl) rfl rfl fun A _=>?_;refine goL ?_;obtain⟨⟨a5,⟨q,y,aa⟩⟩,b7,h⟩:=gJ h;refine mI 0 (mH (gK.mk b4 b5 b6) 8 b7) ?_;refine goL ?_;refine kI (jA ?_);refine goL ?_;obtain⟨b2,hb2,h⟩:=uK h;refine kH ⟨[(0,.ptr 0 0),(1,.sl 1 v1),(2,.I deep),(6,.ptr 2 0),(7,.I a5),(10,.B b2)],[bCu q y aa,.arr 9 1 v1 (gT vars),.box [.I 0,.S [],.nilsl]],Tryz.f95.ntmps⟩ ?_ ?_
 ·exact gqZ 13 hb2
 refine goC h ?_ ?_<;>intro c4 h
 ·refine goL ?_;obtain⟨⟨cd,⟨bx,bz,b0⟩⟩,b9,h⟩:=gJ h;refine mI 0 (mH (gK.mk q y aa) (vars.length:Int) b9) ?_;obtain⟨x6,a4,h⟩:=gJ h;obtain⟨bg,a4⟩:=gBm a4;refine vP (gZb bg (List.getElem?_eq_some_iff.1 a4).1) ?_;refine vP (hIl a4) ?_;obtain⟨⟨bh,bi,bj⟩,ca,h⟩:=uK h;have sx7:=gCl x6;rw [ca] at sx7;refine jP (gI (sx7)) ?_;refine jF ?_;obtain rfl:=Option.some.inj h;exact gAg [.d (.st [.i .i64 bh,.s bi,.sl 3 (gN bj)])] _ ⟨rfl,rfl⟩
 ·refine goL ?_;obtain⟨b8,hb8,h⟩:=uK h;refine kH ⟨[(0,.ptr 0 0),(1,.sl 1 v1),(2,.I deep),(6,.ptr 2 0),(7,.I a5),(26,.B b8)],[bCu q y aa,.arr 9 1 v1 (gT vars),.box [.I 0,.S [],.nilsl]],Tryz.f95.ntmps⟩ ?_ ?_
  ·exact gqZ 29 hb8
  refine goC h ?_ ?_<;>intro ch h
  ·refine goL ?_;refine yQ (us:=gT [[105,110,116],[98,111,111,108],[117,110,105,116]]) ?_;refine kS 3 rfl rfl ?_;obtain⟨⟨cb,⟨bk,bl,bm⟩⟩,bn,h⟩:=gJ h;refine mI 0 (kZ (gK.mk q y aa) [[105,110,116],[98,111,111,108],[117,110,105,116]] bn) ?_;obtain⟨⟨a6,a7,a8⟩,bo,h⟩:=gJ h;refine jP (gI (gDy _ _ bo)) ?_;refine jF ?_;obtain rfl:=Option.some.inj h;exact gAg [.d (.st [.i .i64 a6,.s a7,.sl 3 (gN a8)])] _ ⟨rfl,rfl⟩
  ·refine goC h ?_ ?_<;>intro ci h
   ·refine goL ?_;refine uN (pV) ?_;obtain⟨⟨⟨ac,ad,ae⟩,⟨am,an,ao⟩⟩,bp,h⟩:=gJ h;refine gBz [0,1] (f (gK.mk q y aa) vars (IntKind.i64.wrap (deep - 1)) v1 bp) ?_;rintro _ _ ⟨rfl,rfl⟩;show VO _ _ _ _ ⟨(_,.d (.st [.i .i64 ac,.s ad,.sl 3 (gN ae)]))::_,[bCu am an ao,.arr 9 1 v1 (gT vars),.box [.I 0,.S [],.nilsl]],_⟩ _;refine goL ?_;refine uN (pV) ?_;obtain⟨⟨⟨ag,ah,ai⟩,⟨aq,ar,au⟩⟩,bq,h⟩:=gJ h;refine gBz [0,1] (f (gK.mk am an ao) vars (IntKind.i64.wrap (deep - 1)) v1 bq) ?_;rintro _ _ ⟨rfl,rfl⟩;show VO _ _ _ _ ⟨(_,.d (.st [.i .i64 ag,.s ah,.sl 3 (gN ai)]))::_,[bCu aq ar au,.arr 9 1 v1 (gT vars),.box [.I 0,.S [],.nilsl]],_⟩ _;refine yQ (us:=gN [(gB.mk ac ad ae),(gB.mk ag ah ai)]) ?_;refine kS 3 rfl rfl ?_;obtain⟨⟨a9,ba,bb⟩,br,h⟩:=gJ h;refine yT (gRe (gDy [112,97,105,114] [(gB.mk ac ad ae),(gB.mk ag ah ai)] br)) ?_;refine jF ?_;obtain rfl:=Option.some.inj h;exact gAg [.d (.st [.i .i64 a9,.s ba,.sl 3 (gN bb)])] _ ⟨rfl,rfl⟩
   ·refine goS ?_;refine yQ (us:=gT [[108,105,115,116],[108,105,115,116],[98,111,120]]) ?_;refine kS 3 rfl rfl ?_;obtain⟨⟨bc,⟨av,aw,ax⟩⟩,bt,h⟩:=gJ h;refine mI 0 (kZ (gK.mk q y aa) [[108,105,115,116],[108,105,115,116],[98,111,120]] bt) ?_;refine goL ?_;refine uN (pV) ?_;obtain⟨⟨⟨aj,ak,al⟩,⟨ay,a0,a3⟩⟩,bu,h⟩:=gJ h;refine gBz [0,1] (f (gK.mk av aw ax) vars (IntKind.i64.wrap (deep - 1)) v1 bu) ?_;rintro _ _ ⟨rfl,rfl⟩;show VO _ _ _ _ ⟨(_,.d (.st [.i .i64 aj,.s ak,.sl 3 (gN al)]))::_,[bCu ay a0 a3,.arr 9 1 v1 (gT vars),.box [.I 0,.S [],.nilsl],.frz 9 1 0 (gT [[108,105,115,116],[108,105,115,116],[98,111,120]])],_⟩ _;refine uO (u:=(.st [.i .i64 aj,.s ak,.sl 3 (gN al)])) ?_;refine kS 4 rfl rfl ?_;obtain⟨⟨bd,be,bf⟩,bv,h⟩:=gJ h;refine yT (gRe (gDy bc [(gB.mk aj ak al)] bv)) ?_;refine jF ?_;obtain rfl:=Option.some.inj h;exact gAg [.d (.st [.i .i64 bd,.s be,.sl 3 (gN bf)])] _ ⟨rfl,rfl⟩
def gLu:Nat→gK→LS→Int→Option (gB × gK)
 | 0,_,_,_=>none
 | n+1,f,h,q=>gX3 (gLu n) f h q
theorem gUs:∀(n:Nat)(f:gK)(q:LS)(x2:Int)(y:Nat){r:gB × gK},gLu n f q x2=some r→Go.Eng.Spec Tryz.prog 95 [.ptr 0 0,.sl 1 y,.I x2] [bCu f.b f.i f.h,.arr 9 1 y (gT q)] (fun sv Lo=>sv=.d (mM r.1)∧Lo=[bCu r.2.b r.2.i r.2.h,.arr 9 1 y (gT q)]):=by
 intro n
 induction n with
 | zero=>intro f q x2 y r h;cases h
 | succ n ih=>intro f q x2 y r h;exact hNq ih f q x2 y h
end Go.Proofs.YtfpdlnkkcnmebaaGreat
