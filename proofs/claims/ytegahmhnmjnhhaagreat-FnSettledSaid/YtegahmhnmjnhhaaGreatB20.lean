import Derived.Test.YtegahmhnmjnhhaaGreatB18
set_option maxHeartbeats 4000000
set_option linter.unusedVariables false
set_option linter.unusedSimpArgs false
set_option linter.unusedSectionVars false
namespace Go.Proofs.YtegahmhnmjnhhaaGreat
open Go Go.Eng
attribute [local irreducible] V VO VQ VY Quiet QR jC kT Rng mU mV mI
def zQ(c:gI)(a1:List gY)(a2:gJ)(f:gB)(h:gB):Option (gJ):=
bnd (pG 5000 c a1 a2 f h 40) fun y=>
bnd (gGu y) fun x2=>
(some x2)
theorem jD(c:gI)(a1:List gY)(a2:gJ)(f:gB)(y:gB){r:gJ}(h:zQ c a1 a2 f y=some r):jC Tryz.prog 8 [.d (kR c),.L 4 (kV a1),.d (mD a2),.d (jS f),.d (jS y)] [mD r]:=by
 obtain⟨ac⟩:=c;obtain⟨ad,ae,ag,ah,ai,aj,ak,al⟩:=a2;obtain⟨am,an,ao⟩:=f;obtain⟨ap,aq,ar⟩:=y;unfold zQ at h;refine SpI Tryz.func8 fun A _=>?_;refine goL ?_;obtain⟨⟨au,av,aw,ax,ay,a5,a6,a7⟩,aa,h⟩:=gP h;refine qI (gF (gSv _ _ _ _ _ _ _ aa)) ?_;obtain⟨⟨a8,a9,ba,bb,bc,bd,be,bf⟩,ab,h⟩:=gP h;refine qI (gF (gT4 _ ab)) ?_;exact goR h
def zG(y:gD):List qJ→(List gD)→Option (gD)
 | [],h=>bnd (gOx true (gD.mk y.atom h)) fun ad=>
(some ad)
 | c::xs,h=>lt_ (mG c.name) fun ae=>
bnd (gL6 c.params) fun ag=>
bnd (gMt 5000 c.result) fun ah=>
bnd (gJk [ae,(gD.mk [] ag),ah]) fun f=>
bnd ((cnd c.hasDefault (
bnd (gBg c.vars) fun aa=>
bnd (gM0 5000 c.body) fun ab=>
gd (f.list.length+[aa,ab].length≤4294967296) (
(some (f.list++[aa,ab])))) (
(some f.list)))) fun ac=>
gd (h.length+[(gD.mk f.atom ac)].length≤4294967296) (
zG y xs (h++[(gD.mk f.atom ac)]))
def gG7(c:qV):Option (gD):=
bnd (gEg c) fun x1=>
(cnd (!x1) (
(some (gD.mk [] []))) (
bnd ((cnd c.auto (
gd (([]:List (List UInt8)).length+([[97,117,116,111]]:List (List UInt8)).length≤4294967296) (
(some ([]++[[97,117,116,111]])))) (
(some [])))) fun h=>
bnd ((cnd c.assoc (
gd (h.length+([[97,115,115,111,99]]:List (List UInt8)).length≤4294967296) (
(some (h++[[97,115,115,111,99]])))) (
(some h)))) fun b7=>
lt_ (mG [116,114,97,105,116]) fun y=>
lt_ (mG c.name) fun aa=>
bnd (gBg c.supertraits) fun ab=>
bnd (gBg b7) fun ac=>
bnd (gJk [y,aa,ab,ac]) fun f=>
zG f c.signatures f.list))
theorem gRq(a0:qV){r:gD}(h:gG7 a0=some r):jC Tryz.prog 170 [.d (gMu a0)] [pF r]:=by
 obtain⟨aq,ar,au,av,al⟩:=a0;unfold gG7 at h;refine SpI Tryz.func170 fun A _=>?_;refine goL ?_;obtain⟨x1,cf,h⟩:=gP h;refine jL (gF (gLq _ cf)) ?_;refine kX (fun c2=>?_) (fun c2=>?_)
 ·replace h:=kD c2 h;refine goL ?_;refine gAq (jU TBd.h TZ.h rfl (by repeat constructor)) ?_;exact goR h
 ·replace h:=kE c2 h;refine goS ?_;refine gF9 ?_;refine goL ?_;obtain⟨b3,hb3,h⟩:=gP h;refine gNc (fun v4=>⟨[(1,.ptr 0 0),(2,.ptr 1 0),(3,.sl 2 v4)],[bTr aq ar au av al,.box [.S [],.nilsl],.own 9 1 v4 (jP b3)],Tryz.f170.ntmps⟩) ?_ (fun v4=>?_)
  ·refine kX (fun c5=>?_) (fun c5=>?_)
   ·replace hb3:=kD c5 hb3;refine goL ?_;refine gBc ([97,117,116,111]:List UInt8) ?_;obtain⟨g6,hb3⟩:=mW hb3;refine gH3 g6 ?_;refine goL ?_;cases hb3;exact⟨(0+1),eJ⟩
   ·replace hb3:=kE c5 hb3;refine zA ?_;cases hb3;exact⟨0,eJ⟩
  refine goL ?_;obtain⟨b7,hb7,h⟩:=gP h;refine gNc (fun v8=>⟨[(1,.ptr 0 0),(2,.ptr 1 0),(3,.sl 2 v8)],[bTr aq ar au av al,.box [.S [],.nilsl],.own 9 1 v8 (jP b7)],Tryz.f170.ntmps⟩) ?_ (fun v8=>?_)
  ·refine kX (fun c9=>?_) (fun c9=>?_)
   ·replace hb7:=kD c9 hb7;refine goL ?_;refine gBc ([97,115,115,111,99]:List UInt8) ?_;obtain⟨cj,hb7⟩:=mW hb7;refine gH3 cj ?_;refine goL ?_;cases hb7;exact⟨(v4+1),eJ⟩
   ·replace hb7:=kE c9 hb7;refine zA ?_;cases hb7;exact⟨v4,eJ⟩
  refine gH2 ?_;refine uH 2 rfl rfl ?_;refine hXx ?_;obtain⟨⟨c,f⟩,b1,h⟩:=qB h;have sx11:=mM [116,114,97,105,116];rw [b1] at sx11;obtain⟨⟨y,aa⟩,b2,h⟩:=qB h;have sx12:=mM aq;rw [b2] at sx12;obtain⟨⟨ab,ac⟩,b4,h⟩:=gP h;obtain⟨⟨ad,ae⟩,b5,h⟩:=gP h;obtain⟨⟨ah,bb⟩,bn,h⟩:=gP h;refine qH (P:=Tryz.prog) Mix.h (.q 0 (.q 1 (.q 2 (.q 3 (.q 4 (.q 5 (.q 6 (.q 7 (.q 8 (.h 9 (.h 10 (.h 11 (.h 12 .nil .nil) .nil) (.h 11 (.h 10 (.h 12 .nil .nil) .nil) .nil)) (.h 11 (.h 9 (.h 10 (.h 12 .nil .nil) .nil) .nil) .nil))))))))))) ⟨[(1,.ptr 0 0),(2,.ptr 1 0),(4,.ptr 5 0)],[bTr aq ar au av al,.box [.S [],.nilsl],.frz 9 1 v8 (jP b7),.frz 135 2 0 (jA [(gD.mk c f),(gD.mk y aa),(gD.mk ab ac),(gD.mk ad ae)]),.arr 135 2 0 (jA bb),.box [.S ah,.sl 4 0]],Tryz.f170.ntmps⟩ (by kernel_rfl) ?_ ?_
  ·refine gAt (jI rfl (gF (sx11)) jX) ?_;refine goT ?_;refine gAt (jI rfl (gF (sx12)) jX) ?_;refine goT ?_;refine gAt (jI rfl (gF (uL _ b4)) jX) ?_;refine goT ?_;refine gAt (jI rfl (gF (uL _ b5)) jX) ?_;refine vW (qE (T:=133) (us:=jA [(gD.mk c f),(gD.mk y aa),(gD.mk ab ac),(gD.mk ad ae)]) jX) ?_ ?_
   ·refine vW (gBe 3 rfl rfl (vH (sv:=.ag [.S ah,.sl 4 0]) (L':=[bTr aq ar au av al,.box [.S [],.nilsl],.frz 9 1 v8 (jP b7),.frz 135 2 0 (jA [(gD.mk c f),(gD.mk y aa),(gD.mk ab ac),(gD.mk ad ae)]),.arr 135 2 0 (jA bb)]) [] (vD [(gD.mk c f),(gD.mk y aa),(gD.mk ab ac),(gD.mk ad ae)] bn) jX)) ?_ ?_
    ·refine goT ?_;refine jY ?_;exact uK 0 [0,1,2,3,4,5]
    refine goT ?_;refine jV (gBe 3 rfl rfl (vH (sv:=.ag [.S ah,.sl 5 0]) (L':=[bTr aq ar au av al,.box [.S [],.nilsl],.frz 9 1 v8 (jP b7),.frz 135 2 0 (jA [(gD.mk c f),(gD.mk y aa),(gD.mk ab ac),(gD.mk ad ae)]),.box [.S [],.nilsl],.arr 135 2 0 (jA bb)]) [] (vD [(gD.mk c f),(gD.mk y aa),(gD.mk ab ac),(gD.mk ad ae)] bn) jX)) ?_;refine goT ?_;refine jY ?_;exact uK 0 [0,1,2,3,5,4]
   refine goT ?_;refine jV (qE (T:=133) (us:=jA [(gD.mk c f),(gD.mk y aa),(gD.mk ab ac),(gD.mk ad ae)]) jX) ?_;refine jV (gBe 4 rfl rfl (vH (sv:=.ag [.S ah,.sl 5 0]) (L':=[bTr aq ar au av al,.box [.S [],.nilsl],.frz 9 1 v8 (jP b7),.box [.S [],.nilsl],.frz 135 2 0 (jA [(gD.mk c f),(gD.mk y aa),(gD.mk ab ac),(gD.mk ad ae)]),.arr 135 2 0 (jA bb)]) [] (vD [(gD.mk c f),(gD.mk y aa),(gD.mk ab ac),(gD.mk ad ae)] bn) jX)) ?_;refine goT ?_;refine jY ?_;exact uK 0 [0,1,2,4,5,3]
  refine goL ?_;refine noB ?_;refine wN 0 4 (fun cr=>?_);refine kS (fun(be:Nat) (bd:List gD) (a9:Nat)=>⟨[(1,.ptr 0 0),(2,.ptr 1 0),(4,.ptr 5 0),(5,.N be)],[bTr aq ar au av al,.box [.S [],.nilsl],.frz 9 1 v8 (jP b7),.frz 135 2 0 (jA [(gD.mk c f),(gD.mk y aa),(gD.mk ab ac),(gD.mk ad ae)]),.arr 135 2 a9 (jA bd),.box [.S ah,.sl 4 a9]],Tryz.f170.ntmps⟩) (fun be bd a9=>zG (gD.mk ah bb) (al.drop be) bd=some r) (fun be bd a9=>al.length - be) 0 bb 0 eJ h ?_;rintro be bd a9 h;refine goL ?_;refine kX (fun bp=>?_) (fun bp=>?_)
  ·have bj:=uR bp;obtain⟨ck,b6,bq⟩:=drop_at bj;rw [bq,zG.eq_2] at h;obtain⟨bc,bf,⟨aw,ax,ay⟩,bg,bh,⟨a3,a4,a5,a6,⟨ai,aj,ak⟩,a7,a8⟩⟩:=ck;refine noS ?_;refine jW (jE ?_);refine goL ?_;refine qI (jM be (gPh b6)) ?_;refine gH2 ?_;obtain⟨⟨am,an⟩,b8,h⟩:=qB h;have sx22:=mM bc;rw [b8] at sx22;obtain⟨bi,b9,h⟩:=gP h;obtain⟨⟨ao,ap⟩,ca,h⟩:=gP h;obtain⟨⟨ba,bk⟩,bo,h⟩:=gP h;refine qH (P:=Tryz.prog) Mix.h (.q 0 (.q 1 (.q 2 (.q 3 (.q 4 (.q 5 (.q 6 (.q 7 (.q 8 (.q 9 (.h 10 (.h 11 (.h 12 (.h 13 .nil .nil) .nil) (.h 12 (.h 11 (.h 13 .nil .nil) .nil) .nil)) (.h 12 (.h 10 (.h 11 (.h 13 .nil .nil) .nil) .nil) .nil)))))))))))) ⟨[(1,.ptr 0 0),(2,.ptr 1 0),(4,.ptr 5 0),(5,.N be),(6,.ptr 6 0),(7,.ptr 9 0)],[bTr aq ar au av al,.box [.S [],.nilsl],.frz 9 1 v8 (jP b7),.frz 135 2 0 (jA [(gD.mk c f),(gD.mk y aa),(gD.mk ab ac),(gD.mk ad ae)]),.arr 135 2 a9 (jA bd),.box [.S ah,.sl 4 a9],bSg bc bf aw ax ay bg bh a3 a4 a5 a6 ai aj ak a7 a8,.frz 135 2 0 (jA [(gD.mk am an),(gD.mk [] bi),(gD.mk ao ap)]),.arr 135 2 0 (jA bk),.box [.S ba,.sl 8 0]],Tryz.f170.ntmps⟩ (by kernel_rfl) ?_ ?_
   ·refine goT ?_;refine gAt (jI rfl (gF (sx22)) jX) ?_;refine goT ?_;refine gAt (jI rfl (gF (gT0 _ b9)) jX) ?_;refine goT ?_;refine gAt (jI rfl (gF (gKo _ _ ca)) jX) ?_;refine vW (qE (T:=133) (us:=jA [(gD.mk am an),(gD.mk [] bi),(gD.mk ao ap)]) jX) ?_ ?_
    ·refine vW (gBe 7 rfl rfl (vH (sv:=.ag [.S ba,.sl 8 0]) (L':=[bTr aq ar au av al,.box [.S [],.nilsl],.frz 9 1 v8 (jP b7),.frz 135 2 0 (jA [(gD.mk c f),(gD.mk y aa),(gD.mk ab ac),(gD.mk ad ae)]),.arr 135 2 a9 (jA bd),.box [.S ah,.sl 4 a9],bSg bc bf aw ax ay bg bh a3 a4 a5 a6 ai aj ak a7 a8,.frz 135 2 0 (jA [(gD.mk am an),(gD.mk [] bi),(gD.mk ao ap)]),.arr 135 2 0 (jA bk)]) [] (vD [(gD.mk am an),(gD.mk [] bi),(gD.mk ao ap)] bo) jX)) ?_ ?_
     ·refine goT ?_;refine jY ?_;exact uK 0 [0,1,2,3,4,5,6,7,8,9]
     refine goT ?_;refine jV (gBe 7 rfl rfl (vH (sv:=.ag [.S ba,.sl 9 0]) (L':=[bTr aq ar au av al,.box [.S [],.nilsl],.frz 9 1 v8 (jP b7),.frz 135 2 0 (jA [(gD.mk c f),(gD.mk y aa),(gD.mk ab ac),(gD.mk ad ae)]),.arr 135 2 a9 (jA bd),.box [.S ah,.sl 4 a9],bSg bc bf aw ax ay bg bh a3 a4 a5 a6 ai aj ak a7 a8,.frz 135 2 0 (jA [(gD.mk am an),(gD.mk [] bi),(gD.mk ao ap)]),.box [.S [],.nilsl],.arr 135 2 0 (jA bk)]) [] (vD [(gD.mk am an),(gD.mk [] bi),(gD.mk ao ap)] bo) jX)) ?_;refine goT ?_;refine jY ?_;exact uK 0 [0,1,2,3,4,5,6,7,9,8]
    refine goT ?_;refine jV (qE (T:=133) (us:=jA [(gD.mk am an),(gD.mk [] bi),(gD.mk ao ap)]) jX) ?_;refine jV (gBe 8 rfl rfl (vH (sv:=.ag [.S ba,.sl 9 0]) (L':=[bTr aq ar au av al,.box [.S [],.nilsl],.frz 9 1 v8 (jP b7),.frz 135 2 0 (jA [(gD.mk c f),(gD.mk y aa),(gD.mk ab ac),(gD.mk ad ae)]),.arr 135 2 a9 (jA bd),.box [.S ah,.sl 4 a9],bSg bc bf aw ax ay bg bh a3 a4 a5 a6 ai aj ak a7 a8,.box [.S [],.nilsl],.frz 135 2 0 (jA [(gD.mk am an),(gD.mk [] bi),(gD.mk ao ap)]),.arr 135 2 0 (jA bk)]) [] (vD [(gD.mk am an),(gD.mk [] bi),(gD.mk ao ap)] bo) jX)) ?_;refine goT ?_;refine jY ?_;exact uK 0 [0,1,2,3,4,5,6,8,9,7]
   refine goL ?_;obtain⟨br,hb26,h⟩:=gP h;refine gNc (fun bt=>⟨[(1,.ptr 0 0),(2,.ptr 1 0),(4,.ptr 5 0),(5,.N be),(7,.ptr 9 0)],[bTr aq ar au av al,.box [.S [],.nilsl],.frz 9 1 v8 (jP b7),.frz 135 2 0 (jA [(gD.mk c f),(gD.mk y aa),(gD.mk ab ac),(gD.mk ad ae)]),.arr 135 2 a9 (jA bd),.box [.S ah,.sl 4 a9],bSg bc bf aw ax ay bg bh a3 a4 a5 a6 ai aj ak a7 a8,.frz 135 2 0 (jA [(gD.mk am an),(gD.mk [] bi),(gD.mk ao ap)]),.arr 135 2 bt (jA br),.box [.S ba,.sl 8 bt]],Tryz.f170.ntmps⟩) ?_ (fun bt=>?_)
   ·refine kX (fun bu=>?_) (fun bu=>?_)
    ·replace hb26:=kD bu hb26;refine uF (P:=Tryz.prog) Mix.h [(0,true),(1,true),(2,true),(3,true),(4,true),(5,true),(6,true),(7,true),(8,false),(9,false),(10,true),(11,false)] (by kernel_rfl) ?_;refine goY ?_;obtain⟨⟨bv,bw⟩,cb,hb26⟩:=gP hb26;refine jI rfl (gF (uL _ cb)) ?_;refine goY ?_;obtain⟨⟨bx,bz⟩,cc,hb26⟩:=gP hb26;refine jI rfl (gF (gZm _ _ cc)) ?_;refine qE (T:=133) (us:=jA [(gD.mk bv bw),(gD.mk bx bz)]) ?_;obtain⟨cl,hb26⟩:=mW hb26;refine pV (T:=133) cl ?_;refine goY ?_;refine kQ ?_;refine goL ?_;cases hb26;exact⟨(0+1),eJ⟩
    ·replace hb26:=kE bu hb26;refine zA ?_;cases hb26;exact⟨0,eJ⟩
   refine goL ?_;refine uZ 8 rfl rfl ?_;refine hI6 ?_;refine gAk (u:=(.st [.s ba,.sl 2 (jA br)])) ?_;obtain⟨cm,h⟩:=mW h;refine gBd cm ?_;refine goL ?_;refine jL (jR be (by omega)) ?_;exact⟨(be+1),(bd++[(gD.mk ba br)]),(a9+1),h,by omega,eJ⟩
  ·have bj:=uS bp;rw [jF bj,zG.eq_1] at h;refine goX ?_;refine uZ 4 rfl rfl ?_;refine hI6 ?_;obtain⟨⟨cn,co⟩,cd,h⟩:=gP h;refine gAq (hHy (gU9 true (gD.mk ah bd) cd)) ?_;exact goR h
def vP(a0:gD)(x1:gD)(x3:List (List UInt8))(x5:gB)(x7:List gY)(x8:gD)(c:Bool × Int × List UInt8 × List gB):List gD→(List gC0)→Option (kG × Bool)
 | [],f=>bnd (bnd (qK a0) fun aj=>
(cnd (!aj) ((some true)) ((cnd ((a0.list.length:Int)==0) ((some true)) (bnd (gD1 (kG.mk x1.atom x3 x5 x7 (decide ((x8.list.length:Int) > 0)) c.1 (gB.mk c.2.1 c.2.2.1 c.2.2.2) f)) fun ak=>
bnd (gCl 5000 ak a0) fun al=>
(some (!al))))))) fun am=>
(cnd am (
(some ((kG.mk [] [] (gB.mk 0 [] []) [] false false (gB.mk 0 [] []) []),false))) (
(some ((kG.mk x1.atom x3 x5 x7 (decide ((x8.list.length:Int) > 0)) c.1 (gB.mk c.2.1 c.2.2.1 c.2.2.2) f),true))))
 | h::xs,f=>bnd (qL h 0) fun y=>
bnd (qL h 1) fun an=>
bnd (gCn an) fun aa=>
bnd (qL h 2) fun ao=>
bnd (gFl 5000 ao) fun ab=>
gd (f.length+[(gC0.mk y.atom aa ab)].length≤4294967296) (
vP a0 x1 x3 x5 x7 x8 c xs (f++[(gC0.mk y.atom aa ab)]))
def gD3(c:gD):Option (kG × Bool):=
bnd (qL c 1) fun x1=>
bnd (qL c 2) fun x2=>
bnd (gCn x2) fun x3=>
bnd (qL c 3) fun x4=>
bnd (gMs 5000 x4) fun x5=>
bnd (qL c 4) fun x6=>
bnd (gJo x6) fun x7=>
bnd (qL c 5) fun x8=>
bnd (qL c 6) fun x9=>
bnd ((cnd (decide ((x9.list.length:Int) > 0)) (
bnd (at? x9.list 0) fun h=>
bnd (gMs 5000 h) fun f=>
(some (true,f.kind,f.name,f.args))) (
(some (false,0,[],[]))))) fun y=>
bnd (gI7 c 7) fun aa=>
vP c x1 x3 x5 x7 x8 y aa []
theorem gNw(a0:gD){r:kG × Bool}(h:gD3 a0=some r):jC Tryz.prog 134 [.d (pF a0)] [gCa r.1,.b r.2]:=by
 obtain⟨ao,ap⟩:=a0;unfold gD3 at h;refine SpI Tryz.func134 fun A _=>?_;refine gH2 ?_;refine jO (P:=Tryz.prog) Mix.h [(0,true),(1,true),(2,true),(3,true),(4,true),(5,true),(6,true),(7,true),(8,true),(9,true),(10,true),(11,true),(12,true),(13,true),(14,true),(15,true),(16,true),(17,true),(18,false),(19,false)] (by kernel_rfl) ?_;refine goY ?_;obtain⟨⟨ad,be⟩,bv,h⟩:=gP h;refine jI rfl (gF (qY _ _ bv)) ?_;refine jI rfl (gIi) ?_;refine goY ?_;obtain⟨⟨cn,co⟩,bw,h⟩:=gP h;refine jI rfl (gF (qY _ _ bw)) ?_;obtain⟨x3,bx,h⟩:=gP h;refine jI rfl (gF (gEr _ bx)) ?_;refine goY ?_;obtain⟨⟨cp,cq⟩,bz,h⟩:=gP h;refine jI rfl (gF (qY _ _ bz)) ?_;obtain⟨⟨ae,ag,ah⟩,b0,h⟩:=gP h;refine jI rfl (gF (gPs _ _ b0)) ?_;refine goY ?_;obtain⟨⟨cr,cs⟩,b1,h⟩:=gP h;refine jI rfl (gF (qY _ _ b1)) ?_;obtain⟨x7,b2,h⟩:=gP h;refine jI rfl (gF (gRk _ b2)) ?_;refine goY ?_;obtain⟨⟨bh,ai⟩,b3,h⟩:=gP h;refine jI rfl (gF (qY _ _ b3)) ?_;refine jI rfl (gIi) ?_;refine goY ?_;refine kQ ?_;refine goL ?_;obtain⟨⟨aq,ar⟩,b4,h⟩:=gP h;refine jL (gF (qY _ _ b4)) ?_;refine gUh 3 2 10 rfl rfl (by repeat constructor) (by repeat constructor) ?_;obtain⟨⟨c,f,y,aa⟩,hb10,h⟩:=gP h;refine gEf ⟨[(1,.ptr 0 0),(2,.ptr 1 0),(4,.ptr 2 0)],[bSx ao ap,.box [.S [],.nilsl,.I 0,.S [],.nilsl,.nilsl,.B false,.B false,.I 0,.S [],.nilsl,.nilsl],.box [.S ad,.L 1 (jP x3),.I ae,.S ag,.L 3 (jJ ah),.L 4 (kV x7),.d (.b (decide ((ai.length:Int) > 0))),.B c,.I f,.S y,.L 3 (jJ aa),.nilsl],bSx aq ar],Tryz.f134.ntmps⟩ ?_ ?_
 ·refine kX (fun a7=>?_) (fun a7=>?_)
  ·replace hb10:=kD a7 hb10;refine goL ?_;obtain⟨b5,au,hb10⟩:=gP hb10;obtain⟨a8,au⟩:=gEd au;obtain⟨b6,b7⟩:=b5;refine jL (qP a8 (uG au)) ?_;obtain⟨⟨b8,b9,ca⟩,bi,hb10⟩:=gP hb10;refine jL (gF (gPs _ _ bi)) ?_;cases hb10;exact eJ
  ·replace hb10:=kE a7 hb10;refine zA ?_;cases hb10;exact eJ
 refine goL ?_;obtain⟨a9,bj,h⟩:=gP h;refine jL (gF (gNy _ _ bj)) ?_;refine noB ?_;refine wT 242 11 2 11 rfl rfl (by repeat constructor) (by repeat constructor) (by repeat constructor) (by repeat constructor) ?_;show V _ _ _ _ _;refine gBx 6 (fun ct=>?_);refine kS (fun(ab:Nat) (aj:List gC0) (ak:Nat)=>⟨[(1,.ptr 0 0),(2,.ptr 1 0),(4,.ptr 2 0),(6,.L 2 (jA a9)),(7,.N ab)],[bSx ao ap,.box [.S [],.nilsl,.I 0,.S [],.nilsl,.nilsl,.B false,.B false,.I 0,.S [],.nilsl,.nilsl],.box [.S ad,.L 1 (jP x3),.I ae,.S ag,.L 3 (jJ ah),.L 4 (kV x7),.d (.b (decide ((ai.length:Int) > 0))),.B c,.I f,.S y,.L 3 (jJ aa),.sl 4 ak],bSx aq ar,.arr 242 11 ak (gGo aj)],Tryz.f134.ntmps⟩) (fun ab aj ak=>vP (gD.mk ao ap) (gD.mk ad be) x3 (gB.mk ae ag ah) x7 (gD.mk bh ai) (c,f,y,aa) (a9.drop ab) aj=some r) (fun ab aj ak=>a9.length - ab) 0 [] 0 eJ h ?_;rintro ab aj ak h;refine goL ?_;refine kX (fun ba=>?_) (fun ba=>?_)
 ·have ac:=uR ba;obtain⟨cb,av,bb⟩:=drop_at ac;rw [bb,vP.eq_2] at h;obtain⟨cc,cd⟩:=cb;refine noS ?_;refine jW (jE ?_);refine uF (P:=Tryz.prog) Mix.h [(0,true),(1,true),(2,true),(3,true),(4,true),(5,true),(6,true),(7,true),(8,true),(9,true),(10,true),(11,true),(12,true),(13,true),(14,true),(15,true),(16,true),(17,true),(18,true),(19,true),(20,true),(21,false),(22,false),(23,true),(24,false)] (by kernel_rfl) ?_;refine goY ?_;refine jI rfl (jM ab (uG av)) ?_;refine goY ?_;obtain⟨⟨aw,ce⟩,bk,h⟩:=gP h;refine jI rfl (gF (qY _ _ bk)) ?_;refine jI rfl (gIi) ?_;refine goY ?_;refine jI rfl (jM ab (uG av)) ?_;refine goY ?_;obtain⟨⟨cf,cg⟩,bl,h⟩:=gP h;refine jI rfl (gF (qY _ _ bl)) ?_;obtain⟨bm,bn,h⟩:=gP h;refine jI rfl (gF (gEr _ bn)) ?_;refine goY ?_;refine jI rfl (jM ab (uG av)) ?_;refine goY ?_;obtain⟨⟨ch,ci⟩,bo,h⟩:=gP h;refine jI rfl (gF (qY _ _ bo)) ?_;obtain⟨⟨ax,ay,a3,a4,⟨al,am,an⟩,a5,a6⟩,bp,h⟩:=gP h;refine jI rfl (gF (gRw _ _ bp)) ?_;refine goY ?_;refine qE (T:=179) (us:=gGo [(gC0.mk aw bm (kJ.mk ax ay a3 a4 (gB.mk al am an) a5 a6))]) ?_;obtain⟨cj,h⟩:=mW h;refine pV (T:=179) cj ?_;refine goY ?_;refine kQ ?_;refine goL ?_;refine jL (jR ab (by omega)) ?_;exact⟨(ab+1),(aj++[(gC0.mk aw bm (kJ.mk ax ay a3 a4 (gB.mk al am an) a5 a6))]),(ak+1),h,by omega,eJ⟩
 ·have ac:=uS ba;rw [jF ac,vP.eq_1] at h;refine noX ?_;refine gH2 ?_;refine kN 4 rfl rfl ?_;obtain⟨ck,hb27,h⟩:=gP h;refine uJ (P:=Tryz.prog) Mix.h ⟨[(2,.ptr 1 0),(4,.ptr 2 0),(86,.B ck)],[bSx ao ap,.box [.S [],.nilsl,.I 0,.S [],.nilsl,.nilsl,.B false,.B false,.I 0,.S [],.nilsl,.nilsl],.box [.S ad,.L 1 (jP x3),.I ae,.S ag,.L 3 (jJ ah),.L 4 (kV x7),.d (.b (decide ((ai.length:Int) > 0))),.B c,.I f,.S y,.L 3 (jJ aa),.sl 4 ak],bSx aq ar,.frz 242 11 ak (gGo aj)],Tryz.f134.ntmps⟩ (by kernel_rfl) ?_ ?_
  ·refine goL ?_;obtain⟨cu,bq,hb27⟩:=gP hb27;refine gE7 (gF (yL _ bq)) ?_;refine goL ?_;refine yQ 74 (fun bc=>?_) (fun bc=>?_)
   ·replace hb27:=kD bc hb27;refine goL ?_;cases hb27;exact eJ
   ·replace hb27:=kE bc hb27;refine goL ?_;refine yQ 80 (fun bd=>?_) (fun bd=>?_)
    ·replace hb27:=kD bd hb27;refine goL ?_;cases hb27;exact eJ
    ·replace hb27:=kE bd hb27;refine goL ?_;obtain⟨⟨cl,cm⟩,br,hb27⟩:=gP hb27;refine hM6 (hHy (gNr (kG.mk ad x3 (gB.mk ae ag ah) x7 (decide ((ai.length:Int) > 0)) c (gB.mk f y aa) aj) br)) ?_;refine goL ?_;obtain⟨cv,bt,hb27⟩:=gP hb27;refine gDf (gF (gGg _ _ _ bt)) ?_;refine goL ?_;cases hb27;exact eJ
  refine goC h ?_ ?_<;>intro cw h
  ·refine goL ?_;refine gAq (jU TBd.h TZ.h rfl (by repeat constructor)) ?_;exact goR h
  ·refine goS ?_;refine jK ?_;cases h;exact qA
def vQ(a0:gD)(x1:gD)(x3:List (List UInt8))(x5:List gY)(x7:gB)(x9:kJ):List gD→(List gHo)→Option (mH × Bool)
 | [],c=>bnd (bnd (qK a0) fun ah=>
(cnd (!ah) ((some true)) ((cnd ((a0.list.length:Int)==0) ((some true)) (bnd (gD2 (mH.mk x1.atom x3 x5 c x7 x9)) fun ai=>
bnd (gCl 5000 ai a0) fun aj=>
(some (!aj))))))) fun ak=>
(cnd ak (
(some ((mH.mk [] [] [] [] (gB.mk 0 [] []) (kJ.mk 0 [] [] 0 (gB.mk 0 [] []) [] [])),false))) (
(some ((mH.mk x1.atom x3 x5 c x7 x9),true))))
 | f::xs,c=>bnd (qL f 0) fun h=>
bnd (qL f 1) fun al=>
bnd (gMs 5000 al) fun y=>
gd (c.length+[(gHo.mk h.atom y)].length≤4294967296) (
vQ a0 x1 x3 x5 x7 x9 xs (c++[(gHo.mk h.atom y)]))
def gD4(c:gD):Option (mH × Bool):=
bnd (qL c 1) fun h=>
bnd (qL c 2) fun y=>
bnd (gCn y) fun x3=>
bnd (qL c 3) fun x4=>
bnd (gJo x4) fun x5=>
bnd (qL c 5) fun x6=>
bnd (gMs 5000 x6) fun x7=>
bnd (qL c 6) fun x8=>
bnd (gFl 5000 x8) fun x9=>
bnd (qL c 4) fun f=>
vQ c h x3 x5 x7 x9 f.list []
theorem gNx(a0:gD){r:mH × Bool}(h:gD4 a0=some r):jC Tryz.prog 135 [.d (pF a0)] [gFs r.1,.b r.2]:=by
 obtain⟨aq,ar⟩:=a0;unfold gD4 at h;refine SpI Tryz.func135 fun A _=>?_;refine gH2 ?_;refine jO (P:=Tryz.prog) Mix.h [(0,true),(1,true),(2,true),(3,true),(4,true),(5,true),(6,true),(7,true),(8,true),(9,true),(10,true),(11,true),(12,true),(13,true),(14,true),(15,true),(16,false),(17,false)] (by kernel_rfl) ?_;refine goY ?_;obtain⟨⟨ag,a8⟩,bj,h⟩:=gP h;refine jI rfl (gF (qY _ _ bj)) ?_;refine jI rfl (gIi) ?_;refine goY ?_;obtain⟨⟨b4,b5⟩,bk,h⟩:=gP h;refine jI rfl (gF (qY _ _ bk)) ?_;obtain⟨x3,bl,h⟩:=gP h;refine jI rfl (gF (gEr _ bl)) ?_;refine goY ?_;obtain⟨⟨b6,b7⟩,bm,h⟩:=gP h;refine jI rfl (gF (qY _ _ bm)) ?_;obtain⟨x5,bn,h⟩:=gP h;refine jI rfl (gF (gRk _ bn)) ?_;refine goY ?_;obtain⟨⟨b8,b9⟩,bo,h⟩:=gP h;refine jI rfl (gF (qY _ _ bo)) ?_;obtain⟨⟨ah,ai,aj⟩,bp,h⟩:=gP h;refine jI rfl (gF (gPs _ _ bp)) ?_;refine goY ?_;obtain⟨⟨ca,cb⟩,bq,h⟩:=gP h;refine jI rfl (gF (qY _ _ bq)) ?_;obtain⟨⟨ak,al,am,an,⟨c,f,y⟩,ao,ap⟩,br,h⟩:=gP h;refine jI rfl (gF (gRw _ _ br)) ?_;refine goY ?_;refine kQ ?_;refine goL ?_;obtain⟨⟨au,ab⟩,a9,h⟩:=gP h;refine jL (gF (qY _ _ a9)) ?_;refine noB ?_;refine wT 245 4 2 3 rfl rfl (by repeat constructor) (by repeat constructor) (by repeat constructor) (by repeat constructor) ?_;show V _ _ _ _ _;refine wN 3 1 (fun cc=>?_);refine kS (fun(aa:Nat) (ad:List gHo) (ae:Nat)=>⟨[(1,.ptr 0 0),(2,.ptr 1 0),(4,.ptr 2 0),(5,.ptr 3 0),(6,.N aa)],[bSx aq ar,.box [.S [],.nilsl,.nilsl,.nilsl,.I 0,.S [],.nilsl,.I 0,.S [],.S [],.I 0,.I 0,.S [],.nilsl,.nilsl,.nilsl],.box [.S ag,.L 1 (jP x3),.L 4 (kV x5),.sl 4 ae,.I ah,.S ai,.L 3 (jJ aj),.I ak,.S al,.S am,.I an,.I c,.S f,.L 3 (jJ y),.L 9 (gB8 ao),.L 11 (gKw ap)],bSx au ab,.arr 245 4 ae (gHp ad)],Tryz.f135.ntmps⟩) (fun aa ad ae=>vQ (gD.mk aq ar) (gD.mk ag a8) x3 x5 (gB.mk ah ai aj) (kJ.mk ak al am an (gB.mk c f y) ao ap) (ab.drop aa) ad=some r) (fun aa ad ae=>ab.length - aa) 0 [] 0 eJ h ?_;rintro aa ad ae h;refine goL ?_;refine kX (fun a4=>?_) (fun a4=>?_)
 ·have ac:=uR a4;obtain⟨bt,a3,a5⟩:=drop_at ac;rw [a5,vQ.eq_2] at h;obtain⟨bu,bv⟩:=bt;refine noS ?_;refine jW (jE ?_);refine uF (P:=Tryz.prog) Mix.h [(0,true),(1,true),(2,true),(3,true),(4,true),(5,true),(6,true),(7,true),(8,true),(9,true),(10,true),(11,true),(12,true),(13,true),(14,true),(15,true),(16,true),(17,false),(18,false),(19,true),(20,false)] (by kernel_rfl) ?_;refine goY ?_;refine jI rfl (jM aa (uG a3)) ?_;refine goY ?_;obtain⟨⟨av,bw⟩,ba,h⟩:=gP h;refine jI rfl (gF (qY _ _ ba)) ?_;refine jI rfl (gIi) ?_;refine goY ?_;refine jI rfl (jM aa (uG a3)) ?_;refine goY ?_;obtain⟨⟨bx,bz⟩,bb,h⟩:=gP h;refine jI rfl (gF (qY _ _ bb)) ?_;obtain⟨⟨aw,ax,ay⟩,bc,h⟩:=gP h;refine jI rfl (gF (gPs _ _ bc)) ?_;refine goY ?_;refine qE (T:=199) (us:=gHp [(gHo.mk av (gB.mk aw ax ay))]) ?_;obtain⟨b0,h⟩:=mW h;refine pV (T:=199) b0 ?_;refine goY ?_;refine kQ ?_;refine goL ?_;refine jL (jR aa (by omega)) ?_;exact⟨(aa+1),(ad++[(gHo.mk av (gB.mk aw ax ay))]),(ae+1),h,by omega,eJ⟩
 ·have ac:=uS a4;rw [jF ac,vQ.eq_1] at h;refine noX ?_;refine gH2 ?_;refine kN 4 rfl rfl ?_;obtain⟨b1,hb21,h⟩:=gP h;refine uJ (P:=Tryz.prog) Mix.h ⟨[(2,.ptr 1 0),(4,.ptr 2 0),(67,.B b1)],[bSx aq ar,.box [.S [],.nilsl,.nilsl,.nilsl,.I 0,.S [],.nilsl,.I 0,.S [],.S [],.I 0,.I 0,.S [],.nilsl,.nilsl,.nilsl],.box [.S ag,.L 1 (jP x3),.L 4 (kV x5),.sl 4 ae,.I ah,.S ai,.L 3 (jJ aj),.I ak,.S al,.S am,.I an,.I c,.S f,.L 3 (jJ y),.L 9 (gB8 ao),.L 11 (gKw ap)],bSx au ab,.frz 245 4 ae (gHp ad)],Tryz.f135.ntmps⟩ (by kernel_rfl) ?_ ?_
  ·refine goL ?_;obtain⟨cd,bd,hb21⟩:=gP hb21;refine gE7 (gF (yL _ bd)) ?_;refine goL ?_;refine yQ 55 (fun a6=>?_) (fun a6=>?_)
   ·replace hb21:=kD a6 hb21;refine goL ?_;cases hb21;exact eJ
   ·replace hb21:=kE a6 hb21;refine goL ?_;refine yQ 61 (fun a7=>?_) (fun a7=>?_)
    ·replace hb21:=kD a7 hb21;refine goL ?_;cases hb21;exact eJ
    ·replace hb21:=kE a7 hb21;refine goL ?_;obtain⟨⟨b2,b3⟩,be,hb21⟩:=gP hb21;refine hM6 (hHy (gNs (mH.mk ag x3 x5 ad (gB.mk ah ai aj) (kJ.mk ak al am an (gB.mk c f y) ao ap)) be)) ?_;refine goL ?_;obtain⟨ce,bf,hb21⟩:=gP hb21;refine gDf (gF (gGg _ _ _ bf)) ?_;refine goL ?_;cases hb21;exact eJ
  refine goC h ?_ ?_<;>intro cf h
  ·refine goL ?_;refine gAq (jU TBd.h TZ.h rfl (by repeat constructor)) ?_;exact goR h
  ·refine goS ?_;refine jK ?_;cases h;exact qA
def gD5:List mH→Option (Bool)
 | []=>(some true)
 | c::xs=>bnd (gBu c) fun f=>
(cnd (!f) (
(some false)) (
gD5 xs ))
def gD6(h:kI):List kG→Option (Bool)
 | []=>gD5 h.functions
 | c::xs=>bnd (gBt c) fun f=>
(cnd (!f) (
(some false)) (
gD6 h xs ))
def gD7(c:kI):List mJ→Option (Bool)
 | []=>gD6 c c.instances
 | f::xs=>bnd (gBs f) fun h=>
(cnd (!h) (
(some false)) (
gD7 c xs ))
def gD8(c:kI):List qV→Option (Bool)
 | []=>gD7 c c.dataTypes
 | f::xs=>bnd (gEg f) fun h=>
(cnd (!h) (
(some false)) (
gD8 c xs ))
def gOz(c:kI):Option (Bool):=
gD8 c c.traits
theorem hEg(a0:kI){r:Bool}(h:gOz a0=some r):jC Tryz.prog 141 [.d (gE8 a0)] [.b r]:=by
 obtain⟨ab,ac,c,f,y,aa⟩:=a0;unfold gOz at h;refine SpI Tryz.func141 fun A _=>?_;refine goL ?_;refine noB ?_;refine wN 0 2 (fun z2=>?_);refine mQ (fun(y1:Nat)=>⟨[(1,.ptr 0 0),(3,.N y1)],[bPk ab ac c f y aa],Tryz.f141.ntmps⟩) (fun y1=>gD8 (kI.mk ab ac c f y aa) (c.drop y1)  =some r) (fun y1=>c.length - y1) 0 eJ h ?_;rintro y1 h;refine goL ?_;refine kX (fun c3=>?_) (fun c3=>?_)
 ·have ai:=uR c3;obtain⟨x4,bw,bg⟩:=drop_at ai;rw [bg,gD8.eq_2] at h;obtain⟨cd,ce,cf,cg,ch⟩:=x4;refine noS ?_;refine jW (jE ?_);refine goL ?_;refine jL (jM y1 (gXw bw)) ?_;obtain⟨x5,bx,h⟩:=gP h;refine jL (gF (gLq _ bx)) ?_;refine kX (fun c6=>?_) (fun c6=>?_)
  ·replace h:=kD c6 h;exact goR h
  ·replace h:=kE c6 h;refine goS ?_;refine jL (jR y1 (by omega)) ?_;exact⟨(y1+1),h,by omega,eJ⟩
 ·have ai:=uS c3;rw [jF ai,gD8.eq_1] at h;refine goX ?_;refine noB ?_;refine wN 0 3 (fun z8=>?_);refine mQ (fun(y7:Nat)=>⟨[(1,.ptr 0 0),(4,.N y7)],[bPk ab ac c f y aa],Tryz.f141.ntmps⟩) (fun y7=>gD7 (kI.mk ab ac c f y aa) (f.drop y7)  =some r) (fun y7=>f.length - y7) 0 eJ h ?_;rintro y7 h;refine goL ?_;refine kX (fun c9=>?_) (fun c9=>?_)
  ·have aj:=uR c9;obtain⟨b1,bh,a4⟩:=drop_at aj;rw [a4,gD7.eq_2] at h;obtain⟨b2,b3,b4⟩:=b1;refine noS ?_;refine jW (jE ?_);refine goL ?_;refine jL (jM y7 (gN8 bh)) ?_;obtain⟨cj,bi,h⟩:=gP h;refine jL (gF (gH6 _ bi)) ?_;refine kX (fun a5=>?_) (fun a5=>?_)
   ·replace h:=kD a5 h;exact goR h
   ·replace h:=kE a5 h;refine goS ?_;refine jL (jR y7 (by omega)) ?_;exact⟨(y7+1),h,by omega,eJ⟩
  ·have aj:=uS c9;rw [jF aj,gD7.eq_1] at h;refine goX ?_;refine noB ?_;refine wN 0 4 (fun ck=>?_);refine mQ (fun(ad:Nat)=>⟨[(1,.ptr 0 0),(5,.N ad)],[bPk ab ac c f y aa],Tryz.f141.ntmps⟩) (fun ad=>gD6 (kI.mk ab ac c f y aa) (y.drop ad)  =some r) (fun ad=>y.length - ad) 0 eJ h ?_;rintro ad h;refine goL ?_;refine kX (fun a6=>?_) (fun a6=>?_)
   ·have ae:=uR a6;obtain⟨b5,bj,a7⟩:=drop_at ae;rw [a7,gD6.eq_2] at h;obtain⟨b6,b7,⟨bk,bl,bm⟩,b8,b9,ca,⟨bn,bo,bp⟩,cb⟩:=b5;refine noS ?_;refine jW (jE ?_);refine goL ?_;refine jL (jM ad (gHn bj)) ?_;obtain⟨cl,bq,h⟩:=gP h;refine jL (gF (gH8 _ bq)) ?_;refine kX (fun a8=>?_) (fun a8=>?_)
    ·replace h:=kD a8 h;exact goR h
    ·replace h:=kE a8 h;refine goS ?_;refine jL (jR ad (by omega)) ?_;exact⟨(ad+1),h,by omega,eJ⟩
   ·have ae:=uS a6;rw [jF ae,gD6.eq_1] at h;refine goX ?_;refine noB ?_;refine wN 0 5 (fun cm=>?_);refine mQ (fun(ag:Nat)=>⟨[(1,.ptr 0 0),(6,.N ag)],[bPk ab ac c f y aa],Tryz.f141.ntmps⟩) (fun ag=>gD5 (aa.drop ag)  =some r) (fun ag=>aa.length - ag) 0 eJ h ?_;rintro ag h;refine goL ?_;refine kX (fun a9=>?_) (fun a9=>?_)
    ·have ah:=uR a9;obtain⟨cc,br,ba⟩:=drop_at ah;rw [ba,gD5.eq_2] at h;obtain⟨bb,bc,bd,be,⟨an,ao,ap⟩,⟨aq,ar,au,av,⟨ak,al,am⟩,aw,ax⟩⟩:=cc;refine noS ?_;refine jW (jE ?_);refine goL ?_;refine jL (jM ag (gX1 br)) ?_;obtain⟨cn,bt,h⟩:=gP h;refine jL (gF (gH9 (mH.mk bb bc bd be (gB.mk an ao ap) (kJ.mk aq ar au av (gB.mk ak al am) aw ax)) bt)) ?_;refine kX (fun bf=>?_) (fun bf=>?_)
     ·replace h:=kD bf h;exact goR h
     ·replace h:=kE bf h;refine goS ?_;refine jL (jR ag (by omega)) ?_;exact⟨(ag+1),h,by omega,eJ⟩
    ·have ah:=uS a9;rw [jF ah,gD5.eq_1] at h;refine goX ?_;refine jK ?_;cases h;exact qA
end Go.Proofs.YtegahmhnmjnhhaaGreat
