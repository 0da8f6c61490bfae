import Derived.Test.YtegahmhnmjnhhaaGreatB17
set_option maxHeartbeats 4000000
set_option linter.unusedVariables false
set_option linter.unusedSimpArgs false
set_option linter.unusedSectionVars false
namespace Go.Proofs.YtegahmhnmjnhhaaGreat
open Go Go.Eng
attribute [local irreducible] V VO VQ VY Quiet QR gY kR Rng mU mW mG
def zL(y:gD):List qL→(List gD)→Option (gD)
 | [],h=>bnd (gP5 true (gD.mk y.atom h)) fun ad=>
(some ad)
 | c::xs,h=>lt_ (mF c.name) fun ae=>
bnd (gMb c.params) fun ag=>
bnd (gM1 5000 c.result) fun ah=>
bnd (gJt [ae,(gD.mk [] ag),ah]) fun f=>
bnd ((cnd c.hasDefault (
bnd (gBh c.vars) fun aa=>
bnd (gNn 5000 c.body) fun ab=>
gd (f.list.length+[aa,ab].length≤4294967296) (
(some (f.list++[aa,ab])))) (
(some f.list)))) fun ac=>
gd (h.length+[(gD.mk f.atom ac)].length≤4294967296) (
zL y xs (h++[(gD.mk f.atom ac)]))
def gH1(c:uG):Option (gD):=
bnd (gD2 c) fun x1=>
(cnd (!x1) (
(some (gD.mk [] []))) (
bnd ((cnd c.auto (
gd (([]:LS).length+([[97,117,116,111]]:LS).length≤4294967296) (
(some ([]++[[97,117,116,111]])))) (
(some [])))) fun h=>
bnd ((cnd c.assoc (
gd (h.length+([[97,115,115,111,99]]:LS).length≤4294967296) (
(some (h++[[97,115,115,111,99]])))) (
(some h)))) fun b7=>
lt_ (mF [116,114,97,105,116]) fun y=>
lt_ (mF c.name) fun aa=>
bnd (gBh c.supertraits) fun ab=>
bnd (gBh b7) fun ac=>
bnd (gJt [y,aa,ab,ac]) fun f=>
zL f c.signatures f.list))
theorem gTc(a0:uG){r:gD}(h:gH1 a0=some r):gY Tryz.prog 170 [.d (gM2 a0)] [pJ r]:=by
 obtain⟨aq,ar,au,av,al⟩:=a0;unfold gH1 at h;refine SpI Tryz.func170 fun A _=>?_;refine goL ?_;obtain⟨x1,cf,h⟩:=gM h;refine jI (gF (gLe _ cf)) ?_;refine kX (fun c2=>?_) (fun c2=>?_)
 ·replace h:=kD c2 h;refine goL ?_;refine zZ (jX TBd.h TZ.h rfl (by repeat constructor)) ?_;exact goR h
 ·replace h:=kE c2 h;refine goS ?_;refine gGk ?_;refine goL ?_;obtain⟨b3,hb3,h⟩:=gM h;refine gNi (fun v4=>⟨[(1,.ptr 0 0),(2,.ptr 1 0),(3,.sl 2 v4)],[bTr aq ar au av al,.box [.S [],.nilsl],.own 9 1 v4 (jL b3)],Tryz.f170.ntmps⟩) ?_ (fun v4=>?_)
  ·refine kX (fun c5=>?_) (fun c5=>?_)
   ·replace hb3:=kD c5 hb3;refine goL ?_;refine gBc ([97,117,116,111]:LB) ?_;obtain⟨g6,hb3⟩:=mY hb3;refine gIe g6 ?_;refine goL ?_;cases hb3;exact⟨(0+1),eJ⟩
   ·replace hb3:=kE c5 hb3;refine gAn ?_;cases hb3;exact⟨0,eJ⟩
  refine goL ?_;obtain⟨b7,hb7,h⟩:=gM h;refine gNi (fun v8=>⟨[(1,.ptr 0 0),(2,.ptr 1 0),(3,.sl 2 v8)],[bTr aq ar au av al,.box [.S [],.nilsl],.own 9 1 v8 (jL b7)],Tryz.f170.ntmps⟩) ?_ (fun v8=>?_)
  ·refine kX (fun c9=>?_) (fun c9=>?_)
   ·replace hb7:=kD c9 hb7;refine goL ?_;refine gBc ([97,115,115,111,99]:LB) ?_;obtain⟨cj,hb7⟩:=mY hb7;refine gIe cj ?_;refine goL ?_;cases hb7;exact⟨(v4+1),eJ⟩
   ·replace hb7:=kE c9 hb7;refine gAn ?_;cases hb7;exact⟨v4,eJ⟩
  refine gId ?_;refine qU 2 rfl rfl ?_;refine hZ4 ?_;obtain⟨⟨c,f⟩,b1,h⟩:=qA h;have sx11:=mO [116,114,97,105,116];rw [b1] at sx11;obtain⟨⟨y,aa⟩,b2,h⟩:=qA h;have sx12:=mO aq;rw [b2] at sx12;obtain⟨⟨ab,ac⟩,b4,h⟩:=gM h;obtain⟨⟨ad,ae⟩,b5,h⟩:=gM h;obtain⟨⟨ah,bb⟩,bn,h⟩:=gM h;refine qJ (P:=Tryz.prog) Mix.h (.q 0 (.q 1 (.q 2 (.q 3 (.q 4 (.q 5 (.q 6 (.q 7 (.q 8 (.h 9 (.h 10 (.h 11 (.h 12 .nil .nil) .nil) (.h 11 (.h 10 (.h 12 .nil .nil) .nil) .nil)) (.h 11 (.h 9 (.h 10 (.h 12 .nil .nil) .nil) .nil) .nil))))))))))) ⟨[(1,.ptr 0 0),(2,.ptr 1 0),(4,.ptr 5 0)],[bTr aq ar au av al,.box [.S [],.nilsl],.frz 9 1 v8 (jL b7),.frz 135 2 0 (gX [(gD.mk c f),(gD.mk y aa),(gD.mk ab ac),(gD.mk ad ae)]),.arr 135 2 0 (gX bb),.box [.S ah,.sl 4 0]],Tryz.f170.ntmps⟩ (by kernel_rfl) ?_ ?_
  ·refine gAt (jF rfl (gF (sx11)) jU) ?_;refine goT ?_;refine gAt (jF rfl (gF (sx12)) jU) ?_;refine goT ?_;refine gAt (jF rfl (gF (uO _ b4)) jU) ?_;refine goT ?_;refine gAt (jF rfl (gF (uO _ b5)) jU) ?_;refine uV (qE (T:=133) (us:=gX [(gD.mk c f),(gD.mk y aa),(gD.mk ab ac),(gD.mk ad ae)]) jU) ?_ ?_
   ·refine uV (gBe 3 rfl rfl (gC5 (sv:=.ag [.S ah,.sl 4 0]) (L':=[bTr aq ar au av al,.box [.S [],.nilsl],.frz 9 1 v8 (jL b7),.frz 135 2 0 (gX [(gD.mk c f),(gD.mk y aa),(gD.mk ab ac),(gD.mk ad ae)]),.arr 135 2 0 (gX bb)]) [] (vD [(gD.mk c f),(gD.mk y aa),(gD.mk ab ac),(gD.mk ad ae)] bn) jU)) ?_ ?_
    ·refine goT ?_;refine jV ?_;exact qX 0 [0,1,2,3,4,5]
    refine goT ?_;refine jR (gBe 3 rfl rfl (gC5 (sv:=.ag [.S ah,.sl 5 0]) (L':=[bTr aq ar au av al,.box [.S [],.nilsl],.frz 9 1 v8 (jL b7),.frz 135 2 0 (gX [(gD.mk c f),(gD.mk y aa),(gD.mk ab ac),(gD.mk ad ae)]),.box [.S [],.nilsl],.arr 135 2 0 (gX bb)]) [] (vD [(gD.mk c f),(gD.mk y aa),(gD.mk ab ac),(gD.mk ad ae)] bn) jU)) ?_;refine goT ?_;refine jV ?_;exact qX 0 [0,1,2,3,5,4]
   refine goT ?_;refine jR (qE (T:=133) (us:=gX [(gD.mk c f),(gD.mk y aa),(gD.mk ab ac),(gD.mk ad ae)]) jU) ?_;refine jR (gBe 4 rfl rfl (gC5 (sv:=.ag [.S ah,.sl 5 0]) (L':=[bTr aq ar au av al,.box [.S [],.nilsl],.frz 9 1 v8 (jL b7),.box [.S [],.nilsl],.frz 135 2 0 (gX [(gD.mk c f),(gD.mk y aa),(gD.mk ab ac),(gD.mk ad ae)]),.arr 135 2 0 (gX bb)]) [] (vD [(gD.mk c f),(gD.mk y aa),(gD.mk ab ac),(gD.mk ad ae)] bn) jU)) ?_;refine goT ?_;refine jV ?_;exact qX 0 [0,1,2,4,5,3]
  refine goL ?_;refine noB ?_;refine wJ 0 4 (fun cr=>?_);refine kS (fun(be:Nat)(bd:List gD)(a9:Nat)=>⟨[(1,.ptr 0 0),(2,.ptr 1 0),(4,.ptr 5 0),(5,.N be)],[bTr aq ar au av al,.box [.S [],.nilsl],.frz 9 1 v8 (jL b7),.frz 135 2 0 (gX [(gD.mk c f),(gD.mk y aa),(gD.mk ab ac),(gD.mk ad ae)]),.arr 135 2 a9 (gX bd),.box [.S ah,.sl 4 a9]],Tryz.f170.ntmps⟩) (fun be bd a9=>zL (gD.mk ah bb) (al.drop be) bd=some r) (fun be bd a9=>al.length - be) 0 bb 0 eJ h ?_;rintro be bd a9 h;refine goL ?_;refine kX (fun bp=>?_) (fun bp=>?_)
  ·have bj:=uR bp;obtain⟨ck,b6,bq⟩:=drop_at bj;rw [bq,zL.eq_2] at h;obtain⟨bc,bf,⟨aw,ax,ay⟩,bg,bh,⟨a3,a4,a5,a6,⟨ai,aj,ak⟩,a7,a8⟩⟩:=ck;refine noS ?_;refine jY (jA ?_);refine goL ?_;refine qK (jJ be (gPw b6)) ?_;refine gId ?_;obtain⟨⟨am,an⟩,b8,h⟩:=qA h;have sx22:=mO bc;rw [b8] at sx22;obtain⟨bi,b9,h⟩:=gM h;obtain⟨⟨ao,ap⟩,ca,h⟩:=gM h;obtain⟨⟨ba,bk⟩,bo,h⟩:=gM h;refine qJ (P:=Tryz.prog) Mix.h (.q 0 (.q 1 (.q 2 (.q 3 (.q 4 (.q 5 (.q 6 (.q 7 (.q 8 (.q 9 (.h 10 (.h 11 (.h 12 (.h 13 .nil .nil) .nil) (.h 12 (.h 11 (.h 13 .nil .nil) .nil) .nil)) (.h 12 (.h 10 (.h 11 (.h 13 .nil .nil) .nil) .nil) .nil)))))))))))) ⟨[(1,.ptr 0 0),(2,.ptr 1 0),(4,.ptr 5 0),(5,.N be),(6,.ptr 6 0),(7,.ptr 9 0)],[bTr aq ar au av al,.box [.S [],.nilsl],.frz 9 1 v8 (jL b7),.frz 135 2 0 (gX [(gD.mk c f),(gD.mk y aa),(gD.mk ab ac),(gD.mk ad ae)]),.arr 135 2 a9 (gX bd),.box [.S ah,.sl 4 a9],bSg bc bf aw ax ay bg bh a3 a4 a5 a6 ai aj ak a7 a8,.frz 135 2 0 (gX [(gD.mk am an),(gD.mk [] bi),(gD.mk ao ap)]),.arr 135 2 0 (gX bk),.box [.S ba,.sl 8 0]],Tryz.f170.ntmps⟩ (by kernel_rfl) ?_ ?_
   ·refine goT ?_;refine gAt (jF rfl (gF (sx22)) jU) ?_;refine goT ?_;refine gAt (jF rfl (gF (gUd _ b9)) jU) ?_;refine goT ?_;refine gAt (jF rfl (gF (gKu _ _ ca)) jU) ?_;refine uV (qE (T:=133) (us:=gX [(gD.mk am an),(gD.mk [] bi),(gD.mk ao ap)]) jU) ?_ ?_
    ·refine uV (gBe 7 rfl rfl (gC5 (sv:=.ag [.S ba,.sl 8 0]) (L':=[bTr aq ar au av al,.box [.S [],.nilsl],.frz 9 1 v8 (jL b7),.frz 135 2 0 (gX [(gD.mk c f),(gD.mk y aa),(gD.mk ab ac),(gD.mk ad ae)]),.arr 135 2 a9 (gX bd),.box [.S ah,.sl 4 a9],bSg bc bf aw ax ay bg bh a3 a4 a5 a6 ai aj ak a7 a8,.frz 135 2 0 (gX [(gD.mk am an),(gD.mk [] bi),(gD.mk ao ap)]),.arr 135 2 0 (gX bk)]) [] (vD [(gD.mk am an),(gD.mk [] bi),(gD.mk ao ap)] bo) jU)) ?_ ?_
     ·refine goT ?_;refine jV ?_;exact qX 0 [0,1,2,3,4,5,6,7,8,9]
     refine goT ?_;refine jR (gBe 7 rfl rfl (gC5 (sv:=.ag [.S ba,.sl 9 0]) (L':=[bTr aq ar au av al,.box [.S [],.nilsl],.frz 9 1 v8 (jL b7),.frz 135 2 0 (gX [(gD.mk c f),(gD.mk y aa),(gD.mk ab ac),(gD.mk ad ae)]),.arr 135 2 a9 (gX bd),.box [.S ah,.sl 4 a9],bSg bc bf aw ax ay bg bh a3 a4 a5 a6 ai aj ak a7 a8,.frz 135 2 0 (gX [(gD.mk am an),(gD.mk [] bi),(gD.mk ao ap)]),.box [.S [],.nilsl],.arr 135 2 0 (gX bk)]) [] (vD [(gD.mk am an),(gD.mk [] bi),(gD.mk ao ap)] bo) jU)) ?_;refine goT ?_;refine jV ?_;exact qX 0 [0,1,2,3,4,5,6,7,9,8]
    refine goT ?_;refine jR (qE (T:=133) (us:=gX [(gD.mk am an),(gD.mk [] bi),(gD.mk ao ap)]) jU) ?_;refine jR (gBe 8 rfl rfl (gC5 (sv:=.ag [.S ba,.sl 9 0]) (L':=[bTr aq ar au av al,.box [.S [],.nilsl],.frz 9 1 v8 (jL b7),.frz 135 2 0 (gX [(gD.mk c f),(gD.mk y aa),(gD.mk ab ac),(gD.mk ad ae)]),.arr 135 2 a9 (gX bd),.box [.S ah,.sl 4 a9],bSg bc bf aw ax ay bg bh a3 a4 a5 a6 ai aj ak a7 a8,.box [.S [],.nilsl],.frz 135 2 0 (gX [(gD.mk am an),(gD.mk [] bi),(gD.mk ao ap)]),.arr 135 2 0 (gX bk)]) [] (vD [(gD.mk am an),(gD.mk [] bi),(gD.mk ao ap)] bo) jU)) ?_;refine goT ?_;refine jV ?_;exact qX 0 [0,1,2,3,4,5,6,8,9,7]
   refine goL ?_;obtain⟨br,hb26,h⟩:=gM h;refine gNi (fun bt=>⟨[(1,.ptr 0 0),(2,.ptr 1 0),(4,.ptr 5 0),(5,.N be),(7,.ptr 9 0)],[bTr aq ar au av al,.box [.S [],.nilsl],.frz 9 1 v8 (jL b7),.frz 135 2 0 (gX [(gD.mk c f),(gD.mk y aa),(gD.mk ab ac),(gD.mk ad ae)]),.arr 135 2 a9 (gX bd),.box [.S ah,.sl 4 a9],bSg bc bf aw ax ay bg bh a3 a4 a5 a6 ai aj ak a7 a8,.frz 135 2 0 (gX [(gD.mk am an),(gD.mk [] bi),(gD.mk ao ap)]),.arr 135 2 bt (gX br),.box [.S ba,.sl 8 bt]],Tryz.f170.ntmps⟩) ?_ (fun bt=>?_)
   ·refine kX (fun bu=>?_) (fun bu=>?_)
    ·replace hb26:=kD bu hb26;refine uM (P:=Tryz.prog) Mix.h [(0,true),(1,true),(2,true),(3,true),(4,true),(5,true),(6,true),(7,true),(8,false),(9,false),(10,true),(11,false)] (by kernel_rfl) ?_;refine goY ?_;obtain⟨⟨bv,bw⟩,cb,hb26⟩:=gM hb26;refine jF rfl (gF (uO _ cb)) ?_;refine goY ?_;obtain⟨⟨bx,bz⟩,cc,hb26⟩:=gM hb26;refine jF rfl (gF (hA4 _ _ cc)) ?_;refine qE (T:=133) (us:=gX [(gD.mk bv bw),(gD.mk bx bz)]) ?_;obtain⟨cl,hb26⟩:=mY hb26;refine pW (T:=133) cl ?_;refine goY ?_;refine kQ ?_;refine goL ?_;cases hb26;exact⟨(0+1),eJ⟩
    ·replace hb26:=kE bu hb26;refine gAn ?_;cases hb26;exact⟨0,eJ⟩
   refine goL ?_;refine uZ 8 rfl rfl ?_;refine hKl ?_;refine gAo (u:=(.st [.s ba,.sl 2 (gX br)])) ?_;obtain⟨cm,h⟩:=mY h;refine gBd cm ?_;refine goL ?_;refine jI (jW be (by omega)) ?_;exact⟨(be+1),(bd++[(gD.mk ba br)]),(a9+1),h,by omega,eJ⟩
  ·have bj:=uS bp;rw [jC bj,zL.eq_1] at h;refine goX ?_;refine uZ 4 rfl rfl ?_;refine hKl ?_;obtain⟨⟨cn,co⟩,cd,h⟩:=gM h;refine zZ (hJi (gWt true (gD.mk ah bd) cd)) ?_;exact goR h
def vX(a0:gD)(x1:gD)(x3:LS)(x5:gB)(x7:List gW)(x8:gD)(c:Bool × Int × LB × List gB):List gD→(List gC0)→Option (kG × Bool)
 | [],f=>bnd (bnd (qN a0) fun aj=>
(cnd (!aj) ((some true)) ((cnd ((a0.list.length:Int)==0) ((some true)) (bnd (gD4 (kG.mk x1.atom x3 x5 x7 (decide ((x8.list.length:Int) > 0)) c.1 (gB.mk c.2.1 c.2.2.1 c.2.2.2) f)) fun ak=>
bnd (gCl 5000 ak a0) fun al=>
(some (!al))))))) fun am=>
(cnd am (
(some ((kG.mk [] [] (gB.mk 0 [] []) [] false false (gB.mk 0 [] []) []),false))) (
(some ((kG.mk x1.atom x3 x5 x7 (decide ((x8.list.length:Int) > 0)) c.1 (gB.mk c.2.1 c.2.2.1 c.2.2.2) f),true))))
 | h::xs,f=>bnd (qM h 0) fun y=>
bnd (qM h 1) fun an=>
bnd (gCz an) fun aa=>
bnd (qM h 2) fun ao=>
bnd (gF5 5000 ao) fun ab=>
gd (f.length+[(gC0.mk y.atom aa ab)].length≤4294967296) (
vX a0 x1 x3 x5 x7 x8 c xs (f++[(gC0.mk y.atom aa ab)]))
def gEh(c:gD):Option (kG × Bool):=
bnd (qM c 1) fun x1=>
bnd (qM c 2) fun x2=>
bnd (gCz x2) fun x3=>
bnd (qM c 3) fun x4=>
bnd (gM4 5000 x4) fun x5=>
bnd (qM c 4) fun x6=>
bnd (gKb x6) fun x7=>
bnd (qM c 5) fun x8=>
bnd (qM c 6) fun x9=>
bnd ((cnd (decide ((x9.list.length:Int) > 0)) (
bnd (at? x9.list 0) fun h=>
bnd (gM4 5000 h) fun f=>
(some (true,f.kind,f.name,f.args))) (
(some (false,0,[],[]))))) fun y=>
bnd (gJs c 7) fun aa=>
vX c x1 x3 x5 x7 x8 y aa []
theorem gOr(a0:gD){r:kG × Bool}(h:gEh a0=some r):gY Tryz.prog 134 [.d (pJ a0)] [gCc r.1,.b r.2]:=by
 obtain⟨ao,ap⟩:=a0;unfold gEh at h;refine SpI Tryz.func134 fun A _=>?_;refine gId ?_;refine jK (P:=Tryz.prog) Mix.h [(0,true),(1,true),(2,true),(3,true),(4,true),(5,true),(6,true),(7,true),(8,true),(9,true),(10,true),(11,true),(12,true),(13,true),(14,true),(15,true),(16,true),(17,true),(18,false),(19,false)] (by kernel_rfl) ?_;refine goY ?_;obtain⟨⟨ad,be⟩,bv,h⟩:=gM h;refine jF rfl (gF (uB _ _ bv)) ?_;refine jF rfl (gIq) ?_;refine goY ?_;obtain⟨⟨cn,co⟩,bw,h⟩:=gM h;refine jF rfl (gF (uB _ _ bw)) ?_;obtain⟨x3,bx,h⟩:=gM h;refine jF rfl (gF (gE8 _ bx)) ?_;refine goY ?_;obtain⟨⟨cp,cq⟩,bz,h⟩:=gM h;refine jF rfl (gF (uB _ _ bz)) ?_;obtain⟨⟨ae,ag,ah⟩,b0,h⟩:=gM h;refine jF rfl (gF (gQl _ _ b0)) ?_;refine goY ?_;obtain⟨⟨cr,cs⟩,b1,h⟩:=gM h;refine jF rfl (gF (uB _ _ b1)) ?_;obtain⟨x7,b2,h⟩:=gM h;refine jF rfl (gF (gS7 _ b2)) ?_;refine goY ?_;obtain⟨⟨bh,ai⟩,b3,h⟩:=gM h;refine jF rfl (gF (uB _ _ b3)) ?_;refine jF rfl (gIq) ?_;refine goY ?_;refine kQ ?_;refine goL ?_;obtain⟨⟨aq,ar⟩,b4,h⟩:=gM h;refine jI (gF (uB _ _ b4)) ?_;refine gYm 3 2 10 rfl rfl (by repeat constructor) (by repeat constructor) ?_;obtain⟨⟨c,f,y,aa⟩,hb10,h⟩:=gM h;refine gE4 ⟨[(1,.ptr 0 0),(2,.ptr 1 0),(4,.ptr 2 0)],[bSx ao ap,.box [.S [],.nilsl,.I 0,.S [],.nilsl,.nilsl,.B false,.B false,.I 0,.S [],.nilsl,.nilsl],.box [.S ad,.L 1 (jL x3),.I ae,.S ag,.L 3 (jH ah),.L 4 (kY x7),.d (.b (decide ((ai.length:Int) > 0))),.B c,.I f,.S y,.L 3 (jH aa),.nilsl],bSx aq ar],Tryz.f134.ntmps⟩ ?_ ?_
 ·refine kX (fun a7=>?_) (fun a7=>?_)
  ·replace hb10:=kD a7 hb10;refine goL ?_;obtain⟨b5,au,hb10⟩:=gM hb10;obtain⟨a8,au⟩:=gDy au;obtain⟨b6,b7⟩:=b5;refine jI (qW a8 (uK au)) ?_;obtain⟨⟨b8,b9,ca⟩,bi,hb10⟩:=gM hb10;refine jI (gF (gQl _ _ bi)) ?_;cases hb10;exact eJ
  ·replace hb10:=kE a7 hb10;refine gAn ?_;cases hb10;exact eJ
 refine goL ?_;obtain⟨a9,bj,h⟩:=gM h;refine jI (gF (gO1 _ _ bj)) ?_;refine noB ?_;refine yT 242 11 2 11 rfl rfl (by repeat constructor) (by repeat constructor) (by repeat constructor) (by repeat constructor) ?_;show V _ _ _ _ _;refine gB0 6 (fun ct=>?_);refine kS (fun(ab:Nat)(aj:List gC0)(ak:Nat)=>⟨[(1,.ptr 0 0),(2,.ptr 1 0),(4,.ptr 2 0),(6,.L 2 (gX a9)),(7,.N ab)],[bSx ao ap,.box [.S [],.nilsl,.I 0,.S [],.nilsl,.nilsl,.B false,.B false,.I 0,.S [],.nilsl,.nilsl],.box [.S ad,.L 1 (jL x3),.I ae,.S ag,.L 3 (jH ah),.L 4 (kY x7),.d (.b (decide ((ai.length:Int) > 0))),.B c,.I f,.S y,.L 3 (jH aa),.sl 4 ak],bSx aq ar,.arr 242 11 ak (gGz aj)],Tryz.f134.ntmps⟩) (fun ab aj ak=>vX (gD.mk ao ap) (gD.mk ad be) x3 (gB.mk ae ag ah) x7 (gD.mk bh ai) (c,f,y,aa) (a9.drop ab) aj=some r) (fun ab aj ak=>a9.length - ab) 0 [] 0 eJ h ?_;rintro ab aj ak h;refine goL ?_;refine kX (fun ba=>?_) (fun ba=>?_)
 ·have ac:=uR ba;obtain⟨cb,av,bb⟩:=drop_at ac;rw [bb,vX.eq_2] at h;obtain⟨cc,cd⟩:=cb;refine noS ?_;refine jY (jA ?_);refine uM (P:=Tryz.prog) Mix.h [(0,true),(1,true),(2,true),(3,true),(4,true),(5,true),(6,true),(7,true),(8,true),(9,true),(10,true),(11,true),(12,true),(13,true),(14,true),(15,true),(16,true),(17,true),(18,true),(19,true),(20,true),(21,false),(22,false),(23,true),(24,false)] (by kernel_rfl) ?_;refine goY ?_;refine jF rfl (jJ ab (uK av)) ?_;refine goY ?_;obtain⟨⟨aw,ce⟩,bk,h⟩:=gM h;refine jF rfl (gF (uB _ _ bk)) ?_;refine jF rfl (gIq) ?_;refine goY ?_;refine jF rfl (jJ ab (uK av)) ?_;refine goY ?_;obtain⟨⟨cf,cg⟩,bl,h⟩:=gM h;refine jF rfl (gF (uB _ _ bl)) ?_;obtain⟨bm,bn,h⟩:=gM h;refine jF rfl (gF (gE8 _ bn)) ?_;refine goY ?_;refine jF rfl (jJ ab (uK av)) ?_;refine goY ?_;obtain⟨⟨ch,ci⟩,bo,h⟩:=gM h;refine jF rfl (gF (uB _ _ bo)) ?_;obtain⟨⟨ax,ay,a3,a4,⟨al,am,an⟩,a5,a6⟩,bp,h⟩:=gM h;refine jF rfl (gF (gTo _ _ bp)) ?_;refine goY ?_;refine qE (T:=179) (us:=gGz [(gC0.mk aw bm (kI.mk ax ay a3 a4 (gB.mk al am an) a5 a6))]) ?_;obtain⟨cj,h⟩:=mY h;refine pW (T:=179) cj ?_;refine goY ?_;refine kQ ?_;refine goL ?_;refine jI (jW ab (by omega)) ?_;exact⟨(ab+1),(aj++[(gC0.mk aw bm (kI.mk ax ay a3 a4 (gB.mk al am an) a5 a6))]),(ak+1),h,by omega,eJ⟩
 ·have ac:=uS ba;rw [jC ac,vX.eq_1] at h;refine noX ?_;refine gId ?_;refine kP 4 rfl rfl ?_;obtain⟨ck,hb27,h⟩:=gM h;refine uE (P:=Tryz.prog) Mix.h ⟨[(2,.ptr 1 0),(4,.ptr 2 0),(86,.B ck)],[bSx ao ap,.box [.S [],.nilsl,.I 0,.S [],.nilsl,.nilsl,.B false,.B false,.I 0,.S [],.nilsl,.nilsl],.box [.S ad,.L 1 (jL x3),.I ae,.S ag,.L 3 (jH ah),.L 4 (kY x7),.d (.b (decide ((ai.length:Int) > 0))),.B c,.I f,.S y,.L 3 (jH aa),.sl 4 ak],bSx aq ar,.frz 242 11 ak (gGz aj)],Tryz.f134.ntmps⟩ (by kernel_rfl) ?_ ?_
  ·refine goL ?_;obtain⟨cu,bq,hb27⟩:=gM hb27;refine gFd (gF (yG _ bq)) ?_;refine goL ?_;refine vG 74 (fun bc=>?_) (fun bc=>?_)
   ·replace hb27:=kD bc hb27;refine goL ?_;cases hb27;exact eJ
   ·replace hb27:=kE bc hb27;refine goL ?_;refine vG 80 (fun bd=>?_) (fun bd=>?_)
    ·replace hb27:=kD bd hb27;refine goL ?_;cases hb27;exact eJ
    ·replace hb27:=kE bd hb27;refine goL ?_;obtain⟨⟨cl,cm⟩,br,hb27⟩:=gM hb27;refine hOm (hJi (gN2 (kG.mk ad x3 (gB.mk ae ag ah) x7 (decide ((ai.length:Int) > 0)) c (gB.mk f y aa) aj) br)) ?_;refine goL ?_;obtain⟨cv,bt,hb27⟩:=gM hb27;refine gC1 (gF (gGq _ _ _ bt)) ?_;refine goL ?_;cases hb27;exact eJ
  refine goC h ?_ ?_<;>intro cw h
  ·refine goL ?_;refine zZ (jX TBd.h TZ.h rfl (by repeat constructor)) ?_;exact goR h
  ·refine goS ?_;refine jG ?_;cases h;exact qD
def vY(a0:gD)(x1:gD)(x3:LS)(x5:List gW)(x7:gB)(x9:kI):List gD→(List gHv)→Option (mK × Bool)
 | [],c=>bnd (bnd (qN a0) fun ah=>
(cnd (!ah) ((some true)) ((cnd ((a0.list.length:Int)==0) ((some true)) (bnd (gD5 (mK.mk x1.atom x3 x5 c x7 x9)) fun ai=>
bnd (gCl 5000 ai a0) fun aj=>
(some (!aj))))))) fun ak=>
(cnd ak (
(some ((mK.mk [] [] [] [] (gB.mk 0 [] []) (kI.mk 0 [] [] 0 (gB.mk 0 [] []) [] [])),false))) (
(some ((mK.mk x1.atom x3 x5 c x7 x9),true))))
 | f::xs,c=>bnd (qM f 0) fun h=>
bnd (qM f 1) fun al=>
bnd (gM4 5000 al) fun y=>
gd (c.length+[(gHv.mk h.atom y)].length≤4294967296) (
vY a0 x1 x3 x5 x7 x9 xs (c++[(gHv.mk h.atom y)]))
def gEi(c:gD):Option (mK × Bool):=
bnd (qM c 1) fun h=>
bnd (qM c 2) fun y=>
bnd (gCz y) fun x3=>
bnd (qM c 3) fun x4=>
bnd (gKb x4) fun x5=>
bnd (qM c 5) fun x6=>
bnd (gM4 5000 x6) fun x7=>
bnd (qM c 6) fun x8=>
bnd (gF5 5000 x8) fun x9=>
bnd (qM c 4) fun f=>
vY c h x3 x5 x7 x9 f.list []
theorem gOs(a0:gD){r:mK × Bool}(h:gEi a0=some r):gY Tryz.prog 135 [.d (pJ a0)] [gFv r.1,.b r.2]:=by
 obtain⟨aq,ar⟩:=a0;unfold gEi at h;refine SpI Tryz.func135 fun A _=>?_;refine gId ?_;refine jK (P:=Tryz.prog) Mix.h [(0,true),(1,true),(2,true),(3,true),(4,true),(5,true),(6,true),(7,true),(8,true),(9,true),(10,true),(11,true),(12,true),(13,true),(14,true),(15,true),(16,false),(17,false)] (by kernel_rfl) ?_;refine goY ?_;obtain⟨⟨ag,a8⟩,bj,h⟩:=gM h;refine jF rfl (gF (uB _ _ bj)) ?_;refine jF rfl (gIq) ?_;refine goY ?_;obtain⟨⟨b4,b5⟩,bk,h⟩:=gM h;refine jF rfl (gF (uB _ _ bk)) ?_;obtain⟨x3,bl,h⟩:=gM h;refine jF rfl (gF (gE8 _ bl)) ?_;refine goY ?_;obtain⟨⟨b6,b7⟩,bm,h⟩:=gM h;refine jF rfl (gF (uB _ _ bm)) ?_;obtain⟨x5,bn,h⟩:=gM h;refine jF rfl (gF (gS7 _ bn)) ?_;refine goY ?_;obtain⟨⟨b8,b9⟩,bo,h⟩:=gM h;refine jF rfl (gF (uB _ _ bo)) ?_;obtain⟨⟨ah,ai,aj⟩,bp,h⟩:=gM h;refine jF rfl (gF (gQl _ _ bp)) ?_;refine goY ?_;obtain⟨⟨ca,cb⟩,bq,h⟩:=gM h;refine jF rfl (gF (uB _ _ bq)) ?_;obtain⟨⟨ak,al,am,an,⟨c,f,y⟩,ao,ap⟩,br,h⟩:=gM h;refine jF rfl (gF (gTo _ _ br)) ?_;refine goY ?_;refine kQ ?_;refine goL ?_;obtain⟨⟨au,ab⟩,a9,h⟩:=gM h;refine jI (gF (uB _ _ a9)) ?_;refine noB ?_;refine yT 245 4 2 3 rfl rfl (by repeat constructor) (by repeat constructor) (by repeat constructor) (by repeat constructor) ?_;show V _ _ _ _ _;refine wJ 3 1 (fun cc=>?_);refine kS (fun(aa:Nat)(ad:List gHv)(ae:Nat)=>⟨[(1,.ptr 0 0),(2,.ptr 1 0),(4,.ptr 2 0),(5,.ptr 3 0),(6,.N aa)],[bSx aq ar,.box [.S [],.nilsl,.nilsl,.nilsl,.I 0,.S [],.nilsl,.I 0,.S [],.S [],.I 0,.I 0,.S [],.nilsl,.nilsl,.nilsl],.box [.S ag,.L 1 (jL x3),.L 4 (kY x5),.sl 4 ae,.I ah,.S ai,.L 3 (jH aj),.I ak,.S al,.S am,.I an,.I c,.S f,.L 3 (jH y),.L 9 (gCa ao),.L 11 (gK1 ap)],bSx au ab,.arr 245 4 ae (gHw ad)],Tryz.f135.ntmps⟩) (fun aa ad ae=>vY (gD.mk aq ar) (gD.mk ag a8) x3 x5 (gB.mk ah ai aj) (kI.mk ak al am an (gB.mk c f y) ao ap) (ab.drop aa) ad=some r) (fun aa ad ae=>ab.length - aa) 0 [] 0 eJ h ?_;rintro aa ad ae h;refine goL ?_;refine kX (fun a4=>?_) (fun a4=>?_)
 ·have ac:=uR a4;obtain⟨bt,a3,a5⟩:=drop_at ac;rw [a5,vY.eq_2] at h;obtain⟨bu,bv⟩:=bt;refine noS ?_;refine jY (jA ?_);refine uM (P:=Tryz.prog) Mix.h [(0,true),(1,true),(2,true),(3,true),(4,true),(5,true),(6,true),(7,true),(8,true),(9,true),(10,true),(11,true),(12,true),(13,true),(14,true),(15,true),(16,true),(17,false),(18,false),(19,true),(20,false)] (by kernel_rfl) ?_;refine goY ?_;refine jF rfl (jJ aa (uK a3)) ?_;refine goY ?_;obtain⟨⟨av,bw⟩,ba,h⟩:=gM h;refine jF rfl (gF (uB _ _ ba)) ?_;refine jF rfl (gIq) ?_;refine goY ?_;refine jF rfl (jJ aa (uK a3)) ?_;refine goY ?_;obtain⟨⟨bx,bz⟩,bb,h⟩:=gM h;refine jF rfl (gF (uB _ _ bb)) ?_;obtain⟨⟨aw,ax,ay⟩,bc,h⟩:=gM h;refine jF rfl (gF (gQl _ _ bc)) ?_;refine goY ?_;refine qE (T:=199) (us:=gHw [(gHv.mk av (gB.mk aw ax ay))]) ?_;obtain⟨b0,h⟩:=mY h;refine pW (T:=199) b0 ?_;refine goY ?_;refine kQ ?_;refine goL ?_;refine jI (jW aa (by omega)) ?_;exact⟨(aa+1),(ad++[(gHv.mk av (gB.mk aw ax ay))]),(ae+1),h,by omega,eJ⟩
 ·have ac:=uS a4;rw [jC ac,vY.eq_1] at h;refine noX ?_;refine gId ?_;refine kP 4 rfl rfl ?_;obtain⟨b1,hb21,h⟩:=gM h;refine uE (P:=Tryz.prog) Mix.h ⟨[(2,.ptr 1 0),(4,.ptr 2 0),(67,.B b1)],[bSx aq ar,.box [.S [],.nilsl,.nilsl,.nilsl,.I 0,.S [],.nilsl,.I 0,.S [],.S [],.I 0,.I 0,.S [],.nilsl,.nilsl,.nilsl],.box [.S ag,.L 1 (jL x3),.L 4 (kY x5),.sl 4 ae,.I ah,.S ai,.L 3 (jH aj),.I ak,.S al,.S am,.I an,.I c,.S f,.L 3 (jH y),.L 9 (gCa ao),.L 11 (gK1 ap)],bSx au ab,.frz 245 4 ae (gHw ad)],Tryz.f135.ntmps⟩ (by kernel_rfl) ?_ ?_
  ·refine goL ?_;obtain⟨cd,bd,hb21⟩:=gM hb21;refine gFd (gF (yG _ bd)) ?_;refine goL ?_;refine vG 55 (fun a6=>?_) (fun a6=>?_)
   ·replace hb21:=kD a6 hb21;refine goL ?_;cases hb21;exact eJ
   ·replace hb21:=kE a6 hb21;refine goL ?_;refine vG 61 (fun a7=>?_) (fun a7=>?_)
    ·replace hb21:=kD a7 hb21;refine goL ?_;cases hb21;exact eJ
    ·replace hb21:=kE a7 hb21;refine goL ?_;obtain⟨⟨b2,b3⟩,be,hb21⟩:=gM hb21;refine hOm (hJi (gN3 (mK.mk ag x3 x5 ad (gB.mk ah ai aj) (kI.mk ak al am an (gB.mk c f y) ao ap)) be)) ?_;refine goL ?_;obtain⟨ce,bf,hb21⟩:=gM hb21;refine gC1 (gF (gGq _ _ _ bf)) ?_;refine goL ?_;cases hb21;exact eJ
  refine goC h ?_ ?_<;>intro cf h
  ·refine goL ?_;refine zZ (jX TBd.h TZ.h rfl (by repeat constructor)) ?_;exact goR h
  ·refine goS ?_;refine jG ?_;cases h;exact qD
def gEj:List mK→Option (Bool)
 | []=>(some true)
 | c::xs=>bnd (gBw c) fun f=>
(cnd (!f) (
(some false)) (
gEj xs ))
def gEk(h:kH):List kG→Option (Bool)
 | []=>gEj h.functions
 | c::xs=>bnd (gBv c) fun f=>
(cnd (!f) (
(some false)) (
gEk h xs ))
def gEl(c:kH):List mP→Option (Bool)
 | []=>gEk c c.instances
 | f::xs=>bnd (gBx f) fun h=>
(cnd (!h) (
(some false)) (
gEl c xs ))
def gEm(c:kH):List uG→Option (Bool)
 | []=>gEl c c.dataTypes
 | f::xs=>bnd (gD2 f) fun h=>
(cnd (!h) (
(some false)) (
gEm c xs ))
def gP2(c:kH):Option (Bool):=
gEm c c.traits
theorem hFz(a0:kH){r:Bool}(h:gP2 a0=some r):gY Tryz.prog 141 [.d (gFe a0)] [.b r]:=by
 obtain⟨ab,ac,c,f,y,aa⟩:=a0;unfold gP2 at h;refine SpI Tryz.func141 fun A _=>?_;refine goL ?_;refine noB ?_;refine wJ 0 2 (fun z2=>?_);refine mV (fun(y1:Nat)=>⟨[(1,.ptr 0 0),(3,.N y1)],[bPk ab ac c f y aa],Tryz.f141.ntmps⟩) (fun y1=>gEm (kH.mk ab ac c f y aa) (c.drop y1)  =some r) (fun y1=>c.length - y1) 0 eJ h ?_;rintro y1 h;refine goL ?_;refine kX (fun c3=>?_) (fun c3=>?_)
 ·have ai:=uR c3;obtain⟨x4,bw,bg⟩:=drop_at ai;rw [bg,gEm.eq_2] at h;obtain⟨cd,ce,cf,cg,ch⟩:=x4;refine noS ?_;refine jY (jA ?_);refine goL ?_;refine jI (jJ y1 (gX6 bw)) ?_;obtain⟨x5,bx,h⟩:=gM h;refine jI (gF (gLe _ bx)) ?_;refine kX (fun c6=>?_) (fun c6=>?_)
  ·replace h:=kD c6 h;exact goR h
  ·replace h:=kE c6 h;refine goS ?_;refine jI (jW y1 (by omega)) ?_;exact⟨(y1+1),h,by omega,eJ⟩
 ·have ai:=uS c3;rw [jC ai,gEm.eq_1] at h;refine goX ?_;refine noB ?_;refine wJ 0 3 (fun z8=>?_);refine mV (fun(y7:Nat)=>⟨[(1,.ptr 0 0),(4,.N y7)],[bPk ab ac c f y aa],Tryz.f141.ntmps⟩) (fun y7=>gEl (kH.mk ab ac c f y aa) (f.drop y7)  =some r) (fun y7=>f.length - y7) 0 eJ h ?_;rintro y7 h;refine goL ?_;refine kX (fun c9=>?_) (fun c9=>?_)
  ·have aj:=uR c9;obtain⟨b1,bh,a4⟩:=drop_at aj;rw [a4,gEl.eq_2] at h;obtain⟨b2,b3,b4⟩:=b1;refine noS ?_;refine jY (jA ?_);refine goL ?_;refine jI (jJ y7 (gOi bh)) ?_;obtain⟨cj,bi,h⟩:=gM h;refine jI (gF (gIt _ bi)) ?_;refine kX (fun a5=>?_) (fun a5=>?_)
   ·replace h:=kD a5 h;exact goR h
   ·replace h:=kE a5 h;refine goS ?_;refine jI (jW y7 (by omega)) ?_;exact⟨(y7+1),h,by omega,eJ⟩
  ·have aj:=uS c9;rw [jC aj,gEl.eq_1] at h;refine goX ?_;refine noB ?_;refine wJ 0 4 (fun ck=>?_);refine mV (fun(ad:Nat)=>⟨[(1,.ptr 0 0),(5,.N ad)],[bPk ab ac c f y aa],Tryz.f141.ntmps⟩) (fun ad=>gEk (kH.mk ab ac c f y aa) (y.drop ad)  =some r) (fun ad=>y.length - ad) 0 eJ h ?_;rintro ad h;refine goL ?_;refine kX (fun a6=>?_) (fun a6=>?_)
   ·have ae:=uR a6;obtain⟨b5,bj,a7⟩:=drop_at ae;rw [a7,gEk.eq_2] at h;obtain⟨b6,b7,⟨bk,bl,bm⟩,b8,b9,ca,⟨bn,bo,bp⟩,cb⟩:=b5;refine noS ?_;refine jY (jA ?_);refine goL ?_;refine jI (jJ ad (gHu bj)) ?_;obtain⟨cl,bq,h⟩:=gM h;refine jI (gF (gIr _ bq)) ?_;refine kX (fun a8=>?_) (fun a8=>?_)
    ·replace h:=kD a8 h;exact goR h
    ·replace h:=kE a8 h;refine goS ?_;refine jI (jW ad (by omega)) ?_;exact⟨(ad+1),h,by omega,eJ⟩
   ·have ae:=uS a6;rw [jC ae,gEk.eq_1] at h;refine goX ?_;refine noB ?_;refine wJ 0 5 (fun cm=>?_);refine mV (fun(ag:Nat)=>⟨[(1,.ptr 0 0),(6,.N ag)],[bPk ab ac c f y aa],Tryz.f141.ntmps⟩) (fun ag=>gEj (aa.drop ag)  =some r) (fun ag=>aa.length - ag) 0 eJ h ?_;rintro ag h;refine goL ?_;refine kX (fun a9=>?_) (fun a9=>?_)
    ·have ah:=uR a9;obtain⟨cc,br,ba⟩:=drop_at ah;rw [ba,gEj.eq_2] at h;obtain⟨bb,bc,bd,be,⟨an,ao,ap⟩,⟨aq,ar,au,av,⟨ak,al,am⟩,aw,ax⟩⟩:=cc;refine noS ?_;refine jY (jA ?_);refine goL ?_;refine jI (jJ ag (gYb br)) ?_;obtain⟨cn,bt,h⟩:=gM h;refine jI (gF (gIs (mK.mk bb bc bd be (gB.mk an ao ap) (kI.mk aq ar au av (gB.mk ak al am) aw ax)) bt)) ?_;refine kX (fun bf=>?_) (fun bf=>?_)
     ·replace h:=kD bf h;exact goR h
     ·replace h:=kE bf h;refine goS ?_;refine jI (jW ag (by omega)) ?_;exact⟨(ag+1),h,by omega,eJ⟩
    ·have ah:=uS a9;rw [jC ah,gEj.eq_1] at h;refine goX ?_;refine jG ?_;cases h;exact qD
def vJ(c:gK)(a1:List gW)(a2:gJ)(f:gB)(h:gB):Option (gJ):=
bnd (mD 5000 c a1 a2 f h 40) fun y=>
bnd (gJi y) fun x2=>
(some x2)
theorem gZ(c:gK)(a1:List gW)(a2:gJ)(f:gB)(y:gB){r:gJ}(h:vJ c a1 a2 f y=some r):gY Tryz.prog 8 [.d (kT c),.L 4 (kY a1),.d (mJ a2),.d (jS f),.d (jS y)] [mJ r]:=by
 obtain⟨ac⟩:=c;obtain⟨ad,ae,ag,ah,ai,aj,ak,al⟩:=a2;obtain⟨am,an,ao⟩:=f;obtain⟨ap,aq,ar⟩:=y;unfold vJ at h;refine SpI Tryz.func8 fun A _=>?_;refine goL ?_;obtain⟨⟨au,av,aw,ax,ay,a5,a6,a7⟩,aa,h⟩:=gM h;refine qK (gF (hAw _ _ _ _ _ _ _ aa)) ?_;obtain⟨⟨a8,a9,ba,bb,bc,bd,be,bf⟩,ab,h⟩:=gM h;refine qK (gF (hFc _ ab)) ?_;exact goR h
def wC(a0:gD)(x2:LS)(x3:gD)(x5:LS):List gD→(List qL)→Option (uG × Bool)
 | [],y7=>bnd (bnd (qN a0) fun ai=>
(cnd (!ai) ((some true)) ((cnd ((a0.list.length:Int)==0) ((some true)) (bnd (gH1 (uG.mk x3.atom x5 (wM x2 [97,117,116,111]) (wM x2 [97,115,115,111,99]) y7)) fun aj=>
bnd (gCl 5000 aj a0) fun ak=>
(some (!ak))))))) fun al=>
(cnd al (
(some ((uG.mk [] [] false false []),false))) (
(some ((uG.mk x3.atom x5 (wM x2 [97,117,116,111]) (wM x2 [97,115,115,111,99]) y7),true))))
 | c::xs,y7=>bnd (qM c 0) fun f=>
bnd (qM c 1) fun am=>
bnd (gRj am.list) fun h=>
bnd (qM c 2) fun an=>
bnd (gM4 5000 an) fun y=>
(cnd (decide ((c.list.length:Int) > 3)) (
bnd (qM c 3) fun ao=>
bnd (gCz ao) fun ad=>
bnd (qM c 4) fun ap=>
bnd (gF5 5000 ap) fun ae=>
gd (y7.length+[(qL.mk f.atom h y true ad ae)].length≤4294967296) (
wC a0 x2 x3 x5 xs (y7++[(qL.mk f.atom h y true ad ae)]))) (
gd (y7.length+[(qL.mk f.atom h y false [] (kI.mk 0 [] [] 0 (gB.mk 0 [] []) [] []))].length≤4294967296) (
wC a0 x2 x3 x5 xs (y7++[(qL.mk f.atom h y false [] (kI.mk 0 [] [] 0 (gB.mk 0 [] []) [] []))]))))
def gH2(c:gD):Option (uG × Bool):=
bnd (qM c 3) fun f=>
bnd (gCz f) fun h=>
bnd (qM c 1) fun y=>
bnd (qM c 2) fun x4=>
bnd (gCz x4) fun x5=>
bnd (gJs c 4) fun x6=>
wC c h y x5 x6 []
theorem gTd(a0:gD){r:uG × Bool}(h:gH2 a0=some r):gY Tryz.prog 132 [.d (pJ a0)] [gM2 r.1,.b r.2]:=by
 obtain⟨aj,ak⟩:=a0;unfold gH2 at h;refine SpI Tryz.func132 fun A _=>?_;refine goL ?_;obtain⟨⟨cc,cd⟩,bm,h⟩:=gM h;refine qK (gF (uB _ _ bm)) ?_;obtain⟨x2,bn,h⟩:=gM h;refine qK (gF (gE8 _ bn)) ?_;refine gId ?_;refine jK (P:=Tryz.prog) Mix.h [(0,true),(1,true),(2,true),(3,true),(4,true),(5,true),(6,true),(7,true),(8,true),(9,true),(10,true),(11,false),(12,false)] (by kernel_rfl) ?_;refine goY ?_;obtain⟨⟨ai,a6⟩,bo,h⟩:=gM h;refine jF rfl (gF (uB _ _ bo)) ?_;refine jF rfl (gIq) ?_;refine goY ?_;obtain⟨⟨ce,cf⟩,bp,h⟩:=gM h;refine jF rfl (gF (uB _ _ bp)) ?_;obtain⟨x5,bq,h⟩:=gM h;refine jF rfl (gF (gE8 _ bq)) ?_;refine goY ?_;refine jF rfl (gF (gGg x2 [97,117,116,111])) ?_;refine goY ?_;refine jF rfl (gF (gGg x2 [97,115,115,111,99])) ?_;refine goY ?_;refine kQ ?_;refine goL ?_;obtain⟨x6,bt,h⟩:=gM h;refine jI (gF (gO1 _ _ bt)) ?_;refine noB ?_;refine yT 235 16 2 4 rfl rfl (by repeat constructor) (by repeat constructor) (by repeat constructor) (by repeat constructor) ?_;show V _ _ _ _ _;refine gB0 6 (fun cg=>?_);refine kS (fun(y9:Nat)(y7:List qL)(v8:Nat)=>⟨[(1,.ptr 0 0),(2,.ptr 1 0),(5,.ptr 2 0),(6,.L 2 (gX x6)),(7,.N y9)],[bSx aj ak,.box [.S [],.nilsl,.B false,.B false,.nilsl],.box [.S ai,.L 1 (jL x5),.B (wM x2 [97,117,116,111]),.B (wM x2 [97,115,115,111,99]),.sl 3 v8],.arr 235 16 v8 (gCb y7)],Tryz.f132.ntmps⟩) (fun y9 y7 v8=>wC (gD.mk aj ak) x2 (gD.mk ai a6) x5 (x6.drop y9) y7=some r) (fun y9 y7 v8=>x6.length - y9) 0 [] 0 eJ h ?_;rintro y9 y7 v8 h;refine goL ?_;refine kX (fun ax=>?_) (fun ax=>?_)
 ·have ah:=uR ax;obtain⟨bu,c,ay⟩:=drop_at ah;rw [ay,wC.eq_2] at h;obtain⟨bv,bw⟩:=bu;refine noS ?_;refine jY (jA ?_);refine jK (P:=Tryz.prog) Mix.h [(0,true),(1,true),(2,true),(3,true),(4,true),(5,true),(6,true),(7,true),(8,true),(9,true),(10,true),(11,true),(12,true),(13,true),(14,true),(15,true),(16,true),(17,true),(18,true),(19,true),(20,false),(21,false)] (by kernel_rfl) ?_;refine goY ?_;refine jF rfl (jJ y9 (uK c)) ?_;refine goY ?_;obtain⟨⟨f,bx⟩,a7,h⟩:=gM h;refine jF rfl (gF (uB _ _ a7)) ?_;refine jF rfl (gIq) ?_;refine goY ?_;refine jF rfl (jJ y9 (uK c)) ?_;refine goY ?_;obtain⟨⟨bz,b0⟩,a8,h⟩:=gM h;refine jF rfl (gF (uB _ _ a8)) ?_;refine jF rfl (gIq) ?_;obtain⟨aw,a9,h⟩:=gM h;refine jF rfl (gF (hEm _ a9)) ?_;refine goY ?_;refine jF rfl (jJ y9 (uK c)) ?_;refine goY ?_;obtain⟨⟨b1,b2⟩,ba,h⟩:=gM h;refine jF rfl (gF (uB _ _ ba)) ?_;obtain⟨⟨y,aa,ab⟩,bb,h⟩:=gM h;refine jF rfl (gF (gQl _ _ bb)) ?_;refine goY ?_;refine kQ ?_;refine goL ?_;refine jI (jJ y9 (uK c)) ?_;refine kX (fun a3=>?_) (fun a3=>?_)
  ·replace h:=kD a3 h;refine goL ?_;refine jI (jJ y9 (uK c)) ?_;obtain⟨⟨b3,b4⟩,bc,h⟩:=gM h;refine qK (gF (uB _ _ bc)) ?_;obtain⟨bd,be,h⟩:=gM h;refine jI (gF (gE8 _ be)) ?_;refine jI (jJ y9 (uK c)) ?_;obtain⟨⟨b5,b6⟩,bf,h⟩:=gM h;refine qK (gF (uB _ _ bf)) ?_;obtain⟨⟨al,am,an,ao,⟨ac,ad,ae⟩,ap,aq⟩,bg,h⟩:=gM h;refine jI (gF (gTo _ _ bg)) ?_;refine gAo (u:=(.st [.s f,.sl 3 (jH aw),.st [.i .i64 y,.s aa,.sl 3 (jH ab)],.b true,.sl 1 (jL bd),.st [.i .i64 al,.s am,.s an,.i .i64 ao,.st [.i .i64 ac,.s ad,.sl 3 (jH ae)],.sl 9 (gCa ap),.sl 11 (gK1 aq)]])) ?_;obtain⟨b7,h⟩:=mY h;refine gBd b7 ?_;refine goL ?_;refine jI (jW y9 (by omega)) ?_;exact⟨(y9+1),(y7++[(qL.mk f aw (gB.mk y aa ab) true bd (kI.mk al am an ao (gB.mk ac ad ae) ap aq))]),(v8+1),h,by omega,eJ⟩
  ·replace h:=kE a3 h;refine goS ?_;refine gAo (u:=(.st [.s f,.sl 3 (jH aw),.st [.i .i64 y,.s aa,.sl 3 (jH ab)],.b false,.sl 1 [],.st [.i .i64 0,.s [],.s [],.i .i64 0,.st [.i .i64 0,.s [],.sl 3 []],.sl 9 [],.sl 11 []]])) ?_;obtain⟨b8,h⟩:=mY h;refine gBd b8 ?_;refine goL ?_;refine jI (jW y9 (by omega)) ?_;exact⟨(y9+1),(y7++[(qL.mk f aw (gB.mk y aa ab) false [] (kI.mk 0 [] [] 0 (gB.mk 0 [] []) [] []))]),(v8+1),h,by omega,eJ⟩
 ·have ah:=uS ax;rw [jC ah,wC.eq_1] at h;refine noX ?_;refine gId ?_;refine kP 3 rfl rfl ?_;obtain⟨b9,hb25,h⟩:=gM h;refine uE (P:=Tryz.prog) Mix.h ⟨[(2,.ptr 1 0),(5,.ptr 2 0),(94,.B b9)],[bSx aj ak,.box [.S [],.nilsl,.B false,.B false,.nilsl],.box [.S ai,.L 1 (jL x5),.B (wM x2 [97,117,116,111]),.B (wM x2 [97,115,115,111,99]),.sl 3 v8],.frz 235 16 v8 (gCb y7)],Tryz.f132.ntmps⟩ (by kernel_rfl) ?_ ?_
  ·refine goL ?_;obtain⟨ch,bh,hb25⟩:=gM hb25;refine gFd (gF (yG _ bh)) ?_;refine goL ?_;refine vG 82 (fun a4=>?_) (fun a4=>?_)
   ·replace hb25:=kD a4 hb25;refine goL ?_;cases hb25;exact eJ
   ·replace hb25:=kE a4 hb25;refine goL ?_;refine vG 88 (fun a5=>?_) (fun a5=>?_)
    ·replace hb25:=kD a5 hb25;refine goL ?_;cases hb25;exact eJ
    ·replace hb25:=kE a5 hb25;refine goL ?_;obtain⟨⟨ca,cb⟩,bi,hb25⟩:=gM hb25;refine hOm (hJi (gTc (uG.mk ai x5 (wM x2 [97,117,116,111]) (wM x2 [97,115,115,111,99]) y7) bi)) ?_;refine goL ?_;obtain⟨ci,bj,hb25⟩:=gM hb25;refine gC1 (gF (gGq _ _ _ bj)) ?_;refine goL ?_;cases hb25;exact eJ
  refine goC h ?_ ?_<;>intro cj h
  ·refine goL ?_;refine zZ (jX TBd.h TZ.h rfl (by repeat constructor)) ?_;exact goR h
  ·refine goS ?_;refine jG ?_;cases h;exact qD
def gE6(c:kH):Option (Bool):=
bnd (gPh c) fun f=>
bnd ((cnd (!(mH c.name)) ((some true)) (bnd (yA c.deps 5) fun x4=>
(cnd (!x4) ((some true)) ((cnd (wM c.deps c.name) ((some true)) ((some (decide ((IntKind.i64.wrap ((IntKind.i64.wrap ((IntKind.i64.wrap ((c.traits.length:Int)+(c.dataTypes.length:Int)))+(c.instances.length:Int)))+(c.functions.length:Int))) > 24)))))))))) fun b2=>
(cnd b2 (
(some false)) (
bnd (wT f.1) fun x8=>
bnd ((cnd x8 (bnd (wT f.2.1) fun h=>
(cnd h (bnd (wT f.2.2.1) fun y=>
(cnd y (bnd (wT f.2.2.2) fun aa=>
(cnd aa (bnd (gP2 c) fun ab=>
(some ab)) ((some false)))) ((some false)))) ((some false)))) ((some false)))) fun b9=>
(some b9)))
theorem gP3(a0:kH){r:Bool}(h:gE6 a0=some r):gY Tryz.prog 115 [.d (gFe a0)] [.b r]:=by
 obtain⟨c,f,y,aa,ab,ac⟩:=a0;unfold gE6 at h;refine SpI Tryz.func115 fun A _=>?_;refine goL ?_;obtain⟨⟨ad,ae,ag,ah⟩,an,h⟩:=gM h;refine jI (gF (hE9 _ an)) ?_;refine jI (gF (qG c)) ?_;obtain⟨b2,hb2,h⟩:=gM h;refine jT ⟨[(1,.ptr 0 0),(3,.L 1 (jL ad)),(4,.L 1 (jL ae)),(5,.L 1 (jL ag)),(6,.L 1 (jL ah)),(48,.B b2)],[bPk c f y aa ab ac],Tryz.f115.ntmps⟩ ?_ ?_
 ·refine gqO 18 hb2 (fun c3 hb2=>?_);obtain⟨x4,ao,hb2⟩:=gM hb2;refine jI (gF (gAc _ _ ao)) ?_;refine gqO 24 hb2 (fun c5 hb2=>?_);refine jI (gF (gGg f c)) ?_;refine gqO 31 hb2 (fun c6 hb2=>?_);refine jI (pU) ?_;refine gQq ?_;refine jI (pU) ?_;refine gQq ?_;refine jI (pU) ?_;cases hb2;exact eJ
 refine goC h ?_ ?_<;>intro c7 h
 ·exact goR h
 ·refine goS ?_;obtain⟨x8,ap,h⟩:=gM h;refine jI (gF (gBk _ ap)) ?_;obtain⟨b9,hb9,h⟩:=gM h;refine jT ⟨[(2,.B b9)],[bPk c f y aa ab ac],Tryz.f115.ntmps⟩ ?_ ?_
  ·refine gqA 51 hb9 (fun au hb9=>?_);obtain⟨av,ai,hb9⟩:=gM hb9;refine jI (gF (gBk _ ai)) ?_;refine gqA 55 hb9 (fun aw hb9=>?_);obtain⟨ax,aj,hb9⟩:=gM hb9;refine jI (gF (gBk _ aj)) ?_;refine gqA 59 hb9 (fun ay hb9=>?_);obtain⟨a3,ak,hb9⟩:=gM hb9;refine jI (gF (gBk _ ak)) ?_;refine gqA 63 hb9 (fun a4 hb9=>?_);obtain⟨a5,al,hb9⟩:=gM hb9;refine jI (gF (hFz _ al)) ?_;cases hb9;exact eJ
  exact goR h
def gTe(nm:LB)(deps:LS)(x:gD)(f:List uG)(h:List mP)(y:List kG)(l4:List mK):Option (Bool × List uG × List mP × List kG × List mK):=
bnd (qM x 0) fun x1=>
(cnd (x1.atom==[116,114,97,105,116]) (
bnd (gH2 x) fun x3=>
gd (f.length+[x3.1].length≤4294967296) (
(some (x3.2,(f++[x3.1]),h,y,l4)))) (
(cnd (x1.atom==[100,97,116,97]) (
bnd (gD3 x) fun x6=>
gd (h.length+[x6.1].length≤4294967296) (
(some (x6.2,f,(h++[x6.1]),y,l4)))) (
(cnd (x1.atom==[105,110,115,116]) (
bnd (gEh x) fun x9=>
gd (y.length+[x9.1].length≤4294967296) (
(some (x9.2,f,h,(y++[x9.1]),l4)))) (
(cnd (x1.atom==[102,110]) (
bnd (gEi x) fun c=>
gd (l4.length+[c.1].length≤4294967296) (
(some (c.2,f,h,y,(l4++[c.1]))))) (
(some (false,f,h,y,l4))))))))))
theorem hLm(nm:LB)(deps:LS)(x:gD)(l1:List uG)(l2:List mP)(l3:List kG)(l4:List mK)(v1:Nat)(v2:Nat)(v3:Nat)(v4:Nat){r:Bool × List uG × List mP × List kG × List mK}(h:gTe nm deps x l1 l2 l3 l4=some r):Go.Eng.Spec Tryz.prog 114 [.ptr 0 0,.d (pJ x)] [.box [.S nm,.L 1 (jL deps),.sl 1 v1,.sl 2 v2,.sl 3 v3,.sl 4 v4],.arr 173 5 v1 (gE2 l1),.arr 195 3 v2 (yV l2),.arr 181 12 v3 (yX l3),.arr 205 16 v4 (yY l4)] (fun sv Lo=>∃v'1 v'2 v'3 v'4,sv=.B r.1∧Lo=[.box [.S nm,.L 1 (jL deps),.sl 1 v'1,.sl 2 v'2,.sl 3 v'3,.sl 4 v'4],.arr 173 5 v'1 (gE2 r.2.1),.arr 195 3 v'2 (yV r.2.2.1),.arr 181 12 v'3 (yX r.2.2.2.1),.arr 205 16 v'4 (yY r.2.2.2.2)]):=by
 obtain⟨bm,bn⟩:=x;unfold gTe at h;refine kF 5 Tryz.func114 rfl (by kernel_rfl) rfl rfl fun A _=>?_;refine goL ?_;obtain⟨⟨b0,b1⟩,bo,h⟩:=gM h;refine qK (gF (uB _ _ bo)) ?_;refine jI (gIq) ?_;refine jA ?_;refine goC h ?_ ?_<;>intro c2 h
 ·refine goL ?_;obtain⟨⟨⟨aw,ax,ay,a0,a3⟩,bi⟩,bp,h⟩:=gM h;refine qK (gF (gTd _ bp)) ?_;refine gId ?_;refine jK (P:=Tryz.prog) Mix.h [(0,true),(1,true),(2,true),(3,true),(4,true),(5,true),(6,false),(7,false),(8,true),(9,true),(10,false)] (by kernel_rfl) ?_;refine goY ?_;refine qE (T:=105) (us:=gE2 [(uG.mk aw ax ay a0 a3)]) ?_;obtain⟨g4,h⟩:=mY h;refine pW (T:=105) g4 ?_;refine goY ?_;refine kQ ?_;refine goL ?_;refine jG ?_;obtain rfl:=Option.some.inj h;exact yK [.B bi] _ ⟨(v1+1),v2,v3,v4,rfl,rfl⟩
 ·refine goC h ?_ ?_<;>intro c5 h
  ·refine goL ?_;obtain⟨⟨⟨a4,a5,a6⟩,bj⟩,bq,h⟩:=gM h;refine qK (gF (gN1 _ bq)) ?_;refine gId ?_;refine jK (P:=Tryz.prog) Mix.h [(0,true),(1,true),(2,true),(3,true),(4,true),(5,true),(6,false),(7,false),(8,true),(9,true),(10,false)] (by kernel_rfl) ?_;refine goY ?_;refine qE (T:=106) (us:=yV [(mP.mk a4 a5 a6)]) ?_;obtain⟨g7,h⟩:=mY h;refine pW (T:=106) g7 ?_;refine goY ?_;refine kQ ?_;refine goL ?_;refine jG ?_;obtain rfl:=Option.some.inj h;exact yK [.B bj] _ ⟨v1,(v2+1),v3,v4,rfl,rfl⟩
  ·refine goC h ?_ ?_<;>intro c8 h
   ·refine goL ?_;obtain⟨⟨⟨a7,a8,⟨ak,al,am⟩,a9,ba,bb,⟨an,ao,ap⟩,bc⟩,bk⟩,br,h⟩:=gM h;refine qK (gF (gOr _ br)) ?_;refine gId ?_;refine jK (P:=Tryz.prog) Mix.h [(0,true),(1,true),(2,true),(3,true),(4,true),(5,true),(6,false),(7,false),(8,true),(9,true),(10,false)] (by kernel_rfl) ?_;refine goY ?_;refine qE (T:=107) (us:=yX [(kG.mk a7 a8 (gB.mk ak al am) a9 ba bb (gB.mk an ao ap) bc)]) ?_;obtain⟨bt,h⟩:=mY h;refine pW (T:=107) bt ?_;refine goY ?_;refine kQ ?_;refine goL ?_;refine jG ?_;obtain rfl:=Option.some.inj h;exact yK [.B bk] _ ⟨v1,v2,(v3+1),v4,rfl,rfl⟩
   ·refine goC h ?_ ?_<;>intro b4 h
    ·refine goL ?_;obtain⟨⟨⟨aq,ar,au,av,⟨aa,ab,ac⟩,⟨ad,ae,ag,ah,⟨c,f,y⟩,ai,aj⟩⟩,bh⟩,bl,h⟩:=gM h;refine qK (gF (gOs (gD.mk bm bn) bl)) ?_;refine gId ?_;refine jK (P:=Tryz.prog) Mix.h [(0,true),(1,true),(2,true),(3,true),(4,true),(5,true),(6,false),(7,false),(8,true),(9,true),(10,false)] (by kernel_rfl) ?_;refine goY ?_;refine qE (T:=108) (us:=yY [(mK.mk aq ar au av (gB.mk aa ab ac) (kI.mk ad ae ag ah (gB.mk c f y) ai aj))]) ?_;obtain⟨bu,h⟩:=mY h;refine pW (T:=108) bu ?_;refine goY ?_;refine kQ ?_;refine goL ?_;refine jG ?_;obtain rfl:=Option.some.inj h;exact yK [.B bh] _ ⟨v1,v2,v3,(v4+1),rfl,rfl⟩
    ·refine goS ?_;refine jG ?_;obtain rfl:=Option.some.inj h;exact yK [.B false] _ ⟨v1,v2,v3,v4,rfl,rfl⟩
def wL(x2:LS × Bool)(x3:gD):List gD→(List uG)→(List mP)→(List kG)→(List mK)→Option (kH × Bool)
 | [],f,h,y,aa=>bnd (gE6 (kH.mk x3.atom x2.1 f h y aa)) fun ad=>
(cnd (!ad) (
(some ((kH.mk [] [] [] [] [] []),false))) (
(some ((kH.mk x3.atom x2.1 f h y aa),true))))
 | ae::xs,f,h,y,aa=>bnd (gTe x3.atom x2.1 ae f h y aa) fun c=>
(cnd (!c.1) (
(some ((kH.mk [] [] [] [] [] []),false))) (
wL x2 x3 xs c.2.1 c.2.2.1 c.2.2.2.1 c.2.2.2.2))
def yE(c:gD):Option (kH × Bool):=
bnd (qM c 2) fun y=>
bnd (gK7 y.list) fun h=>
bnd (qM c 1) fun x3=>
bnd (qN c) fun x4=>
bnd ((cnd (!x4) ((some true)) ((cnd (decide ((c.list.length:Int) < 3)) ((some true)) (bnd (at? c.list 0) fun x8=>
(cnd (!(x8.atom==[112,97,99,107,97,103,101])) ((some true)) (bnd (at? c.list 2) fun f=>
(cnd (!(f.atom==[])) ((some true)) ((some (!h.2))))))))))) fun b5=>
(cnd b5 (
(some ((kH.mk [] [] [] [] [] []),false))) (
wL h x3 (c.list.drop 3) [] [] [] []))
theorem gP4(a0:gD){r:kH × Bool}(h:yE a0=some r):gY Tryz.prog 95 [.d (pJ a0)] [gFe r.1,.b r.2]:=by
 obtain⟨al,ab⟩:=a0;unfold yE at h;refine SpI Tryz.func95 fun A _=>?_;refine goL ?_;obtain⟨⟨bo,bp⟩,bg,h⟩:=gM h;refine qK (gF (uB _ _ bg)) ?_;refine qK (gIq) ?_;obtain⟨⟨c,a9⟩,bh,h⟩:=gM h;refine jI (gF (gRw _ bh)) ?_;obtain⟨⟨f,ba⟩,bi,h⟩:=gM h;refine qK (gF (uB _ _ bi)) ?_;refine jI (gIq) ?_;refine gBn (jX TBd.h TZ.h rfl (by repeat constructor)) ?_;obtain⟨x4,bj,h⟩:=gM h;refine jI (gF (yG _ bj)) ?_;obtain⟨b5,hb5,h⟩:=gM h;refine jT ⟨[(1,.ptr 0 0),(2,.ptr 1 0),(6,.ptr 2 0),(48,.B b5)],[bSx al ab,.box [.S [],.nilsl,.nilsl,.nilsl,.nilsl,.nilsl],.box [.S f,.L 1 (jL c),.nilsl,.nilsl,.nilsl,.nilsl]],Tryz.f95.ntmps⟩ ?_ ?_
 ·refine gqO 23 hb5 (fun c6 hb5=>?_);refine gqO 29 hb5 (fun c7 hb5=>?_);obtain⟨x8,ar,hb5⟩:=gM hb5;obtain⟨bb,ar⟩:=gDy ar;obtain⟨bq,br⟩:=x8;refine jI (qW bb (uK ar)) ?_;refine gqO 37 hb5 (fun c9 hb5=>?_);obtain⟨bk,am,hb5⟩:=gM hb5;obtain⟨au,am⟩:=gDy am;obtain⟨bl,bm⟩:=bk;refine jI (qW au (uK am)) ?_;exact gqZ 45 hb5
 refine goC h ?_ ?_<;>intro bv h
 ·refine goL ?_;refine zZ (jX TBd.h TZ.h rfl (by repeat constructor)) ?_;exact goR h
 ·refine goS ?_;refine noB ?_;refine yT 173 5 2 2 rfl rfl (by repeat constructor) (by repeat constructor) (by repeat constructor) (by repeat constructor) ?_;show V _ _ _ _ _;refine yT 195 3 2 3 rfl rfl (by repeat constructor) (by repeat constructor) (by repeat constructor) (by repeat constructor) ?_;show V _ _ _ _ _;refine yT 181 12 2 4 rfl rfl (by repeat constructor) (by repeat constructor) (by repeat constructor) (by repeat constructor) ?_;show V _ _ _ _ _;refine yT 205 16 2 5 rfl rfl (by repeat constructor) (by repeat constructor) (by repeat constructor) (by repeat constructor) ?_;show V _ _ _ _ _;refine wJ 0 1 (fun bw=>?_);refine hKp (fun(y:Nat)(ac:List uG)(ad:List mP)(ae:List kG)(ag:List mK)(ah:Nat)(ai:Nat)(aj:Nat)(ak:Nat)=>⟨[(1,.ptr 0 0),(2,.ptr 1 0),(6,.ptr 2 0),(7,.N y)],[bSx al ab,.box [.S [],.nilsl,.nilsl,.nilsl,.nilsl,.nilsl],.box [.S f,.L 1 (jL c),.sl 3 ah,.sl 4 ai,.sl 5 aj,.sl 6 ak],.arr 173 5 ah (gE2 ac),.arr 195 3 ai (yV ad),.arr 181 12 aj (yX ae),.arr 205 16 ak (yY ag)],Tryz.f95.ntmps⟩) (fun y ac ad ae ag ah ai aj ak=>wL (c,a9) (gD.mk f ba) (ab.drop y) ac ad ae ag=some r) (fun y ac ad ae ag ah ai aj ak=>ab.length - y) 3 [] [] [] [] 0 0 0 0 eJ h ?_;rintro y ac ad ae ag ah ai aj ak h;refine goL ?_;refine kX (fun av=>?_) (fun av=>?_)
  ·have aa:=uR av;obtain⟨bn,bc,aw⟩:=drop_at aa;rw [aw,wL.eq_2] at h;obtain⟨ax,ay⟩:=bn;refine noS ?_;refine jY (jA ?_);refine goL ?_;refine jI (jJ y (uK bc)) ?_;obtain⟨⟨a3,an,ao,ap,aq⟩,bd,h⟩:=gM h;refine yJ [2,3,4,5,6] (hLm f c (gD.mk ax ay) ac ad ae ag ah ai aj ak bd) ?_;rintro _ _ ⟨a4,a5,a6,a7,rfl,rfl⟩;show VO _ _ _ _ ⟨(_,.B a3)::_,[bSx al ab,.box [.S [],.nilsl,.nilsl,.nilsl,.nilsl,.nilsl],.box [.S f,.L 1 (jL c),.sl 3 a4,.sl 4 a5,.sl 5 a6,.sl 6 a7],.arr 173 5 a4 (gE2 an),.arr 195 3 a5 (yV ao),.arr 181 12 a6 (yX ap),.arr 205 16 a7 (yY aq)],_⟩ _;refine goC h ?_ ?_<;>intro bx h
   ·refine goL ?_;refine zZ (jX TBd.h TZ.h rfl (by repeat constructor)) ?_;exact goR h
   ·refine goS ?_;refine jI (jW y (by omega)) ?_;exact⟨(y+1),an,ao,ap,aq,a4,a5,a6,a7,h,by omega,eJ⟩
  ·have aa:=uS av;rw [jC aa,wL.eq_1] at h;refine goX ?_;obtain⟨bz,be,h⟩:=gM h;refine gBn (gV9 (gP3 (kH.mk f c ac ad ae ag) be)) ?_;refine kX (fun a8=>?_) (fun a8=>?_)
   ·replace h:=kD a8 h;refine goL ?_;refine zZ (jX TBd.h TZ.h rfl (by repeat constructor)) ?_;exact goR h
   ·replace h:=kE a8 h;refine goS ?_;refine kP 3 rfl rfl ?_;refine kP 4 rfl rfl ?_;refine kP 5 rfl rfl ?_;refine kP 6 rfl rfl ?_;refine jG ?_;cases h;exact qD
def gCg(h:LB):Option (kH × Bool):=
bnd (gEn h) fun c=>
(cnd (!c.2) (
(some ((kH.mk [] [] [] [] [] []),false))) (
bnd (yE c.1) fun f=>
(some (f.1,f.2))))
theorem gTf(a0:LB){r:kH × Bool}(h:gCg a0=some r):gY Tryz.prog 72 [.S a0] [gFe r.1,.b r.2]:=by
 unfold gCg at h;refine SpI Tryz.func72 fun A _=>?_;refine goL ?_;obtain⟨⟨⟨c,f⟩,ak⟩,ag,h⟩:=gM h;refine jI (gF (gWs _ ag)) ?_;refine kX (fun c2=>?_) (fun c2=>?_)
 ·replace h:=kD c2 h;refine goL ?_;refine zZ (jX TBd.h TZ.h rfl (by repeat constructor)) ?_;exact goR h
 ·replace h:=kE c2 h;refine goS ?_;obtain⟨⟨⟨y,aa,ab,ac,ad,ae⟩,al⟩,ai,h⟩:=gM h;refine qK (gF (gP4 _ ai)) ?_;exact goR h
def uH:LS→(List kH)→Option (gK × Int)
 | [],c=>(some ((gK.mk c),(-1)))
 | y::xs,c=>(cnd (gG5 y) (
uH xs c) (
bnd (gCg y) fun f=>
lt_ ((cnd (!f.2) (true) (((c.length:Int)==5)))) fun h=>
(cnd h (
(some ((gK.mk []),(c.length:Int)))) (
gd (c.length+[f.1].length≤4294967296) (
uH xs (c++[f.1]))))))
def yN(c:LB):Option (gK × Int):=
bnd (gEv c 10) fun f=>
uH f []
theorem gTg(a0:LB){r:gK × Int}(h:yN a0=some r):gY Tryz.prog 35 [.S a0] [kT r.1,.i .i64 r.2]:=by
 unfold yN at h;refine SpI Tryz.func35 fun A _=>?_;refine goL ?_;refine gBn (jX TBd.h TZ.h rfl (by repeat constructor)) ?_;obtain⟨x1,al,h⟩:=gM h;refine jI (gF (gXe _ _ al)) ?_;refine noB ?_;refine yT 110 6 1 0 rfl rfl (by repeat constructor) (by repeat constructor) (by repeat constructor) (by repeat constructor) ?_;show V _ _ _ _ _;refine gB0 5 (fun z5=>?_);refine kS (fun(y4:Nat)(y2:List kH)(v3:Nat)=>⟨[(2,.ptr 0 0),(4,.ptr 1 0),(5,.L 1 (jL x1)),(6,.N y4)],[.box [.nilsl],.box [.sl 2 v3],.arr 110 6 v3 (jQ y2)],Tryz.f35.ntmps⟩) (fun y4 y2 v3=>uH (x1.drop y4) y2=some r) (fun y4 y2 v3=>x1.length - y4) 0 [] 0 eJ h ?_;rintro y4 y2 v3 h;refine goL ?_;refine kX (fun c6=>?_) (fun c6=>?_)
 ·have ad:=uR c6;obtain⟨x7,ai,aj⟩:=drop_at ad;rw [aj,uH.eq_2] at h;refine noS ?_;refine jY (jA ?_);refine goL ?_;refine jI (jJ y4 (gQr ai)) ?_;refine jI (gF (hE3 x7)) ?_;refine kX (fun c8=>?_) (fun c8=>?_)
  ·replace h:=kD c8 h;refine goX ?_;refine jI (jW y4 (by omega)) ?_;exact⟨(y4+1),y2,v3,h,by omega,eJ⟩
  ·replace h:=kE c8 h;refine goS ?_;refine jI (jJ y4 (gQr ai)) ?_;obtain⟨⟨⟨c,f,y,aa,ab,ac⟩,au⟩,ao,h⟩:=gM h;refine jI (gF (gTf _ ao)) ?_;obtain⟨ap,hb10,h⟩:=qA h;refine jT ⟨[(2,.ptr 0 0),(4,.ptr 1 0),(5,.L 1 (jL x1)),(6,.N y4),(7,.ptr 3 0),(38,.B ap)],[.box [.nilsl],.box [.sl 2 v3],.arr 110 6 v3 (jQ y2),bPk c f y aa ab ac],Tryz.f35.ntmps⟩ ?_ ?_
   ·exact gqZ 33 hb10
   refine goC h ?_ ?_<;>intro aw h
   ·refine qJ (P:=Tryz.prog) Mix.h (.q 0 (.q 1 (.h 2 (.h 3 (.h 4 (.q 5 .nil) .nil) (.h 4 (.h 3 (.q 5 .nil) .nil) .nil)) (.h 4 (.h 2 (.h 3 (.q 5 .nil) .nil) .nil) .nil)))) ⟨[(2,.ptr 0 0),(3,.I (y2.length:Int))],[.box [.nilsl],.box [.sl 2 v3],.arr 110 6 v3 (jQ y2),bPk c f y aa ab ac],Tryz.f35.ntmps⟩ (by kernel_rfl) ?_ ?_
    ·refine goT ?_;refine uV (mM jU) ?_ ?_
     ·refine uV (hKq jU) ?_ ?_
      ·refine goT ?_;refine jV ?_;exact qX 0 [0,1,2,3]
      refine goT ?_;refine jR (hKq jU) ?_;refine goT ?_;refine jV ?_;exact qX 0 [0,1,2,3]
     refine goT ?_;refine jR (mM jU) ?_;refine jR (hKq jU) ?_;refine goT ?_;refine jV ?_;exact qX 0 [0,1,2,3]
    exact goR h
   ·refine goS ?_;refine gAo (u:=(.st [.s c,.sl 1 (jL f),.sl 5 (gE2 y),.sl 3 (yV aa),.sl 12 (yX ab),.sl 16 (yY ac)])) ?_;obtain⟨aq,h⟩:=mY h;refine gBd aq ?_;refine goL ?_;refine jI (jW y4 (by omega)) ?_;exact⟨(y4+1),(y2++[(kH.mk c f y aa ab ac)]),(v3+1),h,by omega,eJ⟩
 ·have ad:=uS c6;rw [jC ad,uH.eq_1] at h;refine goX ?_;refine kP 2 rfl rfl ?_;refine jG ?_;cases h;exact qD
theorem hLp{x:gD}(hx:wfx x=true)(hn:ndx x≤900)(hd:dpx x≤14)(hl:(fmt x).length≤4900)(hv:qN x=some true):gEn (fmt x)=some (x,true):=by
 have h:gBz 5000 ⟨fmt x,0,0,0,false⟩=some (x,⟨fmt x,((0+(fmt x).length:Nat):Int),0,0+ndx x,false⟩):=
  hGz (s:=fmt x) (by omega) x 0 5000 0 0 [] hx (by simp) (fun b t h=>by cases h) (by omega) (by omega) (by omega) (by omega) (by omega)
 unfold gEn;rw [jO h];simp only;rw [jO (hNj (.inl (by simp)))];simp only [gI];rw [show (((0+(fmt x).length:Nat):Int) !=((fmt x).length:Int))=false from by rw [Nat.zero_add];exact bne_self_eq_false _];simp only [gI,hv,bnd,Bool.not_true]
def noL(l:LB):Bool:=l.all fun b=> !((b.toNat:Int)==10)
theorem gOt(s:LB)(hl:s.length≤4294967296)(tail:LB):∀(a:LB)(p q n:Nat)(acc:LS),noL a=true→s.drop p=a++tail→pF s 10 (n+a.length) acc q (p:Int)=pF s 10 n acc q ((p+a.length:Nat):Int)
 | [],p,q,n,acc,_,_=>rfl
 | b::a,p,q,n,acc,hb,h=>by
   simp only [noL,List.all_cons,Bool.and_eq_true,Bool.not_eq_true'] at hb;obtain⟨c,f,y⟩:=gD1 (by simpa using h);rw [show n+(b::a).length=(n+a.length)+1 by simp;omega,pF];rw [show decide ((p:Int)≤(s.length:Int))=true from decide_eq_true (by omega),show((p:Int)==(s.length:Int))=false from beq_eq_false_iff_ne.2 (by omega)];simp only [gT,gI,c,bnd,hb.1];rw [gVo (by omega),gOt s hl tail a (p+1) q n acc hb.2 f];simp only [List.length_cons];rw [show p+1+a.length=p+(a.length+1) by omega]
theorem gY1(s:LB)(hl:s.length≤4294967295)(q n:Nat)(acc:LS)(hq:q≤s.length)(ha:acc.length≤4294967295):pF s 10 (n+2) acc q (s.length:Int)=some (acc++[s.drop q]):=by
 rw [pF];rw [show decide ((s.length:Int)≤(s.length:Int))=true from decide_eq_true (by omega),beq_self_eq_true];simp only [gT,bnd];rw [mI ⟨by omega,by omega,by omega⟩,mI (by simp;omega),gVo (by omega),pF,show decide (((s.length+1:Nat):Int)≤(s.length:Int))=false from decide_eq_false (by omega)];simp only [gI,Int.toNat_natCast];rw [List.take_of_length_le (by simp)]
theorem hO7(s:LB)(hl:s.length≤4294967295)(p q n:Nat)(acc:LS){t:LB}(h:s.drop p=10::t)(hq:q≤p)(ha:acc.length≤4294967295):pF s 10 (n+1) acc q (p:Int)=pF s 10 n (acc++[(s.drop q).take (p - q)]) ((p+1:Nat):Int) ((p+1:Nat):Int):=by
 obtain⟨c,f,y⟩:=gD1 h;rw [pF];rw [show decide ((p:Int)≤(s.length:Int))=true from decide_eq_true (by omega),show((p:Int)==(s.length:Int))=false from beq_eq_false_iff_ne.2 (by omega)];simp only [gT,gI,c,bnd];rw [show ((((10:UInt8).toNat:Nat):Int)==10)=true from by decide];simp only [gT];rw [mI ⟨by omega,by omega,by omega⟩,mI (by simp;omega),gVo (by omega)];simp only [Int.toNat_natCast]
theorem hW9(l:LB)(h:noL l=true)(hl:l.length≤4900):gEv l 10=some [l]:=by
 have c:=gOt l (by omega) [] l 0 0 (5000 - l.length) [] h (by simp);have f:=gY1 l (by omega) 0 (5000 - l.length - 2) [] (by omega) (by simp);unfold gEv gFk;rw [show 5000 - l.length+l.length=5000 by omega,Nat.zero_add] at c;rw [show 5000 - l.length - 2+2=5000 - l.length by omega] at f;exact(c.trans f).trans (by simp)
theorem hXa(l m:LB)(h:noL l=true)(h':noL m=true)(hl:l.length+m.length≤4900):gEv (l++[10]++m) 10=some [l,m]:=by
 have hs:(l++[10]++m).length=l.length+1+m.length:=by simp;omega
 have f:=gOt (l++[10]++m) (by omega) (10::m) l 0 0 (5000 - l.length) [] h (by simp);have c:=hO7 (l++[10]++m) (by omega) l.length 0 (4999 - l.length) [] (t:=m) (by simp) (by omega) (by simp);have y:=gOt (l++[10]++m) (by omega) [] m (l.length+1) (l.length+1) (4999 - l.length - m.length) [l] h' (by simp [List.drop_append]);have h4:=gY1 (l++[10]++m) (by omega) (l.length+1) (4997 - l.length - m.length) [l] (by omega) (by simp);unfold gEv gFk;rw [show 5000 - l.length+l.length=5000 by omega,Nat.zero_add] at f;rw [show 4999 - l.length+1=5000 - l.length by omega] at c;rw [show 4999 - l.length - m.length+m.length=4999 - l.length by omega] at y;rw [show 4997 - l.length - m.length+2=4999 - l.length - m.length by omega,hs] at h4;have h5:(List.drop 0 (l++[10]++m)).take (l.length - 0)=l:=by simp
 rw [h5,List.nil_append] at c;refine((f.trans c).trans (y.trans h4)).trans ?_;simp [List.drop_append]
def hZ5(x:gD)(m:Nat)(good:kH→Bool):Bool:=
 wfx x && decide (ndx x≤900) && decide (dpx x≤14) && decide ((fmt x).length≤m) && noL (fmt x) && !(gG5 (fmt x)) && (qN x==some true) && (match yE x with | some (p,true)=>good p | _=>false)
theorem hLq{x:gD}{m:Nat}{good:kH→Bool}(hm:m≤4900)(h:hZ5 x m good=true):∃p,gCg (fmt x)=some (p,true)∧yE x=some (p,true)∧good p=true∧gG5 (fmt x)=false∧noL (fmt x)=true∧(fmt x).length≤m:=by
 unfold hZ5 at h;simp only [Bool.and_eq_true,decide_eq_true_eq,Bool.not_eq_true',beq_iff_eq] at h;obtain⟨⟨⟨⟨⟨⟨⟨f,y⟩,h3⟩,h4⟩,h5⟩,h6⟩,h7⟩,c⟩:=h;split at c
 ·rename_i p hp;refine⟨p,?_,hp,c,h6,h5,h4⟩;unfold gCg;rw [jO (hLp f y h3 (by omega) h7)];simp only [Bool.not_true,gI,hp,bnd]
 ·cases c
def hUb(p:kH):Bool:=p.instances.all fun i=> !(i.trait==addN)
def okC(b:Bool):Bool:=hZ5 (gVq b) 3000 fun _=>true
def okA:Bool:=hG9.all fun h=>hHa.all fun m=>[[],hR6].all fun c=>[[],hR7].all fun f=>[[],hR8].all fun y=>hZ5 (hR9 h m c f y) 1500 fun p=>hUb p && decide (p.instances.length≤100)
theorem jD1:okC true=true:=by kernel_rfl
theorem jD2:okC false=true:=by kernel_rfl
end Go.Proofs.YtegahmhnmjnhhaaGreat
