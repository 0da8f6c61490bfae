import Derived.Test.YtfpdlnkkcnmebaaGreatB23
set_option maxHeartbeats 4000000
set_option linter.unusedVariables false
set_option linter.unusedSimpArgs false
set_option linter.unusedSectionVars false
namespace Go.Proofs.YtfpdlnkkcnmebaaGreat
open Go Go.Eng
attribute [local irreducible] V VO VQ VY Quiet QR jI mK Rng qE qA pX
def zZ(y:gF):List jT→(List gF)→Option (gF)
 | [],q=>bnd (gOh true (gF.mk y.atom q)) fun ad=>
(some ad)
 | f::xs,q=>lt_ (pG f.name) fun ae=>
bnd (gL6 f.params) fun ag=>
bnd (gMo 5000 f.result) fun ah=>
bnd (gJi [ae,(gF.mk [] ag),ah]) fun h=>
bnd ((cnd f.hasDefault (
bnd (gBu f.vars) fun aa=>
bnd (gM7 5000 f.body) fun ab=>
gd (h.list.length+[aa,ab].length≤4294967296) (
(some (h.list++[aa,ab])))) (
(some h.list)))) fun ac=>
gd (q.length+[(gF.mk h.atom ac)].length≤4294967296) (
zZ y xs (q++[(gF.mk h.atom ac)]))
def gG9(f:pM):Option (gF):=
bnd (gEf f) fun x1=>
(cnd (!x1) (
(some (gF.mk [] []))) (
bnd ((cnd f.auto (
gd (([]:LS).length+([[97,117,116,111]]:LS).length≤4294967296) (
(some ([]++[[97,117,116,111]])))) (
(some [])))) fun q=>
bnd ((cnd f.assoc (
gd (q.length+([[97,115,115,111,99]]:LS).length≤4294967296) (
(some (q++[[97,115,115,111,99]])))) (
(some q)))) fun b7=>
lt_ (pG [116,114,97,105,116]) fun y=>
lt_ (pG f.name) fun aa=>
bnd (gBu f.supertraits) fun ab=>
bnd (gBu b7) fun ac=>
bnd (gJi [y,aa,ab,ac]) fun h=>
zZ h f.signatures h.list))
theorem gQl(a0:pM){r:gF}(h:gG9 a0=some r):jI Tryz.prog 204 [.d (gLb a0)] [qJ r]:=by
 obtain⟨ar,au,av,aw,am⟩:=a0;unfold gG9 at h;refine SpI Tryz.func204 fun A _=>?_;refine goL ?_;obtain⟨x1,cg,h⟩:=gJ h;refine jP (gI (gKu _ cg)) ?_;refine mR (fun c2=>?_) (fun c2=>?_)
 ·replace h:=kU c2 h;refine goL ?_;refine vP (jN TBd.h TZ.h rfl (by repeat constructor)) ?_;exact goR h
 ·replace h:=kV c2 h;refine goS ?_;refine gC1 ?_;refine goL ?_;obtain⟨b3,hb3,h⟩:=gJ h;refine gIx (fun v4=>⟨[(1,.ptr 0 0),(2,.ptr 1 0),(3,.sl 2 v4)],[bTr ar au av aw am,.box [.S [],.nilsl],.own 9 1 v4 (gT b3)],Tryz.f204.ntmps⟩) ?_ (fun v4=>?_)
  ·refine mR (fun c5=>?_) (fun c5=>?_)
   ·replace hb3:=kU c5 hb3;refine goL ?_;refine wX ([97,117,116,111]:LB) ?_;obtain⟨g6,hb3⟩:=pU hb3;refine gDl g6 ?_;refine goL ?_;cases hb3;exact⟨(0+1),eJ⟩
   ·replace hb3:=kV c5 hb3;refine vN ?_;cases hb3;exact⟨0,eJ⟩
  refine goL ?_;obtain⟨b7,hb7,h⟩:=gJ h;refine gIx (fun v8=>⟨[(1,.ptr 0 0),(2,.ptr 1 0),(3,.sl 2 v8)],[bTr ar au av aw am,.box [.S [],.nilsl],.own 9 1 v8 (gT b7)],Tryz.f204.ntmps⟩) ?_ (fun v8=>?_)
  ·refine mR (fun c9=>?_) (fun c9=>?_)
   ·replace hb7:=kU c9 hb7;refine goL ?_;refine wX ([97,115,115,111,99]:LB) ?_;obtain⟨ck,hb7⟩:=pU hb7;refine gDl ck ?_;refine goL ?_;cases hb7;exact⟨(v4+1),eJ⟩
   ·replace hb7:=kV c9 hb7;refine vN ?_;cases hb7;exact⟨v4,eJ⟩
  refine gIb ?_;refine mP 2 rfl rfl ?_;refine hR8 ?_;obtain⟨⟨f,y⟩,b2,h⟩:=uK h;have sx11:=pR [116,114,97,105,116];rw [b2] at sx11;obtain⟨⟨aa,ab⟩,b4,h⟩:=uK h;have sx12:=pR ar;rw [b4] at sx12;obtain⟨⟨ac,ad⟩,b5,h⟩:=gJ h;obtain⟨⟨ae,ah⟩,b6,h⟩:=gJ h;obtain⟨⟨ai,bc⟩,bo,h⟩:=gJ h;refine uC (P:=Tryz.prog) Mix.h (q3T 0 (q3T 3 (q3T 6 (.h 9 (.h 10 (hcT 11 (hzT 12)) (hcT 11 (hcT 10 (hzT 12)))) (hcT 11 (hcT 9 (hcT 10 (hzT 12)))))))) ⟨[(1,.ptr 0 0),(2,.ptr 1 0),(4,.ptr 5 0)],[bTr ar au av aw am,.box [.S [],.nilsl],.frz 9 1 v8 (gT b7),.frz 223 2 0 (jB [(gF.mk f y),(gF.mk aa ab),(gF.mk ac ad),(gF.mk ae ah)]),.arr 223 2 0 (jB bc),.box [.S ai,.sl 4 0]],Tryz.f204.ntmps⟩ (by kernel_rfl) ?_ ?_
  ·refine gGt (jW rfl (gI (sx11)) gZ) ?_;refine goT ?_;refine gGt (jW rfl (gI (sx12)) gZ) ?_;refine goT ?_;refine gGt (jW rfl (gI (vL _ b5)) gZ) ?_;refine goT ?_;refine gGt (jW rfl (gI (vL _ b6)) gZ) ?_;refine uD (kT (T:=221) (us:=jB [(gF.mk f y),(gF.mk aa ab),(gF.mk ac ad),(gF.mk ae ah)]) gZ) ?_ ?_
   ·refine uD (qC 3 rfl rfl (gDm (sv:=.ag [.S ai,.sl 4 0]) (L':=[bTr ar au av aw am,.box [.S [],.nilsl],.frz 9 1 v8 (gT b7),.frz 223 2 0 (jB [(gF.mk f y),(gF.mk aa ab),(gF.mk ac ad),(gF.mk ae ah)]),.arr 223 2 0 (jB bc)]) [] (wD [(gF.mk f y),(gF.mk aa ab),(gF.mk ac ad),(gF.mk ae ah)] bo) gZ)) ?_ ?_
    ·refine goT ?_;refine jL ?_;exact pQ 0 [0,1,2,3,4,5]
    refine goT ?_;refine gQ (qC 3 rfl rfl (gDm (sv:=.ag [.S ai,.sl 5 0]) (L':=[bTr ar au av aw am,.box [.S [],.nilsl],.frz 9 1 v8 (gT b7),.frz 223 2 0 (jB [(gF.mk f y),(gF.mk aa ab),(gF.mk ac ad),(gF.mk ae ah)]),.box [.S [],.nilsl],.arr 223 2 0 (jB bc)]) [] (wD [(gF.mk f y),(gF.mk aa ab),(gF.mk ac ad),(gF.mk ae ah)] bo) gZ)) ?_;refine goT ?_;refine jL ?_;exact pQ 0 [0,1,2,3,5,4]
   refine goT ?_;refine gQ (kT (T:=221) (us:=jB [(gF.mk f y),(gF.mk aa ab),(gF.mk ac ad),(gF.mk ae ah)]) gZ) ?_;refine gQ (qC 4 rfl rfl (gDm (sv:=.ag [.S ai,.sl 5 0]) (L':=[bTr ar au av aw am,.box [.S [],.nilsl],.frz 9 1 v8 (gT b7),.box [.S [],.nilsl],.frz 223 2 0 (jB [(gF.mk f y),(gF.mk aa ab),(gF.mk ac ad),(gF.mk ae ah)]),.arr 223 2 0 (jB bc)]) [] (wD [(gF.mk f y),(gF.mk aa ab),(gF.mk ac ad),(gF.mk ae ah)] bo) gZ)) ?_;refine goT ?_;refine jL ?_;exact pQ 0 [0,1,2,4,5,3]
  refine goL ?_;refine noB ?_;refine yC 0 4 (fun cs=>?_);refine mG (fun(bf:Nat)(be:List gF)(ba:Nat)=>⟨[(1,.ptr 0 0),(2,.ptr 1 0),(4,.ptr 5 0),(5,.N bf)],[bTr ar au av aw am,.box [.S [],.nilsl],.frz 9 1 v8 (gT b7),.frz 223 2 0 (jB [(gF.mk f y),(gF.mk aa ab),(gF.mk ac ad),(gF.mk ae ah)]),.arr 223 2 ba (jB be),.box [.S ai,.sl 4 ba]],Tryz.f204.ntmps⟩) (fun bf be ba=>zZ (gF.mk ai bc) (am.drop bf) be=some r) (fun bf be ba=>am.length - bf) 0 bc 0 eJ h ?_;rintro bf be ba h;refine goL ?_;refine mR (fun bq=>?_) (fun bq=>?_)
  ·have bk:=vR bq;obtain⟨cl,b8,br⟩:=drop_at bk;rw [br,zZ.eq_2] at h;obtain⟨bd,bg,⟨ax,ay,a3⟩,bh,bi,⟨a4,a5,a6,a7,⟨aj,ak,al⟩,a8,a9⟩⟩:=cl;refine noS ?_;refine kI (jA ?_);refine goL ?_;refine uN (jR bf (gOq b8)) ?_;refine gIb ?_;obtain⟨⟨an,ao⟩,b9,h⟩:=uK h;have sx22:=pR bd;rw [b9] at sx22;obtain⟨bj,ca,h⟩:=gJ h;obtain⟨⟨ap,aq⟩,cb,h⟩:=gJ h;obtain⟨⟨bb,bl⟩,bp,h⟩:=gJ h;refine uC (P:=Tryz.prog) Mix.h (q3T 0 (q3T 3 (q3T 6 (.q 9 (.h 10 (.h 11 (hcT 12 (hzT 13)) (hcT 12 (hcT 11 (hzT 13)))) (hcT 12 (hcT 10 (hcT 11 (hzT 13))))))))) ⟨[(1,.ptr 0 0),(2,.ptr 1 0),(4,.ptr 5 0),(5,.N bf),(6,.ptr 6 0),(7,.ptr 9 0)],[bTr ar au av aw am,.box [.S [],.nilsl],.frz 9 1 v8 (gT b7),.frz 223 2 0 (jB [(gF.mk f y),(gF.mk aa ab),(gF.mk ac ad),(gF.mk ae ah)]),.arr 223 2 ba (jB be),.box [.S ai,.sl 4 ba],bSg bd bg ax ay a3 bh bi a4 a5 a6 a7 aj ak al a8 a9,.frz 223 2 0 (jB [(gF.mk an ao),(gF.mk [] bj),(gF.mk ap aq)]),.arr 223 2 0 (jB bl),.box [.S bb,.sl 8 0]],Tryz.f204.ntmps⟩ (by kernel_rfl) ?_ ?_
   ·refine goT ?_;refine gGt (jW rfl (gI (sx22)) gZ) ?_;refine goT ?_;refine gGt (jW rfl (gI (gSv _ ca)) gZ) ?_;refine goT ?_;refine gGt (jW rfl (gI (gKk _ _ cb)) gZ) ?_;refine uD (kT (T:=221) (us:=jB [(gF.mk an ao),(gF.mk [] bj),(gF.mk ap aq)]) gZ) ?_ ?_
    ·refine uD (qC 7 rfl rfl (gDm (sv:=.ag [.S bb,.sl 8 0]) (L':=[bTr ar au av aw am,.box [.S [],.nilsl],.frz 9 1 v8 (gT b7),.frz 223 2 0 (jB [(gF.mk f y),(gF.mk aa ab),(gF.mk ac ad),(gF.mk ae ah)]),.arr 223 2 ba (jB be),.box [.S ai,.sl 4 ba],bSg bd bg ax ay a3 bh bi a4 a5 a6 a7 aj ak al a8 a9,.frz 223 2 0 (jB [(gF.mk an ao),(gF.mk [] bj),(gF.mk ap aq)]),.arr 223 2 0 (jB bl)]) [] (wD [(gF.mk an ao),(gF.mk [] bj),(gF.mk ap aq)] bp) gZ)) ?_ ?_
     ·refine goT ?_;refine jL ?_;exact pQ 0 [0,1,2,3,4,5,6,7,8,9]
     refine goT ?_;refine gQ (qC 7 rfl rfl (gDm (sv:=.ag [.S bb,.sl 9 0]) (L':=[bTr ar au av aw am,.box [.S [],.nilsl],.frz 9 1 v8 (gT b7),.frz 223 2 0 (jB [(gF.mk f y),(gF.mk aa ab),(gF.mk ac ad),(gF.mk ae ah)]),.arr 223 2 ba (jB be),.box [.S ai,.sl 4 ba],bSg bd bg ax ay a3 bh bi a4 a5 a6 a7 aj ak al a8 a9,.frz 223 2 0 (jB [(gF.mk an ao),(gF.mk [] bj),(gF.mk ap aq)]),.box [.S [],.nilsl],.arr 223 2 0 (jB bl)]) [] (wD [(gF.mk an ao),(gF.mk [] bj),(gF.mk ap aq)] bp) gZ)) ?_;refine goT ?_;refine jL ?_;exact pQ 0 [0,1,2,3,4,5,6,7,9,8]
    refine goT ?_;refine gQ (kT (T:=221) (us:=jB [(gF.mk an ao),(gF.mk [] bj),(gF.mk ap aq)]) gZ) ?_;refine gQ (qC 8 rfl rfl (gDm (sv:=.ag [.S bb,.sl 9 0]) (L':=[bTr ar au av aw am,.box [.S [],.nilsl],.frz 9 1 v8 (gT b7),.frz 223 2 0 (jB [(gF.mk f y),(gF.mk aa ab),(gF.mk ac ad),(gF.mk ae ah)]),.arr 223 2 ba (jB be),.box [.S ai,.sl 4 ba],bSg bd bg ax ay a3 bh bi a4 a5 a6 a7 aj ak al a8 a9,.box [.S [],.nilsl],.frz 223 2 0 (jB [(gF.mk an ao),(gF.mk [] bj),(gF.mk ap aq)]),.arr 223 2 0 (jB bl)]) [] (wD [(gF.mk an ao),(gF.mk [] bj),(gF.mk ap aq)] bp) gZ)) ?_;refine goT ?_;refine jL ?_;exact pQ 0 [0,1,2,3,4,5,6,8,9,7]
   refine goL ?_;obtain⟨bt,hb26,h⟩:=gJ h;refine gIx (fun bu=>⟨[(1,.ptr 0 0),(2,.ptr 1 0),(4,.ptr 5 0),(5,.N bf),(7,.ptr 9 0)],[bTr ar au av aw am,.box [.S [],.nilsl],.frz 9 1 v8 (gT b7),.frz 223 2 0 (jB [(gF.mk f y),(gF.mk aa ab),(gF.mk ac ad),(gF.mk ae ah)]),.arr 223 2 ba (jB be),.box [.S ai,.sl 4 ba],bSg bd bg ax ay a3 bh bi a4 a5 a6 a7 aj ak al a8 a9,.frz 223 2 0 (jB [(gF.mk an ao),(gF.mk [] bj),(gF.mk ap aq)]),.arr 223 2 bu (jB bt),.box [.S bb,.sl 8 bu]],Tryz.f204.ntmps⟩) ?_ (fun bu=>?_)
   ·refine mR (fun bv=>?_) (fun bv=>?_)
    ·replace hb26:=kU bv hb26;refine yL (P:=Tryz.prog) Mix.h [(0,true),(1,true),(2,true),(3,true),(4,true),(5,true),(6,true),(7,true),(8,false),(9,false),(10,true),(11,false)] (by kernel_rfl) ?_;refine goY ?_;obtain⟨⟨bw,bx⟩,cc,hb26⟩:=gJ hb26;refine jW rfl (gI (vL _ cc)) ?_;refine goY ?_;obtain⟨⟨bz,b0⟩,cd,hb26⟩:=gJ hb26;refine jW rfl (gI (gYl _ _ cd)) ?_;refine kT (T:=221) (us:=jB [(gF.mk bw bx),(gF.mk bz b0)]) ?_;obtain⟨cm,hb26⟩:=pU hb26;refine kN (T:=221) cm ?_;refine goY ?_;refine mJ ?_;refine goL ?_;cases hb26;exact⟨(0+1),eJ⟩
    ·replace hb26:=kV bv hb26;refine vN ?_;cases hb26;exact⟨0,eJ⟩
   refine goL ?_;refine kS 8 rfl rfl ?_;refine hAv ?_;refine uO (u:=(.st [.s bb,.sl 2 (jB bt)])) ?_;obtain⟨cn,h⟩:=pU h;refine gAd cn ?_;refine goL ?_;refine jP (kD bf (by omega)) ?_;exact⟨(bf+1),(be++[(gF.mk bb bt)]),(ba+1),h,by omega,eJ⟩
  ·have bk:=vS bq;rw [jK bk,zZ.eq_1] at h;refine goX ?_;refine kS 4 rfl rfl ?_;refine hAv ?_;obtain⟨⟨co,cp⟩,ce,h⟩:=gJ h;refine vP (gRe (gTq true (gF.mk ai be) ce)) ?_;exact goR h
def wS(a0:gF)(x1:gF)(x3:LS)(x5:gB)(x7:List gP)(x8:gF)(f:Bool × Int × LB × List gB):List gF→(List jG)→Option (jD × Bool)
 | [],h=>bnd (bnd (uY a0) fun aj=>
(cnd (!aj) ((some true)) ((cnd ((a0.list.length:Int)==0) ((some true)) (bnd (gEh (jD.mk x1.atom x3 x5 x7 (decide ((x8.list.length:Int) > 0)) f.1 (gB.mk f.2.1 f.2.2.1 f.2.2.2) h)) fun ak=>
bnd (gCx 5000 ak a0) fun al=>
(some (!al))))))) fun am=>
(cnd am (
(some ((jD.mk [] [] (gB.mk 0 [] []) [] false false (gB.mk 0 [] []) []),false))) (
(some ((jD.mk x1.atom x3 x5 x7 (decide ((x8.list.length:Int) > 0)) f.1 (gB.mk f.2.1 f.2.2.1 f.2.2.2) h),true))))
 | q::xs,h=>bnd (uT q 0) fun y=>
bnd (uT q 1) fun an=>
bnd (gCy an) fun aa=>
bnd (uT q 2) fun ao=>
bnd (gF2 5000 ao) fun ab=>
gd (h.length+[(jG.mk y.atom aa ab)].length≤4294967296) (
wS a0 x1 x3 x5 x7 x8 f xs (h++[(jG.mk y.atom aa ab)]))
def gEj(f:gF):Option (jD × Bool):=
bnd (uT f 1) fun x1=>
bnd (uT f 2) fun x2=>
bnd (gCy x2) fun x3=>
bnd (uT f 3) fun x4=>
bnd (gMn 5000 x4) fun x5=>
bnd (uT f 4) fun x6=>
bnd (gKj x6) fun x7=>
bnd (uT f 5) fun x8=>
bnd (uT f 6) fun x9=>
bnd ((cnd (decide ((x9.list.length:Int) > 0)) (
bnd (at? x9.list 0) fun q=>
bnd (gMn 5000 q) fun h=>
(some (true,h.kind,h.name,h.args))) (
(some (false,0,[],[]))))) fun y=>
bnd (gI7 f 7) fun aa=>
wS f x1 x3 x5 x7 x8 y aa []
theorem gNg(a0:gF){r:jD × Bool}(h:gEj a0=some r):jI Tryz.prog 189 [.d (qJ a0)] [gBq r.1,.b r.2]:=by
 obtain⟨ao,ap⟩:=a0;unfold gEj at h;refine SpI Tryz.func189 fun A _=>?_;refine gIb ?_;refine jS (P:=Tryz.prog) Mix.h [(0,true),(1,true),(2,true),(3,true),(4,true),(5,true),(6,true),(7,true),(8,true),(9,true),(10,true),(11,true),(12,true),(13,true),(14,true),(15,true),(16,true),(17,true),(18,false),(19,false)] (by kernel_rfl) ?_;refine goY ?_;obtain⟨⟨ad,be⟩,bv,h⟩:=gJ h;refine jW rfl (gI (vE _ _ bv)) ?_;refine jW rfl (gIc) ?_;refine goY ?_;obtain⟨⟨cn,co⟩,bw,h⟩:=gJ h;refine jW rfl (gI (vE _ _ bw)) ?_;obtain⟨x3,bx,h⟩:=gJ h;refine jW rfl (gI (gE9 _ bx)) ?_;refine goY ?_;obtain⟨⟨cp,cq⟩,bz,h⟩:=gJ h;refine jW rfl (gI (vE _ _ bz)) ?_;obtain⟨⟨ae,ag,ah⟩,b0,h⟩:=gJ h;refine jW rfl (gI (gO3 _ _ b0)) ?_;refine goY ?_;obtain⟨⟨cr,cs⟩,b1,h⟩:=gJ h;refine jW rfl (gI (vE _ _ b1)) ?_;obtain⟨x7,b2,h⟩:=gJ h;refine jW rfl (gI (gSg _ b2)) ?_;refine goY ?_;obtain⟨⟨bh,ai⟩,b3,h⟩:=gJ h;refine jW rfl (gI (vE _ _ b3)) ?_;refine jW rfl (gIc) ?_;refine goY ?_;refine mJ ?_;refine goL ?_;obtain⟨⟨aq,ar⟩,b4,h⟩:=gJ h;refine jP (gI (vE _ _ b4)) ?_;refine gS8 3 2 10 rfl rfl (by repeat constructor) (by repeat constructor) ?_;obtain⟨⟨f,q,y,aa⟩,hb10,h⟩:=gJ h;refine wY ⟨[(1,.ptr 0 0),(2,.ptr 1 0),(4,.ptr 2 0)],[bSx ao ap,.box [.S [],.nilsl,.I 0,.S [],.nilsl,.nilsl,.B false,.B false,.I 0,.S [],.nilsl,.nilsl],.box [.S ad,.L 1 (gT x3),.I ae,.S ag,.L 3 (gN ah),.L 4 (kC x7),.d (.b (decide ((ai.length:Int) > 0))),.B f,.I q,.S y,.L 3 (gN aa),.nilsl],bSx aq ar],Tryz.f189.ntmps⟩ ?_ ?_
 ·refine mR (fun a7=>?_) (fun a7=>?_)
  ·replace hb10:=kU a7 hb10;refine goL ?_;obtain⟨b5,au,hb10⟩:=gJ hb10;obtain⟨a8,au⟩:=gBm au;obtain⟨b6,b7⟩:=b5;refine jP (uL a8 (vH au)) ?_;obtain⟨⟨b8,b9,ca⟩,bi,hb10⟩:=gJ hb10;refine jP (gI (gO3 _ _ bi)) ?_;cases hb10;exact eJ
  ·replace hb10:=kV a7 hb10;refine vN ?_;cases hb10;exact eJ
 refine goL ?_;obtain⟨a9,bj,h⟩:=gJ h;refine jP (gI (gNj _ _ bj)) ?_;refine noB ?_;refine qZ 103 11 2 11 rfl rfl (by repeat constructor) (by repeat constructor) (by repeat constructor) (by repeat constructor) ?_;show V _ _ _ _ _;refine gCw 6 (fun ct=>?_);refine mG (fun(ab:Nat)(aj:List jG)(ak:Nat)=>⟨[(1,.ptr 0 0),(2,.ptr 1 0),(4,.ptr 2 0),(6,.L 2 (jB a9)),(7,.N ab)],[bSx ao ap,.box [.S [],.nilsl,.I 0,.S [],.nilsl,.nilsl,.B false,.B false,.I 0,.S [],.nilsl,.nilsl],.box [.S ad,.L 1 (gT x3),.I ae,.S ag,.L 3 (gN ah),.L 4 (kC x7),.d (.b (decide ((ai.length:Int) > 0))),.B f,.I q,.S y,.L 3 (gN aa),.sl 4 ak],bSx aq ar,.arr 103 11 ak (mF aj)],Tryz.f189.ntmps⟩) (fun ab aj ak=>wS (gF.mk ao ap) (gF.mk ad be) x3 (gB.mk ae ag ah) x7 (gF.mk bh ai) (f,q,y,aa) (a9.drop ab) aj=some r) (fun ab aj ak=>a9.length - ab) 0 [] 0 eJ h ?_;rintro ab aj ak h;refine goL ?_;refine mR (fun ba=>?_) (fun ba=>?_)
 ·have ac:=vR ba;obtain⟨cb,av,bb⟩:=drop_at ac;rw [bb,wS.eq_2] at h;obtain⟨cc,cd⟩:=cb;refine noS ?_;refine kI (jA ?_);refine yL (P:=Tryz.prog) Mix.h [(0,true),(1,true),(2,true),(3,true),(4,true),(5,true),(6,true),(7,true),(8,true),(9,true),(10,true),(11,true),(12,true),(13,true),(14,true),(15,true),(16,true),(17,true),(18,true),(19,true),(20,true),(21,false),(22,false),(23,true),(24,false)] (by kernel_rfl) ?_;refine goY ?_;refine jW rfl (jR ab (vH av)) ?_;refine goY ?_;obtain⟨⟨aw,ce⟩,bk,h⟩:=gJ h;refine jW rfl (gI (vE _ _ bk)) ?_;refine jW rfl (gIc) ?_;refine goY ?_;refine jW rfl (jR ab (vH av)) ?_;refine goY ?_;obtain⟨⟨cf,cg⟩,bl,h⟩:=gJ h;refine jW rfl (gI (vE _ _ bl)) ?_;obtain⟨bm,bn,h⟩:=gJ h;refine jW rfl (gI (gE9 _ bn)) ?_;refine goY ?_;refine jW rfl (jR ab (vH av)) ?_;refine goY ?_;obtain⟨⟨ch,ci⟩,bo,h⟩:=gJ h;refine jW rfl (gI (vE _ _ bo)) ?_;obtain⟨⟨ax,ay,a3,a4,⟨al,am,an⟩,a5,a6⟩,bp,h⟩:=gJ h;refine jW rfl (gI (gQr _ _ bp)) ?_;refine goY ?_;refine kT (T:=39) (us:=mF [(jG.mk aw bm (gY.mk ax ay a3 a4 (gB.mk al am an) a5 a6))]) ?_;obtain⟨cj,h⟩:=pU h;refine kN (T:=39) cj ?_;refine goY ?_;refine mJ ?_;refine goL ?_;refine jP (kD ab (by omega)) ?_;exact⟨(ab+1),(aj++[(jG.mk aw bm (gY.mk ax ay a3 a4 (gB.mk al am an) a5 a6))]),(ak+1),h,by omega,eJ⟩
 ·have ac:=vS ba;rw [jK ac,wS.eq_1] at h;refine noX ?_;refine gIb ?_;refine gV 4 rfl rfl ?_;obtain⟨ck,hb27,h⟩:=gJ h;refine wG (P:=Tryz.prog) Mix.h ⟨[(2,.ptr 1 0),(4,.ptr 2 0),(86,.B ck)],[bSx ao ap,.box [.S [],.nilsl,.I 0,.S [],.nilsl,.nilsl,.B false,.B false,.I 0,.S [],.nilsl,.nilsl],.box [.S ad,.L 1 (gT x3),.I ae,.S ag,.L 3 (gN ah),.L 4 (kC x7),.d (.b (decide ((ai.length:Int) > 0))),.B f,.I q,.S y,.L 3 (gN aa),.sl 4 ak],bSx aq ar,.frz 103 11 ak (mF aj)],Tryz.f189.ntmps⟩ (by kernel_rfl) ?_ ?_
  ·refine goL ?_;obtain⟨cu,bq,hb27⟩:=gJ hb27;refine gDi (gI (zQ _ bq)) ?_;refine goL ?_;refine gAl 74 (fun bc=>?_) (fun bc=>?_)
   ·replace hb27:=kU bc hb27;refine goL ?_;cases hb27;exact eJ
   ·replace hb27:=kV bc hb27;refine goL ?_;refine gAl 80 (fun bd=>?_) (fun bd=>?_)
    ·replace hb27:=kU bd hb27;refine goL ?_;cases hb27;exact eJ
    ·replace hb27:=kV bd hb27;refine goL ?_;obtain⟨⟨cl,cm⟩,br,hb27⟩:=gJ hb27;refine hIg (gRe (gNe (jD.mk ad x3 (gB.mk ae ag ah) x7 (decide ((ai.length:Int) > 0)) f (gB.mk q y aa) aj) br)) ?_;refine goL ?_;obtain⟨cv,bt,hb27⟩:=gJ hb27;refine gGh (gI (gGp _ _ _ bt)) ?_;refine goL ?_;cases hb27;exact eJ
  refine goC h ?_ ?_<;>intro cw h
  ·refine goL ?_;refine vP (jN TBd.h TZ.h rfl (by repeat constructor)) ?_;exact goR h
  ·refine goS ?_;refine jF ?_;cases h;exact uM
def wT(a0:gF)(x1:gF)(x3:LS)(x5:List gP)(x7:gB)(x9:gY):List gF→(List vQ)→Option (kX × Bool)
 | [],f=>bnd (bnd (uY a0) fun ah=>
(cnd (!ah) ((some true)) ((cnd ((a0.list.length:Int)==0) ((some true)) (bnd (gEi (kX.mk x1.atom x3 x5 f x7 x9)) fun ai=>
bnd (gCx 5000 ai a0) fun aj=>
(some (!aj))))))) fun ak=>
(cnd ak (
(some ((kX.mk [] [] [] [] (gB.mk 0 [] []) (gY.mk 0 [] [] 0 (gB.mk 0 [] []) [] [])),false))) (
(some ((kX.mk x1.atom x3 x5 f x7 x9),true))))
 | h::xs,f=>bnd (uT h 0) fun q=>
bnd (uT h 1) fun al=>
bnd (gMn 5000 al) fun y=>
gd (f.length+[(vQ.mk q.atom y)].length≤4294967296) (
wT a0 x1 x3 x5 x7 x9 xs (f++[(vQ.mk q.atom y)]))
def gEk(f:gF):Option (kX × Bool):=
bnd (uT f 1) fun q=>
bnd (uT f 2) fun y=>
bnd (gCy y) fun x3=>
bnd (uT f 3) fun x4=>
bnd (gKj x4) fun x5=>
bnd (uT f 5) fun x6=>
bnd (gMn 5000 x6) fun x7=>
bnd (uT f 6) fun x8=>
bnd (gF2 5000 x8) fun x9=>
bnd (uT f 4) fun h=>
wT f q x3 x5 x7 x9 h.list []
theorem gNh(a0:gF){r:kX × Bool}(h:gEk a0=some r):jI Tryz.prog 190 [.d (qJ a0)] [gEu r.1,.b r.2]:=by
 obtain⟨aq,ar⟩:=a0;unfold gEk at h;refine SpI Tryz.func190 fun A _=>?_;refine gIb ?_;refine jS (P:=Tryz.prog) Mix.h [(0,true),(1,true),(2,true),(3,true),(4,true),(5,true),(6,true),(7,true),(8,true),(9,true),(10,true),(11,true),(12,true),(13,true),(14,true),(15,true),(16,false),(17,false)] (by kernel_rfl) ?_;refine goY ?_;obtain⟨⟨ag,a8⟩,bj,h⟩:=gJ h;refine jW rfl (gI (vE _ _ bj)) ?_;refine jW rfl (gIc) ?_;refine goY ?_;obtain⟨⟨b4,b5⟩,bk,h⟩:=gJ h;refine jW rfl (gI (vE _ _ bk)) ?_;obtain⟨x3,bl,h⟩:=gJ h;refine jW rfl (gI (gE9 _ bl)) ?_;refine goY ?_;obtain⟨⟨b6,b7⟩,bm,h⟩:=gJ h;refine jW rfl (gI (vE _ _ bm)) ?_;obtain⟨x5,bn,h⟩:=gJ h;refine jW rfl (gI (gSg _ bn)) ?_;refine goY ?_;obtain⟨⟨b8,b9⟩,bo,h⟩:=gJ h;refine jW rfl (gI (vE _ _ bo)) ?_;obtain⟨⟨ah,ai,aj⟩,bp,h⟩:=gJ h;refine jW rfl (gI (gO3 _ _ bp)) ?_;refine goY ?_;obtain⟨⟨ca,cb⟩,bq,h⟩:=gJ h;refine jW rfl (gI (vE _ _ bq)) ?_;obtain⟨⟨ak,al,am,an,⟨f,q,y⟩,ao,ap⟩,br,h⟩:=gJ h;refine jW rfl (gI (gQr _ _ br)) ?_;refine goY ?_;refine mJ ?_;refine goL ?_;obtain⟨⟨au,ab⟩,a9,h⟩:=gJ h;refine jP (gI (vE _ _ a9)) ?_;refine noB ?_;refine qZ 212 4 2 3 rfl rfl (by repeat constructor) (by repeat constructor) (by repeat constructor) (by repeat constructor) ?_;show V _ _ _ _ _;refine yC 3 1 (fun cc=>?_);refine mG (fun(aa:Nat)(ad:List vQ)(ae:Nat)=>⟨[(1,.ptr 0 0),(2,.ptr 1 0),(4,.ptr 2 0),(5,.ptr 3 0),(6,.N aa)],[bSx aq ar,.box [.S [],.nilsl,.nilsl,.nilsl,.I 0,.S [],.nilsl,.I 0,.S [],.S [],.I 0,.I 0,.S [],.nilsl,.nilsl,.nilsl],.box [.S ag,.L 1 (gT x3),.L 4 (kC x5),.sl 4 ae,.I ah,.S ai,.L 3 (gN aj),.I ak,.S al,.S am,.I an,.I f,.S q,.L 3 (gN y),.L 9 (kQ ao),.L 11 (uZ ap)],bSx au ab,.arr 212 4 ae (yN ad)],Tryz.f190.ntmps⟩) (fun aa ad ae=>wT (gF.mk aq ar) (gF.mk ag a8) x3 x5 (gB.mk ah ai aj) (gY.mk ak al am an (gB.mk f q y) ao ap) (ab.drop aa) ad=some r) (fun aa ad ae=>ab.length - aa) 0 [] 0 eJ h ?_;rintro aa ad ae h;refine goL ?_;refine mR (fun a4=>?_) (fun a4=>?_)
 ·have ac:=vR a4;obtain⟨bt,a3,a5⟩:=drop_at ac;rw [a5,wT.eq_2] at h;obtain⟨bu,bv⟩:=bt;refine noS ?_;refine kI (jA ?_);refine yL (P:=Tryz.prog) Mix.h [(0,true),(1,true),(2,true),(3,true),(4,true),(5,true),(6,true),(7,true),(8,true),(9,true),(10,true),(11,true),(12,true),(13,true),(14,true),(15,true),(16,true),(17,false),(18,false),(19,true),(20,false)] (by kernel_rfl) ?_;refine goY ?_;refine jW rfl (jR aa (vH a3)) ?_;refine goY ?_;obtain⟨⟨av,bw⟩,ba,h⟩:=gJ h;refine jW rfl (gI (vE _ _ ba)) ?_;refine jW rfl (gIc) ?_;refine goY ?_;refine jW rfl (jR aa (vH a3)) ?_;refine goY ?_;obtain⟨⟨bx,bz⟩,bb,h⟩:=gJ h;refine jW rfl (gI (vE _ _ bb)) ?_;obtain⟨⟨aw,ax,ay⟩,bc,h⟩:=gJ h;refine jW rfl (gI (gO3 _ _ bc)) ?_;refine goY ?_;refine kT (T:=174) (us:=yN [(vQ.mk av (gB.mk aw ax ay))]) ?_;obtain⟨b0,h⟩:=pU h;refine kN (T:=174) b0 ?_;refine goY ?_;refine mJ ?_;refine goL ?_;refine jP (kD aa (by omega)) ?_;exact⟨(aa+1),(ad++[(vQ.mk av (gB.mk aw ax ay))]),(ae+1),h,by omega,eJ⟩
 ·have ac:=vS a4;rw [jK ac,wT.eq_1] at h;refine noX ?_;refine gIb ?_;refine gV 4 rfl rfl ?_;obtain⟨b1,hb21,h⟩:=gJ h;refine wG (P:=Tryz.prog) Mix.h ⟨[(2,.ptr 1 0),(4,.ptr 2 0),(67,.B b1)],[bSx aq ar,.box [.S [],.nilsl,.nilsl,.nilsl,.I 0,.S [],.nilsl,.I 0,.S [],.S [],.I 0,.I 0,.S [],.nilsl,.nilsl,.nilsl],.box [.S ag,.L 1 (gT x3),.L 4 (kC x5),.sl 4 ae,.I ah,.S ai,.L 3 (gN aj),.I ak,.S al,.S am,.I an,.I f,.S q,.L 3 (gN y),.L 9 (kQ ao),.L 11 (uZ ap)],bSx au ab,.frz 212 4 ae (yN ad)],Tryz.f190.ntmps⟩ (by kernel_rfl) ?_ ?_
  ·refine goL ?_;obtain⟨cd,bd,hb21⟩:=gJ hb21;refine gDi (gI (zQ _ bd)) ?_;refine goL ?_;refine gAl 55 (fun a6=>?_) (fun a6=>?_)
   ·replace hb21:=kU a6 hb21;refine goL ?_;cases hb21;exact eJ
   ·replace hb21:=kV a6 hb21;refine goL ?_;refine gAl 61 (fun a7=>?_) (fun a7=>?_)
    ·replace hb21:=kU a7 hb21;refine goL ?_;cases hb21;exact eJ
    ·replace hb21:=kV a7 hb21;refine goL ?_;obtain⟨⟨b2,b3⟩,be,hb21⟩:=gJ hb21;refine hIg (gRe (gNf (kX.mk ag x3 x5 ad (gB.mk ah ai aj) (gY.mk ak al am an (gB.mk f q y) ao ap)) be)) ?_;refine goL ?_;obtain⟨ce,bf,hb21⟩:=gJ hb21;refine gGh (gI (gGp _ _ _ bf)) ?_;refine goL ?_;cases hb21;exact eJ
  refine goC h ?_ ?_<;>intro cf h
  ·refine goL ?_;refine vP (jN TBd.h TZ.h rfl (by repeat constructor)) ?_;exact goR h
  ·refine goS ?_;refine jF ?_;cases h;exact uM
def gEl:List kX→Option (Bool)
 | []=>(some true)
 | f::xs=>bnd (gB2 f) fun h=>
(cnd (!h) (
(some false)) (
gEl xs ))
def gEm(q:jZ):List jD→Option (Bool)
 | []=>gEl q.functions
 | f::xs=>bnd (gB1 f) fun h=>
(cnd (!h) (
(some false)) (
gEm q xs ))
def gEn(f:jZ):List kG→Option (Bool)
 | []=>gEm f f.instances
 | h::xs=>bnd (gB0 h) fun q=>
(cnd (!q) (
(some false)) (
gEn f xs ))
def gEo(f:jZ):List pM→Option (Bool)
 | []=>gEn f f.dataTypes
 | h::xs=>bnd (gEf h) fun q=>
(cnd (!q) (
(some false)) (
gEo f xs ))
def gOi(f:jZ):Option (Bool):=
gEo f f.traits
theorem hAd(a0:jZ){r:Bool}(h:gOi a0=some r):jI Tryz.prog 195 [.d (gEv a0)] [.b r]:=by
 obtain⟨ab,ac,f,q,y,aa⟩:=a0;unfold gOi at h;refine SpI Tryz.func195 fun A _=>?_;refine goL ?_;refine noB ?_;refine yC 0 2 (fun z2=>?_);refine pY (fun(y1:Nat)=>⟨[(1,.ptr 0 0),(3,.N y1)],[bPk ab ac f q y aa],Tryz.f195.ntmps⟩) (fun y1=>gEo (jZ.mk ab ac f q y aa) (f.drop y1)  =some r) (fun y1=>f.length - y1) 0 eJ h ?_;rintro y1 h;refine goL ?_;refine mR (fun c3=>?_) (fun c3=>?_)
 ·have ai:=vR c3;obtain⟨x4,bw,bg⟩:=drop_at ai;rw [bg,gEo.eq_2] at h;obtain⟨cd,ce,cf,cg,ch⟩:=x4;refine noS ?_;refine kI (jA ?_);refine goL ?_;refine jP (jR y1 (gVh bw)) ?_;obtain⟨x5,bx,h⟩:=gJ h;refine jP (gI (gKu _ bx)) ?_;refine mR (fun c6=>?_) (fun c6=>?_)
  ·replace h:=kU c6 h;exact goR h
  ·replace h:=kV c6 h;refine goS ?_;refine jP (kD y1 (by omega)) ?_;exact⟨(y1+1),h,by omega,eJ⟩
 ·have ai:=vS c3;rw [jK ai,gEo.eq_1] at h;refine goX ?_;refine noB ?_;refine yC 0 3 (fun z8=>?_);refine pY (fun(y7:Nat)=>⟨[(1,.ptr 0 0),(4,.N y7)],[bPk ab ac f q y aa],Tryz.f195.ntmps⟩) (fun y7=>gEn (jZ.mk ab ac f q y aa) (q.drop y7)  =some r) (fun y7=>q.length - y7) 0 eJ h ?_;rintro y7 h;refine goL ?_;refine mR (fun c9=>?_) (fun c9=>?_)
  ·have aj:=vR c9;obtain⟨b1,bh,a4⟩:=drop_at aj;rw [a4,gEn.eq_2] at h;obtain⟨b2,b3,b4⟩:=b1;refine noS ?_;refine kI (jA ?_);refine goL ?_;refine jP (jR y7 (gJa bh)) ?_;obtain⟨cj,bi,h⟩:=gJ h;refine jP (gI (gH4 _ bi)) ?_;refine mR (fun a5=>?_) (fun a5=>?_)
   ·replace h:=kU a5 h;exact goR h
   ·replace h:=kV a5 h;refine goS ?_;refine jP (kD y7 (by omega)) ?_;exact⟨(y7+1),h,by omega,eJ⟩
  ·have aj:=vS c9;rw [jK aj,gEn.eq_1] at h;refine goX ?_;refine noB ?_;refine yC 0 4 (fun ck=>?_);refine pY (fun(ad:Nat)=>⟨[(1,.ptr 0 0),(5,.N ad)],[bPk ab ac f q y aa],Tryz.f195.ntmps⟩) (fun ad=>gEm (jZ.mk ab ac f q y aa) (y.drop ad)  =some r) (fun ad=>y.length - ad) 0 eJ h ?_;rintro ad h;refine goL ?_;refine mR (fun a6=>?_) (fun a6=>?_)
   ·have ae:=vR a6;obtain⟨b5,bj,a7⟩:=drop_at ae;rw [a7,gEm.eq_2] at h;obtain⟨b6,b7,⟨bk,bl,bm⟩,b8,b9,ca,⟨bn,bo,bp⟩,cb⟩:=b5;refine noS ?_;refine kI (jA ?_);refine goL ?_;refine jP (jR ad (gHj bj)) ?_;obtain⟨cl,bq,h⟩:=gJ h;refine jP (gI (gH5 _ bq)) ?_;refine mR (fun a8=>?_) (fun a8=>?_)
    ·replace h:=kU a8 h;exact goR h
    ·replace h:=kV a8 h;refine goS ?_;refine jP (kD ad (by omega)) ?_;exact⟨(ad+1),h,by omega,eJ⟩
   ·have ae:=vS a6;rw [jK ae,gEm.eq_1] at h;refine goX ?_;refine noB ?_;refine yC 0 5 (fun cm=>?_);refine pY (fun(ag:Nat)=>⟨[(1,.ptr 0 0),(6,.N ag)],[bPk ab ac f q y aa],Tryz.f195.ntmps⟩) (fun ag=>gEl (aa.drop ag)  =some r) (fun ag=>aa.length - ag) 0 eJ h ?_;rintro ag h;refine goL ?_;refine mR (fun a9=>?_) (fun a9=>?_)
    ·have ah:=vR a9;obtain⟨cc,br,ba⟩:=drop_at ah;rw [ba,gEl.eq_2] at h;obtain⟨bb,bc,bd,be,⟨an,ao,ap⟩,⟨aq,ar,au,av,⟨ak,al,am⟩,aw,ax⟩⟩:=cc;refine noS ?_;refine kI (jA ?_);refine goL ?_;refine jP (jR ag (gVn br)) ?_;obtain⟨cn,bt,h⟩:=gJ h;refine jP (gI (gH6 (kX.mk bb bc bd be (gB.mk an ao ap) (gY.mk aq ar au av (gB.mk ak al am) aw ax)) bt)) ?_;refine mR (fun bf=>?_) (fun bf=>?_)
     ·replace h:=kU bf h;exact goR h
     ·replace h:=kV bf h;refine goS ?_;refine jP (kD ag (by omega)) ?_;exact⟨(ag+1),h,by omega,eJ⟩
    ·have ah:=vS a9;rw [jK ah,gEl.eq_1] at h;refine goX ?_;refine jF ?_;cases h;exact uM
end Go.Proofs.YtfpdlnkkcnmebaaGreat
