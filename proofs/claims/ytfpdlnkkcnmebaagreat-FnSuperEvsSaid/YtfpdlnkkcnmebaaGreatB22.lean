import Derived.Test.YtfpdlnkkcnmebaaGreatB20
set_option maxHeartbeats 4000000
set_option linter.unusedVariables false
set_option linter.unusedSimpArgs false
set_option linter.unusedSectionVars false
namespace Go.Proofs.YtfpdlnkkcnmebaaGreat
open Go Go.Eng
attribute [local irreducible] V VO VQ VY Quiet QR jF mJ Rng qI qJ qB
def zG(q:gD):List jD→(List gD)→Option (gD)
 | [],h=>bnd (gM6 true (gD.mk q.atom h)) fun ac=>
(some ac)
 | c::xs,h=>lt_ (mP c.name) fun ad=>
bnd (gK1 c.params) fun ae=>
bnd (gLi 5000 c.result) fun ag=>
bnd (gIl [ad,(gD.mk [] ae),ag]) fun f=>
bnd ((cnd c.hasDefault (
bnd (gA6 c.vars) fun y=>
bnd (gLz 5000 c.body) fun aa=>
gd (f.list.length+[y,aa].length≤4294967296) (
(some (f.list++[y,aa])))) (
(some f.list)))) fun ab=>
gd (h.length+[(gD.mk f.atom ab)].length≤4294967296) (
zG q xs (h++[(gD.mk f.atom ab)]))
def gGo(c:mE):Option (gD):=
bnd (gDt c) fun x1=>
(cnd (!x1) (
(some (gD.mk [] []))) (
bnd ((cnd c.auto (
gd (([]:LS).length+([[97,117,116,111]]:LS).length≤4294967296) (
(some ([]++[[97,117,116,111]])))) (
(some [])))) fun h=>
bnd ((cnd c.assoc (
gd (h.length+([[97,115,115,111,99]]:LS).length≤4294967296) (
(some (h++[[97,115,115,111,99]])))) (
(some h)))) fun b7=>
lt_ (mP [116,114,97,105,116]) fun q=>
lt_ (mP c.name) fun y=>
bnd (gA6 c.supertraits) fun aa=>
bnd (gA6 b7) fun ab=>
bnd (gIl [q,y,aa,ab]) fun f=>
zG f c.signatures f.list))
theorem gPg(a0:mE){r:gD}(h:gGo a0=some r):jF Tryz.prog 204 [.d (gHg a0)] [qC r]:=by
 obtain⟨aq,ar,au,av,al⟩:=a0;unfold gGo at h;refine SpI Tryz.func204 fun A _=>?_;refine goL ?_;obtain⟨x1,cf,h⟩:=gJ h;refine jK (gG (gJu _ cf)) ?_;refine mQ (fun c2=>?_) (fun c2=>?_)
 ·replace h:=kT c2 h;refine goL ?_;refine yS (jU TBd.h TZ.h rfl (by repeat constructor)) ?_;exact goR h
 ·replace h:=kU c2 h;refine goS ?_;refine gB9 ?_;refine goL ?_;obtain⟨b3,hb3,h⟩:=gJ h;refine gIx (fun v4=>⟨[(1,.ptr 0 0),(2,.ptr 1 0),(3,.sl 2 v4)],[bTr aq ar au av al,.box [.S [],.nilsl],.own 9 1 v4 (gP b3)],Tryz.f204.ntmps⟩) ?_ (fun v4=>?_)
  ·refine mQ (fun c5=>?_) (fun c5=>?_)
   ·replace hb3:=kT c5 hb3;refine goL ?_;refine yF ([97,117,116,111]:LB) ?_;obtain⟨g6,hb3⟩:=pO hb3;refine gDn g6 ?_;refine goL ?_;cases hb3;exact⟨(0+1),eJ⟩
   ·replace hb3:=kU c5 hb3;refine yE ?_;cases hb3;exact⟨0,eJ⟩
  refine goL ?_;obtain⟨b7,hb7,h⟩:=gJ h;refine gIx (fun v8=>⟨[(1,.ptr 0 0),(2,.ptr 1 0),(3,.sl 2 v8)],[bTr aq ar au av al,.box [.S [],.nilsl],.own 9 1 v8 (gP b7)],Tryz.f204.ntmps⟩) ?_ (fun v8=>?_)
  ·refine mQ (fun c9=>?_) (fun c9=>?_)
   ·replace hb7:=kT c9 hb7;refine goL ?_;refine yF ([97,115,115,111,99]:LB) ?_;obtain⟨cj,hb7⟩:=pO hb7;refine gDn cj ?_;refine goL ?_;cases hb7;exact⟨(v4+1),eJ⟩
   ·replace hb7:=kU c9 hb7;refine yE ?_;cases hb7;exact⟨v4,eJ⟩
  refine gHi ?_;refine mI 2 rfl rfl ?_;refine hOu ?_;obtain⟨⟨c,f⟩,b1,h⟩:=qW h;have sx11:=pF [116,114,97,105,116];rw [b1] at sx11;obtain⟨⟨y,aa⟩,b2,h⟩:=qW h;have sx12:=pF aq;rw [b2] at sx12;obtain⟨⟨ab,ac⟩,b4,h⟩:=gJ h;obtain⟨⟨ad,ae⟩,b5,h⟩:=gJ h;obtain⟨⟨ah,bb⟩,bn,h⟩:=gJ h;refine zK (P:=Tryz.prog) Mix.h (.q 0 (.q 1 (.q 2 (.q 3 (.q 4 (.q 5 (.q 6 (.q 7 (.q 8 (.h 9 (.h 10 (.h 11 (.h 12 .nil .nil) .nil) (.h 11 (.h 10 (.h 12 .nil .nil) .nil) .nil)) (.h 11 (.h 9 (.h 10 (.h 12 .nil .nil) .nil) .nil) .nil))))))))))) ⟨[(1,.ptr 0 0),(2,.ptr 1 0),(4,.ptr 5 0)],[bTr aq ar au av al,.box [.S [],.nilsl],.frz 9 1 v8 (gP b7),.frz 223 2 0 (jA [(gD.mk c f),(gD.mk y aa),(gD.mk ab ac),(gD.mk ad ae)]),.arr 223 2 0 (jA bb),.box [.S ah,.sl 4 0]],Tryz.f204.ntmps⟩ (by kernel_rfl) ?_ ?_
  ·refine gFx (jO rfl (gG (sx11)) gQ) ?_;refine goT ?_;refine gFx (jO rfl (gG (sx12)) gQ) ?_;refine goT ?_;refine gFx (jO rfl (gG (uU _ b4)) gQ) ?_;refine goT ?_;refine gFx (jO rfl (gG (uU _ b5)) gQ) ?_;refine pR (jT (T:=221) (us:=jA [(gD.mk c f),(gD.mk y aa),(gD.mk ab ac),(gD.mk ad ae)]) gQ) ?_ ?_
   ·refine pR (mG 3 rfl rfl (gCn (sv:=.ag [.S ah,.sl 4 0]) (L':=[bTr aq ar au av al,.box [.S [],.nilsl],.frz 9 1 v8 (gP b7),.frz 223 2 0 (jA [(gD.mk c f),(gD.mk y aa),(gD.mk ab ac),(gD.mk ad ae)]),.arr 223 2 0 (jA bb)]) [] (vK [(gD.mk c f),(gD.mk y aa),(gD.mk ab ac),(gD.mk ad ae)] bn) gQ)) ?_ ?_
    ·refine goT ?_;refine jB ?_;exact mK 0 [0,1,2,3,4,5]
    refine goT ?_;refine gH (mG 3 rfl rfl (gCn (sv:=.ag [.S ah,.sl 5 0]) (L':=[bTr aq ar au av al,.box [.S [],.nilsl],.frz 9 1 v8 (gP b7),.frz 223 2 0 (jA [(gD.mk c f),(gD.mk y aa),(gD.mk ab ac),(gD.mk ad ae)]),.box [.S [],.nilsl],.arr 223 2 0 (jA bb)]) [] (vK [(gD.mk c f),(gD.mk y aa),(gD.mk ab ac),(gD.mk ad ae)] bn) gQ)) ?_;refine goT ?_;refine jB ?_;exact mK 0 [0,1,2,3,5,4]
   refine goT ?_;refine gH (jT (T:=221) (us:=jA [(gD.mk c f),(gD.mk y aa),(gD.mk ab ac),(gD.mk ad ae)]) gQ) ?_;refine gH (mG 4 rfl rfl (gCn (sv:=.ag [.S ah,.sl 5 0]) (L':=[bTr aq ar au av al,.box [.S [],.nilsl],.frz 9 1 v8 (gP b7),.box [.S [],.nilsl],.frz 223 2 0 (jA [(gD.mk c f),(gD.mk y aa),(gD.mk ab ac),(gD.mk ad ae)]),.arr 223 2 0 (jA bb)]) [] (vK [(gD.mk c f),(gD.mk y aa),(gD.mk ab ac),(gD.mk ad ae)] bn) gQ)) ?_;refine goT ?_;refine jB ?_;exact mK 0 [0,1,2,4,5,3]
  refine goL ?_;refine noB ?_;refine yP 0 4 (fun cr=>?_);refine kV (fun(be:Nat)(bd:List gD)(a9:Nat)=>⟨[(1,.ptr 0 0),(2,.ptr 1 0),(4,.ptr 5 0),(5,.N be)],[bTr aq ar au av al,.box [.S [],.nilsl],.frz 9 1 v8 (gP b7),.frz 223 2 0 (jA [(gD.mk c f),(gD.mk y aa),(gD.mk ab ac),(gD.mk ad ae)]),.arr 223 2 a9 (jA bd),.box [.S ah,.sl 4 a9]],Tryz.f204.ntmps⟩) (fun be bd a9=>zG (gD.mk ah bb) (al.drop be) bd=some r) (fun be bd a9=>al.length - be) 0 bb 0 eJ h ?_;rintro be bd a9 h;refine goL ?_;refine mQ (fun bp=>?_) (fun bp=>?_)
  ·have bj:=vF bp;obtain⟨ck,b6,bq⟩:=drop_at bj;rw [bq,zG.eq_2] at h;obtain⟨bc,bf,⟨aw,ax,ay⟩,bg,bh,⟨a3,a4,a5,a6,⟨ai,aj,ak⟩,a7,a8⟩⟩:=ck;refine noS ?_;refine kH (jE ?_);refine goL ?_;refine qM (jM be (gK3 b6)) ?_;refine gHi ?_;obtain⟨⟨am,an⟩,b8,h⟩:=qW h;have sx22:=pF bc;rw [b8] at sx22;obtain⟨bi,b9,h⟩:=gJ h;obtain⟨⟨ao,ap⟩,ca,h⟩:=gJ h;obtain⟨⟨ba,bk⟩,bo,h⟩:=gJ h;refine zK (P:=Tryz.prog) Mix.h (.q 0 (.q 1 (.q 2 (.q 3 (.q 4 (.q 5 (.q 6 (.q 7 (.q 8 (.q 9 (.h 10 (.h 11 (.h 12 (.h 13 .nil .nil) .nil) (.h 12 (.h 11 (.h 13 .nil .nil) .nil) .nil)) (.h 12 (.h 10 (.h 11 (.h 13 .nil .nil) .nil) .nil) .nil)))))))))))) ⟨[(1,.ptr 0 0),(2,.ptr 1 0),(4,.ptr 5 0),(5,.N be),(6,.ptr 6 0),(7,.ptr 9 0)],[bTr aq ar au av al,.box [.S [],.nilsl],.frz 9 1 v8 (gP b7),.frz 223 2 0 (jA [(gD.mk c f),(gD.mk y aa),(gD.mk ab ac),(gD.mk ad ae)]),.arr 223 2 a9 (jA bd),.box [.S ah,.sl 4 a9],bSg bc bf aw ax ay bg bh a3 a4 a5 a6 ai aj ak a7 a8,.frz 223 2 0 (jA [(gD.mk am an),(gD.mk [] bi),(gD.mk ao ap)]),.arr 223 2 0 (jA bk),.box [.S ba,.sl 8 0]],Tryz.f204.ntmps⟩ (by kernel_rfl) ?_ ?_
   ·refine goT ?_;refine gFx (jO rfl (gG (sx22)) gQ) ?_;refine goT ?_;refine gFx (jO rfl (gG (gRp _ b9)) gQ) ?_;refine goT ?_;refine gFx (jO rfl (gG (gJk _ _ ca)) gQ) ?_;refine pR (jT (T:=221) (us:=jA [(gD.mk am an),(gD.mk [] bi),(gD.mk ao ap)]) gQ) ?_ ?_
    ·refine pR (mG 7 rfl rfl (gCn (sv:=.ag [.S ba,.sl 8 0]) (L':=[bTr aq ar au av al,.box [.S [],.nilsl],.frz 9 1 v8 (gP b7),.frz 223 2 0 (jA [(gD.mk c f),(gD.mk y aa),(gD.mk ab ac),(gD.mk ad ae)]),.arr 223 2 a9 (jA bd),.box [.S ah,.sl 4 a9],bSg bc bf aw ax ay bg bh a3 a4 a5 a6 ai aj ak a7 a8,.frz 223 2 0 (jA [(gD.mk am an),(gD.mk [] bi),(gD.mk ao ap)]),.arr 223 2 0 (jA bk)]) [] (vK [(gD.mk am an),(gD.mk [] bi),(gD.mk ao ap)] bo) gQ)) ?_ ?_
     ·refine goT ?_;refine jB ?_;exact mK 0 [0,1,2,3,4,5,6,7,8,9]
     refine goT ?_;refine gH (mG 7 rfl rfl (gCn (sv:=.ag [.S ba,.sl 9 0]) (L':=[bTr aq ar au av al,.box [.S [],.nilsl],.frz 9 1 v8 (gP b7),.frz 223 2 0 (jA [(gD.mk c f),(gD.mk y aa),(gD.mk ab ac),(gD.mk ad ae)]),.arr 223 2 a9 (jA bd),.box [.S ah,.sl 4 a9],bSg bc bf aw ax ay bg bh a3 a4 a5 a6 ai aj ak a7 a8,.frz 223 2 0 (jA [(gD.mk am an),(gD.mk [] bi),(gD.mk ao ap)]),.box [.S [],.nilsl],.arr 223 2 0 (jA bk)]) [] (vK [(gD.mk am an),(gD.mk [] bi),(gD.mk ao ap)] bo) gQ)) ?_;refine goT ?_;refine jB ?_;exact mK 0 [0,1,2,3,4,5,6,7,9,8]
    refine goT ?_;refine gH (jT (T:=221) (us:=jA [(gD.mk am an),(gD.mk [] bi),(gD.mk ao ap)]) gQ) ?_;refine gH (mG 8 rfl rfl (gCn (sv:=.ag [.S ba,.sl 9 0]) (L':=[bTr aq ar au av al,.box [.S [],.nilsl],.frz 9 1 v8 (gP b7),.frz 223 2 0 (jA [(gD.mk c f),(gD.mk y aa),(gD.mk ab ac),(gD.mk ad ae)]),.arr 223 2 a9 (jA bd),.box [.S ah,.sl 4 a9],bSg bc bf aw ax ay bg bh a3 a4 a5 a6 ai aj ak a7 a8,.box [.S [],.nilsl],.frz 223 2 0 (jA [(gD.mk am an),(gD.mk [] bi),(gD.mk ao ap)]),.arr 223 2 0 (jA bk)]) [] (vK [(gD.mk am an),(gD.mk [] bi),(gD.mk ao ap)] bo) gQ)) ?_;refine goT ?_;refine jB ?_;exact mK 0 [0,1,2,3,4,5,6,8,9,7]
   refine goL ?_;obtain⟨br,hb26,h⟩:=gJ h;refine gIx (fun bt=>⟨[(1,.ptr 0 0),(2,.ptr 1 0),(4,.ptr 5 0),(5,.N be),(7,.ptr 9 0)],[bTr aq ar au av al,.box [.S [],.nilsl],.frz 9 1 v8 (gP b7),.frz 223 2 0 (jA [(gD.mk c f),(gD.mk y aa),(gD.mk ab ac),(gD.mk ad ae)]),.arr 223 2 a9 (jA bd),.box [.S ah,.sl 4 a9],bSg bc bf aw ax ay bg bh a3 a4 a5 a6 ai aj ak a7 a8,.frz 223 2 0 (jA [(gD.mk am an),(gD.mk [] bi),(gD.mk ao ap)]),.arr 223 2 bt (jA br),.box [.S ba,.sl 8 bt]],Tryz.f204.ntmps⟩) ?_ (fun bt=>?_)
   ·refine mQ (fun bu=>?_) (fun bu=>?_)
    ·replace hb26:=kT bu hb26;refine vP (P:=Tryz.prog) Mix.h [(0,true),(1,true),(2,true),(3,true),(4,true),(5,true),(6,true),(7,true),(8,false),(9,false),(10,true),(11,false)] (by kernel_rfl) ?_;refine goY ?_;obtain⟨⟨bv,bw⟩,cb,hb26⟩:=gJ hb26;refine jO rfl (gG (uU _ cb)) ?_;refine goY ?_;obtain⟨⟨bx,bz⟩,cc,hb26⟩:=gJ hb26;refine jO rfl (gG (gW7 _ _ cc)) ?_;refine jT (T:=221) (us:=jA [(gD.mk bv bw),(gD.mk bx bz)]) ?_;obtain⟨cl,hb26⟩:=pO hb26;refine jR (T:=221) cl ?_;refine goY ?_;refine kX ?_;refine goL ?_;cases hb26;exact⟨(0+1),eJ⟩
    ·replace hb26:=kU bu hb26;refine yE ?_;cases hb26;exact⟨0,eJ⟩
   refine goL ?_;refine mD 8 rfl rfl ?_;refine gZb ?_;refine uQ (u:=(.st [.s ba,.sl 2 (jA br)])) ?_;obtain⟨cm,h⟩:=pO h;refine gAi cm ?_;refine goL ?_;refine jK (kD be (by omega)) ?_;exact⟨(be+1),(bd++[(gD.mk ba br)]),(a9+1),h,by omega,eJ⟩
  ·have bj:=vG bp;rw [jH bj,zG.eq_1] at h;refine goX ?_;refine mD 4 rfl rfl ?_;refine gZb ?_;obtain⟨⟨cn,co⟩,cd,h⟩:=gJ h;refine yS (gRj (gSn true (gD.mk ah bd) cd)) ?_;exact goR h
def wC(a0:gD)(x1:gD)(x3:LS)(x5:gB)(x7:List gT)(x8:gD)(c:Bool × Int × LB × List gB):List gD→(List gX)→Option (gY × Bool)
 | [],f=>bnd (bnd (uC a0) fun ai=>
(cnd (!ai) ((some true)) ((cnd ((a0.list.length:Int)==0) ((some true)) (bnd (gDv (gY.mk x1.atom x3 x5 x7 (decide ((x8.list.length:Int) > 0)) c.1 (gB.mk c.2.1 c.2.2.1 c.2.2.2) f)) fun aj=>
bnd (gB6 5000 aj a0) fun ak=>
(some (!ak))))))) fun al=>
(cnd al (
(some ((gY.mk [] [] (gB.mk 0 [] []) [] false false (gB.mk 0 [] []) []),false))) (
(some ((gY.mk x1.atom x3 x5 x7 (decide ((x8.list.length:Int) > 0)) c.1 (gB.mk c.2.1 c.2.2.1 c.2.2.2) f),true))))
 | h::xs,f=>bnd (uB h 0) fun q=>
bnd (uB h 1) fun am=>
bnd (gB7 am) fun y=>
bnd (uB h 2) fun an=>
bnd (gFh 5000 an) fun aa=>
gd (f.length+[(gX.mk q.atom y aa)].length≤4294967296) (
wC a0 x1 x3 x5 x7 x8 c xs (f++[(gX.mk q.atom y aa)]))
def gDx(c:gD):Option (gY × Bool):=
bnd (uB c 1) fun x1=>
bnd (uB c 2) fun x2=>
bnd (gB7 x2) fun x3=>
bnd (uB c 3) fun x4=>
bnd (gLh 5000 x4) fun x5=>
bnd (uB c 4) fun x6=>
bnd (gJj x6) fun x7=>
bnd (uB c 5) fun x8=>
bnd (uB c 6) fun x9=>
bnd ((cnd (decide ((x9.list.length:Int) > 0)) (
bnd (at? x9.list 0) fun h=>
bnd (gLh 5000 h) fun f=>
(some (true,f.kind,f.name,f.args))) (
(some (false,0,[],[]))))) fun q=>
bnd (gH8 c 7) fun y=>
wC c x1 x3 x5 x7 x8 q y []
theorem gL5(a0:gD){r:gY × Bool}(h:gDx a0=some r):jF Tryz.prog 189 [.d (qC a0)] [yX r.1,.b r.2]:=by
 obtain⟨an,ao⟩:=a0;unfold gDx at h;refine SpI Tryz.func189 fun A _=>?_;refine gHi ?_;refine jL (P:=Tryz.prog) Mix.h [(0,true),(1,true),(2,true),(3,true),(4,true),(5,true),(6,true),(7,true),(8,true),(9,true),(10,true),(11,true),(12,true),(13,true),(14,true),(15,true),(16,true),(17,true),(18,false),(19,false)] (by kernel_rfl) ?_;refine goY ?_;obtain⟨⟨ac,bd⟩,bu,h⟩:=gJ h;refine jO rfl (gG (uI _ _ bu)) ?_;refine jO rfl (gHj) ?_;refine goY ?_;obtain⟨⟨cm,cn⟩,bv,h⟩:=gJ h;refine jO rfl (gG (uI _ _ bv)) ?_;obtain⟨x3,bw,h⟩:=gJ h;refine jO rfl (gG (gEn _ bw)) ?_;refine goY ?_;obtain⟨⟨co,cp⟩,bx,h⟩:=gJ h;refine jO rfl (gG (uI _ _ bx)) ?_;obtain⟨⟨ad,ae,ag⟩,bz,h⟩:=gJ h;refine jO rfl (gG (gN2 _ _ bz)) ?_;refine goY ?_;obtain⟨⟨cq,cr⟩,b0,h⟩:=gJ h;refine jO rfl (gG (uI _ _ b0)) ?_;obtain⟨x7,b1,h⟩:=gJ h;refine jO rfl (gG (gRa _ b1)) ?_;refine goY ?_;obtain⟨⟨bg,ah⟩,b2,h⟩:=gJ h;refine jO rfl (gG (uI _ _ b2)) ?_;refine jO rfl (gHj) ?_;refine goY ?_;refine kX ?_;refine goL ?_;obtain⟨⟨ap,aq⟩,b3,h⟩:=gJ h;refine jK (gG (uI _ _ b3)) ?_;refine gR0 3 2 10 rfl rfl (by repeat constructor) (by repeat constructor) ?_;obtain⟨⟨c,f,q,y⟩,hb10,h⟩:=gJ h;refine gAn ⟨[(1,.ptr 0 0),(2,.ptr 1 0),(4,.ptr 2 0)],[bSx an ao,.box [.S [],.nilsl,.I 0,.S [],.nilsl,.nilsl,.B false,.B false,.I 0,.S [],.nilsl,.nilsl],.box [.S ac,.L 1 (gP x3),.I ad,.S ae,.L 3 (gK ag),.L 4 (jQ x7),.d (.b (decide ((ah.length:Int) > 0))),.B c,.I f,.S q,.L 3 (gK y),.nilsl],bSx ap aq],Tryz.f189.ntmps⟩ ?_ ?_
 ·refine mQ (fun a6=>?_) (fun a6=>?_)
  ·replace hb10:=kT a6 hb10;refine goL ?_;obtain⟨b4,ar,hb10⟩:=gJ hb10;obtain⟨a7,ar⟩:=gAz ar;obtain⟨b5,b6⟩:=b4;refine jK (qY a7 (uM ar)) ?_;obtain⟨⟨b7,b8,b9⟩,bh,hb10⟩:=gJ hb10;refine jK (gG (gN2 _ _ bh)) ?_;cases hb10;exact eJ
  ·replace hb10:=kU a6 hb10;refine yE ?_;cases hb10;exact eJ
 refine goL ?_;obtain⟨a8,bi,h⟩:=gJ h;refine jK (gG (gL8 _ _ bi)) ?_;refine noB ?_;refine uO 103 11 2 11 rfl rfl (by repeat constructor) (by repeat constructor) (by repeat constructor) (by repeat constructor) ?_;show V _ _ _ _ _;refine gCm 6 (fun cs=>?_);refine kV (fun(aa:Nat)(ai:List gX)(aj:Nat)=>⟨[(1,.ptr 0 0),(2,.ptr 1 0),(4,.ptr 2 0),(6,.L 2 (jA a8)),(7,.N aa)],[bSx an ao,.box [.S [],.nilsl,.I 0,.S [],.nilsl,.nilsl,.B false,.B false,.I 0,.S [],.nilsl,.nilsl],.box [.S ac,.L 1 (gP x3),.I ad,.S ae,.L 3 (gK ag),.L 4 (jQ x7),.d (.b (decide ((ah.length:Int) > 0))),.B c,.I f,.S q,.L 3 (gK y),.sl 4 aj],bSx ap aq,.arr 103 11 aj (kR ai)],Tryz.f189.ntmps⟩) (fun aa ai aj=>wC (gD.mk an ao) (gD.mk ac bd) x3 (gB.mk ad ae ag) x7 (gD.mk bg ah) (c,f,q,y) (a8.drop aa) ai=some r) (fun aa ai aj=>a8.length - aa) 0 [] 0 eJ h ?_;rintro aa ai aj h;refine goL ?_;refine mQ (fun a9=>?_) (fun a9=>?_)
 ·have ab:=vF a9;obtain⟨ca,au,ba⟩:=drop_at ab;rw [ba,wC.eq_2] at h;obtain⟨cb,cc⟩:=ca;refine noS ?_;refine kH (jE ?_);refine vP (P:=Tryz.prog) Mix.h [(0,true),(1,true),(2,true),(3,true),(4,true),(5,true),(6,true),(7,true),(8,true),(9,true),(10,true),(11,true),(12,true),(13,true),(14,true),(15,true),(16,true),(17,true),(18,true),(19,true),(20,true),(21,false),(22,false),(23,true),(24,false)] (by kernel_rfl) ?_;refine goY ?_;refine jO rfl (jM aa (uM au)) ?_;refine goY ?_;obtain⟨⟨av,cd⟩,bj,h⟩:=gJ h;refine jO rfl (gG (uI _ _ bj)) ?_;refine jO rfl (gHj) ?_;refine goY ?_;refine jO rfl (jM aa (uM au)) ?_;refine goY ?_;obtain⟨⟨ce,cf⟩,bk,h⟩:=gJ h;refine jO rfl (gG (uI _ _ bk)) ?_;obtain⟨bl,bm,h⟩:=gJ h;refine jO rfl (gG (gEn _ bm)) ?_;refine goY ?_;refine jO rfl (jM aa (uM au)) ?_;refine goY ?_;obtain⟨⟨cg,ch⟩,bn,h⟩:=gJ h;refine jO rfl (gG (uI _ _ bn)) ?_;obtain⟨⟨aw,ax,ay,a3,⟨ak,al,am⟩,a4,a5⟩,bo,h⟩:=gJ h;refine jO rfl (gG (gPm _ _ bo)) ?_;refine goY ?_;refine jT (T:=39) (us:=kR [(gX.mk av bl (gU.mk aw ax ay a3 (gB.mk ak al am) a4 a5))]) ?_;obtain⟨ci,h⟩:=pO h;refine jR (T:=39) ci ?_;refine goY ?_;refine kX ?_;refine goL ?_;refine jK (kD aa (by omega)) ?_;exact⟨(aa+1),(ai++[(gX.mk av bl (gU.mk aw ax ay a3 (gB.mk ak al am) a4 a5))]),(aj+1),h,by omega,eJ⟩
 ·have ab:=vG a9;rw [jH ab,wC.eq_1] at h;refine noX ?_;refine gHi ?_;refine gW 4 rfl rfl ?_;obtain⟨cj,hb27,h⟩:=gJ h;refine uT (P:=Tryz.prog) Mix.h ⟨[(2,.ptr 1 0),(4,.ptr 2 0),(86,.B cj)],[bSx an ao,.box [.S [],.nilsl,.I 0,.S [],.nilsl,.nilsl,.B false,.B false,.I 0,.S [],.nilsl,.nilsl],.box [.S ac,.L 1 (gP x3),.I ad,.S ae,.L 3 (gK ag),.L 4 (jQ x7),.d (.b (decide ((ah.length:Int) > 0))),.B c,.I f,.S q,.L 3 (gK y),.sl 4 aj],bSx ap aq,.frz 103 11 aj (kR ai)],Tryz.f189.ntmps⟩ (by kernel_rfl) ?_ ?_
  ·refine goL ?_;obtain⟨ct,bp,hb27⟩:=gJ hb27;refine gCy (gG (yT _ bp)) ?_;refine goL ?_;refine wN 74 (fun bb=>?_) (fun bb=>?_)
   ·replace hb27:=kT bb hb27;refine goL ?_;cases hb27;exact eJ
   ·replace hb27:=kU bb hb27;refine goL ?_;refine wN 80 (fun bc=>?_) (fun bc=>?_)
    ·replace hb27:=kT bc hb27;refine goL ?_;cases hb27;exact eJ
    ·replace hb27:=kU bc hb27;refine goL ?_;obtain⟨⟨ck,cl⟩,bq,hb27⟩:=gJ hb27;refine hBo (gRj (gL3 (gY.mk ac x3 (gB.mk ad ae ag) x7 (decide ((ah.length:Int) > 0)) c (gB.mk f q y) ai) bq)) ?_;refine goL ?_;obtain⟨cu,br,hb27⟩:=gJ hb27;refine gEa (gG (gF6 _ _ _ br)) ?_;refine goL ?_;cases hb27;exact eJ
  refine goC h ?_ ?_<;>intro cv h
  ·refine goL ?_;refine yS (jU TBd.h TZ.h rfl (by repeat constructor)) ?_;exact goR h
  ·refine goS ?_;refine jG ?_;cases h;exact uA
def wD(y:gD)(x1:gD)(x3:LS)(x5:List gT)(x7:gB)(x9:gU):List gD→(List uG)→Option (kI × Bool)
 | [],c=>bnd (bnd (uC y) fun ag=>
(cnd (!ag) ((some true)) ((cnd ((y.list.length:Int)==0) ((some true)) (bnd (gDw (kI.mk x1.atom x3 x5 c x7 x9)) fun ah=>
bnd (gB6 5000 ah y) fun ai=>
(some (!ai))))))) fun aj=>
(cnd aj (
(some ((kI.mk [] [] [] [] (gB.mk 0 [] []) (gU.mk 0 [] [] 0 (gB.mk 0 [] []) [] [])),false))) (
(some ((kI.mk x1.atom x3 x5 c x7 x9),true))))
 | f::xs,c=>bnd (uB f 0) fun h=>
bnd (uB f 1) fun ak=>
bnd (gLh 5000 ak) fun q=>
gd (c.length+[(uG.mk h.atom q)].length≤4294967296) (
wD y x1 x3 x5 x7 x9 xs (c++[(uG.mk h.atom q)]))
def gDy(c:gD):Option (kI × Bool):=
bnd (uB c 1) fun h=>
bnd (uB c 2) fun q=>
bnd (gB7 q) fun y=>
bnd (uB c 3) fun x4=>
bnd (gJj x4) fun x5=>
bnd (uB c 5) fun x6=>
bnd (gLh 5000 x6) fun x7=>
bnd (uB c 6) fun x8=>
bnd (gFh 5000 x8) fun x9=>
bnd (uB c 4) fun f=>
wD c h y x5 x7 x9 f.list []
theorem gL6(a0:gD){r:kI × Bool}(h:gDy a0=some r):jF Tryz.prog 190 [.d (qC a0)] [gD7 r.1,.b r.2]:=by
 obtain⟨ap,aq⟩:=a0;unfold gDy at h;refine SpI Tryz.func190 fun A _=>?_;refine gHi ?_;refine jL (P:=Tryz.prog) Mix.h [(0,true),(1,true),(2,true),(3,true),(4,true),(5,true),(6,true),(7,true),(8,true),(9,true),(10,true),(11,true),(12,true),(13,true),(14,true),(15,true),(16,false),(17,false)] (by kernel_rfl) ?_;refine goY ?_;obtain⟨⟨ae,a7⟩,bi,h⟩:=gJ h;refine jO rfl (gG (uI _ _ bi)) ?_;refine jO rfl (gHj) ?_;refine goY ?_;obtain⟨⟨b3,b4⟩,bj,h⟩:=gJ h;refine jO rfl (gG (uI _ _ bj)) ?_;obtain⟨x3,bk,h⟩:=gJ h;refine jO rfl (gG (gEn _ bk)) ?_;refine goY ?_;obtain⟨⟨b5,b6⟩,bl,h⟩:=gJ h;refine jO rfl (gG (uI _ _ bl)) ?_;obtain⟨x5,bm,h⟩:=gJ h;refine jO rfl (gG (gRa _ bm)) ?_;refine goY ?_;obtain⟨⟨b7,b8⟩,bn,h⟩:=gJ h;refine jO rfl (gG (uI _ _ bn)) ?_;obtain⟨⟨ag,ah,ai⟩,bo,h⟩:=gJ h;refine jO rfl (gG (gN2 _ _ bo)) ?_;refine goY ?_;obtain⟨⟨b9,ca⟩,bp,h⟩:=gJ h;refine jO rfl (gG (uI _ _ bp)) ?_;obtain⟨⟨aj,ak,al,am,⟨c,f,q⟩,an,ao⟩,bq,h⟩:=gJ h;refine jO rfl (gG (gPm _ _ bq)) ?_;refine goY ?_;refine kX ?_;refine goL ?_;obtain⟨⟨ar,aa⟩,a8,h⟩:=gJ h;refine jK (gG (uI _ _ a8)) ?_;refine noB ?_;refine uO 212 4 2 3 rfl rfl (by repeat constructor) (by repeat constructor) (by repeat constructor) (by repeat constructor) ?_;show V _ _ _ _ _;refine yP 3 1 (fun cb=>?_);refine kV (fun(y:Nat)(ac:List uG)(ad:Nat)=>⟨[(1,.ptr 0 0),(2,.ptr 1 0),(4,.ptr 2 0),(5,.ptr 3 0),(6,.N y)],[bSx ap aq,.box [.S [],.nilsl,.nilsl,.nilsl,.I 0,.S [],.nilsl,.I 0,.S [],.S [],.I 0,.I 0,.S [],.nilsl,.nilsl,.nilsl],.box [.S ae,.L 1 (gP x3),.L 4 (jQ x5),.sl 4 ad,.I ag,.S ah,.L 3 (gK ai),.I aj,.S ak,.S al,.I am,.I c,.S f,.L 3 (gK q),.L 9 (jS an),.L 11 (mW ao)],bSx ar aa,.arr 212 4 ad (uS ac)],Tryz.f190.ntmps⟩) (fun y ac ad=>wD (gD.mk ap aq) (gD.mk ae a7) x3 x5 (gB.mk ag ah ai) (gU.mk aj ak al am (gB.mk c f q) an ao) (aa.drop y) ac=some r) (fun y ac ad=>aa.length - y) 0 [] 0 eJ h ?_;rintro y ac ad h;refine goL ?_;refine mQ (fun a3=>?_) (fun a3=>?_)
 ·have ab:=vF a3;obtain⟨br,ay,a4⟩:=drop_at ab;rw [a4,wD.eq_2] at h;obtain⟨bt,bu⟩:=br;refine noS ?_;refine kH (jE ?_);refine vP (P:=Tryz.prog) Mix.h [(0,true),(1,true),(2,true),(3,true),(4,true),(5,true),(6,true),(7,true),(8,true),(9,true),(10,true),(11,true),(12,true),(13,true),(14,true),(15,true),(16,true),(17,false),(18,false),(19,true),(20,false)] (by kernel_rfl) ?_;refine goY ?_;refine jO rfl (jM y (uM ay)) ?_;refine goY ?_;obtain⟨⟨au,bv⟩,a9,h⟩:=gJ h;refine jO rfl (gG (uI _ _ a9)) ?_;refine jO rfl (gHj) ?_;refine goY ?_;refine jO rfl (jM y (uM ay)) ?_;refine goY ?_;obtain⟨⟨bw,bx⟩,ba,h⟩:=gJ h;refine jO rfl (gG (uI _ _ ba)) ?_;obtain⟨⟨av,aw,ax⟩,bb,h⟩:=gJ h;refine jO rfl (gG (gN2 _ _ bb)) ?_;refine goY ?_;refine jT (T:=174) (us:=uS [(uG.mk au (gB.mk av aw ax))]) ?_;obtain⟨bz,h⟩:=pO h;refine jR (T:=174) bz ?_;refine goY ?_;refine kX ?_;refine goL ?_;refine jK (kD y (by omega)) ?_;exact⟨(y+1),(ac++[(uG.mk au (gB.mk av aw ax))]),(ad+1),h,by omega,eJ⟩
 ·have ab:=vG a3;rw [jH ab,wD.eq_1] at h;refine noX ?_;refine gHi ?_;refine gW 4 rfl rfl ?_;obtain⟨b0,hb21,h⟩:=gJ h;refine uT (P:=Tryz.prog) Mix.h ⟨[(2,.ptr 1 0),(4,.ptr 2 0),(67,.B b0)],[bSx ap aq,.box [.S [],.nilsl,.nilsl,.nilsl,.I 0,.S [],.nilsl,.I 0,.S [],.S [],.I 0,.I 0,.S [],.nilsl,.nilsl,.nilsl],.box [.S ae,.L 1 (gP x3),.L 4 (jQ x5),.sl 4 ad,.I ag,.S ah,.L 3 (gK ai),.I aj,.S ak,.S al,.I am,.I c,.S f,.L 3 (gK q),.L 9 (jS an),.L 11 (mW ao)],bSx ar aa,.frz 212 4 ad (uS ac)],Tryz.f190.ntmps⟩ (by kernel_rfl) ?_ ?_
  ·refine goL ?_;obtain⟨cc,bc,hb21⟩:=gJ hb21;refine gCy (gG (yT _ bc)) ?_;refine goL ?_;refine wN 55 (fun a5=>?_) (fun a5=>?_)
   ·replace hb21:=kT a5 hb21;refine goL ?_;cases hb21;exact eJ
   ·replace hb21:=kU a5 hb21;refine goL ?_;refine wN 61 (fun a6=>?_) (fun a6=>?_)
    ·replace hb21:=kT a6 hb21;refine goL ?_;cases hb21;exact eJ
    ·replace hb21:=kU a6 hb21;refine goL ?_;obtain⟨⟨b1,b2⟩,bd,hb21⟩:=gJ hb21;refine hBo (gRj (gL4 (kI.mk ae x3 x5 ac (gB.mk ag ah ai) (gU.mk aj ak al am (gB.mk c f q) an ao)) bd)) ?_;refine goL ?_;obtain⟨cd,be,hb21⟩:=gJ hb21;refine gEa (gG (gF6 _ _ _ be)) ?_;refine goL ?_;cases hb21;exact eJ
  refine goC h ?_ ?_<;>intro ce h
  ·refine goL ?_;refine yS (jU TBd.h TZ.h rfl (by repeat constructor)) ?_;exact goR h
  ·refine goS ?_;refine jG ?_;cases h;exact uA
def gDz:List kI→Option (Bool)
 | []=>(some true)
 | c::xs=>bnd (gBf c) fun f=>
(cnd (!f) (
(some false)) (
gDz xs ))
def gD0(h:jX):List gY→Option (Bool)
 | []=>gDz h.functions
 | c::xs=>bnd (gBe c) fun f=>
(cnd (!f) (
(some false)) (
gD0 h xs ))
def gD1(c:jX):List kP→Option (Bool)
 | []=>gD0 c c.instances
 | f::xs=>bnd (gBd f) fun h=>
(cnd (!h) (
(some false)) (
gD1 c xs ))
def gD2(c:jX):List mE→Option (Bool)
 | []=>gD1 c c.dataTypes
 | f::xs=>bnd (gDt f) fun h=>
(cnd (!h) (
(some false)) (
gD2 c xs ))
def gM7(c:jX):Option (Bool):=
gD2 c c.traits
theorem gYt(a0:jX){r:Bool}(h:gM7 a0=some r):jF Tryz.prog 195 [.d (gD8 a0)] [.b r]:=by
 obtain⟨aa,ab,c,f,q,y⟩:=a0;unfold gM7 at h;refine SpI Tryz.func195 fun A _=>?_;refine goL ?_;refine noB ?_;refine yP 0 2 (fun z2=>?_);refine qD (fun(y1:Nat)=>⟨[(1,.ptr 0 0),(3,.N y1)],[bPk aa ab c f q y],Tryz.f195.ntmps⟩) (fun y1=>gD2 (jX.mk aa ab c f q y) (c.drop y1)  =some r) (fun y1=>c.length - y1) 0 eJ h ?_;rintro y1 h;refine goL ?_;refine mQ (fun c3=>?_) (fun c3=>?_)
 ·have ah:=vF c3;obtain⟨x4,bv,bf⟩:=drop_at ah;rw [bf,gD2.eq_2] at h;obtain⟨cc,cd,ce,cf,cg⟩:=x4;refine noS ?_;refine kH (jE ?_);refine goL ?_;refine jK (jM y1 (gUq bv)) ?_;obtain⟨x5,bw,h⟩:=gJ h;refine jK (gG (gJu _ bw)) ?_;refine mQ (fun c6=>?_) (fun c6=>?_)
  ·replace h:=kT c6 h;exact goR h
  ·replace h:=kU c6 h;refine goS ?_;refine jK (kD y1 (by omega)) ?_;exact⟨(y1+1),h,by omega,eJ⟩
 ·have ah:=vG c3;rw [jH ah,gD2.eq_1] at h;refine goX ?_;refine noB ?_;refine yP 0 3 (fun z8=>?_);refine qD (fun(y7:Nat)=>⟨[(1,.ptr 0 0),(4,.N y7)],[bPk aa ab c f q y],Tryz.f195.ntmps⟩) (fun y7=>gD1 (jX.mk aa ab c f q y) (f.drop y7)  =some r) (fun y7=>f.length - y7) 0 eJ h ?_;rintro y7 h;refine goL ?_;refine mQ (fun c9=>?_) (fun c9=>?_)
  ·have ai:=vF c9;obtain⟨b0,bg,a3⟩:=drop_at ai;rw [a3,gD1.eq_2] at h;obtain⟨b1,b2,b3⟩:=b0;refine noS ?_;refine kH (jE ?_);refine goL ?_;refine jK (jM y7 (gMn bg)) ?_;obtain⟨ci,bh,h⟩:=gJ h;refine jK (gG (gHa _ bh)) ?_;refine mQ (fun a4=>?_) (fun a4=>?_)
   ·replace h:=kT a4 h;exact goR h
   ·replace h:=kU a4 h;refine goS ?_;refine jK (kD y7 (by omega)) ?_;exact⟨(y7+1),h,by omega,eJ⟩
  ·have ai:=vG c9;rw [jH ai,gD1.eq_1] at h;refine goX ?_;refine noB ?_;refine yP 0 4 (fun cj=>?_);refine qD (fun(ac:Nat)=>⟨[(1,.ptr 0 0),(5,.N ac)],[bPk aa ab c f q y],Tryz.f195.ntmps⟩) (fun ac=>gD0 (jX.mk aa ab c f q y) (q.drop ac)  =some r) (fun ac=>q.length - ac) 0 eJ h ?_;rintro ac h;refine goL ?_;refine mQ (fun a5=>?_) (fun a5=>?_)
   ·have ad:=vF a5;obtain⟨b4,bi,a6⟩:=drop_at ad;rw [a6,gD0.eq_2] at h;obtain⟨b5,b6,⟨bj,bk,bl⟩,b7,b8,b9,⟨bm,bn,bo⟩,ca⟩:=b4;refine noS ?_;refine kH (jE ?_);refine goL ?_;refine jK (jM ac (gGz bi)) ?_;obtain⟨ck,bp,h⟩:=gJ h;refine jK (gG (gHb _ bp)) ?_;refine mQ (fun a7=>?_) (fun a7=>?_)
    ·replace h:=kT a7 h;exact goR h
    ·replace h:=kU a7 h;refine goS ?_;refine jK (kD ac (by omega)) ?_;exact⟨(ac+1),h,by omega,eJ⟩
   ·have ad:=vG a5;rw [jH ad,gD0.eq_1] at h;refine goX ?_;refine noB ?_;refine yP 0 5 (fun cl=>?_);refine qD (fun(ae:Nat)=>⟨[(1,.ptr 0 0),(6,.N ae)],[bPk aa ab c f q y],Tryz.f195.ntmps⟩) (fun ae=>gDz (y.drop ae)  =some r) (fun ae=>y.length - ae) 0 eJ h ?_;rintro ae h;refine goL ?_;refine mQ (fun a8=>?_) (fun a8=>?_)
    ·have ag:=vF a8;obtain⟨cb,bq,a9⟩:=drop_at ag;rw [a9,gDz.eq_2] at h;obtain⟨ba,bb,bc,bd,⟨am,an,ao⟩,⟨ap,aq,ar,au,⟨aj,ak,al⟩,av,aw⟩⟩:=cb;refine noS ?_;refine kH (jE ?_);refine goL ?_;refine jK (jM ae (gUw bq)) ?_;obtain⟨cm,br,h⟩:=gJ h;refine jK (gG (gHc (kI.mk ba bb bc bd (gB.mk am an ao) (gU.mk ap aq ar au (gB.mk aj ak al) av aw)) br)) ?_;refine mQ (fun be=>?_) (fun be=>?_)
     ·replace h:=kT be h;exact goR h
     ·replace h:=kU be h;refine goS ?_;refine jK (kD ae (by omega)) ?_;exact⟨(ae+1),h,by omega,eJ⟩
    ·have ag:=vG a8;rw [jH ag,gDz.eq_1] at h;refine goX ?_;refine jG ?_;cases h;exact uA
end Go.Proofs.YtfpdlnkkcnmebaaGreat
