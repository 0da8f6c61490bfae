import Derived.Test.YtfpdlnkkcnmebaaGreatB8
import Derived.Test.YtfpdlnkkcnmebaaGreatF3
set_option maxHeartbeats 4000000
set_option linter.unusedVariables false
set_option linter.unusedSimpArgs false
set_option linter.unusedSectionVars false
namespace Go.Proofs.YtfpdlnkkcnmebaaGreat
open Go Go.Eng
attribute [local irreducible] V VO VQ VY Quiet QR jF mJ Rng qI qJ qB
def uC(c:gD):Option (Bool):=
bnd (gSh 5000 c 900) fun f=>
bnd ((cnd (decide (f≥0)) (bnd (gSs 5000 c) fun h=>
(cnd h (bnd (gIs 5000 c) fun q=>
(some (decide (q≤14)))) ((some false)))) ((some false)))) fun y=>
(some y)
theorem yT(q:gD){r:Bool}(h:uC q=some r):jF Tryz.prog 175 [.d (qC q)] [.b r]:=by
 obtain⟨c,f⟩:=q;unfold uC at h;refine SpI Tryz.func175 fun A _=>?_;refine goL ?_;obtain⟨x1,y,h⟩:=gJ h;refine jK (gG (hD8 _ _ _ y)) ?_;obtain⟨b2,hb2,h⟩:=gJ h;refine kC ⟨[(2,.B b2)],[bSx c f],Tryz.f175.ntmps⟩ ?_ ?_
 ·refine gqA 6 hb2 (fun c3 hb2=>?_);obtain⟨x4,aa,hb2⟩:=gJ hb2;refine jK (gG (hEm _ _ aa)) ?_;refine gqA 10 hb2 (fun c5 hb2=>?_);obtain⟨x6,ab,hb2⟩:=gJ hb2;refine jK (gG (gSq _ _ ab)) ?_;cases hb2;exact eJ
 exact goR h
def yK(c:LS)(a1:Int):Option (Bool):=
bnd ((cnd (decide ((c.length:Int)≤a1)) ((cnd (gJ5 c) (bnd (yH c) fun f=>
(some f)) ((some false)))) ((some false)))) fun h=>
(some h)
theorem zU(c:LS)(a1:Int){r:Bool}(h:yK c a1=some r):jF Tryz.prog 193 [.L 1 (gP c),.I a1] [.b r]:=by
 unfold yK at h;refine SpI Tryz.func193 fun A _=>?_;refine goL ?_;obtain⟨q,hb1,h⟩:=gJ h;refine kC ⟨[(4,.B q)],[],Tryz.f193.ntmps⟩ ?_ ?_
 ·refine gqA 9 hb1 (fun y hb1=>?_);refine jK (gG (gUb c)) ?_;refine gqA 13 hb1 (fun c3 hb1=>?_);obtain⟨x4,f,hb1⟩:=gJ hb1;refine jK (gG (gBb _ f)) ?_;cases hb1;exact eJ
 exact goR h
def wZ(c:gB):Option (Bool):=
bnd (gTe 5000 c 60) fun f=>
bnd ((cnd (decide (f≥0)) (bnd (gJy 5000 c) fun h=>
(cnd (decide (h≤6)) (bnd (gSv 5000 c) fun q=>
(some q)) ((some false)))) ((some false)))) fun y=>
(some y)
theorem gA5(y:gB){r:Bool}(h:wZ y=some r):jF Tryz.prog 239 [.d (kZ y)] [.b r]:=by
 obtain⟨c,f,q⟩:=y;unfold wZ at h;refine SpI Tryz.func239 fun A _=>?_;refine goL ?_;obtain⟨x1,aa,h⟩:=gJ h;refine jK (gG (hFk _ _ _ aa)) ?_;obtain⟨b2,hb2,h⟩:=gJ h;refine kC ⟨[(2,.B b2)],[bTy c f q],Tryz.f239.ntmps⟩ ?_ ?_
 ·refine gqA 6 hb2 (fun c3 hb2=>?_);obtain⟨x4,ab,hb2⟩:=gJ hb2;refine jK (gG (gT7 _ _ ab)) ?_;refine gqA 11 hb2 (fun c5 hb2=>?_);obtain⟨x6,ac,hb2⟩:=gJ hb2;refine jK (gG (hEp _ _ ac)) ?_;cases hb2;exact eJ
 exact goR h
def gJr(c:gN):Option (kP × gN):=
lt_ (wX [97]) fun h=>
lt_ (wX [97]) fun x2=>
bnd (gCq [108,105,115,116] [x2]) fun q=>
bnd (mX c 10) fun f=>
(cnd (f.1==0) (
bnd (qE f.2 [[97],[98]]) fun x6=>
gd (([[97]]:LS).length+[x6.1].length≤4294967296) (
(some ((kP.mk [108,105,115,116] ([[97]]++[x6.1]) [(gZ.mk [110,105,108] []),(gZ.mk [99,111,110,115] [h,q])]),x6.2)))) (
(cnd (f.1==1) (
bnd (mX f.2 2) fun x9=>
gd (0≤x9.1∧x9.1≤([(gZ.mk [110,105,108] []),(gZ.mk [99,111,110,115] [h,q])].length:Int)) (
(some ((kP.mk [108,105,115,116] [[97]] ([(gZ.mk [110,105,108] []),(gZ.mk [99,111,110,115] [h,q])].take (Int.toNat x9.1))),x9.2)))) (
(cnd (f.1==2) (
bnd (zL f.2 2) fun y=>
bnd (at? [(gZ.mk [110,105,108] []),(gZ.mk [99,111,110,115] [h,q])] 0) fun ad=>
(some ((kP.mk [108,105,115,116] [[97]] ([(gZ.mk [110,105,108] []),(gZ.mk [99,111,110,115] [h,q])].set 0 (gZ.mk ad.name [y.1]))),y.2))) (
(cnd (f.1==3) (
bnd (qE f.2 [[99,111,110,115],[],[111,110,101]]) fun aa=>
bnd (at? [(gZ.mk [110,105,108] []),(gZ.mk [99,111,110,115] [h,q])] 0) fun ae=>
(some ((kP.mk [108,105,115,116] [[97]] ([(gZ.mk [110,105,108] []),(gZ.mk [99,111,110,115] [h,q])].set 0 (gZ.mk aa.1 ae.fields))),aa.2))) (
(some ((kP.mk [108,105,115,116] [[97]] [(gZ.mk [110,105,108] []),(gZ.mk [99,111,110,115] [h,q])]),f.2))))))))))
theorem gO9(c:gN){r:kP × gN}(h:gJr c=some r):Go.Eng.Spec Tryz.prog 101 [.ptr 0 0] [bCu c.b c.i c.h] (fun sv Lo=>sv=.d (gD6 r.1)∧Lo=[bCu r.2.b r.2.i r.2.h]):=by
 obtain⟨bk,bl,bm⟩:=c;unfold gJr at h;refine kS 1 Tryz.func101 rfl (by kernel_rfl) rfl rfl fun A _=>?_;refine goL ?_;refine uQ (u:=(.s [97])) ?_;refine yS (jU TBd.h TZ.h rfl (by repeat constructor)) ?_;obtain⟨⟨ak,al,am⟩,bn,h⟩:=qW h;have sx1:=gCr [97];rw [bn] at sx1;refine qM (gG (sx1)) ?_;obtain⟨⟨av,aw,ax⟩,bo,h⟩:=qW h;have sx2:=gCr [97];rw [bo] at sx2;refine qM (gG (sx2)) ?_;refine uQ (u:=(.st [.i .i64 av,.s aw,.sl 3 (gK ax)])) ?_;refine mD 3 rfl rfl ?_;obtain⟨⟨an,ao,ap⟩,bp,h⟩:=gJ h;refine yS (gRj (gF0 [108,105,115,116] [(gB.mk av aw ax)] bp)) ?_;refine gAg (us:=gK [(gB.mk ak al am),(gB.mk an ao ap)]) ?_;refine yS (jU TBd.h TZ.h rfl (by repeat constructor)) ?_;refine mD 4 rfl rfl ?_;refine gAg (us:=mY [(gZ.mk [110,105,108] []),(gZ.mk [99,111,110,115] [(gB.mk ak al am),(gB.mk an ao ap)])]) ?_;refine gAc (jU TBd.h TZ.h rfl (by repeat constructor)) ?_;obtain⟨⟨bw,⟨ab,ac,ad⟩⟩,bq,h⟩:=gJ h;refine mZ 0 (pU (gN.mk bk bl bm) 10 bq) ?_;refine goL ?_;refine jE ?_;refine goC h ?_ ?_<;>intro c5 h
 ·obtain⟨⟨au,⟨a8,a9,ba⟩⟩,be,h⟩:=gJ h;obtain⟨g7,h⟩:=pO h;refine qQ (P:=Tryz.prog) Mix.h (.q 2 (.h 0 (.h 1 (.h 3 (.h 4 (.h 5 (.h 6 (.q 7 (.h 8 .nil .nil)) .nil) .nil) .nil) .nil) (.h 3 (.h 1 (.h 4 (.h 5 (.h 6 (.q 7 (.h 8 .nil .nil)) .nil) .nil) .nil) (.h 4 (.h 1 (.h 5 (.h 6 (.q 7 (.h 8 .nil .nil)) .nil) .nil) (.h 5 (.h 1 (.h 6 (.q 7 (.h 8 .nil .nil)) .nil) .nil) .nil)) .nil)) .nil)) (.h 3 (.h 0 (.h 1 (.h 4 (.h 5 (.h 6 (.q 7 (.h 8 .nil .nil)) .nil) .nil) .nil) (.h 4 (.h 1 (.h 5 (.h 6 (.q 7 (.h 8 .nil .nil)) .nil) .nil) (.h 5 (.h 1 (.h 6 (.q 7 (.h 8 .nil .nil)) .nil) .nil) .nil)) .nil)) (.h 4 (.h 0 (.h 1 (.h 5 (.h 6 (.q 7 (.h 8 .nil .nil)) .nil) .nil) (.h 5 (.h 1 (.h 6 (.q 7 (.h 8 .nil .nil)) .nil) .nil) .nil)) (.h 5 (.h 0 (.h 1 (.h 6 (.q 7 (.h 8 .nil .nil)) .nil) .nil) .nil) .nil)) .nil)) .nil))) ⟨[(2,.ptr 1 0),(3,.ptr 6 0)],[bCu a8 a9 ba,.box [.S [],.nilsl,.nilsl],.arr 9 1 (0+1) (gP ([[97]]++[au])),.frz 37 3 0 (gK [(gB.mk av aw ax)]),.frz 37 3 0 (gK [(gB.mk ak al am),(gB.mk an ao ap)]),.arr 188 2 0 (mY [(gZ.mk [110,105,108] []),(gZ.mk [99,111,110,115] [(gB.mk ak al am),(gB.mk an ao ap)])]),.box [.d (.s [108,105,115,116]),.sl 2 (0+1),.sl 5 0],.frz 9 1 0 (gP [[97],[98]]),.frz 9 1 0 (gP [au])],Tryz.f101.ntmps⟩ (by kernel_rfl) ?_ ?_
  ·refine goT ?_;refine pR (jJ gQ) ?_ ?_
   ·refine pR (jJ gQ) ?_ ?_
    ·refine gH (pM (T:=34) (us:=gP [[97],[98]]) gQ) ?_;refine gH (mH 0 (jZ (gN.mk ab ac ad) [[97],[98]] be) gQ) ?_;refine gH (pM (T:=34) (us:=gP [au]) gQ) ?_;refine gH (jR (T:=34) g7 gQ) ?_;refine goT ?_;refine jB ?_;exact mK 1 [0,1,2,3,4,5,6,7,8]
    refine gH (pM (T:=34) (us:=gP [[97],[98]]) gQ) ?_;refine pR (jJ gQ) ?_ ?_
    ·refine gH (mH 0 (jZ (gN.mk ab ac ad) [[97],[98]] be) gQ) ?_;refine gH (pM (T:=34) (us:=gP [au]) gQ) ?_;refine gH (jR (T:=34) g7 gQ) ?_;refine goT ?_;refine jB ?_;exact mK 1 [0,1,2,3,4,5,6,7,8]
    refine gH (mH 0 (jZ (gN.mk ab ac ad) [[97],[98]] be) gQ) ?_;refine pR (jJ gQ) ?_ ?_
    ·refine gH (pM (T:=34) (us:=gP [au]) gQ) ?_;refine gH (jR (T:=34) g7 gQ) ?_;refine goT ?_;refine jB ?_;exact mK 1 [0,1,2,3,4,5,6,7,8]
    refine gH (pM (T:=34) (us:=gP [au]) gQ) ?_;refine gH (jJ gQ) ?_;refine gH (jR (T:=34) g7 gQ) ?_;refine goT ?_;refine jB ?_;exact mK 1 [0,1,2,3,4,5,6,7,8]
   refine gH (pM (T:=34) (us:=gP [[97],[98]]) gQ) ?_;refine pR (jJ gQ) ?_ ?_
   ·refine pR (jJ gQ) ?_ ?_
    ·refine gH (mH 0 (jZ (gN.mk ab ac ad) [[97],[98]] be) gQ) ?_;refine gH (pM (T:=34) (us:=gP [au]) gQ) ?_;refine gH (jR (T:=34) g7 gQ) ?_;refine goT ?_;refine jB ?_;exact mK 1 [0,1,2,3,4,5,6,7,8]
    refine gH (mH 0 (jZ (gN.mk ab ac ad) [[97],[98]] be) gQ) ?_;refine pR (jJ gQ) ?_ ?_
    ·refine gH (pM (T:=34) (us:=gP [au]) gQ) ?_;refine gH (jR (T:=34) g7 gQ) ?_;refine goT ?_;refine jB ?_;exact mK 1 [0,1,2,3,4,5,6,7,8]
    refine gH (pM (T:=34) (us:=gP [au]) gQ) ?_;refine gH (jJ gQ) ?_;refine gH (jR (T:=34) g7 gQ) ?_;refine goT ?_;refine jB ?_;exact mK 1 [0,1,2,3,4,5,6,7,8]
   refine gH (mH 0 (jZ (gN.mk ab ac ad) [[97],[98]] be) gQ) ?_;refine pR (jJ gQ) ?_ ?_
   ·refine pR (jJ gQ) ?_ ?_
    ·refine gH (pM (T:=34) (us:=gP [au]) gQ) ?_;refine gH (jR (T:=34) g7 gQ) ?_;refine goT ?_;refine jB ?_;exact mK 1 [0,1,2,3,4,5,6,7,8]
    refine gH (pM (T:=34) (us:=gP [au]) gQ) ?_;refine gH (jJ gQ) ?_;refine gH (jR (T:=34) g7 gQ) ?_;refine goT ?_;refine jB ?_;exact mK 1 [0,1,2,3,4,5,6,7,8]
   refine gH (pM (T:=34) (us:=gP [au]) gQ) ?_;refine gH (jJ gQ) ?_;refine gH (jJ gQ) ?_;refine gH (jR (T:=34) g7 gQ) ?_;refine goT ?_;refine jB ?_;exact mK 1 [0,1,2,3,4,5,6,7,8]
  refine goL ?_;refine gW 2 rfl rfl ?_;refine gW 5 rfl rfl ?_;refine jG ?_;obtain rfl:=Option.some.inj h;exact gCo [.d (.st [.s [108,105,115,116],.sl 1 (gP ([[97]]++[au])),.sl 2 (mY [(gZ.mk [110,105,108] []),(gZ.mk [99,111,110,115] [(gB.mk ak al am),(gB.mk an ao ap)])])])] [bCu a8 a9 ba] ⟨rfl,rfl⟩
 ·refine goC h ?_ ?_<;>intro c8 h
  ·obtain⟨⟨bh,⟨bb,bc,bd⟩⟩,bi,h⟩:=gJ h;obtain⟨bj,h⟩:=pO h;refine qQ (P:=Tryz.prog) Mix.h (.q 2 (.h 0 (.h 1 (.h 3 (.h 4 (.q 5 (.h 6 .nil .nil)) .nil) .nil) (.h 3 (.h 1 (.h 4 (.q 5 (.h 6 .nil .nil)) .nil) .nil) .nil)) (.h 3 (.h 0 (.h 1 (.h 4 (.q 5 (.h 6 .nil .nil)) .nil) .nil) .nil) .nil))) ⟨[(2,.ptr 1 0),(3,.ptr 6 0)],[bCu bb bc bd,.box [.S [],.nilsl,.nilsl],.arr 9 1 0 (gP [[97]]),.frz 37 3 0 (gK [(gB.mk av aw ax)]),.frz 37 3 0 (gK [(gB.mk ak al am),(gB.mk an ao ap)]),.frz 188 2 0 (mY [(gZ.mk [110,105,108] []),(gZ.mk [99,111,110,115] [(gB.mk ak al am),(gB.mk an ao ap)])]),.box [.d (.s [108,105,115,116]),.sl 2 0,.d (.sl 2 (mY ([(gZ.mk [110,105,108] []),(gZ.mk [99,111,110,115] [(gB.mk ak al am),(gB.mk an ao ap)])].take (Int.toNat bh))))]],Tryz.f101.ntmps⟩ (by kernel_rfl) ?_ ?_
   ·refine goT ?_;refine pR (jJ gQ) ?_ ?_
    ·refine pR (jJ gQ) ?_ ?_
     ·refine gH (mH 0 (pU (gN.mk ab ac ad) 2 bi) gQ) ?_;refine gH (mG 5 rfl rfl (hB5 bj gQ)) ?_;refine goT ?_;refine jB ?_;exact mK 1 [0,1,2,3,4,5,6]
     refine gH (mH 0 (pU (gN.mk ab ac ad) 2 bi) gQ) ?_;refine gH (jJ gQ) ?_;refine gH (mG 5 rfl rfl (hB5 bj gQ)) ?_;refine goT ?_;refine jB ?_;exact mK 1 [0,1,2,3,4,5,6]
    refine gH (mH 0 (pU (gN.mk ab ac ad) 2 bi) gQ) ?_;refine gH (jJ gQ) ?_;refine gH (jJ gQ) ?_;refine gH (mG 5 rfl rfl (hB5 bj gQ)) ?_;refine goT ?_;refine jB ?_;exact mK 1 [0,1,2,3,4,5,6]
   refine goL ?_;refine gW 2 rfl rfl ?_;refine jG ?_;obtain rfl:=Option.some.inj h;exact gCo [.d (.st [.s [108,105,115,116],.sl 1 (gP [[97]]),.sl 2 (mY ([(gZ.mk [110,105,108] []),(gZ.mk [99,111,110,115] [(gB.mk ak al am),(gB.mk an ao ap)])].take (Int.toNat bh)))])] [bCu bb bc bd] ⟨rfl,rfl⟩
  ·refine goC h ?_ ?_<;>intro bx h
   ·obtain⟨⟨⟨f,y,aa⟩,⟨a0,a3,a4⟩⟩,bf,h⟩:=gJ h;obtain⟨br,aq,h⟩:=gJ h;obtain⟨bt,aq⟩:=gAz aq;obtain⟨ae,ai⟩:=br;refine qQ (P:=Tryz.prog) Mix.h (.q 2 (.h 0 (.h 1 (.h 3 (.h 4 (.h 5 (.h 6 (.h 7 .nil .nil) .nil) .nil) .nil) .nil) (.h 3 (.h 1 (.h 4 (.h 5 (.h 6 (.h 7 .nil .nil) .nil) .nil) .nil) (.h 4 (.h 1 (.h 5 (.h 6 (.h 7 .nil .nil) .nil) .nil) .nil) .nil)) .nil)) (.h 3 (.h 0 (.h 1 (.h 4 (.h 5 (.h 6 (.h 7 .nil .nil) .nil) .nil) .nil) (.h 4 (.h 1 (.h 5 (.h 6 (.h 7 .nil .nil) .nil) .nil) .nil) .nil)) (.h 4 (.h 0 (.h 1 (.h 5 (.h 6 (.h 7 .nil .nil) .nil) .nil) .nil) .nil) .nil)) .nil))) ⟨[(2,.ptr 1 0),(3,.ptr 6 0)],[bCu a0 a3 a4,.box [.S [],.nilsl,.nilsl],.arr 9 1 0 (gP [[97]]),.frz 37 3 0 (gK [(gB.mk av aw ax)]),.frz 37 3 0 (gK [(gB.mk ak al am),(gB.mk an ao ap)]),.arr 188 2 0 (mY ([(gZ.mk [110,105,108] []),(gZ.mk [99,111,110,115] [(gB.mk ak al am),(gB.mk an ao ap)])].set 0 (gZ.mk ae [(gB.mk f y aa)]))),.box [.d (.s [108,105,115,116]),.sl 2 0,.sl 5 0],.frz 37 3 0 (gK [(gB.mk f y aa)])],Tryz.f101.ntmps⟩ (by kernel_rfl) ?_ ?_
    ·refine goT ?_;refine pR (jJ gQ) ?_ ?_
     ·refine pR (jJ gQ) ?_ ?_
      ·refine gH (mH 0 (uZ (gN.mk ab ac ad) 2 bf) gQ) ?_;refine gH (pM (T:=35) (us:=gK [(gB.mk f y aa)]) gQ) ?_;refine gH (qL 0 (List.getElem?_eq_some_iff.1 aq).1 gQ) ?_;refine gH (qN gQ) ?_;refine gH (qO [(.s ae)] [] (.sl 3 (gK ai)) (.sl 3 (gK [(gB.mk f y aa)])) (gZ.mk ae ai) (gZ.mk ae [(gB.mk f y aa)]) aq gQ) ?_;refine jB ?_;exact mK 1 [0,1,2,3,4,5,6,7]
      refine gH (mH 0 (uZ (gN.mk ab ac ad) 2 bf) gQ) ?_;refine pR (jJ gQ) ?_ ?_
      ·refine gH (pM (T:=35) (us:=gK [(gB.mk f y aa)]) gQ) ?_;refine gH (qL 0 (List.getElem?_eq_some_iff.1 aq).1 gQ) ?_;refine gH (qN gQ) ?_;refine gH (qO [(.s ae)] [] (.sl 3 (gK ai)) (.sl 3 (gK [(gB.mk f y aa)])) (gZ.mk ae ai) (gZ.mk ae [(gB.mk f y aa)]) aq gQ) ?_;refine jB ?_;exact mK 1 [0,1,2,3,4,5,6,7]
      refine gH (pM (T:=35) (us:=gK [(gB.mk f y aa)]) gQ) ?_;refine gH (jJ gQ) ?_;refine gH (qL 0 (List.getElem?_eq_some_iff.1 aq).1 gQ) ?_;refine gH (qN gQ) ?_;refine gH (qO [(.s ae)] [] (.sl 3 (gK ai)) (.sl 3 (gK [(gB.mk f y aa)])) (gZ.mk ae ai) (gZ.mk ae [(gB.mk f y aa)]) aq gQ) ?_;refine jB ?_;exact mK 1 [0,1,2,3,4,5,6,7]
     refine gH (mH 0 (uZ (gN.mk ab ac ad) 2 bf) gQ) ?_;refine pR (jJ gQ) ?_ ?_
     ·refine pR (jJ gQ) ?_ ?_
      ·refine gH (pM (T:=35) (us:=gK [(gB.mk f y aa)]) gQ) ?_;refine gH (qL 0 (List.getElem?_eq_some_iff.1 aq).1 gQ) ?_;refine gH (qN gQ) ?_;refine gH (qO [(.s ae)] [] (.sl 3 (gK ai)) (.sl 3 (gK [(gB.mk f y aa)])) (gZ.mk ae ai) (gZ.mk ae [(gB.mk f y aa)]) aq gQ) ?_;refine jB ?_;exact mK 1 [0,1,2,3,4,5,6,7]
      refine gH (pM (T:=35) (us:=gK [(gB.mk f y aa)]) gQ) ?_;refine gH (jJ gQ) ?_;refine gH (qL 0 (List.getElem?_eq_some_iff.1 aq).1 gQ) ?_;refine gH (qN gQ) ?_;refine gH (qO [(.s ae)] [] (.sl 3 (gK ai)) (.sl 3 (gK [(gB.mk f y aa)])) (gZ.mk ae ai) (gZ.mk ae [(gB.mk f y aa)]) aq gQ) ?_;refine jB ?_;exact mK 1 [0,1,2,3,4,5,6,7]
     refine gH (pM (T:=35) (us:=gK [(gB.mk f y aa)]) gQ) ?_;refine gH (jJ gQ) ?_;refine gH (jJ gQ) ?_;refine gH (qL 0 (List.getElem?_eq_some_iff.1 aq).1 gQ) ?_;refine gH (qN gQ) ?_;refine gH (qO [(.s ae)] [] (.sl 3 (gK ai)) (.sl 3 (gK [(gB.mk f y aa)])) (gZ.mk ae ai) (gZ.mk ae [(gB.mk f y aa)]) aq gQ) ?_;refine jB ?_;exact mK 1 [0,1,2,3,4,5,6,7]
    refine goL ?_;refine gW 2 rfl rfl ?_;refine gW 5 rfl rfl ?_;refine jG ?_;obtain rfl:=Option.some.inj h;exact gCo [.d (.st [.s [108,105,115,116],.sl 1 (gP [[97]]),.sl 2 (mY ([(gZ.mk [110,105,108] []),(gZ.mk [99,111,110,115] [(gB.mk ak al am),(gB.mk an ao ap)])].set 0 (gZ.mk ae [(gB.mk f y aa)])))])] [bCu a0 a3 a4] ⟨rfl,rfl⟩
   ·refine goC h ?_ ?_<;>intro bz h
    ·obtain⟨⟨ah,⟨a5,a6,a7⟩⟩,ay,h⟩:=gJ h;obtain⟨bu,ar,h⟩:=gJ h;obtain⟨bv,ar⟩:=gAz ar;obtain⟨aj,ag⟩:=bu;refine qQ (P:=Tryz.prog) Mix.h (.q 2 (.h 0 (.h 1 (.h 3 (.h 4 (.h 5 (.h 6 (.h 7 .nil .nil) .nil) .nil) .nil) .nil) (.h 3 (.h 1 (.h 4 (.h 5 (.h 6 (.h 7 .nil .nil) .nil) .nil) .nil) (.h 4 (.h 1 (.h 5 (.h 6 (.h 7 .nil .nil) .nil) .nil) .nil) .nil)) .nil)) (.h 3 (.h 0 (.h 1 (.h 4 (.h 5 (.h 6 (.h 7 .nil .nil) .nil) .nil) .nil) (.h 4 (.h 1 (.h 5 (.h 6 (.h 7 .nil .nil) .nil) .nil) .nil) .nil)) (.h 4 (.h 0 (.h 1 (.h 5 (.h 6 (.h 7 .nil .nil) .nil) .nil) .nil) .nil) .nil)) .nil))) ⟨[(2,.ptr 1 0),(3,.ptr 6 0)],[bCu a5 a6 a7,.box [.S [],.nilsl,.nilsl],.arr 9 1 0 (gP [[97]]),.frz 37 3 0 (gK [(gB.mk av aw ax)]),.frz 37 3 0 (gK [(gB.mk ak al am),(gB.mk an ao ap)]),.arr 188 2 0 (mY ([(gZ.mk [110,105,108] []),(gZ.mk [99,111,110,115] [(gB.mk ak al am),(gB.mk an ao ap)])].set 0 (gZ.mk ah ag))),.box [.d (.s [108,105,115,116]),.sl 2 0,.sl 5 0],.frz 9 1 0 (gP [[99,111,110,115],[],[111,110,101]])],Tryz.f101.ntmps⟩ (by kernel_rfl) ?_ ?_
     ·refine goT ?_;refine pR (jJ gQ) ?_ ?_
      ·refine pR (jJ gQ) ?_ ?_
       ·refine gH (pM (T:=34) (us:=gP [[99,111,110,115],[],[111,110,101]]) gQ) ?_;refine gH (mH 0 (jZ (gN.mk ab ac ad) [[99,111,110,115],[],[111,110,101]] ay) gQ) ?_;refine gH (qL 0 (List.getElem?_eq_some_iff.1 ar).1 gQ) ?_;refine gH (qN gQ) ?_;refine gH (qO [] [(.sl 3 (gK ag))] (.s aj) (.s ah) (gZ.mk aj ag) (gZ.mk ah ag) ar gQ) ?_;refine jB ?_;exact mK 1 [0,1,2,3,4,5,6,7]
       refine gH (pM (T:=34) (us:=gP [[99,111,110,115],[],[111,110,101]]) gQ) ?_;refine pR (jJ gQ) ?_ ?_
       ·refine gH (mH 0 (jZ (gN.mk ab ac ad) [[99,111,110,115],[],[111,110,101]] ay) gQ) ?_;refine gH (qL 0 (List.getElem?_eq_some_iff.1 ar).1 gQ) ?_;refine gH (qN gQ) ?_;refine gH (qO [] [(.sl 3 (gK ag))] (.s aj) (.s ah) (gZ.mk aj ag) (gZ.mk ah ag) ar gQ) ?_;refine jB ?_;exact mK 1 [0,1,2,3,4,5,6,7]
       refine gH (mH 0 (jZ (gN.mk ab ac ad) [[99,111,110,115],[],[111,110,101]] ay) gQ) ?_;refine gH (jJ gQ) ?_;refine gH (qL 0 (List.getElem?_eq_some_iff.1 ar).1 gQ) ?_;refine gH (qN gQ) ?_;refine gH (qO [] [(.sl 3 (gK ag))] (.s aj) (.s ah) (gZ.mk aj ag) (gZ.mk ah ag) ar gQ) ?_;refine jB ?_;exact mK 1 [0,1,2,3,4,5,6,7]
      refine gH (pM (T:=34) (us:=gP [[99,111,110,115],[],[111,110,101]]) gQ) ?_;refine pR (jJ gQ) ?_ ?_
      ·refine pR (jJ gQ) ?_ ?_
       ·refine gH (mH 0 (jZ (gN.mk ab ac ad) [[99,111,110,115],[],[111,110,101]] ay) gQ) ?_;refine gH (qL 0 (List.getElem?_eq_some_iff.1 ar).1 gQ) ?_;refine gH (qN gQ) ?_;refine gH (qO [] [(.sl 3 (gK ag))] (.s aj) (.s ah) (gZ.mk aj ag) (gZ.mk ah ag) ar gQ) ?_;refine jB ?_;exact mK 1 [0,1,2,3,4,5,6,7]
       refine gH (mH 0 (jZ (gN.mk ab ac ad) [[99,111,110,115],[],[111,110,101]] ay) gQ) ?_;refine gH (jJ gQ) ?_;refine gH (qL 0 (List.getElem?_eq_some_iff.1 ar).1 gQ) ?_;refine gH (qN gQ) ?_;refine gH (qO [] [(.sl 3 (gK ag))] (.s aj) (.s ah) (gZ.mk aj ag) (gZ.mk ah ag) ar gQ) ?_;refine jB ?_;exact mK 1 [0,1,2,3,4,5,6,7]
      refine gH (mH 0 (jZ (gN.mk ab ac ad) [[99,111,110,115],[],[111,110,101]] ay) gQ) ?_;refine gH (jJ gQ) ?_;refine gH (jJ gQ) ?_;refine gH (qL 0 (List.getElem?_eq_some_iff.1 ar).1 gQ) ?_;refine gH (qN gQ) ?_;refine gH (qO [] [(.sl 3 (gK ag))] (.s aj) (.s ah) (gZ.mk aj ag) (gZ.mk ah ag) ar gQ) ?_;refine jB ?_;exact mK 1 [0,1,2,3,4,5,6,7]
     refine goL ?_;refine gW 2 rfl rfl ?_;refine gW 5 rfl rfl ?_;refine jG ?_;obtain rfl:=Option.some.inj h;exact gCo [.d (.st [.s [108,105,115,116],.sl 1 (gP [[97]]),.sl 2 (mY ([(gZ.mk [110,105,108] []),(gZ.mk [99,111,110,115] [(gB.mk ak al am),(gB.mk an ao ap)])].set 0 (gZ.mk ah ag)))])] [bCu a5 a6 a7] ⟨rfl,rfl⟩
    ·refine goS ?_;refine gW 2 rfl rfl ?_;refine gW 5 rfl rfl ?_;refine jG ?_;obtain rfl:=Option.some.inj h;exact gCo [.d (.st [.s [108,105,115,116],.sl 1 (gP [[97]]),.sl 2 (mY [(gZ.mk [110,105,108] []),(gZ.mk [99,111,110,115] [(gB.mk ak al am),(gB.mk an ao ap)])])])] [bCu ab ac ad] ⟨rfl,rfl⟩
end Go.Proofs.YtfpdlnkkcnmebaaGreat
