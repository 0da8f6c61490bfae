import Derived.Test.YtfaplndgbgoaaaaGreatDoorEng38
import Derived.Test.YtfaplndgbgoaaaaGreatDoorEng67
import Derived.Test.YtfaplndgbgoaaaaGreatDoorSfi0
import Derived.Test.YtfaplndgbgoaaaaGreatDoorCur
set_option maxHeartbeats 4000000
set_option linter.unusedVariables false
set_option linter.unusedSimpArgs false
set_option linter.unusedSectionVars false
namespace Go.Proofs.YtfaplndgbgoaaaaGreatDoor
open Go Go.Eng
attribute [local irreducible] V VO VQ VY Quiet QR jB kX Rng uJ uY qW
@[reducible] def kF:List UInt8:=[40,112,97,99,107,97,103,101,32,97,112,112,32,40,99,111,114,101,41,32,40,100,97,116,97,32,116,97,103,32,40,41,32,40,116,97,103,32,105,110,116,41,32,40,110,111,110,101,41,41]
@[reducible] def gAx:List UInt8:=[32,40,105,110,115,116,32,115,104,111,119,32,40,41,32,105,110,116,32,40,41,32,40,41,32,40,41,32,40,109,32,40,120,41,32,57,41,41]
@[reducible] def gAy:List UInt8:=[32,40,105,110,115,116,32,115,104,111,119,32,40,41,32,116,97,103,32,40,41,32,40,41,32,40,41,32,40,109,32,40,120,41,32,40,99,97,115,101,32,120,32,40,110,111,110,101,32,48,41,32,40,116,97,103,32,110,32,110,41,41,41,41]
@[reducible] def gAz:List UInt8:=List.append [32,40,105,110,115,116,32,115,104,111,119,32,40,41,32,40,108,105,115,116,32,116,97,103,41,32,40,41,32,40,41,32,40,41,32,40,109,32,40,120,41] [32,52,41,41,32,40,105,110,115,116,32,115,104,111,119,32,40,41,32,116,97,103,32,40,41,32,40,41,32,40,41,32,40,109,32,40,120,41,32,53,41,41]
@[reducible] def gA0:List UInt8:=[32,40,105,110,115,116,32,111,114,100,32,40,41,32,116,97,103,32,40,41,32,40,41,32,40,41,32,40,108,101,115,115,32,40,120,32,121,41,32,116,114,117,101,41,41]
@[reducible] def gA1:List UInt8:=List.append [32,40,105,110,115,116,32,101,113,32,40,41,32,116,97,103,32,40,41,32,40,41,32,40,41,32,40,115,97,109,101,32,40,120,32,121,41,32,116,114,117,101,41,41,32] [40,105,110,115,116,32,111,114,100,32,40,41,32,116,97,103,32,40,41,32,40,41,32,40,41,32,40,108,101,115,115,32,40,120,32,121,41,32,102,97,108,115,101,41,41]
@[reducible] def gA2:List UInt8:=[32,40,105,110,115,116,32,115,104,111,119,32,40,97,41,32,39,97,32,40,40,101,113,32,39,97,41,41,32,40,41,32,40,41,32,40,109,32,40,120,41,32,49,41,41]
@[reducible] def gA3:List UInt8:=[32,40,105,110,115,116,32,115,104,111,119,32,40,41,32,116,97,103,32,40,41,32,40,41,32,40,41,32,40,109,32,40,120,41,32,40,99,97,115,101,32,120,32,40,116,97,103,32,110,32,110,41,32,40,110,111,110,101,32,48,41,41,41,41]
@[reducible] def vZ:List UInt8:=[32,40,102,110,32,109,97,105,110,32,40,41,32,40,41,32,40,41,32,105,110,116,32]
@[reducible] def yX:List UInt8:=List.append [40,109,101,116,104,111,100,32,115,104,111,119,32,109,32,40,110,101,119,32,99,111,110,115,32,49,32,40,110,101,119,32,99,111] [110,115,32,50,32,40,116,104,101,32,40,108,105,115,116,32,105,110,116,41,32,40,110,101,119,32,110,105,108,41,41,41,41,41]
@[reducible] def yY:List UInt8:=[40,99,97,108,108,32,98,111,116,104,32,40,110,101,119,32,112,97,105,114,32,51,32,116,114,117,101,41,41]
@[reducible] def yZ:List UInt8:=[40,43,32,40,99,97,108,108,32,105,100,32,52,41,32,40,109,101,116,104,111,100,32,115,104,111,119,32,109,32,40,110,101,119,32,116,97,103,32,55,41,41,41]
@[reducible] def zA:List UInt8:=List.append [40,108,101,116,32,122,32,40,109,101,116,104,111,100,32,97,100,100,32,112,108,117,115,32,40,110,101,119,32,98,111,120,32,49] [41,32,40,110,101,119,32,98,111,120,32,50,41,41,32,40,99,97,115,101,32,122,32,40,98,111,120,32,110,32,110,41,41,41]
@[reducible] def zB:List UInt8:=[40,109,101,116,104,111,100,32,115,104,111,119,32,109,32,40,110,101,119,32,110,105,108,41,41]
@[reducible] def zC:List UInt8:=[40,109,101,116,104,111,100,32,115,104,111,119,32,109,32,40,112,97,99,107,32,115,104,111,119,32,51,41,41]
@[reducible] def zD:List UInt8:=[40,105,102,32,40,109,101,116,104,111,100,32,111,114,100,32,108,101,115,115,32,49,32,50,41,32,40,99,97,108,108,32,98,111,116,104,32,116,114,117,101,41,32,48,41]
@[reducible] def zF:List UInt8:=List.append [40,109,101,116,104,111,100,32,115,104,111,119,32,109,32,40,110,101,119,32,99,111,110,115,32,40,110,101,119,32,116,97] [103,32,49,41,32,40,116,104,101,32,40,108,105,115,116,32,116,97,103,41,32,40,110,101,119,32,110,105,108,41,41,41,41]
@[reducible] def zG:List UInt8:=[40,99,97,108,108,32,98,111,116,104,32,40,99,97,108,108,32,105,100,32,40,99,97,108,108,32,105,100,32,40,110,101,119,32,116,97,103,32,50,41,41,41,41]
@[reducible] def gEy:List UInt8:=List.append [32,40,102,110,32,108,101,110,32,40,97,41,32,40,41,32,40,40,120,32,40,108,105,115,116,32,39,97,41,41,41,32,105,110,116,32,40,99,97,115,101] [32,120,32,40,110,105,108,32,48,41,32,40,99,111,110,115,32,104,32,116,32,40,43,32,49,32,40,99,97,108,108,32,108,101,110,32,116,41,41,41,41,41]
@[reducible] def gEz:List UInt8:=List.append [32,40,102,110,32,115,117,109,32,40,97,41,32,40,40,97,100,100,32,39,97,41,41,32,40,40,120,32,39,97,41,32,40,121,32,39,97,41] [41,32,40,97,115,115,111,99,32,97,100,100,32,39,97,41,32,40,109,101,116,104,111,100,32,97,100,100,32,112,108,117,115,32,120,32,121,41,41]
@[reducible] def gE0:List UInt8:=List.append [32,40,102,110,32,103,114,111,119,32,40,97,41,32,40,40,115,104,111,119,32,39,97,41,41,32,40,40,110,32,105,110,116,41,32,40,120,32,39,97,41,41,32,105,110,116,32,40,105,102,32,40,60,32,110,32] [49,41,32,40,109,101,116,104,111,100,32,115,104,111,119,32,109,32,120,41,32,40,99,97,108,108,32,103,114,111,119,32,40,45,32,110,32,49,41,32,40,110,101,119,32,112,97,105,114,32,120,32,120,41,41,41,41]
def gJy(c:jA):Option (List UInt8 × jA):=
bnd (yQ c 8) fun x1=>
bnd ((cnd (x1.1==0) (
gd (kF.length+gAx.length≤4294967296) (
(some (kF++gAx)))) (
(cnd (x1.1==1) (
gd (kF.length+gAy.length≤4294967296) (
(some (kF++gAy)))) (
(cnd (x1.1==2) (
gd (kF.length+gAz.length≤4294967296) (
(some (kF++gAz)))) (
(cnd (x1.1==3) (
gd (kF.length+gA0.length≤4294967296) (
(some (kF++gA0)))) (
(cnd (x1.1==4) (
gd (kF.length+gA1.length≤4294967296) (
(some (kF++gA1)))) (
(cnd (x1.1==5) (
gd (kF.length+gA2.length≤4294967296) (
(some (kF++gA2)))) (
gd (kF.length+gA3.length≤4294967296) (
(some (kF++gA3)))))))))))))))) fun b2=>
gd (b2.length+vZ.length≤4294967296) (
bnd (gEf x1.2 [[40,99,97,108,108,32,98,111,116,104,32,53,41],yX,yY,yZ,zA,zB,zC,zD,zF,zG]) fun x17=>
gd ((b2++vZ).length+x17.1.length≤4294967296) (
gd (((b2++vZ)++x17.1).length+([41]:List UInt8).length≤4294967296) (
bnd (gCm x17.2 2) fun x20=>
bnd ((cnd x20.1 (
gd ((((b2++vZ)++x17.1)++([41]:List UInt8)).length+gEy.length≤4294967296) (
(some ((((b2++vZ)++x17.1)++([41]:List UInt8))++gEy)))) (
(some (((b2++vZ)++x17.1)++([41]:List UInt8)))))) fun b21=>
bnd (gCm x20.2 3) fun x24=>
bnd ((cnd x24.1 (
gd (b21.length+gEz.length≤4294967296) (
(some (b21++gEz)))) (
(some b21)))) fun b25=>
bnd (gCm x24.2 4) fun x28=>
bnd ((cnd x28.1 (
gd (b25.length+gE0.length≤4294967296) (
(some (b25++gE0)))) (
(some b25)))) fun b29=>
gd (b29.length+([41]:List UInt8).length≤4294967296) (
(some ((b29++([41]:List UInt8)),x28.2))))))
set_option maxRecDepth 100000 in
theorem gZ4(c:jA){r:List UInt8 × jA}(h:gJy c=some r):Go.Eng.Spec Tryz.prog 48 [.ptr 0 0] [.box [.L 1 (kQ c.b),.I c.i,.I c.h]] (fun sv Lo=>sv=.S r.1∧Lo=[.box [.L 1 (kQ r.2.b),.I r.2.i,.I r.2.h]]):=by
 obtain⟨c_0,c_1,c_2⟩:=c
 unfold gJy at h
 refine mP 1 Tryz.func48 rfl (by kernel_rfl) rfl rfl fun A _=>?_
 refine goL ?_
 obtain⟨⟨x1_0,⟨x1_1_0,x1_1_1,x1_1_2⟩⟩,hx1,h⟩:=gK h
 refine zI 0 (gCk (jA.mk c_0 c_1 c_2) 8 hx1) ?_
 refine goL ?_
 obtain⟨b2,hb2,h⟩:=gK h
 refine gD4 ⟨[(0,.ptr 0 0),(3,.S b2)],[.box [.L 1 (kQ x1_1_0),.I x1_1_1,.I x1_1_2]],Tryz.f48.ntmps⟩ ?_ ?_
 ·refine jE ?_
  refine goL ?_
  refine mO (fun c3=>?_) (fun c3=>?_)
  ·replace hb2:=gX c3 hb2
   refine goL ?_
   obtain⟨g4,hb2⟩:=mZ hb2
   refine jI (vB g4) ?_
   cases hb2
   exact eJ
  ·replace hb2:=gY c3 hb2
   refine goL ?_
   refine mO (fun c5=>?_) (fun c5=>?_)
   ·replace hb2:=gX c5 hb2
    refine goL ?_
    obtain⟨g6,hb2⟩:=mZ hb2
    refine jI (vB g6) ?_
    cases hb2
    exact eJ
   ·replace hb2:=gY c5 hb2
    refine goL ?_
    refine mO (fun c7=>?_) (fun c7=>?_)
    ·replace hb2:=gX c7 hb2
     refine goL ?_
     obtain⟨g8,hb2⟩:=mZ hb2
     refine jI (vB g8) ?_
     cases hb2
     exact eJ
    ·replace hb2:=gY c7 hb2
     refine goL ?_
     refine mO (fun c9=>?_) (fun c9=>?_)
     ·replace hb2:=gX c9 hb2
      refine goL ?_
      obtain⟨g10,hb2⟩:=mZ hb2
      refine jI (vB g10) ?_
      cases hb2
      exact eJ
     ·replace hb2:=gY c9 hb2
      refine goL ?_
      refine mO (fun c11=>?_) (fun c11=>?_)
      ·replace hb2:=gX c11 hb2
       refine goL ?_
       obtain⟨g12,hb2⟩:=mZ hb2
       refine jI (vB g12) ?_
       cases hb2
       exact eJ
      ·replace hb2:=gY c11 hb2
       refine goL ?_
       refine mO (fun c13=>?_) (fun c13=>?_)
       ·replace hb2:=gX c13 hb2
        refine goL ?_
        obtain⟨g14,hb2⟩:=mZ hb2
        refine jI (vB g14) ?_
        cases hb2
        exact eJ
       ·replace hb2:=gY c13 hb2
        refine goL ?_
        obtain⟨g15,hb2⟩:=mZ hb2
        refine jI (vB g15) ?_
        cases hb2
        exact eJ
 refine goL ?_
 obtain⟨g16,h⟩:=mZ h
 refine jI (vB g16) ?_
 refine gM3 (us:=gZ [[40,99,97,108,108,32,98,111,116,104,32,53,41],yX,yY,yZ,zA,zB,zC,zD,zF,zG]) ?_
 refine vO 1 rfl rfl ?_
 obtain⟨⟨x17_0,⟨x17_1_0,x17_1_1,x17_1_2⟩⟩,hx17,h⟩:=gK h
 refine zI 0 (gLq (jA.mk x1_1_0 x1_1_1 x1_1_2) [[40,99,97,108,108,32,98,111,116,104,32,53,41],yX,yY,yZ,zA,zB,zC,zD,zF,zG] hx17) ?_
 obtain⟨g18,h⟩:=mZ h
 refine qP (vB g18) ?_
 obtain⟨g19,h⟩:=mZ h
 refine jI (vB g19) ?_
 obtain⟨⟨x20_0,⟨x20_1_0,x20_1_1,x20_1_2⟩⟩,hx20,h⟩:=gK h
 refine zI 0 (gG1 (jA.mk x17_1_0 x17_1_1 x17_1_2) 2 hx20) ?_
 refine goL ?_
 obtain⟨b21,hb21,h⟩:=gK h
 refine gD4 ⟨[(0,.ptr 0 0),(3,.S b21)],[.box [.L 1 (kQ x20_1_0),.I x20_1_1,.I x20_1_2],.frz 9 1 0 (gZ [[40,99,97,108,108,32,98,111,116,104,32,53,41],yX,yY,yZ,zA,zB,zC,zD,zF,zG])],Tryz.f48.ntmps⟩ ?_ ?_
 ·refine mO (fun c22=>?_) (fun c22=>?_)
  ·replace hb21:=gX c22 hb21
   refine goL ?_
   obtain⟨g23,hb21⟩:=mZ hb21
   refine jI (vB g23) ?_
   cases hb21
   exact eJ
  ·replace hb21:=gY c22 hb21
   refine gAi ?_
   cases hb21
   exact eJ
 refine goL ?_
 obtain⟨⟨x24_0,⟨x24_1_0,x24_1_1,x24_1_2⟩⟩,hx24,h⟩:=gK h
 refine zI 0 (gG1 (jA.mk x20_1_0 x20_1_1 x20_1_2) 3 hx24) ?_
 refine goL ?_
 obtain⟨b25,hb25,h⟩:=gK h
 refine gD4 ⟨[(0,.ptr 0 0),(3,.S b25)],[.box [.L 1 (kQ x24_1_0),.I x24_1_1,.I x24_1_2],.frz 9 1 0 (gZ [[40,99,97,108,108,32,98,111,116,104,32,53,41],yX,yY,yZ,zA,zB,zC,zD,zF,zG])],Tryz.f48.ntmps⟩ ?_ ?_
 ·refine mO (fun c26=>?_) (fun c26=>?_)
  ·replace hb25:=gX c26 hb25
   refine goL ?_
   obtain⟨g27,hb25⟩:=mZ hb25
   refine jI (vB g27) ?_
   cases hb25
   exact eJ
  ·replace hb25:=gY c26 hb25
   refine gAi ?_
   cases hb25
   exact eJ
 refine goL ?_
 obtain⟨⟨x28_0,⟨x28_1_0,x28_1_1,x28_1_2⟩⟩,hx28,h⟩:=gK h
 refine zI 0 (gG1 (jA.mk x24_1_0 x24_1_1 x24_1_2) 4 hx28) ?_
 refine goL ?_
 obtain⟨b29,hb29,h⟩:=gK h
 refine gD4 ⟨[(3,.S b29)],[.box [.L 1 (kQ x28_1_0),.I x28_1_1,.I x28_1_2],.frz 9 1 0 (gZ [[40,99,97,108,108,32,98,111,116,104,32,53,41],yX,yY,yZ,zA,zB,zC,zD,zF,zG])],Tryz.f48.ntmps⟩ ?_ ?_
 ·refine mO (fun c30=>?_) (fun c30=>?_)
  ·replace hb29:=gX c30 hb29
   refine goL ?_
   obtain⟨g31,hb29⟩:=mZ hb29
   refine jI (vB g31) ?_
   cases hb29
   exact eJ
  ·replace hb29:=gY c30 hb29
   refine gAi ?_
   cases hb29
   exact eJ
 refine goL ?_
 obtain⟨g32,h⟩:=mZ h
 refine jI (vB g32) ?_
 refine jN ?_
 obtain rfl:=Option.some.inj h
 exact gFk [.d (.s (b29++([41]:List UInt8)))] [.box [.L 1 (kQ x28_1_0),.I x28_1_1,.I x28_1_2]] ⟨rfl,rfl⟩
def gA4(x1:Int × jA):Nat→(List UInt8)→Int→Int→(List jD)→Int→Option (List jD × jA)
 | 0,y2,y3,y4,y5,y7=>none
 | n8+1,y2,y3,y4,y5,y7=>(cnd (decide (y7 < x1.1)) (
bnd (gEf (jA.mk y2 y3 y4) [[115,104,111,119],[111,114,100],[97,100,100]]) fun x10=>
bnd (gEf x10.2 [[97],[98]]) fun x11=>
lt_ (gCx x11.1) fun x12=>
gd (y5.length+[(jD.mk x10.1 x12)].length≤4294967296) (
gA4 x1 n8 x11.2.b x11.2.i x11.2.h (y5++[(jD.mk x10.1 x12)]) (IntKind.i64.wrap (y7+1)))) (
(some (y5,(jA.mk y2 y3 y4)))))
def gIe(c:jA)(n0:Nat):Option (List jD × jA):=
bnd (yQ c 3) fun x1=>
gA4 x1 n0 x1.2.b x1.2.i x1.2.h [] 0
theorem gVa(c:jA){n0:Nat}{r:List jD × jA}(h:gIe c n0=some r):Go.Eng.Spec Tryz.prog 13 [.ptr 0 0] [.box [.L 1 (kQ c.b),.I c.i,.I c.h]] (fun sv Lo=>sv=.L 4 (jT r.1)∧Lo=[.box [.L 1 (kQ r.2.b),.I r.2.i,.I r.2.h]]):=by
 obtain⟨c_0,c_1,c_2⟩:=c
 unfold gIe at h
 refine mP 1 Tryz.func13 rfl (by kernel_rfl) rfl rfl fun A _=>?_
 refine goL ?_
 refine zN ?_
 refine goL ?_
 obtain⟨⟨x1_0,⟨x1_1_0,x1_1_1,x1_1_2⟩⟩,hx1,h⟩:=gK h
 refine zI 0 (gCk (jA.mk c_0 c_1 c_2) 3 hx1) ?_
 refine goL ?_
 refine noB ?_
 refine hDw (fun(n8:Nat) (y2:List UInt8) (y3:Int) (y4:Int) (y5:List jD) (y7:Int) (v6:Nat)=>⟨[(0,.ptr 0 0),(3,.sl 1 v6),(4,.I x1_0),(5,.I y7)],[.box [.L 1 (kQ y2),.I y3,.I y4],.arr 66 4 v6 (jT y5)],Tryz.f13.ntmps⟩) (fun n8 y2 y3 y4 y5 y7 v6=>gA4 (x1_0,(jA.mk x1_1_0 x1_1_1 x1_1_2)) n8 y2 y3 y4 y5 y7=some r) (fun n8 y2 y3 y4 y5 y7 v6=>n8) n0 x1_1_0 x1_1_1 x1_1_2 [] 0 0 eJ h ?_
 rintro n8 y2 y3 y4 y5 y7 v6 h
 rcases n8 with _ | n8
 ·cases h
 rw [gA4.eq_2] at h
 refine goC h ?_ ?_<;>intro c9 h
 ·refine noS ?_
  refine kI (jE ?_)
  refine goL ?_
  refine gM3 (us:=gZ [[115,104,111,119],[111,114,100],[97,100,100]]) ?_
  refine vO 2 rfl rfl ?_
  obtain⟨⟨x10_0,⟨x10_1_0,x10_1_1,x10_1_2⟩⟩,hx10,h⟩:=gK h
  refine zI 0 (gLq (jA.mk y2 y3 y4) [[115,104,111,119],[111,114,100],[97,100,100]] hx10) ?_
  refine goL ?_
  refine gM3 (us:=gZ [[97],[98]]) ?_
  refine vO 3 rfl rfl ?_
  obtain⟨⟨x11_0,⟨x11_1_0,x11_1_1,x11_1_2⟩⟩,hx11,h⟩:=gK h
  refine zI 0 (gLq (jA.mk x10_1_0 x10_1_1 x10_1_2) [[97],[98]] hx11) ?_
  obtain⟨⟨x12_0,x12_1,x12_2⟩,hx12,h⟩:=qR h
  have sx12:=gKw x11_0
  rw [hx12] at sx12
  refine qP (gF (sx12)) ?_
  refine gA6 (kD TBd.h TZ.h rfl (by repeat constructor)) ?_
  refine gBc (u:=(.st [.s x10_0,.st [.i .i64 x12_0,.s x12_1,.sl 3 (gJ x12_2)]])) ?_
  obtain⟨g13,h⟩:=mZ h
  refine gBf g13 ?_
  refine goL ?_
  refine jI (qC) ?_
  exact⟨n8,x11_1_0,x11_1_1,x11_1_2,(y5++[(jD.mk x10_0 (gD.mk x12_0 x12_1 x12_2))]),(IntKind.i64.wrap (y7+1)),(v6+1),h,Nat.lt_succ_self _,eJ⟩
 ·refine goX ?_
  refine kK 1 rfl rfl ?_
  refine jN ?_
  obtain rfl:=Option.some.inj h
  exact hOs [.L 4 (jT y5)] [.box [.L 1 (kQ y2),.I y3,.I y4]] ⟨rfl,rfl⟩
def gMh(x0:jA):Option (List jD × jA):=gIe x0 5000
end Go.Proofs.YtfaplndgbgoaaaaGreatDoor
