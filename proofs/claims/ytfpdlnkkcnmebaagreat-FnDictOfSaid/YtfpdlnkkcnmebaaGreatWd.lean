import Derived.Test.YtfpdlnkkcnmebaaGreatB5
set_option maxHeartbeats 4000000
set_option linter.unusedVariables false
set_option linter.unusedSimpArgs false
set_option linter.unusedSectionVars false
namespace Go.Proofs.YtfpdlnkkcnmebaaGreat
open Go Go.Eng
attribute [local irreducible] V VO VQ VY Quiet QR jI mK Rng qE qA pX
@[reducible] def mO:LB:=[40,112,97,99,107,97,103,101,32,97,112,112,32,40,99,111,114,101,41,32,40,100,97,116,97,32,116,97,103,32,40,41,32,40,116,97,103,32,105,110,116,41,32,40,110,111,110,101,41,41]
@[reducible] def gC3:LB:=[32,40,105,110,115,116,32,115,104,111,119,32,40,41,32,105,110,116,32,40,41,32,40,41,32,40,41,32,40,109,32,40,120,41,32,57,41,41]
@[reducible] def gC4:LB:=[32,40,105,110,115,116,32,115,104,111,119,32,40,41,32,116,97,103,32,40,41,32,40,41,32,40,41,32,40,109,32,40,120,41,32,40,99,97,115,101,32,120,32,40,110,111,110,101,32,48,41,32,40,116,97,103,32,110,32,110,41,41,41,41]
@[reducible] def gC5:LB:=List.append [32,40,105,110,115,116,32,115,104,111,119,32,40,41,32,40,108,105,115,116,32,116,97,103,41,32,40,41,32,40,41,32,40,41,32,40,109,32,40,120,41] [32,52,41,41,32,40,105,110,115,116,32,115,104,111,119,32,40,41,32,116,97,103,32,40,41,32,40,41,32,40,41,32,40,109,32,40,120,41,32,53,41,41]
@[reducible] def gC6:LB:=[32,40,105,110,115,116,32,111,114,100,32,40,41,32,116,97,103,32,40,41,32,40,41,32,40,41,32,40,108,101,115,115,32,40,120,32,121,41,32,116,114,117,101,41,41]
@[reducible] def gC7:LB:=List.append [32,40,105,110,115,116,32,101,113,32,40,41,32,116,97,103,32,40,41,32,40,41,32,40,41,32,40,115,97,109,101,32,40,120,32,121,41,32,116,114,117,101,41,41,32] [40,105,110,115,116,32,111,114,100,32,40,41,32,116,97,103,32,40,41,32,40,41,32,40,41,32,40,108,101,115,115,32,40,120,32,121,41,32,102,97,108,115,101,41,41]
@[reducible] def gC8:LB:=[32,40,105,110,115,116,32,115,104,111,119,32,40,97,41,32,39,97,32,40,40,101,113,32,39,97,41,41,32,40,41,32,40,41,32,40,109,32,40,120,41,32,49,41,41]
@[reducible] def gC9:LB:=[32,40,105,110,115,116,32,115,104,111,119,32,40,41,32,116,97,103,32,40,41,32,40,41,32,40,41,32,40,109,32,40,120,41,32,40,99,97,115,101,32,120,32,40,116,97,103,32,110,32,110,41,32,40,110,111,110,101,32,48,41,41,41,41]
@[reducible] def zK:LB:=[32,40,102,110,32,109,97,105,110,32,40,41,32,40,41,32,40,41,32,105,110,116,32]
@[reducible] def gBd:LB:=List.append [40,109,101,116,104,111,100,32,115,104,111,119,32,109,32,40,110,101,119,32,99,111,110,115,32,49,32,40,110,101,119,32,99,111] [110,115,32,50,32,40,116,104,101,32,40,108,105,115,116,32,105,110,116,41,32,40,110,101,119,32,110,105,108,41,41,41,41,41]
@[reducible] def gBe:LB:=[40,99,97,108,108,32,98,111,116,104,32,40,110,101,119,32,112,97,105,114,32,51,32,116,114,117,101,41,41]
@[reducible] def gBf:LB:=[40,43,32,40,99,97,108,108,32,105,100,32,52,41,32,40,109,101,116,104,111,100,32,115,104,111,119,32,109,32,40,110,101,119,32,116,97,103,32,55,41,41,41]
@[reducible] def gBg:LB:=List.append [40,108,101,116,32,122,32,40,109,101,116,104,111,100,32,97,100,100,32,112,108,117,115,32,40,110,101,119,32,98,111,120,32,49] [41,32,40,110,101,119,32,98,111,120,32,50,41,41,32,40,99,97,115,101,32,122,32,40,98,111,120,32,110,32,110,41,41,41]
@[reducible] def gBh:LB:=[40,109,101,116,104,111,100,32,115,104,111,119,32,109,32,40,110,101,119,32,110,105,108,41,41]
@[reducible] def gBi:LB:=[40,109,101,116,104,111,100,32,115,104,111,119,32,109,32,40,112,97,99,107,32,115,104,111,119,32,51,41,41]
@[reducible] def gBj:LB:=[40,105,102,32,40,109,101,116,104,111,100,32,111,114,100,32,108,101,115,115,32,49,32,50,41,32,40,99,97,108,108,32,98,111,116,104,32,116,114,117,101,41,32,48,41]
@[reducible] def gBk:LB:=List.append [40,109,101,116,104,111,100,32,115,104,111,119,32,109,32,40,110,101,119,32,99,111,110,115,32,40,110,101,119,32,116,97] [103,32,49,41,32,40,116,104,101,32,40,108,105,115,116,32,116,97,103,41,32,40,110,101,119,32,110,105,108,41,41,41,41]
@[reducible] def gBl:LB:=[40,99,97,108,108,32,98,111,116,104,32,40,99,97,108,108,32,105,100,32,40,99,97,108,108,32,105,100,32,40,110,101,119,32,116,97,103,32,50,41,41,41,41]
@[reducible] def gHx:LB:=List.append [32,40,102,110,32,108,101,110,32,40,97,41,32,40,41,32,40,40,120,32,40,108,105,115,116,32,39,97,41,41,41,32,105,110,116,32,40,99,97,115,101] [32,120,32,40,110,105,108,32,48,41,32,40,99,111,110,115,32,104,32,116,32,40,43,32,49,32,40,99,97,108,108,32,108,101,110,32,116,41,41,41,41,41]
@[reducible] def gHy:LB:=List.append [32,40,102,110,32,115,117,109,32,40,97,41,32,40,40,97,100,100,32,39,97,41,41,32,40,40,120,32,39,97,41,32,40,121,32,39,97,41] [41,32,40,97,115,115,111,99,32,97,100,100,32,39,97,41,32,40,109,101,116,104,111,100,32,97,100,100,32,112,108,117,115,32,120,32,121,41,41]
@[reducible] def gHz:LB:=List.append [32,40,102,110,32,103,114,111,119,32,40,97,41,32,40,40,115,104,111,119,32,39,97,41,41,32,40,40,110,32,105,110,116,41,32,40,120,32,39,97,41,41,32,105,110,116,32,40,105,102,32,40,60,32,110,32] [49,41,32,40,109,101,116,104,111,100,32,115,104,111,119,32,109,32,120,41,32,40,99,97,108,108,32,103,114,111,119,32,40,45,32,110,32,49,41,32,40,110,101,119,32,112,97,105,114,32,120,32,120,41,41,41,41]
def gOc(c:gK):Option (LB × gK):=
bnd (kW c 8) fun h=>
bnd ((cnd (h.1==0) (
gd (mO.length+gC3.length≤4294967296) (
(some (mO++gC3)))) (
(cnd (h.1==1) (
gd (mO.length+gC4.length≤4294967296) (
(some (mO++gC4)))) (
(cnd (h.1==2) (
gd (mO.length+gC5.length≤4294967296) (
(some (mO++gC5)))) (
(cnd (h.1==3) (
gd (mO.length+gC6.length≤4294967296) (
(some (mO++gC6)))) (
(cnd (h.1==4) (
gd (mO.length+gC7.length≤4294967296) (
(some (mO++gC7)))) (
(cnd (h.1==5) (
gd (mO.length+gC8.length≤4294967296) (
(some (mO++gC8)))) (
gd (mO.length+gC9.length≤4294967296) (
(some (mO++gC9)))))))))))))))) fun b2=>
gd (b2.length+zK.length≤4294967296) (
bnd (pK h.2 [[40,99,97,108,108,32,98,111,116,104,32,53,41],gBd,gBe,gBf,gBg,gBh,gBi,gBj,gBk,gBl]) fun f=>
gd ((b2++zK).length+f.1.length≤4294967296) (
gd (((b2++zK)++f.1).length+([41]:LB).length≤4294967296) (
bnd (uS f.2 2) fun ab=>
bnd ((cnd ab.1 (
gd ((((b2++zK)++f.1)++([41]:LB)).length+gHx.length≤4294967296) (
(some ((((b2++zK)++f.1)++([41]:LB))++gHx)))) (
(some (((b2++zK)++f.1)++([41]:LB)))))) fun q=>
bnd (uS ab.2 3) fun ac=>
bnd ((cnd ac.1 (
gd (q.length+gHy.length≤4294967296) (
(some (q++gHy)))) (
(some q)))) fun y=>
bnd (uS ac.2 4) fun ad=>
bnd ((cnd ad.1 (
gd (y.length+gHz.length≤4294967296) (
(some (y++gHz)))) (
(some y)))) fun ae=>
gd (ae.length+([41]:LB).length≤4294967296) (
(some ((ae++([41]:LB)),ad.2))))))
set_option maxRecDepth 100000 in
theorem hJw(c:gK){r:LB × gK}(h:gOc c=some r):Go.Eng.Spec Tryz.prog 142 [.ptr 0 0] [bCu c.b c.i c.h] (fun sv Lo=>sv=.S r.1∧Lo=[bCu r.2.b r.2.i r.2.h]):=by
 obtain⟨a0,a3,a4⟩:=c;unfold gOc at h;refine kJ 1 Tryz.func142 rfl (by kernel_rfl) rfl rfl fun A _=>?_;refine goL ?_;obtain⟨⟨br,⟨ad,ae,ag⟩⟩,a5,h⟩:=gJ h;refine mI 0 (mH (gK.mk a0 a3 a4) 8 a5) ?_;refine goL ?_;obtain⟨b2,hb2,h⟩:=gJ h;refine wY ⟨[(0,.ptr 0 0),(3,.S b2)],[bCu ad ae ag],Tryz.f142.ntmps⟩ ?_ ?_
 ·refine jA ?_;refine goL ?_;refine mR (fun c3=>?_) (fun c3=>?_)
  ·replace hb2:=kU c3 hb2;refine goL ?_;obtain⟨g4,hb2⟩:=pU hb2;refine jP (zB g4) ?_;cases hb2;exact eJ
  ·replace hb2:=kV c3 hb2;refine goL ?_;refine mR (fun c5=>?_) (fun c5=>?_)
   ·replace hb2:=kU c5 hb2;refine goL ?_;obtain⟨g6,hb2⟩:=pU hb2;refine jP (zB g6) ?_;cases hb2;exact eJ
   ·replace hb2:=kV c5 hb2;refine goL ?_;refine mR (fun c7=>?_) (fun c7=>?_)
    ·replace hb2:=kU c7 hb2;refine goL ?_;obtain⟨g8,hb2⟩:=pU hb2;refine jP (zB g8) ?_;cases hb2;exact eJ
    ·replace hb2:=kV c7 hb2;refine goL ?_;refine mR (fun c9=>?_) (fun c9=>?_)
     ·replace hb2:=kU c9 hb2;refine goL ?_;obtain⟨ba,hb2⟩:=pU hb2;refine jP (zB ba) ?_;cases hb2;exact eJ
     ·replace hb2:=kV c9 hb2;refine goL ?_;refine mR (fun an=>?_) (fun an=>?_)
      ·replace hb2:=kU an hb2;refine goL ?_;obtain⟨bb,hb2⟩:=pU hb2;refine jP (zB bb) ?_;cases hb2;exact eJ
      ·replace hb2:=kV an hb2;refine goL ?_;refine mR (fun ao=>?_) (fun ao=>?_)
       ·replace hb2:=kU ao hb2;refine goL ?_;obtain⟨bc,hb2⟩:=pU hb2;refine jP (zB bc) ?_;cases hb2;exact eJ
       ·replace hb2:=kV ao hb2;refine goL ?_;obtain⟨bd,hb2⟩:=pU hb2;refine jP (zB bd) ?_;cases hb2;exact eJ
 refine goL ?_;obtain⟨be,h⟩:=pU h;refine jP (zB be) ?_;refine yQ (us:=gT [[40,99,97,108,108,32,98,111,116,104,32,53,41],gBd,gBe,gBf,gBg,gBh,gBi,gBj,gBk,gBl]) ?_;refine kS 1 rfl rfl ?_;obtain⟨⟨bf,⟨ah,ai,aj⟩⟩,au,h⟩:=gJ h;refine mI 0 (kZ (gK.mk ad ae ag) [[40,99,97,108,108,32,98,111,116,104,32,53,41],gBd,gBe,gBf,gBg,gBh,gBi,gBj,gBk,gBl] au) ?_;obtain⟨bg,h⟩:=pU h;refine uN (zB bg) ?_;obtain⟨bh,h⟩:=pU h;refine jP (zB bh) ?_;obtain⟨⟨bi,⟨f,q,y⟩⟩,av,h⟩:=gJ h;refine mI 0 (wB (gK.mk ah ai aj) 2 av) ?_;refine goL ?_;obtain⟨bj,hb21,h⟩:=gJ h;refine wY ⟨[(0,.ptr 0 0),(3,.S bj)],[bCu f q y,.frz 9 1 0 (gT [[40,99,97,108,108,32,98,111,116,104,32,53,41],gBd,gBe,gBf,gBg,gBh,gBi,gBj,gBk,gBl])],Tryz.f142.ntmps⟩ ?_ ?_
 ·refine mR (fun ap=>?_) (fun ap=>?_)
  ·replace hb21:=kU ap hb21;refine goL ?_;obtain⟨bk,hb21⟩:=pU hb21;refine jP (zB bk) ?_;cases hb21;exact eJ
  ·replace hb21:=kV ap hb21;refine vN ?_;cases hb21;exact eJ
 refine goL ?_;obtain⟨⟨bl,⟨aa,ab,ac⟩⟩,aw,h⟩:=gJ h;refine mI 0 (wB (gK.mk f q y) 3 aw) ?_;refine goL ?_;obtain⟨bm,hb25,h⟩:=gJ h;refine wY ⟨[(0,.ptr 0 0),(3,.S bm)],[bCu aa ab ac,.frz 9 1 0 (gT [[40,99,97,108,108,32,98,111,116,104,32,53,41],gBd,gBe,gBf,gBg,gBh,gBi,gBj,gBk,gBl])],Tryz.f142.ntmps⟩ ?_ ?_
 ·refine mR (fun aq=>?_) (fun aq=>?_)
  ·replace hb25:=kU aq hb25;refine goL ?_;obtain⟨bn,hb25⟩:=pU hb25;refine jP (zB bn) ?_;cases hb25;exact eJ
  ·replace hb25:=kV aq hb25;refine vN ?_;cases hb25;exact eJ
 refine goL ?_;obtain⟨⟨bo,⟨ak,al,am⟩⟩,ax,h⟩:=gJ h;refine mI 0 (wB (gK.mk aa ab ac) 4 ax) ?_;refine goL ?_;obtain⟨ay,hb29,h⟩:=gJ h;refine wY ⟨[(3,.S ay)],[bCu ak al am,.frz 9 1 0 (gT [[40,99,97,108,108,32,98,111,116,104,32,53,41],gBd,gBe,gBf,gBg,gBh,gBi,gBj,gBk,gBl])],Tryz.f142.ntmps⟩ ?_ ?_
 ·refine mR (fun ar=>?_) (fun ar=>?_)
  ·replace hb29:=kU ar hb29;refine goL ?_;obtain⟨bp,hb29⟩:=pU hb29;refine jP (zB bp) ?_;cases hb29;exact eJ
  ·replace hb29:=kV ar hb29;refine vN ?_;cases hb29;exact eJ
 refine goL ?_;obtain⟨bq,h⟩:=pU h;refine jP (zB bq) ?_;refine jF ?_;obtain rfl:=Option.some.inj h;exact gAg [.d (.s (ay++([41]:LB)))] _ ⟨rfl,rfl⟩
def gFo  :Option (gB):=
bnd (gBa [105,110,116] []) fun f=>
(some f)
theorem gH0  {r:gB}(h:gFo  =some r):jI Tryz.prog 143 [] [mM r]:=by
 unfold gFo at h;refine SpI Tryz.func143 fun A _=>?_;refine goL ?_;obtain⟨⟨q,y,aa⟩,f,h⟩:=gJ h;refine uN (gI (gDy _ _ f)) ?_;exact goR h
def gDa(x1:Int × gK):Nat→LB→Int→Int→(List gP)→Int→Option (List gP × gK)
 | 0,y2,y3,y4,y5,y7=>none
 | n8+1,y2,y3,y4,y5,y7=>(cnd (decide (y7 < x1.1)) (
bnd (pK (gK.mk y2 y3 y4) [[115,104,111,119],[111,114,100],[97,100,100]]) fun q=>
bnd (pK q.2 [[97],[98]]) fun f=>
lt_ (vZ f.1) fun y=>
gd (y5.length+[(gP.mk q.1 y)].length≤4294967296) (
gDa x1 n8 f.2.b f.2.i f.2.h (y5++[(gP.mk q.1 y)]) (IntKind.i64.wrap (y7+1)))) (
(some (y5,(gK.mk y2 y3 y4)))))
def gMj(c:gK)(q:Nat):Option (List gP × gK):=
bnd (kW c 3) fun f=>
gDa f q f.2.b f.2.i f.2.h [] 0
theorem hBj(c:gK){n0:Nat}{r:List gP × gK}(h:gMj c n0=some r):Go.Eng.Spec Tryz.prog 92 [.ptr 0 0] [bCu c.b c.i c.h] (fun sv Lo=>sv=.L 4 (kC r.1)∧Lo=[bCu r.2.b r.2.i r.2.h]):=by
 obtain⟨a0,a3,a4⟩:=c;unfold gMj at h;refine kJ 1 Tryz.func92 rfl (by kernel_rfl) rfl rfl fun A _=>?_;refine goL ?_;refine gAu ?_;refine goL ?_;obtain⟨⟨al,⟨f,q,y⟩⟩,a5,h⟩:=gJ h;refine mI 0 (mH (gK.mk a0 a3 a4) 3 a5) ?_;refine goL ?_;refine noB ?_;refine gXg (fun(n8:Nat)(y2:LB)(y3:Int)(y4:Int)(y5:List gP)(y7:Int)(v6:Nat)=>⟨[(0,.ptr 0 0),(3,.sl 1 v6),(4,.I al),(5,.I y7)],[bCu y2 y3 y4,.arr 53 4 v6 (kC y5)],Tryz.f92.ntmps⟩) (fun n8 y2 y3 y4 y5 y7 v6=>gDa (al,(gK.mk f q y)) n8 y2 y3 y4 y5 y7=some r) (fun n8 y2 y3 y4 y5 y7 v6=>n8) n0 f q y [] 0 0 eJ h ?_;rintro n8 y2 y3 y4 y5 y7 v6 h;rcases n8 with _ | n8
 ·cases h
 rw [gDa.eq_2] at h;refine goC h ?_ ?_<;>intro c9 h
 ·refine noS ?_;refine kI (jA ?_);refine goL ?_;refine yQ (us:=gT [[115,104,111,119],[111,114,100],[97,100,100]]) ?_;refine kS 2 rfl rfl ?_;obtain⟨⟨aa,⟨ab,ac,ad⟩⟩,aw,h⟩:=gJ h;refine mI 0 (kZ (gK.mk y2 y3 y4) [[115,104,111,119],[111,114,100],[97,100,100]] aw) ?_;refine goL ?_;refine yQ (us:=gT [[97],[98]]) ?_;refine kS 3 rfl rfl ?_;obtain⟨⟨ar,⟨ae,ag,ah⟩⟩,ax,h⟩:=gJ h;refine mI 0 (kZ (gK.mk ab ac ad) [[97],[98]] ax) ?_;obtain⟨⟨ai,aj,ak⟩,ay,h⟩:=uK h;have sx12:=gCl ar;rw [ay] at sx12;refine uN (gI (sx12)) ?_;refine vP (jN TBd.h TZ.h rfl (by repeat constructor)) ?_;refine uO (u:=(.st [.s aa,.st [.i .i64 ai,.s aj,.sl 3 (gN ak)]])) ?_;obtain⟨a6,h⟩:=pU h;refine gAd a6 ?_;refine goL ?_;refine jP (pV) ?_;exact⟨n8,ae,ag,ah,(y5++[(gP.mk aa (gB.mk ai aj ak))]),(IntKind.i64.wrap (y7+1)),(v6+1),h,Nat.lt_succ_self _,eJ⟩
 ·refine goX ?_;refine gV 1 rfl rfl ?_;refine jF ?_;obtain rfl:=Option.some.inj h;exact gB5 [.L 4 (kC y5)] [bCu y2 y3 y4] ⟨rfl,rfl⟩
def gSb(f:gK):Option (List gP × gK):=gMj f 5000
def qV(a1:gP):List gX→Nat→Int
 | [],f=>(-1)
 | h::xs,f=>(cnd (gGe h.goal a1) (
(f:Int)) (
qV a1 xs (f+1)))
def mQ(f:List gX)(a1:gP):Int:=
qV a1 f 0
theorem gFp(a0:List gX)(a1:gP):jI Tryz.prog 75 [.L 6 (jU a0),.d (yF a1)] [.i .i64 (mQ a0 a1)]:=by
 obtain⟨r,h⟩:∃r,mQ a0 a1=r:=⟨_,rfl⟩
 rw [h];obtain⟨ae,⟨f,q,y⟩⟩:=a1;unfold mQ at h;refine SpI Tryz.func75 fun A _=>?_;refine goL ?_;refine noB ?_;refine gCw 0 (fun z2=>?_);refine pY (fun(y1:Nat)=>⟨[(0,.L 6 (jU a0)),(3,.ptr 0 0),(5,.N y1)],[bBd ae f q y],Tryz.f75.ntmps⟩) (fun y1=>qV (gP.mk ae (gB.mk f q y)) (a0.drop y1) y1=r) (fun y1=>a0.length - y1) 0 eJ h ?_;rintro y1 h;refine goL ?_;refine mR (fun c3=>?_) (fun c3=>?_)
 ·have aa:=vR c3;obtain⟨x4,al,aj⟩:=drop_at aa;rw [aj,qV.eq_2] at h;obtain⟨⟨ah,⟨ab,ac,ad⟩⟩,am,an⟩:=x4;refine noS ?_;refine kI (jA ?_);refine goL ?_;refine gDi (jR y1 (gHl al)) ?_;refine goL ?_;refine gDi (gI (gWr (gP.mk ah (gB.mk ab ac ad)) (gP.mk ae (gB.mk f q y)))) ?_;refine goC h ?_ ?_<;>intro c5 h
  ·refine goL ?_;refine jF ?_;subst h;exact uM
  ·refine goS ?_;refine jP (kD y1 (by omega)) ?_;exact⟨(y1+1),h,by omega,eJ⟩
 ·have aa:=vS c3;rw [jK aa,qV.eq_1] at h;refine goX ?_;refine jF ?_;subst h;exact uM
def qQ:List Int→Int→Int→Int→Int→(List gH)→Option (gH)
 | [],f,h,q,y,y6=>(some (gH.mk f h (gD.mk q y) y6))
 | ab::xs,f,h,q,y,y6=>qQ xs 3 ab 0 0 [(gH.mk f h (gD.mk q y) y6)]
def wI(h:gH)(a1:List Int):Option (gH):=
bnd (gL0 5000 h) fun f=>
qQ a1 f.kind f.n f.at_.package f.at_.at_ f.args
theorem gH1(a0:gH)(a1:List Int){r:gH}(h:wI a0 a1=some r):mK Tryz.prog 76 [.d (mZ a0),.L 1 (vM a1)] [51] [mZ r]:=by
 obtain⟨ad,ae,⟨q,y⟩,ag⟩:=a0;unfold wI at h;refine qB Tryz.func76 rfl (by kernel_rfl) rfl (by simp) fun A _=>?_;refine goL ?_;obtain⟨⟨ao,ap,⟨aa,ab⟩,aq⟩,aw,h⟩:=gJ h;refine gE3 (hGk 5000 (gH.mk ad ae (gD.mk q y) ag) aw) ?_;refine goL ?_;refine noB ?_;refine gCw 1 (fun z9=>?_);refine gY9 (fun(y8:Nat)(y2:Int)(y3:Int)(y4:Int)(y5:Int)(y6:List gH)(v7:Nat)=>⟨[(1,.L 1 (vM a1)),(4,.ptr 1 0),(5,.ptr 3 0),(6,.N y8)],[.box [.I ad,.I ae,.I q,.I y,.L 5 (jE ag)],.box [.I 0,.I 0,.I 0,.I 0,.nilsl],.own 51 5 v7 (jE y6),.box [.I y2,.I y3,.I y4,.I y5,.sl 2 v7]],Tryz.f76.ntmps⟩) (fun y8 y2 y3 y4 y5 y6 v7=>qQ (a1.drop y8) y2 y3 y4 y5 y6=some r) (fun y8 y2 y3 y4 y5 y6 v7=>a1.length - y8) 0 ao ap aa ab aq 0 eJ h ?_;rintro y8 y2 y3 y4 y5 y6 v7 h;refine goL ?_;refine mR (fun am=>?_) (fun am=>?_)
 ·have f:=vR am;obtain⟨ax,au,an⟩:=drop_at f;rw [an,qQ.eq_2] at h;refine noS ?_;refine kI (jA ?_);refine yL (P:=Tryz.prog) Mix.h [(0,true),(1,true),(2,true),(3,true),(4,true),(5,false),(6,true),(7,false)] (by kernel_rfl) ?_;refine goY ?_;refine jW rfl (jR y8 (hMg au)) ?_;refine goY ?_;refine gLf (T:=31) (gH.mk y2 y3 (gD.mk y4 y5) y6) ?_;refine goY ?_;refine mJ ?_;refine goL ?_;refine jP (kD y8 (by omega)) ?_;exact⟨(y8+1),3,ax,0,0,[(gH.mk y2 y3 (gD.mk y4 y5) y6)],0,h,by omega,pQ 0 [0,1,4,3]⟩
 ·have f:=vS am;rw [jK f,qQ.eq_1] at h;refine goX ?_;refine jF ?_;obtain rfl:=Option.some.inj h;exact gNw
def gDb(f:gM→LB→LB→Int→Option (List Int × Bool))(a0:gM)(a2:LB)(q:Int)(y:pM × Int × Bool):Nat→Int→Option (List Int × Bool)
 | 0,h=>none
 | n4+1,h=>lt_ ((cnd (decide (h < (y.1.supertraits.length:Int))) ((decide (q > 0))) (false))) fun b5=>
(cnd b5 (
bnd (at? y.1.supertraits h) fun x8=>
bnd (f a0 x8 a2 (IntKind.i64.wrap (q - 1))) fun x9=>
(cnd x9.2 (
gd ([h].length+x9.1.length≤4294967296) (
(some (([h]++x9.1),true)))) (
gDb f a0 a2 q y n4 (IntKind.i64.wrap (h+1))))) (
(some ([],false))))
def gJj(f:gM→LB→LB→Int→Option (List Int × Bool))(h:gM)(a1:LB)(a2:LB)(q:Int)(y:Nat):Option (List Int × Bool):=
(cnd (a1==a2) (
(some ([],true))) (
lt_ (uJ h a1) fun x2=>
gDb f h a2 q x2 y 0))
theorem hBk{f:gM→LB→LB→Int→Option (List Int × Bool)}(q:∀(x0:gM)(x1:LB)(x2:LB)(x3:Int){r:List Int × Bool},f x0 x1 x2 x3=some r→jI Tryz.prog 123 [.d (mD x0),.S x1,.S x2,.I x3] [.sl 1 (vM r.1),.b r.2])(a0:gM)(a1:LB)(a2:LB)(a3:Int){n0:Nat}{r:List Int × Bool}(h:gJj f a0 a1 a2 a3 n0=some r):jI Tryz.prog 123 [.d (mD a0),.S a1,.S a2,.I a3] [.sl 1 (vM r.1),.b r.2]:=by
 obtain⟨ae⟩:=a0;unfold gJj at h;refine SpI Tryz.func123 fun A _=>?_;refine goC h ?_ ?_<;>intro c1 h
 ·refine goL ?_;refine gC1 ?_;refine goL ?_;refine mP 1 rfl rfl ?_;refine jF ?_;cases h;exact uM
 ·refine goS ?_;obtain⟨⟨⟨y,aa,ab,ac,ad⟩,ak,al⟩,ao,h⟩:=uK h;have sx2:=gIr (gM.mk ae) a1;rw [ao] at sx2;refine jP (gI (sx2)) ?_;refine noB ?_;refine gFc (fun(n4:Nat)(y3:Int)=>⟨[(2,.S a2),(3,.I a3),(4,.ptr 0 0),(10,.ptr 1 0),(13,.I y3)],[bPr ae,bTr y aa ab ac ad],Tryz.f123.ntmps⟩) (fun n4 y3=>gDb f (gM.mk ae) a2 a3 ((pM.mk y aa ab ac ad),ak,al) n4 y3=some r) (fun n4 y3=>n4) n0 0 eJ h ?_;rintro n4 y3 h;rcases n4 with _ | n4
  ·cases h
  rw [gDb.eq_2] at h;refine goL ?_;obtain⟨b5,hb5,h⟩:=uK h;refine kH ⟨[(2,.S a2),(3,.I a3),(4,.ptr 0 0),(10,.ptr 1 0),(13,.I y3),(35,.B b5)],[bPr ae,bTr y aa ab ac ad],Tryz.f123.ntmps⟩ ?_ ?_
  ·exact gqZ 32 hb5
  refine goC h ?_ ?_<;>intro c7 h
  ·refine noS ?_;refine kI (jA ?_);refine goL ?_;obtain⟨x8,ai,h⟩:=gJ h;obtain⟨am,ai⟩:=gBm ai;refine gDi (uL am (gO7 ai)) ?_;refine goL ?_;refine gDi (pV) ?_;obtain⟨⟨ay,a4⟩,ap,h⟩:=gJ h;refine gDi (gI (q _ _ _ _ ap)) ?_;refine goC h ?_ ?_<;>intro a6 h
   ·refine goL ?_;refine wX y3 ?_;refine goL ?_;obtain⟨aq,h⟩:=pU h;refine gDl aq ?_;refine goL ?_;refine mP 2 rfl rfl ?_;refine jF ?_;cases h;exact uM
   ·refine goS ?_;refine jP (pV) ?_;exact⟨n4,(IntKind.i64.wrap (y3+1)),h,Nat.lt_succ_self _,eJ⟩
  ·refine goX ?_;refine gC1 ?_;refine goL ?_;refine mP 2 rfl rfl ?_;refine jF ?_;cases h;exact uM
def gG3:Nat→gM→LB→LB→Int→Option (List Int × Bool)
 | 0,_,_,_,_=>none
 | n+1,f,h,q,y=>gJj (gG3 n) f h q y n
theorem hBn:∀(n:Nat)(f:gM)(q:LB)(y:LB)(x3:Int){r:List Int × Bool},gG3 n f q y x3=some r→jI Tryz.prog 123 [.d (mD f),.S q,.S y,.I x3] [.sl 1 (vM r.1),.b r.2]:=by
 intro n
 induction n with
 | zero=>intro f q y x3 r h;cases h
 | succ n ih=>intro f q y x3 r h;exact hBk ih f q y x3 h
def mX(q:gM)(a1:gP):List gD→(List gD)→Option (List gD)
 | [],f=>(some f)
 | h::xs,f=>bnd (at? q.packages h.package) fun x8=>
bnd (at? x8.instances h.at_) fun x9=>
bnd ((cnd (x9.trait==a1.trait) (bnd (gG1 x9.head a1.type_) fun y=>
(some y)) ((some false)))) fun aa=>
(cnd aa (
gd (f.length+[h].length≤4294967296) (
mX q a1 xs (f++[h]))) (
mX q a1 xs f))
def yB(f:gM)(a1:gP):Option (List gD):=
bnd (gCt f) fun h=>
mX f a1 h []
theorem gL1(a0:gM)(a1:gP){r:List gD}(h:yB a0 a1=some r):jI Tryz.prog 155 [.d (mD a0),.d (yF a1)] [.sl 2 (kR r)]:=by
 obtain⟨ac⟩:=a0;obtain⟨ad,⟨f,q,y⟩⟩:=a1;unfold yB at h;refine SpI Tryz.func155 fun A _=>?_;refine goL ?_;refine gAu ?_;refine goL ?_;obtain⟨x1,ba,h⟩:=gJ h;refine jP (gI (gSa _ ba)) ?_;refine noB ?_;refine gCw 6 (fun z5=>?_);refine mG (fun(y4:Nat)(y2:List gD)(v3:Nat)=>⟨[(2,.ptr 0 0),(3,.ptr 1 0),(5,.sl 2 v3),(6,.L 2 (kR x1)),(7,.N y4)],[bPr ac,bBd ad f q y,.arr 28 2 v3 (kR y2)],Tryz.f155.ntmps⟩) (fun y4 y2 v3=>mX (gM.mk ac) (gP.mk ad (gB.mk f q y)) (x1.drop y4) y2=some r) (fun y4 y2 v3=>x1.length - y4) 0 [] 0 eJ h ?_;rintro y4 y2 v3 h;refine goL ?_;refine mR (fun c6=>?_) (fun c6=>?_)
 ·have aa:=vR c6;obtain⟨x7,ap,au⟩:=drop_at aa;rw [au,mX.eq_2] at h;obtain⟨an,ao⟩:=x7;refine noS ?_;refine kI (jA ?_);refine jS (P:=Tryz.prog) Mix.h [(0,true),(1,true),(2,true),(3,true),(4,true),(5,true),(6,true),(7,true),(8,true),(9,true),(10,true),(11,true),(12,true),(13,true),(14,true),(15,true),(16,true),(17,false),(18,false)] (by kernel_rfl) ?_;refine goY ?_;refine jW rfl (jR y4 (zA ap)) ?_;refine goY ?_;obtain⟨x8,aq,h⟩:=gJ h;obtain⟨av,aq⟩:=gBm aq;obtain⟨be,bf,bg,bh,bi,bj⟩:=x8;refine jW rfl (uL av (gAc aq)) ?_;refine goY ?_;refine jW rfl (jR y4 (zA ap)) ?_;refine goY ?_;obtain⟨x9,ar,h⟩:=gJ h;obtain⟨aw,ar⟩:=gBm ar;obtain⟨ax,ay,⟨ag,ah,ai⟩,a3,a4,a5,⟨aj,ak,al⟩,a6⟩:=x9;refine jW rfl (uL aw (gHj ar)) ?_;refine goY ?_;refine mJ ?_;refine goL ?_;obtain⟨bc,hb10,h⟩:=gJ h;refine kH ⟨[(2,.ptr 0 0),(3,.ptr 1 0),(5,.sl 2 v3),(6,.L 2 (kR x1)),(7,.N y4),(46,.B bc)],[bPr ac,bBd ad f q y,.arr 28 2 v3 (kR y2),bIn ax ay ag ah ai a3 a4 a5 aj ak al a6],Tryz.f155.ntmps⟩ ?_ ?_
  ·refine gqA 40 hb10 (fun bn hb10=>?_);obtain⟨bo,a7,hb10⟩:=gJ hb10;refine jP (gI (gTc _ _ a7)) ?_;cases hb10;exact eJ
  refine goC h ?_ ?_<;>intro bp h
  ·refine goL ?_;refine jP (jR y4 (zA ap)) ?_;refine uO (u:=(.st [.i .i64 an,.i .i64 ao])) ?_;obtain⟨bd,h⟩:=pU h;refine gAd bd ?_;refine goL ?_;refine jP (kD y4 (by omega)) ?_;exact⟨(y4+1),(y2++[(gD.mk an ao)]),(v3+1),h,by omega,eJ⟩
  ·refine goS ?_;refine jP (kD y4 (by omega)) ?_;exact⟨(y4+1),y2,v3,h,by omega,eJ⟩
 ·have aa:=vS c6;rw [jK aa,mX.eq_1] at h;refine goX ?_;refine gV 2 rfl rfl ?_;refine jF ?_;cases h;exact uM
def gCu(f:gB)(a1:gB):Option (Bool):=
bnd (yS f a1) fun h=>
bnd ((cnd h (bnd (yS a1 f) fun q=>
(some (!q))) ((some false)))) fun y=>
(some y)
theorem gSc(a0:gB)(a1:gB){r:Bool}(h:gCu a0 a1=some r):jI Tryz.prog 156 [.d (mM a0),.d (mM a1)] [.b r]:=by
 obtain⟨f,q,y⟩:=a0;obtain⟨aa,ab,ac⟩:=a1;unfold gCu at h;refine SpI Tryz.func156 fun A _=>?_;refine goL ?_;obtain⟨x1,ae,h⟩:=gJ h;refine jP (gI (gGn _ _ ae)) ?_;obtain⟨b2,hb2,h⟩:=gJ h;refine kH ⟨[(4,.B b2)],[bTy f q y,bTy aa ab ac],Tryz.f156.ntmps⟩ ?_ ?_
 ·refine gqA 8 hb2 (fun c3 hb2=>?_);obtain⟨x4,ag,hb2⟩:=gJ hb2;refine jP (gI (gGn _ _ ag)) ?_;cases hb2;exact eJ
 exact goR h
def gCv(f:gB):Option (Bool):=
bnd (gBs f) fun h=>
bnd ((cnd ((h.length:Int)==0) (bnd (vY 5000 f) fun q=>
(some (!q))) ((some false)))) fun y=>
(some y)
theorem gYi(a0:gB){r:Bool}(h:gCv a0=some r):jI Tryz.prog 157 [.d (mM a0)] [.b r]:=by
 obtain⟨f,q,y⟩:=a0;unfold gCv at h;refine SpI Tryz.func157 fun A _=>?_;refine goL ?_;obtain⟨x1,ab,h⟩:=gJ h;refine jP (gI (gKl _ ab)) ?_;obtain⟨b2,hb2,h⟩:=gJ h;refine kH ⟨[(2,.B b2)],[bTy f q y],Tryz.f157.ntmps⟩ ?_ ?_
 ·refine gqA 7 hb2 (fun c3 hb2=>?_);obtain⟨x4,ac,hb2⟩:=gJ hb2;refine jP (gI (gGk _ _ ac)) ?_;cases hb2;exact eJ
 exact goR h
def kA(s:LB):gF:=⟨s,[]⟩
def kL(l:List gF):gF:=⟨[],l⟩
def ka0:gF:=kA [112,97,99,107,97,103,101]
def ka1:gF:=kA [99,111,114,101]
def ka2:gF:=kA [116,114,97,105,116]
def ka3:gF:=kA [115,104,111,119]
def ka4:gF:=kA [109]
def ka5:gF:=kA [105,110,116]
def ka6:gF:=kA [116,119,111]
def ka7:gF:=kA [39,115,101,108,102]
def ka8:gF:=kA [120]
def ka9:gF:=kA [121]
def hOa:gF:=kA [43]
def gUy:gF:=kA [109,101,116,104,111,100]
def hLu:gF:=kA [101,113]
def hQa:gF:=kA [115,97,109,101]
def hWm:gF:=kA [98,111,111,108]
def hQb:gF:=kA [111,114,100]
def hQc:gF:=kA [108,101,115,115]
def hGl:gF:=kA [97,100,100]
def hSe:gF:=kA [97,115,115,111,99]
def hOc:gF:=kA [112,108,117,115]
def jAt:gF:=kA [115,101,110,100]
def jAu:gF:=kA [97,117,116,111]
def hQd:gF:=kA [100,97,116,97]
def hJz:gF:=kA [108,105,115,116]
def gZ5:gF:=kA [97]
def hNv:gF:=kA [110,105,108]
def hNw:gF:=kA [99,111,110,115]
def gO1:gF:=kA [39,97]
def hOd:gF:=kA [112,97,105,114]
def hY4:gF:=kA [98]
def hWn:gF:=kA [39,98]
def hBo:gF:=kA [98,111,120]
def hY5:gF:=kA [117,110,105,116]
def gTh:gF:=kA [105,110,115,116]
def hWo:gF:=kA [105,102]
def hJ1:gF:=kA [49]
def hNx:gF:=kA [48]
def hGm:gF:=kA [99,97,115,101]
def hQe:gF:=kA [104]
def hOe:gF:=kA [116]
def jAv:gF:=kA [100,101,102,97,117,108,116]
def hY6:gF:=kA [55]
def hSf:gF:=kA [122]
def hY7:gF:=kA [45]
def jAw:gF:=kA [61]
def hY8:gF:=kA [60]
def hSg:gF:=kA [112]
def hSh:gF:=kA [113]
def gZ6:gF:=kA [110,101,119]
def hOf:gF:=kA [102,110]
def hSi:gF:=kA [105,100]
def hQf:gF:=kA [98,111,116,104]
def jAx:gF:=kA [97,112,112]
def gYj:gF:=kA [116,97,103]
def hWp:gF:=kA [110,111,110,101]
def jAy:gF:=kA [57]
def hJ4:gF:=kA [110]
def hY9:gF:=kA [52]
def hZa:gF:=kA [53]
def hSk:gF:=kA [116,114,117,101]
def jAz:gF:=kA [102,97,108,115,101]
def jA0:gF:=kA [109,97,105,110]
def hJ5:gF:=kA [99,97,108,108]
def hSl:gF:=kA [50]
def hZb:gF:=kA [116,104,101]
def hZc:gF:=kA [51]
def jA1:gF:=kA [108,101,116]
def jA2:gF:=kA [112,97,99,107]
def hZd:gF:=kA [108,101,110]
def jA3:gF:=kA [115,117,109]
def hZe:gF:=kA [103,114,111,119]
def gWt:List gF:=[ka0,ka1,kL []]
def hGo:List gF:=[kL [ka2,ka3,kL [],kL [],kL [ka4,kL [],ka5],kL [ka6,kL [ka7],ka5,kL [ka8,ka9],kL [hOa,kL [gUy,ka3,ka4,ka8],kL [gUy,ka3,ka4,ka9]]]],kL [ka2,hLu,kL [],kL [],kL [hQa,kL [ka7],hWm]],kL [ka2,hQb,kL [hLu],kL [],kL [hQc,kL [ka7],hWm]],kL [ka2,hGl,kL [],kL [hSe],kL [hOc,kL [ka7],kL [hSe,hGl,ka7]]],kL [ka2,jAt,kL [],kL [jAu]],kL [hQd,hJz,kL [gZ5],kL [hNv],kL [hNw,gO1,kL [hJz,gO1]]],kL [hQd,hOd,kL [gZ5,hY4],kL [hOd,gO1,hWn]],kL [hQd,hBo,kL [gZ5],kL [hBo,gO1]],kL [hQd,hY5,kL [],kL [hY5]],kL [gTh,ka3,kL [],ka5,kL [],kL [],kL [],kL [ka4,kL [ka8],ka8]],kL [gTh,ka3,kL [],hWm,kL [],kL [],kL [],kL [ka4,kL [ka8],kL [hWo,ka8,hJ1,hNx]]]]
def gZ7:Bool→List gF
 | true=>[kL [gTh,ka3,kL [gZ5],kL [hJz,gO1],kL [kL [ka3,gO1]],kL [],kL [],kL [ka4,kL [ka8],kL [hGm,ka8,kL [hNv,hNx],kL [hNw,hQe,hOe,kL [hOa,kL [gUy,ka3,ka4,hQe],kL [gUy,ka3,ka4,hOe]]]]]]]
 | false=>[kL [gTh,ka3,kL [gZ5],kL [hJz,gO1],kL [],kL [jAv],kL [],kL [ka4,kL [ka8],hY6]],kL [gTh,ka3,kL [],kL [hJz,ka5],kL [],kL [],kL [],kL [ka4,kL [ka8],kL [hGm,ka8,kL [hNv,hNx],kL [hNw,hQe,hOe,kL [hOa,hQe,kL [gUy,ka3,ka4,hOe]]]]]]]
def hGp:List gF:=[kL [gTh,ka3,kL [gZ5,hY4],kL [hOd,gO1,hWn],kL [kL [ka3,gO1],kL [ka3,hWn]],kL [],kL [],kL [ka4,kL [ka8],kL [hGm,ka8,kL [hOd,ka9,hSf,kL [hY7,kL [gUy,ka3,ka4,ka9],kL [gUy,ka3,ka4,hSf]]]]]],kL [gTh,hLu,kL [],ka5,kL [],kL [],kL [],kL [hQa,kL [ka8,ka9],kL [jAw,ka8,ka9]]],kL [gTh,hQb,kL [],ka5,kL [],kL [],kL [],kL [hQc,kL [ka8,ka9],kL [hY8,ka8,ka9]]],kL [gTh,hLu,kL [gZ5],kL [hBo,gO1],kL [kL [hLu,gO1]],kL [],kL [],kL [hQa,kL [ka8,ka9],kL [hGm,ka8,kL [hBo,hSg,kL [hGm,ka9,kL [hBo,hSh,kL [gUy,hLu,hQa,hSg,hSh]]]]]]],kL [gTh,hGl,kL [],ka5,kL [],kL [],kL [ka5],kL [hOc,kL [ka8,ka9],kL [hOa,ka8,ka9]]],kL [gTh,hGl,kL [gZ5],kL [hBo,gO1],kL [kL [hGl,gO1]],kL [],kL [kL [hBo,kL [hSe,hGl,gO1]]],kL [hOc,kL [ka8,ka9],kL [hGm,ka8,kL [hBo,hSg,kL [hGm,ka9,kL [hBo,hSh,kL [gZ6,hBo,kL [gUy,hGl,hOc,hSg,hSh]]]]]]]],kL [hOf,hSi,kL [gZ5],kL [],kL [kL [ka8,gO1]],gO1,ka8],kL [hOf,hQf,kL [gZ5],kL [kL [ka3,gO1]],kL [kL [ka8,gO1]],ka5,kL [gUy,ka3,ka6,ka8,ka8]]]
def gWu:List gF:=[ka0,jAx,kL [ka1]]
def hNy:List gF:=[kL [hQd,gYj,kL [],kL [gYj,ka5],kL [hWp]]]
def hGq:List (List gF):=[[kL [gTh,ka3,kL [],ka5,kL [],kL [],kL [],kL [ka4,kL [ka8],jAy]]],
 [kL [gTh,ka3,kL [],gYj,kL [],kL [],kL [],kL [ka4,kL [ka8],kL [hGm,ka8,kL [hWp,hNx],kL [gYj,hJ4,hJ4]]]]],
 [kL [gTh,ka3,kL [],kL [hJz,gYj],kL [],kL [],kL [],kL [ka4,kL [ka8],hY9]],kL [gTh,ka3,kL [],gYj,kL [],kL [],kL [],kL [ka4,kL [ka8],hZa]]],
 [kL [gTh,hQb,kL [],gYj,kL [],kL [],kL [],kL [hQc,kL [ka8,ka9],hSk]]],
 [kL [gTh,hLu,kL [],gYj,kL [],kL [],kL [],kL [hQa,kL [ka8,ka9],hSk]],kL [gTh,hQb,kL [],gYj,kL [],kL [],kL [],kL [hQc,kL [ka8,ka9],jAz]]],
 [kL [gTh,ka3,kL [gZ5],gO1,kL [kL [hLu,gO1]],kL [],kL [],kL [ka4,kL [ka8],hJ1]]],
 [kL [gTh,ka3,kL [],gYj,kL [],kL [],kL [],kL [ka4,kL [ka8],kL [hGm,ka8,kL [gYj,hJ4,hJ4],kL [hWp,hNx]]]]]]
def gWv(m:gF):gF:=kL [hOf,jA0,kL [],kL [],kL [],ka5,m]
def hGr:List gF:=[kL [hJ5,hQf,hZa],kL [gUy,ka3,ka4,kL [gZ6,hNw,hJ1,kL [gZ6,hNw,hSl,kL [hZb,kL [hJz,ka5],kL [gZ6,hNv]]]]],kL [hJ5,hQf,kL [gZ6,hOd,hZc,hSk]],kL [hOa,kL [hJ5,hSi,hY9],kL [gUy,ka3,ka4,kL [gZ6,gYj,hY6]]],kL [jA1,hSf,kL [gUy,hGl,hOc,kL [gZ6,hBo,hJ1],kL [gZ6,hBo,hSl]],kL [hGm,hSf,kL [hBo,hJ4,hJ4]]],kL [gUy,ka3,ka4,kL [gZ6,hNv]],kL [gUy,ka3,ka4,kL [jA2,ka3,hZc]],kL [hWo,kL [gUy,hQb,hQc,hJ1,hSl],kL [hJ5,hQf,hSk],hNx],kL [gUy,ka3,ka4,kL [gZ6,hNw,kL [gZ6,gYj,hJ1],kL [hZb,kL [hJz,gYj],kL [gZ6,hNv]]]],kL [hJ5,hQf,kL [hJ5,hSi,kL [hJ5,hSi,kL [gZ6,gYj,hSl]]]]]
def hNz:List gF:=[kL [hOf,hZd,kL [gZ5],kL [],kL [kL [ka8,kL [hJz,gO1]]],ka5,kL [hGm,ka8,kL [hNv,hNx],kL [hNw,hQe,hOe,kL [hOa,hJ1,kL [hJ5,hZd,hOe]]]]]]
def hN2:List gF:=[kL [hOf,jA3,kL [gZ5],kL [kL [hGl,gO1]],kL [kL [ka8,gO1],kL [ka9,gO1]],kL [hSe,hGl,gO1],kL [gUy,hGl,hOc,ka8,ka9]]]
def hN3:List gF:=[kL [hOf,hZe,kL [gZ5],kL [kL [ka3,gO1]],kL [kL [hJ4,ka5],kL [ka8,gO1]],ka5,kL [hWo,kL [hY8,hJ4,hJ1],kL [gUy,ka3,ka4,ka8],kL [hJ5,hZe,kL [hY7,hJ4,hJ1],kL [gZ6,hOd,ka8,ka8]]]]]
def gUz(b:Bool):gF:=kL (gWt++(hGo++(gZ7 b++hGp)))
def hN4(h:List gF)(m:gF)(f q y:List gF):gF:=kL (gWu++(hNy++(h++(gWv m::(f++(q++y))))))
theorem gIs:∀(a b:List gF),gD0 (a++b)=gD0 a++gD0 b
 | [],b=>by simp [gD0]
 | x::a,b=>by simp only [List.cons_append,gD0,gIs a b,List.append_assoc]
theorem gZ8:∀{a:List gF}(b:List gF),a≠[]→gTb (a++b)=gTb a++gD0 b
 | [],b,h=>absurd rfl h
 | x::a,b,_=>by simp only [List.cons_append,gTb,gIs a b,List.append_assoc]
theorem hWq:yH++yI++zM++gAj=40::(gTb gWt++gD0 hGo):=by kernel_rfl
theorem hWr:gDs=gD0 (gZ7 true):=by kernel_rfl
theorem hWt:gDt=gD0 (gZ7 false):=by kernel_rfl
theorem hWu:vT++wF++yJ++wU++yX++gAa=gD0 hGp:=by kernel_rfl
theorem hWv:mO=40::(gTb gWu++gD0 hNy):=by kernel_rfl
theorem hWx:[gC3,gC4,gC5,gC6,gC7,gC8,gC9]=hGq.map gD0:=by kernel_rfl
theorem hWy:[[40,99,97,108,108,32,98,111,116,104,32,53,41],gBd,gBe,gBf,gBg,gBh,gBi,gBj,gBk,gBl]=hGr.map fmt:=by kernel_rfl
theorem hWz(m:gF):zK++fmt m++[41]=gD0 [gWv m]:=by
 have h:zK=32::40::(gTb (gWv (kL [])).list.dropLast++[32]):=by kernel_rfl
 rw [h];simp only [gWv,gD0,kL,fmt,gTb,List.dropLast,List.append_nil,List.nil_append,List.cons_append,List.append_assoc]
theorem hW4:gHx=gD0 hNz:=by kernel_rfl
theorem hW5:gHy=gD0 hN2:=by kernel_rfl
theorem hW6:gHz=gD0 hN3:=by kernel_rfl
end Go.Proofs.YtfpdlnkkcnmebaaGreat
