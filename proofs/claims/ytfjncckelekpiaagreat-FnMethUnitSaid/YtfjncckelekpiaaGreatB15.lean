import Derived.Test.YtfjncckelekpiaaGreatB7
set_option maxHeartbeats 4000000
set_option linter.unusedVariables false
set_option linter.unusedSimpArgs false
set_option linter.unusedSectionVars false
namespace Go.Proofs.YtfjncckelekpiaaGreat
open Go Go.Eng
attribute [local irreducible] V VO VQ VY Quiet QR gW pJ Rng vF uW uI
@[reducible] def mH:LB:=[40,112,97,99,107,97,103,101,32,97,112,112,32,40,99,111,114,101,41,32,40,100,97,116,97,32,116,97,103,32,40,41,32,40,116,97,103,32,105,110,116,41,32,40,110,111,110,101,41,41]
@[reducible] def gEg:LB:=[32,40,105,110,115,116,32,115,104,111,119,32,40,41,32,105,110,116,32,40,41,32,40,41,32,40,41,32,40,109,32,40,120,41,32,57,41,41]
@[reducible] def gEh:LB:=[32,40,105,110,115,116,32,115,104,111,119,32,40,41,32,116,97,103,32,40,41,32,40,41,32,40,41,32,40,109,32,40,120,41,32,40,99,97,115,101,32,120,32,40,110,111,110,101,32,48,41,32,40,116,97,103,32,110,32,110,41,41,41,41]
@[reducible] def gEi:LB:=List.append [32,40,105,110,115,116,32,115,104,111,119,32,40,41,32,40,108,105,115,116,32,116,97,103,41,32,40,41,32,40,41,32,40,41,32,40,109,32,40,120,41] [32,52,41,41,32,40,105,110,115,116,32,115,104,111,119,32,40,41,32,116,97,103,32,40,41,32,40,41,32,40,41,32,40,109,32,40,120,41,32,53,41,41]
@[reducible] def gEj:LB:=[32,40,105,110,115,116,32,111,114,100,32,40,41,32,116,97,103,32,40,41,32,40,41,32,40,41,32,40,108,101,115,115,32,40,120,32,121,41,32,116,114,117,101,41,41]
@[reducible] def gEk:LB:=List.append [32,40,105,110,115,116,32,101,113,32,40,41,32,116,97,103,32,40,41,32,40,41,32,40,41,32,40,115,97,109,101,32,40,120,32,121,41,32,116,114,117,101,41,41,32] [40,105,110,115,116,32,111,114,100,32,40,41,32,116,97,103,32,40,41,32,40,41,32,40,41,32,40,108,101,115,115,32,40,120,32,121,41,32,102,97,108,115,101,41,41]
@[reducible] def gEl:LB:=[32,40,105,110,115,116,32,115,104,111,119,32,40,97,41,32,39,97,32,40,40,101,113,32,39,97,41,41,32,40,41,32,40,41,32,40,109,32,40,120,41,32,49,41,41]
@[reducible] def gEm:LB:=[32,40,105,110,115,116,32,115,104,111,119,32,40,41,32,116,97,103,32,40,41,32,40,41,32,40,41,32,40,109,32,40,120,41,32,40,99,97,115,101,32,120,32,40,116,97,103,32,110,32,110,41,32,40,110,111,110,101,32,48,41,41,41,41]
@[reducible] def zV:LB:=[32,40,102,110,32,109,97,105,110,32,40,41,32,40,41,32,40,41,32,105,110,116,32]
@[reducible] def gB2:LB:=List.append [40,109,101,116,104,111,100,32,115,104,111,119,32,109,32,40,110,101,119,32,99,111,110,115,32,49,32,40,110,101,119,32,99,111] [110,115,32,50,32,40,116,104,101,32,40,108,105,115,116,32,105,110,116,41,32,40,110,101,119,32,110,105,108,41,41,41,41,41]
@[reducible] def gB3:LB:=[40,99,97,108,108,32,98,111,116,104,32,40,110,101,119,32,112,97,105,114,32,51,32,116,114,117,101,41,41]
@[reducible] def gB4:LB:=[40,43,32,40,99,97,108,108,32,105,100,32,52,41,32,40,109,101,116,104,111,100,32,115,104,111,119,32,109,32,40,110,101,119,32,116,97,103,32,55,41,41,41]
@[reducible] def gB5:LB:=List.append [40,108,101,116,32,122,32,40,109,101,116,104,111,100,32,97,100,100,32,112,108,117,115,32,40,110,101,119,32,98,111,120,32,49] [41,32,40,110,101,119,32,98,111,120,32,50,41,41,32,40,99,97,115,101,32,122,32,40,98,111,120,32,110,32,110,41,41,41]
@[reducible] def gB6:LB:=[40,109,101,116,104,111,100,32,115,104,111,119,32,109,32,40,110,101,119,32,110,105,108,41,41]
@[reducible] def gB7:LB:=[40,109,101,116,104,111,100,32,115,104,111,119,32,109,32,40,112,97,99,107,32,115,104,111,119,32,51,41,41]
@[reducible] def gB8:LB:=[40,105,102,32,40,109,101,116,104,111,100,32,111,114,100,32,108,101,115,115,32,49,32,50,41,32,40,99,97,108,108,32,98,111,116,104,32,116,114,117,101,41,32,48,41]
@[reducible] def gB9:LB:=List.append [40,109,101,116,104,111,100,32,115,104,111,119,32,109,32,40,110,101,119,32,99,111,110,115,32,40,110,101,119,32,116,97] [103,32,49,41,32,40,116,104,101,32,40,108,105,115,116,32,116,97,103,41,32,40,110,101,119,32,110,105,108,41,41,41,41]
@[reducible] def gCa:LB:=[40,99,97,108,108,32,98,111,116,104,32,40,99,97,108,108,32,105,100,32,40,99,97,108,108,32,105,100,32,40,110,101,119,32,116,97,103,32,50,41,41,41,41]
@[reducible] def gKp:LB:=List.append [32,40,102,110,32,108,101,110,32,40,97,41,32,40,41,32,40,40,120,32,40,108,105,115,116,32,39,97,41,41,41,32,105,110,116,32,40,99,97,115,101] [32,120,32,40,110,105,108,32,48,41,32,40,99,111,110,115,32,104,32,116,32,40,43,32,49,32,40,99,97,108,108,32,108,101,110,32,116,41,41,41,41,41]
@[reducible] def gKq:LB:=List.append [32,40,102,110,32,115,117,109,32,40,97,41,32,40,40,97,100,100,32,39,97,41,41,32,40,40,120,32,39,97,41,32,40,121,32,39,97,41] [41,32,40,97,115,115,111,99,32,97,100,100,32,39,97,41,32,40,109,101,116,104,111,100,32,97,100,100,32,112,108,117,115,32,120,32,121,41,41]
@[reducible] def gKr:LB:=List.append [32,40,102,110,32,103,114,111,119,32,40,97,41,32,40,40,115,104,111,119,32,39,97,41,41,32,40,40,110,32,105,110,116,41,32,40,120,32,39,97,41,41,32,105,110,116,32,40,105,102,32,40,60,32,110,32] [49,41,32,40,109,101,116,104,111,100,32,115,104,111,119,32,109,32,120,41,32,40,99,97,108,108,32,103,114,111,119,32,40,45,32,110,32,49,41,32,40,110,101,119,32,112,97,105,114,32,120,32,120,41,41,41,41]
def gQ9(c:kP):Option (LB × kP):=
bnd (gAt c 8) fun q=>
bnd (cnd (q.1==0) (
gd (mH.length+gEg.length≤4294967296) (some (mH++gEg))) (cnd (q.1==1) (
gd (mH.length+gEh.length≤4294967296) (some (mH++gEh))) (cnd (q.1==2) (
gd (mH.length+gEi.length≤4294967296) (some (mH++gEi))) (cnd (q.1==3) (
gd (mH.length+gEj.length≤4294967296) (some (mH++gEj))) (cnd (q.1==4) (
gd (mH.length+gEk.length≤4294967296) (some (mH++gEk))) (cnd (q.1==5) (
gd (mH.length+gEl.length≤4294967296) (some (mH++gEl))) (
gd (mH.length+gEm.length≤4294967296) (some (mH++gEm))))))))) fun b2=>
gd (b2.length+zV.length≤4294967296) (
bnd (gDc q.2 [[40,99,97,108,108,32,98,111,116,104,32,53,41],gB2,gB3,gB4,gB5,gB6,gB7,gB8,gB9,gCa]) fun f=>
gd ((b2++zV).length+f.1.length≤4294967296) (
gd (((b2++zV)++f.1).length+([41]:LB).length≤4294967296) (
bnd (gG4 f.2 2) fun ac=>
bnd (cnd ac.1 (
gd ((((b2++zV)++f.1)++([41]:LB)).length+gKp.length≤4294967296) (some ((((b2++zV)++f.1)++([41]:LB))++gKp))) (some (((b2++zV)++f.1)++([41]:LB)))) fun y=>
bnd (gG4 ac.2 3) fun ad=>
bnd (cnd ad.1 (
gd (y.length+gKq.length≤4294967296) (some (y++gKq))) (some y)) fun aa=>
bnd (gG4 ad.2 4) fun ae=>
bnd (cnd ae.1 (
gd (aa.length+gKr.length≤4294967296) (some (aa++gKr))) (some aa)) fun ag=>
gd (ag.length+([41]:LB).length≤4294967296) (some ((ag++([41]:LB)),ae.2)))))
set_option maxRecDepth 100000 in
theorem hOy(c:kP){r:LB × kP}(h:gQ9 c=some r):Go.Eng.Spec Tryz.prog 49 [.ptr 0 0] [bCu c.b c.i c.h] (fun sv Lo=>sv=.S r.1∧Lo=[bCu r.2.b r.2.i r.2.h]):=by
 obtain⟨a0,a2,a3⟩:=c;unfold gQ9 at h;refine pK 1 Tryz.func49 rfl (by kernel_rfl) rfl rfl fun A _=>?_;refine goL ?_;obtain⟨⟨bq,⟨ad,ae,ag⟩⟩,a4,h⟩:=gK h;refine gCt 0 (gG0 (kP.mk a0 a2 a3) 8 a4) ?_;refine goL ?_;obtain⟨b2,hb2,h⟩:=gK h;refine gHf ⟨[(0,.ptr 0 0),(3,.S b2)],[bCu ad ae ag],Tryz.f49.ntmps⟩ ?_ ?_
 ·refine gP ?_;refine goL ?_;refine kN (fun c3=>?_) (fun c3=>?_)
  ·replace hb2:=jU c3 hb2;refine goL ?_;obtain⟨g4,hb2⟩:=mI hb2;refine gX (yS g4) ?_;cases hb2;exact eJ
  ·replace hb2:=jV c3 hb2;refine goL ?_;refine kN (fun c5=>?_) (fun c5=>?_)
   ·replace hb2:=jU c5 hb2;refine goL ?_;obtain⟨g6,hb2⟩:=mI hb2;refine gX (yS g6) ?_;cases hb2;exact eJ
   ·replace hb2:=jV c5 hb2;refine goL ?_;refine kN (fun c7=>?_) (fun c7=>?_)
    ·replace hb2:=jU c7 hb2;refine goL ?_;obtain⟨g8,hb2⟩:=mI hb2;refine gX (yS g8) ?_;cases hb2;exact eJ
    ·replace hb2:=jV c7 hb2;refine goL ?_;refine kN (fun c9=>?_) (fun c9=>?_)
     ·replace hb2:=jU c9 hb2;refine goL ?_;obtain⟨a9,hb2⟩:=mI hb2;refine gX (yS a9) ?_;cases hb2;exact eJ
     ·replace hb2:=jV c9 hb2;refine goL ?_;refine kN (fun an=>?_) (fun an=>?_)
      ·replace hb2:=jU an hb2;refine goL ?_;obtain⟨ba,hb2⟩:=mI hb2;refine gX (yS ba) ?_;cases hb2;exact eJ
      ·replace hb2:=jV an hb2;refine goL ?_;refine kN (fun ao=>?_) (fun ao=>?_)
       ·replace hb2:=jU ao hb2;refine goL ?_;obtain⟨bb,hb2⟩:=mI hb2;refine gX (yS bb) ?_;cases hb2;exact eJ
       ·replace hb2:=jV ao hb2;refine goL ?_;obtain⟨bc,hb2⟩:=mI hb2;refine gX (yS bc) ?_;cases hb2;exact eJ
 refine goL ?_;obtain⟨bd,h⟩:=mI h;refine gX (yS bd) ?_;refine gPb (us:=kD [[40,99,97,108,108,32,98,111,116,104,32,53,41],gB2,gB3,gB4,gB5,gB6,gB7,gB8,gB9,gCa]) ?_;refine qV 1 rfl rfl ?_;obtain⟨⟨be,⟨ah,ai,aj⟩⟩,au,h⟩:=gK h;refine gCt 0 (gLw (kP.mk ad ae ag) [[40,99,97,108,108,32,98,111,116,104,32,53,41],gB2,gB3,gB4,gB5,gB6,gB7,gB8,gB9,gCa] au) ?_;obtain⟨bf,h⟩:=mI h;refine pX (yS bf) ?_;obtain⟨bg,h⟩:=mI h;refine gX (yS bg) ?_;obtain⟨⟨bh,⟨f,q,y⟩⟩,av,h⟩:=gK h;refine gCt 0 (gPt (kP.mk ah ai aj) 2 av) ?_;refine goL ?_;obtain⟨bi,hb21,h⟩:=gK h;refine gHf ⟨[(0,.ptr 0 0),(3,.S bi)],[bCu f q y,.frz 9 1 0 (kD [[40,99,97,108,108,32,98,111,116,104,32,53,41],gB2,gB3,gB4,gB5,gB6,gB7,gB8,gB9,gCa])],Tryz.f49.ntmps⟩ ?_ ?_
 ·refine kN (fun ap=>?_) (fun ap=>?_)
  ·replace hb21:=jU ap hb21;refine goL ?_;obtain⟨bj,hb21⟩:=mI hb21;refine gX (yS bj) ?_;cases hb21;exact eJ
  ·replace hb21:=jV ap hb21;refine gCs ?_;cases hb21;exact eJ
 refine goL ?_;obtain⟨⟨bk,⟨aa,ab,ac⟩⟩,aw,h⟩:=gK h;refine gCt 0 (gPt (kP.mk f q y) 3 aw) ?_;refine goL ?_;obtain⟨bl,hb25,h⟩:=gK h;refine gHf ⟨[(0,.ptr 0 0),(3,.S bl)],[bCu aa ab ac,.frz 9 1 0 (kD [[40,99,97,108,108,32,98,111,116,104,32,53,41],gB2,gB3,gB4,gB5,gB6,gB7,gB8,gB9,gCa])],Tryz.f49.ntmps⟩ ?_ ?_
 ·refine kN (fun aq=>?_) (fun aq=>?_)
  ·replace hb25:=jU aq hb25;refine goL ?_;obtain⟨bm,hb25⟩:=mI hb25;refine gX (yS bm) ?_;cases hb25;exact eJ
  ·replace hb25:=jV aq hb25;refine gCs ?_;cases hb25;exact eJ
 refine goL ?_;obtain⟨⟨bn,⟨ak,al,am⟩⟩,ax,h⟩:=gK h;refine gCt 0 (gPt (kP.mk aa ab ac) 4 ax) ?_;refine goL ?_;obtain⟨ay,hb29,h⟩:=gK h;refine gHf ⟨[(3,.S ay)],[bCu ak al am,.frz 9 1 0 (kD [[40,99,97,108,108,32,98,111,116,104,32,53,41],gB2,gB3,gB4,gB5,gB6,gB7,gB8,gB9,gCa])],Tryz.f49.ntmps⟩ ?_ ?_
 ·refine kN (fun ar=>?_) (fun ar=>?_)
  ·replace hb29:=jU ar hb29;refine goL ?_;obtain⟨bo,hb29⟩:=mI hb29;refine gX (yS bo) ?_;cases hb29;exact eJ
  ·replace hb29:=jV ar hb29;refine gCs ?_;cases hb29;exact eJ
 refine goL ?_;obtain⟨bp,h⟩:=mI h;refine gX (yS bp) ?_;refine jH ?_;obtain rfl:=Option.some.inj h;exact gHr [.d (.s (ay++([41]:LB)))] _ ⟨rfl,rfl⟩
def gAo(a0:gG)(y2:List (List Int))(y4:Int)(y7:List Int)(y9:Int)(q:Option (List Int))(y:Option (List Int)):Nat→Int→Option (List Int)
 | 0,f=>none
 | ag+1,f=>bnd (at? a0.packages y4) fun ac=>
(cnd (decide (f < (ac.deps.length:Int))) (
bnd (at? ac.deps f) fun aa=>
bnd (cnd (decide ((uT a0 aa)≥0)) (cnd (decide ((uT a0 aa) < y4)) (bnd (at? y2 (uT a0 aa)) fun ah=>
some (gMr ah y9)) (some false)) (some false)) fun ai=>
cnd ai (
gd (y7.length+[y9].length≤4294967296) (
q)) (
gAo a0 y2 y4 y7 y9 q y ag (IntKind.i64.wrap (f+1)))) (
y))
def uP(a0:gG)(y2:List (List Int))(y4:Int)(f:(List Int)→Option (List Int))(n0:Nat):Nat→(List Int)→Int→Option (List Int)
 | 0,y,q=>none
 | aa+1,y,q=>(cnd (decide (q < y4)) (
gAo a0 y2 y4 y q (uP a0 y2 y4 f n0 aa (y++[q]) (IntKind.i64.wrap (q+1))) (uP a0 y2 y4 f n0 aa y (IntKind.i64.wrap (q+1))) n0 0) (f y))
def uQ(a0:gG)(a1:Int)(y:Nat):Nat→(List (List Int))→Int→Option (List Int)
 | 0,q,f=>none
 | n5+1,q,f=>(cnd (decide (f≤a1)) (
uP a0 q f (fun y7=>gd (y7.length+[f].length≤4294967296) (
gd (q.length+[(y7++[f])].length≤4294967296) (
uQ a0 a1 y n5 (q++[(y7++[f])]) (IntKind.i64.wrap (f+1))))) y y [] 0) (
bnd (at? q a1) fun ab=>
some ab))
def gGc(f:gG)(a1:Int)(q:Nat):Option (List Int):=
(cnd (!(gBa a1 0 (IntKind.i64.wrap ((f.packages.length:Int) - 1)))) (some []) (
uQ f a1 q q [] 0))
theorem gRa(a0:gG)(a1:Int){n0:Nat}{r:List Int}(h:gGc a0 a1 n0=some r):gW Tryz.prog 223 [.d (jX a0),.I a1] [.sl 1 (yC r)]:=by
 obtain⟨f⟩:=a0;unfold gGc at h;refine SpI Tryz.func223 fun A _=>?_;refine goL ?_;refine pX (pR) ?_;refine gX (gD (gIv a1 0 (IntKind.i64.wrap ((f.length:Int) - 1)))) ?_;refine kN (fun c1=>?_) (fun c1=>?_)
 ·replace h:=jU c1 h;refine goL ?_;refine gFh ?_;refine goL ?_;refine qW 1 rfl rfl ?_;refine jH ?_;cases h;exact mM
 ·replace h:=jV c1 h;refine goS ?_;refine qO ?_;refine goL ?_;refine noB ?_;refine gWs (fun(n5:Nat)(y2:List (List Int))(q:Int)(v3:Nat)=>⟨[(1,.I a1),(2,.ptr 0 0),(5,.sl 1 v3),(6,.I q)],[bPr f,.arr 30 1 v3 (gW1 y2)],Tryz.f223.ntmps⟩) (fun n5 y2 q v3=>uQ (gG.mk f) a1 n0 n5 y2 q=some r) (fun n5 y2 q v3=>n5) n0 [] 0 0 eJ h ?_;rintro n5 y2 q v3 h;rcases n5 with _ | n5
  ·cases h
  rw [uQ.eq_2] at h;refine goC h ?_ ?_<;>intro c6 h
  ·refine noS ?_;refine kC (gP ?_);refine goL ?_;refine gFh ?_;refine goL ?_;refine noB ?_
   refine gWs (fun(aa:Nat)(y:List Int)(y9:Int)(v8:Nat)=>⟨[(1,.I a1),(2,.ptr 0 0),(5,.sl 1 v3),(6,.I q),(7,.sl 2 v8),(8,.I y9)],[bPr f,.arr 30 1 v3 (gW1 y2),.own 3 1 v8 (yC y)],Tryz.f223.ntmps⟩) (fun aa y y9 v8=>uP (gG.mk f) y2 q (fun y=>gd (y.length+[q].length≤4294967296) (
gd (y2.length+[(y++[q])].length≤4294967296) (
uQ (gG.mk f) a1 n0 n5 (y2++[(y++[q])]) (IntKind.i64.wrap (q+1))))) n0 aa y y9=some r) (fun aa y y9 v8=>aa) n0 [] 0 0 eJ h ?_
   rintro aa y y9 v8 h;rcases aa with _ | aa
   ·cases h
   rw [uP.eq_2] at h;refine goC h ?_ ?_<;>intro bd h
   ·refine noS ?_;refine kC (gP ?_);refine goL ?_;refine noB ?_
    refine gAg (fun(ac:Nat)(ae:Int)=>⟨[(1,.I a1),(2,.ptr 0 0),(5,.sl 1 v3),(6,.I q),(7,.sl 2 v8),(8,.I y9),(9,.I ae)],[bPr f,.arr 30 1 v3 (gW1 y2),.own 3 1 v8 (yC y)],Tryz.f223.ntmps⟩) (fun ac ae=>gAo (gG.mk f) y2 q y y9 (uP (gG.mk f) y2 q (fun y=>gd (y.length+[q].length≤4294967296) (
gd (y2.length+[(y++[q])].length≤4294967296) (
uQ (gG.mk f) a1 n0 n5 (y2++[(y++[q])]) (IntKind.i64.wrap (q+1))))) n0 aa (y++[y9]) (IntKind.i64.wrap (y9+1))) (uP (gG.mk f) y2 q (fun y=>gd (y.length+[q].length≤4294967296) (
gd (y2.length+[(y++[q])].length≤4294967296) (
uQ (gG.mk f) a1 n0 n5 (y2++[(y++[q])]) (IntKind.i64.wrap (q+1))))) n0 aa y (IntKind.i64.wrap (y9+1))) ac ae=some r) (fun ac ae=>ac) n0 0 eJ h ?_
    rintro ac ae h;rcases ac with _ | ac
    ·cases h
    rw [gAo.eq_2] at h;refine goL ?_;obtain⟨ax,ag,h⟩:=gK h;obtain⟨an,ag⟩:=yY ag;obtain⟨ay,a2,a3,a4,a5,a6⟩:=ax;refine gX (kY an (mX ag)) ?_;refine kN (fun ap=>?_) (fun ap=>?_)
    ·replace h:=jU ap h;refine noS ?_;refine kC (gP ?_);refine goL ?_;refine wC (kY an (mX ag)) ?_;refine goL ?_;obtain⟨a7,ao,h⟩:=gK h;obtain⟨aq,ao⟩:=yY ao;refine wC (kY aq (gN4 ao)) ?_;refine goL ?_;refine wC (gD (gKz (gG.mk f) a7)) ?_;refine goL ?_;obtain⟨a8,hb17,h⟩:=gK h;refine kG ⟨[(1,.I a1),(2,.ptr 0 0),(5,.sl 1 v3),(6,.I q),(7,.sl 2 v8),(8,.I y9),(9,.I ae),(67,.B a8)],[bPr f,.arr 30 1 v3 (gW1 y2),.own 3 1 v8 (yC y)],Tryz.f223.ntmps⟩ ?_ ?_
     ·refine gqA 55 hb17 (fun be hb17=>?_);refine gqA 60 hb17 (fun bf hb17=>?_);obtain⟨a9,ah,hb17⟩:=gK hb17;obtain⟨ar,ah⟩:=yY ah;refine uX (hM6 ar (List.getElem?_eq_some_iff.1 ah).1) ?_;refine gRx ?_;refine gC1 (hQk ah) ?_;refine gRx ?_;refine gX (gD (gX8 a9 y9)) ?_;cases hb17;exact eJ
     refine goC h ?_ ?_<;>intro bg h
     ·refine goL ?_;refine gAz y9 ?_;obtain⟨ba,h⟩:=mI h;refine gDj ba ?_;refine goL ?_;refine goX ?_;refine gX (pR) ?_;exact⟨aa,(y++[y9]),(IntKind.i64.wrap (y9+1)),(v8+1),h,Nat.lt_succ_self _,eJ⟩
     ·refine goS ?_;refine gX (pR) ?_;exact⟨ac,(IntKind.i64.wrap (ae+1)),h,Nat.lt_succ_self _,eJ⟩
    ·replace h:=jV ap h;refine goX ?_;refine gX (pR) ?_;exact⟨aa,y,(IntKind.i64.wrap (y9+1)),v8,h,Nat.lt_succ_self _,eJ⟩
   ·refine goX ?_;refine gAz q ?_;obtain⟨bb,h⟩:=mI h;refine gDj bb ?_;refine gS9 2 rfl rfl ?_;refine uN (u:=(.sl 1 (yC (y++[q])))) ?_;obtain⟨bc,h⟩:=mI h;refine vR bc ?_;refine goL ?_;refine gX (pR) ?_;exact⟨n5,(y2++[(y++[q])]),(IntKind.i64.wrap (q+1)),(v3+1),h,Nat.lt_succ_self _,eJ⟩
  ·refine goX ?_;obtain⟨bh,ai,h⟩:=gK h;obtain⟨au,ai⟩:=yY ai;refine uX (hM6 au (List.getElem?_eq_some_iff.1 ai).1) ?_;refine uX (hQk ai) ?_;exact goR h
def gSm(f:gG)(q:Int):Option (List Int):=gGc f q 5000
def gGd(y:kW)(f:Bool→Bool):List qX→Bool→Bool
 | [],q=>(f q)
 | aa::xs,q=>lt_ (cnd q (true) (aa.name==y.name)) fun ab=>
gGd y f xs ab
def gEn(a1:jF):List kW→Bool
 | []=>true
 | f::xs=>gGd f (fun q=>cnd (!q) (
false) (
gEn a1 xs )) a1.methods f.hasDefault
def gGe(f:mE)(a1:jF):List qX→Bool
 | []=>gEn a1 f.signatures
 | q::xs=>lt_ (gNe f q.name) fun y=>
lt_ (cnd (!y.2) (true) ((q.vars.length:Int) !=(IntKind.i64.wrap ((y.1.params.length:Int)+1)))) fun b6=>
(cnd b6 (
false) (
gGe f a1 xs ))
def gPn(f:mE)(a1:jF):Bool:=
gGe f a1 a1.methods
theorem hHe(a0:mE)(a1:jF):gW Tryz.prog 156 [.d (gF2 a0),.d (vY a1)] [.b (gPn a0 a1)]:=by
 obtain⟨r,h⟩:∃r,gPn a0 a1=r:=⟨_,rfl⟩
 rw [h];obtain⟨al,am,an,ao,ae⟩:=a0;obtain⟨ag,ah,⟨f,q,y⟩,ai,aj,ak,⟨aa,ab,ac⟩,ad⟩:=a1;unfold gPn at h;refine SpI Tryz.func156 fun A _=>?_;refine goL ?_;refine noB ?_;refine pG 1 11 (fun z2=>?_);refine kZ (fun(y1:Nat)=>⟨[(2,.ptr 0 0),(3,.ptr 1 0),(5,.N y1)],[bTr al am an ao ae,bIn ag ah f q y ai aj ak aa ab ac ad],Tryz.f156.ntmps⟩) (fun y1=>gGe (mE.mk al am an ao ae) (jF.mk ag ah (gF.mk f q y) ai aj ak (gF.mk aa ab ac) ad) (ad.drop y1)  =r) (fun y1=>ad.length - y1) 0 eJ h ?_;rintro y1 h;refine goL ?_;refine kN (fun c3=>?_) (fun c3=>?_)
 ·have aw:=qB c3;obtain⟨x4,cd,ce⟩:=drop_at aw;rw [ce,gGe.eq_2] at h;obtain⟨cf,c2,⟨cp,cq,cr,cs,⟨ca,cb,cc⟩,ct,cu⟩⟩:=x4;refine noS ?_;refine kC (gP ?_);refine sZ 1 ?_;refine goW ?_;refine kR (fun _=>gV y1 (gMi cd)) ?_;refine goW ?_;obtain⟨⟨⟨bq,br,⟨a5,a6,a7⟩,bt,bu,⟨a8,a9,ba,bb,⟨ar,au,av⟩,bc,bd⟩⟩,c4⟩,cw,h⟩:=pI h;have sx5:=gZg (mE.mk al am an ao ae) cf;rw [cw] at sx5;refine kR (fun _=>gD (sx5)) ?_;refine goW ?_;refine jY ?_;refine gCj ?_;obtain⟨b6,hb6,h⟩:=pI h;refine qN (P:=Tryz.prog) Mix.h ⟨[(2,.ptr 0 0),(3,.ptr 1 0),(5,.N y1),(44,.B b6)],[bTr al am an ao ae,bIn ag ah f q y ai aj ak aa ab ac ad,bSg bq br a5 a6 a7 bt bu a8 a9 ba bb ar au av bc bd],Tryz.f156.ntmps⟩ (by kernel_rfl) ?_ ?_
  ·refine goL ?_;refine qE 31 (fun c7=>?_) (fun c7=>?_) (by first | rfl | (simp only [jG,gQ];rfl))
   ·replace hb6:=jU c7 hb6;refine goL ?_;cases hb6;exact⟨rfl,⟨⟨rfl,rfl⟩,⟨rfl,rfl⟩,⟨rfl,rfl⟩,⟨by first | rfl | (simp only [jG,gQ];rfl),rfl⟩,trivial⟩,⟨_,rfl⟩,rfl⟩
   ·replace hb6:=jV c7 hb6;refine goL ?_;refine wN (gV y1 (gMi cd)) ?_;refine goL ?_;refine wN (pR) ?_;refine goL ?_;cases hb6;exact⟨rfl,⟨⟨rfl,rfl⟩,⟨rfl,rfl⟩,⟨rfl,rfl⟩,⟨by first | rfl | (simp only [jG,gQ];rfl),rfl⟩,trivial⟩,⟨_,rfl⟩,rfl⟩
  refine goC h ?_ ?_<;>intro c8 h
  ·refine goL ?_;refine jH ?_;subst h;exact mM
  ·refine goS ?_;refine gX (jK y1 (by omega)) ?_;exact⟨(y1+1),h,by omega,eJ⟩
 ·have aw:=qC c3;rw [gT aw,gGe.eq_1] at h;refine goX ?_;refine noB ?_;refine pG 0 4 (fun c9=>?_);refine kZ (fun(y9:Nat)=>⟨[(2,.ptr 0 0),(3,.ptr 1 0),(8,.N y9)],[bTr al am an ao ae,bIn ag ah f q y ai aj ak aa ab ac ad],Tryz.f156.ntmps⟩) (fun y9=>gEn (jF.mk ag ah (gF.mk f q y) ai aj ak (gF.mk aa ab ac) ad) (ae.drop y9)  =r) (fun y9=>ae.length - y9) 0 eJ h ?_;rintro y9 h;refine goL ?_;refine kN (fun bw=>?_) (fun bw=>?_)
  ·have ax:=qB bw;obtain⟨cy,bv,bx⟩:=drop_at ax;rw [bx,gEn.eq_2] at h;obtain⟨bz,b0,⟨bg,bh,bi⟩,bj,b1,⟨bk,bl,bm,bn,⟨ay,a2,a3⟩,bo,bp⟩⟩:=cy;refine noS ?_;refine kC (gP ?_);refine goL ?_;refine gX (gV y9 (vU bv)) ?_;refine noB ?_;refine pG 1 11 (fun da=>?_)
   refine gAg (fun(ap:Nat)(a4:Bool)=>⟨[(2,.ptr 0 0),(3,.ptr 1 0),(8,.N y9),(9,.B a4),(10,.N ap)],[bTr al am an ao ae,bIn ag ah f q y ai aj ak aa ab ac ad],Tryz.f156.ntmps⟩) (fun ap a4=>gGd (kW.mk bz b0 (gF.mk bg bh bi) bj b1 (gY.mk bk bl bm bn (gF.mk ay a2 a3) bo bp)) (fun a4=>cnd (!a4) (
false) (
gEn (jF.mk ag ah (gF.mk f q y) ai aj ak (gF.mk aa ab ac) ad) (ae.drop (y9+1)) )) (ad.drop ap) a4=r) (fun ap a4=>ad.length - ap) 0 bj eJ h ?_
   rintro ap a4 h;refine goL ?_;refine kN (fun b2=>?_) (fun b2=>?_)
   ·have aq:=qB b2;obtain⟨cz,cg,b3⟩:=drop_at aq;rw [b3,gGd.eq_2] at h;obtain⟨c0,c1,⟨ch,ci,cj,ck,⟨b4,b5,b7⟩,cl,cm⟩⟩:=cz;refine noS ?_;refine kC (gP ?_);obtain⟨cn,hb18,h⟩:=pI h;refine hEm (P:=Tryz.prog) Mix.h ⟨[(2,.ptr 0 0),(3,.ptr 1 0),(8,.N y9),(10,.N ap),(9,.B cn)],[bTr al am an ao ae,bIn ag ah f q y ai aj ak aa ab ac ad],Tryz.f156.ntmps⟩ (by kernel_rfl) ?_ ?_
    ·refine goL ?_;refine qE 66 (fun b8=>?_) (fun b8=>?_)
     ·replace hb18:=jU b8 hb18;refine goL ?_;cases hb18;exact eJ
     ·replace hb18:=jV b8 hb18;refine goL ?_;refine wN (gV ap (gMi cg)) ?_;refine goL ?_;refine wN (gV y9 (vU bv)) ?_;refine goL ?_;cases hb18;exact eJ
    refine goL ?_;refine gX (jK ap (by omega)) ?_;exact⟨(ap+1),cn,h,by omega,eJ⟩
   ·have aq:=qC b2;rw [gT aq,gGd.eq_1] at h;refine goX ?_;refine kN (fun b9=>?_) (fun b9=>?_)
    ·replace h:=jU b9 h;refine goL ?_;refine jH ?_;subst h;exact mM
    ·replace h:=jV b9 h;refine goS ?_;refine gX (jK y9 (by omega)) ?_;exact⟨(y9+1),h,by omega,eJ⟩
  ·have ax:=qC bw;rw [gT ax,gEn.eq_1] at h;refine goX ?_;refine jH ?_;subst h;exact mM
def gBf:List jL→LS→LS→LS→LS→Option (Bool)
 | [],q,y,y5,y7=>bnd (vD q) fun ac=>
bnd (cnd ac (bnd (vD y) fun ad=>
(cnd ad (bnd (vD y5) fun ae=>
(cnd ae (bnd (vD y7) fun ag=>
some ag) (some false))) (some false))) (some false)) fun ah=>
(some ah)
 | ai::xs,q,y,y5,y7=>bnd (gPs ai) fun f=>
gd (q.length+f.1.length≤4294967296) (
gd (y.length+f.2.1.length≤4294967296) (
gd (y5.length+f.2.2.1.length≤4294967296) (
gd (y7.length+f.2.2.2.length≤4294967296) (
gBf xs (q++f.1) (y++f.2.1) (y5++f.2.2.1) (y7++f.2.2.2)))))
def zO(f:gG):Option (Bool):=
gBf f.packages [] [] [] []
theorem gXo(a0:gG){r:Bool}(h:zO a0=some r):gW Tryz.prog 65 [.d (jX a0)] [.b r]:=by
 obtain⟨q⟩:=a0;unfold zO at h;refine SpI Tryz.func65 fun A _=>?_;refine goL ?_;refine noB ?_;refine hM4 9 1 3 ?_;show V _ _ _ _ _;refine hM4 9 1 4 ?_;show V _ _ _ _ _;refine hM4 9 1 5 ?_;show V _ _ _ _ _;refine hM4 9 1 6 ?_;show V _ _ _ _ _;refine pG 0 0 (fun bd=>?_);refine gW0 (fun(y:Nat)(y1:LS)(y3:LS)(y5:LS)(y7:LS)(v2:Nat)(v4:Nat)(v6:Nat)(v8:Nat)=>⟨[(1,.ptr 0 0),(3,.sl 1 v2),(4,.sl 2 v4),(5,.sl 3 v6),(6,.sl 4 v8),(7,.N y)],[bPr q,.own 9 1 v2 (kD y1),.own 9 1 v4 (kD y3),.own 9 1 v6 (kD y5),.own 9 1 v8 (kD y7)],Tryz.f65.ntmps⟩) (fun y y1 y3 y5 y7 v2 v4 v6 v8=>gBf (q.drop y) y1 y3 y5 y7=some r) (fun y y1 y3 y5 y7 v2 v4 v6 v8=>q.length - y) 0 [] [] [] [] 0 0 0 0 eJ h ?_;rintro y y1 y3 y5 y7 v2 v4 v6 v8 h;refine goL ?_;refine kN (fun aj=>?_) (fun aj=>?_)
 ·have f:=qB aj;obtain⟨ay,ap,ak⟩:=drop_at f;rw [ak,gBf.eq_2] at h;obtain⟨a2,a3,a4,a5,a6,a7⟩:=ay;refine noS ?_;refine kC (gP ?_);refine goL ?_;refine gX (gV y (mX ap)) ?_;obtain⟨⟨al,am,an,ao⟩,aq,h⟩:=gK h;refine gX (gD (gX7 _ aq)) ?_;obtain⟨a8,h⟩:=mI h;refine gDj a8 ?_;refine goL ?_;obtain⟨a9,h⟩:=mI h;refine gDj a9 ?_;refine goL ?_;obtain⟨ba,h⟩:=mI h;refine gDj ba ?_;refine goL ?_;obtain⟨bb,h⟩:=mI h;refine gDj bb ?_;refine goL ?_;refine gX (jK y (by omega)) ?_;exact⟨(y+1),(y1++al),(y3++am),(y5++an),(y7++ao),(v2+1),(v4+1),(v6+1),(v8+1),h,by omega,eJ⟩
 ·have f:=qC aj;rw [gT f,gBf.eq_1] at h;refine goX ?_;obtain⟨be,ar,h⟩:=gK h;refine gC1 (gUn (wO y1 ar)) ?_;obtain⟨bc,hb19,h⟩:=gK h;refine kG ⟨[(2,.B bc)],[bPr q,.own 9 1 v2 (kD y1),.own 9 1 v4 (kD y3),.own 9 1 v6 (kD y5),.own 9 1 v8 (kD y7)],Tryz.f65.ntmps⟩ ?_ ?_
  ·refine gqA 44 hb19 (fun bf hb19=>?_);obtain⟨bg,au,hb19⟩:=gK hb19;refine gC1 (gUn (wO y3 au)) ?_;refine gqA 48 hb19 (fun bh hb19=>?_);obtain⟨bi,av,hb19⟩:=gK hb19;refine gC1 (gUn (wO y5 av)) ?_;refine gqA 52 hb19 (fun bj hb19=>?_);obtain⟨bk,aw,hb19⟩:=gK hb19;refine gC1 (gUn (wO y7 aw)) ?_;cases hb19;exact eJ
  exact goR h
def gIt(f:gY→Option (gH)):List gY→(List gH)→Option (LB × List gH)
 | [],q=>(some ([],q))
 | x6::xs,q=>bnd (f x6) fun y=>
gd (q.length+[y].length≤4294967296) (
gIt f xs (q++[y]))
def gVd(q:(List gH)→(List gY)→Option (LB × List gH))(f:gY→Option (gH))(y:List gH)(list:List gY):Option (LB × List gH):=
gIt f list y
def gVe(f:(List gH)→(List gY)→Option (LB × List gH)):Prop:=∀(y:List gH)(x1:List gY)(q:Nat){r:LB × List gH},f y x1=some r→Go.Eng.Spec Tryz.prog 276 [.sl 0 q,.L 9 (vP x1)] [.arr 148 2 q (kE y)] (fun sv Lo=>sv=.ag [.S r.1,.sl 0 (q+1)]∧Lo=[.arr 148 2 (q+1) (kE r.2)])
def gYs(f:gY→Option (gH)):Prop:=∀(q:gY){r:gH},f q=some r→gW Tryz.prog 255 [.d (vX q)] [qL r]
theorem hI8{q}{f}(ab:gVe q)(y:gYs f)(l0:List gH)(list:List gY)(v0:Nat){r:LB × List gH}(h:gVd q f l0 list=some r):Go.Eng.Spec Tryz.prog 276 [.sl 0 v0,.L 9 (vP list)] [.arr 148 2 v0 (kE l0)] (fun sv Lo=>sv=.ag [.S r.1,.sl 0 (v0+1)]∧Lo=[.arr 148 2 (v0+1) (kE r.2)]):=by
 unfold gVd at h;refine Spec.verF (g:=fun v'=>.ag [.S r.1,.sl 0 v']) ?_ (fun _ _ _ _ _ hh=>hXa hh);refine pK 1 Tryz.func276 rfl (by kernel_rfl) rfl rfl fun A _=>?_;refine goL ?_;refine gC1 (jI TBd.h TZ.h rfl (by repeat constructor)) ?_;refine noB ?_;refine gB0 1 (fun z4=>?_);refine kQ (fun(y3:Nat)(y1:List gH)(v2:Nat)=>⟨[(1,.L 9 (vP list)),(4,.ptr 1 0),(5,.ptr 2 0),(6,.N y3)],[.arr 148 2 v2 (kE y1),.box [.S [],.nilsl],.box [.S [],.sl 0 v2]],Tryz.f276.ntmps⟩) (fun y3 y1 v2=>gIt f (list.drop y3) y1=some r) (fun y3 y1 v2=>list.length - y3) 0 l0 v0 eJ h ?_;rintro y3 y1 v2 h;refine goL ?_;refine kN (fun c5=>?_) (fun c5=>?_)
 ·have aa:=qB c5;obtain⟨x6,aq,ak⟩:=drop_at aa;rw [ak,gIt.eq_2] at h;obtain⟨au,av,aw,ax,⟨al,am,an⟩,ay,a0⟩:=x6;refine noS ?_;refine kC (gP ?_);refine gMh (P:=Tryz.prog) Mix.h [(0,true),(1,true),(2,true),(3,true),(4,true),(5,true),(6,true),(7,false),(8,false),(9,true),(10,false)] (by kernel_rfl) ?_;refine goY ?_;refine zL rfl (gV y3 (gO4 aq)) ?_;refine goY ?_;obtain⟨⟨ae,ah⟩,ar,h⟩:=gK h;refine zL rfl (gD (y _ ar)) ?_;refine gN3 (T:=146) (us:=kE [(gH.mk ae ah)]) ?_;obtain⟨g8,h⟩:=mI h;refine hGh (T:=146) g8 ?_;refine goY ?_;refine gD5 ?_;refine goL ?_;refine gX (jK y3 (by omega)) ?_;exact⟨(y3+1),(y1++[(gH.mk ae ah)]),(v2+1),h,by omega,eJ⟩
 ·have aa:=qC c5;rw [gT aa,gIt.eq_1] at h;refine goX ?_;refine jH ?_;obtain rfl:=Option.some.inj h;exact gHr [.ag [.S [],.sl 0 v2]] _ ⟨v2,rfl,rfl⟩
def gMo(f:gY→Option (gH))(ad:LB × List gH):List gJs→(List gH)→Option (gH)
 | [],q=>(some (gH.mk ad.1 q))
 | ab::xs,q=>lt_ (mZ ab.constructor) fun y=>
bnd (gRv ab.vars) fun aa=>
gd ([y].length+aa.length≤4294967296) (
bnd (f ab.body) fun ac=>
gd (([y]++aa).length+[ac].length≤4294967296) (
gd (q.length+[(gH.mk [] (([y]++aa)++[ac]))].length≤4294967296) (
gMo f ad xs (q++[(gH.mk [] (([y]++aa)++[ac]))]))))
def hDg(f:(List gH)→(List gY)→Option (LB × List gH))(y:gY→Option (gH))(q:gY):Option (gH):=
(cnd (q.kind==1) (
gd (gK9 q.n) (lt_ (mZ (Lib.itoa q.n)) fun x3=>
some x3)) (cnd (q.kind==2) (
bnd (at? [[102,97,108,115,101],[116,114,117,101]] q.n) fun x5=>
lt_ (mZ x5) fun x6=>
some x6) (cnd (q.kind==3) (
lt_ (mZ q.name) fun x8=>
some x8) (cnd (q.kind==4) (
lt_ (mZ [99,97,108,108]) fun ak=>
lt_ (mZ q.name) fun al=>
bnd (f [ak,al] q.args) fun aa=>
some (gH.mk aa.1 aa.2)) (cnd (q.kind==5) (
lt_ (mZ [109,101,116,104,111,100]) fun am=>
lt_ (mZ q.trait) fun an=>
lt_ (mZ q.name) fun ao=>
bnd (f [am,an,ao] q.args) fun ab=>
some (gH.mk ab.1 ab.2)) (cnd (q.kind==6) (
lt_ (mZ [110,101,119]) fun ap=>
lt_ (mZ q.name) fun aq=>
bnd (f [ap,aq] q.args) fun ac=>
some (gH.mk ac.1 ac.2)) (cnd (q.kind==8) (
lt_ (mZ [108,101,116]) fun ar=>
lt_ (mZ q.name) fun au=>
bnd (f [ar,au] q.args) fun ad=>
some (gH.mk ad.1 ad.2)) (cnd (q.kind==9) (
lt_ (mZ [105,102]) fun av=>
bnd (f [av] q.args) fun ae=>
some (gH.mk ae.1 ae.2)) (cnd (q.kind==10) (
lt_ (mZ q.name) fun aw=>
bnd (f [aw] q.args) fun ag=>
some (gH.mk ag.1 ag.2)) (cnd (q.kind==11) (
lt_ (mZ [112,97,99,107]) fun ax=>
lt_ (mZ q.trait) fun ay=>
bnd (f [ax,ay] q.args) fun ah=>
some (gH.mk ah.1 ah.2)) (cnd (q.kind==12) (
lt_ (mZ [116,104,101]) fun a2=>
bnd (gQd 5000 q.type_) fun a3=>
bnd (f [a2,a3] q.args) fun ai=>
some (gH.mk ai.1 ai.2)) (
lt_ (mZ [99,97,115,101]) fun a4=>
bnd (f [a4] q.args) fun aj=>
gMo y aj q.arms aj.2))))))))))))
theorem hS9{al}{ak}(f:gVe al)(au:gYs ak)(a0:gY){r:gH}(h:hDg al ak a0=some r):gW Tryz.prog 255 [.d (vX a0)] [qL r]:=by
 obtain⟨aj,ae,ad,ah,⟨aa,ab,ac⟩,y,ai⟩:=a0;unfold hDg at h;refine SpI Tryz.func255 fun A _=>?_;refine goL ?_;refine gP ?_;refine goC h ?_ ?_<;>intro c1 h
 ·refine goL ?_;obtain⟨g2,h⟩:=mI h;refine pX (gD (gOa ah g2)) ?_;obtain⟨⟨d2,d3⟩,du,h⟩:=pI h;have sx3:=pO (Lib.itoa ah);rw [du] at sx3;refine pX (gD (sx3)) ?_;exact goR h
 ·refine goC h ?_ ?_<;>intro c4 h
  ·refine goL ?_;refine gPb (us:=kD [[102,97,108,115,101],[116,114,117,101]]) ?_;refine goL ?_;obtain⟨x5,b1,h⟩:=gK h;obtain⟨co,b1⟩:=yY b1;refine uX (hM6 co (List.getElem?_eq_some_iff.1 b1).1) ?_;refine uX (hQk b1) ?_;obtain⟨⟨d4,d5⟩,dv,h⟩:=pI h;have sx6:=pO x5;rw [dv] at sx6;refine pX (gD (sx6)) ?_;exact goR h
  ·refine goC h ?_ ?_<;>intro c7 h
   ·refine goL ?_;obtain⟨⟨d6,d7⟩,dw,h⟩:=pI h;have sx8:=pO ad;rw [dw] at sx8;refine pX (gD (sx8)) ?_;exact goR h
   ·refine goC h ?_ ?_<;>intro c9 h
    ·refine yA (P:=Tryz.prog) Mix.h [(0,true),(1,true),(2,true),(3,true),(5,true),(6,true),(4,false),(7,false),(8,false)] (by kernel_rfl) ?_;obtain⟨⟨a4,a5⟩,cp,h⟩:=pI h;have sx10:=pO [99,97,108,108];rw [cp] at sx10;refine zL rfl (gD (sx10)) ?_;refine goY ?_;obtain⟨⟨a6,a7⟩,cq,h⟩:=pI h;have sx11:=pO ad;rw [cq] at sx11;refine zL rfl (gD (sx11)) ?_;refine goY ?_;refine gN3 (T:=146) (us:=kE [(gH.mk a4 a5),(gH.mk a6 a7)]) ?_;obtain⟨⟨b2,b3⟩,cr,h⟩:=gK h;refine gPc (sv:=.ag [.S b2,.sl 2 (0+1)]) (L':=[bEx aj ae ad ah aa ab ac y ai,.box [.S [],.nilsl],.arr 148 2 (0+1) (kE b3)]) [2] (f [(gH.mk a4 a5),(gH.mk a6 a7)] y 0 cr) ?_;refine goY ?_;refine gD5 ?_;refine goL ?_;refine jS 2 rfl rfl ?_;refine jH ?_;cases h;exact mM
    ·refine goC h ?_ ?_<;>intro ea h
     ·refine yA (P:=Tryz.prog) Mix.h [(0,true),(1,true),(2,true),(3,true),(4,true),(5,true),(6,true),(8,true),(9,true),(7,false),(10,false),(11,false)] (by kernel_rfl) ?_;obtain⟨⟨a8,a9⟩,cs,h⟩:=pI h;have sx14:=pO [109,101,116,104,111,100];rw [cs] at sx14;refine zL rfl (gD (sx14)) ?_;refine goY ?_;obtain⟨⟨ba,bb⟩,ct,h⟩:=pI h;have sx15:=pO ae;rw [ct] at sx15;refine zL rfl (gD (sx15)) ?_;refine goY ?_;obtain⟨⟨bc,bd⟩,cu,h⟩:=pI h;have sx16:=pO ad;rw [cu] at sx16;refine zL rfl (gD (sx16)) ?_;refine goY ?_;refine gN3 (T:=146) (us:=kE [(gH.mk a8 a9),(gH.mk ba bb),(gH.mk bc bd)]) ?_;obtain⟨⟨b4,b5⟩,cv,h⟩:=gK h;refine gPc (sv:=.ag [.S b4,.sl 2 (0+1)]) (L':=[bEx aj ae ad ah aa ab ac y ai,.box [.S [],.nilsl],.arr 148 2 (0+1) (kE b5)]) [2] (f [(gH.mk a8 a9),(gH.mk ba bb),(gH.mk bc bd)] y 0 cv) ?_;refine goY ?_;refine gD5 ?_;refine goL ?_;refine jS 2 rfl rfl ?_;refine jH ?_;cases h;exact mM
     ·refine goC h ?_ ?_<;>intro eb h
      ·refine yA (P:=Tryz.prog) Mix.h [(0,true),(1,true),(2,true),(3,true),(5,true),(6,true),(4,false),(7,false),(8,false)] (by kernel_rfl) ?_;obtain⟨⟨be,bf⟩,cw,h⟩:=pI h;have sx19:=pO [110,101,119];rw [cw] at sx19;refine zL rfl (gD (sx19)) ?_;refine goY ?_;obtain⟨⟨bg,bh⟩,cx,h⟩:=pI h;have sx20:=pO ad;rw [cx] at sx20;refine zL rfl (gD (sx20)) ?_;refine goY ?_;refine gN3 (T:=146) (us:=kE [(gH.mk be bf),(gH.mk bg bh)]) ?_;obtain⟨⟨b6,b7⟩,cy,h⟩:=gK h;refine gPc (sv:=.ag [.S b6,.sl 2 (0+1)]) (L':=[bEx aj ae ad ah aa ab ac y ai,.box [.S [],.nilsl],.arr 148 2 (0+1) (kE b7)]) [2] (f [(gH.mk be bf),(gH.mk bg bh)] y 0 cy) ?_;refine goY ?_;refine gD5 ?_;refine goL ?_;refine jS 2 rfl rfl ?_;refine jH ?_;cases h;exact mM
      ·refine goC h ?_ ?_<;>intro ec h
       ·refine yA (P:=Tryz.prog) Mix.h [(0,true),(1,true),(2,true),(3,true),(5,true),(6,true),(4,false),(7,false),(8,false)] (by kernel_rfl) ?_;obtain⟨⟨bi,bj⟩,cz,h⟩:=pI h;have sx23:=pO [108,101,116];rw [cz] at sx23;refine zL rfl (gD (sx23)) ?_;refine goY ?_;obtain⟨⟨bk,bl⟩,c0,h⟩:=pI h;have sx24:=pO ad;rw [c0] at sx24;refine zL rfl (gD (sx24)) ?_;refine goY ?_;refine gN3 (T:=146) (us:=kE [(gH.mk bi bj),(gH.mk bk bl)]) ?_;obtain⟨⟨b8,b9⟩,c2,h⟩:=gK h;refine gPc (sv:=.ag [.S b8,.sl 2 (0+1)]) (L':=[bEx aj ae ad ah aa ab ac y ai,.box [.S [],.nilsl],.arr 148 2 (0+1) (kE b9)]) [2] (f [(gH.mk bi bj),(gH.mk bk bl)] y 0 c2) ?_;refine goY ?_;refine gD5 ?_;refine goL ?_;refine jS 2 rfl rfl ?_;refine jH ?_;cases h;exact mM
       ·refine goC h ?_ ?_<;>intro ed h
        ·refine yA (P:=Tryz.prog) Mix.h [(0,true),(2,true),(3,true),(1,false),(4,false),(5,false)] (by kernel_rfl) ?_;obtain⟨⟨bm,bn⟩,c3,h⟩:=pI h;have sx27:=pO [105,102];rw [c3] at sx27;refine zL rfl (gD (sx27)) ?_;refine goY ?_;refine gN3 (T:=146) (us:=kE [(gH.mk bm bn)]) ?_;obtain⟨⟨ca,cb⟩,c5,h⟩:=gK h;refine gPc (sv:=.ag [.S ca,.sl 2 (0+1)]) (L':=[bEx aj ae ad ah aa ab ac y ai,.box [.S [],.nilsl],.arr 148 2 (0+1) (kE cb)]) [2] (f [(gH.mk bm bn)] y 0 c5) ?_;refine goY ?_;refine gD5 ?_;refine goL ?_;refine jS 2 rfl rfl ?_;refine jH ?_;cases h;exact mM
        ·refine goC h ?_ ?_<;>intro ee h
         ·refine yA (P:=Tryz.prog) Mix.h [(0,true),(1,true),(2,true),(4,true),(5,true),(3,false),(6,false),(7,false)] (by kernel_rfl) ?_;refine goY ?_;obtain⟨⟨bo,bp⟩,c6,h⟩:=pI h;have sx30:=pO ad;rw [c6] at sx30;refine zL rfl (gD (sx30)) ?_;refine goY ?_;refine gN3 (T:=146) (us:=kE [(gH.mk bo bp)]) ?_;obtain⟨⟨cc,cd⟩,c8,h⟩:=gK h;refine gPc (sv:=.ag [.S cc,.sl 2 (0+1)]) (L':=[bEx aj ae ad ah aa ab ac y ai,.box [.S [],.nilsl],.arr 148 2 (0+1) (kE cd)]) [2] (f [(gH.mk bo bp)] y 0 c8) ?_;refine goY ?_;refine gD5 ?_;refine goL ?_;refine jS 2 rfl rfl ?_;refine jH ?_;cases h;exact mM
         ·refine goC h ?_ ?_<;>intro ef h
          ·refine yA (P:=Tryz.prog) Mix.h [(0,true),(1,true),(2,true),(3,true),(5,true),(6,true),(4,false),(7,false),(8,false)] (by kernel_rfl) ?_;obtain⟨⟨bq,br⟩,da,h⟩:=pI h;have sx33:=pO [112,97,99,107];rw [da] at sx33;refine zL rfl (gD (sx33)) ?_;refine goY ?_;obtain⟨⟨bt,bu⟩,db,h⟩:=pI h;have sx34:=pO ae;rw [db] at sx34;refine zL rfl (gD (sx34)) ?_;refine goY ?_;refine gN3 (T:=146) (us:=kE [(gH.mk bq br),(gH.mk bt bu)]) ?_;obtain⟨⟨ce,cf⟩,dc,h⟩:=gK h;refine gPc (sv:=.ag [.S ce,.sl 2 (0+1)]) (L':=[bEx aj ae ad ah aa ab ac y ai,.box [.S [],.nilsl],.arr 148 2 (0+1) (kE cf)]) [2] (f [(gH.mk bq br),(gH.mk bt bu)] y 0 dc) ?_;refine goY ?_;refine gD5 ?_;refine goL ?_;refine jS 2 rfl rfl ?_;refine jH ?_;cases h;exact mM
          ·refine goC h ?_ ?_<;>intro eg h
           ·refine yA (P:=Tryz.prog) Mix.h [(0,true),(1,true),(2,true),(3,true),(5,true),(6,true),(4,false),(7,false),(8,false)] (by kernel_rfl) ?_;obtain⟨⟨bv,bw⟩,dd,h⟩:=pI h;have sx37:=pO [116,104,101];rw [dd] at sx37;refine zL rfl (gD (sx37)) ?_;refine goY ?_;obtain⟨⟨bx,bz⟩,de,h⟩:=gK h;refine zL rfl (gD (gTo _ _ de)) ?_;refine goY ?_;refine gN3 (T:=146) (us:=kE [(gH.mk bv bw),(gH.mk bx bz)]) ?_;obtain⟨⟨cg,ch⟩,df,h⟩:=gK h;refine gPc (sv:=.ag [.S cg,.sl 2 (0+1)]) (L':=[bEx aj ae ad ah aa ab ac y ai,.box [.S [],.nilsl],.arr 148 2 (0+1) (kE ch)]) [2] (f [(gH.mk bv bw),(gH.mk bx bz)] y 0 df) ?_;refine goY ?_;refine gD5 ?_;refine goL ?_;refine jS 2 rfl rfl ?_;refine jH ?_;cases h;exact mM
           ·refine noS ?_;obtain⟨⟨ao,ap⟩,dg,h⟩:=pI h;have sx40:=pO [99,97,115,101];rw [dg] at sx40;obtain⟨⟨am,an⟩,b0,h⟩:=gK h;refine gL3 (P:=Tryz.prog) Mix.h (.q 0 (.q 2 (.q 3 (.h 1 (.h 4 (hcT 5 (hzT 6)) (hcT 5 (hcT 4 (hzT 6)))) (hcT 5 (hcT 1 (hcT 4 (hzT 6)))))))) ⟨[(1,.ptr 0 0),(2,.ptr 1 0),(3,.ptr 3 0)],[bEx aj ae ad ah aa ab ac y ai,.box [.S [],.nilsl],.arr 148 2 (0+1) (kE an),.box [.S am,.sl 2 (0+1)]],Tryz.f255.ntmps⟩ (by kernel_rfl) ?_ ?_
            ·refine hGg (zL rfl (gD (sx40)) gQh) ?_;refine goT ?_;refine hSa (gN3 (T:=146) (us:=kE [(gH.mk ao ap)]) gQh) ?_ ?_
             ·refine hSa (gPc (sv:=.ag [.S am,.sl 2 (0+1)]) (L':=[bEx aj ae ad ah aa ab ac y ai,.box [.S [],.nilsl],.arr 148 2 (0+1) (kE an)]) [2] (f [(gH.mk ao ap)] y 0 b0) gQh) ?_ ?_
              ·refine goT ?_;refine gPa ?_;exact hIu 0 [0,1,2,3]
              refine goT ?_;refine gWw (gPc (sv:=.ag [.S am,.sl 2 (0+1)]) (L':=[bEx aj ae ad ah aa ab ac y ai,.box [.S [],.nilsl],.arr 148 2 (0+1) (kE an),.box [.S [],.nilsl]]) [2] (f [(gH.mk ao ap)] y 0 b0) gQh) ?_;refine goT ?_;refine gPa ?_;exact hIu 0 [0,1,2,3]
             refine goT ?_;refine gWw (gN3 (T:=146) (us:=kE [(gH.mk ao ap)]) gQh) ?_;refine gWw (gPc (sv:=.ag [.S am,.sl 3 (0+1)]) (L':=[bEx aj ae ad ah aa ab ac y ai,.box [.S [],.nilsl],.box [.S [],.nilsl],.arr 148 2 (0+1) (kE an)]) [3] (f [(gH.mk ao ap)] y 0 b0) gQh) ?_;refine goT ?_;refine gPa ?_;exact hIu 0 [0,1,3,2]
            refine goL ?_;refine noB ?_;refine pG 0 8 (fun eh=>?_);refine kQ (fun(aq:Nat)(a2:List gH)(a3:Nat)=>⟨[(1,.ptr 0 0),(2,.ptr 1 0),(3,.ptr 3 0),(4,.N aq)],[bEx aj ae ad ah aa ab ac y ai,.box [.S [],.nilsl],.arr 148 2 a3 (kE a2),.box [.S am,.sl 2 a3]],Tryz.f255.ntmps⟩) (fun aq a2 a3=>gMo ak (am,an) (ai.drop aq) a2=some r) (fun aq a2 a3=>ai.length - aq) 0 an (0+1) eJ h ?_;rintro aq a2 a3 h;refine goL ?_;refine kN (fun ci=>?_) (fun ci=>?_)
            ·have ar:=qB ci;obtain⟨dx,dh,cj⟩:=drop_at ar;rw [cj,gMo.eq_2] at h;obtain⟨ck,dy,⟨di,dj,dk,dl,⟨cl,cm,cn⟩,dm,dn⟩⟩:=dx;refine noS ?_;refine kC (gP ?_);refine goL ?_;refine pX (gV aq (gYd dh)) ?_;refine gCj ?_;refine yA (P:=Tryz.prog) Mix.h [(0,true),(1,true),(2,true),(4,true),(5,true),(6,true),(3,false),(7,false),(8,true)] (by kernel_rfl) ?_;refine goY ?_;obtain⟨⟨av,aw⟩,dp,h⟩:=pI h;have sx48:=pO ck;rw [dp] at sx48;refine zL rfl (gD (sx48)) ?_;refine goY ?_;obtain⟨dq,dr,h⟩:=gK h;refine zL rfl (gD (hB6 _ dr)) ?_;refine gN3 (T:=146) (us:=kE [(gH.mk av aw)]) ?_;obtain⟨dz,h⟩:=mI h;refine hGh (T:=146) dz ?_;refine goY ?_;refine gD5 ?_;refine gCj ?_;refine gMh (P:=Tryz.prog) Mix.h [(0,true),(1,true),(2,true),(3,true),(4,true),(5,true),(6,false),(7,false),(8,true),(9,false),(10,false),(11,true),(12,false)] (by kernel_rfl) ?_;refine goY ?_;obtain⟨⟨ax,ay⟩,ds,h⟩:=gK h;refine zL rfl (gD (au _ ds)) ?_;refine gN3 (T:=146) (us:=kE [(gH.mk ax ay)]) ?_;obtain⟨d0,h⟩:=mI h;refine hGh (T:=146) d0 ?_;refine goY ?_;refine gWy 5 rfl rfl ?_;refine gN3 (T:=146) (us:=kE [(gH.mk [] (([(gH.mk av aw)]++dq)++[(gH.mk ax ay)]))]) ?_;obtain⟨d1,h⟩:=mI h;refine hGh (T:=146) d1 ?_;refine goY ?_;refine gD5 ?_;refine goL ?_;refine gX (jK aq (by omega)) ?_;exact⟨(aq+1),(a2++[(gH.mk [] (([(gH.mk av aw)]++dq)++[(gH.mk ax ay)]))]),(a3+1),h,by omega,eJ⟩
            ·have ar:=qC ci;rw [gT ar,gMo.eq_1] at h;refine goX ?_;refine jS 2 rfl rfl ?_;refine jH ?_;cases h;exact mM
mutual
def gVf:Nat→(List gH)→(List gY)→Option (LB × List gH)
 | 0,_,_=>none
 | n+1,f,q=>gVd (gVf n) (gQk n) f q
def gQk:Nat→gY→Option (gH)
 | 0,_=>none
 | n+1,f=>hDg (gVf n) (gQk n) f
end
theorem hHf:∀(n:Nat),gVe (gVf n)∧gYs (gQk n):=by
 intro n
 induction n with
 | zero=>exact⟨(by intro f q y r h;cases h),(by intro f r h;cases h)⟩
 | succ n ih=>
   obtain⟨ih0,ih1⟩:=ih;refine⟨(fun f q y r h=>hI8 ih0 ih1 f q y h),(fun f r h=>hS9 ih0 ih1 f h)⟩
theorem hDh:∀(n:Nat),gYs (gQk n):=fun n=>(hHf n).2
def gEw:List gH→(List gU)→Option (List gU)
 | [],f=>(some f)
 | q::xs,f=>bnd (uR q 0) fun y=>
bnd (uR q 1) fun x8=>
bnd (gQc 5000 x8) fun x9=>
gd (f.length+[(gU.mk y.atom x9)].length≤4294967296) (
gEw xs (f++[(gU.mk y.atom x9)]))
def gM1(f:gH):Option (List gU):=
gEw f.list []
theorem gVg(a0:gH){r:List gU}(h:gM1 a0=some r):gW Tryz.prog 203 [.d (qL a0)] [.sl 4 (kM r)]:=by
 obtain⟨ah,q⟩:=a0;unfold gM1 at h;refine SpI Tryz.func203 fun A _=>?_;refine goL ?_;refine qO ?_;refine goL ?_;refine noB ?_;refine pG 0 1 (fun z4=>?_);refine kQ (fun(y:Nat)(y1:List gU)(v2:Nat)=>⟨[(1,.ptr 0 0),(3,.sl 1 v2),(4,.N y)],[bSx ah q,.arr 110 4 v2 (kM y1)],Tryz.f203.ntmps⟩) (fun y y1 v2=>gEw (q.drop y) y1=some r) (fun y y1 v2=>q.length - y) 0 [] 0 eJ h ?_;rintro y y1 v2 h;refine goL ?_;refine kN (fun c5=>?_) (fun c5=>?_)
 ·have f:=qB c5;obtain⟨x6,ai,aj⟩:=drop_at f;rw [aj,gEw.eq_2] at h;obtain⟨aq,ar⟩:=x6;refine noS ?_;refine kC (gP ?_);refine dZ 0 ?_;refine goW ?_;refine kR (fun _=>gV y (vW ai)) ?_;refine goW ?_;obtain⟨⟨aa,au⟩,am,h⟩:=gK h;refine kR (fun _=>gD (vL _ _ am)) ?_;refine kR (fun _=>gL4) ?_;refine goW ?_;refine kR (fun _=>gV y (vW ai)) ?_;refine goW ?_;obtain⟨⟨av,aw⟩,an,h⟩:=gK h;refine kR (fun _=>gD (vL _ _ an)) ?_;obtain⟨⟨ab,ac,ad⟩,ao,h⟩:=gK h;refine kR (fun _=>gD (gTn _ _ ao)) ?_;refine goW ?_;refine uK (us:=kM [(gU.mk aa (gF.mk ab ac ad))]) ?_;obtain⟨ap,h⟩:=mI h;refine uL ap ?_;refine goW ?_;refine jY ?_;refine goL ?_;refine gX (jK y (by omega)) ?_;exact⟨(y+1),(y1++[(gU.mk aa (gF.mk ab ac ad))]),(v2+1),h,by omega,eJ⟩
 ·have f:=qC c5;rw [gT f,gEw.eq_1] at h;refine goX ?_;refine jS 1 rfl rfl ?_;refine jH ?_;cases h;exact mM
def gGf:List gU→(List gH)→Option (gH)
 | [],f=>(some (gH.mk [] f))
 | q::xs,f=>lt_ (mZ q.trait) fun x7=>
bnd (gQd 5000 q.type_) fun x8=>
bnd (gLz [x7,x8]) fun y=>
gd (f.length+[y].length≤4294967296) (
gGf xs (f++[y]))
def gPo(f:List gU):Option (gH):=
gGf f []
theorem gX2(a0:List gU){r:gH}(h:gPo a0=some r):gW Tryz.prog 257 [.L 4 (kM a0)] [qL r]:=by
 unfold gPo at h;refine SpI Tryz.func257 fun A _=>?_;refine goL ?_;refine gC1 (jI TBd.h TZ.h rfl (by repeat constructor)) ?_;refine noB ?_;refine uA 148 2 1 1 rfl rfl (by repeat constructor) (by repeat constructor) (by repeat constructor) (by repeat constructor) ?_;show V _ _ _ _ _;refine gB0 0 (fun z4=>?_);refine kQ (fun(q:Nat)(y1:List gH)(v2:Nat)=>⟨[(0,.L 4 (kM a0)),(2,.ptr 0 0),(3,.ptr 1 0),(4,.N q)],[.box [.S [],.nilsl],.box [.S [],.sl 2 v2],.arr 148 2 v2 (kE y1)],Tryz.f257.ntmps⟩) (fun q y1 v2=>gGf (a0.drop q) y1=some r) (fun q y1 v2=>a0.length - q) 0 [] 0 eJ h ?_;rintro q y1 v2 h;refine goL ?_;refine kN (fun c5=>?_) (fun c5=>?_)
 ·have f:=qB c5;obtain⟨x6,ae,ag⟩:=drop_at f;rw [ag,gGf.eq_2] at h;obtain⟨ah,⟨am,an,ao⟩⟩:=x6;refine noS ?_;refine kC (gP ?_);refine dZ 0 ?_;refine goW ?_;refine kR (fun _=>gV q (gF3 ae)) ?_;refine goW ?_;obtain⟨⟨ai,aj⟩,aq,h⟩:=pI h;have sx7:=pO ah;rw [aq] at sx7;refine kR (fun _=>gD (sx7)) ?_;refine goW ?_;refine kR (fun _=>gV q (gF3 ae)) ?_;refine goW ?_;obtain⟨⟨ak,al⟩,ar,h⟩:=gK h;refine kR (fun _=>gD (gTo _ _ ar)) ?_;refine uK (us:=kE [(gH.mk ai aj),(gH.mk ak al)]) ?_;obtain⟨⟨y,aa⟩,au,h⟩:=gK h;refine kR (fun _=>gD (gPw _ au)) ?_;refine uK (us:=kE [(gH.mk y aa)]) ?_;obtain⟨av,h⟩:=mI h;refine uL av ?_;refine goW ?_;refine jY ?_;refine goL ?_;refine gX (jK q (by omega)) ?_;exact⟨(q+1),(y1++[(gH.mk y aa)]),(v2+1),h,by omega,eJ⟩
 ·have f:=qC c5;rw [gT f,gGf.eq_1] at h;refine goX ?_;refine jS 2 rfl rfl ?_;refine jH ?_;cases h;exact mM
def gIh(c:kP):Option (LB × kP):=
bnd (gO0 c) fun f=>
bnd (gG4 f.2 5) fun q=>
(cnd q.1 (some (f.1,q.2)) (
gd (f.1.length+([10]:LB).length≤4294967296) (
bnd (gQ9 q.2) fun y=>
gd ((f.1++([10]:LB)).length+y.1.length≤4294967296) (some (((f.1++([10]:LB))++y.1),y.2)))))
theorem gXp(c:kP){r:LB × kP}(h:gIh c=some r):Go.Eng.Spec Tryz.prog 28 [.ptr 0 0] [bCu c.b c.i c.h] (fun sv Lo=>sv=.S r.1∧Lo=[bCu r.2.b r.2.i r.2.h]):=by
 obtain⟨aj,ak,al⟩:=c;unfold gIh at h;refine pK 1 Tryz.func28 rfl (by kernel_rfl) rfl rfl fun A _=>?_;refine goL ?_;obtain⟨⟨ad,⟨f,q,y⟩⟩,am,h⟩:=gK h;refine gCt 0 (hLs (kP.mk aj ak al) am) ?_;refine goL ?_;obtain⟨⟨ap,⟨aa,ab,ac⟩⟩,an,h⟩:=gK h;refine gCt 0 (gPt (kP.mk f q y) 5 an) ?_;refine goC h ?_ ?_<;>intro c3 h
 ·refine goL ?_;refine jH ?_;obtain rfl:=Option.some.inj h;exact gHr [.S ad] _ ⟨rfl,rfl⟩
 ·refine goS ?_;obtain⟨g4,h⟩:=mI h;refine gX (yS g4) ?_;obtain⟨⟨ae,⟨ag,ah,ai⟩⟩,ao,h⟩:=gK h;refine gCt 0 (hOy (kP.mk aa ab ac) ao) ?_;obtain⟨g6,h⟩:=mI h;refine gX (yS g6) ?_;refine jH ?_;obtain rfl:=Option.some.inj h;exact gHr [.d (.s ((ad++([10]:LB))++ae))] _ ⟨rfl,rfl⟩
def gFx(f:gG)(a1:Int)(q:Int):Option (Bool):=
bnd (gSm f a1) fun y=>
(some (gMr y q))
theorem gLn(f:gG)(a1:Int)(q:Int){r:Bool}(h:gFx f a1 q=some r):gW Tryz.prog 172 [.d (jX f),.I a1,.I q] [.b r]:=by
 obtain⟨aa⟩:=f;unfold gFx at h;refine SpI Tryz.func172 fun A _=>?_;refine goL ?_;obtain⟨x1,y,h⟩:=gK h;refine gX (gD (gRa _ _ y)) ?_;refine pX (gD (gX8 x1 q)) ?_;exact goR h
end Go.Proofs.YtfjncckelekpiaaGreat
