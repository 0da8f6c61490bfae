import Derived.Test.YtfjncckelekpiaaGreatB14
import Derived.Test.YtfjncckelekpiaaGreatB15
set_option maxHeartbeats 4000000
set_option linter.unusedVariables false
set_option linter.unusedSimpArgs false
set_option linter.unusedSectionVars false
namespace Go.Proofs.YtfjncckelekpiaaGreat
open Go Go.Eng
attribute [local irreducible] V VO VQ VY Quiet QR gW pJ Rng vF uW uI
def vC(f:gH):Option (Bool):=
bnd (gYx 5000 f 900) fun q=>
bnd (cnd (decide (q≥0)) (bnd (gYn 5000 f) fun y=>
(cnd y (bnd (gNm 5000 f) fun x6=>
some (decide (x6≤14))) (some false))) (some false)) fun b2=>
(some b2)
theorem gAj(y:gH){r:Bool}(h:vC y=some r):gW Tryz.prog 92 [.d (qL y)] [.b r]:=by
 obtain⟨f,q⟩:=y;unfold vC at h;refine SpI Tryz.func92 fun A _=>?_;refine goL ?_;obtain⟨x1,aa,h⟩:=gK h;refine gX (gD (hO5 _ _ _ aa)) ?_;obtain⟨b2,hb2,h⟩:=gK h;refine kG ⟨[(2,.B b2)],[bSx f q],Tryz.f92.ntmps⟩ ?_ ?_
 ·refine gqA 6 hb2 (fun c3 hb2=>?_);obtain⟨x4,ab,hb2⟩:=gK hb2;refine gX (gD (hOt _ _ ab)) ?_;refine gqA 10 hb2 (fun c5 hb2=>?_);obtain⟨x6,ac,hb2⟩:=gK hb2;refine gX (gD (gZm _ _ ac)) ?_;cases hb2;exact eJ
 exact goR h
def zY(f:LS)(a1:Int):Option (Bool):=
bnd (cnd (decide ((f.length:Int)≤a1)) (cnd (gN7 f) (bnd (vD f) fun q=>
some q) (some false)) (some false)) fun y=>
(some y)
theorem gBs(f:LS)(a1:Int){r:Bool}(h:zY f a1=some r):gW Tryz.prog 149 [.L 1 (kD f),.I a1] [.b r]:=by
 unfold zY at h;refine SpI Tryz.func149 fun A _=>?_;refine goL ?_;obtain⟨y,hb1,h⟩:=gK h;refine kG ⟨[(4,.B y)],[],Tryz.f149.ntmps⟩ ?_ ?_
 ·refine gqA 9 hb1 (fun c2 hb1=>?_);refine gX (gD (hA5 f)) ?_;refine gqA 13 hb1 (fun c3 hb1=>?_);obtain⟨x4,q,hb1⟩:=gK hb1;refine gX (gD (wO _ q)) ?_;cases hb1;exact eJ
 exact goR h
def zS(f:gF):Option (Bool):=
bnd (gY2 5000 f 60) fun q=>
bnd (cnd (decide (q≥0)) (bnd (gOv 5000 f) fun y=>
(cnd (decide (y≤6)) (bnd (gYr 5000 f) fun x6=>
some x6) (some false))) (some false)) fun b2=>
(some b2)
theorem gC3(a0:gF){r:Bool}(h:zS a0=some r):gW Tryz.prog 168 [.d (kT a0)] [.b r]:=by
 obtain⟨f,q,y⟩:=a0;unfold zS at h;refine SpI Tryz.func168 fun A _=>?_;refine goL ?_;obtain⟨x1,ab,h⟩:=gK h;refine gX (gD (hPa _ _ _ ab)) ?_;obtain⟨b2,hb2,h⟩:=gK h;refine kG ⟨[(2,.B b2)],[bTy f q y],Tryz.f168.ntmps⟩ ?_ ?_
 ·refine gqA 6 hb2 (fun c3 hb2=>?_);obtain⟨x4,ac,hb2⟩:=gK hb2;refine gX (gD (hBv _ _ ac)) ?_;refine gqA 11 hb2 (fun c5 hb2=>?_);obtain⟨x6,ad,hb2⟩:=gK hb2;refine gX (gD (hOx _ _ ad)) ?_;cases hb2;exact eJ
 exact goR h
def gF7(q:gG)(a1:Int)(y:LB):Option (mE × Bool):=
lt_ (uC q y) fun f=>
(cnd f.2.2 (
bnd (gFx q a1 f.2.1) fun x2=>
some (f.1,x2)) (some (f.1,false)))
theorem gKi(a0:gG)(a1:Int)(a2:LB){r:mE × Bool}(h:gF7 a0 a1 a2=some r):gW Tryz.prog 151 [.d (jX a0),.I a1,.S a2] [gF2 r.1,.b r.2]:=by
 obtain⟨f⟩:=a0;unfold gF7 at h;refine SpI Tryz.func151 fun A _=>?_;refine goL ?_;obtain⟨⟨⟨y,aa,ab,ac,ad⟩,aj,q⟩,ah,h⟩:=pI h;have sx1:=gDt (gG.mk f) a2;rw [ah] at sx1;refine pX (gD (sx1)) ?_;refine gCj ?_;cases q
 ·replace h:=jV rfl h;refine sZ 0 ?_;refine goW ?_;refine jY ?_;exact goR h
 ·replace h:=jU rfl h;refine sZ 0 ?_;refine goW ?_;obtain⟨x2,ai,h⟩:=gK h;refine hXe (fun _=>gD (gLn _ _ _ ai)) ?_;refine goW ?_;refine jY ?_;exact goR h
def gXc(q:gG)(a1:Int)(y:LB):Option (jW × Bool):=
lt_ (wQ q y) fun f=>
(cnd f.2.2 (
bnd (gFx q a1 f.2.1) fun x2=>
some (f.1,x2)) (some (f.1,false)))
theorem hN4(a0:gG)(a1:Int)(a2:LB){r:jW × Bool}(h:gXc a0 a1 a2=some r):gW Tryz.prog 263 [.d (jX a0),.I a1,.S a2] [gAf r.1,.b r.2]:=by
 obtain⟨f⟩:=a0;unfold gXc at h;refine SpI Tryz.func263 fun A _=>?_;refine goL ?_;obtain⟨⟨⟨y,aa,ab⟩,ah,q⟩,ae,h⟩:=pI h;have sx1:=gNd (gG.mk f) a2;rw [ae] at sx1;refine pX (gD (sx1)) ?_;refine gCj ?_;cases q
 ·replace h:=jV rfl h;refine sZ 0 ?_;refine goW ?_;refine jY ?_;exact goR h
 ·replace h:=jU rfl h;refine sZ 0 ?_;refine goW ?_;obtain⟨x2,ag,h⟩:=gK h;refine hXe (fun _=>gD (gLn _ _ _ ag)) ?_;refine goW ?_;refine jY ?_;exact goR h
def gSf(q:gG)(a1:Int)(y:LB):Option (jW × Int × Bool):=
lt_ (gDu q y) fun f=>
(cnd (!f.2.2) (some (f.1,f.2.1,false)) (
lt_ (wQ q f.1.name) fun x3=>
bnd (gFx q a1 x3.2.1) fun x4=>
some (f.1,f.2.1,x4)))
theorem hCx(a0:gG)(a1:Int)(a2:LB){r:jW × Int × Bool}(h:gSf a0 a1 a2=some r):gW Tryz.prog 173 [.d (jX a0),.I a1,.S a2] [gAf r.1,.i .i64 r.2.1,.b r.2.2]:=by
 obtain⟨q⟩:=a0;unfold gSf at h;refine SpI Tryz.func173 fun A _=>?_;refine goL ?_;obtain⟨⟨⟨f,y,aa⟩,al,am⟩,ah,h⟩:=pI h;have sx1:=gQr (gG.mk q) a2;rw [ah] at sx1;refine gX (gD (sx1)) ?_;refine kN (fun c2=>?_) (fun c2=>?_)
 ·replace h:=jU c2 h;exact goR h
 ·replace h:=jV c2 h;refine goS ?_;obtain⟨⟨⟨ab,ac,ad⟩,an,ao⟩,aj,h⟩:=pI h;have sx3:=gNd (gG.mk q) f;rw [aj] at sx3;refine pX (gD (sx3)) ?_;refine gCj ?_;refine sZ 0 ?_;refine goW ?_;obtain⟨x4,ak,h⟩:=gK h;refine kR (fun _=>gD (gLn _ _ _ ak)) ?_;refine goW ?_;refine jY ?_;exact goR h
def wK(q:gG)(f:Option (Bool)):List mE→Option (Bool)
 | []=>f
 | y::xs=>bnd (gEf q y.name) fun x9=>
(cnd (wM x9 y.name) (some false) (
wK q f xs ))
def uO(f:gG):List jL→Option (Bool)
 | []=>(some true)
 | q::xs=>wK f (uO f xs ) q.traits
def gEb(f:gG):Option (Bool):=
uO f f.packages
theorem gPf(a0:gG){r:Bool}(h:gEb a0=some r):gW Tryz.prog 66 [.d (jX a0)] [.b r]:=by
 obtain⟨f⟩:=a0;unfold gEb at h;refine SpI Tryz.func66 fun A _=>?_;refine goL ?_;refine noB ?_;refine pG 0 0 (fun z2=>?_);refine kZ (fun(y1:Nat)=>⟨[(1,.ptr 0 0),(3,.N y1)],[bPr f],Tryz.f66.ntmps⟩) (fun y1=>uO (gG.mk f) (f.drop y1)  =some r) (fun y1=>f.length - y1) 0 eJ h ?_;rintro y1 h;refine goL ?_;refine kN (fun c3=>?_) (fun c3=>?_)
 ·have q:=qB c3;obtain⟨x4,ad,ae⟩:=drop_at q;rw [ae,uO.eq_2] at h;obtain⟨an,ao,ac,ap,aq,ar⟩:=x4;refine noS ?_;refine kC (gP ?_);refine goL ?_;refine noB ?_;refine kZ (fun(y5:Nat)=>⟨[(1,.ptr 0 0),(3,.N y1),(4,.N y5)],[bPr f],Tryz.f66.ntmps⟩) (fun y5=>wK (gG.mk f) (uO (gG.mk f) (f.drop (y1+1)) ) (ac.drop y5)  =some r) (fun y5=>ac.length - y5) 0 eJ h ?_;rintro y5 h;refine goL ?_;refine gX (gV y1 (mX ad)) ?_;refine kN (fun c6=>?_) (fun c6=>?_)
  ·have y:=qB c6;refine gB0 18 (fun z7=>?_);obtain⟨x8,ag,ah⟩:=drop_at y;rw [ah,wK.eq_2] at h;obtain⟨ai,au,av,aw,ax⟩:=x8;refine noS ?_;refine kC (gP ?_);refine goL ?_;refine wC (gV y1 (mX ad)) ?_;refine goL ?_;refine wC (gV y5 (gLc ag)) ?_;refine goL ?_;obtain⟨x9,am,h⟩:=gK h;refine wC (gD (gMl _ _ am)) ?_;refine goL ?_;refine wC (gV y1 (mX ad)) ?_;refine goL ?_;refine wC (gV y5 (gLc ag)) ?_;refine goL ?_;refine wC (gD (gC5 x9 ai)) ?_;refine goC h ?_ ?_<;>intro a4 h
   ·exact goR h
   ·refine goS ?_;refine gX (jK y5 (by omega)) ?_;exact⟨(y5+1),h,by omega,eJ⟩
  ·have y:=qC c6;rw [gT y,wK.eq_1] at h;refine goX ?_;refine gX (jK y1 (by omega)) ?_;exact⟨(y1+1),h,by omega,eJ⟩
 ·have q:=qC c3;rw [gT q,uO.eq_1] at h;refine goX ?_;refine jH ?_;cases h;exact mM
def gQ4(f:List gF)(a1:List gF):Option (List gM × Bool):=
(cnd ((f.length:Int) !=(a1.length:Int)) (some ([],false)) (
bnd (gVb 5000 f a1 []) fun q=>
(cnd (!q.2) (some ([],false)) (
bnd (gUh q.1) fun y=>
some (y,true)))))
theorem hEv(f:List gF)(a1:List gF){r:List gM × Bool}(h:gQ4 f a1=some r):gW Tryz.prog 264 [.L 3 (jJ f),.L 3 (jJ a1)] [.sl 4 (jM r.1),.b r.2]:=by
 unfold gQ4 at h;refine SpI Tryz.func264 fun A _=>?_;refine goC h ?_ ?_<;>intro c1 h
 ·refine goL ?_;refine qO ?_;refine goL ?_;refine jS 0 rfl rfl ?_;refine jH ?_;cases h;exact mM
 ·refine goS ?_;refine qO ?_;refine qV 0 rfl rfl ?_;obtain⟨⟨ab,ac⟩,q,h⟩:=gK h;refine gC1 (hDc (hS8 5000 f a1 [] q)) ?_;refine kN (fun y=>?_) (fun y=>?_)
  ·replace h:=jU y h;refine goL ?_;refine qO ?_;refine goL ?_;refine jS 1 rfl rfl ?_;refine jH ?_;cases h;exact mM
  ·replace h:=jV y h;refine goS ?_;obtain⟨x4,aa,h⟩:=gK h;refine pX (gD (hFl _ aa)) ?_;exact goR h
def gEc(f:gG→(List jO)→gU→Int→Option (gN × Int))(a0:gG)(a1:List jO)(a3:Int)(x1:gI × Int)(x5:List gM × Bool):List gU→(List gN)→Option (gN × Int)
 | [],y6=>(some ((gN.mk 1 0 x1.1 y6),0))
 | y::xs,y6=>gd (bok x5.1∧tok y.type_) (lt_ (apT x5.1 y.type_) fun ac=>
bnd (f a0 a1 (gU.mk y.trait ac) (IntKind.i64.wrap (a3 - 1))) fun q=>
cnd (q.2 != 0) (some ((gN.mk 0 0 (gI.mk 0 0) []),q.2)) (
gd (y6.length+[q.1].length≤4294967296) (
gEc f a0 a1 a3 x1 x5 xs (y6++[q.1]))))
def gSg(q:gG→(List jO)→gU→Int→Option (gN × Int))(f:gG→(List jO)→gU→Int→Option (gN × Int))(a0:gG)(a1:List jO)(a2:gU)(a3:Int):Option (gN × Int):=
bnd (gBk a0 a2) fun y=>
(cnd (y.2 != 0) (some ((gN.mk 0 0 (gI.mk 0 0) []),y.2)) (
bnd (at? a0.packages y.1.package) fun x3=>
bnd (at? x3.instances y.1.at_) fun x4=>
bnd (gLl x4.head a2.type_) fun x5=>
gEc f a0 a1 a3 y x5 x4.where_ []))
def gXd(f:gG→(List jO)→gU→Int→Option (gN × Int)):Prop:=∀(q:gG)(y:List jO)(x2:gU)(x3:Int){r:gN × Int},f q y x2 x3=some r→gW Tryz.prog 84 [.d (jX q),.L 6 (mO y),.d (gCq x2),.I x3] [wS r.1,.i .i64 r.2]
def gP4(f:gG→(List jO)→gU→Int→Option (gN × Int)):Prop:=∀(q:gG)(y:List jO)(x2:gU)(x3:Int){r:gN × Int},f q y x2 x3=some r→gW Tryz.prog 55 [.d (jX q),.L 6 (mO y),.d (gCq x2),.I x3] [wS r.1,.i .i64 r.2]
theorem hN5{q}{f}(ao:gXd q)(y:gP4 f)(a0:gG)(a1:List jO)(a2:gU)(a3:Int){r:gN × Int}(h:gSg q f a0 a1 a2 a3=some r):gW Tryz.prog 84 [.d (jX a0),.L 6 (mO a1),.d (gCq a2),.I a3] [wS r.1,.i .i64 r.2]:=by
 obtain⟨a6⟩:=a0;obtain⟨be,⟨aq,ar,au⟩⟩:=a2;unfold gSg at h;refine SpI Tryz.func84 fun A _=>?_;refine goL ?_;obtain⟨⟨⟨ac,ad⟩,bf⟩,bu,h⟩:=gK h;refine gX (gD (gS0 _ _ bu)) ?_;refine kN (fun c2=>?_) (fun c2=>?_)
 ·replace h:=jU c2 h;refine goL ?_;refine uX (jI TBd.h TZ.h rfl (by repeat constructor)) ?_;exact goR h
 ·replace h:=jV c2 h;refine noS ?_;refine sZ 1 ?_;refine goW ?_;obtain⟨x3,a8,h⟩:=gK h;obtain⟨bg,a8⟩:=yY a8;obtain⟨b6,b7,b8,b9,ca,cb⟩:=x3;refine kR (fun _=>kY bg (mX a8)) ?_;refine goW ?_;obtain⟨x4,a9,h⟩:=gK h;obtain⟨bh,a9⟩:=yY a9;obtain⟨bi,bj,⟨av,aw,ax⟩,aj,bk,bl,⟨ay,a4,a5⟩,bm⟩:=x4;refine kR (fun _=>kY bh (gFf a9)) ?_;refine goW ?_;refine jY ?_;refine goL ?_;obtain⟨⟨ak,bn⟩,bw,h⟩:=gK h;refine gX (gD (gXn _ _ bw)) ?_;refine gC1 (jI TBd.h TZ.h rfl (by repeat constructor)) ?_;refine noB ?_;refine uA 106 5 5 4 rfl rfl (by repeat constructor) (by repeat constructor) (by repeat constructor) (by repeat constructor) ?_;show V _ _ _ _ _;refine pG 4 5 (fun z9=>?_);refine kQ (fun(y8:Nat)(y6:List gN)(v7:Nat)=>⟨[(1,.L 6 (mO a1)),(3,.I a3),(4,.ptr 0 0),(8,.ptr 2 0),(12,.ptr 4 0),(13,.L 4 (jM ak)),(15,.ptr 5 0),(16,.N y8)],[bPr a6,bBd be aq ar au,.box [.I 0,.I 0,.I 0,.I 0,.nilsl],.box [.I ac,.I ad],bIn bi bj av aw ax aj bk bl ay a4 a5 bm,.box [.I 1,.I 0,.I ac,.I ad,.sl 6 v7],.arr 106 5 v7 (mD y6)],Tryz.f84.ntmps⟩) (fun y8 y6 v7=>gEc f (gG.mk a6) a1 a3 ((gI.mk ac ad),bf) (ak,bn) (aj.drop y8) y6=some r) (fun y8 y6 v7=>aj.length - y8) 0 [] 0 eJ h ?_;rintro y8 y6 v7 h;refine goL ?_;refine kN (fun ba=>?_) (fun ba=>?_)
  ·have ai:=qB ba;obtain⟨bx,a7,bb⟩:=drop_at ai;rw [bb,gEc.eq_2] at h;obtain⟨bz,⟨al,am,an⟩⟩:=bx;refine noS ?_;refine kC (gP ?_);refine sZ 1 ?_;refine goW ?_;refine kR (fun _=>gV y8 (gF3 a7)) ?_;refine goW ?_;refine kR (fun _=>gV y8 (gF3 a7)) ?_;refine goW ?_;obtain⟨b0,h⟩:=mI h;obtain⟨⟨b1,b2,b3⟩,bo,h⟩:=pI h;have sx13:=(gDi ak (gF.mk al am an) b0).p;rw [bo] at sx13;refine kR (fun _=>gD (sx13)) ?_;refine goW ?_;refine kR (fun _=>pR) ?_;obtain⟨⟨⟨ae,ag,⟨aa,ab⟩,ah⟩,b4⟩,bp,h⟩:=gK h;refine kR (fun _=>gD (y _ _ _ _ bp)) ?_;refine goW ?_;refine jY ?_;refine goC h ?_ ?_<;>intro ce h
   ·refine goL ?_;refine uX (jI TBd.h TZ.h rfl (by repeat constructor)) ?_;exact goR h
   ·refine goS ?_;refine uN (u:=(.st [.i .i64 ae,.i .i64 ag,.st [.i .i64 aa,.i .i64 ab],.sl 5 (mD ah)])) ?_;obtain⟨b5,h⟩:=mI h;refine vR b5 ?_;refine goL ?_;refine gX (jK y8 (by omega)) ?_;exact⟨(y8+1),(y6++[(gN.mk ae ag (gI.mk aa ab) ah)]),(v7+1),h,by omega,eJ⟩
  ·have ai:=qC ba;rw [gT ai,gEc.eq_1] at h;refine goX ?_;refine jS 6 rfl rfl ?_;refine jH ?_;cases h;exact mM
def gM0(f:gG→(List jO)→gU→Int→Option (gN × Int))(y:gG→(List jO)→gU→Int→Option (gN × Int))(a0:gG)(a1:List jO)(q:gU)(a3:Int):Option (gN × Int):=
(cnd (decide ((mQ a1 q)≥0)) (
bnd (at? a1 (mQ a1 q)) fun x2=>
bnd (wX (gN.mk 2 x2.from_ (gI.mk 0 0) []) x2.steps) fun x3=>
some (x3,0)) (cnd (decide (a3≤0)) (some ((gN.mk 0 0 (gI.mk 0 0) []),3)) (
lt_ (uC a0 q.trait) fun x5=>
(cnd x5.1.auto (
bnd (gN9 5000 a0 a1 q []) fun x7=>
cnd (x7 != 0) (some ((gN.mk 0 0 (gI.mk 0 0) []),x7)) (some ((gN.mk 5 0 (gI.mk 0 0) []),0))) (
lt_ (cnd (q.type_.kind==1) (true) (q.type_.kind==3)) fun b9=>
(cnd b9 (some ((gN.mk 0 0 (gI.mk 0 0) []),1)) (cnd (q.type_.kind==4) (
bnd (zU a0 q.type_.name q.trait) fun ab=>
(cnd ab.2 (
bnd (wX (gN.mk 4 0 (gI.mk 0 0) []) ab.1) fun ag=>
some (ag,0)) (
bnd (f a0 a1 q a3) fun ac=>
some (ac.1,ac.2)))) (
bnd (f a0 a1 q a3) fun ad=>
some (ad.1,ad.2)))))))))
theorem hIo{y}{f}(q:gXd y)(ae:gP4 f)(a0:gG)(a1:List jO)(a2:gU)(a3:Int){r:gN × Int}(h:gM0 y f a0 a1 a2 a3=some r):gW Tryz.prog 55 [.d (jX a0),.L 6 (mO a1),.d (gCq a2),.I a3] [wS r.1,.i .i64 r.2]:=by
 obtain⟨ag⟩:=a0;obtain⟨ad,⟨aa,ab,ac⟩⟩:=a2;unfold gM0 at h;refine SpI Tryz.func55 fun A _=>?_;refine goL ?_;refine gX (gD (gH1 a1 (gU.mk ad (gF.mk aa ab ac)))) ?_;refine kN (fun c1=>?_) (fun c1=>?_)
 ·replace h:=jU c1 h;refine sZ 0 ?_;refine goW ?_;obtain⟨x2,ah,h⟩:=gK h;obtain⟨an,ah⟩:=yY ah;obtain⟨⟨bj,⟨ax,ay,a4⟩⟩,a5,a6⟩:=x2;refine kR (fun _=>kY an (gQ0 ah)) ?_;refine goW ?_;refine kR (fun _=>kY an (gQ0 ah)) ?_;refine goW ?_;obtain⟨⟨b4,b5,⟨bk,bl⟩,b6⟩,bq,h⟩:=gK h;refine kR (fun _=>gD ((gK6 (gN.mk 2 a5 (gI.mk 0 0) []) a6 bq).p)) ?_;refine goW ?_;refine jY ?_;exact goR h
 ·replace h:=jV c1 h;refine goS ?_;refine kN (fun c4=>?_) (fun c4=>?_)
  ·replace h:=jU c4 h;refine goL ?_;refine uX (jI TBd.h TZ.h rfl (by repeat constructor)) ?_;exact goR h
  ·replace h:=jV c4 h;refine goS ?_;obtain⟨⟨⟨ai,aj,ak,al,am⟩,b7,b8⟩,bt,h⟩:=pI h;have sx5:=gDt (gG.mk ag) ad;rw [bt] at sx5;refine gX (gD (sx5)) ?_;refine kN (fun c6=>?_) (fun c6=>?_)
   ·replace h:=jU c6 h;refine goL ?_;refine qO ?_;obtain⟨x7,bv,h⟩:=gK h;refine gC1 (gUn (hI6 5000 (gG.mk ag) a1 (gU.mk ad (gF.mk aa ab ac)) [] bv)) ?_;refine kN (fun c8=>?_) (fun c8=>?_)
    ·replace h:=jU c8 h;refine goL ?_;refine uX (jI TBd.h TZ.h rfl (by repeat constructor)) ?_;exact goR h
    ·replace h:=jV c8 h;refine goS ?_;refine uX (jI TBd.h TZ.h rfl (by repeat constructor)) ?_;exact goR h
   ·replace h:=jV c6 h;refine goS ?_;obtain⟨b9,hb9,h⟩:=pI h;refine kG ⟨[(1,.L 6 (mO a1)),(3,.I a3),(4,.ptr 0 0),(6,.ptr 1 0),(8,.ptr 2 0),(66,.B b9)],[bPr ag,bBd ad aa ab ac,.box [.I 0,.I 0,.I 0,.I 0,.nilsl],bTr ai aj ak al am],Tryz.f55.ntmps⟩ ?_ ?_
    ·exact gqZ 61 hb9
    refine goC h ?_ ?_<;>intro cc h
    ·refine goL ?_;refine uX (jI TBd.h TZ.h rfl (by repeat constructor)) ?_;exact goR h
    ·refine goS ?_;refine kN (fun ao=>?_) (fun ao=>?_)
     ·replace h:=jU ao h;refine goL ?_;obtain⟨⟨ap,bx⟩,a7,h⟩:=gK h;refine gX (gD (gMn _ _ _ a7)) ?_;refine kN (fun aq=>?_) (fun aq=>?_)
      ·replace h:=jU aq h;refine goL ?_;refine gC1 (jI TBd.h TZ.h rfl (by repeat constructor)) ?_;obtain⟨⟨bz,b0,⟨a8,a9⟩,b1⟩,ba,h⟩:=gK h;refine pX (gD ((gK6 (gN.mk 4 0 (gI.mk 0 0) []) ap ba).p)) ?_;exact goR h
      ·replace h:=jV aq h;refine goS ?_;obtain⟨⟨⟨bb,bc,⟨ar,au⟩,bd⟩,b2⟩,be,h⟩:=gK h;refine pX (gD (q _ _ _ _ be)) ?_;exact goR h
     ·replace h:=jV ao h;refine goS ?_;obtain⟨⟨⟨bf,bg,⟨av,aw⟩,bh⟩,b3⟩,bi,h⟩:=gK h;refine pX (gD (q _ _ _ _ bi)) ?_;exact goR h
mutual
def gPg:Nat→gG→(List jO)→gU→Int→Option (gN × Int)
 | 0,_,_,_,_=>none
 | n+1,f,q,y,x3=>gSg (gPg n) (gBt n) f q y x3
def gBt:Nat→gG→(List jO)→gU→Int→Option (gN × Int)
 | 0,_,_,_,_=>none
 | n+1,f,q,y,x3=>gM0 (gPg n) (gBt n) f q y x3
end
theorem hIp:∀(n:Nat),gXd (gPg n)∧gP4 (gBt n):=by
 intro n
 induction n with
 | zero=>exact⟨(by intro f q y x3 r h;cases h),(by intro f q y x3 r h;cases h)⟩
 | succ n ih=>
   obtain⟨ih0,ih1⟩:=ih;refine⟨(fun f q y x3 r h=>hN5 ih0 ih1 f q y x3 h),(fun f q y x3 r h=>hIo ih0 ih1 f q y x3 h)⟩
theorem hIq:∀(n:Nat),gP4 (gBt n):=fun n=>(hIp n).2
def gBu(a0:gG)(y3:Nat)(x6:gU)(q:(List jO)→Option (List jO)):LS→(List jO)→Option (List jO)
 | [],f=>(q f)
 | y::xs,f=>bnd (zU a0 x6.trait y) fun aa=>
gd (tok x6.type_) (lt_ (idT x6.type_) fun ab=>
gd (f.length+[(jO.mk (gU.mk y ab) (y3:Int) aa.1)].length≤4294967296) (
gBu a0 y3 x6 q xs (f++[(jO.mk (gU.mk y ab) (y3:Int) aa.1)])))
def zZ(a0:gG):List gU→Nat→(List jO)→Option (List jO)
 | [],q,y=>(some y)
 | f::xs,q,y=>gd (tok f.type_) (lt_ (idT f.type_) fun x8=>
gd (y.length+[(jO.mk (gU.mk f.trait x8) (q:Int) [])].length≤4294967296) (
bnd (gEf a0 f.trait) fun ab=>
gBu a0 q f (fun ac=>zZ a0 xs (q+1) ac) ab (y++[(jO.mk (gU.mk f.trait x8) (q:Int) [])])))
def gIp(f:gG)(a1:List gU):Option (List jO):=
zZ f a1 0 []
theorem gX0(a0:gG)(a1:List gU){r:List jO}(h:gIp a0 a1=some r):gW Tryz.prog 56 [.d (jX a0),.L 4 (kM a1)] [.sl 6 (mO r)]:=by
 obtain⟨ae⟩:=a0;unfold gIp at h;refine SpI Tryz.func56 fun A _=>?_;refine goL ?_;refine qO ?_;refine goL ?_;refine noB ?_;refine gB0 1 (fun z4=>?_);refine kQ (fun(f:Nat)(y1:List jO)(v2:Nat)=>⟨[(1,.L 4 (kM a1)),(2,.ptr 0 0),(5,.sl 1 v2),(6,.N f)],[bPr ae,.arr 180 6 v2 (mO y1)],Tryz.f56.ntmps⟩) (fun f y1 v2=>zZ (gG.mk ae) (a1.drop f) f y1=some r) (fun f y1 v2=>a1.length - f) 0 [] 0 eJ h ?_;rintro f y1 v2 h;refine goL ?_;refine kN (fun c5=>?_) (fun c5=>?_)
 ·have ag:=qB c5;obtain⟨x6,ai,a2⟩:=drop_at ag;rw [a2,zZ.eq_2] at h;obtain⟨aj,⟨y,aa,ab⟩⟩:=x6;refine noS ?_;refine kC (gP ?_);refine sZ 0 ?_;refine goW ?_;refine kR (fun _=>gV f (gF3 ai)) ?_;refine goW ?_;refine kR (fun _=>gV f (gF3 ai)) ?_;refine goW ?_;obtain⟨g7,h⟩:=mI h;obtain⟨⟨ao,ap,aq⟩,a9,h⟩:=pI h;have sx8:=(mR (gF.mk y aa ab) g7).p;rw [a9] at sx8;refine kR (fun _=>gD (sx8)) ?_;refine goW ?_;refine uK (us:=mO [(jO.mk (gU.mk aj (gF.mk ao ap aq)) (f:Int) [])]) ?_;obtain⟨g9,h⟩:=mI h;refine uL g9 ?_;refine goW ?_;refine jY ?_;refine goL ?_;refine wC (gV f (gF3 ai)) ?_;refine goL ?_;obtain⟨au,a3,h⟩:=gK h;refine wC (gD (gMl _ _ a3)) ?_;refine goL ?_;refine noB ?_;refine gB0 7 (fun bg=>?_);refine kQ (fun(q:Nat)(ac:List jO)(ah:Nat)=>⟨[(1,.L 4 (kM a1)),(2,.ptr 0 0),(5,.sl 1 ah),(6,.N f),(7,.L 1 (kD au)),(8,.N q)],[bPr ae,.arr 180 6 ah (mO ac)],Tryz.f56.ntmps⟩) (fun q ac ah=>gBu (gG.mk ae) f (gU.mk aj (gF.mk y aa ab)) (fun ac=>zZ (gG.mk ae) (a1.drop (f+1)) (f+1) ac) (au.drop q) ac=some r) (fun q ac ah=>au.length - q) 0 (y1++[(jO.mk (gU.mk aj (gF.mk ao ap aq)) (f:Int) [])]) (v2+1) eJ h ?_;rintro q ac ah h;refine goL ?_;refine kN (fun av=>?_) (fun av=>?_)
  ·have ad:=qB av;obtain⟨a4,ar,aw⟩:=drop_at ad;rw [aw,gBu.eq_2] at h;refine noS ?_;refine kC (gP ?_);refine goL ?_;refine wC (gV f (gF3 ai)) ?_;refine goL ?_;refine wC (gV q (gN4 ar)) ?_;refine goL ?_;obtain⟨⟨ak,ba⟩,a5,h⟩:=gK h;refine wC (gD (gMn _ _ _ a5)) ?_;refine gCj ?_;refine dZ 0 ?_;refine goW ?_;refine kR (fun _=>gV q (gN4 ar)) ?_;refine goW ?_;refine kR (fun _=>gV f (gF3 ai)) ?_;refine goW ?_;obtain⟨bb,h⟩:=mI h;obtain⟨⟨al,am,an⟩,a6,h⟩:=pI h;have sx19:=(mR (gF.mk y aa ab) bb).p;rw [a6] at sx19;refine kR (fun _=>gD (sx19)) ?_;refine goW ?_;refine uK (us:=mO [(jO.mk (gU.mk a4 (gF.mk al am an)) (f:Int) ak)]) ?_;obtain⟨bc,h⟩:=mI h;refine uL bc ?_;refine goW ?_;refine jY ?_;refine goL ?_;refine gX (jK q (by omega)) ?_;exact⟨(q+1),(ac++[(jO.mk (gU.mk a4 (gF.mk al am an)) (f:Int) ak)]),(ah+1),h,by omega,eJ⟩
  ·have ad:=qC av;rw [gT ad,gBu.eq_1] at h;refine goX ?_;refine gX (jK f (by omega)) ?_;exact⟨(f+1),ac,ah,h,by omega,eJ⟩
 ·have ag:=qC c5;rw [gT ag,zZ.eq_1] at h;refine goX ?_;refine jS 1 rfl rfl ?_;refine jH ?_;cases h;exact mM
def gHo(q:LB):Option (gH × Bool):=
bnd (gDd 5000 (yT.mk q 0 0 0 false)) fun f=>
bnd (gSn f.2) fun y=>
bnd (cnd y.bad (some true) (cnd (y.at_ !=(q.length:Int)) (some true) (bnd (vC f.1) fun x6=>
some (!x6)))) fun b3=>
(cnd b3 (some ((gH.mk [] []),false)) (some (f.1,true)))
theorem hAl(a0:LB){r:gH × Bool}(h:gHo a0=some r):gW Tryz.prog 61 [.S a0] [qL r.1,.b r.2]:=by
 unfold gHo at h;refine SpI Tryz.func61 fun A _=>?_;refine goL ?_;refine gC1 (jI TBd.h TZ.h rfl (by repeat constructor)) ?_;obtain⟨⟨⟨f,q⟩,⟨y,aa,ab,ac,ad⟩⟩,al,h⟩:=gK h;refine gCt 1 (hPz 5000 (yT.mk a0 0 0 0 false) al) ?_;refine goL ?_;obtain⟨⟨ae,ag,ah,ai,aj⟩,am,h⟩:=gK h;refine gCt 1 (gYv (yT.mk y aa ab ac ad) am) ?_;refine goL ?_;obtain⟨b3,hb3,h⟩:=gK h;refine kG ⟨[(2,.ptr 0 0),(5,.ptr 2 0),(30,.B b3)],[.box [.S [],.nilsl],bIp ae ag ah ai aj,bSx f q],Tryz.f61.ntmps⟩ ?_ ?_
 ·refine gqO 17 hb3 (fun c4 hb3=>?_);refine gqO 26 hb3 (fun c5 hb3=>?_);obtain⟨x6,an,hb3⟩:=gK hb3;refine gX (gD (gAj _ an)) ?_;cases hb3;exact eJ
 refine goC h ?_ ?_<;>intro c7 h
 ·refine goL ?_;refine uX (jI TBd.h TZ.h rfl (by repeat constructor)) ?_;exact goR h
 ·refine goS ?_;refine jH ?_;cases h;exact mM
def gJx(f:gF)(a1:LS):LS→Option (Bool)
 | []=>bnd (zS f) fun q=>
(some q)
 | y::xs=>(cnd (!(wM a1 y)) (some false) (
gJx f a1 xs ))
def gHp(f:gF)(a1:LS):Option (Bool):=
bnd (wV f) fun q=>
gJx f a1 q
theorem gLi(a0:gF)(a1:LS){r:Bool}(h:gHp a0 a1=some r):gW Tryz.prog 260 [.d (kT a0),.L 1 (kD a1)] [.b r]:=by
 obtain⟨y,aa,ab⟩:=a0;unfold gHp at h;refine SpI Tryz.func260 fun A _=>?_;refine goL ?_;obtain⟨x1,ag,h⟩:=gK h;refine gX (gD (gCw _ ag)) ?_;refine noB ?_;refine gB0 5 (fun z3=>?_);refine kZ (fun(q:Nat)=>⟨[(1,.L 1 (kD a1)),(2,.ptr 0 0),(5,.L 1 (kD x1)),(6,.N q)],[bTy y aa ab],Tryz.f260.ntmps⟩) (fun q=>gJx (gF.mk y aa ab) a1 (x1.drop q)  =some r) (fun q=>x1.length - q) 0 eJ h ?_;rintro q h;refine goL ?_;refine kN (fun c4=>?_) (fun c4=>?_)
 ·have f:=qB c4;obtain⟨x5,ai,ac⟩:=drop_at f;rw [ac,gJx.eq_2] at h;refine noS ?_;refine kC (gP ?_);refine goL ?_;refine gX (gV q (gN4 ai)) ?_;refine gX (gD (gC5 a1 x5)) ?_;refine kN (fun c6=>?_) (fun c6=>?_)
  ·replace h:=jU c6 h;exact goR h
  ·replace h:=jV c6 h;refine goS ?_;refine gX (jK q (by omega)) ?_;exact⟨(q+1),h,by omega,eJ⟩
 ·have f:=qC c4;rw [gT f,gJx.eq_1] at h;refine goX ?_;obtain⟨x7,ak,h⟩:=gK h;refine pX (gD (gC3 _ ak)) ?_;exact goR h
def gJy(f:gY→Option (Bool)):List gJs→Option (Bool)
 | []=>(some true)
 | q::xs=>bnd (cnd (!(pF q.constructor)) (some true) (cnd (!(gN7 q.vars)) (some true) (bnd (vD q.vars) fun y=>
(cnd (!y) (some true) (bnd (f q.body) fun aa=>
some (!aa)))))) fun ab=>
(cnd ab (some false) (
gJy f xs ))
def gJz(f:gY→Option (Bool))(a0:gY):List gY→Option (Bool)
 | []=>gJy f a0.arms
 | q::xs=>bnd (f q) fun y=>
(cnd (!y) (some false) (
gJz f a0 xs ))
def gXe(y:gY→Option (Bool))(f:gY):Option (Bool):=
lt_ (gKb f.kind) fun q=>
lt_ (cnd (!(gBa f.kind 1 12)) (true) (cnd (!((pF f.trait)==q.1)) (true) (cnd (!q.1) (cnd (!(f.trait==[])) (true) (cnd (!q.2.2.1) (cnd (f.n != 0) (true) (!((decide ((f.arms.length:Int) > 0))==q.2.2.2.2.2))) (!((decide ((f.arms.length:Int) > 0))==q.2.2.2.2.2)))) (cnd (!q.2.2.1) (cnd (f.n != 0) (true) (!((decide ((f.arms.length:Int) > 0))==q.2.2.2.2.2))) (!((decide ((f.arms.length:Int) > 0))==q.2.2.2.2.2)))))) fun b2=>
(cnd b2 (some false) (
lt_ (cnd (f.kind==10) (cnd (!(gRd f.name)) (true) (cnd (f.kind != 10) (cnd (!((pF f.name)==q.2.1)) (true) (cnd (!q.2.1) (!(f.name==[])) (false))) (false))) (cnd (f.kind != 10) (cnd (!((pF f.name)==q.2.1)) (true) (cnd (!q.2.1) (!(f.name==[])) (false))) (false))) fun aa=>
(cnd aa (some false) (
bnd (cnd (decide (q.2.2.2.2.1≥0)) (cnd ((f.args.length:Int) != q.2.2.2.2.1) (some true) (cnd (f.kind==5) (cnd ((f.args.length:Int)==0) (some true) (cnd q.2.2.2.1 (bnd (zS f.type_) fun ab=>
cnd (!ab) (some true) (cnd (!q.2.2.2.1) (some (!(gAp f.type_))) (some false))) (cnd (!q.2.2.2.1) (some (!(gAp f.type_))) (some false)))) (cnd q.2.2.2.1 (bnd (zS f.type_) fun ac=>
cnd (!ac) (some true) (cnd (!q.2.2.2.1) (some (!(gAp f.type_))) (some false))) (cnd (!q.2.2.2.1) (some (!(gAp f.type_))) (some false))))) (cnd (f.kind==5) (cnd ((f.args.length:Int)==0) (some true) (cnd q.2.2.2.1 (bnd (zS f.type_) fun ad=>
cnd (!ad) (some true) (cnd (!q.2.2.2.1) (some (!(gAp f.type_))) (some false))) (cnd (!q.2.2.2.1) (some (!(gAp f.type_))) (some false)))) (cnd q.2.2.2.1 (bnd (zS f.type_) fun ae=>
cnd (!ae) (some true) (cnd (!q.2.2.2.1) (some (!(gAp f.type_))) (some false))) (cnd (!q.2.2.2.1) (some (!(gAp f.type_))) (some false))))) fun ag=>
(cnd ag (some false) (
lt_ (cnd (f.kind==1) (cnd (!(gBa f.n (-999999) 999999)) (true) (cnd (f.kind==2) (!(gBa f.n 0 1)) (false))) (cnd (f.kind==2) (!(gBa f.n 0 1)) (false))) fun ah=>
cnd ah (some false) (
gJz y f f.args )))))))
theorem hN6{aa:gY→Option (Bool)}(ad:∀(x0:gY){r:Bool},aa x0=some r→gW Tryz.prog 118 [.d (vX x0)] [.b r])(a0:gY){r:Bool}(h:gXe aa a0=some r):gW Tryz.prog 118 [.d (vX a0)] [.b r]:=by
 obtain⟨ae,ai,ab,ac,⟨f,q,y⟩,ag,ah⟩:=a0;unfold gXe at h;refine SpI Tryz.func118 fun A _=>?_;refine goL ?_;obtain⟨⟨b5,ba,b6,a3,a4,b7⟩,bo,h⟩:=pI h;have sx1:=hPb ae;rw [bo] at sx1;refine gX (gD (sx1)) ?_;refine gX (gD (gIv ae 1 12)) ?_;obtain⟨b2,hb2,h⟩:=pI h;refine kG ⟨[(1,.ptr 0 0),(4,.B ba),(6,.B a3),(7,.I a4),(58,.B b2)],[bEx ae ai ab ac f q y ag ah],Tryz.f118.ntmps⟩ ?_ ?_
 ·refine gqO 26 hb2 (fun c3 hb2=>?_);refine gX (gD (uB ai)) ?_;refine gqO 33 hb2 (fun c4 hb2=>?_);refine gqV 36 hb2 ?_ ?_<;>intro c5 hb2
  ·refine gqO 42 hb2 (fun c6 hb2=>?_);refine gqA 45 hb2 (fun c7 hb2=>?_);exact gqZ 51 hb2
  ·refine gqA 45 hb2 (fun c9 hb2=>?_);exact gqZ 51 hb2
 refine goC h ?_ ?_<;>intro b9 h
 ·exact goR h
 ·refine goS ?_;obtain⟨bp,hb12,h⟩:=pI h;refine kG ⟨[(1,.ptr 0 0),(6,.B a3),(7,.I a4),(88,.B bp)],[bEx ae ai ab ac f q y ag ah],Tryz.f118.ntmps⟩ ?_ ?_
  ·refine gqV 62 hb12 ?_ ?_<;>intro ca hb12
   ·refine gX (gD (hJh ab)) ?_;refine gqO 68 hb12 (fun cb hb12=>?_);refine gqA 72 hb12 (fun cc hb12=>?_);refine gX (gD (uB ab)) ?_;refine gqO 78 hb12 (fun cd hb12=>?_);exact gqZ 81 hb12
   ·refine gqA 72 hb12 (fun ce hb12=>?_);refine gX (gD (uB ab)) ?_;refine gqO 78 hb12 (fun cf hb12=>?_);exact gqZ 81 hb12
  refine goC h ?_ ?_<;>intro cg h
  ·exact goR h
  ·refine goS ?_;obtain⟨bq,hb22,h⟩:=gK h;refine kG ⟨[(1,.ptr 0 0),(127,.B bq)],[bEx ae ai ab ac f q y ag ah],Tryz.f118.ntmps⟩ ?_ ?_
   ·refine gqV 91 hb22 ?_ ?_<;>intro ch hb22
    ·refine gqO 98 hb22 (fun ci hb22=>?_);refine gqV 102 hb22 ?_ ?_<;>intro cj hb22
     ·refine gqO 109 hb22 (fun ck hb22=>?_);refine gqV 111 hb22 ?_ ?_<;>intro cl hb22
      ·obtain⟨cm,bb,hb22⟩:=gK hb22;refine gX (gD (gC3 _ bb)) ?_;refine gqO 118 hb22 (fun cn hb22=>?_);refine gqA 121 hb22 (fun co hb22=>?_);refine gX (gD (gDm (gF.mk f q y))) ?_;cases hb22;exact eJ
      ·refine gqA 121 hb22 (fun cp hb22=>?_);refine gX (gD (gDm (gF.mk f q y))) ?_;cases hb22;exact eJ
     ·refine gqV 111 hb22 ?_ ?_<;>intro cq hb22
      ·obtain⟨cr,bc,hb22⟩:=gK hb22;refine gX (gD (gC3 _ bc)) ?_;refine gqO 118 hb22 (fun cs hb22=>?_);refine gqA 121 hb22 (fun ct hb22=>?_);refine gX (gD (gDm (gF.mk f q y))) ?_;cases hb22;exact eJ
      ·refine gqA 121 hb22 (fun cu hb22=>?_);refine gX (gD (gDm (gF.mk f q y))) ?_;cases hb22;exact eJ
    ·refine gqV 102 hb22 ?_ ?_<;>intro cv hb22
     ·refine gqO 109 hb22 (fun cw hb22=>?_);refine gqV 111 hb22 ?_ ?_<;>intro cx hb22
      ·obtain⟨cy,bd,hb22⟩:=gK hb22;refine gX (gD (gC3 _ bd)) ?_;refine gqO 118 hb22 (fun cz hb22=>?_);refine gqA 121 hb22 (fun c0 hb22=>?_);refine gX (gD (gDm (gF.mk f q y))) ?_;cases hb22;exact eJ
      ·refine gqA 121 hb22 (fun c1 hb22=>?_);refine gX (gD (gDm (gF.mk f q y))) ?_;cases hb22;exact eJ
     ·refine gqV 111 hb22 ?_ ?_<;>intro c2 hb22
      ·obtain⟨c8,be,hb22⟩:=gK hb22;refine gX (gD (gC3 _ be)) ?_;refine gqO 118 hb22 (fun da hb22=>?_);refine gqA 121 hb22 (fun db hb22=>?_);refine gX (gD (gDm (gF.mk f q y))) ?_;cases hb22;exact eJ
      ·refine gqA 121 hb22 (fun dc hb22=>?_);refine gX (gD (gDm (gF.mk f q y))) ?_;cases hb22;exact eJ
   refine goC h ?_ ?_<;>intro dd h
   ·exact goR h
   ·refine goS ?_;obtain⟨br,hb50,h⟩:=pI h;refine kG ⟨[(1,.ptr 0 0),(147,.B br)],[bEx ae ai ab ac f q y ag ah],Tryz.f118.ntmps⟩ ?_ ?_
    ·refine gqV 131 hb50 ?_ ?_<;>intro de hb50
     ·refine gX (gD (gIv ac (-999999) 999999)) ?_;refine gqO 137 hb50 (fun df hb50=>?_);refine gqA 141 hb50 (fun dg hb50=>?_);refine gX (gD (gIv ac 0 1)) ?_;cases hb50;exact eJ
     ·refine gqA 141 hb50 (fun dh hb50=>?_);refine gX (gD (gIv ac 0 1)) ?_;cases hb50;exact eJ
    refine goC h ?_ ?_<;>intro di h
    ·exact goR h
    ·refine goS ?_;refine noB ?_;refine pG 0 7 (fun dj=>?_);refine kZ (fun(ak:Nat)=>⟨[(1,.ptr 0 0),(9,.N ak)],[bEx ae ai ab ac f q y ag ah],Tryz.f118.ntmps⟩) (fun ak=>gJz aa (gY.mk ae ai ab ac (gF.mk f q y) ag ah) (ag.drop ak)  =some r) (fun ak=>ag.length - ak) 0 eJ h ?_;rintro ak h;refine goL ?_;refine kN (fun a5=>?_) (fun a5=>?_)
     ·have al:=qB a5;obtain⟨bt,bf,a6⟩:=drop_at al;rw [a6,gJz.eq_2] at h;obtain⟨bu,bv,bw,bx,⟨bg,bh,bi⟩,bz,b0⟩:=bt;refine noS ?_;refine kC (gP ?_);refine goL ?_;refine gX (gV ak (gO4 bf)) ?_;obtain⟨dk,bj,h⟩:=gK h;refine gX (gD (ad _ bj)) ?_;refine kN (fun a7=>?_) (fun a7=>?_)
      ·replace h:=jU a7 h;exact goR h
      ·replace h:=jV a7 h;refine goS ?_;refine gX (jK ak (by omega)) ?_;exact⟨(ak+1),h,by omega,eJ⟩
     ·have al:=qC a5;rw [gT al,gJz.eq_1] at h;refine goX ?_;refine noB ?_;refine pG 0 8 (fun dl=>?_);refine kZ (fun(aj:Nat)=>⟨[(1,.ptr 0 0),(10,.N aj)],[bEx ae ai ab ac f q y ag ah],Tryz.f118.ntmps⟩) (fun aj=>gJy aa (ah.drop aj)  =some r) (fun aj=>ah.length - aj) 0 eJ h ?_;rintro aj h;refine goL ?_;refine kN (fun a8=>?_) (fun a8=>?_)
      ·have am:=qB a8;obtain⟨b1,bk,a9⟩:=drop_at am;rw [a9,gJy.eq_2] at h;obtain⟨aq,ar,⟨au,av,aw,ax,⟨an,ao,ap⟩,ay,a2⟩⟩:=b1;refine noS ?_;refine kC (gP ?_);refine goL ?_;refine gX (gV aj (gYd bk)) ?_;refine gX (gD (uB aq)) ?_;obtain⟨b3,hb66,h⟩:=gK h;refine kG ⟨[(1,.ptr 0 0),(10,.N aj),(195,.B b3)],[bEx ae ai ab ac f q y ag ah,.box [.S aq,.L 1 (kD ar),.I au,.S av,.S aw,.I ax,.I an,.S ao,.L 3 (jJ ap),.L 9 (vP ay),.L 11 (gBv a2)]],Tryz.f118.ntmps⟩ ?_ ?_
       ·refine gqO 178 hb66 (fun dm hb66=>?_);refine gX (gD (hA5 ar)) ?_;refine gqO 184 hb66 (fun dn hb66=>?_);obtain⟨dp,bl,hb66⟩:=gK hb66;refine gX (gD (wO _ bl)) ?_;refine gqO 190 hb66 (fun dq hb66=>?_);obtain⟨dr,bm,hb66⟩:=gK hb66;refine gX (gD (ad _ bm)) ?_;cases hb66;exact eJ
       refine goC h ?_ ?_<;>intro ds h
       ·exact goR h
       ·refine goS ?_;refine gX (jK aj (by omega)) ?_;exact⟨(aj+1),h,by omega,eJ⟩
      ·have am:=qC a8;rw [gT am,gJy.eq_1] at h;refine goX ?_;refine jH ?_;cases h;exact mM
def gXf:Nat→gY→Option (Bool)
 | 0,_=>none
 | n+1,f=>gXe (gXf n) f
theorem hN7:∀(n:Nat)(f:gY){r:Bool},gXf n f=some r→gW Tryz.prog 118 [.d (vX f)] [.b r]:=by
 intro n
 induction n with
 | zero=>intro f r h;cases h
 | succ n ih=>intro f r h;exact hN6 ih f h
def gTh(f:Bool)(a1:gH):Option (gH):=
bnd (cnd (!f) (some true) (bnd (vC a1) fun q=>
some (!q))) fun y=>
(cnd y (some (gH.mk [] [])) (some a1))
theorem hAm(a0:Bool)(a1:gH){r:gH}(h:gTh a0 a1=some r):gW Tryz.prog 256 [.B a0,.d (qL a1)] [qL r]:=by
 obtain⟨f,q⟩:=a1;unfold gTh at h;refine SpI Tryz.func256 fun A _=>?_;refine goL ?_;obtain⟨b1,hb1,h⟩:=gK h;refine kG ⟨[(3,.ptr 0 0),(4,.ptr 1 0),(11,.B b1)],[bSx f q,.box [.S [],.nilsl]],Tryz.f256.ntmps⟩ ?_ ?_
 ·refine gqO 7 hb1 (fun c2 hb1=>?_);obtain⟨x3,y,hb1⟩:=gK hb1;refine gX (gD (gAj _ y)) ?_;cases hb1;exact eJ
 refine goC h ?_ ?_<;>intro c4 h
 ·refine goL ?_;refine uX (jI TBd.h TZ.h rfl (by repeat constructor)) ?_;exact goR h
 ·refine goS ?_;refine jH ?_;cases h;exact mM
def gLj(f:gU):Option (Bool):=
bnd (cnd (pF f.trait) (bnd (zS f.type_) fun q=>
some q) (some false)) fun y=>
(some y)
theorem gXg(a0:gU){r:Bool}(h:gLj a0=some r):gW Tryz.prog 278 [.d (gCq a0)] [.b r]:=by
 obtain⟨aa,⟨f,q,y⟩⟩:=a0;unfold gLj at h;refine SpI Tryz.func278 fun A _=>?_;refine goL ?_;refine gX (gD (uB aa)) ?_;obtain⟨b1,hb1,h⟩:=gK h;refine kG ⟨[(2,.B b1)],[bBd aa f q y],Tryz.f278.ntmps⟩ ?_ ?_
 ·refine gqA 6 hb1 (fun c2 hb1=>?_);obtain⟨x3,ac,hb1⟩:=gK hb1;refine gX (gD (gC3 _ ac)) ?_;cases hb1;exact eJ
 exact goR h
def gU0(q:gG)(a1:Int)(y:LB):Option (Int):=
bnd (gF7 q a1 y) fun f=>
(cnd (!f.2) (some 3) (
bnd (gN8 f.1) fun x3=>
cnd (!x3) (some 5) (some 0)))
theorem hGu(a0:gG)(a1:Int)(a2:LB){r:Int}(h:gU0 a0 a1 a2=some r):gW Tryz.prog 175 [.d (jX a0),.I a1,.S a2] [.i .i64 r]:=by
 obtain⟨aj⟩:=a0;unfold gU0 at h;refine SpI Tryz.func175 fun A _=>?_;refine goL ?_;obtain⟨⟨⟨f,q,y,aa,ab⟩,ak⟩,ad,h⟩:=gK h;refine gX (gD (gKi _ _ _ ad)) ?_;refine kN (fun c2=>?_) (fun c2=>?_)
 ·replace h:=jU c2 h;exact goR h
 ·replace h:=jV c2 h;refine goS ?_;obtain⟨x3,ag,h⟩:=gK h;refine gX (gD (hA6 _ ag)) ?_;refine kN (fun c4=>?_) (fun c4=>?_)
  ·replace h:=jU c4 h;exact goR h
  ·replace h:=jV c4 h;refine goS ?_;refine jH ?_;cases h;exact mM
def hAo(q:gF)(a1:gF):Option (List gM × Bool):=
bnd (gQ4 [q] [a1]) fun f=>
(some (f.1,f.2))
theorem hQ5(a0:gF)(a1:gF){r:List gM × Bool}(h:hAo a0 a1=some r):gW Tryz.prog 213 [.d (kT a0),.d (kT a1)] [.sl 4 (jM r.1),.b r.2]:=by
 obtain⟨f,q,y⟩:=a0;obtain⟨aa,ab,ac⟩:=a1;unfold hAo at h;refine SpI Tryz.func213 fun A _=>?_;refine goL ?_;refine uN (u:=(.st [.i .i64 f,.s q,.sl 3 (jJ y)])) ?_;refine goL ?_;refine uN (u:=(.st [.i .i64 aa,.s ab,.sl 3 (jJ ac)])) ?_;refine qV 2 rfl rfl ?_;refine qV 3 rfl rfl ?_;obtain⟨⟨ag,ah⟩,ae,h⟩:=gK h;refine uX (hDc (hEv [(gF.mk f q y)] [(gF.mk aa ab ac)] ae)) ?_;exact goR h
def gL5(f:gG)(a1:List gU)(y:gU):Option (gN × Int):=
bnd (gIp f a1) fun x1=>
bnd (gBt 5000 f x1 y 12) fun q=>
(some (q.1,q.2))
theorem gU1(a0:gG)(a1:List gU)(a2:gU){r:gN × Int}(h:gL5 a0 a1 a2=some r):gW Tryz.prog 33 [.d (jX a0),.L 4 (kM a1),.d (gCq a2)] [wS r.1,.i .i64 r.2]:=by
 obtain⟨ak⟩:=a0;obtain⟨al,⟨y,aa,ab⟩⟩:=a2;unfold gL5 at h;refine SpI Tryz.func33 fun A _=>?_;refine gCj ?_;refine sZ 0 ?_;refine goW ?_;obtain⟨x1,ai,h⟩:=gK h;refine kR (fun _=>gD (gX0 _ _ ai)) ?_;refine goW ?_;obtain⟨⟨⟨ac,ad,⟨f,q⟩,ae⟩,am⟩,aj,h⟩:=gK h;refine kR (fun _=>gD (hIq _ _ _ _ _ aj)) ?_;refine goW ?_;refine jY ?_;exact goR h
mutual
def hpT:gF→Bool
 | ⟨k,_,ts⟩=>hXo ts || (k==3)
def hXo:List gF→Bool
 | []=>false
 | a::ts=>hpT a || hXo ts
end
mutual
def ed:gF→Nat
 | ⟨_,_,ts⟩=>eds ts
def eds:List gF→Nat
 | []=>0
 | a::ts=>max (1+ed a) (eds ts)
end
theorem hN8:∀{ts:List gF}{u:gF},u∈ts→1+ed u≤eds ts
 | a::ts,u,h=>by
   simp only [eds];rcases List.mem_cons.1 h with rfl | h
   ·omega
   ·have:=hN8 h
    omega
mutual
theorem hSv:∀(n:Nat)(t:gF),ed t < n→wT n t=some (hpT t)
 | 0,t,h=>by omega
 | n+1,⟨k,s,ts⟩,h=>by
   simp only [ed] at h;rw [wT];unfold gFi;rw [hN9 n ⟨k,s,ts⟩ ts (by omega)];rfl
theorem hN9:∀(n:Nat)(t:gF)(ts:List gF),eds ts≤n→uS (wT n) t ts=some (hXo ts || (t.kind==3))
 | n,t,[],_=>by simp [uS,hXo]
 | n,t,a::ts,h=>by
   simp only [eds] at h;rw [uS,kX (hSv n a (by omega))];simp only [hXo];cases hpT a with
   | true=>rfl
   | false=>rw [gZ,hN9 n t ts (by omega)];rfl
end
def grT(t:gF):Bool:=cnd (((gT8 t []).length:Int)==0) (!hpT t) false
theorem hXp{t:gF}(h:tnd t≤4294967296)(he:ed t < 5000):gDz t=some (grT t):=by
 unfold gDz wV grT;rw [wI (by simpa using h)];simp only [lt_,bnd];cases ((gT8 t []).length:Int)==0 with
 | false=>rfl
 | true=>rw [kJ,hSv 5000 t he];rfl
def gTi:LB:=[115,104,111,119]
mutual
def dyS:gF→Prop
 | ⟨k,n,ts⟩=>(k=4→n=gTi)∧hUy ts
def hUy:List gF→Prop
 | []=>True
 | a::ts=>dyS a∧hUy ts
end
theorem hAp:∀{ts:List gF},hUy ts↔∀t∈ts,dyS t
 | []=>by simp [hUy]
 | a::ts=>by simp only [hUy,hAp (ts:=ts),List.mem_cons,forall_eq_or_imp]
mutual
theorem hOa:∀(t:gF),ed t+1≤tnd t
 | ⟨_,_,ts⟩=>by have:=hOc ts;simp only [ed,tnd];omega
theorem hOc:∀(ts:List gF),eds ts≤gN5 ts
 | []=>Nat.le_refl _
 | a::ts=>by have:=hOa a;have:=hOc ts;simp only [eds,gN5];omega
end
mutual
theorem hXq{l:List gM}{E:Nat}(hl:∀b∈l,ed b.type_≤E):∀(t:gF),ed (apT l t)≤ed t+E
 | ⟨k,n,ts⟩=>by
   have ih:=hSx hl ts;simp only [apT];cases k==1 with
   | false=>simp only [gZ,ed];omega
   | true=>
     rw [kJ];cases hb:(lkp n l).2 with
     | false=>simp only [gZ,ed];omega
     | true=>
       obtain⟨b,f,_,q⟩:=gXl hb;rw [kJ,q]
       have:=hl b f
       omega
theorem hSx{l:List gM}{E:Nat}(hl:∀b∈l,ed b.type_≤E):∀(ts:List gF),eds (gT7 l ts)≤eds ts+E
 | []=>by simp [gT7,eds]
 | a::ts=>by
   have f:=hXq hl a;have y:=hSx hl ts;simp only [gT7,eds];omega
end
mutual
theorem hSy{l:List gM}(hl:∀b∈l,dyS b.type_):∀(t:gF),dyS t→dyS (apT l t)
 | ⟨k,n,ts⟩,h=>by
   have ih:=hOd hl ts h.2;simp only [apT];cases k==1 with
   | false=>exact⟨h.1,ih⟩
   | true=>
     rw [kJ];cases hb:(lkp n l).2 with
     | false=>exact⟨h.1,ih⟩
     | true=>
       obtain⟨b,f,_,q⟩:=gXl hb;rw [kJ,q];exact hl b f
theorem hOd{l:List gM}(hl:∀b∈l,dyS b.type_):∀(ts:List gF),hUy ts→hUy (gT7 l ts)
 | [],_=>trivial
 | a::ts,h=>⟨hSy hl a h.1,hOd hl ts h.2⟩
end
theorem hQ6:∀{t:gF},dyS t→(t.kind==4)=true→t.name=gTi
 | ⟨_,_,_⟩,h,f=>h.1 (by simpa using f)
def isB(b:UInt8):Bool:=gJ7 (b.toNat:Int)
mutual
def fmt:gH→LB
 | ⟨a,l⟩=>match a with
   | []=>40::(gYi l++[41])
   | b::a=>b::a
def gYi:List gH→LB
 | []=>[]
 | x::l=>fmt x++gFt l
def gFt:List gH→LB
 | []=>[]
 | x::l=>32::(fmt x++gFt l)
end
mutual
def wfx:gH→Bool
 | ⟨a,l⟩=>match a with
   | []=>hZz l
   | b::a=>(b::a).all isB && l.isEmpty
def hZz:List gH→Bool
 | []=>true
 | x::l=>wfx x && hZz l
end
mutual
def ndx:gH→Nat
 | ⟨_,l⟩=>1+hGv l
def hGv:List gH→Nat
 | []=>0
 | x::l=>ndx x+hGv l
end
mutual
def dpx:gH→Nat
 | ⟨a,l⟩=>match a with
   | []=>1+hVl l
   | _::_=>0
def hVl:List gH→Nat
 | []=>0
 | x::l=>max (dpx x) (hVl l)
end
theorem gHq{s:LB}{p:Nat}{b:UInt8}{t:LB}(h:s.drop p=b::t):at? s (p:Int)=some b∧s.drop (p+1)=t∧p < s.length:=by
 have hp:p < s.length:=by
  rcases Nat.lt_or_ge p s.length with f | f
  ·exact f
  ·rw [List.drop_eq_nil_of_le f] at h;cases h
 rw [List.drop_eq_getElem_cons hp] at h;simp only [List.cons.injEq] at h;exact⟨by rw [gBb,List.getElem?_eq_getElem hp,h.1],h.2,hp⟩
theorem hEw{m:Nat}(h:m≤4294967296):IntKind.i64.wrap ((m:Int)+1)=((m+1:Nat):Int):=by rw [gD7 _ (by omega) (by omega)];omega
def isW(b:UInt8):Bool:=b==32 || b==10
theorem hS3(b:UInt8):cnd ((b.toNat:Int)==32) (some true) (some ((b.toNat:Int)==10))=some (isW b):=by
 have f:((b.toNat:Int)==32)=(b==32):=Bool.eq_iff_iff.2 (by simp only [beq_iff_eq,←UInt8.toNat_inj];change _↔b.toNat=32;omega);have q:((b.toNat:Int)==10)=(b==10):=Bool.eq_iff_iff.2 (by simp only [beq_iff_eq,←UInt8.toNat_inj];change _↔b.toNat=10;omega);rw [f,q];unfold isW;cases b==32<;>rfl
theorem hU0{s:LB}{p:Nat}{b:UInt8}{t:LB}(h:s.drop p=b::t)(hb:isW b=true)(hl:s.length≤4294967296)(d z:Int)(y:Bool)(n:Nat)(c:yT)(hc:c.s=s):gA1 c (n+1) (p:Int)=gA1 c n ((p+1:Nat):Int):=by
 obtain⟨f,q,h3⟩:=gHq h;rw [gA1,hc,show decide ((p:Int) < (s.length:Int))=true from decide_eq_true (by omega)];simp only [kJ,f,bnd,hS3,hb];rw [hEw (by omega)]
theorem hGw{s:LB}{p:Nat}(h:s.drop p=[]∨∃b t,s.drop p=b::t∧isW b=false)(n:Nat)(c:yT)(hc:c.s=s):gA1 c (n+1) (p:Int)=some ⟨s,p,c.deep,c.size,c.bad⟩:=by
 rcases h with h | ⟨b,t,h,hb⟩
 ·have:¬p < s.length:=fun hp=>by rw [List.drop_eq_getElem_cons hp] at h;cases h
  rw [gA1,hc,show decide ((p:Int) < (s.length:Int))=false from decide_eq_false (by omega)];rfl
 ·obtain⟨f,q,y⟩:=gHq h;rw [gA1,hc,show decide ((p:Int) < (s.length:Int))=true from decide_eq_true (by omega)];simp only [kJ,f,bnd,hS3,hb,gZ]
theorem hQ7{s:LB}{p:Nat}{d z:Int}{y:Bool}(h:s.drop p=[]∨∃b t,s.drop p=b::t∧isW b=false):gSn ⟨s,p,d,z,y⟩=some ⟨s,p,d,z,y⟩:=hGw h 4999 ⟨s,p,d,z,y⟩ rfl
theorem jE7{s:LB}{p:Nat}{d z:Int}{y:Bool}{b:UInt8}{t:LB}(h:s.drop p=32::b::t)(hb:isW b=false)(hl:s.length≤4294967296):gSn ⟨s,p,d,z,y⟩=some ⟨s,(p+1:Nat),d,z,y⟩:=by
 have f:=(gHq h).2.1;exact(hU0 h (by decide) hl d z y 4999 ⟨s,p,d,z,y⟩ rfl).trans (hGw (.inr ⟨b,t,f,hb⟩) 4998 ⟨s,p,d,z,y⟩ rfl)
theorem hU1{b:UInt8}(h:isB b=true):isW b=false:=by
 cases hw:isW b with
 | false=>rfl
 | true=>
   unfold isW at hw;simp only [Bool.or_eq_true,beq_iff_eq] at hw;rcases hw with rfl | rfl
   ·exact absurd h (by decide)
   ·exact absurd h (by decide)
def stop(r:LB):Prop:=∀b t,r=b::t→isB b=false
theorem hOe(rec:yT→Option (gH × yT)){s:LB}{p0:Nat}{d z:Int}(n0:Nat)(hl:s.length≤4294967296){rest:LB}(hs:stop rest):∀(a:LB)(p n:Nat),a.all isB=true→s.drop p=a++rest→p0 < p+a.length→a.length < n→
  p0≤p→p≤s.length→gA4 rec ⟨s,p0,d,z,false⟩ n0 n (p:Int)=some (⟨(s.drop p0).take (p+a.length - p0),[]⟩,⟨s,((p+a.length:Nat):Int),d,IntKind.i64.wrap (z+1),false⟩)
 | [],p,n+1,_,h,f,_,hp,hlen=>by
   have hb:(cnd (decide ((p:Int) < (s.length:Int))) (bnd (at? s (p:Int)) fun x9=>some (gJ7 (x9.toNat:Int))) (some false))=some false:=by
    by_cases hp1:p < s.length
    ·obtain⟨x,q,y⟩:=drop_at hp1;rw [show decide ((p:Int) < (s.length:Int))=true from decide_eq_true (by omega),kJ,gBb,q];simp only [bnd];rw [y] at h;exact congrArg some (hs x _ (by simpa using h.symm))
    ·rw [show decide ((p:Int) < (s.length:Int))=false from decide_eq_false (by omega),gZ]
   rw [gA4];simp only [];rw [hb];simp only [bnd,gZ];simp only [List.length_nil,Nat.add_zero] at f;rw [show decide ((p:Int) > (p0:Int))=true from decide_eq_true (by omega),kJ,wI ⟨by omega,by omega,by omega⟩];simp
 | b::a,p,n+1,ha,h,f,hn,hp,_=>by
   simp only [List.all_cons,Bool.and_eq_true] at ha;obtain⟨q,y,h3⟩:=gHq (by simpa using h);rw [gA4];simp only [];rw [show decide ((p:Int) < (s.length:Int))=true from decide_eq_true (by omega)];simp only [kJ,q,bnd];rw [show gJ7 (b.toNat:Int)=true from ha.1];simp only [kJ];rw [hEw (by omega)]
   have:=hOe rec (p0:=p0) (d:=d) (z:=z) n0 hl hs a (p+1) n ha.2 y (by simp at f;omega) (by simp at hn;omega) (by omega) (by omega)
   rw [this];simp only [List.length_cons];rw [show p+1+a.length=p+(a.length+1) by omega]
 | a,p,0,_,_,_,hn,_,_=>absurd hn (Nat.not_lt_zero _)
theorem hEx{x:gH}(hx:wfx x=true):∃b t,fmt x=b::t∧isW b=false∧b≠41∧(b=40∨isB b=true):=by
 obtain⟨a,l⟩:=x;cases a with
 | nil=>exact⟨40,_,by rw [fmt],by decide,by decide,.inl rfl⟩
 | cons b a=>
   simp only [wfx,List.all_cons,Bool.and_eq_true] at hx;refine⟨b,a,by rw [fmt],hU1 hx.1.1,fun h=>?_,.inr hx.1.1⟩;subst h;exact absurd hx.1.1 (by decide)
theorem hU2{x:gH}(hx:wfx x=true):1≤(fmt x).length:=by
 obtain⟨b,t,h,_⟩:=hEx hx;rw [h];simp
theorem hCy{s:LB}{p:Nat}{d z:Int}{x:gH}{rest:LB}(n:Nat)(hx:wfx x=true)(h:s.drop p=fmt x++rest)(hz:0≤z∧z < 900):gDd (n+1) ⟨s,p,d,z,false⟩=gA4 (gDd n) ⟨s,p,d,z,false⟩ n n (p:Int):=by
 obtain⟨b,t,f,q,_⟩:=hEx hx;rw [f] at h;have y:=(gHq (by simpa using h)).2.2;rw [gDd];unfold gUj;rw [hQ7 (.inr ⟨b,_,by simpa using h,q⟩)];simp only [bnd,lt_];rw [show decide ((p:Int)≥(s.length:Int))=false from decide_eq_false (by omega),gD7 _ (by omega) (by omega),show decide (z+1 > 900)=false from decide_eq_false (by omega)];rfl
theorem hOf{s:LB}{p:Nat}{d z:Int}{b:UInt8}{a:LB}{rest:LB}(n:Nat)(hl:s.length≤4294967296)(hx:wfx ⟨b::a,[]⟩=true)(h:s.drop p=(b::a)++rest)(hs:stop rest)(hn:a.length+1 < n)(hz:0≤z∧z < 900) :
  gDd (n+1) ⟨s,p,d,z,false⟩=some (⟨b::a,[]⟩,⟨s,((p+(a.length+1):Nat):Int),d,z+1,false⟩):=by
 have hlen:p≤s.length:=Nat.le_of_lt (gHq (by simpa using h)).2.2;rw [hCy n hx (by rw [fmt];exact h) hz];have ha:(b::a).all isB=true:=by simpa [wfx] using hx
 rw [hOe (gDd n) (p0:=p) (d:=d) (z:=z) n hl hs (b::a) p n ha h (by simp) (by simpa using hn) (Nat.le_refl _) hlen,gD7 _ (by omega) (by omega),h];simp only [List.length_cons,Nat.add_sub_cancel_left];rw [show a.length+1=(b::a).length by simp,List.take_left]
theorem hU3(rec:yT→Option (gH × yT)){s:LB}{p:Nat}{d z:Int}{t:LB}(n f:Nat)(hl:s.length≤4294967296)(h:s.drop p=40::t)(hd:0≤d∧d < 14)(hz:0≤z∧z < 900) :
  gA4 rec ⟨s,p,d,z,false⟩ f (n+1) (p:Int)=wY rec f s ((p+1:Nat):Int) (d+1) (z+1) false []:=by
 obtain⟨q,y,h3⟩:=gHq h;rw [gA4];simp only [];rw [show decide ((p:Int) < (s.length:Int))=true from decide_eq_true (by omega)];simp only [kJ,q,bnd];rw [show gJ7 (((40:UInt8).toNat:Nat):Int)=false from by decide];simp only [gZ];rw [show decide ((p:Int) > (p:Int))=false from decide_eq_false (by omega),show((((40:UInt8).toNat:Nat):Int) != 40)=false from by decide];simp only [gZ];rw [show (d==14)=false from beq_eq_false_iff_ne.2 (by omega)];simp only [gZ];rw [hEw (by omega),gD7 _ (by omega) (by omega),gD7 _ (by omega) (by omega)]
theorem hQ8(rec:yT→Option (gH × yT)){s:LB}{p:Nat}{d z:Int}{rest:LB}(n:Nat)(l:List gH)(hl:s.length≤4294967296)(h:s.drop p=41::rest)(hd:0≤d∧d≤14) :
  wY rec (n+1) s (p:Int) d z false l=some (⟨[],l⟩,⟨s,((p+1:Nat):Int),d - 1,z,false⟩):=by
 obtain⟨f,q,y⟩:=gHq h;rw [wY];simp only [Bool.not_false,kJ];rw [hQ7 (.inr ⟨41,rest,h,by decide⟩)];simp only [bnd];rw [show decide ((p:Int) < (s.length:Int))=true from decide_eq_true (by omega)];simp only [kJ,f];rw [show ((((41:UInt8).toNat:Nat):Int)==41)=true from by decide];simp only [kJ];rw [hEw (by omega),gD7 _ (by omega) (by omega)]
theorem hU4 (rec:yT→Option (gH × yT)){s:LB}{p:Nat}{d z z':Int}{x:gH}{rest:LB}(n:Nat)(l:List gH)(hl:s.length≤4294967296)(hx:wfx x=true)
  (h:s.drop p=fmt x++rest∨s.drop p=32::(fmt x++rest)) (hrec:∀p':Nat,s.drop p'=fmt x++rest→p≤p'→rec ⟨s,p',d,z,false⟩=some (x,⟨s,((p'+(fmt x).length:Nat):Int),d,z',false⟩)) (hll:l.length≤4294967295) :
  ∃p':Nat,s.drop p'=fmt x++rest∧(p'=p∨p'=p+1)∧wY rec (n+1) s (p:Int) d z false l=wY rec n s ((p'+(fmt x).length:Nat):Int) d z' false (l++[x]):=by
 obtain⟨b,t,hb,hw,hne,_⟩:=hEx hx;have key:∀p':Nat,s.drop p'=fmt x++rest→p≤p'→gSn ⟨s,p,d,z,false⟩=some ⟨s,p',d,z,false⟩→wY rec (n+1) s (p:Int) d z false l=wY rec n s ((p'+(fmt x).length:Nat):Int) d z' false (l++[x]):=by
  intro p' h' hp hs;rw [wY];simp only [Bool.not_false,kJ];rw [hs];simp only [bnd];have f:=h';rw [hb] at f;obtain⟨q,y,h3⟩:=gHq (by simpa using f);rw [show decide ((p':Int) < (s.length:Int))=true from decide_eq_true (by omega)];simp only [kJ,q];rw [show ((b.toNat:Int)==41)=false from beq_eq_false_iff_ne.2 (fun he=>hne (UInt8.toNat_inj.1 (by change _=41;omega)))];simp only [gZ];rw [hrec p' h' hp];simp only;rw [wI (by simp;omega)]
 rcases h with h | h
 ·have f:=h;rw [hb] at f;exact⟨p,h,.inl rfl,key p h (Nat.le_refl _) (hQ7 (.inr ⟨b,_,by simpa using f,hw⟩))⟩
 ·have f:=h;rw [hb] at f;exact⟨p+1,(gHq h).2.1,.inr rfl,key (p+1) (gHq h).2.1 (by omega) (jE7 (by simpa using f) hw hl)⟩
mutual
theorem hOg{s:LB}(hl:s.length≤4294967296):∀(x:gH)(p n:Nat)(d z:Int)(rest:LB),wfx x=true→s.drop p=fmt x++rest→stop rest→0≤d→d+dpx x≤14→0≤z→z+ndx x≤900→(fmt x).length+1 < n→
  gDd n ⟨s,p,d,z,false⟩=some (x,⟨s,((p+(fmt x).length:Nat):Int),d,z+ndx x,false⟩)
 | ⟨[],l⟩,p,n+1,d,z,rest,hx,h,hs,h1,h2,h3,h4,f=>by
   have h4':z+(1+hGv l:Nat)≤900:=h4;have h2':d+(1+hVl l:Nat)≤14:=h2;have h5':(gYi l).length+1+1 < n:=by simp only [fmt,List.length_cons,List.length_append,List.length_nil] at f;omega
   rw [hCy n hx h ⟨h3,by omega⟩];have q:s.drop p=40::(gYi l++41::rest):=by rw [h,fmt];simp
   cases n with
   | zero=>omega
   | succ n=>
     rw [hU3 (gDd (n+1)) n (n+1) hl q ⟨h1,by omega⟩ ⟨h3,by omega⟩];rw [hGx hl l (p+1) (n+1) (n+1) (d+1) (z+1) (gYi l) [] rest (by simpa [wfx] using hx) (gHq q).2.1 (.inl rfl) (by omega) (by omega) (by omega) (by omega) (by omega) (by omega) (by simp only [List.length_nil];omega)];simp only [List.nil_append,fmt,List.length_cons,List.length_append,List.length_nil,ndx];rw [show p+1+(gYi l).length+1=p+((gYi l).length+(0+1)+1) by omega,show d+1 - 1=d by omega,show z+1+(hGv l:Int)=z+((1+hGv l:Nat):Int) by omega]
 | ⟨b::a,l⟩,p,n+1,d,z,rest,hx,h,hs,h1,h2,h3,h4,f=>by
   have hx':=hx;simp only [wfx,Bool.and_eq_true,List.isEmpty_iff] at hx';obtain⟨_,rfl⟩:=hx';have h4':z+(1+0:Nat)≤900:=h4;simp only [fmt] at h f ⊢;rw [hOf n hl hx h hs (by simp only [List.length_cons] at f;omega) ⟨h3,by omega⟩];rfl
 | ⟨[],l⟩,p,0,d,z,rest,_,_,_,_,_,_,_,f=>absurd f (Nat.not_lt_zero _)
 | ⟨b::a,l⟩,p,0,d,z,rest,_,_,_,_,_,_,_,f=>absurd f (Nat.not_lt_zero _)
theorem hGx{s:LB}(hl:s.length≤4294967296):∀(l:List gH)(p k n:Nat)(d z:Int)(w:LB)(acc:List gH)(rest:LB),hZz l=true→s.drop p=w++41::rest→(w=gYi l∨w=gFt l)→0 < d→d+hVl l≤14→0≤z→z+hGv l≤900→
  w.length+1 < k→w.length < n→acc.length+hGv l≤900→wY (gDd k) n s (p:Int) d z false acc=some (⟨[],acc++l⟩,⟨s,((p+w.length+1:Nat):Int),d - 1,z+hGv l,false⟩)
 | [],p,k,n+1,d,z,w,acc,rest,hx,h,hw,h1,h2,h3,h4,f,q,h7=>by
   obtain rfl:w=[]:=by rcases hw with rfl | rfl<;>rfl
   rw [hQ8 (gDd k) n acc hl (by simpa using h) ⟨by omega,by simp only [hVl] at h2;omega⟩];simp [hGv]
 | x::l,p,k,n+1,d,z,w,acc,rest,hx,h,hw,h1,h2,h3,h4,f,q,h7=>by
   simp only [hZz,Bool.and_eq_true] at hx;have h2':d+(max (dpx x) (hVl l):Nat)≤14:=h2;have h4':z+(ndx x+hGv l:Nat)≤900:=h4;have h7':acc.length+(ndx x+hGv l)≤900:=h7;have hst:stop (gFt l++41::rest):=by
    cases l with
    | nil=>intro b t hb;simp only [gFt,List.nil_append,List.cons.injEq] at hb;rw [←hb.1];decide
    | cons y l=>intro b t hb;simp only [gFt,List.cons_append,List.cons.injEq] at hb;rw [←hb.1];decide
   have hfm:=hU2 hx.1;have hwl:w.length=(fmt x).length+(gFt l).length∨w.length=1+((fmt x).length+(gFt l).length):=by
    rcases hw with rfl | rfl
    ·left;simp [gYi]
    ·right;simp only [gFt,List.length_cons,List.length_append];omega
   have hd:s.drop p=fmt x++(gFt l++41::rest)∨s.drop p=32::(fmt x++(gFt l++41::rest)):=by
    rcases hw with rfl | rfl
    ·left;rw [h,gYi,List.append_assoc]
    ·right;rw [h,gFt];simp
   obtain⟨p',e1,e2,e3⟩:=hU4 (gDd k) (d:=d) (z:=z) (z':=z+ndx x) n acc hl hx.1 hd (fun p' hp' _=>hOg hl x p' k d z _ hx.1 hp' hst (by omega) (by omega) h3 (by omega) (by omega)) (by omega);rw [e3];have e4:s.drop (p'+(fmt x).length)=gFt l++41::rest:=by
    rw [←List.drop_drop,e1,List.drop_left]
   have hnd:1≤ndx x:=by obtain⟨a,xs⟩:=x;simp only [ndx];omega
   rw [hGx hl l (p'+(fmt x).length) k n d (z+ndx x) (gFt l) (acc++[x]) rest hx.2 e4 (.inr rfl) h1 (by omega) (by omega) (by omega) (by omega) (by omega) (by simp only [List.length_append,List.length_cons,List.length_nil];omega)];have hpp:p'+(fmt x).length+(gFt l).length=p+w.length:=by
    rcases hw with rfl | rfl
    ·rcases e2 with rfl | rfl
     ·simp only [gYi,List.length_append];omega
     ·exfalso;have h8:=congrArg List.length e1
      have h9:=congrArg List.length h;simp only [List.length_drop,List.length_append,List.length_cons,gYi] at h8 h9;omega
    ·rcases e2 with rfl | rfl
     ·exfalso;have h8:=congrArg List.length e1
      have h9:=congrArg List.length h;simp only [List.length_drop,List.length_append,List.length_cons,gFt] at h8 h9;omega
     ·simp only [gFt,List.length_cons,List.length_append];omega
   rw [hpp,List.append_assoc];simp only [List.singleton_append,hGv];rw [show z+(ndx x:Int)+(hGv l:Int)=z+((ndx x+hGv l:Nat):Int) by omega]
 | [],p,k,0,d,z,w,acc,rest,_,_,_,_,_,_,_,_,q,_=>absurd q (Nat.not_lt_zero _)
 | x::l,p,k,0,d,z,w,acc,rest,_,_,_,_,_,_,_,_,q,_=>absurd q (Nat.not_lt_zero _)
end
end Go.Proofs.YtfjncckelekpiaaGreat
