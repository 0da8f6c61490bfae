import Derived.Test.YtfjncckelekpiaaGreatB34
import Derived.Test.YtfjncckelekpiaaGreatB33
set_option maxHeartbeats 4000000
set_option linter.unusedVariables false
set_option linter.unusedSimpArgs false
set_option linter.unusedSectionVars false
namespace Go.Proofs.YtfjncckelekpiaaGreat
open Go Go.Eng
attribute [local irreducible] V VO VQ VY Quiet QR gW pJ Rng vF uW uI
def gW9(nm:LB)(deps:LS)(x:gH)(q:List mE)(y:List jW)(l3:List jF)(l4:List kF):Option (Bool × List mE × List jW × List jF × List kF):=
bnd (uR x 0) fun x1=>
(cnd (x1.atom==[116,114,97,105,116]) (
bnd (gKy x) fun x3=>
gd (q.length+[x3.1].length≤4294967296) (some (x3.2,(q++[x3.1]),y,l3,l4))) (cnd (x1.atom==[100,97,116,97]) (
bnd (gC9 x) fun x6=>
gd (y.length+[x6.1].length≤4294967296) (some (x6.2,q,(y++[x6.1]),l3,l4))) (cnd (x1.atom==[105,110,115,116]) (
bnd (gDa x) fun x9=>
gd (l3.length+[x9.1].length≤4294967296) (some (x9.2,q,y,(l3++[x9.1]),l4))) (cnd (x1.atom==[102,110]) (
bnd (gDb x) fun f=>
gd (l4.length+[f.1].length≤4294967296) (some (f.2,q,y,l3,(l4++[f.1])))) (some (false,q,y,l3,l4))))))
theorem hNx(nm:LB)(deps:LS)(x:gH)(l1:List mE)(l2:List jW)(l3:List jF)(l4:List kF)(v1:Nat)(v2:Nat)(v3:Nat)(v4:Nat){r:Bool × List mE × List jW × List jF × List kF}(h:gW9 nm deps x l1 l2 l3 l4=some r):Go.Eng.Spec Tryz.prog 95 [.ptr 0 0,.d (qL x)] [.box [.S nm,.L 1 (kD deps),.sl 1 v1,.sl 2 v2,.sl 3 v3,.sl 4 v4],.arr 70 5 v1 (gFr l1),.arr 209 3 v2 (gAl l2),.arr 62 12 v3 (gAm l3),.arr 162 16 v4 (gAn l4)] (fun sv Lo=>∃v'1 v'2 v'3 v'4,sv=.B r.1∧Lo=[.box [.S nm,.L 1 (kD deps),.sl 1 v'1,.sl 2 v'2,.sl 3 v'3,.sl 4 v'4],.arr 70 5 v'1 (gFr r.2.1),.arr 209 3 v'2 (gAl r.2.2.1),.arr 62 12 v'3 (gAm r.2.2.2.1),.arr 162 16 v'4 (gAn r.2.2.2.2)]):=by
 obtain⟨bl,bm⟩:=x;unfold gW9 at h;refine pK 5 Tryz.func95 rfl (by kernel_rfl) rfl rfl fun A _=>?_;refine goL ?_;obtain⟨⟨bz,b0⟩,bn,h⟩:=gK h;refine pX (gD (vL _ _ bn)) ?_;refine gX (gL4) ?_;refine gP ?_;refine goC h ?_ ?_<;>intro c2 h
 ·refine goL ?_;obtain⟨⟨⟨aw,ax,ay,a0,a2⟩,bh⟩,bo,h⟩:=gK h;refine pX (gD (gV4 _ bo)) ?_;refine gCj ?_;refine sZ 0 ?_;refine goW ?_;refine uK (us:=gFr [(mE.mk aw ax ay a0 a2)]) ?_;obtain⟨g4,h⟩:=mI h;refine uL g4 ?_;refine goW ?_;refine jY ?_;refine goL ?_;refine jH ?_;obtain rfl:=Option.some.inj h;exact gHr [.B bh] _ ⟨(v1+1),v2,v3,v4,rfl,rfl⟩
 ·refine goC h ?_ ?_<;>intro c5 h
  ·refine goL ?_;obtain⟨⟨⟨a3,a4,a5⟩,bi⟩,bp,h⟩:=gK h;refine pX (gD (gRg _ bp)) ?_;refine gCj ?_;refine sZ 0 ?_;refine goW ?_;refine uK (us:=gAl [(jW.mk a3 a4 a5)]) ?_;obtain⟨g7,h⟩:=mI h;refine uL g7 ?_;refine goW ?_;refine jY ?_;refine goL ?_;refine jH ?_;obtain rfl:=Option.some.inj h;exact gHr [.B bi] _ ⟨v1,(v2+1),v3,v4,rfl,rfl⟩
  ·refine goC h ?_ ?_<;>intro c8 h
   ·refine goL ?_;obtain⟨⟨⟨a6,a7,⟨ak,al,am⟩,a8,a9,ba,⟨an,ao,ap⟩,bb⟩,bj⟩,bq,h⟩:=gK h;refine pX (gD (gRj _ bq)) ?_;refine gCj ?_;refine sZ 0 ?_;refine goW ?_;refine uK (us:=gAm [(jF.mk a6 a7 (gF.mk ak al am) a8 a9 ba (gF.mk an ao ap) bb)]) ?_;obtain⟨br,h⟩:=mI h;refine uL br ?_;refine goW ?_;refine jY ?_;refine goL ?_;refine jH ?_;obtain rfl:=Option.some.inj h;exact gHr [.B bj] _ ⟨v1,v2,(v3+1),v4,rfl,rfl⟩
   ·refine goC h ?_ ?_<;>intro b3 h
    ·refine goL ?_;obtain⟨⟨⟨aq,ar,au,av,⟨aa,ab,ac⟩,⟨ad,ae,ag,ah,⟨f,q,y⟩,ai,aj⟩⟩,bg⟩,bk,h⟩:=gK h;refine pX (gD (gRk (gH.mk bl bm) bk)) ?_;refine gCj ?_;refine sZ 0 ?_;refine goW ?_;refine uK (us:=gAn [(kF.mk aq ar au av (gF.mk aa ab ac) (gY.mk ad ae ag ah (gF.mk f q y) ai aj))]) ?_;obtain⟨bt,h⟩:=mI h;refine uL bt ?_;refine goW ?_;refine jY ?_;refine goL ?_;refine jH ?_;obtain rfl:=Option.some.inj h;exact gHr [.B bg] _ ⟨v1,v2,v3,(v4+1),rfl,rfl⟩
    ·refine goS ?_;refine jH ?_;obtain rfl:=Option.some.inj h;exact gHr [.B false] _ ⟨v1,v2,v3,v4,rfl,rfl⟩
def qY(y:gG)(y1:Nat)(f:Option (Bool)):LS→Option (Bool)
 | []=>f
 | q::xs=>(cnd (!(gBa (uT y q) 0 (IntKind.i64.wrap ((y1:Int) - 1)))) (some false) (
qY y y1 f xs ))
def qK(f:gG):List jL→Nat→Option (Bool)
 | [],q=>(some (decide ((f.packages.length:Int)≤5)))
 | y::xs,q=>bnd (wH y) fun x5=>
lt_ (cnd (!x5) (true) ((uT f y.name) !=(q:Int))) fun b6=>
(cnd b6 (some false) (
qY f q (qK f xs (q+1)) y.deps ))
def gBd(f:gG):Option (Bool):=
qK f f.packages 0
theorem gP9(a0:gG){r:Bool}(h:gBd a0=some r):gW Tryz.prog 63 [.d (jX a0)] [.b r]:=by
 obtain⟨f⟩:=a0;unfold gBd at h;refine SpI Tryz.func63 fun A _=>?_;refine goL ?_;refine noB ?_;refine pG 0 0 (fun z2=>?_);refine kZ (fun(q:Nat)=>⟨[(1,.ptr 0 0),(3,.N q)],[bPr f],Tryz.f63.ntmps⟩) (fun q=>qK (gG.mk f) (f.drop q) q=some r) (fun q=>f.length - q) 0 eJ h ?_;rintro q h;refine goL ?_;refine kN (fun c3=>?_) (fun c3=>?_)
 ·have y:=qB c3;obtain⟨x4,aq,al⟩:=drop_at y;rw [al,qK.eq_2] at h;obtain⟨ac,ab,ae,ag,ah,ai⟩:=x4;refine noS ?_;refine kC (gP ?_);refine goL ?_;refine gX (gV q (mX aq)) ?_;obtain⟨x5,ar,h⟩:=gK h;refine gX (gD (gMq _ ar)) ?_;obtain⟨b6,hb6,h⟩:=pI h;refine kG ⟨[(1,.ptr 0 0),(3,.N q),(4,.ptr 1 0),(28,.B b6)],[bPr f,bPk ac ab ae ag ah ai],Tryz.f63.ntmps⟩ ?_ ?_
  ·refine gqO 21 hb6 (fun c7 hb6=>?_);refine gX (gD (gKz (gG.mk f) ac)) ?_;cases hb6;exact eJ
  refine goC h ?_ ?_<;>intro c8 h
  ·exact goR h
  ·refine goS ?_;refine noB ?_;refine pG 1 1 (fun aw=>?_);refine kZ (fun(y9:Nat)=>⟨[(1,.ptr 0 0),(3,.N q),(4,.ptr 1 0),(5,.N y9)],[bPr f,bPk ac ab ae ag ah ai],Tryz.f63.ntmps⟩) (fun y9=>qY (gG.mk f) q (qK (gG.mk f) (f.drop (q+1)) (q+1)) (ab.drop y9)  =some r) (fun y9=>ab.length - y9) 0 eJ h ?_;rintro y9 h;refine goL ?_;refine kN (fun aj=>?_) (fun aj=>?_)
   ·have aa:=qB aj;obtain⟨am,an,ak⟩:=drop_at aa;rw [ak,qY.eq_2] at h;refine noS ?_;refine kC (gP ?_);refine goL ?_;refine wC (gV y9 (gN4 an)) ?_;refine goL ?_;refine wC (gD (gKz (gG.mk f) am)) ?_;refine goL ?_;refine wC (pR) ?_;refine wC (gD (gIv (uT (gG.mk f) am) 0 (IntKind.i64.wrap ((q:Int) - 1)))) ?_;refine goC h ?_ ?_<;>intro ax h
    ·exact goR h
    ·refine goS ?_;refine gX (jK y9 (by omega)) ?_;exact⟨(y9+1),h,by omega,eJ⟩
   ·have aa:=qC aj;rw [gT aa,qY.eq_1] at h;refine goX ?_;refine gX (jK q (by omega)) ?_;exact⟨(q+1),h,by omega,eJ⟩
 ·have y:=qC c3;rw [gT y,qK.eq_1] at h;refine goX ?_;refine jH ?_;cases h;exact mM
def hAh(a0:gG)(a1:Int)(a2:List gU)(a3:List jT)(q:gB)(y:gY):Option (gB × jN × gF):=
bnd (gEy y) fun x1=>
(cnd (!x1) (
lt_ (gAb q 8) fun x3=>
bnd (gKh x3) fun x4=>
some (x4,(jN.mk 0 [] [] 0 (gF.mk 0 [] []) [] [] [] []),(gF.mk 0 [] []))) (
bnd (gFk 5000 (kH.mk a0 a1 a2 false) a3 q y) fun f=>
bnd (gKh f.1) fun x6=>
bnd (gWh f.2.1) fun x7=>
gd (tok f.2.2) (lt_ (idT f.2.2) fun x9=>
some (x6,x7,x9))))
theorem hQ3(a0:gG)(a1:Int)(a2:List gU)(a3:List jT)(a4:gB)(a5:gY){r:gB × jN × gF}(h:hAh a0 a1 a2 a3 a4 a5=some r):gW Tryz.prog 75 [.d (jX a0),.I a1,.L 4 (kM a2),.L 4 (mK a3),.d (jR a4),.d (vX a5)] [jR r.1,gBo r.2.1,kT r.2.2]:=by
 obtain⟨bv⟩:=a0;obtain⟨ad,ae,ag,ah,ai,aj,ak,al⟩:=a4;obtain⟨bw,bx,bz,b0,⟨am,an,ao⟩,b1,b2⟩:=a5;unfold hAh at h;refine SpI Tryz.func75 fun A _=>?_;refine goL ?_;obtain⟨x1,bk,h⟩:=gK h;refine gX (gD (gMb _ bk)) ?_;refine kN (fun c2=>?_) (fun c2=>?_)
 ·replace h:=jU c2 h;refine goL ?_;obtain⟨⟨b3,b4,b5,b6,b7,b8,b9,ca⟩,bm,h⟩:=pI h;have sx3:=gCn (gB.mk ad ae ag ah ai aj ak al) 8;rw [bm] at sx3;refine pX (gD (sx3)) ?_;obtain⟨⟨cb,cc,cd,ce,cf,cg,ch,ci⟩,bn,h⟩:=gK h;refine pX (gD (gP0 _ bn)) ?_;refine uX (jI TBd.h TZ.h rfl (by repeat constructor)) ?_;refine uX (jI TBd.h TZ.h rfl (by repeat constructor)) ?_;exact goR h
 ·replace h:=jV c2 h;refine goS ?_;refine gC1 (jI TBd.h TZ.h rfl (by repeat constructor)) ?_;obtain⟨⟨⟨ap,aq,ar,au,av,aw,ax,ay⟩,⟨a6,a7,a8,a9,⟨aa,ab,ac⟩,ba,bb,bc,bd⟩,⟨f,q,y⟩⟩,bo,h⟩:=gK h;refine pX (gD (hPn _ _ _ _ _ bo)) ?_;refine gCj ?_;refine sZ 0 ?_;refine goW ?_;obtain⟨⟨cj,ck,cl,cm,cn,co,cp,cq⟩,bp,h⟩:=gK h;refine kR (fun _=>gD (gP0 _ bp)) ?_;refine goW ?_;obtain⟨⟨cr,cs,ct,cu,⟨be,bf,bg⟩,cv,cw,cx,cy⟩,bq,h⟩:=gK h;refine kR (fun _=>gD (hLm _ bq)) ?_;refine goW ?_;obtain⟨g8,h⟩:=mI h;obtain⟨⟨cz,c0,c1⟩,br,h⟩:=pI h;have sx9:=(mR (gF.mk f q y) g8).p;rw [br] at sx9;refine kR (fun _=>gD (sx9)) ?_;refine goW ?_;refine jY ?_;exact goR h
def zM(x2:LS × Bool)(x3:gH):List gH→(List mE)→(List jW)→(List jF)→(List kF)→Option (jL × Bool)
 | [],q,y,aa,ab=>bnd (wH (jL.mk x3.atom x2.1 q y aa ab)) fun ae=>
(cnd (!ae) (some ((jL.mk [] [] [] [] [] []),false)) (some ((jL.mk x3.atom x2.1 q y aa ab),true)))
 | ag::xs,q,y,aa,ab=>bnd (gW9 x3.atom x2.1 ag q y aa ab) fun f=>
(cnd (!f.1) (some ((jL.mk [] [] [] [] [] []),false)) (
zM x2 x3 xs f.2.1 f.2.2.1 f.2.2.2.1 f.2.2.2.2))
def wJ(f:gH):Option (jL × Bool):=
bnd (uR f 2) fun x1=>
bnd (gOb x1.list) fun y=>
bnd (uR f 1) fun x3=>
bnd (vC f) fun x4=>
bnd (cnd (!x4) (some true) (cnd (decide ((f.list.length:Int) < 3)) (some true) (bnd (at? f.list 0) fun x8=>
(cnd (!(x8.atom==[112,97,99,107,97,103,101])) (some true) (bnd (at? f.list 2) fun q=>
cnd (!(q.atom==[])) (some true) (some (!y.2))))))) fun b5=>
(cnd b5 (some ((jL.mk [] [] [] [] [] []),false)) (
zM y x3 (f.list.drop 3) [] [] [] []))
theorem gTf(a0:gH){r:jL × Bool}(h:wJ a0=some r):gW Tryz.prog 62 [.d (qL a0)] [gHd r.1,.b r.2]:=by
 obtain⟨al,ab⟩:=a0;unfold wJ at h;refine SpI Tryz.func62 fun A _=>?_;refine goL ?_;obtain⟨⟨bn,bo⟩,bf,h⟩:=gK h;refine pX (gD (vL _ _ bf)) ?_;refine pX (gL4) ?_;obtain⟨⟨f,a8⟩,bg,h⟩:=gK h;refine gX (gD (gVh _ bg)) ?_;obtain⟨⟨q,a9⟩,bh,h⟩:=gK h;refine pX (gD (vL _ _ bh)) ?_;refine gX (gL4) ?_;refine gC1 (jI TBd.h TZ.h rfl (by repeat constructor)) ?_;obtain⟨x4,bi,h⟩:=gK h;refine gX (gD (gAj _ bi)) ?_;obtain⟨b5,hb5,h⟩:=gK h;refine kG ⟨[(1,.ptr 0 0),(2,.ptr 1 0),(6,.ptr 2 0),(48,.B b5)],[bSx al ab,.box [.S [],.nilsl,.nilsl,.nilsl,.nilsl,.nilsl],.box [.S q,.L 1 (kD f),.nilsl,.nilsl,.nilsl,.nilsl]],Tryz.f62.ntmps⟩ ?_ ?_
 ·refine gqO 23 hb5 (fun c6 hb5=>?_);refine gqO 29 hb5 (fun c7 hb5=>?_);obtain⟨x8,ar,hb5⟩:=gK hb5;obtain⟨ba,ar⟩:=yY ar;obtain⟨bp,bq⟩:=x8;refine gX (kY ba (vW ar)) ?_;refine gqO 37 hb5 (fun c9 hb5=>?_);obtain⟨bj,am,hb5⟩:=gK hb5;obtain⟨au,am⟩:=yY am;obtain⟨bk,bl⟩:=bj;refine gX (kY au (vW am)) ?_;exact gqZ 45 hb5
 refine goC h ?_ ?_<;>intro bu h
 ·refine goL ?_;refine uX (jI TBd.h TZ.h rfl (by repeat constructor)) ?_;exact goR h
 ·refine goS ?_;refine noB ?_;refine uA 70 5 2 2 rfl rfl (by repeat constructor) (by repeat constructor) (by repeat constructor) (by repeat constructor) ?_;show V _ _ _ _ _;refine uA 209 3 2 3 rfl rfl (by repeat constructor) (by repeat constructor) (by repeat constructor) (by repeat constructor) ?_;show V _ _ _ _ _;refine uA 62 12 2 4 rfl rfl (by repeat constructor) (by repeat constructor) (by repeat constructor) (by repeat constructor) ?_;show V _ _ _ _ _;refine uA 162 16 2 5 rfl rfl (by repeat constructor) (by repeat constructor) (by repeat constructor) (by repeat constructor) ?_;show V _ _ _ _ _;refine pG 0 1 (fun bv=>?_);refine gW0 (fun(y:Nat)(ac:List mE)(ad:List jW)(ae:List jF)(ag:List kF)(ah:Nat)(ai:Nat)(aj:Nat)(ak:Nat)=>⟨[(1,.ptr 0 0),(2,.ptr 1 0),(6,.ptr 2 0),(7,.N y)],[bSx al ab,.box [.S [],.nilsl,.nilsl,.nilsl,.nilsl,.nilsl],.box [.S q,.L 1 (kD f),.sl 3 ah,.sl 4 ai,.sl 5 aj,.sl 6 ak],.arr 70 5 ah (gFr ac),.arr 209 3 ai (gAl ad),.arr 62 12 aj (gAm ae),.arr 162 16 ak (gAn ag)],Tryz.f62.ntmps⟩) (fun y ac ad ae ag ah ai aj ak=>zM (f,a8) (gH.mk q a9) (ab.drop y) ac ad ae ag=some r) (fun y ac ad ae ag ah ai aj ak=>ab.length - y) 3 [] [] [] [] 0 0 0 0 eJ h ?_;rintro y ac ad ae ag ah ai aj ak h;refine goL ?_;refine kN (fun av=>?_) (fun av=>?_)
  ·have aa:=qB av;obtain⟨bm,bb,aw⟩:=drop_at aa;rw [aw,zM.eq_2] at h;obtain⟨ax,ay⟩:=bm;refine noS ?_;refine kC (gP ?_);refine goL ?_;refine gX (gV y (vW bb)) ?_;obtain⟨⟨a2,an,ao,ap,aq⟩,bc,h⟩:=gK h;refine gLg [2,3,4,5,6] (hNx q f (gH.mk ax ay) ac ad ae ag ah ai aj ak bc) ?_;rintro _ _ ⟨a3,a4,a5,a6,rfl,rfl⟩;show VO _ _ _ _ ⟨(_,.B a2)::_,[bSx al ab,.box [.S [],.nilsl,.nilsl,.nilsl,.nilsl,.nilsl],.box [.S q,.L 1 (kD f),.sl 3 a3,.sl 4 a4,.sl 5 a5,.sl 6 a6],.arr 70 5 a3 (gFr an),.arr 209 3 a4 (gAl ao),.arr 62 12 a5 (gAm ap),.arr 162 16 a6 (gAn aq)],_⟩ _;refine goC h ?_ ?_<;>intro bw h
   ·refine goL ?_;refine uX (jI TBd.h TZ.h rfl (by repeat constructor)) ?_;exact goR h
   ·refine goS ?_;refine gX (jK y (by omega)) ?_;exact⟨(y+1),an,ao,ap,aq,a3,a4,a5,a6,h,by omega,eJ⟩
  ·have aa:=qC av;rw [gT aa,zM.eq_1] at h;refine goX ?_;obtain⟨bx,bd,h⟩:=gK h;refine gC1 (gUn (gMq (jL.mk q f ac ad ae ag) bd)) ?_;refine kN (fun a7=>?_) (fun a7=>?_)
   ·replace h:=jU a7 h;refine goL ?_;refine uX (jI TBd.h TZ.h rfl (by repeat constructor)) ?_;exact goR h
   ·replace h:=jV a7 h;refine goS ?_;refine jS 3 rfl rfl ?_;refine jS 4 rfl rfl ?_;refine jS 5 rfl rfl ?_;refine jS 6 rfl rfl ?_;refine jH ?_;cases h;exact mM
def wU(y:gG):List jL→Nat→(List mF)→Option (List mF)
 | [],y6,f=>bnd (zO y) fun ab=>
(cnd (!ab) (
gd (f.length+[(mF.mk 8 0 [] [])].length≤4294967296) (some (f++[(mF.mk 8 0 [] [])]))) (some f))
 | x9::xs,y6,f=>bnd (gNc y (y6:Int)) fun q=>
gd (f.length+q.length≤4294967296) (
wU y xs (y6+1) (f++q))
def gHn(f:gG):Option (List mF):=
bnd (gBd f) fun q=>
(cnd (!q) (
gd (([]:List mF).length+[(mF.mk 8 0 [] [])].length≤4294967296) (some ([]++[(mF.mk 8 0 [] [])]))) (
wU f f.packages 0 []))
theorem hAi(a0:gG){r:List mF}(h:gHn a0=some r):gW Tryz.prog 50 [.d (jX a0)] [.sl 4 (vM r)]:=by
 obtain⟨q⟩:=a0;unfold gHn at h;refine SpI Tryz.func50 fun A _=>?_;refine goL ?_;refine qO ?_;refine goL ?_;obtain⟨x1,ai,h⟩:=gK h;refine gX (gD (gP9 _ ai)) ?_;refine kN (fun c2=>?_) (fun c2=>?_)
 ·replace h:=jU c2 h;refine goL ?_;refine uX (jI TBd.h TZ.h rfl (by repeat constructor)) ?_;refine uN (u:=(.st [.i .i64 8,.i .i64 0,.s [],.s []])) ?_;obtain⟨g3,h⟩:=mI h;refine vR g3 ?_;refine goL ?_;refine jS 1 rfl rfl ?_;refine jH ?_;cases h;exact mM
 ·replace h:=jV c2 h;refine goS ?_;refine noB ?_;refine pG 0 0 (fun z7=>?_);refine kQ (fun(y:Nat)(y4:List mF)(v5:Nat)=>⟨[(1,.ptr 0 0),(3,.sl 1 v5),(4,.N y)],[bPr q,.arr 153 4 v5 (vM y4)],Tryz.f50.ntmps⟩) (fun y y4 v5=>wU (gG.mk q) (q.drop y) y y4=some r) (fun y y4 v5=>q.length - y) 0 [] 0 eJ h ?_;rintro y y4 v5 h;refine goL ?_;refine kN (fun c8=>?_) (fun c8=>?_)
  ·have f:=qB c8;obtain⟨x9,ay,ad⟩:=drop_at f;rw [ad,wU.eq_2] at h;obtain⟨ao,ap,aq,ar,au,av⟩:=x9;refine noS ?_;refine kC (gP ?_);refine goL ?_;obtain⟨al,ae,h⟩:=gK h;refine pX (gD (hPo _ _ ae)) ?_;obtain⟨am,h⟩:=mI h;refine vR am ?_;refine goL ?_;refine gX (jK y (by omega)) ?_;exact⟨(y+1),(y4++al),(v5+1),h,by omega,eJ⟩
  ·have f:=qC c8;rw [gT f,wU.eq_1] at h;refine goX ?_;obtain⟨a2,ag,h⟩:=gK h;refine gX (gD (gXo _ ag)) ?_;refine kN (fun aa=>?_) (fun aa=>?_)
   ·replace h:=jU aa h;refine goL ?_;refine uX (jI TBd.h TZ.h rfl (by repeat constructor)) ?_;refine uN (u:=(.st [.i .i64 8,.i .i64 0,.s [],.s []])) ?_;obtain⟨an,h⟩:=mI h;refine vR an ?_;refine goL ?_;refine jS 1 rfl rfl ?_;refine jH ?_;cases h;exact mM
   ·replace h:=jV aa h;refine goS ?_;refine jS 1 rfl rfl ?_;refine jH ?_;cases h;exact mM
def gJw(a0:gG)(a1:Int)(a2:List gU)(a3:List jT)(a4:gF)(a5:gY):Option (jN × Int × Int):=
bnd (gEy a5) fun x1=>
bnd (cnd (!x1) (some true) (bnd (gFy 5000 a0 a1 a5) fun x4=>
some (x4 != 0))) fun b2=>
(cnd b2 (some ((jN.mk 0 [] [] 0 (gF.mk 0 [] []) [] [] [] []),8,0)) (
bnd (hAh a0 a1 a2 a3 (gB.mk 0 0 0 [] [] [] 0 0) a5) fun f=>
(cnd (f.1.code==0) (
bnd (gMc a0 a2 (gB.mk f.1.next f.1.count 0 f.1.bindings f.1.equations f.1.obligations f.1.code f.1.at_) a4 f.2.2) fun x8=>
bnd (gHy a0 a2 x8) fun x9=>
bnd (gIj a0 a2 x9 f.2.1) fun q=>
some (q.1,q.2.1,q.2.2)) (
bnd (gIj a0 a2 f.1 f.2.1) fun y=>
some (y.1,y.2.1,y.2.2)))))
theorem hCv(a0:gG)(a1:Int)(a2:List gU)(a3:List jT)(a4:gF)(a5:gY){r:jN × Int × Int}(h:gJw a0 a1 a2 a3 a4 a5=some r):gW Tryz.prog 53 [.d (jX a0),.I a1,.L 4 (kM a2),.L 4 (mK a3),.d (kT a4),.d (vX a5)] [gBo r.1,.i .i64 r.2.1,.i .i64 r.2.2]:=by
 obtain⟨ak⟩:=a0;obtain⟨al,am,an⟩:=a4;obtain⟨ao,ap,aq,ar,⟨f,q,y⟩,au,av⟩:=a5;unfold gJw at h;refine SpI Tryz.func53 fun A _=>?_;refine goL ?_;obtain⟨x1,cc,h⟩:=gK h;refine gX (gD (gMb _ cc)) ?_;obtain⟨b2,hb2,h⟩:=gK h;refine kG ⟨[(1,.I a1),(2,.L 4 (kM a2)),(3,.L 4 (mK a3)),(6,.ptr 0 0),(10,.ptr 1 0),(11,.ptr 2 0),(12,.ptr 3 0),(27,.B b2)],[bPr ak,bTy al am an,bEx ao ap aq ar f q y au av,.box [.I 0,.S [],.S [],.I 0,.I 0,.S [],.nilsl,.nilsl,.nilsl,.nilsl,.nilsl]],Tryz.f53.ntmps⟩ ?_ ?_
 ·refine gqO 21 hb2 (fun c3 hb2=>?_);obtain⟨x4,cd,hb2⟩:=gK hb2;refine gX (gD (gLv _ _ _ _ cd)) ?_;cases hb2;exact eJ
 refine goC h ?_ ?_<;>intro c5 h
 ·refine goL ?_;refine uX (jI TBd.h TZ.h rfl (by repeat constructor)) ?_;exact goR h
 ·refine goS ?_;refine gC1 (jI TBd.h TZ.h rfl (by repeat constructor)) ?_;obtain⟨⟨⟨bl,bm,bn,bo,bp,bq,br,bt⟩,⟨bu,bv,bw,bx,⟨ah,ai,aj⟩,bz,b0,b1,b3⟩,⟨b4,b5,b6⟩⟩,ce,h⟩:=gK h;refine gX (gD (hQ3 _ _ _ _ _ _ ce)) ?_;refine kN (fun c7=>?_) (fun c7=>?_)
  ·replace h:=jU c7 h;refine gCj ?_;refine dZ 0 ?_;refine goW ?_;obtain⟨⟨cm,cn,co,cp,cq,cr,cs,ct⟩,cg,h⟩:=gK h;refine kR (fun _=>gD (gXs _ _ _ _ _ cg)) ?_;obtain⟨⟨cu,cv,cw,cx,cy,cz,c0,c1⟩,ch,h⟩:=gK h;refine kR (fun _=>gD (gSu _ _ _ ch)) ?_;refine goW ?_;refine jY ?_;refine goL ?_;obtain⟨⟨⟨aw,ax,ay,a6,⟨aa,ab,ac⟩,a7,a8,a9,ba⟩,ci,cj⟩,bb,h⟩:=gK h;refine pX (gD (gQa _ _ _ _ bb)) ?_;exact goR h
  ·replace h:=jV c7 h;refine goS ?_;obtain⟨⟨⟨bc,bd,be,bf,⟨ad,ae,ag⟩,bg,bh,bi,bj⟩,ck,cl⟩,bk,h⟩:=gK h;refine pX (gD (gQa _ _ _ _ bk)) ?_;exact goR h
def gBq(y:LB):Option (jL × Bool):=
bnd (gHo y) fun f=>
(cnd (!f.2) (some ((jL.mk [] [] [] [] [] []),false)) (
bnd (wJ f.1) fun q=>
some (q.1,q.2)))
theorem gXa(a0:LB){r:jL × Bool}(h:gBq a0=some r):gW Tryz.prog 47 [.S a0] [gHd r.1,.b r.2]:=by
 unfold gBq at h;refine SpI Tryz.func47 fun A _=>?_;refine goL ?_;obtain⟨⟨⟨f,q⟩,ak⟩,ag,h⟩:=gK h;refine gX (gD (hAl _ ag)) ?_;refine kN (fun c2=>?_) (fun c2=>?_)
 ·replace h:=jU c2 h;refine goL ?_;refine uX (jI TBd.h TZ.h rfl (by repeat constructor)) ?_;exact goR h
 ·replace h:=jV c2 h;refine goS ?_;obtain⟨⟨⟨y,aa,ab,ac,ad,ae⟩,al⟩,ai,h⟩:=gK h;refine pX (gD (gTf _ ai)) ?_;exact goR h
def gBr(f:gG):Option (Bool):=
bnd (gHn f) fun q=>
bnd (cnd ((q.length:Int)==0) (bnd (yV f) fun y=>
some ((y.length:Int)==0)) (some false)) fun b2=>
(some b2)
theorem gTg(q:gG){r:Bool}(h:gBr q=some r):gW Tryz.prog 29 [.d (jX q)] [.b r]:=by
 obtain⟨f⟩:=q;unfold gBr at h;refine SpI Tryz.func29 fun A _=>?_;refine goL ?_;obtain⟨x1,y,h⟩:=gK h;refine gX (gD (hAi _ y)) ?_;obtain⟨b2,hb2,h⟩:=gK h;refine kG ⟨[(2,.B b2)],[bPr f],Tryz.f29.ntmps⟩ ?_ ?_
 ·refine gqA 7 hb2 (fun c3 hb2=>?_);obtain⟨x4,aa,hb2⟩:=gK hb2;refine gX (gD (gRe _ aa)) ?_;cases hb2;exact eJ
 exact goR h
def gNq(w:gG)(kind:Int)(pkg:Int)(at_:Int)(sub:Int)(y:List pQ)(l2:List kU):Option (List pQ × List kU):=
bnd (gAk w kind pkg at_ sub) fun f=>
(cnd (!f.2.2) (some (y,l2)) (
bnd (gJw w pkg f.1.where_ f.1.params f.1.result f.2.1) fun q=>
cnd (q.2.1 != 0) (
gd (l2.length+[(kU.mk kind pkg at_ sub q.2.1 q.2.2)].length≤4294967296) (some (y,(l2++[(kU.mk kind pkg at_ sub q.2.1 q.2.2)])))) (
gd (y.length+[(pQ.mk f.1.kind f.1.package f.1.at_ f.1.sub f.1.vars f.1.where_ f.1.params f.1.result q.1)].length≤4294967296) (some ((y++[(pQ.mk f.1.kind f.1.package f.1.at_ f.1.sub f.1.vars f.1.where_ f.1.params f.1.result q.1)]),l2)))))
theorem hAj(w:gG)(kind:Int)(pkg:Int)(at_:Int)(sub:Int)(l1:List pQ)(l2:List kU)(v1:Nat)(v2:Nat){r:List pQ × List kU}(h:gNq w kind pkg at_ sub l1 l2=some r):Go.Eng.Spec Tryz.prog 30 [.d (jX w),.ptr 0 0,.I kind,.I pkg,.I at_,.I sub] [.box [.sl 1 v1,.sl 2 v2],.arr 50 21 v1 (zR l1),.arr 98 6 v2 (wD l2)] (fun sv Lo=>∃v'1 v'2,sv=.tup []∧Lo=[.box [.sl 1 v'1,.sl 2 v'2],.arr 50 21 v'1 (zR r.1),.arr 98 6 v'2 (wD r.2)]):=by
 obtain⟨bt⟩:=w;unfold gNq at h;refine pK 3 Tryz.func30 rfl (by kernel_rfl) rfl rfl fun A _=>?_;refine goL ?_;obtain⟨⟨⟨ad,ae,ag,ah,ai,aj,ak,⟨f,q,y⟩,⟨ay,a0,a2,a3,⟨av,aw,ax⟩,a4,a5,a6,a7⟩⟩,⟨bf,bg,bh,bi,⟨a8,a9,ba⟩,bj,bk⟩,br⟩,bl,h⟩:=gK h;refine gX (gD (gTy _ _ _ _ _ bl)) ?_;refine kN (fun c2=>?_) (fun c2=>?_)
 ·replace h:=jU c2 h;refine jH ?_;obtain rfl:=Option.some.inj h;exact gHr [] _ ⟨v1,v2,rfl,rfl⟩
 ·replace h:=jV c2 h;refine goS ?_;obtain⟨⟨⟨al,am,an,ao,⟨aa,ab,ac⟩,ap,aq,ar,au⟩,bd,be⟩,bn,h⟩:=gK h;refine gX (gD (hCv _ _ _ _ _ _ bn)) ?_;refine kN (fun c4=>?_) (fun c4=>?_)
  ·replace h:=jU c4 h;refine goL ?_;refine uX (jI TBd.h TZ.h rfl (by repeat constructor)) ?_;refine uN (u:=(.st [.i .i64 kind,.i .i64 pkg,.i .i64 at_,.i .i64 sub,.i .i64 bd,.i .i64 be])) ?_;obtain⟨g5,h⟩:=mI h;refine vR g5 ?_;refine goL ?_;refine jH ?_;obtain rfl:=Option.some.inj h;exact gHr [] _ ⟨v1,(v2+1),rfl,rfl⟩
  ·replace h:=jV c4 h;refine noS ?_;refine gCj ?_;refine dZ 0 ?_;refine goW ?_;refine uK (us:=zR [(pQ.mk ad ae ag ah ai aj ak (gF.mk f q y) (jN.mk al am an ao (gF.mk aa ab ac) ap aq ar au))]) ?_;obtain⟨g6,h⟩:=mI h;refine uL g6 ?_;refine goW ?_;refine jY ?_;refine goL ?_;obtain rfl:=Option.some.inj h;exact jH5 [] _ ⟨(v1+1),v2,rfl,rfl⟩
def vT:LS→(List jL)→Option (gG × Int)
 | [],f=>(some ((gG.mk f),(-1)))
 | x7::xs,f=>(cnd (gHu x7) (
vT xs f) (
bnd (gBq x7) fun q=>
lt_ (cnd (!q.2) (true) ((f.length:Int)==5)) fun y=>
cnd y (some ((gG.mk []),(f.length:Int))) (
gd (f.length+[q.1].length≤4294967296) (
vT xs (f++[q.1])))))
def gAh(f:LB):Option (gG × Int):=
bnd (gHt f 10) fun q=>
vT q []
theorem gXb(a0:LB){r:gG × Int}(h:gAh a0=some r):gW Tryz.prog 27 [.S a0] [jX r.1,.i .i64 r.2]:=by
 unfold gAh at h;refine SpI Tryz.func27 fun A _=>?_;refine goL ?_;refine gC1 (jI TBd.h TZ.h rfl (by repeat constructor)) ?_;obtain⟨x1,am,h⟩:=gK h;refine gX (gD (hA8 _ _ am)) ?_;refine noB ?_;refine uA 86 6 1 0 rfl rfl (by repeat constructor) (by repeat constructor) (by repeat constructor) (by repeat constructor) ?_;show V _ _ _ _ _;refine gB0 5 (fun z5=>?_);refine kQ (fun(y4:Nat)(y2:List jL)(v3:Nat)=>⟨[(2,.ptr 0 0),(4,.ptr 1 0),(5,.L 1 (kD x1)),(6,.N y4)],[.box [.nilsl],.box [.sl 2 v3],.arr 86 6 v3 (gAx y2)],Tryz.f27.ntmps⟩) (fun y4 y2 v3=>vT (x1.drop y4) y2=some r) (fun y4 y2 v3=>x1.length - y4) 0 [] 0 eJ h ?_;rintro y4 y2 v3 h;refine goL ?_;refine kN (fun c6=>?_) (fun c6=>?_)
 ·have ae:=qB c6;obtain⟨x7,aj,ak⟩:=drop_at ae;rw [ak,vT.eq_2] at h;refine noS ?_;refine kC (gP ?_);refine goL ?_;refine gX (gV y4 (gN4 aj)) ?_;refine gX (gD (hHg x7)) ?_;refine kN (fun c8=>?_) (fun c8=>?_)
  ·replace h:=jU c8 h;refine goX ?_;refine gX (jK y4 (by omega)) ?_;exact⟨(y4+1),y2,v3,h,by omega,eJ⟩
  ·replace h:=jV c8 h;refine goS ?_;refine gX (gV y4 (gN4 aj)) ?_;obtain⟨⟨⟨f,y,aa,ab,ac,ad⟩,av⟩,ap,h⟩:=gK h;refine gX (gD (gXa _ ap)) ?_;obtain⟨aq,hb10,h⟩:=pI h;refine kG ⟨[(2,.ptr 0 0),(4,.ptr 1 0),(5,.L 1 (kD x1)),(6,.N y4),(7,.ptr 3 0),(38,.B aq)],[.box [.nilsl],.box [.sl 2 v3],.arr 86 6 v3 (gAx y2),bPk f y aa ab ac ad],Tryz.f27.ntmps⟩ ?_ ?_
   ·exact gqZ 33 hb10
   refine goC h ?_ ?_<;>intro ax h
   ·refine gL3 (P:=Tryz.prog) Mix.h (q3T 0 (.h 3 (hcT 4 (.q 5 .nil)) (hcT 4 (hcT 3 (.q 5 .nil))))) ⟨[(2,.ptr 0 0),(3,.I (y2.length:Int))],[.box [.nilsl],.box [.sl 2 v3],.arr 86 6 v3 (gAx y2),bPk f y aa ab ac ad],Tryz.f27.ntmps⟩ (by kernel_rfl) ?_ ?_
    ·refine goT ?_;refine hSa (hSl gQh) ?_ ?_
     ·refine goT ?_;refine gPa ?_;exact hIu 0 [0,1,2,3]
     refine goT ?_;refine gWw (hSl gQh) ?_;refine goT ?_;refine gPa ?_;exact hIu 0 [0,1,2,3]
    exact goR h
   ·refine goS ?_;refine uN (u:=(.st [.s f,.sl 1 (kD y),.sl 5 (gFr aa),.sl 3 (gAl ab),.sl 12 (gAm ac),.sl 16 (gAn ad)])) ?_;obtain⟨ar,h⟩:=mI h;refine vR ar ?_;refine goL ?_;refine gX (jK y4 (by omega)) ?_;exact⟨(y4+1),(y2++[(jL.mk f y aa ab ac ad)]),(v3+1),h,by omega,eJ⟩
 ·have ae:=qC c6;rw [gT ae,vT.eq_1] at h;refine goX ?_;refine jS 2 rfl rfl ?_;refine jH ?_;cases h;exact mM
def uE(a0:gG)(y7:Nat)(ab:Nat)(f:(List pQ)→(List kU)→Option (List pQ × List kU)):List kW→Nat→(List pQ)→(List kU)→Option (List pQ × List kU)
 | [],q,y,aa=>(f y aa)
 | ag::xs,q,y,aa=>bnd (gNq a0 1 (y7:Int) (ab:Int) (q:Int) y aa) fun ac=>
uE a0 y7 ab f xs (q+1) ac.1 ac.2
def uF(a0:gG)(y7:Nat)(ab:Nat)(f:(List pQ)→(List kU)→Option (List pQ × List kU)):List qX→Nat→(List pQ)→(List kU)→Option (List pQ × List kU)
 | [],q,y,aa=>(f y aa)
 | ag::xs,q,y,aa=>bnd (gNq a0 2 (y7:Int) (ab:Int) (q:Int) y aa) fun ac=>
uF a0 y7 ab f xs (q+1) ac.1 ac.2
def mV(a0:gG)(y7:Nat)(f:(List pQ)→(List kU)→Option (List pQ × List kU)):List kF→Nat→(List pQ)→(List kU)→Option (List pQ × List kU)
 | [],q,y,aa=>(f y aa)
 | ae::xs,q,y,aa=>bnd (gNq a0 3 (y7:Int) (q:Int) 0 y aa) fun ab=>
mV a0 y7 f xs (q+1) ab.1 ab.2
def pY(a0:gG)(y7:Nat)(f:(List pQ)→(List kU)→Option (List pQ × List kU)):List jF→Nat→(List pQ)→(List kU)→Option (List pQ × List kU)
 | [],q,y,aa=>(f y aa)
 | ab::xs,q,y,aa=>uF a0 y7 q (fun ac ad=>pY a0 y7 f xs (q+1) ac ad) ab.methods 0 y aa
def uG(a0:gG)(y7:Nat)(f:(List pQ)→(List kU)→Option (List pQ × List kU)):List mE→Nat→(List pQ)→(List kU)→Option (List pQ × List kU)
 | [],q,y,aa=>(f y aa)
 | ab::xs,q,y,aa=>uE a0 y7 q (fun ac ad=>uG a0 y7 f xs (q+1) ac ad) ab.signatures 0 y aa
def mW(y:gG):List jL→Nat→(List pQ)→(List kU)→Option (List pQ × List kU)
 | [],q,y3,y5=>(some (y3,y5))
 | f::xs,q,y3,y5=>uG y q (fun ac ad=>pY y q (fun ae ag=>mV y q (fun ah ai=>mW y xs (q+1) ah ai) f.functions 0 ae ag) f.instances 0 ac ad) f.traits 0 y3 y5
def gAi(f:gG):Option (List pQ × List kU):=
bnd (gBr f) fun q=>
(cnd (!q) (some ([],[(kU.mk 0 0 0 0 9 0)])) (
mW f f.packages 0 [] []))
theorem gQ3(a0:gG){r:List pQ × List kU}(h:gAi a0=some r):gW Tryz.prog 11 [.d (jX a0)] [.sl 21 (zR r.1),.sl 6 (wD r.2)]:=by
 obtain⟨f⟩:=a0;unfold gAi at h;refine SpI Tryz.func11 fun A _=>?_;refine goL ?_;obtain⟨x1,dn,h⟩:=gK h;refine gX (gD (gTg _ dn)) ?_;refine kN (fun c2=>?_) (fun c2=>?_)
 ·replace h:=jU c2 h;refine goL ?_;refine qO ?_;refine uX (jI TBd.h TZ.h rfl (by repeat constructor)) ?_;refine gAz (kU.mk 0 0 0 0 9 0) ?_;refine goL ?_;refine jS 1 rfl rfl ?_;refine qW 2 rfl rfl ?_;refine jH ?_;cases h;exact mM
 ·replace h:=jV c2 h;refine goS ?_;refine gC1 (jI TBd.h TZ.h rfl (by repeat constructor)) ?_;refine noB ?_;refine uA 50 21 1 0 rfl rfl (by repeat constructor) (by repeat constructor) (by repeat constructor) (by repeat constructor) ?_;show V _ _ _ _ _;refine uA 98 6 1 1 rfl rfl (by repeat constructor) (by repeat constructor) (by repeat constructor) (by repeat constructor) ?_;show V _ _ _ _ _;refine pG 0 0 (fun z8=>?_);refine gMj (fun(q:Nat)(y3:List pQ)(y5:List kU)(v4:Nat)(v6:Nat)=>⟨[(1,.ptr 0 0),(4,.ptr 1 0),(5,.N q)],[bPr f,.box [.sl 2 v4,.sl 3 v6],.arr 50 21 v4 (zR y3),.arr 98 6 v6 (wD y5)],Tryz.f11.ntmps⟩) (fun q y3 y5 v4 v6=>mW (gG.mk f) (f.drop q) q y3 y5=some r) (fun q y3 y5 v4 v6=>f.length - q) 0 [] [] 0 0 eJ h ?_;rintro q y3 y5 v4 v6 h;refine goL ?_;refine kN (fun c9=>?_) (fun c9=>?_)
  ·have a6:=qB c9;obtain⟨dr,a5,bp⟩:=drop_at a6;rw [bp,mW.eq_2] at h;obtain⟨aj,ak,y,al,aa,ab⟩:=dr;refine noS ?_;refine kC (gP ?_);refine goL ?_;refine noB ?_;refine gMj (fun(ae:Nat)(am:List pQ)(an:List kU)(a7:Nat)(a8:Nat)=>⟨[(1,.ptr 0 0),(4,.ptr 1 0),(5,.N q),(6,.N ae)],[bPr f,.box [.sl 2 a7,.sl 3 a8],.arr 50 21 a7 (zR am),.arr 98 6 a8 (wD an)],Tryz.f11.ntmps⟩) (fun ae am an a7 a8=>uG (gG.mk f) q (fun am an=>pY (gG.mk f) q (fun ag ah=>mV (gG.mk f) q (fun ac ad=>mW (gG.mk f) (f.drop (q+1)) (q+1) ac ad) (jL.mk aj ak y al aa ab).functions 0 ag ah) (jL.mk aj ak y al aa ab).instances 0 am an) (y.drop ae) ae am an=some r) (fun ae am an a7 a8=>y.length - ae) 0 y3 y5 v4 v6 eJ h ?_;rintro ae am an a7 a8 h;refine goL ?_;refine gX (gV q (mX a5)) ?_;refine kN (fun bq=>?_) (fun bq=>?_)
   ·have ar:=qB bq;refine gB0 32 (fun ej=>?_);obtain⟨ds,cl,br⟩:=drop_at ar;rw [br,uG.eq_2] at h;obtain⟨dt,du,dv,dw,bh⟩:=ds;refine noS ?_;refine kC (gP ?_);refine goL ?_;refine noB ?_;refine gMj (fun(ao:Nat)(au:List pQ)(av:List kU)(a9:Nat)(ba:Nat)=>⟨[(1,.ptr 0 0),(4,.ptr 1 0),(5,.N q),(6,.N ae),(7,.N ao)],[bPr f,.box [.sl 2 a9,.sl 3 ba],.arr 50 21 a9 (zR au),.arr 98 6 ba (wD av)],Tryz.f11.ntmps⟩) (fun ao au av a9 ba=>uE (gG.mk f) q ae (fun au av=>uG (gG.mk f) q (fun am an=>pY (gG.mk f) q (fun ag ah=>mV (gG.mk f) q (fun ac ad=>mW (gG.mk f) (f.drop (q+1)) (q+1) ac ad) (jL.mk aj ak y al aa ab).functions 0 ag ah) (jL.mk aj ak y al aa ab).instances 0 am an) (y.drop (ae+1)) (ae+1) au av) (bh.drop ao) ao au av=some r) (fun ao au av a9 ba=>bh.length - ao) 0 am an a7 a8 eJ h ?_;rintro ao au av a9 ba h;refine goL ?_;refine gX (gV q (mX a5)) ?_;refine gX (gV ae (gLc cl)) ?_;refine kN (fun bt=>?_) (fun bt=>?_)
    ·have aw:=qB bt;refine gB0 47 (fun ek=>?_);obtain⟨dx,eg,bu⟩:=drop_at aw;rw [bu,uE.eq_2] at h;obtain⟨dy,dz,⟨cm,cn,co⟩,d0,d1,⟨cp,cq,cr,cs,⟨bv,bw,bx⟩,ct,cu⟩⟩:=dx;refine noS ?_;refine kC (gP ?_);refine goL ?_;obtain⟨⟨bi,bj⟩,cv,h⟩:=gK h;refine gLg [1,2,3] (hAj (gG.mk f) 1 (q:Int) (ae:Int) (ao:Int) au av a9 ba cv) ?_;rintro _ _ ⟨bz,b0,rfl,rfl⟩;show VO _ _ _ _ ⟨(_,.tup [])::_,[bPr f,.box [.sl 2 bz,.sl 3 b0],.arr 50 21 bz (zR bi),.arr 98 6 b0 (wD bj)],_⟩ _;refine goL ?_;refine gX (jK ao (by omega)) ?_;exact⟨(ao+1),bi,bj,bz,b0,h,by omega,eJ⟩
    ·have aw:=qC bt;rw [gT aw,uE.eq_1] at h;refine goX ?_;refine gX (jK ae (by omega)) ?_;exact⟨(ae+1),au,av,a9,ba,h,by omega,eJ⟩
   ·have ar:=qC bq;rw [gT ar,uG.eq_1] at h;refine goX ?_;refine noB ?_;refine gMj (fun(ai:Nat)(ag:List pQ)(ah:List kU)(bb:Nat)(bc:Nat)=>⟨[(1,.ptr 0 0),(4,.ptr 1 0),(5,.N q),(8,.N ai)],[bPr f,.box [.sl 2 bb,.sl 3 bc],.arr 50 21 bb (zR ag),.arr 98 6 bc (wD ah)],Tryz.f11.ntmps⟩) (fun ai ag ah bb bc=>pY (gG.mk f) q (fun ag ah=>mV (gG.mk f) q (fun ac ad=>mW (gG.mk f) (f.drop (q+1)) (q+1) ac ad) (jL.mk aj ak y al aa ab).functions 0 ag ah) (aa.drop ai) ai ag ah=some r) (fun ai ag ah bb bc=>aa.length - ai) 0 am an a7 a8 eJ h ?_;rintro ai ag ah bb bc h;refine goL ?_;refine gX (gV q (mX a5)) ?_;refine kN (fun b1=>?_) (fun b1=>?_)
    ·have ax:=qB b1;refine gB0 64 (fun el=>?_);obtain⟨d2,cw,b2⟩:=drop_at ax;rw [b2,pY.eq_2] at h;obtain⟨d3,d4,⟨cx,cy,cz⟩,d5,d6,d7,⟨c0,c1,c3⟩,bk⟩:=d2;refine noS ?_;refine kC (gP ?_);refine goL ?_;refine noB ?_;refine gMj (fun(ap:Nat)(ay:List pQ)(a2:List kU)(bd:Nat)(be:Nat)=>⟨[(1,.ptr 0 0),(4,.ptr 1 0),(5,.N q),(8,.N ai),(9,.N ap)],[bPr f,.box [.sl 2 bd,.sl 3 be],.arr 50 21 bd (zR ay),.arr 98 6 be (wD a2)],Tryz.f11.ntmps⟩) (fun ap ay a2 bd be=>uF (gG.mk f) q ai (fun ay a2=>pY (gG.mk f) q (fun ag ah=>mV (gG.mk f) q (fun ac ad=>mW (gG.mk f) (f.drop (q+1)) (q+1) ac ad) (jL.mk aj ak y al aa ab).functions 0 ag ah) (aa.drop (ai+1)) (ai+1) ay a2) (bk.drop ap) ap ay a2=some r) (fun ap ay a2 bd be=>bk.length - ap) 0 ag ah bb bc eJ h ?_;rintro ap ay a2 bd be h;refine goL ?_;refine gX (gV q (mX a5)) ?_;refine gX (gV ai (gFf cw)) ?_;refine kN (fun b3=>?_) (fun b3=>?_)
     ·have a3:=qB b3;refine gB0 79 (fun em=>?_);obtain⟨d8,eh,b4⟩:=drop_at a3;rw [b4,uF.eq_2] at h;obtain⟨d9,ea,⟨c4,c5,c6,c7,⟨b5,b6,b7⟩,c8,da⟩⟩:=d8;refine noS ?_;refine kC (gP ?_);refine goL ?_;obtain⟨⟨bl,bm⟩,db,h⟩:=gK h;refine gLg [1,2,3] (hAj (gG.mk f) 2 (q:Int) (ai:Int) (ap:Int) ay a2 bd be db) ?_;rintro _ _ ⟨b8,b9,rfl,rfl⟩;show VO _ _ _ _ ⟨(_,.tup [])::_,[bPr f,.box [.sl 2 b8,.sl 3 b9],.arr 50 21 b8 (zR bl),.arr 98 6 b9 (wD bm)],_⟩ _;refine goL ?_;refine gX (jK ap (by omega)) ?_;exact⟨(ap+1),bl,bm,b8,b9,h,by omega,eJ⟩
     ·have a3:=qC b3;rw [gT a3,uF.eq_1] at h;refine goX ?_;refine gX (jK ai (by omega)) ?_;exact⟨(ai+1),ay,a2,bd,be,h,by omega,eJ⟩
    ·have ax:=qC b1;rw [gT ax,pY.eq_1] at h;refine goX ?_;refine noB ?_;refine gMj (fun(aq:Nat)(ac:List pQ)(ad:List kU)(bf:Nat)(bg:Nat)=>⟨[(1,.ptr 0 0),(4,.ptr 1 0),(5,.N q),(10,.N aq)],[bPr f,.box [.sl 2 bf,.sl 3 bg],.arr 50 21 bf (zR ac),.arr 98 6 bg (wD ad)],Tryz.f11.ntmps⟩) (fun aq ac ad bf bg=>mV (gG.mk f) q (fun ac ad=>mW (gG.mk f) (f.drop (q+1)) (q+1) ac ad) (ab.drop aq) aq ac ad=some r) (fun aq ac ad bf bg=>ab.length - aq) 0 ag ah bb bc eJ h ?_;rintro aq ac ad bf bg h;refine goL ?_;refine gX (gV q (mX a5)) ?_;refine kN (fun ca=>?_) (fun ca=>?_)
     ·have a4:=qB ca;refine gB0 96 (fun en=>?_);obtain⟨eb,ei,cb⟩:=drop_at a4;rw [cb,mV.eq_2] at h;obtain⟨ec,ed,ee,ef,⟨dc,dd,de⟩,⟨df,dg,dh,di,⟨cc,cd,ce⟩,dj,dk⟩⟩:=eb;refine noS ?_;refine kC (gP ?_);refine goL ?_;obtain⟨⟨bn,bo⟩,dl,h⟩:=gK h;refine gLg [1,2,3] (hAj (gG.mk f) 3 (q:Int) (aq:Int) 0 ac ad bf bg dl) ?_;rintro _ _ ⟨cf,cg,rfl,rfl⟩;show VO _ _ _ _ ⟨(_,.tup [])::_,[bPr f,.box [.sl 2 cf,.sl 3 cg],.arr 50 21 cf (zR bn),.arr 98 6 cg (wD bo)],_⟩ _;refine goL ?_;refine gX (jK aq (by omega)) ?_;exact⟨(aq+1),bn,bo,cf,cg,h,by omega,eJ⟩
     ·have a4:=qC ca;rw [gT a4,mV.eq_1] at h;refine goX ?_;refine gX (jK q (by omega)) ?_;exact⟨(q+1),ac,ad,bf,bg,h,by omega,eJ⟩
  ·have a6:=qC c9;rw [gT a6,mW.eq_1] at h;refine goX ?_;refine jS 2 rfl rfl ?_;refine jS 3 rfl rfl ?_;refine jH ?_;cases h;exact mM
theorem hNy{x:gH}(hx:wfx x=true)(hn:ndx x≤900)(hd:dpx x≤14)(hl:(fmt x).length≤4900)(hv:vC x=some true):gHo (fmt x)=some (x,true):=by
 have h:gDd 5000 ⟨fmt x,0,0,0,false⟩=some (x,⟨fmt x,((0+(fmt x).length:Nat):Int),0,0+ndx x,false⟩):=
  hOg (s:=fmt x) (by omega) x 0 5000 0 0 [] hx (by simp) (fun b t h=>by cases h) (by omega) (by omega) (by omega) (by omega) (by omega)
 unfold gHo;rw [kX h];simp only;rw [kX (hQ7 (.inl (by simp)))];simp only [gZ];rw [show (((0+(fmt x).length:Nat):Int) !=((fmt x).length:Int))=false from by rw [Nat.zero_add];exact bne_self_eq_false _];simp only [gZ,hv,bnd,Bool.not_true]
def noL(l:LB):Bool:=l.all fun b=> !((b.toNat:Int)==10)
theorem gSe(s:LB)(hl:s.length≤4294967296)(tail:LB):∀(a:LB)(p q n:Nat)(acc:LS),noL a=true→s.drop p=a++tail→qG s 10 (n+a.length) acc q (p:Int)=qG s 10 n acc q ((p+a.length:Nat):Int)
 | [],p,q,n,acc,_,_=>rfl
 | b::a,p,q,n,acc,hb,h=>by
   simp only [noL,List.all_cons,Bool.and_eq_true,Bool.not_eq_true'] at hb;obtain⟨f,y,h3⟩:=gHq (by simpa using h);rw [show n+(b::a).length=(n+a.length)+1 by simp;omega,qG];rw [show decide ((p:Int)≤(s.length:Int))=true from decide_eq_true (by omega),show((p:Int)==(s.length:Int))=false from beq_eq_false_iff_ne.2 (by omega)];simp only [kJ,gZ,f,bnd,hb.1];rw [hEw (by omega),gSe s hl tail a (p+1) q n acc hb.2 y];simp only [List.length_cons];rw [show p+1+a.length=p+(a.length+1) by omega]
theorem hCw(s:LB)(hl:s.length≤4294967295)(q n:Nat)(acc:LS)(hq:q≤s.length)(ha:acc.length≤4294967295):qG s 10 (n+2) acc q (s.length:Int)=some (acc++[s.drop q]):=by
 rw [qG];rw [show decide ((s.length:Int)≤(s.length:Int))=true from decide_eq_true (by omega),beq_self_eq_true];simp only [kJ,bnd];rw [wI ⟨by omega,by omega,by omega⟩,wI (by simp;omega),hEw (by omega),qG,show decide (((s.length+1:Nat):Int)≤(s.length:Int))=false from decide_eq_false (by omega)];simp only [gZ,Int.toNat_natCast];rw [List.take_of_length_le (by simp)]
theorem hQ4(s:LB)(hl:s.length≤4294967295)(p q n:Nat)(acc:LS){t:LB}(h:s.drop p=10::t)(hq:q≤p)(ha:acc.length≤4294967295):qG s 10 (n+1) acc q (p:Int)=qG s 10 n (acc++[(s.drop q).take (p - q)]) ((p+1:Nat):Int) ((p+1:Nat):Int):=by
 obtain⟨f,y,h3⟩:=gHq h;rw [qG];rw [show decide ((p:Int)≤(s.length:Int))=true from decide_eq_true (by omega),show((p:Int)==(s.length:Int))=false from beq_eq_false_iff_ne.2 (by omega)];simp only [kJ,gZ,f,bnd];rw [show ((((10:UInt8).toNat:Nat):Int)==10)=true from by decide];simp only [kJ];rw [wI ⟨by omega,by omega,by omega⟩,wI (by simp;omega),hEw (by omega)];simp only [Int.toNat_natCast]
theorem hXh(l:LB)(h:noL l=true)(hl:l.length≤4900):gHt l 10=some [l]:=by
 have f:=gSe l (by omega) [] l 0 0 (5000 - l.length) [] h (by simp);have q:=hCw l (by omega) 0 (5000 - l.length - 2) [] (by omega) (by simp);unfold gHt gIu;rw [show 5000 - l.length+l.length=5000 by omega,Nat.zero_add] at f;rw [show 5000 - l.length - 2+2=5000 - l.length by omega] at q;exact(f.trans q).trans (by simp)
theorem hXi(l m:LB)(h:noL l=true)(h':noL m=true)(hl:l.length+m.length≤4900):gHt (l++[10]++m) 10=some [l,m]:=by
 have hs:(l++[10]++m).length=l.length+1+m.length:=by simp;omega
 have q:=gSe (l++[10]++m) (by omega) (10::m) l 0 0 (5000 - l.length) [] h (by simp);have f:=hQ4 (l++[10]++m) (by omega) l.length 0 (4999 - l.length) [] (t:=m) (by simp) (by omega) (by simp);have y:=gSe (l++[10]++m) (by omega) [] m (l.length+1) (l.length+1) (4999 - l.length - m.length) [l] h' (by simp [List.drop_append]);have h4:=hCw (l++[10]++m) (by omega) (l.length+1) (4997 - l.length - m.length) [l] (by omega) (by simp);unfold gHt gIu;rw [show 5000 - l.length+l.length=5000 by omega,Nat.zero_add] at q;rw [show 4999 - l.length+1=5000 - l.length by omega] at f;rw [show 4999 - l.length - m.length+m.length=4999 - l.length by omega] at y;rw [show 4997 - l.length - m.length+2=4999 - l.length - m.length by omega,hs] at h4;have h5:(List.drop 0 (l++[10]++m)).take (l.length - 0)=l:=by simp
 rw [h5,List.nil_append] at f;refine((q.trans f).trans (y.trans h4)).trans ?_;simp [List.drop_append]
def gPe(c:kP):Option (gG × kP):=
bnd (gIh c) fun f=>
bnd (gAh f.1) fun q=>
(some (q.1,f.2))
theorem hNz(c:kP){r:gG × kP}(h:gPe c=some r):Go.Eng.Spec Tryz.prog 10 [.ptr 0 0] [bCu c.b c.i c.h] (fun sv Lo=>sv=.d (jX r.1)∧Lo=[bCu r.2.b r.2.i r.2.h]):=by
 obtain⟨ab,ac,ad⟩:=c;unfold gPe at h;refine pK 1 Tryz.func10 rfl (by kernel_rfl) rfl rfl fun A _=>?_;refine goL ?_;obtain⟨⟨ah,⟨q,y,aa⟩⟩,ae,h⟩:=gK h;refine gCt 0 (gXp (kP.mk ab ac ad) ae) ?_;obtain⟨⟨⟨f⟩,ai⟩,ag,h⟩:=gK h;refine gX (gD (gXb _ ag)) ?_;refine jH ?_;obtain rfl:=Option.some.inj h;exact gHr [.d (.st [.sl 6 (gAx f)])] _ ⟨rfl,rfl⟩
structure SW (w:gG)(all:List gI):Prop extends WI w all
structure IK (i:jF):Prop where
 hd:tok i.head
 hs:tnd i.head≤40000
 wh:i.where_.length≤4∧∀b∈i.where_,tok b.type_∧dyS b.type_∧tnd b.type_≤5
def DK(d:jW):Prop:=∀c∈d.constructors,∀f∈c.fields,tok f
def PK(p:jL):Prop:=((p.instances.length≤100∧∀i∈p.instances,IK i)∧∀d∈p.dataTypes,DK d)∧∀t∈p.traits,t.signatures.length≤100
def hZy(x:gH)(m:Nat):Bool:=
 wfx x && decide (ndx x≤900) && decide (dpx x≤14) && decide ((fmt x).length≤m) && noL (fmt x) && !(gHu (fmt x)) && (vC x==some true)
theorem hN2{x:gH}{m:Nat}{p:jL}(hm:m≤4900)(h:hZy x m=true)(hp:wJ x=some (p,true)):gBq (fmt x)=some (p,true)∧gHu (fmt x)=false∧noL (fmt x)=true∧(fmt x).length≤m:=by
 unfold hZy at h;simp only [Bool.and_eq_true,decide_eq_true_eq,Bool.not_eq_true',beq_iff_eq] at h;obtain⟨⟨⟨⟨⟨⟨f,q⟩,y⟩,h4⟩,h5⟩,h6⟩,h7⟩:=h;refine⟨?_,h6,h5,h4⟩;unfold gBq;rw [kX (hNy f q y (by omega) h7)];simp only [Bool.not_true,gZ,hp,bnd]
def ikB(i:jF):Bool:=(decide (tok i.head) && decide (tnd i.head≤40000)) && (decide (i.where_.length≤4) && i.where_.all fun b=>(b.type_.kind==1) && b.type_.args.isEmpty)
theorem hXj{i:jF}(h:ikB i=true):IK i:=by
 unfold ikB at h;simp only [Bool.and_eq_true,beq_iff_eq,decide_eq_true_eq,List.all_eq_true] at h;obtain⟨⟨y,h3⟩,h4,h5⟩:=h;refine⟨y,h3,h4,fun b hb=>?_⟩;obtain⟨f,q⟩:=h5 b hb;rcases hx:b.type_ with ⟨k,s,ts⟩
 rw [hx] at f q;obtain rfl:ts=[]:=List.isEmpty_iff.1 q;have f:k=1:=f;subst f;exact⟨hOi _ _,⟨fun h=>absurd h (by decide),trivial⟩,by simp [tnd,gN5]⟩
def pkB(p:jL):Bool:=((decide (p.instances.length≤100) && p.instances.all ikB) && p.dataTypes.all fun d=>d.constructors.all fun c=>c.fields.all fun f=>decide (tok f)) && p.traits.all fun t=>decide (t.signatures.length≤100)
theorem hSq{p:jL}(h:pkB p=true):PK p:=by
 unfold pkB at h;simp only [Bool.and_eq_true,decide_eq_true_eq,List.all_eq_true] at h;exact⟨⟨⟨h.1.1.1,fun i hi=>hXj (h.1.1.2 i hi)⟩,fun d hd c hc f hf=>h.1.2 d hd c hc f hf⟩,h.2⟩
def pC(b:Bool):jL:=match wJ (gXq b)with
 | some (p,_)=>p
 | none=>⟨[],[],[],[],[],[]⟩
def gQj(x:gH):jF:=match gDa x with
 | some (i,_)=>i
 | none=>⟨[],[],⟨0,[],[]⟩,[],false,false,⟨0,[],[]⟩,[]⟩
def hEu(x:gH):kF:=match gDb x with
 | some (f,_)=>f
 | none=>⟨[],[],[],[],⟨0,[],[]⟩,⟨0,[],[],0,⟨0,[],[]⟩,[],[]⟩⟩
def jH8(x:gH):jW:=match gC9 x with
 | some (d,_)=>d
 | none=>⟨[],[],[]⟩
def apP(ins:List jF)(fns:List kF):jL:=⟨[97,112,112],[[99,111,114,101]],[],hJo.map jH8,ins,fns⟩
def fns(m:gH)(f q y:List gH):List kF:=hEu (gQm m)::(f++(q++y)).map hEu
def fam:List (List gH × gH × List gH × List gH × List gH):=gSq.flatMap fun h=>gY4.flatMap fun m=>[[],hBe].flatMap fun f=>[[],hBf].flatMap fun q=>[[],hBh].map fun y=>(h,m,f,q,y)
theorem hN3{h:List gH}{m:gH}{f q y:List gH}(h1:h∈gSq)(h2:m∈gY4)(h3:f=[]∨f=hBe)(h4:q=[]∨q=hBf)(h5:y=[]∨y=hBh):(h,m,f,q,y)∈fam:=
 List.mem_flatMap.2 ⟨h,h1,List.mem_flatMap.2 ⟨m,h2,List.mem_flatMap.2 ⟨f,by rcases h3 with rfl | rfl<;>simp,List.mem_flatMap.2 ⟨q,by rcases h4 with rfl | rfl<;>simp,List.mem_map.2 ⟨y,by rcases h5 with rfl | rfl<;>simp,rfl⟩⟩⟩⟩⟩
def jE4(q:List gH × gH × List gH × List gH × List gH):gH:=hJp q.1 q.2.1 q.2.2.1 q.2.2.2.1 q.2.2.2.2
def jE5(q:List gH × gH × List gH × List gH × List gH):jL:=apP (q.1.map gQj) (fns q.2.1 q.2.2.1 q.2.2.2.1 q.2.2.2.2)
theorem hXk:(fam.map fun q=>wJ (jE4 q))=fam.zipIdx.map fun q=>some (jE5 q.1,true):=by kernel_rfl
theorem hXl{q:List gH × gH × List gH × List gH × List gH}(hq:q∈fam):wJ (jE4 q)=some (jE5 q,true):=by
 obtain⟨i,hi,rfl⟩:=List.mem_iff_getElem.1 hq;have h:=congrArg (fun l=>l[i]?) hXk;simpa [List.getElem?_eq_getElem hi] using h
end Go.Proofs.YtfjncckelekpiaaGreat
