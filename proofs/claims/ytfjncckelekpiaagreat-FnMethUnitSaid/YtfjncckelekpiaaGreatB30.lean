import Derived.Test.YtfjncckelekpiaaGreatB29
set_option maxHeartbeats 4000000
set_option linter.unusedVariables false
set_option linter.unusedSimpArgs false
set_option linter.unusedSectionVars false
namespace Go.Proofs.YtfjncckelekpiaaGreat
open Go Go.Eng
attribute [local irreducible] V VO VQ VY Quiet QR gW pJ Rng vF uW uI
def zW(a0:gG)(a1:Int):List kW→Option (Int)
 | []=>(some 0)
 | f::xs=>bnd (gPr a0 a1 f.params) fun q=>
bnd (zP 5000 a0 a1 f.result) fun y=>
lt_ (cnd ((gBj [q,y])==0) (f.hasDefault) (false)) fun ac=>
(cnd ac (
bnd (gFy 5000 a0 a1 f.body) fun ab=>
cnd (ab != 0) (some ab) (
zW a0 a1 xs )) (cnd ((gBj [q,y]) != 0) (some (gBj [q,y])) (
zW a0 a1 xs )))
def gBh(f:gG)(a1:Int)(q:mE):LS→Option (Int)
 | []=>zW f a1 q.signatures
 | x4::xs=>bnd (gF7 f a1 x4) fun y=>
(cnd (!y.2) (some 3) (cnd y.1.auto (some 7) (
gBh f a1 q xs )))
def gEz(q:gG)(a1:Int)(f:mE):Option (Int):=
gBh q a1 f f.supertraits
theorem gXr(a0:gG)(a1:Int)(a2:mE){r:Int}(h:gEz a0 a1 a2=some r):gW Tryz.prog 99 [.d (jX a0),.I a1,.d (gF2 a2)] [.i .i64 r]:=by
 obtain⟨y⟩:=a0;obtain⟨ag,f,ah,ai,q⟩:=a2;unfold gEz at h;refine SpI Tryz.func99 fun A _=>?_;refine goL ?_;refine noB ?_;refine pG 1 1 (fun z2=>?_);refine kZ (fun(y1:Nat)=>⟨[(1,.I a1),(3,.ptr 0 0),(5,.ptr 1 0),(7,.N y1)],[bPr y,bTr ag f ah ai q],Tryz.f99.ntmps⟩) (fun y1=>gBh (gG.mk y) a1 (mE.mk ag f ah ai q) (f.drop y1)  =some r) (fun y1=>f.length - y1) 0 eJ h ?_;rintro y1 h;refine goL ?_;refine kN (fun c3=>?_) (fun c3=>?_)
 ·have aa:=qB c3;obtain⟨x4,bn,ba⟩:=drop_at aa;rw [ba,gBh.eq_2] at h;refine noS ?_;refine kC (gP ?_);refine sZ 1 ?_;refine goW ?_;refine kR (fun _=>gV y1 (gN4 bn)) ?_;refine goW ?_;obtain⟨⟨⟨bf,bg,bh,bi,bj⟩,bt⟩,bo,h⟩:=gK h;refine kR (fun _=>gD (gKi _ _ _ bo)) ?_;refine goW ?_;refine jY ?_;refine goC h ?_ ?_<;>intro c6 h
  ·exact goR h
  ·refine goS ?_;refine kN (fun c7=>?_) (fun c7=>?_)
   ·replace h:=jU c7 h;exact goR h
   ·replace h:=jV c7 h;refine goS ?_;refine gX (jK y1 (by omega)) ?_;exact⟨(y1+1),h,by omega,eJ⟩
 ·have aa:=qC c3;rw [gT aa,gBh.eq_1] at h;refine goX ?_;refine noB ?_;refine pG 1 4 (fun z9=>?_);refine kZ (fun(y8:Nat)=>⟨[(1,.I a1),(3,.ptr 0 0),(5,.ptr 1 0),(10,.N y8)],[bPr y,bTr ag f ah ai q],Tryz.f99.ntmps⟩) (fun y8=>zW (gG.mk y) a1 (q.drop y8)  =some r) (fun y8=>q.length - y8) 0 eJ h ?_;rintro y8 h;refine goL ?_;refine kN (fun aw=>?_) (fun aw=>?_)
  ·have ab:=qB aw;obtain⟨bq,bb,ax⟩:=drop_at ab;rw [ax,zW.eq_2] at h;obtain⟨ay,a3,⟨ak,al,am⟩,a4,a5,⟨an,ao,ap,aq,⟨ac,ad,ae⟩,ar,au⟩⟩:=bq;refine noS ?_;refine kC (gP ?_);refine goL ?_;refine pX (gV y8 (vU bb)) ?_;refine gCj ?_;refine sZ 0 ?_;refine goW ?_;obtain⟨a6,bc,h⟩:=gK h;refine kR (fun _=>gD (gX6 _ _ _ bc)) ?_;refine goW ?_;obtain⟨a7,bd,h⟩:=gK h;refine kR (fun _=>gD (gBz _ _ _ _ bd)) ?_;refine uK (us:=yC [a6,a7]) ?_;refine kR (fun _=>gD (gSv [a6,a7])) ?_;refine goW ?_;refine jY ?_;refine goL ?_;obtain⟨br,hb14,h⟩:=pI h;refine kG ⟨[(1,.I a1),(3,.ptr 0 0),(5,.ptr 1 0),(10,.N y8),(11,.ptr 2 0),(12,.I (gBj [a6,a7])),(64,.B br)],[bPr y,bTr ag f ah ai q,bSg ay a3 ak al am a4 a5 an ao ap aq ac ad ae ar au],Tryz.f99.ntmps⟩ ?_ ?_
   ·exact gqZ 61 hb14
   refine goC h ?_ ?_<;>intro bu h
   ·refine goL ?_;obtain⟨bv,be,h⟩:=gK h;refine gX (gD (gLv _ _ _ _ be)) ?_;refine kN (fun a8=>?_) (fun a8=>?_)
    ·replace h:=jU a8 h;exact goR h
    ·replace h:=jV a8 h;refine goS ?_;refine gX (jK y8 (by omega)) ?_;exact⟨(y8+1),h,by omega,eJ⟩
   ·refine goS ?_;refine kN (fun a9=>?_) (fun a9=>?_)
    ·replace h:=jU a9 h;exact goR h
    ·replace h:=jV a9 h;refine goS ?_;refine gX (jK y8 (by omega)) ?_;exact⟨(y8+1),h,by omega,eJ⟩
  ·have ab:=qC aw;rw [gT ab,zW.eq_1] at h;refine goX ?_;refine jH ?_;cases h;exact mM
def gFj(a0:gG)(a1:Int)(y:jF):Nat→Int→Int→Option (Int)
 | 0,f,q=>none
 | aa+1,f,q=>lt_ (cnd (decide (f < (y.methods.length:Int))) (q==0) (false)) fun ab=>
(cnd ab (
bnd (at? y.methods f) fun ac=>
bnd (gFy 5000 a0 a1 ac.body) fun ad=>
gFj a0 a1 y aa (IntKind.i64.wrap (f+1)) ad) (some q))
def gNb(q:gG)(a1:Int)(f:jF)(n0:Nat):Option (Int):=
bnd (gF7 q a1 f.trait) fun y=>
(cnd (!y.2) (some 3) (cnd y.1.auto (some 7) (
bnd (zP 5000 q a1 f.head) fun x4=>
bnd (gPp q a1 f.where_) fun x5=>
(cnd ((gBj [x4,x5]) != 0) (some (gBj [x4,x5])) (cnd (!(f.hasAssoc==y.1.assoc)) (some 4) (
bnd (cnd f.hasAssoc (
bnd (zP 5000 q a1 f.assoc) fun ac=>
some ac) (some (gBj [x4,x5]))) fun b8=>
cnd (b8 != 0) (some b8) (cnd (!(gPn y.1 f)) (some 6) (
gFj q a1 f n0 0 b8))))))))
theorem gZc(a0:gG)(a1:Int)(a2:jF){n0:Nat}{r:Int}(h:gNb a0 a1 a2 n0=some r):gW Tryz.prog 101 [.d (jX a0),.I a1,.d (vY a2)] [.i .i64 r]:=by
 obtain⟨ar⟩:=a0;obtain⟨aj,ak,⟨f,q,y⟩,al,am,an,⟨aa,ab,ac⟩,ao⟩:=a2;unfold gNb at h;refine SpI Tryz.func101 fun A _=>?_;refine goL ?_;obtain⟨⟨⟨ad,ae,ag,ah,ai⟩,bq⟩,bf,h⟩:=gK h;refine gX (gD (gKi _ _ _ bf)) ?_;refine kC (gP ?_);refine goC h ?_ ?_<;>intro c2 h
 ·exact goR h
 ·refine goC h ?_ ?_<;>intro c3 h
  ·exact goR h
  ·refine noS ?_;refine sZ 0 ?_;refine goW ?_;obtain⟨x4,bg,h⟩:=gK h;refine kR (fun _=>gD (gBz _ _ _ _ bg)) ?_;refine goW ?_;obtain⟨x5,bh,h⟩:=gK h;refine kR (fun _=>gD (gX4 _ _ _ bh)) ?_;refine uK (us:=yC [x4,x5]) ?_;refine kR (fun _=>gD (gSv [x4,x5])) ?_;refine goW ?_;refine jY ?_;refine goC h ?_ ?_<;>intro c6 h
   ·exact goR h
   ·refine goS ?_;refine kN (fun c7=>?_) (fun c7=>?_)
    ·replace h:=jU c7 h;exact goR h
    ·replace h:=jV c7 h;refine goS ?_;obtain⟨b8,hb8,h⟩:=gK h;refine gHf ⟨[(1,.I a1),(3,.ptr 0 0),(5,.ptr 1 0),(7,.ptr 2 0),(9,.I b8)],[bPr ar,bIn aj ak f q y al am an aa ab ac ao,bTr ad ae ag ah ai],Tryz.f101.ntmps⟩ ?_ ?_
     ·refine kN (fun c9=>?_) (fun c9=>?_)
      ·replace hb8:=jU c9 hb8;refine goL ?_;obtain⟨bv,a5,hb8⟩:=gK hb8;refine gX (gD (gBz _ _ _ _ a5)) ?_;cases hb8;exact eJ
      ·replace hb8:=jV c9 hb8;refine gCs ?_;cases hb8;exact eJ
     refine goC h ?_ ?_<;>intro bw h
     ·exact goR h
     ·refine goS ?_;refine gX (gD (hHe (mE.mk ad ae ag ah ai) (jF.mk aj ak (gF.mk f q y) al am an (gF.mk aa ab ac) ao))) ?_;refine kN (fun aw=>?_) (fun aw=>?_)
      ·replace h:=jU aw h;exact goR h
      ·replace h:=jV aw h;refine goS ?_;refine noB ?_;refine kQ (fun(ap:Nat)(aq:Int)(au:Int)=>⟨[(1,.I a1),(3,.ptr 0 0),(5,.ptr 1 0),(9,.I au),(10,.I aq)],[bPr ar,bIn aj ak f q y al am an aa ab ac ao,bTr ad ae ag ah ai],Tryz.f101.ntmps⟩) (fun ap aq au=>gFj (gG.mk ar) a1 (jF.mk aj ak (gF.mk f q y) al am an (gF.mk aa ab ac) ao) ap aq au=some r) (fun ap aq au=>ap) n0 0 b8 eJ h ?_;rintro ap aq au h;rcases ap with _ | ap
       ·cases h
       rw [gFj.eq_2] at h;refine goL ?_;obtain⟨bk,hb16,h⟩:=pI h;refine kG ⟨[(1,.I a1),(3,.ptr 0 0),(5,.ptr 1 0),(9,.I au),(10,.I aq),(67,.B bk)],[bPr ar,bIn aj ak f q y al am an aa ab ac ao,bTr ad ae ag ah ai],Tryz.f101.ntmps⟩ ?_ ?_
       ·exact gqZ 64 hb16
       refine goC h ?_ ?_<;>intro bx h
       ·refine noS ?_;refine kC (gP ?_);refine goL ?_;obtain⟨bl,av,h⟩:=gK h;obtain⟨ax,av⟩:=yY av;obtain⟨bm,bn,⟨a6,a7,a8,a9,⟨ay,a3,a4⟩,ba,bb⟩⟩:=bl;refine wC (kY ax (gMi av)) ?_;refine goL ?_;obtain⟨bo,bc,h⟩:=gK h;refine wC (gD (gLv _ _ _ _ bc)) ?_;refine goL ?_;refine gX (pR) ?_;exact⟨ap,(IntKind.i64.wrap (aq+1)),bo,h,Nat.lt_succ_self _,eJ⟩
       ·refine goX ?_;refine jH ?_;cases h;exact mM
def gFz(f:gG)(q:Int)(y:jF):Option (Int):=gNb f q y 5000
def gIi(q:gG)(a1:Int)(f:kF):Nat→Int→Int→Option (Int)
 | 0,y2,y=>none
 | n4+1,y2,y=>lt_ (cnd (decide (y < (f.params.length:Int))) (y2==0) (false)) fun b5=>
(cnd b5 (
bnd (at? f.params y) fun x8=>
bnd (zP 5000 q a1 x8.type_) fun x9=>
gIi q a1 f n4 x9 (IntKind.i64.wrap (y+1))) (
bnd (zP 5000 q a1 f.result) fun ab=>
bnd (gFy 5000 q a1 f.body) fun ac=>
some (gBj [y2,ab,ac])))
def gQq(f:gG)(a1:Int)(q:kF)(y:Nat):Option (Int):=
bnd (gPp f a1 q.where_) fun x1=>
gIi f a1 q y x1 0
theorem hDo(a0:gG)(a1:Int)(a2:kF){n0:Nat}{r:Int}(h:gQq a0 a1 a2 n0=some r):gW Tryz.prog 102 [.d (jX a0),.I a1,.d (gCr a2)] [.i .i64 r]:=by
 obtain⟨ak⟩:=a0;obtain⟨al,am,an,ao,⟨aa,ab,ac⟩,⟨ad,ae,ag,ah,⟨f,q,y⟩,ai,aj⟩⟩:=a2;unfold gQq at h;refine SpI Tryz.func102 fun A _=>?_;refine goL ?_;obtain⟨x1,a9,h⟩:=gK h;refine gX (gD (gX4 _ _ _ a9)) ?_;refine noB ?_;refine kQ (fun(n4:Nat)(y2:Int)(y3:Int)=>⟨[(1,.I a1),(3,.ptr 0 0),(5,.ptr 1 0),(7,.I y2),(8,.I y3)],[bPr ak,.box [.S al,.L 1 (kD am),.L 4 (kM an),.L 4 (mK ao),.I aa,.S ab,.L 3 (jJ ac),.I ad,.S ae,.S ag,.I ah,.I f,.S q,.L 3 (jJ y),.L 9 (vP ai),.L 11 (gBv aj)]],Tryz.f102.ntmps⟩) (fun n4 y2 y3=>gIi (gG.mk ak) a1 (kF.mk al am an ao (gF.mk aa ab ac) (gY.mk ad ae ag ah (gF.mk f q y) ai aj)) n4 y2 y3=some r) (fun n4 y2 y3=>n4) n0 x1 0 eJ h ?_;rintro n4 y2 y3 h;rcases n4 with _ | n4
 ·cases h
 rw [gIi.eq_2] at h;refine goL ?_;obtain⟨b5,hb5,h⟩:=pI h;refine kG ⟨[(1,.I a1),(3,.ptr 0 0),(5,.ptr 1 0),(7,.I y2),(8,.I y3),(22,.B b5)],[bPr ak,.box [.S al,.L 1 (kD am),.L 4 (kM an),.L 4 (mK ao),.I aa,.S ab,.L 3 (jJ ac),.I ad,.S ae,.S ag,.I ah,.I f,.S q,.L 3 (jJ y),.L 9 (vP ai),.L 11 (gBv aj)]],Tryz.f102.ntmps⟩ ?_ ?_
 ·exact gqZ 19 hb5
 refine goC h ?_ ?_<;>intro c7 h
 ·refine noS ?_;refine kC (gP ?_);refine goL ?_;obtain⟨x8,au,h⟩:=gK h;obtain⟨av,au⟩:=yY au;obtain⟨bc,⟨a4,a5,a6⟩⟩:=x8;refine wC (kY av (gQf au)) ?_;refine goL ?_;obtain⟨x9,ba,h⟩:=gK h;refine wC (gD (gBz _ _ _ _ ba)) ?_;refine goL ?_;refine gX (pR) ?_;exact⟨n4,x9,(IntKind.i64.wrap (y3+1)),h,Nat.lt_succ_self _,eJ⟩
 ·refine noX ?_;refine sZ 0 ?_;refine goW ?_;obtain⟨aw,ax,h⟩:=gK h;refine kR (fun _=>gD (gBz _ _ _ _ ax)) ?_;refine goW ?_;obtain⟨ay,a3,h⟩:=gK h;refine kR (fun _=>gD (gLv _ _ _ _ a3)) ?_;refine uK (us:=yC [y2,aw,ay]) ?_;refine kR (fun _=>gD (gSv [y2,aw,ay])) ?_;refine goW ?_;refine jY ?_;exact goR h
def gHx(f:gG)(q:Int)(y:kF):Option (Int):=gQq f q y 5000
def gI6(q:kH)(a1:gB)(f:Int)(y:gF)(a4:gF):Option (gB):=
(cnd q.keep (
gd (([]:List kK).length+a1.equations.length≤4294967296) (
gd (([]++a1.equations).length+[(kK.mk y a4 f)].length≤4294967296) (some (gB.mk a1.next a1.count f a1.bindings (([]++a1.equations)++[(kK.mk y a4 f)]) a1.obligations a1.code a1.at_)))) (
bnd (gKt 5000 q.w q.where_ (gB.mk a1.next a1.count f a1.bindings a1.equations a1.obligations a1.code a1.at_) y a4 40) fun x4=>
some x4))
theorem gOm(a0:kH)(a1:gB)(a2:Int)(a3:gF)(a4:gF){r:gB}(h:gI6 a0 a1 a2 a3 a4=some r):gW Tryz.prog 237 [.d (gF5 a0),.d (jR a1),.I a2,.d (kT a3),.d (kT a4)] [jR r]:=by
 obtain⟨⟨ad⟩,ak,al,am⟩:=a0;obtain⟨an,ao,ap,aq,ar,au,av,aw⟩:=a1;obtain⟨f,q,y⟩:=a3;obtain⟨aa,ab,ac⟩:=a4;unfold gI6 at h;refine SpI Tryz.func237 fun A _=>?_;refine goC h ?_ ?_<;>intro c1 h
 ·refine sZ 1 ?_;refine goW ?_;refine gTb ?_;refine goW ?_;obtain⟨g2,h⟩:=mI h;refine uL g2 ?_;refine goW ?_;refine uK (us:=vV [(kK.mk (gF.mk f q y) (gF.mk aa ab ac) a2)]) ?_;obtain⟨g3,h⟩:=mI h;refine uL g3 ?_;refine goW ?_;refine jY ?_;refine goL ?_;refine jS 5 rfl rfl ?_;refine jH ?_;cases h;exact mM
 ·refine goS ?_;obtain⟨⟨ax,ay,a5,a6,a7,a8,a9,ba⟩,aj,h⟩:=gK h;refine pX (gD (gQo _ _ _ _ _ _ _ aj)) ?_;exact goR h
def gDp(a0:gG)(a1:List gU)(q:Int→Int→Int→(List gM)→(List kK)→(List jZ)→Int→Int→Option (gB)):List kK→Int→Int→Int→(List gM)→(List kK)→(List jZ)→Int→Int→Option (gB)
 | [],y,aa,ai,ab,ac,ad,ae,ag=>(q y aa ai ab ac ad ae ag)
 | ah::xs,y,aa,ai,ab,ac,ad,ae,ag=>bnd (gKt 5000 a0 a1 (gB.mk y aa ah.node ab ac ad ae ag) ah.a ah.b 40) fun f=>
gDp a0 a1 q xs f.next f.count f.node f.bindings f.equations f.obligations f.code f.at_
def gDq(a0:gG)(a1:List gU)(a2:gB):Nat→Int→Int→Int→(List gM)→(List kK)→(List jZ)→Int→Int→Option (gB)
 | 0,y1,y2,y3,y4,y5,y6,y7,y8=>none
 | n9+1,y1,y2,y3,y4,y5,y6,y7,y8=>(cnd (y7==0) (
gDp a0 a1 (fun q y an aa f ab ac ad=>cnd (decide ((f.length:Int)≥(y5.length:Int))) (some (gB.mk q y a2.node aa f ab ac ad)) (
gDq a0 a1 a2 n9 q y an aa f ab ac ad)) y5 y1 y2 y3 y4 [] y6 y7 y8) (some (gB.mk y1 y2 a2.node y4 y5 y6 y7 y8)))
def gOn(q:gG)(a1:List gU)(f:gB)(y:Nat):Option (gB):=
gDq q a1 f y f.next f.count f.node f.bindings f.equations f.obligations f.code f.at_
theorem hBo(a0:gG)(a1:List gU)(a2:gB){n0:Nat}{r:gB}(h:gOn a0 a1 a2 n0=some r):gW Tryz.prog 124 [.d (jX a0),.L 4 (kM a1),.d (jR a2)] [jR r]:=by
 obtain⟨ai⟩:=a0;obtain⟨ak,al,y,am,an,ao,ap,aq⟩:=a2;unfold gOn at h;refine SpI Tryz.func124 fun A _=>?_;refine goL ?_;refine kC (gP ?_);show V _ _ _ _ _;refine gW0 (fun(n9:Nat)(y1:Int)(y2:Int)(y3:Int)(y4:List gM)(y5:List kK)(y6:List jZ)(y7:Int)(y8:Int)=>⟨[(1,.L 4 (kM a1)),(3,.ptr 0 0),(5,.ptr 1 0),(6,.ptr 2 0),(7,.I y)],[bPr ai,bSt y1 y2 y3 y4 y5 y6 y7 y8,.box [.I 0,.I 0,.I 0,.nilsl,.nilsl,.nilsl,.I 0,.I 0]],Tryz.f124.ntmps⟩) (fun n9 y1 y2 y3 y4 y5 y6 y7 y8=>gDq (gG.mk ai) a1 (gB.mk ak al y am an ao ap aq) n9 y1 y2 y3 y4 y5 y6 y7 y8=some r) (fun n9 y1 y2 y3 y4 y5 y6 y7 y8=>n9) n0 ak al y am an ao ap aq eJ h ?_;rintro n9 y1 y2 y3 y4 y5 y6 y7 y8 h;rcases n9 with _ | n9
 ·cases h
 rw [gDq.eq_2] at h;refine goC h ?_ ?_<;>intro bv h
 ·refine noS ?_;refine gP ?_;refine goL ?_;refine noB ?_;refine hM7 7 1 4 rfl rfl (by repeat constructor) (by repeat constructor) ?_;show V _ _ _ _ _;refine gB0 8 (fun bw=>?_)
  refine gW0 (fun(f:Nat)(aa:Int)(ab:Int)(aj:Int)(ac:List gM)(q:List kK)(ad:List jZ)(ae:Int)(ag:Int)=>⟨[(1,.L 4 (kM a1)),(3,.ptr 0 0),(5,.ptr 1 0),(6,.ptr 2 0),(7,.I y),(8,.L 7 (vV y5)),(9,.N f)],[bPr ai,bSt aa ab aj ac q ad ae ag,.box [.I 0,.I 0,.I 0,.nilsl,.nilsl,.nilsl,.I 0,.I 0]],Tryz.f124.ntmps⟩) (fun f aa ab aj ac q ad ae ag=>gDp (gG.mk ai) a1 (fun aa ab aj ac q ad ae ag=>cnd (decide ((q.length:Int)≥(y5.length:Int))) (some (gB.mk aa ab (gB.mk ak al y am an ao ap aq).node ac q ad ae ag)) (
gDq (gG.mk ai) a1 (gB.mk ak al y am an ao ap aq) n9 aa ab aj ac q ad ae ag)) (y5.drop f) aa ab aj ac q ad ae ag=some r) (fun f aa ab aj ac q ad ae ag=>y5.length - f) 0 y1 y2 y3 y4 [] y6 y7 y8 eJ h ?_
  rintro f aa ab aj ac q ad ae ag h;refine goL ?_;refine kN (fun aw=>?_) (fun aw=>?_)
  ·have ah:=qB aw;obtain⟨br,ar,ax⟩:=drop_at ah;rw [ax,gDp.eq_2] at h;obtain⟨⟨bi,bj,bk⟩,⟨bl,bm,bn⟩,bt⟩:=br;refine noS ?_;refine kC (gP ?_);refine goL ?_;refine pX (gV f (gJu ar)) ?_;refine gCj ?_;refine dZ 0 ?_;refine goW ?_;refine kR (fun _=>gV f (gJu ar)) ?_;refine goW ?_;refine kR (fun _=>gV f (gJu ar)) ?_;refine goW ?_;obtain⟨⟨ay,a3,a4,a5,a6,a7,a8,a9⟩,bo,h⟩:=gK h;refine kR (fun _=>gD (gQo _ _ _ _ _ _ _ bo)) ?_;refine goW ?_;refine jY ?_;refine goL ?_;refine gX (jK f (by omega)) ?_;exact⟨(f+1),ay,a3,a4,a5,a6,a7,a8,a9,h,by omega,eJ⟩
  ·have ah:=qC aw;rw [gT ah,gDp.eq_1] at h;refine goX ?_;refine kN (fun ba=>?_) (fun ba=>?_)
   ·replace h:=jU ba h;refine goX ?_;refine jH ?_;cases h;exact mM
   ·replace h:=jV ba h;refine gCs ?_;exact⟨n9,aa,ab,aj,ac,q,ad,ae,ag,h,Nat.lt_succ_self _,eJ⟩
 ·refine goX ?_;refine jH ?_;cases h;exact mM
def hDp(f:gG)(q:List gU)(y:gB):Option (gB):=gOn f q y 5000
def gMc(f:gG)(a1:List gU)(q:gB)(y:gF)(a4:gF):Option (gB):=
bnd (gKt 5000 f a1 q y a4 40) fun x1=>
bnd (gKh x1) fun x2=>
(some x2)
theorem gXs(f:gG)(a1:List gU)(q:gB)(y:gF)(a4:gF){r:gB}(h:gMc f a1 q y a4=some r):gW Tryz.prog 77 [.d (jX f),.L 4 (kM a1),.d (jR q),.d (kT y),.d (kT a4)] [jR r]:=by
 obtain⟨ad⟩:=f;obtain⟨ae,ag,ah,ai,aj,ak,al,am⟩:=q;obtain⟨an,ao,ap⟩:=y;obtain⟨aq,ar,au⟩:=a4;unfold gMc at h;refine SpI Tryz.func77 fun A _=>?_;refine goL ?_;obtain⟨⟨av,aw,ax,ay,a5,a6,a7,a8⟩,ab,h⟩:=gK h;refine pX (gD (gQo _ _ _ _ _ _ _ ab)) ?_;obtain⟨⟨a9,ba,bb,bc,bd,be,bf,bg⟩,ac,h⟩:=gK h;refine pX (gD (gP0 _ ac)) ?_;exact goR h
def gIj(a0:gG)(a1:List gU)(f:gB)(a3:jN):Option (jN × Int × Int):=
(cnd (f.code != 0) (some ((jN.mk 0 [] [] 0 (gF.mk 0 [] []) [] [] [] []),f.code,f.at_)) (cnd (decide ((f.equations.length:Int) > 0)) (
bnd (at? f.equations 0) fun x3=>
some ((jN.mk 0 [] [] 0 (gF.mk 0 [] []) [] [] [] []),5,x3.node)) (
bnd (gVv a0 a1 f) fun q=>
(cnd (q.2.1 != 0) (some ((jN.mk 0 [] [] 0 (gF.mk 0 [] []) [] [] [] []),q.2.1,q.2.2)) (
bnd (gVx 5000 a0.packages a1 f.next f.count f.node f.bindings f.equations f.obligations f.code f.at_ q.1 0 a3) fun y=>
cnd (y.2 != 0) (some ((jN.mk 0 [] [] 0 (gF.mk 0 [] []) [] [] [] []),y.2,0)) (some (y.1,0,0)))))))
theorem gQa(a0:gG)(a1:List gU)(a2:gB)(a3:jN){r:jN × Int × Int}(h:gIj a0 a1 a2 a3=some r):gW Tryz.prog 78 [.d (jX a0),.L 4 (kM a1),.d (jR a2),.d (gBo a3)] [gBo r.1,.i .i64 r.2.1,.i .i64 r.2.2]:=by
 obtain⟨ad⟩:=a0;obtain⟨ae,ag,ah,ai,aj,ak,al,am⟩:=a2;obtain⟨ax,ay,a4,a5,⟨f,q,y⟩,a6,a7,a8,a9⟩:=a3;unfold gIj at h;refine SpI Tryz.func78 fun A _=>?_;refine goC h ?_ ?_<;>intro c1 h
 ·refine sZ 0 ?_;refine goW ?_;refine jY ?_;exact goR h
 ·refine goS ?_;refine kN (fun c2=>?_) (fun c2=>?_)
  ·replace h:=jU c2 h;refine sZ 0 ?_;refine goW ?_;obtain⟨x3,bb,h⟩:=gK h;obtain⟨bc,bb⟩:=yY bb;obtain⟨⟨be,bf,bg⟩,⟨bh,bi,bj⟩,br⟩:=x3;refine kR (fun _=>kY bc (gJu bb)) ?_;refine goW ?_;refine jY ?_;exact goR h
  ·replace h:=jV c2 h;refine goS ?_;obtain⟨⟨ba,bt,bu⟩,bo,h⟩:=gK h;refine gX (gD (hJ6 _ _ _ bo)) ?_;refine kN (fun c5=>?_) (fun c5=>?_)
   ·replace h:=jU c5 h;refine goL ?_;refine uX (jI TBd.h TZ.h rfl (by repeat constructor)) ?_;exact goR h
   ·replace h:=jV c5 h;refine goS ?_;refine gC1 (jI TBd.h TZ.h rfl (by repeat constructor)) ?_;obtain⟨⟨⟨an,ao,ap,aq,⟨aa,ab,ac⟩,ar,au,av,aw⟩,bd⟩,bq,h⟩:=gK h;refine gLg [4] (hKd 5000 ad a1 ae ag ah ai aj ak al am ba 0 (jN.mk ax ay a4 a5 (gF.mk f q y) a6 a7 a8 a9) bq) ?_;rintro _ _ ⟨rfl,rfl⟩;show VO _ _ _ _ ⟨(_,.d (.st [.i .i64 an,.s ao,.s ap,.i .i64 aq,.st [.i .i64 aa,.s ab,.sl 3 (jJ ac)],.sl 3 (jJ ar),.sl 5 (mD au),.sl 11 (zK av),.sl 13 (vK aw)]))::_,[bPr ad,bSt ae ag ah ai aj ak al am,bCo ax ay a4 a5 f q y a6 a7 a8 a9,.box [.I 0,.S [],.S [],.I 0,.I 0,.S [],.nilsl,.nilsl,.nilsl,.nilsl,.nilsl],b34 ad a1 ae ag ah ai aj ak al am ba bd],_⟩ _;refine goC h ?_ ?_<;>intro c7 h
    ·refine sZ 0 ?_;refine goW ?_;refine jY ?_;exact goR h
    ·refine goS ?_;refine jH ?_;cases h;exact mM
def gAs(aa:gH):List kW→(List gH)→Option (gH)
 | [],y=>bnd (gTh true (gH.mk aa.atom y)) fun ae=>
(some ae)
 | f::xs,y=>lt_ (mZ f.name) fun ag=>
bnd (gPm f.params) fun ah=>
bnd (gQd 5000 f.result) fun ai=>
bnd (gMv [ag,(gH.mk [] ah),ai]) fun q=>
bnd (cnd f.hasDefault (
bnd (gCx f.vars) fun ab=>
bnd (gQk 5000 f.body) fun ac=>
gd (q.list.length+[ab,ac].length≤4294967296) (some (q.list++[ab,ac]))) (some q.list)) fun ad=>
gd (y.length+[(gH.mk q.atom ad)].length≤4294967296) (
gAs aa xs (y++[(gH.mk q.atom ad)]))
def gKx(f:mE):Option (gH):=
bnd (gGq f) fun x1=>
(cnd (!x1) (some (gH.mk [] [])) (
bnd (cnd f.auto (
gd (([]:LS).length+([[97,117,116,111]]:LS).length≤4294967296) (some ([]++[[97,117,116,111]]))) (some [])) fun y=>
bnd (cnd f.assoc (
gd (y.length+([[97,115,115,111,99]]:LS).length≤4294967296) (some (y++[[97,115,115,111,99]]))) (some y)) fun b7=>
lt_ (mZ [116,114,97,105,116]) fun aa=>
lt_ (mZ f.name) fun ab=>
bnd (gCx f.supertraits) fun ac=>
bnd (gCx b7) fun ad=>
bnd (gMv [aa,ab,ac,ad]) fun q=>
gAs q f.signatures q.list))
theorem gVy(a0:mE){r:gH}(h:gKx a0=some r):gW Tryz.prog 201 [.d (gF2 a0)] [qL r]:=by
 obtain⟨aj,al,am,an,ai⟩:=a0;unfold gKx at h;refine SpI Tryz.func201 fun A _=>?_;refine goL ?_;obtain⟨x1,cc,h⟩:=gK h;refine gX (gD (gOk _ cc)) ?_;refine kN (fun c2=>?_) (fun c2=>?_)
 ·replace h:=jU c2 h;refine goL ?_;refine uX (jI TBd.h TZ.h rfl (by repeat constructor)) ?_;exact goR h
 ·replace h:=jV c2 h;refine goS ?_;refine gFh ?_;refine goL ?_;obtain⟨b3,hb3,h⟩:=gK h;refine gTa (fun v4=>⟨[(1,.ptr 0 0),(2,.ptr 1 0),(3,.sl 2 v4)],[bTr aj al am an ai,.box [.S [],.nilsl],.own 9 1 v4 (kD b3)],Tryz.f201.ntmps⟩) ?_ (fun v4=>?_)
  ·refine kN (fun c5=>?_) (fun c5=>?_)
   ·replace hb3:=jU c5 hb3;refine goL ?_;refine gAz ([97,117,116,111]:LB) ?_;obtain⟨g6,hb3⟩:=mI hb3;refine gDj g6 ?_;refine goL ?_;cases hb3;exact⟨(0+1),eJ⟩
   ·replace hb3:=jV c5 hb3;refine gCs ?_;cases hb3;exact⟨0,eJ⟩
  refine goL ?_;obtain⟨b7,hb7,h⟩:=gK h;refine gTa (fun v8=>⟨[(1,.ptr 0 0),(2,.ptr 1 0),(3,.sl 2 v8)],[bTr aj al am an ai,.box [.S [],.nilsl],.own 9 1 v8 (kD b7)],Tryz.f201.ntmps⟩) ?_ (fun v8=>?_)
  ·refine kN (fun c9=>?_) (fun c9=>?_)
   ·replace hb7:=jU c9 hb7;refine goL ?_;refine gAz ([97,115,115,111,99]:LB) ?_;obtain⟨cg,hb7⟩:=mI hb7;refine gDj cg ?_;refine goL ?_;cases hb7;exact⟨(v4+1),eJ⟩
   ·replace hb7:=jV c9 hb7;refine gCs ?_;cases hb7;exact⟨v4,eJ⟩
  refine gCj ?_;refine qW 2 rfl rfl ?_;refine hZx ?_;obtain⟨⟨f,q⟩,bw,h⟩:=pI h;have sx11:=pO [116,114,97,105,116];rw [bw] at sx11;obtain⟨⟨y,aa⟩,bx,h⟩:=pI h;have sx12:=pO aj;rw [bx] at sx12;obtain⟨⟨ab,ac⟩,bz,h⟩:=gK h;obtain⟨⟨ad,ae⟩,b0,h⟩:=gK h;obtain⟨⟨ah,ak⟩,ay,h⟩:=gK h;refine gL3 (P:=Tryz.prog) Mix.h (q3T 0 (q3T 3 (q3T 6 (.h 9 (.h 10 (hcT 11 (hzT 12)) (hcT 11 (hcT 10 (hzT 12)))) (hcT 11 (hcT 9 (hcT 10 (hzT 12)))))))) ⟨[(1,.ptr 0 0),(2,.ptr 1 0),(4,.ptr 5 0)],[bTr aj al am an ai,.box [.S [],.nilsl],.frz 9 1 v8 (kD b7),.frz 148 2 0 (kE [(gH.mk f q),(gH.mk y aa),(gH.mk ab ac),(gH.mk ad ae)]),.arr 148 2 0 (kE ak),.box [.S ah,.sl 4 0]],Tryz.f201.ntmps⟩ (by kernel_rfl) ?_ ?_
  ·refine hGg (zL rfl (gD (sx11)) gQh) ?_;refine goT ?_;refine hGg (zL rfl (gD (sx12)) gQh) ?_;refine goT ?_;refine hGg (zL rfl (gD (gFw _ bz)) gQh) ?_;refine goT ?_;refine hGg (zL rfl (gD (gFw _ b0)) gQh) ?_;refine hSa (gN3 (T:=146) (us:=kE [(gH.mk f q),(gH.mk y aa),(gH.mk ab ac),(gH.mk ad ae)]) gQh) ?_ ?_
   ·refine hSa (gWy 3 rfl rfl (gPc (sv:=.ag [.S ah,.sl 4 0]) (L':=[bTr aj al am an ai,.box [.S [],.nilsl],.frz 9 1 v8 (kD b7),.frz 148 2 0 (kE [(gH.mk f q),(gH.mk y aa),(gH.mk ab ac),(gH.mk ad ae)]),.arr 148 2 0 (kE ak)]) [] (gJp [(gH.mk f q),(gH.mk y aa),(gH.mk ab ac),(gH.mk ad ae)] ay) gQh)) ?_ ?_
    ·refine goT ?_;refine gPa ?_;exact hIu 0 [0,1,2,3,4,5]
    refine goT ?_;refine gWw (gWy 3 rfl rfl (gPc (sv:=.ag [.S ah,.sl 5 0]) (L':=[bTr aj al am an ai,.box [.S [],.nilsl],.frz 9 1 v8 (kD b7),.frz 148 2 0 (kE [(gH.mk f q),(gH.mk y aa),(gH.mk ab ac),(gH.mk ad ae)]),.box [.S [],.nilsl],.arr 148 2 0 (kE ak)]) [] (gJp [(gH.mk f q),(gH.mk y aa),(gH.mk ab ac),(gH.mk ad ae)] ay) gQh)) ?_;refine goT ?_;refine gPa ?_;exact hIu 0 [0,1,2,3,5,4]
   refine goT ?_;refine gWw (gN3 (T:=146) (us:=kE [(gH.mk f q),(gH.mk y aa),(gH.mk ab ac),(gH.mk ad ae)]) gQh) ?_;refine gWw (gWy 4 rfl rfl (gPc (sv:=.ag [.S ah,.sl 5 0]) (L':=[bTr aj al am an ai,.box [.S [],.nilsl],.frz 9 1 v8 (kD b7),.box [.S [],.nilsl],.frz 148 2 0 (kE [(gH.mk f q),(gH.mk y aa),(gH.mk ab ac),(gH.mk ad ae)]),.arr 148 2 0 (kE ak)]) [] (gJp [(gH.mk f q),(gH.mk y aa),(gH.mk ab ac),(gH.mk ad ae)] ay) gQh)) ?_;refine goT ?_;refine gPa ?_;exact hIu 0 [0,1,2,4,5,3]
  refine goL ?_;refine noB ?_;refine pG 0 4 (fun cq=>?_);refine kQ (fun(ao:Nat)(aq:List gH)(ar:Nat)=>⟨[(1,.ptr 0 0),(2,.ptr 1 0),(4,.ptr 5 0),(5,.N ao)],[bTr aj al am an ai,.box [.S [],.nilsl],.frz 9 1 v8 (kD b7),.frz 148 2 0 (kE [(gH.mk f q),(gH.mk y aa),(gH.mk ab ac),(gH.mk ad ae)]),.arr 148 2 ar (kE aq),.box [.S ah,.sl 4 ar]],Tryz.f201.ntmps⟩) (fun ao aq ar=>gAs (gH.mk ah ak) (ai.drop ao) aq=some r) (fun ao aq ar=>ai.length - ao) 0 ak 0 eJ h ?_;rintro ao aq ar h;refine goL ?_;refine kN (fun be=>?_) (fun be=>?_)
  ·have ap:=qB be;obtain⟨ch,b1,bf⟩:=drop_at ap;rw [bf,gAs.eq_2] at h;obtain⟨a2,bg,⟨a3,a4,a5⟩,bh,bi,⟨a6,a7,a8,a9,⟨au,av,aw⟩,ba,bb⟩⟩:=ch;refine noS ?_;refine kC (gP ?_);refine goL ?_;refine pX (gV ao (vU b1)) ?_;refine gCj ?_;refine sZ 2 ?_;refine goW ?_;obtain⟨⟨bj,bk⟩,b2,h⟩:=pI h;have sx22:=pO a2;rw [b2] at sx22;refine kR (fun _=>gD (sx22)) ?_;refine goW ?_;obtain⟨ci,b4,h⟩:=gK h;refine kR (fun _=>gD (gX1 _ b4)) ?_;refine goW ?_;obtain⟨⟨bl,bm⟩,b5,h⟩:=gK h;refine kR (fun _=>gD (gTo _ _ b5)) ?_;refine uK (us:=kE [(gH.mk bj bk),(gH.mk [] ci),(gH.mk bl bm)]) ?_;obtain⟨⟨ax,cj⟩,b6,h⟩:=gK h;refine gSk (LH.cN (gJp _ b6)) ?_;refine goW ?_;refine jY ?_;refine goL ?_;obtain⟨bn,hb26,h⟩:=gK h;refine gTa (fun bo=>⟨[(1,.ptr 0 0),(2,.ptr 1 0),(4,.ptr 5 0),(5,.N ao),(7,.ptr 8 0)],[bTr aj al am an ai,.box [.S [],.nilsl],.frz 9 1 v8 (kD b7),.frz 148 2 0 (kE [(gH.mk f q),(gH.mk y aa),(gH.mk ab ac),(gH.mk ad ae)]),.arr 148 2 ar (kE aq),.box [.S ah,.sl 4 ar],bSg a2 bg a3 a4 a5 bh bi a6 a7 a8 a9 au av aw ba bb,.arr 148 2 bo (kE bn),.box [.S ax,.sl 7 bo]],Tryz.f201.ntmps⟩) ?_ (fun bo=>?_)
   ·refine kN (fun bp=>?_) (fun bp=>?_)
    ·replace hb26:=jU bp hb26;refine dZ 0 ?_;refine goW ?_;obtain⟨⟨bq,br⟩,b8,hb26⟩:=gK hb26;refine kR (fun _=>gD (gFw _ b8)) ?_;refine goW ?_;obtain⟨⟨bt,bu⟩,b9,hb26⟩:=gK hb26;refine kR (fun _=>gD (hDh _ _ b9)) ?_;refine uK (us:=kE [(gH.mk bq br),(gH.mk bt bu)]) ?_;obtain⟨ck,hb26⟩:=mI hb26;refine uL ck ?_;refine goW ?_;refine jY ?_;refine goL ?_;cases hb26;exact⟨(1+1),eJ⟩
    ·replace hb26:=jV bp hb26;refine gCs ?_;cases hb26;exact⟨1,eJ⟩
   refine goL ?_;refine qV 7 rfl rfl ?_;refine hEn ?_;refine uN (u:=(.st [.s ax,.sl 2 (kE bn)])) ?_;obtain⟨cl,h⟩:=mI h;refine vR cl ?_;refine goL ?_;refine gX (jK ao (by omega)) ?_;exact⟨(ao+1),(aq++[(gH.mk ax bn)]),(ar+1),h,by omega,eJ⟩
  ·have ap:=qC be;rw [gT ap,gAs.eq_1] at h;refine goX ?_;refine qV 4 rfl rfl ?_;refine hEn ?_;obtain⟨⟨cm,cn⟩,ca,h⟩:=gK h;refine uX (hDc (hAm true (gH.mk ah aq) ca)) ?_;exact goR h
def yN(a0:gH)(x1:gH)(x3:LS)(x5:gF)(x7:List gU)(x8:gH)(f:Bool × Int × LB × List gF):List gH→(List qX)→Option (jF × Bool)
 | [],q=>bnd (bnd (vC a0) fun ak=>
(cnd (!ak) (some true) (cnd ((a0.list.length:Int)==0) (some true) (bnd (gGr (jF.mk x1.atom x3 x5 x7 (decide ((x8.list.length:Int) > 0)) f.1 (gF.mk f.2.1 f.2.2.1 f.2.2.2) q)) fun al=>
bnd (gEo 5000 al a0) fun am=>
some (!am))))) fun an=>
(cnd an (some ((jF.mk [] [] (gF.mk 0 [] []) [] false false (gF.mk 0 [] []) []),false)) (some ((jF.mk x1.atom x3 x5 x7 (decide ((x8.list.length:Int) > 0)) f.1 (gF.mk f.2.1 f.2.2.1 f.2.2.2) q),true)))
 | y::xs,q=>bnd (uR y 0) fun aa=>
bnd (uR y 1) fun ao=>
bnd (gEr ao) fun ab=>
bnd (uR y 2) fun ap=>
bnd (gIr 5000 ap) fun ac=>
gd (q.length+[(qX.mk aa.atom ab ac)].length≤4294967296) (
yN a0 x1 x3 x5 x7 x8 f xs (q++[(qX.mk aa.atom ab ac)]))
def gDa(f:gH):Option (jF × Bool):=
bnd (uR f 1) fun x1=>
bnd (uR f 2) fun x2=>
bnd (gEr x2) fun x3=>
bnd (uR f 3) fun x4=>
bnd (gQc 5000 x4) fun x5=>
bnd (uR f 4) fun x6=>
bnd (gM1 x6) fun x7=>
bnd (uR f 5) fun x8=>
bnd (uR f 6) fun x9=>
bnd (cnd (decide ((x9.list.length:Int) > 0)) (
bnd (at? x9.list 0) fun y=>
bnd (gQc 5000 y) fun q=>
some (true,q.kind,q.name,q.args)) (some (false,0,[],[]))) fun aa=>
bnd (gMu f 7) fun ab=>
yN f x1 x3 x5 x7 x8 aa ab []
theorem gRj(a0:gH){r:jF × Bool}(h:gDa a0=some r):gW Tryz.prog 146 [.d (qL a0)] [vY r.1,.b r.2]:=by
 obtain⟨ao,ap⟩:=a0;unfold gDa at h;refine SpI Tryz.func146 fun A _=>?_;refine gCj ?_;refine sZ 1 ?_;refine goW ?_;obtain⟨⟨ad,bd⟩,bu,h⟩:=gK h;refine kR (fun _=>gD (vL _ _ bu)) ?_;refine kR (fun _=>gL4) ?_;refine goW ?_;obtain⟨⟨cm,cn⟩,bv,h⟩:=gK h;refine kR (fun _=>gD (vL _ _ bv)) ?_;obtain⟨x3,bw,h⟩:=gK h;refine kR (fun _=>gD (gH4 _ bw)) ?_;refine goW ?_;obtain⟨⟨co,cp⟩,bx,h⟩:=gK h;refine kR (fun _=>gD (vL _ _ bx)) ?_;obtain⟨⟨ae,ag,ah⟩,bz,h⟩:=gK h;refine kR (fun _=>gD (gTn _ _ bz)) ?_;refine goW ?_;obtain⟨⟨cq,cr⟩,b0,h⟩:=gK h;refine kR (fun _=>gD (vL _ _ b0)) ?_;obtain⟨x7,b1,h⟩:=gK h;refine kR (fun _=>gD (gVg _ b1)) ?_;refine goW ?_;obtain⟨⟨bg,ai⟩,b2,h⟩:=gK h;refine kR (fun _=>gD (vL _ _ b2)) ?_;refine kR (fun _=>gL4) ?_;refine goW ?_;refine jY ?_;refine goL ?_;obtain⟨⟨aq,ar⟩,b3,h⟩:=gK h;refine gX (gD (vL _ _ b3)) ?_;refine hM7 3 2 10 rfl rfl (by repeat constructor) (by repeat constructor) ?_;obtain⟨⟨f,q,y,aa⟩,hb10,h⟩:=gK h;refine gHf ⟨[(1,.ptr 0 0),(2,.ptr 1 0),(4,.ptr 2 0)],[bSx ao ap,.box [.S [],.nilsl,.I 0,.S [],.nilsl,.nilsl,.B false,.B false,.I 0,.S [],.nilsl,.nilsl],.box [.S ad,.L 1 (kD x3),.I ae,.S ag,.L 3 (jJ ah),.L 4 (kM x7),.d (.b (decide ((ai.length:Int) > 0))),.B f,.I q,.S y,.L 3 (jJ aa),.nilsl],bSx aq ar],Tryz.f146.ntmps⟩ ?_ ?_
 ·refine kN (fun a6=>?_) (fun a6=>?_)
  ·replace hb10:=jU a6 hb10;refine goL ?_;obtain⟨b4,au,hb10⟩:=gK hb10;obtain⟨a7,au⟩:=yY au;obtain⟨b5,b6⟩:=b4;refine gX (kY a7 (vW au)) ?_;obtain⟨⟨b7,b8,b9⟩,bh,hb10⟩:=gK hb10;refine gX (gD (gTn _ _ bh)) ?_;cases hb10;exact eJ
  ·replace hb10:=jV a6 hb10;refine gCs ?_;cases hb10;exact eJ
 refine goL ?_;obtain⟨a8,bi,h⟩:=gK h;refine gX (gD (gRu _ _ bi)) ?_;refine noB ?_;refine uA 116 11 2 11 rfl rfl (by repeat constructor) (by repeat constructor) (by repeat constructor) (by repeat constructor) ?_;show V _ _ _ _ _;refine gB0 6 (fun cs=>?_);refine kQ (fun(ab:Nat)(aj:List qX)(ak:Nat)=>⟨[(1,.ptr 0 0),(2,.ptr 1 0),(4,.ptr 2 0),(6,.L 2 (kE a8)),(7,.N ab)],[bSx ao ap,.box [.S [],.nilsl,.I 0,.S [],.nilsl,.nilsl,.B false,.B false,.I 0,.S [],.nilsl,.nilsl],.box [.S ad,.L 1 (kD x3),.I ae,.S ag,.L 3 (jJ ah),.L 4 (kM x7),.d (.b (decide ((ai.length:Int) > 0))),.B f,.I q,.S y,.L 3 (jJ aa),.sl 4 ak],bSx aq ar,.arr 116 11 ak (gEt aj)],Tryz.f146.ntmps⟩) (fun ab aj ak=>yN (gH.mk ao ap) (gH.mk ad bd) x3 (gF.mk ae ag ah) x7 (gH.mk bg ai) (f,q,y,aa) (a8.drop ab) aj=some r) (fun ab aj ak=>a8.length - ab) 0 [] 0 eJ h ?_;rintro ab aj ak h;refine goL ?_;refine kN (fun a9=>?_) (fun a9=>?_)
 ·have ac:=qB a9;obtain⟨ca,av,ba⟩:=drop_at ac;rw [ba,yN.eq_2] at h;obtain⟨cb,cc⟩:=ca;refine noS ?_;refine kC (gP ?_);refine dZ 0 ?_;refine goW ?_;refine kR (fun _=>gV ab (vW av)) ?_;refine goW ?_;obtain⟨⟨aw,cd⟩,bj,h⟩:=gK h;refine kR (fun _=>gD (vL _ _ bj)) ?_;refine kR (fun _=>gL4) ?_;refine goW ?_;refine kR (fun _=>gV ab (vW av)) ?_;refine goW ?_;obtain⟨⟨ce,cf⟩,bk,h⟩:=gK h;refine kR (fun _=>gD (vL _ _ bk)) ?_;obtain⟨bl,bm,h⟩:=gK h;refine kR (fun _=>gD (gH4 _ bm)) ?_;refine goW ?_;refine kR (fun _=>gV ab (vW av)) ?_;refine goW ?_;obtain⟨⟨cg,ch⟩,bn,h⟩:=gK h;refine kR (fun _=>gD (vL _ _ bn)) ?_;obtain⟨⟨ax,ay,a2,a3,⟨al,am,an⟩,a4,a5⟩,bo,h⟩:=gK h;refine kR (fun _=>gD (gU7 _ _ bo)) ?_;refine goW ?_;refine uK (us:=gEt [(qX.mk aw bl (gY.mk ax ay a2 a3 (gF.mk al am an) a4 a5))]) ?_;obtain⟨ci,h⟩:=mI h;refine uL ci ?_;refine goW ?_;refine jY ?_;refine goL ?_;refine gX (jK ab (by omega)) ?_;exact⟨(ab+1),(aj++[(qX.mk aw bl (gY.mk ax ay a2 a3 (gF.mk al am an) a4 a5))]),(ak+1),h,by omega,eJ⟩
 ·have ac:=qC a9;rw [gT ac,yN.eq_1] at h;refine noX ?_;refine gCj ?_;refine jS 4 rfl rfl ?_;obtain⟨cj,hb27,h⟩:=gK h;refine qN (P:=Tryz.prog) Mix.h ⟨[(2,.ptr 1 0),(4,.ptr 2 0),(86,.B cj)],[bSx ao ap,.box [.S [],.nilsl,.I 0,.S [],.nilsl,.nilsl,.B false,.B false,.I 0,.S [],.nilsl,.nilsl],.box [.S ad,.L 1 (kD x3),.I ae,.S ag,.L 3 (jJ ah),.L 4 (kM x7),.d (.b (decide ((ai.length:Int) > 0))),.B f,.I q,.S y,.L 3 (jJ aa),.sl 4 ak],bSx aq ar,.frz 116 11 ak (gEt aj)],Tryz.f146.ntmps⟩ (by kernel_rfl) ?_ ?_
  ·refine goL ?_;obtain⟨ct,bp,hb27⟩:=gK hb27;refine wC (gD (gAj _ bp)) ?_;refine goL ?_;refine qE 74 (fun bb=>?_) (fun bb=>?_)
   ·replace hb27:=jU bb hb27;refine goL ?_;cases hb27;exact eJ
   ·replace hb27:=jV bb hb27;refine goL ?_;refine qE 80 (fun bc=>?_) (fun bc=>?_)
    ·replace hb27:=jU bc hb27;refine goL ?_;cases hb27;exact eJ
    ·replace hb27:=jV bc hb27;refine goL ?_;obtain⟨⟨ck,cl⟩,bq,hb27⟩:=gK hb27;refine hIa (hDc (gRh (jF.mk ad x3 (gF.mk ae ag ah) x7 (decide ((ai.length:Int) > 0)) f (gF.mk q y aa) aj) bq)) ?_;refine goL ?_;obtain⟨cu,br,hb27⟩:=gK hb27;refine wN (gD (gJ8 _ _ _ br)) ?_;refine goL ?_;cases hb27;exact eJ
  refine goC h ?_ ?_<;>intro cv h
  ·refine goL ?_;refine uX (jI TBd.h TZ.h rfl (by repeat constructor)) ?_;exact goR h
  ·refine goS ?_;refine jH ?_;cases h;exact mM
def yO(a0:gH)(x1:gH)(x3:LS)(x5:List gU)(x7:gF)(x9:gY):List gH→(List jT)→Option (kF × Bool)
 | [],f=>bnd (bnd (vC a0) fun ai=>
(cnd (!ai) (some true) (cnd ((a0.list.length:Int)==0) (some true) (bnd (gGs (kF.mk x1.atom x3 x5 f x7 x9)) fun aj=>
bnd (gEo 5000 aj a0) fun ak=>
some (!ak))))) fun al=>
(cnd al (some ((kF.mk [] [] [] [] (gF.mk 0 [] []) (gY.mk 0 [] [] 0 (gF.mk 0 [] []) [] [])),false)) (some ((kF.mk x1.atom x3 x5 f x7 x9),true)))
 | q::xs,f=>bnd (uR q 0) fun y=>
bnd (uR q 1) fun am=>
bnd (gQc 5000 am) fun aa=>
gd (f.length+[(jT.mk y.atom aa)].length≤4294967296) (
yO a0 x1 x3 x5 x7 x9 xs (f++[(jT.mk y.atom aa)]))
def gDb(f:gH):Option (kF × Bool):=
bnd (uR f 1) fun y=>
bnd (uR f 2) fun x2=>
bnd (gEr x2) fun x3=>
bnd (uR f 3) fun x4=>
bnd (gM1 x4) fun x5=>
bnd (uR f 5) fun x6=>
bnd (gQc 5000 x6) fun x7=>
bnd (uR f 6) fun x8=>
bnd (gIr 5000 x8) fun x9=>
bnd (uR f 4) fun q=>
yO f y x3 x5 x7 x9 q.list []
theorem gRk(a0:gH){r:kF × Bool}(h:gDb a0=some r):gW Tryz.prog 147 [.d (qL a0)] [gCr r.1,.b r.2]:=by
 obtain⟨aq,ar⟩:=a0;unfold gDb at h;refine SpI Tryz.func147 fun A _=>?_;refine gCj ?_;refine sZ 1 ?_;refine goW ?_;obtain⟨⟨ag,a7⟩,bi,h⟩:=gK h;refine kR (fun _=>gD (vL _ _ bi)) ?_;refine kR (fun _=>gL4) ?_;refine goW ?_;obtain⟨⟨b3,b4⟩,bj,h⟩:=gK h;refine kR (fun _=>gD (vL _ _ bj)) ?_;obtain⟨x3,bk,h⟩:=gK h;refine kR (fun _=>gD (gH4 _ bk)) ?_;refine goW ?_;obtain⟨⟨b5,b6⟩,bl,h⟩:=gK h;refine kR (fun _=>gD (vL _ _ bl)) ?_;obtain⟨x5,bm,h⟩:=gK h;refine kR (fun _=>gD (gVg _ bm)) ?_;refine goW ?_;obtain⟨⟨b7,b8⟩,bn,h⟩:=gK h;refine kR (fun _=>gD (vL _ _ bn)) ?_;obtain⟨⟨ah,ai,aj⟩,bo,h⟩:=gK h;refine kR (fun _=>gD (gTn _ _ bo)) ?_;refine goW ?_;obtain⟨⟨b9,ca⟩,bp,h⟩:=gK h;refine kR (fun _=>gD (vL _ _ bp)) ?_;obtain⟨⟨ak,al,am,an,⟨f,q,y⟩,ao,ap⟩,bq,h⟩:=gK h;refine kR (fun _=>gD (gU7 _ _ bq)) ?_;refine goW ?_;refine jY ?_;refine goL ?_;obtain⟨⟨au,ab⟩,a8,h⟩:=gK h;refine gX (gD (vL _ _ a8)) ?_;refine noB ?_;refine uA 225 4 2 3 rfl rfl (by repeat constructor) (by repeat constructor) (by repeat constructor) (by repeat constructor) ?_;show V _ _ _ _ _;refine pG 3 1 (fun cb=>?_);refine kQ (fun(aa:Nat)(ad:List jT)(ae:Nat)=>⟨[(1,.ptr 0 0),(2,.ptr 1 0),(4,.ptr 2 0),(5,.ptr 3 0),(6,.N aa)],[bSx aq ar,.box [.S [],.nilsl,.nilsl,.nilsl,.I 0,.S [],.nilsl,.I 0,.S [],.S [],.I 0,.I 0,.S [],.nilsl,.nilsl,.nilsl],.box [.S ag,.L 1 (kD x3),.L 4 (kM x5),.sl 4 ae,.I ah,.S ai,.L 3 (jJ aj),.I ak,.S al,.S am,.I an,.I f,.S q,.L 3 (jJ y),.L 9 (vP ao),.L 11 (gBv ap)],bSx au ab,.arr 225 4 ae (mK ad)],Tryz.f147.ntmps⟩) (fun aa ad ae=>yO (gH.mk aq ar) (gH.mk ag a7) x3 x5 (gF.mk ah ai aj) (gY.mk ak al am an (gF.mk f q y) ao ap) (ab.drop aa) ad=some r) (fun aa ad ae=>ab.length - aa) 0 [] 0 eJ h ?_;rintro aa ad ae h;refine goL ?_;refine kN (fun a3=>?_) (fun a3=>?_)
 ·have ac:=qB a3;obtain⟨br,a2,a4⟩:=drop_at ac;rw [a4,yO.eq_2] at h;obtain⟨bt,bu⟩:=br;refine noS ?_;refine kC (gP ?_);refine dZ 0 ?_;refine goW ?_;refine kR (fun _=>gV aa (vW a2)) ?_;refine goW ?_;obtain⟨⟨av,bv⟩,a9,h⟩:=gK h;refine kR (fun _=>gD (vL _ _ a9)) ?_;refine kR (fun _=>gL4) ?_;refine goW ?_;refine kR (fun _=>gV aa (vW a2)) ?_;refine goW ?_;obtain⟨⟨bw,bx⟩,ba,h⟩:=gK h;refine kR (fun _=>gD (vL _ _ ba)) ?_;obtain⟨⟨aw,ax,ay⟩,bb,h⟩:=gK h;refine kR (fun _=>gD (gTn _ _ bb)) ?_;refine goW ?_;refine uK (us:=mK [(jT.mk av (gF.mk aw ax ay))]) ?_;obtain⟨bz,h⟩:=mI h;refine uL bz ?_;refine goW ?_;refine jY ?_;refine goL ?_;refine gX (jK aa (by omega)) ?_;exact⟨(aa+1),(ad++[(jT.mk av (gF.mk aw ax ay))]),(ae+1),h,by omega,eJ⟩
 ·have ac:=qC a3;rw [gT ac,yO.eq_1] at h;refine noX ?_;refine gCj ?_;refine jS 4 rfl rfl ?_;obtain⟨b0,hb21,h⟩:=gK h;refine qN (P:=Tryz.prog) Mix.h ⟨[(2,.ptr 1 0),(4,.ptr 2 0),(67,.B b0)],[bSx aq ar,.box [.S [],.nilsl,.nilsl,.nilsl,.I 0,.S [],.nilsl,.I 0,.S [],.S [],.I 0,.I 0,.S [],.nilsl,.nilsl,.nilsl],.box [.S ag,.L 1 (kD x3),.L 4 (kM x5),.sl 4 ae,.I ah,.S ai,.L 3 (jJ aj),.I ak,.S al,.S am,.I an,.I f,.S q,.L 3 (jJ y),.L 9 (vP ao),.L 11 (gBv ap)],bSx au ab,.frz 225 4 ae (mK ad)],Tryz.f147.ntmps⟩ (by kernel_rfl) ?_ ?_
  ·refine goL ?_;obtain⟨cc,bc,hb21⟩:=gK hb21;refine wC (gD (gAj _ bc)) ?_;refine goL ?_;refine qE 55 (fun a5=>?_) (fun a5=>?_)
   ·replace hb21:=jU a5 hb21;refine goL ?_;cases hb21;exact eJ
   ·replace hb21:=jV a5 hb21;refine goL ?_;refine qE 61 (fun a6=>?_) (fun a6=>?_)
    ·replace hb21:=jU a6 hb21;refine goL ?_;cases hb21;exact eJ
    ·replace hb21:=jV a6 hb21;refine goL ?_;obtain⟨⟨b1,b2⟩,bd,hb21⟩:=gK hb21;refine hIa (hDc (gRi (kF.mk ag x3 x5 ad (gF.mk ah ai aj) (gY.mk ak al am an (gF.mk f q y) ao ap)) bd)) ?_;refine goL ?_;obtain⟨cd,be,hb21⟩:=gK hb21;refine wN (gD (gJ8 _ _ _ be)) ?_;refine goL ?_;cases hb21;exact eJ
  refine goC h ?_ ?_<;>intro ce h
  ·refine goL ?_;refine uX (jI TBd.h TZ.h rfl (by repeat constructor)) ?_;exact goR h
  ·refine goS ?_;refine jH ?_;cases h;exact mM
def gGv:List kF→Option (Bool)
 | []=>(some true)
 | f::xs=>bnd (gC7 f) fun q=>
(cnd (!q) (some false) (
gGv xs ))
def gGw(y:jL):List jF→Option (Bool)
 | []=>gGv y.functions
 | f::xs=>bnd (gC6 f) fun q=>
(cnd (!q) (some false) (
gGw y xs ))
def gGx(f:jL):List jW→Option (Bool)
 | []=>gGw f f.instances
 | q::xs=>bnd (gC8 q) fun y=>
(cnd (!y) (some false) (
gGx f xs ))
def gGy(f:jL):List mE→Option (Bool)
 | []=>gGx f f.dataTypes
 | q::xs=>bnd (gGq q) fun y=>
(cnd (!y) (some false) (
gGy f xs ))
def gSt(f:jL):Option (Bool):=
gGy f f.traits
theorem hHm(a0:jL){r:Bool}(h:gSt a0=some r):gW Tryz.prog 150 [.d (gHd a0)] [.b r]:=by
 obtain⟨ab,ac,f,q,y,aa⟩:=a0;unfold gSt at h;refine SpI Tryz.func150 fun A _=>?_;refine goL ?_;refine noB ?_;refine pG 0 2 (fun z2=>?_);refine kZ (fun(y1:Nat)=>⟨[(1,.ptr 0 0),(3,.N y1)],[bPk ab ac f q y aa],Tryz.f150.ntmps⟩) (fun y1=>gGy (jL.mk ab ac f q y aa) (f.drop y1)  =some r) (fun y1=>f.length - y1) 0 eJ h ?_;rintro y1 h;refine goL ?_;refine kN (fun c3=>?_) (fun c3=>?_)
 ·have ai:=qB c3;obtain⟨x4,bv,bf⟩:=drop_at ai;rw [bf,gGy.eq_2] at h;obtain⟨cc,cd,ce,cf,cg⟩:=x4;refine noS ?_;refine kC (gP ?_);refine goL ?_;refine gX (gV y1 (gLc bv)) ?_;obtain⟨x5,bw,h⟩:=gK h;refine gX (gD (gOk _ bw)) ?_;refine kN (fun c6=>?_) (fun c6=>?_)
  ·replace h:=jU c6 h;exact goR h
  ·replace h:=jV c6 h;refine goS ?_;refine gX (jK y1 (by omega)) ?_;exact⟨(y1+1),h,by omega,eJ⟩
 ·have ai:=qC c3;rw [gT ai,gGy.eq_1] at h;refine goX ?_;refine noB ?_;refine pG 0 3 (fun z8=>?_);refine kZ (fun(y7:Nat)=>⟨[(1,.ptr 0 0),(4,.N y7)],[bPk ab ac f q y aa],Tryz.f150.ntmps⟩) (fun y7=>gGx (jL.mk ab ac f q y aa) (q.drop y7)  =some r) (fun y7=>q.length - y7) 0 eJ h ?_;rintro y7 h;refine goL ?_;refine kN (fun c9=>?_) (fun c9=>?_)
  ·have aj:=qB c9;obtain⟨b0,bg,a3⟩:=drop_at aj;rw [a3,gGx.eq_2] at h;obtain⟨b1,b2,b3⟩:=b0;refine noS ?_;refine kC (gP ?_);refine goL ?_;refine gX (gV y7 (gHc bg)) ?_;obtain⟨ci,bh,h⟩:=gK h;refine gX (gD (gLt _ bh)) ?_;refine kN (fun a4=>?_) (fun a4=>?_)
   ·replace h:=jU a4 h;exact goR h
   ·replace h:=jV a4 h;refine goS ?_;refine gX (jK y7 (by omega)) ?_;exact⟨(y7+1),h,by omega,eJ⟩
  ·have aj:=qC c9;rw [gT aj,gGx.eq_1] at h;refine goX ?_;refine noB ?_;refine pG 0 4 (fun cj=>?_);refine kZ (fun(ad:Nat)=>⟨[(1,.ptr 0 0),(5,.N ad)],[bPk ab ac f q y aa],Tryz.f150.ntmps⟩) (fun ad=>gGw (jL.mk ab ac f q y aa) (y.drop ad)  =some r) (fun ad=>y.length - ad) 0 eJ h ?_;rintro ad h;refine goL ?_;refine kN (fun a5=>?_) (fun a5=>?_)
   ·have ae:=qB a5;obtain⟨b4,bi,a6⟩:=drop_at ae;rw [a6,gGw.eq_2] at h;obtain⟨b5,b6,⟨bj,bk,bl⟩,b7,b8,b9,⟨bm,bn,bo⟩,ca⟩:=b4;refine noS ?_;refine kC (gP ?_);refine goL ?_;refine gX (gV ad (gFf bi)) ?_;obtain⟨ck,bp,h⟩:=gK h;refine gX (gD (gLr _ bp)) ?_;refine kN (fun a7=>?_) (fun a7=>?_)
    ·replace h:=jU a7 h;exact goR h
    ·replace h:=jV a7 h;refine goS ?_;refine gX (jK ad (by omega)) ?_;exact⟨(ad+1),h,by omega,eJ⟩
   ·have ae:=qC a5;rw [gT ae,gGw.eq_1] at h;refine goX ?_;refine noB ?_;refine pG 0 5 (fun cl=>?_);refine kZ (fun(ag:Nat)=>⟨[(1,.ptr 0 0),(6,.N ag)],[bPk ab ac f q y aa],Tryz.f150.ntmps⟩) (fun ag=>gGv (aa.drop ag)  =some r) (fun ag=>aa.length - ag) 0 eJ h ?_;rintro ag h;refine goL ?_;refine kN (fun a8=>?_) (fun a8=>?_)
    ·have ah:=qB a8;obtain⟨cb,bq,a9⟩:=drop_at ah;rw [a9,gGv.eq_2] at h;obtain⟨ba,bb,bc,bd,⟨an,ao,ap⟩,⟨aq,ar,au,av,⟨ak,al,am⟩,aw,ax⟩⟩:=cb;refine noS ?_;refine kC (gP ?_);refine goL ?_;refine gX (gV ag (gLd bq)) ?_;obtain⟨cm,br,h⟩:=gK h;refine gX (gD (gLs (kF.mk ba bb bc bd (gF.mk an ao ap) (gY.mk aq ar au av (gF.mk ak al am) aw ax)) br)) ?_;refine kN (fun be=>?_) (fun be=>?_)
     ·replace h:=jU be h;exact goR h
     ·replace h:=jV be h;refine goS ?_;refine gX (jK ag (by omega)) ?_;exact⟨(ag+1),h,by omega,eJ⟩
    ·have ah:=qC a8;rw [gT ah,gGv.eq_1] at h;refine goX ?_;refine jH ?_;cases h;exact mM
end Go.Proofs.YtfjncckelekpiaaGreat
