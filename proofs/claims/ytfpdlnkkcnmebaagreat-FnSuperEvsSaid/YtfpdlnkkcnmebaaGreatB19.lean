import Derived.Test.YtfpdlnkkcnmebaaGreatB17
set_option maxHeartbeats 4000000
set_option linter.unusedVariables false
set_option linter.unusedSimpArgs false
set_option linter.unusedSectionVars false
namespace Go.Proofs.YtfpdlnkkcnmebaaGreat
open Go Go.Eng
attribute [local irreducible] V VO VQ VY Quiet QR jF mJ Rng qI qJ qB
def gFe(c:gU)(a1:LS):LS→Option (Bool)
 | []=>bnd (gHw c) fun f=>
(some f)
 | h::xs=>(cnd (!(wY a1 h)) (
(some false)) (
gFe c a1 xs ))
def gJt(c:gU)(a1:LS):Option (Bool):=
bnd (gFy c) fun f=>
gFe c a1 f
theorem gPf(a0:gU)(a1:LS){r:Bool}(h:gJt a0 a1=some r):jF Tryz.prog 233 [.d (zJ a0),.L 1 (gP a1)] [.b r]:=by
 obtain⟨ab,ac,ad,ae,⟨f,q,y⟩,ag,ah⟩:=a0;unfold gJt at h;refine SpI Tryz.func233 fun A _=>?_;refine goL ?_;obtain⟨x1,al,h⟩:=gJ h;refine jK (gG (gOc _ al)) ?_;refine noB ?_;refine gCm 5 (fun z3=>?_);refine qD (fun(y2:Nat)=>⟨[(1,.L 1 (gP a1)),(2,.ptr 0 0),(5,.L 1 (gP x1)),(6,.N y2)],[bEx ab ac ad ae f q y ag ah],Tryz.f233.ntmps⟩) (fun y2=>gFe (gU.mk ab ac ad ae (gB.mk f q y) ag ah) a1 (x1.drop y2)  =some r) (fun y2=>x1.length - y2) 0 eJ h ?_;rintro y2 h;refine goL ?_;refine mQ (fun c4=>?_) (fun c4=>?_)
 ·have c:=vF c4;obtain⟨x5,an,ai⟩:=drop_at c;rw [ai,gFe.eq_2] at h;refine noS ?_;refine kH (jE ?_);refine goL ?_;refine jK (jM y2 (gNp an)) ?_;refine jK (gG (gF2 a1 x5)) ?_;refine mQ (fun c6=>?_) (fun c6=>?_)
  ·replace h:=kT c6 h;exact goR h
  ·replace h:=kU c6 h;refine goS ?_;refine jK (kD y2 (by omega)) ?_;exact⟨(y2+1),h,by omega,eJ⟩
 ·have c:=vG c4;rw [jH c,gFe.eq_1] at h;refine goX ?_;obtain⟨x7,ap,h⟩:=gJ h;refine qM (gG (gRc _ ap)) ?_;exact goR h
def vT(f:kP):List gZ→LS→Option (Bool)
 | [],c=>bnd ((cnd (mO f.name) (bnd (yK f.vars 3) fun q=>
(cnd q ((cnd (decide ((c.length:Int) > 0)) (bnd (yK c 5) fun y=>
(some y)) ((some false)))) ((some false)))) ((some false)))) fun aa=>
(some aa)
 | h::xs,c=>bnd ((cnd (decide ((h.fields.length:Int) > 4)) ((some true)) (bnd (gOk h.fields f.vars) fun x9=>
(some (!x9))))) fun b7=>
(cnd b7 (
(some false)) (
gd (c.length+[h.name].length≤4294967296) (
vT f xs (c++[h.name]))))
def gBd(c:kP):Option (Bool):=
vT c c.constructors []
theorem gHa(a0:kP){r:Bool}(h:gBd a0=some r):jF Tryz.prog 212 [.d (gD6 a0)] [.b r]:=by
 obtain⟨f,y,c⟩:=a0;unfold gBd at h;refine SpI Tryz.func212 fun A _=>?_;refine goL ?_;refine gB9 ?_;refine goL ?_;refine noB ?_;refine yP 0 2 (fun z4=>?_);refine kV (fun(y3:Nat)(y1:LS)(v2:Nat)=>⟨[(1,.ptr 0 0),(3,.sl 1 v2),(4,.N y3)],[bDa f y c,.own 9 1 v2 (gP y1)],Tryz.f212.ntmps⟩) (fun y3 y1 v2=>vT (kP.mk f y c) (c.drop y3) y1=some r) (fun y3 y1 v2=>c.length - y3) 0 [] 0 eJ h ?_;rintro y3 y1 v2 h;refine goL ?_;refine mQ (fun c5=>?_) (fun c5=>?_)
 ·have q:=vF c5;obtain⟨x6,ae,ag⟩:=drop_at q;rw [ag,vT.eq_2] at h;obtain⟨ad,ap⟩:=x6;refine noS ?_;refine kH (jE ?_);refine gHi ?_;obtain⟨b7,hb7,h⟩:=gJ h;refine uT (P:=Tryz.prog) Mix.h ⟨[(1,.ptr 0 0),(3,.sl 1 v2),(4,.N y3),(32,.B b7)],[bDa f y c,.own 9 1 v2 (gP y1)],Tryz.f212.ntmps⟩ (by kernel_rfl) ?_ ?_
  ·refine goL ?_;refine gCy (jM y3 (gDh ae)) ?_;refine goL ?_;refine wN 21 (fun c8=>?_) (fun c8=>?_)
   ·replace hb7:=kT c8 hb7;refine goL ?_;cases hb7;exact eJ
   ·replace hb7:=kU c8 hb7;refine goL ?_;refine gEa (jM y3 (gDh ae)) ?_;refine goL ?_;obtain⟨x9,am,hb7⟩:=gJ hb7;refine gEa (gG (gW9 _ _ am)) ?_;refine goL ?_;cases hb7;exact eJ
  refine goC h ?_ ?_<;>intro au h
  ·exact goR h
  ·refine goS ?_;refine jK (jM y3 (gDh ae)) ?_;refine yF ad ?_;obtain⟨an,h⟩:=pO h;refine gDn an ?_;refine goL ?_;refine jK (kD y3 (by omega)) ?_;exact⟨(y3+1),(y1++[ad]),(v2+1),h,by omega,eJ⟩
 ·have q:=vG c5;rw [jH q,vT.eq_1] at h;refine goX ?_;refine jK (gG (qR f)) ?_;obtain⟨ao,hb12,h⟩:=gJ h;refine kC ⟨[(2,.B ao)],[bDa f y c,.own 9 1 v2 (gP y1)],Tryz.f212.ntmps⟩ ?_ ?_
  ·refine gqA 45 hb12 (fun av hb12=>?_);obtain⟨aw,ah,hb12⟩:=gJ hb12;refine jK (gG (zU _ _ ah)) ?_;refine gqA 50 hb12 (fun ax hb12=>?_);refine gqA 55 hb12 (fun ay hb12=>?_);obtain⟨a3,ai,hb12⟩:=gJ hb12;refine gAc (gUo (zU y1 5 ai)) ?_;cases hb12;exact eJ
  exact goR h
def gSo(c:jD):Option (Bool):=
bnd ((cnd (!(mO c.name)) ((some true)) ((cnd (decide ((c.params.length:Int) > 4)) ((some true)) (bnd (gOk c.params [[115,101,108,102]]) fun x4=>
(cnd (!x4) ((some true)) (bnd (gDq c.result [[115,101,108,102]]) fun x6=>
(some (!x6))))))))) fun b1=>
(cnd b1 (
(some false)) (
(cnd (!c.hasDefault) (
bnd ((cnd ((c.vars.length:Int)==0) (bnd (gPn c.body) fun f=>
(some f)) ((some false)))) fun b9=>
(some b9)) (
bnd (yK c.vars 5) fun h=>
bnd ((cnd h ((cnd ((c.vars.length:Int)==(IntKind.i64.wrap ((c.params.length:Int)+1))) (bnd (gJt c.body c.vars) fun q=>
(some q)) ((some false)))) ((some false)))) fun y=>
(some y)))))
theorem hEd(a0:jD){r:Bool}(h:gSo a0=some r):jF Tryz.prog 227 [.d (gDg a0)] [.b r]:=by
 obtain⟨aj,ak,⟨y,aa,ab⟩,al,am,⟨ac,ad,ae,ag,⟨c,f,q⟩,ah,ai⟩⟩:=a0;unfold gSo at h;refine SpI Tryz.func227 fun A _=>?_;refine goL ?_;refine jK (gG (qR aj)) ?_;obtain⟨b1,hb1,h⟩:=gJ h;refine kC ⟨[(1,.ptr 0 0),(26,.B b1)],[bSg aj ak y aa ab al am ac ad ae ag c f q ah ai],Tryz.f227.ntmps⟩ ?_ ?_
 ·refine wW 7 (fun c2=>?_) (fun c2=>?_) (by first | rfl | (simp only [kE,jN];rfl))
  ·replace hb1:=kT c2 hb1;refine goL ?_;cases hb1;exact⟨rfl,⟨⟨rfl,rfl⟩,⟨by first | rfl | (simp only [kE,jN];rfl),rfl⟩,trivial⟩,⟨_,rfl⟩,rfl⟩
  ·replace hb1:=kU c2 hb1;refine goL ?_;refine wW 13 (fun c3=>?_) (fun c3=>?_) (by first | rfl | (simp only [kE,jN];rfl))
   ·replace hb1:=kT c3 hb1;refine goL ?_;cases hb1;exact⟨rfl,⟨⟨rfl,rfl⟩,⟨by first | rfl | (simp only [kE,jN];rfl),rfl⟩,trivial⟩,⟨_,rfl⟩,rfl⟩
   ·replace hb1:=kU c3 hb1;refine goL ?_;refine gQc ?_;refine yF ([115,101,108,102]:LB) ?_;refine gQc ?_;obtain⟨x4,ax,hb1⟩:=gJ hb1;refine gAc (gUo (gW9 ak [[115,101,108,102]] ax)) ?_;refine wW 20 (fun c5=>?_) (fun c5=>?_) (by first | rfl | (simp only [kE,jN];rfl))
    ·replace hb1:=kT c5 hb1;refine goL ?_;cases hb1;exact⟨rfl,⟨⟨rfl,rfl⟩,⟨by first | rfl | (simp only [kE,jN];rfl),rfl⟩,trivial⟩,⟨_,rfl⟩,rfl⟩
    ·replace hb1:=kU c5 hb1;refine goL ?_;refine gQc ?_;refine yF ([115,101,108,102]:LB) ?_;refine gQc ?_;obtain⟨x6,a3,hb1⟩:=gJ hb1;refine gAc (gUo (gGl (gB.mk y aa ab) [[115,101,108,102]] a3)) ?_;cases hb1;exact⟨rfl,⟨⟨rfl,rfl⟩,⟨by first | rfl | (simp only [kE,jN];rfl),rfl⟩,trivial⟩,⟨_,rfl⟩,rfl⟩
 refine goC h ?_ ?_<;>intro c7 h
 ·exact goR h
 ·refine goS ?_;refine mQ (fun c8=>?_) (fun c8=>?_)
  ·replace h:=kT c8 h;refine goL ?_;obtain⟨b9,hb9,h⟩:=gJ h;refine kC ⟨[(2,.B b9)],[bSg aj ak y aa ab al am ac ad ae ag c f q ah ai],Tryz.f227.ntmps⟩ ?_ ?_
   ·refine gqA 34 hb9 (fun a8 hb9=>?_);obtain⟨a9,ap,hb9⟩:=gJ hb9;refine jK (gG (gZ6 _ ap)) ?_;cases hb9;exact eJ
   exact goR h
  ·replace h:=kU c8 h;refine goS ?_;obtain⟨ba,aq,h⟩:=gJ h;refine jK (gG (zU _ _ aq)) ?_;obtain⟨a5,hb13,h⟩:=gJ h;refine kC ⟨[(2,.B a5)],[bSg aj ak y aa ab al am ac ad ae ag c f q ah ai],Tryz.f227.ntmps⟩ ?_ ?_
   ·refine wW 42 (fun an=>?_) (fun an=>?_) (by first | rfl | (simp only [kE,jN];rfl))
    ·replace hb13:=kT an hb13;refine goL ?_;refine gQc ?_;refine jK (pV) ?_;refine wW 52 (fun ao=>?_) (fun ao=>?_) (by first | rfl | (simp only [kE,jN];rfl))
     ·replace hb13:=kT ao hb13;refine goL ?_;refine gQc ?_;obtain⟨bb,ar,hb13⟩:=gJ hb13;refine jK (gG (gPf _ _ ar)) ?_;cases hb13;exact⟨rfl,⟨⟨by first | rfl | (simp only [kE,jN];rfl),rfl⟩,trivial⟩,⟨_,rfl⟩,rfl⟩
     ·replace hb13:=kU ao hb13;refine goL ?_;cases hb13;exact⟨rfl,⟨⟨by first | rfl | (simp only [kE,jN];rfl),rfl⟩,trivial⟩,⟨_,rfl⟩,rfl⟩
    ·replace hb13:=kU an hb13;refine goL ?_;cases hb13;exact⟨rfl,⟨⟨by first | rfl | (simp only [kE,jN];rfl),rfl⟩,trivial⟩,⟨_,rfl⟩,rfl⟩
   exact goR h
def vU(a0:kP)(x4:gD):List gZ→(List gD)→Option (gD)
 | [],q=>bnd (gBd a0) fun y=>
bnd (gM6 y (gD.mk x4.atom q)) fun aa=>
(some aa)
 | h::xs,q=>lt_ (mP h.name) fun c=>
bnd (gK1 h.fields) fun f=>
gd ([c].length+f.length≤4294967296) (
gd (q.length+[(gD.mk [] ([c]++f))].length≤4294967296) (
vU a0 x4 xs (q++[(gD.mk [] ([c]++f))])))
def gDs(c:kP):Option (gD):=
lt_ (mP [100,97,116,97]) fun h=>
lt_ (mP c.name) fun q=>
bnd (gA6 c.vars) fun y=>
bnd (gIl [h,q,y]) fun f=>
vU c f c.constructors f.list
theorem gL1(a0:kP){r:gD}(h:gDs a0=some r):jF Tryz.prog 205 [.d (gD6 a0)] [qC r]:=by
 obtain⟨ae,ah,ad⟩:=a0;unfold gDs at h;refine SpI Tryz.func205 fun A _=>?_;refine gHi ?_;obtain⟨⟨c,f⟩,a6,h⟩:=qW h;have sx1:=pF [100,97,116,97];rw [a6] at sx1;obtain⟨⟨y,aa⟩,a7,h⟩:=qW h;have sx2:=pF ae;rw [a7] at sx2;obtain⟨⟨ab,ac⟩,a8,h⟩:=gJ h;obtain⟨⟨ai,aj⟩,ap,h⟩:=gJ h;refine zK (P:=Tryz.prog) Mix.h (.q 0 (.q 1 (.q 2 (.q 3 (.q 4 (.q 5 (.q 6 (.h 7 (.h 8 (.h 9 (.h 10 .nil .nil) .nil) (.h 9 (.h 8 (.h 10 .nil .nil) .nil) .nil)) (.h 9 (.h 7 (.h 8 (.h 10 .nil .nil) .nil) .nil) .nil))))))))) ⟨[(1,.ptr 0 0),(2,.ptr 1 0),(3,.ptr 4 0)],[bDa ae ah ad,.box [.S [],.nilsl],.frz 223 2 0 (jA [(gD.mk c f),(gD.mk y aa),(gD.mk ab ac)]),.arr 223 2 0 (jA aj),.box [.S ai,.sl 3 0]],Tryz.f205.ntmps⟩ (by kernel_rfl) ?_ ?_
 ·refine gFx (jO rfl (gG (sx1)) gQ) ?_;refine goT ?_;refine gFx (jO rfl (gG (sx2)) gQ) ?_;refine goT ?_;refine gFx (jO rfl (gG (uU _ a8)) gQ) ?_;refine pR (jT (T:=221) (us:=jA [(gD.mk c f),(gD.mk y aa),(gD.mk ab ac)]) gQ) ?_ ?_
  ·refine pR (mG 2 rfl rfl (gCn (sv:=.ag [.S ai,.sl 3 0]) (L':=[bDa ae ah ad,.box [.S [],.nilsl],.frz 223 2 0 (jA [(gD.mk c f),(gD.mk y aa),(gD.mk ab ac)]),.arr 223 2 0 (jA aj)]) [] (vK [(gD.mk c f),(gD.mk y aa),(gD.mk ab ac)] ap) gQ)) ?_ ?_
   ·refine goT ?_;refine jB ?_;exact mK 0 [0,1,2,3,4]
   refine goT ?_;refine gH (mG 2 rfl rfl (gCn (sv:=.ag [.S ai,.sl 4 0]) (L':=[bDa ae ah ad,.box [.S [],.nilsl],.frz 223 2 0 (jA [(gD.mk c f),(gD.mk y aa),(gD.mk ab ac)]),.box [.S [],.nilsl],.arr 223 2 0 (jA aj)]) [] (vK [(gD.mk c f),(gD.mk y aa),(gD.mk ab ac)] ap) gQ)) ?_;refine goT ?_;refine jB ?_;exact mK 0 [0,1,2,4,3]
  refine goT ?_;refine gH (jT (T:=221) (us:=jA [(gD.mk c f),(gD.mk y aa),(gD.mk ab ac)]) gQ) ?_;refine gH (mG 3 rfl rfl (gCn (sv:=.ag [.S ai,.sl 4 0]) (L':=[bDa ae ah ad,.box [.S [],.nilsl],.box [.S [],.nilsl],.frz 223 2 0 (jA [(gD.mk c f),(gD.mk y aa),(gD.mk ab ac)]),.arr 223 2 0 (jA aj)]) [] (vK [(gD.mk c f),(gD.mk y aa),(gD.mk ab ac)] ap) gQ)) ?_;refine goT ?_;refine jB ?_;exact mK 0 [0,1,3,4,2]
 refine goL ?_;refine noB ?_;refine yP 0 2 (fun z8=>?_);refine kV (fun(y7:Nat)(y5:List gD)(v6:Nat)=>⟨[(1,.ptr 0 0),(2,.ptr 1 0),(3,.ptr 4 0),(4,.N y7)],[bDa ae ah ad,.box [.S [],.nilsl],.frz 223 2 0 (jA [(gD.mk c f),(gD.mk y aa),(gD.mk ab ac)]),.arr 223 2 v6 (jA y5),.box [.S ai,.sl 3 v6]],Tryz.f205.ntmps⟩) (fun y7 y5 v6=>vU (kP.mk ae ah ad) (gD.mk ai aj) (ad.drop y7) y5=some r) (fun y7 y5 v6=>ad.length - y7) 0 aj 0 eJ h ?_;rintro y7 y5 v6 h;refine goL ?_;refine mQ (fun c9=>?_) (fun c9=>?_)
 ·have ak:=vF c9;obtain⟨ba,ao,aq⟩:=drop_at ak;rw [aq,vU.eq_2] at h;obtain⟨ar,bb⟩:=ba;refine noS ?_;refine kH (jE ?_);refine vP (P:=Tryz.prog) Mix.h [(0,true),(1,true),(2,true),(3,true),(4,true),(5,true),(6,true),(7,true),(8,true),(10,true),(11,true),(12,true),(13,true),(14,true),(15,true),(16,true),(9,false),(17,false),(18,true),(19,false),(20,false),(21,true),(22,false)] (by kernel_rfl) ?_;refine goY ?_;refine jO rfl (jM y7 (gDh ao)) ?_;refine goY ?_;obtain⟨⟨al,am⟩,aw,h⟩:=qW h;have sx11:=pF ar;rw [aw] at sx11;refine jO rfl (gG (sx11)) ?_;refine goY ?_;refine jO rfl (jM y7 (gDh ao)) ?_;refine goY ?_;obtain⟨ax,ay,h⟩:=gJ h;refine jO rfl (gG (gRp _ ay)) ?_;refine jT (T:=221) (us:=jA [(gD.mk al am)]) ?_;obtain⟨bc,h⟩:=pO h;refine jR (T:=221) bc ?_;refine goY ?_;refine mG 5 rfl rfl ?_;refine jT (T:=221) (us:=jA [(gD.mk [] ([(gD.mk al am)]++ax))]) ?_;obtain⟨bd,h⟩:=pO h;refine jR (T:=221) bd ?_;refine goY ?_;refine kX ?_;refine goL ?_;refine jK (kD y7 (by omega)) ?_;exact⟨(y7+1),(y5++[(gD.mk [] ([(gD.mk al am)]++ax))]),(v6+1),h,by omega,eJ⟩
 ·have ak:=vG c9;rw [jH ak,vU.eq_1] at h;refine noX ?_;refine gW 3 rfl rfl ?_;refine hMk ?_;refine jL (P:=Tryz.prog) Mix.h [(0,true),(1,true),(2,true),(3,true),(4,false)] (by kernel_rfl) ?_;refine goY ?_;obtain⟨bg,a3,h⟩:=gJ h;refine jO rfl (gG (gHa _ a3)) ?_;refine goY ?_;obtain⟨⟨be,bf⟩,a4,h⟩:=gJ h;refine jO rfl (gG (gSn _ _ a4)) ?_;refine goY ?_;refine kX ?_;exact goR h
def vV:List gX→LS→Option (Bool)
 | [],f=>bnd (yK f 6) fun h=>
(some h)
 | c::xs,f=>bnd ((cnd ((c.vars.length:Int)==0) ((some true)) (bnd (yK c.vars 5) fun q=>
(cnd (!q) ((some true)) (bnd (gJt c.body c.vars) fun y=>
(some (!y))))))) fun aa=>
(cnd aa (
(some false)) (
gd (f.length+[c.name].length≤4294967296) (
vV xs (f++[c.name]))))
def vW(c:gY):LS→Option (Bool)
 | []=>bnd ((cnd c.hasAssoc (bnd (gDq c.assoc c.vars) fun f=>
(cnd (!f) ((some true)) ((cnd (!c.hasAssoc) ((some (!(gAe c.assoc)))) ((some false)))))) ((cnd (!c.hasAssoc) ((some (!(gAe c.assoc)))) ((some false)))))) fun h=>
(cnd h (
(some false)) (
vV c.methods []))
 | q::xs=>bnd (gLo q c.head) fun y=>
(cnd (!y) (
(some false)) (
vW c xs ))
def gBe(c:gY):Option (Bool):=
bnd ((cnd (!(mO c.trait)) ((some true)) (bnd (yK c.vars 3) fun h=>
(cnd (!h) ((some true)) (bnd (gDq c.head c.vars) fun q=>
(cnd (!q) ((some true)) (bnd (vD 5000 c.head) fun y=>
(cnd y ((some true)) ((cnd (c.head.kind==4) ((some true)) (bnd (gKy c.where_ c.vars) fun f=>
(some (!f))))))))))))) fun b1=>
(cnd b1 (
(some false)) (
vW c c.vars ))
theorem gHb(a0:gY){r:Bool}(h:gBe a0=some r):jF Tryz.prog 213 [.d (yX a0)] [.b r]:=by
 obtain⟨ae,ac,⟨y,aa,ab⟩,ah,ai,aj,⟨c,f,q⟩,ad⟩:=a0;unfold gBe at h;refine SpI Tryz.func213 fun A _=>?_;refine goL ?_;refine jK (gG (qR ae)) ?_;obtain⟨b1,hb1,h⟩:=gJ h;refine kC ⟨[(1,.ptr 0 0),(43,.B b1)],[bIn ae ac y aa ab ah ai aj c f q ad],Tryz.f213.ntmps⟩ ?_ ?_
 ·refine gqO 11 hb1 (fun c2 hb1=>?_);obtain⟨x3,bj,hb1⟩:=gJ hb1;refine jK (gG (zU _ _ bj)) ?_;refine gqO 17 hb1 (fun c4 hb1=>?_);obtain⟨x5,bk,hb1⟩:=gJ hb1;refine jK (gG (gGl _ _ bk)) ?_;refine gqO 25 hb1 (fun c6 hb1=>?_);obtain⟨x7,bl,hb1⟩:=gJ hb1;refine jK (gG (gFz _ _ bl)) ?_;refine gqO 30 hb1 (fun c8 hb1=>?_);refine gqO 36 hb1 (fun c9 hb1=>?_);obtain⟨br,ba,hb1⟩:=gJ hb1;refine jK (gG (gRo _ _ ba)) ?_;cases hb1;exact eJ
 refine goC h ?_ ?_<;>intro bt h
 ·exact goR h
 ·refine goS ?_;refine noB ?_;refine yP 0 1 (fun bu=>?_);refine qD (fun(ak:Nat)=>⟨[(1,.ptr 0 0),(3,.N ak)],[bIn ae ac y aa ab ah ai aj c f q ad],Tryz.f213.ntmps⟩) (fun ak=>vW (gY.mk ae ac (gB.mk y aa ab) ah ai aj (gB.mk c f q) ad) (ac.drop ak)  =some r) (fun ak=>ac.length - ak) 0 eJ h ?_;rintro ak h;refine goL ?_;refine mQ (fun a5=>?_) (fun a5=>?_)
  ·have al:=vF a5;obtain⟨bv,bb,a6⟩:=drop_at al;rw [a6,vW.eq_2] at h;refine noS ?_;refine kH (jE ?_);refine goL ?_;refine gCy (jM ak (gNp bb)) ?_;refine goL ?_;obtain⟨bw,bc,h⟩:=gJ h;refine gCy (gG (gV1 _ _ bc)) ?_;refine goC h ?_ ?_<;>intro bx h
   ·exact goR h
   ·refine goS ?_;refine jK (kD ak (by omega)) ?_;exact⟨(ak+1),h,by omega,eJ⟩
  ·have al:=vG a5;rw [jH al,vW.eq_1] at h;refine goX ?_;obtain⟨bm,hb18,h⟩:=gJ h;refine kC ⟨[(1,.ptr 0 0),(80,.B bm)],[bIn ae ac y aa ab ah ai aj c f q ad],Tryz.f213.ntmps⟩ ?_ ?_
   ·refine gqV 62 hb18 ?_ ?_<;>intro bz hb18
    ·obtain⟨b0,bd,hb18⟩:=gJ hb18;refine jK (gG (gGl _ _ bd)) ?_;refine gqO 70 hb18 (fun b2 hb18=>?_);refine gqA 74 hb18 (fun b3 hb18=>?_);refine jK (gG (gC0 (gB.mk c f q))) ?_;cases hb18;exact eJ
    ·refine gqA 74 hb18 (fun b4 hb18=>?_);refine jK (gG (gC0 (gB.mk c f q))) ?_;cases hb18;exact eJ
   refine goC h ?_ ?_<;>intro b5 h
   ·exact goR h
   ·refine goS ?_;refine gB9 ?_;refine goL ?_;refine noB ?_;refine yP 0 11 (fun b6=>?_);refine kV (fun(ag:Nat)(an:LS)(ao:Nat)=>⟨[(1,.ptr 0 0),(4,.sl 1 ao),(5,.N ag)],[bIn ae ac y aa ab ah ai aj c f q ad,.own 9 1 ao (gP an)],Tryz.f213.ntmps⟩) (fun ag an ao=>vV (ad.drop ag) an=some r) (fun ag an ao=>ad.length - ag) 0 [] 0 eJ h ?_;rintro ag an ao h;refine goL ?_;refine mQ (fun a7=>?_) (fun a7=>?_)
    ·have am:=vF a7;obtain⟨bn,be,a8⟩:=drop_at am;rw [a8,vV.eq_2] at h;obtain⟨ap,a9,⟨av,aw,ax,ay,⟨aq,ar,au⟩,a3,a4⟩⟩:=bn;refine noS ?_;refine kH (jE ?_);refine goL ?_;refine jK (jM ag (gWe be)) ?_;obtain⟨bo,hb31,h⟩:=gJ h;refine kC ⟨[(1,.ptr 0 0),(4,.sl 1 ao),(5,.N ag),(6,.ptr 2 0),(111,.B bo)],[bIn ae ac y aa ab ah ai aj c f q ad,.own 9 1 ao (gP an),.box [.S ap,.L 1 (gP a9),.I av,.S aw,.S ax,.I ay,.I aq,.S ar,.L 3 (gK au),.L 9 (jS a3),.L 11 (mW a4)]],Tryz.f213.ntmps⟩ ?_ ?_
     ·refine gqO 98 hb31 (fun b7 hb31=>?_);obtain⟨b8,bf,hb31⟩:=gJ hb31;refine jK (gG (zU _ _ bf)) ?_;refine gqO 104 hb31 (fun b9 hb31=>?_);obtain⟨ca,bg,hb31⟩:=gJ hb31;refine jK (gG (gPf _ _ bg)) ?_;cases hb31;exact eJ
     refine goC h ?_ ?_<;>intro cb h
     ·exact goR h
     ·refine goS ?_;refine yF ap ?_;obtain⟨bp,h⟩:=pO h;refine gDn bp ?_;refine goL ?_;refine jK (kD ag (by omega)) ?_;exact⟨(ag+1),(an++[ap]),(ao+1),h,by omega,eJ⟩
    ·have am:=vG a7;rw [jH am,vV.eq_1] at h;refine goX ?_;obtain⟨cc,bh,h⟩:=gJ h;refine yS (gUo (zU an 6 bh)) ?_;exact goR h
def vX(c:kI):List uG→LS→Option (Bool)
 | [],f=>bnd ((cnd (mO c.name) (bnd (yK c.vars 3) fun h=>
(cnd h (bnd (gKy c.where_ c.vars) fun q=>
(cnd q (bnd (yK f 5) fun y=>
(cnd y (bnd (gDq c.result c.vars) fun aa=>
(cnd aa (bnd (gJt c.body f) fun ab=>
(some ab)) ((some false)))) ((some false)))) ((some false)))) ((some false)))) ((some false)))) fun ac=>
(some ac)
 | x6::xs,f=>bnd (gDq x6.type_ c.vars) fun x7=>
(cnd (!x7) (
(some false)) (
gd (f.length+[x6.name].length≤4294967296) (
vX c xs (f++[x6.name]))))
def gBf(c:kI):Option (Bool):=
vX c c.params []
theorem gHc(a0:kI){r:Bool}(h:gBf a0=some r):jF Tryz.prog 214 [.d (gD7 a0)] [.b r]:=by
 obtain⟨al,am,an,aj,⟨ag,ah,ai⟩,⟨y,aa,ab,ac,⟨c,f,q⟩,ad,ae⟩⟩:=a0;unfold gBf at h;refine SpI Tryz.func214 fun A _=>?_;refine goL ?_;refine gB9 ?_;refine goL ?_;refine noB ?_;refine yP 0 3 (fun z4=>?_);refine kV (fun(y3:Nat)(y1:LS)(v2:Nat)=>⟨[(1,.ptr 0 0),(3,.sl 1 v2),(4,.N y3)],[.box [.S al,.L 1 (gP am),.L 4 (jQ an),.L 4 (uS aj),.I ag,.S ah,.L 3 (gK ai),.I y,.S aa,.S ab,.I ac,.I c,.S f,.L 3 (gK q),.L 9 (jS ad),.L 11 (mW ae)],.own 9 1 v2 (gP y1)],Tryz.f214.ntmps⟩) (fun y3 y1 v2=>vX (kI.mk al am an aj (gB.mk ag ah ai) (gU.mk y aa ab ac (gB.mk c f q) ad ae)) (aj.drop y3) y1=some r) (fun y3 y1 v2=>aj.length - y3) 0 [] 0 eJ h ?_;rintro y3 y1 v2 h;refine goL ?_;refine mQ (fun c5=>?_) (fun c5=>?_)
 ·have ak:=vF c5;obtain⟨x6,au,av⟩:=drop_at ak;rw [av,vX.eq_2] at h;obtain⟨aq,⟨a5,a6,a7⟩⟩:=x6;refine noS ?_;refine kH (jE ?_);refine goL ?_;refine gCy (jM y3 (gXp au)) ?_;refine goL ?_;obtain⟨x7,ba,h⟩:=gJ h;refine gCy (gG (gGl _ _ ba)) ?_;refine goC h ?_ ?_<;>intro c8 h
  ·exact goR h
  ·refine goS ?_;refine jK (jM y3 (gXp au)) ?_;refine yF aq ?_;obtain⟨g9,h⟩:=pO h;refine gDn g9 ?_;refine goL ?_;refine jK (kD y3 (by omega)) ?_;exact⟨(y3+1),(y1++[aq]),(v2+1),h,by omega,eJ⟩
 ·have ak:=vG c5;rw [jH ak,vX.eq_1] at h;refine goX ?_;refine jK (gG (qR al)) ?_;obtain⟨bb,hb10,h⟩:=gJ h;refine kC ⟨[(2,.B bb)],[.box [.S al,.L 1 (gP am),.L 4 (jQ an),.L 4 (uS aj),.I ag,.S ah,.L 3 (gK ai),.I y,.S aa,.S ab,.I ac,.I c,.S f,.L 3 (gK q),.L 9 (jS ad),.L 11 (mW ae)],.own 9 1 v2 (gP y1)],Tryz.f214.ntmps⟩ ?_ ?_
  ·refine gqA 35 hb10 (fun be hb10=>?_);obtain⟨bf,aw,hb10⟩:=gJ hb10;refine jK (gG (zU _ _ aw)) ?_;refine gqA 40 hb10 (fun bg hb10=>?_);obtain⟨bh,ax,hb10⟩:=gJ hb10;refine jK (gG (gRo _ _ ax)) ?_;refine gqA 47 hb10 (fun bi hb10=>?_);obtain⟨bj,ay,hb10⟩:=gJ hb10;refine gAc (gUo (zU y1 5 ay)) ?_;refine gqA 51 hb10 (fun bk hb10=>?_);obtain⟨bl,a3,hb10⟩:=gJ hb10;refine jK (gG (gGl _ _ a3)) ?_;refine gqA 58 hb10 (fun bm hb10=>?_);obtain⟨bn,a4,hb10⟩:=gJ hb10;refine gAc (gUo (gPf (gU.mk y aa ab ac (gB.mk c f q) ad ae) y1 a4)) ?_;cases hb10;exact eJ
  exact goR h
end Go.Proofs.YtfpdlnkkcnmebaaGreat
