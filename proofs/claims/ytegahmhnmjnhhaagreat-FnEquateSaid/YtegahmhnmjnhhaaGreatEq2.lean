import Derived.Test.YtegahmhnmjnhhaaGreatHiv
set_option maxHeartbeats 4000000
set_option linter.unusedVariables false
set_option linter.unusedSimpArgs false
set_option linter.unusedSectionVars false
namespace Go.Proofs.YtegahmhnmjnhhaaGreat
open Go Go.Eng
attribute [local irreducible] V VO VQ VY Quiet QR gY kR Rng mU mW mG
def gWk(c:qL):Option (Bool):=
bnd ((cnd (!(mH c.name)) ((some true)) ((cnd (decide ((c.params.length:Int) > 4)) ((some true)) (bnd (gRe c.params [[115,101,108,102]]) fun x4=>
(cnd (!x4) ((some true)) (bnd (gEo c.result [[115,101,108,102]]) fun x6=>
(some (!x6))))))))) fun b1=>
(cnd b1 (
(some false)) (
(cnd (!c.hasDefault) (
bnd ((cnd ((c.vars.length:Int)==0) (bnd (gRy c.body) fun f=>
(some f)) ((some false)))) fun b9=>
(some b9)) (
bnd (yA c.vars 5) fun h=>
bnd ((cnd h ((cnd ((c.vars.length:Int)==(IntKind.i64.wrap ((c.params.length:Int)+1))) (bnd (gLs c.body c.vars) fun y=>
(some y)) ((some false)))) ((some false)))) fun aa=>
(some aa)))))
theorem hOu(a0:qL){r:Bool}(h:gWk a0=some r):gY Tryz.prog 212 [.d (gG7 a0)] [.b r]:=by
 obtain⟨ak,al,⟨aa,ab,ac⟩,am,an,⟨ad,ae,ag,ah,⟨c,f,y⟩,ai,aj⟩⟩:=a0;unfold gWk at h;refine SpI Tryz.func212 fun A _=>?_;refine goL ?_;refine jI (gF (qG ak)) ?_;obtain⟨b1,hb1,h⟩:=gM h;refine jT ⟨[(1,.ptr 0 0),(26,.B b1)],[bSg ak al aa ab ac am an ad ae ag ah c f y ai aj],Tryz.f212.ntmps⟩ ?_ ?_
 ·refine uD 7 (fun c2=>?_) (fun c2=>?_) (by first | rfl | (simp only [jE,gU];rfl))
  ·replace hb1:=kD c2 hb1;refine goL ?_;cases hb1;exact⟨rfl,⟨⟨rfl,rfl⟩,⟨by first | rfl | (simp only [jE,gU];rfl),rfl⟩,trivial⟩,⟨_,rfl⟩,rfl⟩
  ·replace hb1:=kE c2 hb1;refine goL ?_;refine uD 13 (fun c3=>?_) (fun c3=>?_) (by first | rfl | (simp only [jE,gU];rfl))
   ·replace hb1:=kD c3 hb1;refine goL ?_;cases hb1;exact⟨rfl,⟨⟨rfl,rfl⟩,⟨by first | rfl | (simp only [jE,gU];rfl),rfl⟩,trivial⟩,⟨_,rfl⟩,rfl⟩
   ·replace hb1:=kE c3 hb1;refine goL ?_;refine gQq ?_;refine gBc ([115,101,108,102]:LB) ?_;refine gQq ?_;obtain⟨x4,ay,hb1⟩:=gM hb1;refine gBn (gV9 (hEd al [[115,101,108,102]] ay)) ?_;refine uD 20 (fun c5=>?_) (fun c5=>?_) (by first | rfl | (simp only [jE,gU];rfl))
    ·replace hb1:=kD c5 hb1;refine goL ?_;cases hb1;exact⟨rfl,⟨⟨rfl,rfl⟩,⟨by first | rfl | (simp only [jE,gU];rfl),rfl⟩,trivial⟩,⟨_,rfl⟩,rfl⟩
    ·replace hb1:=kE c5 hb1;refine goL ?_;refine gQq ?_;refine gBc ([115,101,108,102]:LB) ?_;refine gQq ?_;obtain⟨x6,a4,hb1⟩:=gM hb1;refine gBn (gV9 (gH3 (gB.mk aa ab ac) [[115,101,108,102]] a4)) ?_;cases hb1;exact⟨rfl,⟨⟨rfl,rfl⟩,⟨by first | rfl | (simp only [jE,gU];rfl),rfl⟩,trivial⟩,⟨_,rfl⟩,rfl⟩
 refine goC h ?_ ?_<;>intro c7 h
 ·exact goR h
 ·refine goS ?_;refine kX (fun c8=>?_) (fun c8=>?_)
  ·replace h:=kD c8 h;refine goL ?_;obtain⟨b9,hb9,h⟩:=gM h;refine jT ⟨[(2,.B b9)],[bSg ak al aa ab ac am an ad ae ag ah c f y ai aj],Tryz.f212.ntmps⟩ ?_ ?_
   ·refine gqA 34 hb9 (fun a9 hb9=>?_);obtain⟨ba,aq,hb9⟩:=gM hb9;refine jI (gF (hGv _ aq)) ?_;cases hb9;exact eJ
   exact goR h
  ·replace h:=kE c8 h;refine goS ?_;obtain⟨bb,ar,h⟩:=gM h;refine jI (gF (gAc _ _ ar)) ?_;obtain⟨a6,hb13,h⟩:=gM h;refine jT ⟨[(2,.B a6)],[bSg ak al aa ab ac am an ad ae ag ah c f y ai aj],Tryz.f212.ntmps⟩ ?_ ?_
   ·refine uD 42 (fun ao=>?_) (fun ao=>?_) (by first | rfl | (simp only [jE,gU];rfl))
    ·replace hb13:=kD ao hb13;refine goL ?_;refine gQq ?_;refine jI (pU) ?_;refine uD 52 (fun ap=>?_) (fun ap=>?_) (by first | rfl | (simp only [jE,gU];rfl))
     ·replace hb13:=kD ap hb13;refine goL ?_;refine gQq ?_;obtain⟨bc,au,hb13⟩:=gM hb13;refine jI (gF (gS8 _ _ au)) ?_;cases hb13;exact⟨rfl,⟨⟨by first | rfl | (simp only [jE,gU];rfl),rfl⟩,trivial⟩,⟨_,rfl⟩,rfl⟩
     ·replace hb13:=kE ap hb13;refine goL ?_;cases hb13;exact⟨rfl,⟨⟨by first | rfl | (simp only [jE,gU];rfl),rfl⟩,trivial⟩,⟨_,rfl⟩,rfl⟩
    ·replace hb13:=kE ao hb13;refine goL ?_;cases hb13;exact⟨rfl,⟨⟨by first | rfl | (simp only [jE,gU];rfl),rfl⟩,trivial⟩,⟨_,rfl⟩,rfl⟩
   exact goR h
def vS(a0:mP)(x4:gD):List pV→(List gD)→Option (gD)
 | [],y=>bnd (gBx a0) fun aa=>
bnd (gP5 aa (gD.mk x4.atom y)) fun ab=>
(some ab)
 | h::xs,y=>lt_ (mF h.name) fun c=>
bnd (gMb h.fields) fun f=>
gd ([c].length+f.length≤4294967296) (
gd (y.length+[(gD.mk [] ([c]++f))].length≤4294967296) (
vS a0 x4 xs (y++[(gD.mk [] ([c]++f))])))
def gEf(c:mP):Option (gD):=
lt_ (mF [100,97,116,97]) fun h=>
lt_ (mF c.name) fun y=>
bnd (gBh c.vars) fun x3=>
bnd (gJt [h,y,x3]) fun f=>
vS c f c.constructors f.list
theorem gOp(a0:mP){r:gD}(h:gEf a0=some r):gY Tryz.prog 171 [.d (gFu a0)] [pJ r]:=by
 obtain⟨ae,ah,ad⟩:=a0;unfold gEf at h;refine SpI Tryz.func171 fun A _=>?_;refine gId ?_;obtain⟨⟨c,f⟩,a6,h⟩:=qA h;have sx1:=mO [100,97,116,97];rw [a6] at sx1;obtain⟨⟨y,aa⟩,a7,h⟩:=qA h;have sx2:=mO ae;rw [a7] at sx2;obtain⟨⟨ab,ac⟩,a8,h⟩:=gM h;obtain⟨⟨ai,aj⟩,ap,h⟩:=gM h;refine qJ (P:=Tryz.prog) Mix.h (.q 0 (.q 1 (.q 2 (.q 3 (.q 4 (.q 5 (.q 6 (.h 7 (.h 8 (.h 9 (.h 10 .nil .nil) .nil) (.h 9 (.h 8 (.h 10 .nil .nil) .nil) .nil)) (.h 9 (.h 7 (.h 8 (.h 10 .nil .nil) .nil) .nil) .nil))))))))) ⟨[(1,.ptr 0 0),(2,.ptr 1 0),(3,.ptr 4 0)],[bDa ae ah ad,.box [.S [],.nilsl],.frz 135 2 0 (gX [(gD.mk c f),(gD.mk y aa),(gD.mk ab ac)]),.arr 135 2 0 (gX aj),.box [.S ai,.sl 3 0]],Tryz.f171.ntmps⟩ (by kernel_rfl) ?_ ?_
 ·refine gAt (jF rfl (gF (sx1)) jU) ?_;refine goT ?_;refine gAt (jF rfl (gF (sx2)) jU) ?_;refine goT ?_;refine gAt (jF rfl (gF (uO _ a8)) jU) ?_;refine uV (qE (T:=133) (us:=gX [(gD.mk c f),(gD.mk y aa),(gD.mk ab ac)]) jU) ?_ ?_
  ·refine uV (gBe 2 rfl rfl (gC5 (sv:=.ag [.S ai,.sl 3 0]) (L':=[bDa ae ah ad,.box [.S [],.nilsl],.frz 135 2 0 (gX [(gD.mk c f),(gD.mk y aa),(gD.mk ab ac)]),.arr 135 2 0 (gX aj)]) [] (vD [(gD.mk c f),(gD.mk y aa),(gD.mk ab ac)] ap) jU)) ?_ ?_
   ·refine goT ?_;refine jV ?_;exact qX 0 [0,1,2,3,4]
   refine goT ?_;refine jR (gBe 2 rfl rfl (gC5 (sv:=.ag [.S ai,.sl 4 0]) (L':=[bDa ae ah ad,.box [.S [],.nilsl],.frz 135 2 0 (gX [(gD.mk c f),(gD.mk y aa),(gD.mk ab ac)]),.box [.S [],.nilsl],.arr 135 2 0 (gX aj)]) [] (vD [(gD.mk c f),(gD.mk y aa),(gD.mk ab ac)] ap) jU)) ?_;refine goT ?_;refine jV ?_;exact qX 0 [0,1,2,4,3]
  refine goT ?_;refine jR (qE (T:=133) (us:=gX [(gD.mk c f),(gD.mk y aa),(gD.mk ab ac)]) jU) ?_;refine jR (gBe 3 rfl rfl (gC5 (sv:=.ag [.S ai,.sl 4 0]) (L':=[bDa ae ah ad,.box [.S [],.nilsl],.box [.S [],.nilsl],.frz 135 2 0 (gX [(gD.mk c f),(gD.mk y aa),(gD.mk ab ac)]),.arr 135 2 0 (gX aj)]) [] (vD [(gD.mk c f),(gD.mk y aa),(gD.mk ab ac)] ap) jU)) ?_;refine goT ?_;refine jV ?_;exact qX 0 [0,1,3,4,2]
 refine goL ?_;refine noB ?_;refine wJ 0 2 (fun z8=>?_);refine kS (fun(y7:Nat)(y5:List gD)(v6:Nat)=>⟨[(1,.ptr 0 0),(2,.ptr 1 0),(3,.ptr 4 0),(4,.N y7)],[bDa ae ah ad,.box [.S [],.nilsl],.frz 135 2 0 (gX [(gD.mk c f),(gD.mk y aa),(gD.mk ab ac)]),.arr 135 2 v6 (gX y5),.box [.S ai,.sl 3 v6]],Tryz.f171.ntmps⟩) (fun y7 y5 v6=>vS (mP.mk ae ah ad) (gD.mk ai aj) (ad.drop y7) y5=some r) (fun y7 y5 v6=>ad.length - y7) 0 aj 0 eJ h ?_;rintro y7 y5 v6 h;refine goL ?_;refine kX (fun c9=>?_) (fun c9=>?_)
 ·have ak:=uR c9;obtain⟨ba,ao,aq⟩:=drop_at ak;rw [aq,vS.eq_2] at h;obtain⟨ar,bb⟩:=ba;refine noS ?_;refine jY (jA ?_);refine uM (P:=Tryz.prog) Mix.h [(0,true),(1,true),(2,true),(3,true),(4,true),(5,true),(6,true),(7,true),(8,true),(10,true),(11,true),(12,true),(13,true),(14,true),(15,true),(16,true),(9,false),(17,false),(18,true),(19,false),(20,false),(21,true),(22,false)] (by kernel_rfl) ?_;refine goY ?_;refine jF rfl (jJ y7 (gDu ao)) ?_;refine goY ?_;obtain⟨⟨al,am⟩,aw,h⟩:=qA h;have sx11:=mO ar;rw [aw] at sx11;refine jF rfl (gF (sx11)) ?_;refine goY ?_;refine jF rfl (jJ y7 (gDu ao)) ?_;refine goY ?_;obtain⟨ax,ay,h⟩:=gM h;refine jF rfl (gF (gUd _ ay)) ?_;refine qE (T:=133) (us:=gX [(gD.mk al am)]) ?_;obtain⟨bc,h⟩:=mY h;refine pW (T:=133) bc ?_;refine goY ?_;refine gBe 5 rfl rfl ?_;refine qE (T:=133) (us:=gX [(gD.mk [] ([(gD.mk al am)]++ax))]) ?_;obtain⟨bd,h⟩:=mY h;refine pW (T:=133) bd ?_;refine goY ?_;refine kQ ?_;refine goL ?_;refine jI (jW y7 (by omega)) ?_;exact⟨(y7+1),(y5++[(gD.mk [] ([(gD.mk al am)]++ax))]),(v6+1),h,by omega,eJ⟩
 ·have ak:=uS c9;rw [jC ak,vS.eq_1] at h;refine noX ?_;refine kP 3 rfl rfl ?_;refine hWt ?_;refine jK (P:=Tryz.prog) Mix.h [(0,true),(1,true),(2,true),(3,true),(4,false)] (by kernel_rfl) ?_;refine goY ?_;obtain⟨bg,a3,h⟩:=gM h;refine jF rfl (gF (gIt _ a3)) ?_;refine goY ?_;obtain⟨⟨be,bf⟩,a4,h⟩:=gM h;refine jF rfl (gF (gWt _ _ a4)) ?_;refine goY ?_;refine kQ ?_;exact goR h
def vT:List gC0→LS→Option (Bool)
 | [],f=>bnd (yA f 6) fun h=>
(some h)
 | c::xs,f=>bnd ((cnd ((c.vars.length:Int)==0) ((some true)) (bnd (yA c.vars 5) fun y=>
(cnd (!y) ((some true)) (bnd (gLs c.body c.vars) fun aa=>
(some (!aa))))))) fun ab=>
(cnd ab (
(some false)) (
gd (f.length+[c.name].length≤4294967296) (
vT xs (f++[c.name]))))
def vU(c:kG):LS→Option (Bool)
 | []=>bnd ((cnd c.hasAssoc (bnd (gEo c.assoc c.vars) fun f=>
(cnd (!f) ((some true)) ((cnd (!c.hasAssoc) ((some (!(gAf c.assoc)))) ((some false)))))) ((cnd (!c.hasAssoc) ((some (!(gAf c.assoc)))) ((some false)))))) fun h=>
(cnd h (
(some false)) (
vT c.methods []))
 | y::xs=>bnd (gEw y c.head) fun aa=>
(cnd (!aa) (
(some false)) (
vU c xs ))
def gBv(c:kG):Option (Bool):=
bnd ((cnd (!(mH c.trait)) ((some true)) (bnd (yA c.vars 3) fun h=>
(cnd (!h) ((some true)) (bnd (gEo c.head c.vars) fun y=>
(cnd (!y) ((some true)) (bnd (uL 5000 c.head) fun x7=>
(cnd x7 ((some true)) ((cnd (c.head.kind==4) ((some true)) (bnd (gMn c.where_ c.vars) fun f=>
(some (!f))))))))))))) fun b1=>
(cnd b1 (
(some false)) (
vU c c.vars ))
theorem gIr(a0:kG){r:Bool}(h:gBv a0=some r):gY Tryz.prog 179 [.d (gCc a0)] [.b r]:=by
 obtain⟨ag,ad,⟨aa,ab,ac⟩,ai,aj,ak,⟨c,f,y⟩,ae⟩:=a0;unfold gBv at h;refine SpI Tryz.func179 fun A _=>?_;refine goL ?_;refine jI (gF (qG ag)) ?_;obtain⟨b1,hb1,h⟩:=gM h;refine jT ⟨[(1,.ptr 0 0),(43,.B b1)],[bIn ag ad aa ab ac ai aj ak c f y ae],Tryz.f179.ntmps⟩ ?_ ?_
 ·refine gqO 11 hb1 (fun c2 hb1=>?_);obtain⟨x3,bk,hb1⟩:=gM hb1;refine jI (gF (gAc _ _ bk)) ?_;refine gqO 17 hb1 (fun c4 hb1=>?_);obtain⟨x5,bl,hb1⟩:=gM hb1;refine jI (gF (gH3 _ _ bl)) ?_;refine gqO 25 hb1 (fun c6 hb1=>?_);obtain⟨x7,bm,hb1⟩:=gM hb1;refine jI (gF (gDa _ _ bm)) ?_;refine gqO 30 hb1 (fun c8 hb1=>?_);refine gqO 36 hb1 (fun c9 hb1=>?_);obtain⟨bt,bb,hb1⟩:=gM hb1;refine jI (gF (gUy _ _ bb)) ?_;cases hb1;exact eJ
 refine goC h ?_ ?_<;>intro bu h
 ·exact goR h
 ·refine goS ?_;refine noB ?_;refine wJ 0 1 (fun bv=>?_);refine mV (fun(al:Nat)=>⟨[(1,.ptr 0 0),(3,.N al)],[bIn ag ad aa ab ac ai aj ak c f y ae],Tryz.f179.ntmps⟩) (fun al=>vU (kG.mk ag ad (gB.mk aa ab ac) ai aj ak (gB.mk c f y) ae) (ad.drop al)  =some r) (fun al=>ad.length - al) 0 eJ h ?_;rintro al h;refine goL ?_;refine kX (fun a6=>?_) (fun a6=>?_)
  ·have am:=uR a6;obtain⟨bw,bc,a7⟩:=drop_at am;rw [a7,vU.eq_2] at h;refine noS ?_;refine jY (jA ?_);refine goL ?_;refine gFd (jJ al (gQr bc)) ?_;refine goL ?_;obtain⟨bx,bd,h⟩:=gM h;refine gFd (gF (gRx _ _ bd)) ?_;refine goC h ?_ ?_<;>intro bz h
   ·exact goR h
   ·refine goS ?_;refine jI (jW al (by omega)) ?_;exact⟨(al+1),h,by omega,eJ⟩
  ·have am:=uS a6;rw [jC am,vU.eq_1] at h;refine goX ?_;obtain⟨bn,hb18,h⟩:=gM h;refine jT ⟨[(1,.ptr 0 0),(80,.B bn)],[bIn ag ad aa ab ac ai aj ak c f y ae],Tryz.f179.ntmps⟩ ?_ ?_
   ·refine gqV 62 hb18 ?_ ?_<;>intro b0 hb18
    ·obtain⟨b2,be,hb18⟩:=gM hb18;refine jI (gF (gH3 _ _ be)) ?_;refine gqO 70 hb18 (fun b3 hb18=>?_);refine gqA 74 hb18 (fun b4 hb18=>?_);refine jI (gF (gC3 (gB.mk c f y))) ?_;cases hb18;exact eJ
    ·refine gqA 74 hb18 (fun b5 hb18=>?_);refine jI (gF (gC3 (gB.mk c f y))) ?_;cases hb18;exact eJ
   refine goC h ?_ ?_<;>intro b6 h
   ·exact goR h
   ·refine goS ?_;refine gGk ?_;refine goL ?_;refine noB ?_;refine wJ 0 11 (fun b7=>?_);refine kS (fun(ah:Nat)(ao:LS)(ap:Nat)=>⟨[(1,.ptr 0 0),(4,.sl 1 ap),(5,.N ah)],[bIn ag ad aa ab ac ai aj ak c f y ae,.own 9 1 ap (jL ao)],Tryz.f179.ntmps⟩) (fun ah ao ap=>vT (ae.drop ah) ao=some r) (fun ah ao ap=>ae.length - ah) 0 [] 0 eJ h ?_;rintro ah ao ap h;refine goL ?_;refine kX (fun a8=>?_) (fun a8=>?_)
    ·have an:=uR a8;obtain⟨bo,bf,a9⟩:=drop_at an;rw [a9,vT.eq_2] at h;obtain⟨aq,ba,⟨aw,ax,ay,a3,⟨ar,au,av⟩,a4,a5⟩⟩:=bo;refine noS ?_;refine jY (jA ?_);refine goL ?_;refine jI (jJ ah (hJm bf)) ?_;obtain⟨bp,hb31,h⟩:=gM h;refine jT ⟨[(1,.ptr 0 0),(4,.sl 1 ap),(5,.N ah),(6,.ptr 2 0),(111,.B bp)],[bIn ag ad aa ab ac ai aj ak c f y ae,.own 9 1 ap (jL ao),.box [.S aq,.L 1 (jL ba),.I aw,.S ax,.S ay,.I a3,.I ar,.S au,.L 3 (jH av),.L 9 (gCa a4),.L 11 (gK1 a5)]],Tryz.f179.ntmps⟩ ?_ ?_
     ·refine gqO 98 hb31 (fun b8 hb31=>?_);obtain⟨b9,bg,hb31⟩:=gM hb31;refine jI (gF (gAc _ _ bg)) ?_;refine gqO 104 hb31 (fun ca hb31=>?_);obtain⟨cb,bh,hb31⟩:=gM hb31;refine jI (gF (gS8 _ _ bh)) ?_;cases hb31;exact eJ
     refine goC h ?_ ?_<;>intro cc h
     ·exact goR h
     ·refine goS ?_;refine gBc aq ?_;obtain⟨bq,h⟩:=mY h;refine gIe bq ?_;refine goL ?_;refine jI (jW ah (by omega)) ?_;exact⟨(ah+1),(ao++[aq]),(ap+1),h,by omega,eJ⟩
    ·have an:=uS a8;rw [jC an,vT.eq_1] at h;refine goX ?_;obtain⟨cd,bi,h⟩:=gM h;refine zZ (gV9 (gAc ao 6 bi)) ?_;exact goR h
def vV(c:mK):List gHv→LS→Option (Bool)
 | [],f=>bnd ((cnd (mH c.name) (bnd (yA c.vars 3) fun h=>
(cnd h (bnd (gMn c.where_ c.vars) fun y=>
(cnd y (bnd (yA f 5) fun aa=>
(cnd aa (bnd (gEo c.result c.vars) fun ab=>
(cnd ab (bnd (gLs c.body f) fun ac=>
(some ac)) ((some false)))) ((some false)))) ((some false)))) ((some false)))) ((some false)))) fun ad=>
(some ad)
 | x6::xs,f=>bnd (gEo x6.type_ c.vars) fun x7=>
(cnd (!x7) (
(some false)) (
gd (f.length+[x6.name].length≤4294967296) (
vV c xs (f++[x6.name]))))
def gBw(c:mK):Option (Bool):=
vV c c.params []
theorem gIs(a0:mK){r:Bool}(h:gBw a0=some r):gY Tryz.prog 180 [.d (gFv a0)] [.b r]:=by
 obtain⟨am,an,ao,ak,⟨ah,ai,aj⟩,⟨aa,ab,ac,ad,⟨c,f,y⟩,ae,ag⟩⟩:=a0;unfold gBw at h;refine SpI Tryz.func180 fun A _=>?_;refine goL ?_;refine gGk ?_;refine goL ?_;refine noB ?_;refine wJ 0 3 (fun z4=>?_);refine kS (fun(y3:Nat)(y1:LS)(v2:Nat)=>⟨[(1,.ptr 0 0),(3,.sl 1 v2),(4,.N y3)],[.box [.S am,.L 1 (jL an),.L 4 (kY ao),.L 4 (gHw ak),.I ah,.S ai,.L 3 (jH aj),.I aa,.S ab,.S ac,.I ad,.I c,.S f,.L 3 (jH y),.L 9 (gCa ae),.L 11 (gK1 ag)],.own 9 1 v2 (jL y1)],Tryz.f180.ntmps⟩) (fun y3 y1 v2=>vV (mK.mk am an ao ak (gB.mk ah ai aj) (kI.mk aa ab ac ad (gB.mk c f y) ae ag)) (ak.drop y3) y1=some r) (fun y3 y1 v2=>ak.length - y3) 0 [] 0 eJ h ?_;rintro y3 y1 v2 h;refine goL ?_;refine kX (fun c5=>?_) (fun c5=>?_)
 ·have al:=uR c5;obtain⟨x6,av,aw⟩:=drop_at al;rw [aw,vV.eq_2] at h;obtain⟨ar,⟨a6,a7,a8⟩⟩:=x6;refine noS ?_;refine jY (jA ?_);refine goL ?_;refine gFd (jJ y3 (hC8 av)) ?_;refine goL ?_;obtain⟨x7,bb,h⟩:=gM h;refine gFd (gF (gH3 _ _ bb)) ?_;refine goC h ?_ ?_<;>intro c8 h
  ·exact goR h
  ·refine goS ?_;refine jI (jJ y3 (hC8 av)) ?_;refine gBc ar ?_;obtain⟨g9,h⟩:=mY h;refine gIe g9 ?_;refine goL ?_;refine jI (jW y3 (by omega)) ?_;exact⟨(y3+1),(y1++[ar]),(v2+1),h,by omega,eJ⟩
 ·have al:=uS c5;rw [jC al,vV.eq_1] at h;refine goX ?_;refine jI (gF (qG am)) ?_;obtain⟨bc,hb10,h⟩:=gM h;refine jT ⟨[(2,.B bc)],[.box [.S am,.L 1 (jL an),.L 4 (kY ao),.L 4 (gHw ak),.I ah,.S ai,.L 3 (jH aj),.I aa,.S ab,.S ac,.I ad,.I c,.S f,.L 3 (jH y),.L 9 (gCa ae),.L 11 (gK1 ag)],.own 9 1 v2 (jL y1)],Tryz.f180.ntmps⟩ ?_ ?_
  ·refine gqA 35 hb10 (fun bf hb10=>?_);obtain⟨bg,ax,hb10⟩:=gM hb10;refine jI (gF (gAc _ _ ax)) ?_;refine gqA 40 hb10 (fun bh hb10=>?_);obtain⟨bi,ay,hb10⟩:=gM hb10;refine jI (gF (gUy _ _ ay)) ?_;refine gqA 47 hb10 (fun bj hb10=>?_);obtain⟨bk,a3,hb10⟩:=gM hb10;refine gBn (gV9 (gAc y1 5 a3)) ?_;refine gqA 51 hb10 (fun bl hb10=>?_);obtain⟨bm,a4,hb10⟩:=gM hb10;refine jI (gF (gH3 _ _ a4)) ?_;refine gqA 58 hb10 (fun bn hb10=>?_);obtain⟨bo,a5,hb10⟩:=gM hb10;refine gBn (gV9 (gS8 (kI.mk aa ab ac ad (gB.mk c f y) ae ag) y1 a5)) ?_;cases hb10;exact eJ
  exact goR h
def pY(f:gK)(a1:List gW)(a2:gB):Option (gB × Bool × Bool):=
lt_ ((cnd (a2.kind != 3) (true) ((gG8 a2)))) fun h=>
(cnd h (
(some (a2,false,true))) (
bnd (gAu f a1 a2) fun c=>
(cnd (c.2 != 0) (
(some (a2,false,false))) (
(some (c.1,(!(teq c.1 a2)),true))))))
theorem gQf(a0:gK)(a1:List gW)(a2:gB){r:gB × Bool × Bool}(h:pY a0 a1 a2=some r):gY Tryz.prog 61 [.d (kT a0),.L 4 (kY a1),.d (jS a2)] [jS r.1,.b r.2.1,.b r.2.2]:=by
 obtain⟨ad⟩:=a0;obtain⟨aa,ab,ac⟩:=a2;unfold pY at h;refine SpI Tryz.func61 fun A _=>?_;refine goL ?_;obtain⟨b1,hb1,h⟩:=qA h;refine jT ⟨[(1,.L 4 (kY a1)),(3,.ptr 0 0),(5,.ptr 1 0),(6,.ptr 2 0),(17,.B b1)],[bPr ad,bTy aa ab ac,.box [.I 0,.S [],.nilsl]],Tryz.f61.ntmps⟩ ?_ ?_
 ·refine gqO 14 hb1 (fun c2 hb1=>?_);refine jI (gF (hDt (gB.mk aa ab ac))) ?_;cases hb1;exact eJ
 refine goC h ?_ ?_<;>intro c3 h
 ·exact goR h
 ·refine goS ?_;obtain⟨⟨⟨c,f,y⟩,ai⟩,ag,h⟩:=gM h;refine jI (gF (gYw _ _ _ ag)) ?_;refine kX (fun c5=>?_) (fun c5=>?_)
  ·replace h:=kD c5 h;exact goR h
  ·replace h:=kE c5 h;refine noS ?_;refine qJ (P:=Tryz.prog) Mix.h (.q 0 (.q 1 (.q 2 (.q 3 (.q 4 (.h 5 (.q 6 (.q 7 .nil)) .nil)))))) ⟨[(6,.ptr 2 0),(7,.d (.b (!(teq (gB.mk c f y) (gB.mk aa ab ac))))),(8,.B true)],[bPr ad,bTy aa ab ac,bTy c f y,bTy c f y],Tryz.f61.ntmps⟩ (by kernel_rfl) ?_ ?_
   ·refine goT ?_;refine gAt (jF rfl (gF (gDw (gB.mk c f y) (gB.mk aa ab ac))) jU) ?_;refine hFu rfl (hKm) ?_;refine goT ?_;refine jV ?_;exact qX 0 [0,1,2,3]
   exact goR h
def qF(c:gK→(List gW)→gJ→gB→gB→Int→Option (gJ))(a0:gK)(a1:List gW)(a5:Int)(x5:gB):List gB→Nat→Int→Int→Int→(List gG)→(List jN)→(List jP)→Int→Int→Option (gJ)
 | [],h,y,aa,ab,ac,ad,ae,ag,ah=>(some (gJ.mk y aa ab ac ad ae ag ah))
 | ai::xs,h,y,aa,ab,ac,ad,ae,ag,ah=>bnd (at? x5.args (h:Int)) fun aj=>
bnd (c a0 a1 (gJ.mk y aa ab ac ad ae ag ah) ai aj (IntKind.i64.wrap (a5 - 1))) fun f=>
qF c a0 a1 a5 x5 xs (h+1) f.next f.count f.node f.bindings f.equations f.obligations f.code f.at_
def gA8(c:gK→(List gW)→gJ→gB→gB→Int→Option (gJ))(a0:gK)(a1:List gW)(a2:gJ)(a3:gB)(a4:gB)(a5:Int):Option (gJ):=
(cnd (a2.code != 0) (
(some a2)) (
gd (bok (a2:gJ).bindings∧tok a3) (lt_ (zkF a2 a3) fun h=>
gd (bok (a2:gJ).bindings∧tok a4) (lt_ (zkF a2 a4) fun f=>
(cnd (teq h f) (
(some a2)) (
lt_ ((cnd (decide (a5≤0)) (true) ((decide ((IntKind.i64.wrap ((tsz h)+(tsz f))) > 2000))))) fun b7=>
(cnd b7 (
lt_ (pG a2 6) fun ad=>
(some ad)) (
bnd (gGb h) fun ae=>
(cnd ae (
bnd (gC7 a2 h.name f) fun ag=>
(some ag)) (
bnd (gGb f) fun ah=>
(cnd ah (
bnd (gC7 a2 f.name h) fun ai=>
(some ai)) (
bnd (pY a0 a1 h) fun y=>
(cnd (!y.2.2) (
lt_ (pG a2 7) fun aj=>
(some aj)) (
(cnd y.2.1 (
bnd (c a0 a1 a2 y.1 f (IntKind.i64.wrap (a5 - 1))) fun ak=>
(some ak)) (
bnd (pY a0 a1 f) fun aa=>
(cnd (!aa.2.2) (
lt_ (pG a2 7) fun al=>
(some al)) (
(cnd aa.2.1 (
bnd (c a0 a1 a2 h aa.1 (IntKind.i64.wrap (a5 - 1))) fun am=>
(some am)) (
lt_ ((cnd (h.kind==3) ((cnd (gG8 h) (true) ((cnd (f.kind==3) ((gG8 f)) (false))))) ((cnd (f.kind==3) ((gG8 f)) (false))))) fun an=>
(cnd an (
gd (([]:List jN).length+a2.equations.length≤4294967296) (
gd (([]++a2.equations).length+[(jN.mk h f a2.node)].length≤4294967296) (
(some (gJ.mk a2.next a2.count a2.node a2.bindings (([]++a2.equations)++[(jN.mk h f a2.node)]) a2.obligations a2.code a2.at_))))) (
lt_ ((cnd (h.kind != f.kind) (true) ((cnd (!(h.name==f.name)) (true) ((cnd ((h.args.length:Int) !=(f.args.length:Int)) (true) ((h.kind==3)))))))) fun ao=>
(cnd ao (
lt_ (pG a2 1) fun ap=>
(some ap)) (
qF c a0 a1 a5 f h.args 0 a2.next a2.count a2.node a2.bindings a2.equations a2.obligations a2.code a2.at_))))))))))))))))))))))))
theorem hAv{y:gK→(List gW)→gJ→gB→gB→Int→Option (gJ)}(c:∀(x0:gK)(x1:List gW)(x2:gJ)(x3:gB)(x4:gB)(x5:Int){r:gJ},y x0 x1 x2 x3 x4 x5=some r→gY Tryz.prog 26 [.d (kT x0),.L 4 (kY x1),.d (mJ x2),.d (jS x3),.d (jS x4),.I x5] [mJ r])(a0:gK)(a1:List gW)(a2:gJ)(a3:gB)(a4:gB)(a5:Int){r:gJ}(h:gA8 y a0 a1 a2 a3 a4 a5=some r):gY Tryz.prog 26 [.d (kT a0),.L 4 (kY a1),.d (mJ a2),.d (jS a3),.d (jS a4),.I a5] [mJ r]:=by
 obtain⟨ax⟩:=a0;obtain⟨ah,ai,f,aj,ak,al,am,an⟩:=a2;obtain⟨b3,b4,b5⟩:=a3;obtain⟨b6,b8,b9⟩:=a4;unfold gA8 at h;refine SpI Tryz.func26 fun A _=>?_;refine goC h ?_ ?_<;>intro c1 h
 ·exact goR h
 ·refine goS ?_;obtain⟨g2,h⟩:=mY h;obtain⟨⟨ae,ag,aa⟩,cr,h⟩:=qA h;have sx3:=hBy (gJ.mk ah ai f aj ak al am an) (gB.mk b3 b4 b5) g2;rw [cr] at sx3;refine jI (gF (sx3)) ?_;obtain⟨g4,h⟩:=mY h;obtain⟨⟨ab,ac,ad⟩,cs,h⟩:=qA h;have sx5:=hBy (gJ.mk ah ai f aj ak al am an) (gB.mk b6 b8 b9) g4;rw [cs] at sx5;refine jI (gF (sx5)) ?_;refine jY (jA ?_);refine goL ?_;refine jI (gF (gDw (gB.mk ae ag aa) (gB.mk ab ac ad))) ?_;refine kX (fun c6=>?_) (fun c6=>?_)
  ·replace h:=kD c6 h;exact goR h
  ·replace h:=kE c6 h;obtain⟨b7,hb7,h⟩:=qA h;refine uE (P:=Tryz.prog) Mix.h ⟨[(1,.L 4 (kY a1)),(5,.I a5),(6,.ptr 0 0),(8,.ptr 1 0),(9,.ptr 2 0),(10,.ptr 3 0),(12,.ptr 4 0),(35,.B b7)],[bPr ax,bSt ah ai f aj ak al am an,bTy ae ag aa,bTy ab ac ad,.box [.I 0,.I 0,.I 0,.nilsl,.nilsl,.nilsl,.I 0,.I 0]],Tryz.f26.ntmps⟩ (by kernel_rfl) ?_ ?_
   ·refine goL ?_;refine vG 38 (fun c8=>?_) (fun c8=>?_)
    ·replace hb7:=kD c8 hb7;refine goL ?_;cases hb7;exact eJ
    ·replace hb7:=kE c8 hb7;refine goL ?_;refine gC1 (gF (gKp (gB.mk ae ag aa))) ?_;refine goL ?_;refine gC1 (gF (gKp (gB.mk ab ac ad))) ?_;refine gC1 (pU) ?_;refine goL ?_;cases hb7;exact eJ
   refine goC h ?_ ?_<;>intro c9 h
   ·refine goL ?_;obtain⟨⟨cv,cw,cx,cy,cz,c0,c2,c3⟩,ca,h⟩:=qA h;have sx10:=gLg (gJ.mk ah ai f aj ak al am an) 6;rw [ca] at sx10;refine qK (gF (sx10)) ?_;exact goR h
   ·refine goL ?_;obtain⟨fi,cb,h⟩:=gM h;refine jI (gF (gO5 _ cb)) ?_;refine kX (fun bg=>?_) (fun bg=>?_)
    ·replace h:=kD bg h;refine goL ?_;obtain⟨⟨c4,c5,c7,da,db,dc,dd,de⟩,cc,h⟩:=gM h;refine qK (gF (gYv _ _ _ cc)) ?_;exact goR h
    ·replace h:=kE bg h;refine goL ?_;obtain⟨fj,cd,h⟩:=gM h;refine jI (gF (gO5 _ cd)) ?_;refine kX (fun bh=>?_) (fun bh=>?_)
     ·replace h:=kD bh h;refine goL ?_;obtain⟨⟨df,dg,dh,di,dj,dk,dl,dm⟩,ce,h⟩:=gM h;refine qK (gF (gYv _ _ _ ce)) ?_;exact goR h
     ·replace h:=kE bh h;refine goS ?_;obtain⟨⟨⟨ao,ap,aq⟩,dn,dp⟩,cf,h⟩:=gM h;refine jI (gF (gQf _ _ _ cf)) ?_;refine kX (fun bi=>?_) (fun bi=>?_)
      ·replace h:=kD bi h;refine goL ?_;obtain⟨⟨dq,dr,ds,dt,du,dv,dw,dx⟩,cg,h⟩:=qA h;have sx19:=gLg (gJ.mk ah ai f aj ak al am an) 7;rw [cg] at sx19;refine qK (gF (sx19)) ?_;exact goR h
      ·replace h:=kE bi h;refine goS ?_;refine kX (fun bj=>?_) (fun bj=>?_)
       ·replace h:=kD bj h;refine goL ?_;refine qK (pU) ?_;obtain⟨⟨dy,dz,d0,d1,d2,d3,d4,d5⟩,ch,h⟩:=gM h;refine qK (gF (c _ _ _ _ _ _ ch)) ?_;exact goR h
       ·replace h:=kE bj h;refine goS ?_;obtain⟨⟨⟨ar,au,av⟩,d6,d7⟩,ci,h⟩:=gM h;refine jI (gF (gQf _ _ _ ci)) ?_;refine kX (fun bk=>?_) (fun bk=>?_)
        ·replace h:=kD bk h;refine goL ?_;obtain⟨⟨d8,d9,ea,eb,ec,ed,ee,ef⟩,cj,h⟩:=qA h;have sx24:=gLg (gJ.mk ah ai f aj ak al am an) 7;rw [cj] at sx24;refine qK (gF (sx24)) ?_;exact goR h
        ·replace h:=kE bk h;refine goS ?_;refine kX (fun bl=>?_) (fun bl=>?_)
         ·replace h:=kD bl h;refine goL ?_;refine qK (pU) ?_;obtain⟨⟨eg,eh,ei,ej,ek,el,em,en⟩,ck,h⟩:=gM h;refine qK (gF (c _ _ _ _ _ _ ck)) ?_;exact goR h
         ·replace h:=kE bl h;refine goS ?_;obtain⟨eo,hb27,h⟩:=qA h;refine jT ⟨[(1,.L 4 (kY a1)),(5,.I a5),(6,.ptr 0 0),(8,.ptr 1 0),(9,.ptr 2 0),(10,.ptr 3 0),(12,.ptr 4 0),(121,.B eo)],[bPr ax,bSt ah ai f aj ak al am an,bTy ae ag aa,bTy ab ac ad,.box [.I 0,.I 0,.I 0,.nilsl,.nilsl,.nilsl,.I 0,.I 0],bTy ao ap aq,bTy ar au av],Tryz.f26.ntmps⟩ ?_ ?_
          ·refine gqV 109 hb27 ?_ ?_<;>intro fk hb27
           ·refine jI (gF (hDt (gB.mk ae ag aa))) ?_;refine gqO 113 hb27 (fun fl hb27=>?_);refine gqA 117 hb27 (fun fm hb27=>?_);refine jI (gF (hDt (gB.mk ab ac ad))) ?_;cases hb27;exact eJ
           ·refine gqA 117 hb27 (fun fn hb27=>?_);refine jI (gF (hDt (gB.mk ab ac ad))) ?_;cases hb27;exact eJ
          refine goC h ?_ ?_<;>intro fo h
          ·obtain⟨bm,h⟩:=mY h;obtain⟨bn,h⟩:=mY h;refine qJ (P:=Tryz.prog) Mix.h (.q 1 (.q 2 (.q 4 (.q 5 (.q 6 (.q 7 (.q 8 (.h 0 (.h 3 (.h 9 (.h 10 (.q 11 (.h 12 .nil .nil)) .nil) .nil) (.h 9 (.h 3 (.h 10 (.q 11 (.h 12 .nil .nil)) .nil) .nil) .nil)) (.h 9 (.h 0 (.h 3 (.h 10 (.q 11 (.h 12 .nil .nil)) .nil) .nil) .nil) .nil))))))))) ⟨[(8,.ptr 1 0),(12,.ptr 4 0)],[bPr ax,.box [.I ah,.I ai,.I f,.L 4 (gP aj),.sl 7 ((0+1)+1),.L 5 (jD al),.I am,.I an],bTy ae ag aa,bTy ab ac ad,.box [.I 0,.I 0,.I 0,.nilsl,.nilsl,.nilsl,.I 0,.I 0],bTy ao ap aq,bTy ar au av,.arr 79 7 ((0+1)+1) (jM (([]++ak)++[(jN.mk (gB.mk ae ag aa) (gB.mk ab ac ad) f)])),.arr 79 7 0 (jM [(jN.mk (gB.mk ae ag aa) (gB.mk ab ac ad) f)])],Tryz.f26.ntmps⟩ (by kernel_rfl) ?_ ?_
           ·refine goT ?_;refine uV (hDf jU) ?_ ?_
            ·refine uV (pW (T:=29) bm jU) ?_ ?_
             ·refine jR (qE (T:=29) (us:=jM [(jN.mk (gB.mk ae ag aa) (gB.mk ab ac ad) f)]) jU) ?_;refine jR (pW (T:=29) bn jU) ?_;refine goT ?_;refine jV ?_;exact qX 0 [0,1,2,3,4,5,6,7,8]
             refine jR (qE (T:=29) (us:=jM [(jN.mk (gB.mk ae ag aa) (gB.mk ab ac ad) f)]) jU) ?_;refine jR (pW (T:=29) bm jU) ?_;refine jR (pW (T:=29) bn jU) ?_;refine goT ?_;refine jV ?_;exact qX 0 [0,1,2,3,4,5,6,7,8]
            refine jR (qE (T:=29) (us:=jM [(jN.mk (gB.mk ae ag aa) (gB.mk ab ac ad) f)]) jU) ?_;refine jR (hDf jU) ?_;refine jR (pW (T:=29) bm jU) ?_;refine jR (pW (T:=29) bn jU) ?_;refine goT ?_;refine jV ?_;exact qX 0 [0,1,2,3,4,5,6,8,7]
           refine goL ?_;refine kP 7 rfl rfl ?_;refine jG ?_;cases h;exact qD
          ·refine goS ?_;obtain⟨ep,hb35,h⟩:=qA h;refine jT ⟨[(1,.L 4 (kY a1)),(5,.I a5),(6,.ptr 0 0),(8,.ptr 1 0),(9,.ptr 2 0),(10,.ptr 3 0),(12,.ptr 4 0),(160,.B ep)],[bPr ax,bSt ah ai f aj ak al am an,bTy ae ag aa,bTy ab ac ad,.box [.I 0,.I 0,.I 0,.nilsl,.nilsl,.nilsl,.I 0,.I 0],bTy ao ap aq,bTy ar au av],Tryz.f26.ntmps⟩ ?_ ?_
           ·refine uD 140 (fun bo=>?_) (fun bo=>?_) (by first | rfl | (simp only [jE,gU];rfl))
            ·replace hb35:=kD bo hb35;refine goL ?_;cases hb35;exact⟨rfl,⟨⟨rfl,rfl⟩,⟨rfl,rfl⟩,⟨rfl,rfl⟩,⟨rfl,rfl⟩,⟨rfl,rfl⟩,⟨rfl,rfl⟩,⟨rfl,rfl⟩,⟨by first | rfl | (simp only [jE,gU];rfl),rfl⟩,trivial⟩,⟨_,rfl⟩,rfl⟩
            ·replace hb35:=kE bo hb35;refine goL ?_;refine uD 147 (fun bp=>?_) (fun bp=>?_) (by first | rfl | (simp only [jE,gU];rfl))
             ·replace hb35:=kD bp hb35;refine goL ?_;cases hb35;exact⟨rfl,⟨⟨rfl,rfl⟩,⟨rfl,rfl⟩,⟨rfl,rfl⟩,⟨rfl,rfl⟩,⟨rfl,rfl⟩,⟨rfl,rfl⟩,⟨rfl,rfl⟩,⟨by first | rfl | (simp only [jE,gU];rfl),rfl⟩,trivial⟩,⟨_,rfl⟩,rfl⟩
             ·replace hb35:=kE bp hb35;refine goL ?_;refine uD 156 (fun bq=>?_) (fun bq=>?_) (by first | rfl | (simp only [jE,gU];rfl))
              ·replace hb35:=kD bq hb35;refine goL ?_;cases hb35;exact⟨rfl,⟨⟨rfl,rfl⟩,⟨rfl,rfl⟩,⟨rfl,rfl⟩,⟨rfl,rfl⟩,⟨rfl,rfl⟩,⟨rfl,rfl⟩,⟨rfl,rfl⟩,⟨by first | rfl | (simp only [jE,gU];rfl),rfl⟩,trivial⟩,⟨_,rfl⟩,rfl⟩
              ·replace hb35:=kE bq hb35;refine goL ?_;cases hb35;exact⟨rfl,⟨⟨rfl,rfl⟩,⟨rfl,rfl⟩,⟨rfl,rfl⟩,⟨rfl,rfl⟩,⟨rfl,rfl⟩,⟨rfl,rfl⟩,⟨rfl,rfl⟩,⟨by first | rfl | (simp only [jE,gU];rfl),rfl⟩,trivial⟩,⟨_,rfl⟩,rfl⟩
           refine goC h ?_ ?_<;>intro fp h
           ·refine goL ?_;obtain⟨⟨er,et,eu,ev,ew,ex,ey,ez⟩,cl,h⟩:=qA h;have sx40:=gLg (gJ.mk ah ai f aj ak al am an) 1;rw [cl] at sx40;refine qK (gF (sx40)) ?_;exact goR h
           ·refine goS ?_;refine noB ?_;refine wJ 2 2 (fun fq=>?_);refine hKp (fun(aw:Nat)(a6:Int)(a7:Int)(a8:Int)(a9:List gG)(ba:List jN)(bb:List jP)(bc:Int)(bd:Int)=>⟨[(1,.L 4 (kY a1)),(5,.I a5),(6,.ptr 0 0),(8,.ptr 1 0),(9,.ptr 2 0),(10,.ptr 3 0),(12,.ptr 4 0),(19,.N aw)],[bPr ax,bSt a6 a7 a8 a9 ba bb bc bd,bTy ae ag aa,bTy ab ac ad,.box [.I 0,.I 0,.I 0,.nilsl,.nilsl,.nilsl,.I 0,.I 0],bTy ao ap aq,bTy ar au av],Tryz.f26.ntmps⟩) (fun aw a6 a7 a8 a9 ba bb bc bd=>qF y (gK.mk ax) a1 a5 (gB.mk ab ac ad) (aa.drop aw) aw a6 a7 a8 a9 ba bb bc bd=some r) (fun aw a6 a7 a8 a9 ba bb bc bd=>aa.length - aw) 0 ah ai f aj ak al am an eJ h ?_;rintro aw a6 a7 a8 a9 ba bb bc bd h;refine goL ?_;refine kX (fun br=>?_) (fun br=>?_)
            ·have ay:=uR br;obtain⟨e1,cm,bt⟩:=drop_at ay;rw [bt,qF.eq_2] at h;obtain⟨e2,e3,e4⟩:=e1;refine noS ?_;refine jY (jA ?_);refine uM (P:=Tryz.prog) Mix.h [(0,true),(1,true),(2,true),(3,true),(4,true),(5,true),(6,true),(7,true),(8,true),(9,true),(10,true),(11,true),(12,true),(13,true),(14,true),(15,true),(16,false)] (by kernel_rfl) ?_;refine goY ?_;refine jF rfl (jJ aw (zJ cm)) ?_;refine goY ?_;obtain⟨e5,be,h⟩:=gM h;rw [zI] at be;obtain⟨e6,e7,e8⟩:=e5;refine jF rfl (jJ aw (zJ be)) ?_;refine goY ?_;refine jF rfl (pU) ?_;obtain⟨⟨bu,bv,bw,bx,bz,b0,b1,b2⟩,cn,h⟩:=gM h;refine jF rfl (gF (c _ _ _ _ _ _ cn)) ?_;refine goY ?_;refine kQ ?_;refine goL ?_;refine jI (jW aw (by omega)) ?_;exact⟨(aw+1),bu,bv,bw,bx,bz,b0,b1,b2,h,by omega,eJ⟩
            ·have ay:=uS br;rw [jC ay,qF.eq_1] at h;refine goX ?_;refine jG ?_;cases h;exact qD
def mD:Nat→gK→(List gW)→gJ→gB→gB→Int→Option (gJ)
 | 0,_,_,_,_,_,_=>none
 | n+1,c,f,h,y,x4,x5=>gA8 (mD n) c f h y x4 x5
theorem hAw:∀(n:Nat)(c:gK)(f:List gW)(y:gJ)(x3:gB)(x4:gB)(x5:Int){r:gJ},mD n c f y x3 x4 x5=some r→gY Tryz.prog 26 [.d (kT c),.L 4 (kY f),.d (mJ y),.d (jS x3),.d (jS x4),.I x5] [mJ r]:=by
 intro n
 induction n with
 | zero=>intro c f y x3 x4 x5 r h;cases h
 | succ n ih=>intro c f y x3 x4 x5 r h;exact hAv ih c f y x3 x4 x5 h
mutual
def pj:gB→Nat
 | ⟨k,n,ts⟩=>(cnd ((k==3) && gGf isInf ts) 1 0)+pjs ts
def pjs:List gB→Nat
 | []=>0
 | a::ts=>pj a+pjs ts
end
mutual
theorem hT5:∀(t:gB),pj t≤tnd t
 | ⟨k,n,ts⟩=>by
   simp only [pj,tnd]
   have:=hQs ts
   cases (k==3) && gGf isInf ts<;>simp only [gT,gI]<;>omega
theorem hQs:∀(ts:List gB),pjs ts≤gAb ts
 | []=>by simp [pjs,gAb]
 | a::ts=>by simp only [pjs,gAb];have:=hT5 a;have:=hQs ts;omega
end
mutual
theorem hT6:∀(t:gB),gG8 t=false→pj t=0
 | ⟨k,n,ts⟩,h=>by
   have h':(((k==1) && isInf n) || gGf isInf ts)=false:=h;simp only [Bool.or_eq_false_iff] at h';simp only [pj,h'.2,Bool.and_false,gI,hQt ts h'.2]
theorem hQt:∀(ts:List gB),gGf isInf ts=false→pjs ts=0
 | [],_=>rfl
 | a::ts,h=>by
   simp only [gGf,Bool.or_eq_false_iff] at h;simp only [pjs,hT6 a h.1,hQt ts h.2]
end
theorem hK5{t:gB}(c:t.kind=3)(h:gG8 t=true):1≤pj t:=by
 obtain⟨k,n,ts⟩:=t;simp only at c;subst c;have h':((((3:Int)==1) && isInf n) || gGf isInf ts)=true:=h;have f:gGf isInf ts=true:=by simpa using h'
 simp only [pj,f]
 have:(((3:Int)==3) && true)=true:=by decide
 rw [this,gT];omega
structure Inv (V:LS)(s:gJ):Prop where
 tri:Tri s.bindings
 inf:jD0 s.bindings
 dt:∀b∈s.bindings,DT V b.type_∧tnd b.type_≤2000∧b.var_∈V
 obl:s.obligations=[]∧s.next=4
 eqs:∀q∈s.equations,(DT V q.a∧tnd q.a≤2000)∧DT V q.b∧tnd q.b≤2000
theorem pig{α:Type} [BEq α] [LawfulBEq α]:∀(l V:List α),l.Pairwise (fun a b=>a≠b)→(∀x∈l,x∈V)→l.length≤V.length
 | [],_,_,_=>Nat.zero_le _
 | x::l,V,h,hV=>by
   obtain⟨c,f⟩:=List.pairwise_cons.1 h;have hx:x∈V:=hV x (by simp)
   have:=pig l (V.erase x) f (fun y hy=>(List.mem_erase_of_ne (Ne.symm (c y hy))).2 (hV y (by simp [hy])))
   rw [List.length_erase_of_mem hx] at this;have hp:=List.length_pos_of_mem hx;simp only [List.length_cons];omega
theorem hQu{l:List gG}(h:Tri l):(dom l).Pairwise (fun a b=>a≠b):=by
 rw [List.pairwise_iff_getElem];intro i j hi hj hij hne;unfold dom at hi hj hne;simp only [List.length_map] at hi hj;simp only [List.getElem_map] at hne;refine(h j l[j] (List.getElem?_eq_getElem hj)).1 ?_;unfold dom;rw [←hne];refine List.mem_map.2 ⟨l[i],?_,rfl⟩
 have:(l.take j)[i]? =some l[i]:=by rw [List.getElem?_take,if_pos hij,List.getElem?_eq_getElem]
 exact List.mem_of_getElem? this
theorem Inv.len{V:LS}{s:gJ}(h:Inv V s):s.bindings.length≤V.length:=by
 have:=pig (dom s.bindings) V (hQu h.tri) (fun v hv=>by
  obtain⟨b,c,rfl⟩:=List.mem_map.1 hv
  exact(h.dt b c).2.2)
 simpa [dom] using this
theorem Inv.bok{V:LS}{s:gJ}(h:Inv V s):bok s.bindings:=fun b hb=>(h.dt b hb).1.1.1
theorem Inv.gU4{V:LS}{s:gJ}(h:Inv V s):gU4 2000 s.bindings:=⟨by omega,fun b hb=>(h.dt b hb).2.1⟩
theorem Inv.fail{V:LS}{s:gJ}(h:Inv V s)(c:Int):Inv V (pG s c):=by
 unfold pG;cases s.code==0 with
 | true=>exact⟨h.tri,h.inf,h.dt,h.obl,h.eqs⟩
 | false=>exact h
theorem vI(s:gJ)(c:Int):(pG s c).bindings=s.bindings∧(pG s c).equations=s.equations:=by
 unfold pG;cases s.code==0<;>exact⟨rfl,rfl⟩
theorem hOw{l:List gG}(h:Tri l){v:LB}{t:gB}(hv:v∉dom l)(ht:∀u∈tvs t,u∉dom l)(ho:v∉tvs t):Tri (l++[⟨v,t⟩]):=by
 intro i b hb;rcases Nat.lt_or_ge i l.length with hi | hi
 ·rw [List.getElem?_append_left hi] at hb;rw [List.take_append_of_le_length (by omega),List.take_append_of_le_length (by omega)];exact h i b hb
 ·rw [List.getElem?_append_right hi] at hb;have c:i - l.length=0:=by
   rcases Nat.eq_zero_or_pos (i - l.length)with c | c
   ·exact c
   ·rw [List.getElem?_eq_none (by simp;omega)] at hb;cases hb
  rw [c] at hb;simp only [List.getElem?_cons_zero,Option.some.injEq] at hb;subst hb;obtain rfl:i=l.length:=by omega
  rw [List.take_append_of_le_length (Nat.le_refl _),List.take_of_length_le (by omega),List.take_of_length_le (by simp)];refine⟨hv,fun u hu hd=>?_⟩;simp only [dom,List.map_append,List.mem_append,List.map_cons,List.map_nil,List.mem_singleton] at hd;rcases hd with hd | hd
  ·exact ht u hu hd
  ·subst hd;exact ho hu
def KQ:Nat:=4000
theorem hOx:KQ=4000:=rfl
attribute [local irreducible] KQ
structure Grow (d:Nat)(s s':gJ)(p:Nat):Prop where
 ext:∃l,s'.bindings=s.bindings++l
 le:s'.equations.length≤s.equations.length+2000+KQ*d*(s'.bindings.length - s.bindings.length)
 ze:s'.bindings.length=s.bindings.length→s'.equations.length≤s.equations.length+p
theorem Grow.same{d p:Nat}{s s':gJ}(f:s'.bindings=s.bindings)(c:s'.equations=s.equations):Grow d s s' p:=⟨⟨[],by rw [f,List.append_nil]⟩,by rw [c];omega,fun _=>by rw [c];omega⟩
theorem Grow.up{d d' p p':Nat}{s s':gJ}(h:Grow d s s' p)(hd:d≤d')(hp:p≤p'):Grow d' s s' p':=⟨h.ext,by
 have:=h.le
 have c:KQ*d*(s'.bindings.length - s.bindings.length)≤KQ*d'*(s'.bindings.length - s.bindings.length):=Nat.mul_le_mul_right _ (Nat.mul_le_mul_left _ hd)
 omega,fun hz=>by have:=h.ze hz;omega⟩
theorem bind_ok{V:LS}{s:gJ}(h:Inv V s)(hV:V.length≤5){v:LB}{t:gB}(hv:v∉dom s.bindings)(hvV:v∈V)(hi:isInf v=true)(ht:∀u∈tvs t,u∉dom s.bindings)(hD:DT V t)(hsz:tnd t≤2000){d p:Nat}:∃s',gC7 s v t=some s'∧Inv V s'∧Grow d s s' p:=by
 have hl:=h.len;unfold gC7;rw [jO (hK9 (by omega))];by_cases ho:v∈tvs t
 ·rw [decide_eq_true ho,gT];exact⟨_,rfl,h.fail 2,.same (vI s 2).1 (vI s 2).2⟩
 ·rw [decide_eq_false ho,gI,mI (by simp;omega),mI (by simp;omega)];refine⟨_,rfl,⟨hOw h.tri hv ht ho,fun b hb=>?_,fun b hb=>?_,h.obl,h.eqs⟩,⟨⟨[⟨v,t⟩],rfl⟩,by simp;omega,fun hz=>by simp at hz⟩⟩
  ·rcases List.mem_append.1 hb with hb | hb
   ·exact h.inf b hb
   ·simp only [List.mem_singleton] at hb;subst hb;exact hi
  ·rcases List.mem_append.1 hb with hb | hb
   ·exact h.dt b hb
   ·simp only [List.mem_singleton] at hb;subst hb;exact⟨hD,hsz,hvV⟩
def Down(V:LS)(d:Nat)(f:gJ→gB→gB→Option gJ):Prop:=∀(s:gJ)(a b:gB),Inv V s→DT V a→DT V b→tnd a≤8000000→tnd b≤8000000→s.equations.length+KQ*d*(6 - s.bindings.length)≤4294967295→
 ∃s',f s a b=some s'∧Inv V s'∧Grow d s s' (pj (zkF s a)+pj (zkF s b))
set_option maxRecDepth 100000 in
theorem hQv {V:LS}(hV:V.length≤5){w:gK}{wh:List gW}{d:Nat}(hd:d≤40){rec:gK→List gW→gJ→gB→gB→Int→Option gJ}(hrec:Down V d (fun s a b=>rec w wh s a b (IntKind.i64.wrap ((d:Int) - 1))))(f:gJ)(y:gB)
  (h0:f.equations.length+KQ*(d+1)*(6 - f.bindings.length)≤4294967295):∀(xs ys:List gB)(j:Nat)(c:gJ)(p:Nat),y.args.drop j=ys→ys.length=xs.length→Inv V c→(∃l,c.bindings=f.bindings++l)→
  c.equations.length≤f.equations.length+2000*j+KQ*d*(c.bindings.length - f.bindings.length)→(c.bindings.length=f.bindings.length→c.equations.length≤f.equations.length+p)→
  (∀x∈xs,DT V x∧tnd x≤2000∧zbd f.bindings x=false)→(∀x∈ys,DT V x∧tnd x≤2000∧zbd f.bindings x=false)→j+xs.length≤2→
  ∃s',qF rec w wh (d:Int) y xs j c.next c.count c.node c.bindings c.equations c.obligations c.code c.at_=some s'∧Inv V s'∧(∃l,s'.bindings=f.bindings++l)∧
   s'.equations.length≤f.equations.length+2000*(j+xs.length)+KQ*d*(s'.bindings.length - f.bindings.length)∧(s'.bindings.length=f.bindings.length→s'.equations.length≤f.equations.length+(p+pjs xs+pjs ys))
 | [],ys,j,c,p,_,hl,hi,he,h1,h2,_,_,_=>by
   obtain rfl:=List.eq_nil_of_length_eq_zero hl;exact⟨c,rfl,hi,he,by simpa using h1,fun hz=>by have:=h2 hz;simp only [pjs];omega⟩
 | x::xs,[],j,c,p,_,hl,_,_,_,_,_,_,_=>by simp at hl
 | x::xs,y1::ys,j,c,p,hdr,hl,hi,⟨l,he⟩,h1,h2,hx,hy,hj=>by
   simp only [List.length_cons] at hl hj;have hyj:y.args[j]? =some y1:=by
    have:(y.args.drop j)[0]? =some y1:=by rw [hdr];rfl
    rw [List.getElem?_drop] at this;simpa using this
   have hdr2:y.args.drop (j+1)=ys:=by
    rw [←List.drop_drop,hdr];rfl
   obtain⟨x1,x2,x3⟩:=hx x (by simp);obtain⟨y2,y3,y4⟩:=hy y1 (by simp);have l0:f.bindings.length≤c.bindings.length:=by rw [he];simp
   have l1:=hi.len;have ha:KQ*d*(6 - f.bindings.length)=KQ*d*(c.bindings.length - f.bindings.length)+KQ*d*(6 - c.bindings.length):=by rw [←Nat.mul_add];congr 1;omega
   have hb:KQ*(d+1)*(6 - f.bindings.length)=KQ*d*(6 - f.bindings.length)+KQ*(6 - f.bindings.length):=by rw [Nat.mul_add,Nat.add_mul,Nat.mul_one]
   have hk6:KQ*1≤KQ*(6 - f.bindings.length):=Nat.mul_le_mul_left KQ (by omega);have hk7:=hOx;obtain⟨h,e1,e2,e3⟩:=hrec c x y1 hi x1 y2 (by omega) (by omega) (by omega);obtain⟨m,e4⟩:=e3.ext;have l2:c.bindings.length≤h.bindings.length:=by rw [e4];simp
   have hc:KQ*d*(h.bindings.length - f.bindings.length)=KQ*d*(c.bindings.length - f.bindings.length)+KQ*d*(h.bindings.length - c.bindings.length):=by rw [←Nat.mul_add];congr 1;omega
   have e5:=e3.le;rw [qF,zI,hyj];simp only [bnd];have e1:rec w wh ⟨c.next,c.count,c.node,c.bindings,c.equations,c.obligations,c.code,c.at_⟩ x y1 (IntKind.i64.wrap ((d:Int) - 1))=some h:=e1;rw [e1];have hl2:ys.length=xs.length:=by omega
   have hle:h.equations.length≤f.equations.length+2000*(j+1)+KQ*d*(h.bindings.length - f.bindings.length):=by omega
   have hj2:j+1+xs.length≤2:=by omega
   obtain⟨s',q1,q2,q3,q4,q5⟩:=hQv hV hd hrec f y h0 xs ys (j+1) h (p+pj x+pj y1) hdr2 hl2 e2 ⟨l++m,by rw [e4,he,List.append_assoc]⟩ hle (fun hz=>by
    have hz1:c.bindings.length=f.bindings.length:=by omega
    have hb1:c.bindings=f.bindings:=by
     rw [he,List.length_append] at hz1;rw [he,List.eq_nil_of_length_eq_zero (l:=l) (by omega),List.append_nil]
    have h3:=e3.ze (by omega);have h4:=h2 hz1;unfold zkF at h3;rw [hb1,gNm 60 (.inl x3),gNm 60 (.inl y4)] at h3
    omega) (fun z hz=>hx z (by simp [hz])) (fun z hz=>hy z (by simp [hz])) hj2
   refine⟨s',q1,q2,q3,?_,fun hz=>?_⟩
   ·simp only [List.length_cons];omega
   ·have:=q5 hz
    simp only [pjs];omega
theorem hQw{V V':LS}{t:gB}(h:DT V t)(hv:∀v∈tvs t,v∈V'):DT V' t:=⟨⟨h.1.1,h.1.2.1,hv⟩,h.2⟩
theorem gUt{w:gK}{k:Int}(hw:gO8 w k){wh:List gW}(hwh:gOy wh)(hwl:wh.length≤1000){V:LS}{x:gB}(hx:DT V x)(hsz:tnd x≤2000):∃r,pY w wh x=some r∧(r.2.1=true→DT V r.1∧tnd r.1≤400∧gG8 r.1=false):=by
 unfold pY;simp only [lt_];cases hc:cnd (x.kind != 3) true (gG8 x)with
 | true=>exact⟨_,rfl,fun h=>by cases h⟩
 | false=>
   have hh:gG8 x=false:=by
    cases f:(x.kind != 3)with
    | true=>rw [f] at hc;cases hc
    | false=>rw [f] at hc;exact hc
   obtain⟨fs,hf,hF,_⟩:=gOz hw wh 0 [] hwh (fun a ha=>by simp at ha) (by simp;omega);obtain⟨r,c,y⟩:=gLv hw (fs:=fs) hf hF (tvs x) 12 2000 100000 x hsz (by omega) (by omega) (hQw hx (fun v h=>h)) (by omega);have c:mE 100000 w wh x 12=some r:=c;unfold gAu;rw [gI,jO c];simp only [bnd];cases hr:(r.2 != 0)with
   | true=>exact⟨_,rfl,fun h=>by cases h⟩
   | false=>
     have q:=y (by simpa using hr);have q1:=q.dt;refine⟨_,rfl,fun _=>⟨hQw q1 (fun v hv=>hx.1.2.2 v (q1.1.2.2 v hv)),q.sz,?_⟩⟩;show gVa isInf r.1=false;cases hz:gVa isInf r.1 with
     | false=>rfl
     | true=>
       obtain⟨v,h1,h2⟩:=(gFf r.1).1 hz
       have:gG8 x=true:=(gFf x).2 ⟨v,q1.1.2.2 v h1,h2⟩
       rw [hh] at this;cases this
theorem hAy{l:List gG}{t:gB}(h:gG8 t=false):zbd l t=false:=by
 cases hz:zbd l t with
 | false=>rfl
 | true=>
   obtain⟨v,f,c⟩:=(gFf t).1 hz;unfold zp at c;simp only [Bool.and_eq_true] at c
   have:gG8 t=true:=(gFf t).2 ⟨v,f,c.1⟩
   rw [h] at this;cases this
end Go.Proofs.YtegahmhnmjnhhaaGreat
namespace Go.Proofs.YtegahmhnmjnhhaaGreat
open Go Go.Eng
attribute [local irreducible] V VO VQ VY Quiet QR gY kR Rng mU mW mG
attribute [local irreducible] KQ
theorem gP0{V:LS}{t:gB}(h:(t.kind==1 && isInf t.name)=true)(hD:DT V t):t.name∈tvs t∧t.name∈V∧isInf t.name=true:=by
 obtain⟨k,n,ts⟩:=t;simp only [Bool.and_eq_true,beq_iff_eq] at h;have c:n∈tvs ⟨k,n,ts⟩:=by simp [tvs,h.1]
 exact⟨c,hD.1.2.2 n c,h.2⟩
theorem hWz{V:LS}{t:gB}(h:DT V t):t.args.length≤2:=by obtain⟨k,n,ts⟩:=t;exact h.1.2.1.1.2.1
theorem hT7(l:List gG)(t:gB):low l 0 t:=fun v _ hd=>by simp [dom] at hd
theorem gWl(t:gB):pjs t.args≤pj t:=by obtain⟨k,n,ts⟩:=t;simp only [pj];omega
theorem hDj{l:List gG}{t:gB}(h:zbd l t=false):∀u∈t.args,zbd l u=false:=by
 intro u hu;cases hz:zbd l u with
 | false=>rfl
 | true=>
   obtain⟨v,c,f⟩:=(gFf u).1 hz
   have:zbd l t=true:=(gFf t).2 ⟨v,by obtain⟨k,n,ts⟩:=t;simp only [tvs,List.mem_append];exact .inr (gNv.2 ⟨u,hu,c⟩),f⟩
   rw [h] at this;cases this
theorem gMk{t:gB}{u:gB}(h:u∈t.args):tnd u≤tnd t:=by
 obtain⟨k,n,ts⟩:=t
 have:tnd u≤gAb ts:=yU h
 simp only [tnd];omega
set_option maxRecDepth 100000 in
theorem hK6{w:gK}{k:Int}(hw:gO8 w k){wh:List gW}(hwh:gOy wh)(hwl:wh.length≤1000){V:LS}(hV:V.length≤5):∀(d n:Nat),d < n→d≤40→Down V (d+1) (fun s a b=>mD n w wh s a b (d:Int)):=by
 intro d
 induction d with
 | zero=>
   intro n hn _ s a b hi ha hb hta htb heq;obtain⟨n,rfl⟩:∃m,n=m+1:=⟨n - 1,by omega⟩
   simp only [mD];unfold gA8;cases s.code != 0 with
   | true=>exact⟨_,rfl,hi,.same rfl rfl⟩
   | false=>
     rw [gI,mI ⟨hi.bok,ha.1.1⟩];simp only [lt_];rw [mI ⟨hi.bok,hb.1.1⟩];cases teq (zkF s a) (zkF s b)with
     | true=>exact⟨_,rfl,hi,.same rfl rfl⟩
     | false=>
       simp only [gI];rw [show decide (((0:Nat):Int)≤0)=true from by decide];simp only [gT];exact⟨_,rfl,hi.fail 6,.same (vI s 6).1 (vI s 6).2⟩
 | succ d ih=>
   intro n hn hd s a b hi ha hb hta htb heq;obtain⟨n,rfl⟩:∃m,n=m+1:=⟨n - 1,by omega⟩
   have hl:=hi.len;have hdown:Down V (d+1) (fun s a b=>mD n w wh s a b (IntKind.i64.wrap (((d+1:Nat):Int) - 1))):=by
    rw [show IntKind.i64.wrap (((d+1:Nat):Int) - 1)=(d:Int)from by rw [qR _ (by omega) (by omega)];omega];exact ih n (by omega) (by omega)
   have hx:=gYt (fun c hc=>(hi.dt c hc).1) 60 a ha;have hy:=gYt (fun c hc=>(hi.dt c hc).1) 60 b hb;have tx:=gQg hi.gU4 60 a hta;have ty:=gQg hi.gU4 60 b htb;have dx:=gLr hi.tri 60 0 a (hT7 _ _) (by omega);have dy:=gLr hi.tri 60 0 b (hT7 _ _) (by omega);simp only [mD];unfold gA8;unfold zkF;generalize zk s.bindings 60 a=x at *;generalize zk s.bindings 60 b=y at *;cases s.code != 0 with
   | true=>exact⟨_,rfl,hi,.same rfl rfl⟩
   | false=>
     rw [gI,mI ⟨hi.bok,ha.1.1⟩];simp only [lt_];rw [mI ⟨hi.bok,hb.1.1⟩];cases teq x y with
     | true=>exact⟨_,rfl,hi,.same rfl rfl⟩
     | false=>
       simp only [gI];rw [show decide (((d+1:Nat):Int)≤0)=false from decide_eq_false (by omega),gI,uN x (by omega),uN y (by omega),qR _ (by omega) (by omega)];cases hsz:decide (((tnd x:Int)+(tnd y:Int)) > 2000)with
       | true=>exact⟨_,rfl,hi.fail 6,.same (vI s 6).1 (vI s 6).2⟩
       | false=>
         have hsz:=of_decide_eq_false hsz;have zx:zbd s.bindings x=false:=by
          rcases dx with h | h
          ·exact h
          ·rw [uN x (by omega)] at h;omega
         have zy:zbd s.bindings y=false:=by
          rcases dy with h | h
          ·exact h
          ·rw [uN y (by omega)] at h;omega
         have ox:=gNl hi.inf zx;have oy:=gNl hi.inf zy;rw [gI,gDx x];simp only [bnd];cases mx:(x.kind==1 && isInf x.name)with
         | true=>
           obtain⟨m1,m2,m3⟩:=gP0 mx hx;obtain⟨s',q1,q2,f⟩:=bind_ok (d:=d+1+1) (p:=pj x+pj y) hi hV (ox _ m1) m2 m3 oy hy (by omega);rw [gT,q1];exact⟨s',rfl,q2,f⟩
         | false=>
           rw [gI,gDx y];simp only;cases my:(y.kind==1 && isInf y.name)with
           | true=>
             obtain⟨m1,m2,m3⟩:=gP0 my hy;obtain⟨s',q1,q2,f⟩:=bind_ok (d:=d+1+1) (p:=pj x+pj y) hi hV (oy _ m1) m2 m3 ox hx (by omega);rw [gT,q1];exact⟨s',rfl,q2,f⟩
           | false=>
             have heq2:s.equations.length+KQ*(d+1)*(6 - s.bindings.length)≤4294967295:=by
              have:KQ*(d+1)*(6 - s.bindings.length)≤KQ*(d+1+1)*(6 - s.bindings.length):=Nat.mul_le_mul_right _ (Nat.mul_le_mul_left _ (by omega))
              omega
             obtain⟨r,r1,r2⟩:=gUt hw hwh hwl hx (by omega);rw [gI,r1];simp only;cases (!r.2.2)with
             | true=>exact⟨_,rfl,hi.fail 7,.same (vI s 7).1 (vI s 7).2⟩
             | false=>
               rw [gI];cases hr:r.2.1 with
               | true=>
                 obtain⟨u1,u2,u3⟩:=r2 hr;obtain⟨s',q1,q2,f⟩:=hdown s r.1 y hi u1 hy (by omega) (by omega) heq2;unfold zkF at f;rw [gNm 60 (.inl (hAy u3)),gNm 60 (.inl zy),hT6 _ u3] at f;have q1:mD n w wh s r.1 y (IntKind.i64.wrap (((d+1:Nat):Int) - 1))=some s':=q1;rw [gT,q1];exact⟨s',rfl,q2,f.up (by omega) (by omega)⟩
               | false=>
                 rw [gI];obtain⟨p,p1,p2⟩:=gUt hw hwh hwl hy (by omega);rw [p1];simp only;cases (!p.2.2)with
                 | true=>exact⟨_,rfl,hi.fail 7,.same (vI s 7).1 (vI s 7).2⟩
                 | false=>
                   rw [gI];cases hp:p.2.1 with
                   | true=>
                     obtain⟨u1,u2,u3⟩:=p2 hp;obtain⟨s',q1,q2,f⟩:=hdown s x p.1 hi hx u1 (by omega) (by omega) heq2;unfold zkF at f;rw [gNm 60 (.inl (hAy u3)),gNm 60 (.inl zx),hT6 _ u3] at f;have q1:mD n w wh s x p.1 (IntKind.i64.wrap (((d+1:Nat):Int) - 1))=some s':=q1;rw [gT,q1];exact⟨s',rfl,q2,f.up (by omega) (by omega)⟩
                   | false=>
                     rw [gI];have hpx:=hT5 x;have hpy:=hT5 y;cases hdef:cnd (x.kind==3) (cnd (gG8 x) true (cnd (y.kind==3) (gG8 y) false)) (cnd (y.kind==3) (gG8 y) false)with
                     | true=>
                       have hone:1≤pj x+pj y:=by
                        have hyc:cnd (y.kind==3) (gG8 y) false=true→1≤pj y:=fun h=>by
                         cases h3:(y.kind==3)with
                         | false=>rw [h3] at h;cases h
                         | true=>rw [h3] at h;exact hK5 (by simpa using h3) h
                        cases h3:(x.kind==3)with
                        | false=>rw [h3,gI] at hdef;have:=hyc hdef;omega
                        | true=>
                          rw [h3,gT] at hdef;cases h4:gG8 x with
                          | true=>have:=hK5 (by simpa using h3) h4;omega
                          | false=>rw [h4,gI] at hdef;have:=hyc hdef;omega
                       rw [gT];have hk1:KQ*(d+1+1)*1≤KQ*(d+1+1)*(6 - s.bindings.length):=Nat.mul_le_mul_left _ (by omega);have hk2:KQ*1≤KQ*(d+1+1):=Nat.mul_le_mul_left _ (by omega);have hk3:=hOx;rw [mI (by simp only [List.length_nil];omega),mI (by simp only [List.nil_append,List.length_cons,List.length_nil];omega)];refine⟨_,rfl,⟨hi.tri,hi.inf,hi.dt,hi.obl,fun q hq=>?_⟩,⟨⟨[],by simp⟩,by simp only [List.nil_append,List.length_append,List.length_cons,List.length_nil];omega,fun _=>by simp only [List.nil_append,List.length_append,List.length_cons,List.length_nil];omega⟩⟩;simp only [List.nil_append,List.mem_append,List.mem_singleton] at hq;rcases hq with hq | rfl
                       ·exact hi.eqs q hq
                       ·exact⟨⟨hx,by show tnd x≤2000;omega⟩,hy,by show tnd y≤2000;omega⟩
                     | false=>
                       rw [gI];cases hmm:cnd (x.kind != y.kind) true (cnd (!(x.name==y.name)) true (cnd ((x.args.length:Int) !=(y.args.length:Int)) true (x.kind==3)))with
                       | true=>exact⟨_,rfl,hi.fail 1,.same (vI s 1).1 (vI s 1).2⟩
                       | false=>
                         have hlen:y.args.length=x.args.length:=by
                          cases h1:(x.kind != y.kind)with
                          | true=>rw [h1] at hmm;cases hmm
                          | false=>
                            rw [h1,gI] at hmm;cases h2:(!(x.name==y.name))with
                            | true=>rw [h2] at hmm;cases hmm
                            | false=>
                              rw [h2,gI] at hmm;cases h3:((x.args.length:Int) !=(y.args.length:Int))with
                              | true=>rw [h3] at hmm;cases hmm
                              | false=>
                                have:(x.args.length:Int)=(y.args.length:Int):=by simpa using h3
                                omega
                         rw [gI];have hxa:=gMo x.args;have hxt:gAb x.args+1=tnd x:=by obtain⟨e1,e2,e3⟩:=x;simp only [tnd];omega
                         have hj:0+x.args.length≤2:=by have:=hWz hx;omega
                         obtain⟨s',q1,q2,f,q4,q5⟩:=hQv hV hd hdown s y heq x.args y.args 0 s 0 rfl hlen hi ⟨[],by simp⟩ (by omega) (fun _=>by omega)
                          (fun u hu=>⟨gE7 hx u hu,by have:=gMk hu;omega,hDj zx u hu⟩) (fun u hu=>⟨gE7 hy u hu,by have:=gMk hu;omega,hDj zy u hu⟩) hj
                         rw [q1];refine⟨s',rfl,q2,⟨f,?_,fun hz=>?_⟩⟩
                         ·have hpa:=gWl x;have hpb:=gWl y;have hk3:=hOx;have e1:KQ*(d+1+1)*(s'.bindings.length - s.bindings.length)=KQ*(d+1)*(s'.bindings.length - s.bindings.length)+KQ*(s'.bindings.length - s.bindings.length):=by rw [Nat.mul_add KQ (d+1) 1,Nat.add_mul,Nat.mul_one]
                          rcases Nat.eq_zero_or_pos (s'.bindings.length - s.bindings.length)with h0 | h0
                          ·obtain⟨l3,f⟩:=f;have h3:s.bindings.length≤s'.bindings.length:=by rw [f];simp
                           have:=q5 (by omega)
                           omega
                          ·have e2:KQ*1≤KQ*(s'.bindings.length - s.bindings.length):=Nat.mul_le_mul_left _ h0;omega
                         ·have hpa:=gWl x;have hpb:=gWl y
                          have:=q5 hz
                          omega
end Go.Proofs.YtegahmhnmjnhhaaGreat
