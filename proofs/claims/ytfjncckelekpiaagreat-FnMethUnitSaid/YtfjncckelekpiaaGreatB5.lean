import Derived.Test.YtfjncckelekpiaaGreatB2
import Derived.Test.YtfjncckelekpiaaGreatB4
set_option maxHeartbeats 4000000
set_option linter.unusedVariables false
set_option linter.unusedSimpArgs false
set_option linter.unusedSectionVars false
namespace Go.Proofs.YtfjncckelekpiaaGreat
open Go Go.Eng
attribute [local irreducible] V VO VQ VY Quiet QR gW pJ Rng vF uW uI
def gCz(f:gG→LB→LS→Option LS)(w:gG):LS→LS→Option LS
 | [],q=>(some q)
 | y::xs,q=>(cnd (!(wM q y)) (
gd (q.length+[y].length≤4294967296) (
bnd (f w y (q++[y])) fun aa=>
gCz f w xs aa)) (
gCz f w xs q))
def gQt(f:gG→LB→LS→Option LS)(w:gG)(name:LB)(q:LS):Option LS:=
lt_ (uC w name) fun y=>
gCz f w y.1.supertraits q
theorem hDv{f:gG→LB→LS→Option LS}(q:∀(x0:gG)(x1:LB)(x2:LS)(w0:Nat){r:LS},f x0 x1 x2=some r→Go.Eng.Spec Tryz.prog 139 [.d (jX x0),.S x1,.sl 0 w0] [.own 9 1 w0 (kD x2)] (fun sv Lo=>∃v'0,sv=.sl 0 v'0∧Lo=[.own 9 1 v'0 (kD r)]))(w:gG)(name:LB)(l0:LS)(v0:Nat){r:LS}(h:gQt f w name l0=some r):Go.Eng.Spec Tryz.prog 139 [.d (jX w),.S name,.sl 0 v0] [.own 9 1 v0 (kD l0)] (fun sv Lo=>∃v'0,sv=.sl 0 v'0∧Lo=[.own 9 1 v'0 (kD r)]):=by
 obtain⟨ah⟩:=w;unfold gQt at h;refine pK 1 Tryz.func139 rfl (by kernel_rfl) rfl rfl fun A _=>?_;refine goL ?_;obtain⟨⟨⟨ab,y,ac,ad,ae⟩,a3,a4⟩,au,h⟩:=pI h;have sx1:=gDt (gG.mk ah) name;rw [au] at sx1;refine gX (gD (sx1)) ?_;refine noB ?_;refine pG 2 1 (fun z5=>?_);refine kQ (fun(y4:Nat)(y2:LS)(v3:Nat)=>⟨[(2,.sl 0 v3),(3,.ptr 1 0),(7,.ptr 2 0),(10,.N y4)],[.own 9 1 v3 (kD y2),bPr ah,bTr ab y ac ad ae],Tryz.f139.ntmps⟩) (fun y4 y2 v3=>gCz f (gG.mk ah) (y.drop y4) y2=some r) (fun y4 y2 v3=>y.length - y4) 0 l0 v0 eJ h ?_;rintro y4 y2 v3 h;refine goL ?_;refine kN (fun c6=>?_) (fun c6=>?_)
 ·have aa:=qB c6;obtain⟨x7,ak,am⟩:=drop_at aa;rw [am,gCz.eq_2] at h;refine noS ?_;refine kC (gP ?_);refine goL ?_;refine gX (gV y4 (gN4 ak)) ?_;refine gC1 (gUn (gC5 y2 x7)) ?_;refine kN (fun c8=>?_) (fun c8=>?_)
  ·replace h:=jU c8 h;refine gMh (P:=Tryz.prog) Mix.h [(0,true),(1,true),(2,true),(3,true),(4,true),(5,true),(6,true),(7,true),(8,true),(9,true),(10,true),(11,true),(12,false),(13,false),(14,false),(15,true)] (by kernel_rfl) ?_;refine goY ?_;refine zL rfl (gV y4 (gN4 ak)) ?_;refine goY ?_;refine zL rfl (gV y4 (gN4 ak)) ?_;refine goY ?_;refine hR9 (T:=38) (x7:LB) ?_;obtain⟨g9,h⟩:=mI h;refine hUd (T:=38) g9 ?_;obtain⟨an,ao,h⟩:=gK h;refine gWz [0] (q (gG.mk ah) x7 (y2++[x7]) (v3+1) ao) ?_;rintro _ _ ⟨al,rfl,rfl⟩;refine gTs (sv:=.sl 0 al) (L':=[.own 9 1 al (kD an),bPr ah,bTr ab y ac ad ae,.dead 1]) (by repeat(first | exact gDf.nil | (apply gDf.keep;focus ((repeat constructor);done)) | (apply gDf.dep;focus kernel_rfl))) ?_;refine goY ?_;refine gD5 ?_;refine goL ?_;refine gX (jK y4 (by omega)) ?_;exact⟨(y4+1),an,al,h,by omega,eJ⟩
  ·replace h:=jV c8 h;refine goS ?_;refine gX (jK y4 (by omega)) ?_;exact⟨(y4+1),y2,v3,h,by omega,eJ⟩
 ·have aa:=qC c6;rw [gT aa,gCz.eq_1] at h;refine goX ?_;refine jH ?_;obtain rfl:=Option.some.inj h;exact gHr [.sl 0 v3] _ ⟨v3,rfl,rfl⟩
def gQu:Nat→gG→LB→LS→Option LS
 | 0,_,_,_=>none
 | n+1,f,q,y=>gQt (gQu n) f q y
theorem hDw:∀(n:Nat)(f:gG)(q:LB)(y:LS)(w0:Nat){r:LS},gQu n f q y=some r→Go.Eng.Spec Tryz.prog 139 [.d (jX f),.S q,.sl 0 w0] [.own 9 1 w0 (kD y)] (fun sv Lo=>∃v'0,sv=.sl 0 v'0∧Lo=[.own 9 1 v'0 (kD r)]):=by
 intro n
 induction n with
 | zero=>intro f q y w0 r h;cases h
 | succ n ih=>intro f q y w0 r h;exact hDv ih f q y w0 h
def yZ(f:gG)(a1:gI):Option (jF × Bool):=
bnd (cnd (!(gBa a1.package 0 (IntKind.i64.wrap ((f.packages.length:Int) - 1)))) (some true) (bnd (at? f.packages a1.package) fun q=>
some (!(gBa a1.at_ 0 (IntKind.i64.wrap ((q.instances.length:Int) - 1)))))) fun y=>
(cnd y (some ((jF.mk [] [] (gF.mk 0 [] []) [] false false (gF.mk 0 [] []) []),false)) (
bnd (at? f.packages a1.package) fun x5=>
bnd (at? x5.instances a1.at_) fun x6=>
some (x6,true)))
theorem gDx(a0:gG)(a1:gI){r:jF × Bool}(h:yZ a0 a1=some r):gW Tryz.prog 22 [.d (jX a0),.d (qQ a1)] [vY r.1,.b r.2]:=by
 obtain⟨f⟩:=a0;obtain⟨q,y⟩:=a1;unfold yZ at h;refine SpI Tryz.func22 fun A _=>?_;refine gCj ?_;obtain⟨b1,hb1,h⟩:=gK h;refine qN (P:=Tryz.prog) Mix.h ⟨[(2,.ptr 0 0),(3,.ptr 1 0),(4,.ptr 2 0),(28,.B b1)],[bPr f,.box [.I q,.I y],.box [.S [],.nilsl,.I 0,.S [],.nilsl,.nilsl,.B false,.B false,.I 0,.S [],.nilsl,.nilsl]],Tryz.f22.ntmps⟩ (by kernel_rfl) ?_ ?_
 ·refine goL ?_;refine wC (pR) ?_;refine wC (gD (gIv q 0 (IntKind.i64.wrap ((f.length:Int) - 1)))) ?_;refine goL ?_;refine qE 14 (fun c2=>?_) (fun c2=>?_)
  ·replace hb1:=jU c2 hb1;refine goL ?_;cases hb1;exact eJ
  ·replace hb1:=jV c2 hb1;refine goL ?_;obtain⟨x3,aa,hb1⟩:=gK hb1;obtain⟨ad,aa⟩:=yY aa;obtain⟨aq,ar,au,av,ae,aw⟩:=x3;refine wN (kY ad (mX aa)) ?_;refine goL ?_;refine wN (pR) ?_;refine wN (gD (gIv y 0 (IntKind.i64.wrap ((ae.length:Int) - 1)))) ?_;refine goL ?_;cases hb1;exact eJ
 refine goC h ?_ ?_<;>intro c4 h
 ·refine goL ?_;refine uX (jI TBd.h TZ.h rfl (by repeat constructor)) ?_;exact goR h
 ·refine noS ?_;refine sZ 0 ?_;refine goW ?_;obtain⟨x5,ab,h⟩:=gK h;obtain⟨ag,ab⟩:=yY ab;obtain⟨ax,ay,a2,a3,a4,a5⟩:=x5;refine kR (fun _=>kY ag (mX ab)) ?_;refine goW ?_;obtain⟨x6,ac,h⟩:=gK h;obtain⟨ah,ac⟩:=yY ac;obtain⟨a6,a7,⟨ai,aj,ak⟩,a8,a9,ba,⟨al,am,an⟩,bb⟩:=x6;refine kR (fun _=>kY ah (gFf ac)) ?_;refine goW ?_;refine jY ?_;exact goR h
def gLy(y3:LS)(q:LB→Option (gF)):Nat→LB→Option (gF)
 | 0,f=>none
 | y+1,f=>(cnd (wM y3 f) (
gd (f.length+([122]:LB).length≤4294967296) (
gLy y3 q y (f++([122]:LB)))) (q f))
def gDy(a0:gF)(a1:LS)(n0:Nat):LS→LS→(List gM)→Option (gF)
 | [],y3,y=>gd (bok y∧tok a0) (lt_ (apT y a0) fun ae=>
some ae)
 | f::xs,y3,y=>(cnd (!(wM a1 f)) (
gDy a0 a1 n0 xs y3 y) (
gd (f.length+([122]:LB).length≤4294967296) (
gLy y3 (fun q=>gd (y3.length+[q].length≤4294967296) (
lt_ (gM4 q) fun ab=>
gd (y.length+[(gM.mk f ab)].length≤4294967296) (
gDy a0 a1 n0 xs (y3++[q]) (y++[(gM.mk f ab)])))) n0 (f++([122]:LB)))))
def gWc(f:gF)(a1:LS)(y:Nat):Option (gF):=
bnd (wV f) fun q=>
bnd (gZh a1 q) fun x2=>
gDy f a1 y q x2 []
theorem hLg(a0:gF)(a1:LS){n0:Nat}{r:gF}(h:gWc a0 a1 n0=some r):gW Tryz.prog 214 [.d (kT a0),.L 1 (kD a1)] [kT r]:=by
 obtain⟨q,y,aa⟩:=a0;unfold gWc at h;refine SpI Tryz.func214 fun A _=>?_;refine goL ?_;obtain⟨x1,a2,h⟩:=gK h;refine gX (gD (gCw _ a2)) ?_;obtain⟨x2,a3,h⟩:=gK h;refine gO9 (hPq a1 x1 a3) ?_;refine goL ?_;refine qO ?_;refine goL ?_;refine noB ?_;refine gB0 5 (fun z8=>?_);refine gMj (fun(y7:Nat)(y3:LS)(y5:List gM)(v4:Nat)(v6:Nat)=>⟨[(1,.L 1 (kD a1)),(2,.ptr 0 0),(4,.ptr 1 0),(5,.L 1 (kD x1)),(6,.sl 2 v4),(7,.sl 3 v6),(8,.N y7)],[bTy q y aa,.box [.I 0,.S [],.nilsl],.own 9 1 v4 (kD y3),.arr 253 4 v6 (jM y5)],Tryz.f214.ntmps⟩) (fun y7 y3 y5 v4 v6=>gDy (gF.mk q y aa) a1 n0 (x1.drop y7) y3 y5=some r) (fun y7 y3 y5 v4 v6=>x1.length - y7) 0 x2 [] 0 0 eJ h ?_;rintro y7 y3 y5 v4 v6 h;refine goL ?_;refine kN (fun c9=>?_) (fun c9=>?_)
 ·have ad:=qB c9;obtain⟨ae,ai,ao⟩:=drop_at ad;rw [ao,gDy.eq_2] at h;refine noS ?_;refine kC (gP ?_);refine goL ?_;refine gX (gV y7 (gN4 ai)) ?_;refine gX (gD (gC5 a1 ae)) ?_;refine kN (fun ap=>?_) (fun ap=>?_)
  ·replace h:=jU ap h;refine goX ?_;refine gX (jK y7 (by omega)) ?_;exact⟨(y7+1),y3,y5,v4,v6,h,by omega,eJ⟩
  ·replace h:=jV ap h;refine goS ?_;refine gX (gV y7 (gN4 ai)) ?_;obtain⟨a5,h⟩:=mI h;refine gX (yS a5) ?_;refine kC (gP ?_);show V _ _ _ _ _
   refine gAg (fun(ab:Nat)(f:LB)=>⟨[(1,.L 1 (kD a1)),(2,.ptr 0 0),(4,.ptr 1 0),(5,.L 1 (kD x1)),(6,.sl 2 v4),(7,.sl 3 v6),(8,.N y7),(9,.S f)],[bTy q y aa,.box [.I 0,.S [],.nilsl],.own 9 1 v4 (kD y3),.arr 253 4 v6 (jM y5)],Tryz.f214.ntmps⟩) (fun ab f=>gLy y3 (fun f=>gd (y3.length+[f].length≤4294967296) (
lt_ (gM4 f) fun au=>
gd (y5.length+[(gM.mk ae au)].length≤4294967296) (
gDy (gF.mk q y aa) a1 n0 (x1.drop (y7+1)) (y3++[f]) (y5++[(gM.mk ae au)])))) ab f=some r) (fun ab f=>ab) n0 (ae++([122]:LB)) eJ h ?_
   rintro ab f h;rcases ab with _ | ab
   ·cases h
   rw [gLy.eq_2] at h;refine goL ?_;refine gC1 (gUn (gC5 y3 f)) ?_;refine kN (fun aq=>?_) (fun aq=>?_)
   ·replace h:=jU aq h;refine noS ?_;refine gP ?_;refine goL ?_;obtain⟨a6,h⟩:=mI h;refine gX (yS a6) ?_;exact⟨ab,(f++([122]:LB)),h,Nat.lt_succ_self _,eJ⟩
   ·replace h:=jV aq h;refine goX ?_;refine gAz f ?_;obtain⟨a7,h⟩:=mI h;refine gDj a7 ?_;refine gCj ?_;refine dZ 0 ?_;refine goW ?_;refine kR (fun _=>gV y7 (gN4 ai)) ?_;refine goW ?_;obtain⟨⟨aj,ak,al⟩,av,h⟩:=pI h;have sx18:=gVi f;rw [av] at sx18;refine kR (fun _=>gD (sx18)) ?_;refine goW ?_;refine uK (us:=jM [(gM.mk ae (gF.mk aj ak al))]) ?_;obtain⟨a8,h⟩:=mI h;refine uL a8 ?_;refine goW ?_;refine jY ?_;refine goL ?_;refine gX (jK y7 (by omega)) ?_;exact⟨(y7+1),(y3++[f]),(y5++[(gM.mk ae (gF.mk aj ak al))]),(v4+1),(v6+1),h,by omega,eJ⟩
 ·have ad:=qC c9;rw [gT ad,gDy.eq_1] at h;refine goX ?_;obtain⟨a9,h⟩:=mI h;obtain⟨⟨ba,bb,bc⟩,aw,h⟩:=pI h;have sx21:=gDi y5 (gF.mk q y aa) a9;rw [aw] at sx21;refine gO9 (sx21) ?_;refine goL ?_;refine qW 4 rfl rfl ?_;refine jH ?_;cases h;exact mM
def hPu(f:gF)(q:LS):Option (gF):=gWc f q 5000
def yP(f:gF)(a1:gF):Option (Bool):=
bnd (zF f a1) fun q=>
bnd (cnd q (bnd (zF a1 f) fun y=>
some (!y)) (some false)) fun b2=>
(some b2)
theorem gG7(a0:gF)(a1:gF){r:Bool}(h:yP a0 a1=some r):gW Tryz.prog 158 [.d (kT a0),.d (kT a1)] [.b r]:=by
 obtain⟨f,q,y⟩:=a0;obtain⟨aa,ab,ac⟩:=a1;unfold yP at h;refine SpI Tryz.func158 fun A _=>?_;refine goL ?_;obtain⟨x1,ae,h⟩:=gK h;refine gX (gD (gJ5 _ _ ae)) ?_;obtain⟨b2,hb2,h⟩:=gK h;refine kG ⟨[(4,.B b2)],[bTy f q y,bTy aa ab ac],Tryz.f158.ntmps⟩ ?_ ?_
 ·refine gqA 8 hb2 (fun c3 hb2=>?_);obtain⟨x4,ag,hb2⟩:=gK hb2;refine gX (gD (gJ5 _ _ ag)) ?_;cases hb2;exact eJ
 exact goR h
def qR(a1:gU):List jO→Nat→Int
 | [],f=>(-1)
 | q::xs,f=>(cnd (gDw q.goal a1) (f:Int) (
qR a1 xs (f+1)))
def mQ(f:List jO)(a1:gU):Int:=
qR a1 f 0
theorem gH1(a0:List jO)(a1:gU):gW Tryz.prog 79 [.L 6 (mO a0),.d (gCq a1)] [.i .i64 (mQ a0 a1)]:=by
 obtain⟨r,h⟩:∃r,mQ a0 a1=r:=⟨_,rfl⟩
 rw [h];obtain⟨ae,⟨f,q,y⟩⟩:=a1;unfold mQ at h;refine SpI Tryz.func79 fun A _=>?_;refine goL ?_;refine noB ?_;refine gB0 0 (fun z2=>?_);refine kZ (fun(y1:Nat)=>⟨[(0,.L 6 (mO a0)),(3,.ptr 0 0),(5,.N y1)],[bBd ae f q y],Tryz.f79.ntmps⟩) (fun y1=>qR (gU.mk ae (gF.mk f q y)) (a0.drop y1) y1=r) (fun y1=>a0.length - y1) 0 eJ h ?_;rintro y1 h;refine goL ?_;refine kN (fun c3=>?_) (fun c3=>?_)
 ·have aa:=qB c3;obtain⟨x4,al,aj⟩:=drop_at aa;rw [aj,qR.eq_2] at h;obtain⟨⟨ah,⟨ab,ac,ad⟩⟩,am,an⟩:=x4;refine noS ?_;refine kC (gP ?_);refine goL ?_;refine wC (gV y1 (gQ0 al)) ?_;refine goL ?_;refine wC (gD (gOp (gU.mk ah (gF.mk ab ac ad)) (gU.mk ae (gF.mk f q y)))) ?_;refine goC h ?_ ?_<;>intro c5 h
  ·refine goL ?_;refine jH ?_;subst h;exact mM
  ·refine goS ?_;refine gX (jK y1 (by omega)) ?_;exact⟨(y1+1),h,by omega,eJ⟩
 ·have aa:=qC c3;rw [gT aa,qR.eq_1] at h;refine goX ?_;refine jH ?_;subst h;exact mM
def qP:List Int→Int→Int→Int→Int→(List gN)→Option (gN)
 | [],f,q,y,y5,y6=>(some (gN.mk f q (gI.mk y y5) y6))
 | ac::xs,f,q,y,y5,y6=>qP xs 3 ac 0 0 [(gN.mk f q (gI.mk y y5) y6)]
def wX(q:gN)(a1:List Int):Option (gN):=
bnd (gJe 5000 q) fun f=>
qP a1 f.kind f.n f.at_.package f.at_.at_ f.args
theorem gK6(a0:gN)(a1:List Int){r:gN}(h:wX a0 a1=some r):pJ Tryz.prog 80 [.d (wS a0),.L 1 (yC a1)] [106] [wS r]:=by
 obtain⟨ad,ae,⟨q,y⟩,ag⟩:=a0;unfold wX at h;refine yB Tryz.func80 rfl (by kernel_rfl) rfl (by simp) fun A _=>?_;refine goL ?_;obtain⟨⟨ao,ap,⟨aa,ab⟩,aq⟩,aw,h⟩:=gK h;refine gO9 (gRo 5000 (gN.mk ad ae (gI.mk q y) ag) aw) ?_;refine goL ?_;refine noB ?_;refine gB0 1 (fun z9=>?_);refine hQl (fun(y8:Nat)(y2:Int)(y3:Int)(y4:Int)(y5:Int)(y6:List gN)(v7:Nat)=>⟨[(1,.L 1 (yC a1)),(4,.ptr 1 0),(5,.ptr 3 0),(6,.N y8)],[.box [.I ad,.I ae,.I q,.I y,.L 5 (mD ag)],.box [.I 0,.I 0,.I 0,.I 0,.nilsl],.own 106 5 v7 (mD y6),.box [.I y2,.I y3,.I y4,.I y5,.sl 2 v7]],Tryz.f80.ntmps⟩) (fun y8 y2 y3 y4 y5 y6 v7=>qP (a1.drop y8) y2 y3 y4 y5 y6=some r) (fun y8 y2 y3 y4 y5 y6 v7=>a1.length - y8) 0 ao ap aa ab aq 0 eJ h ?_;rintro y8 y2 y3 y4 y5 y6 v7 h;refine goL ?_;refine kN (fun am=>?_) (fun am=>?_)
 ·have f:=qB am;obtain⟨ax,au,an⟩:=drop_at f;rw [an,qP.eq_2] at h;refine noS ?_;refine kC (gP ?_);refine gMh (P:=Tryz.prog) Mix.h [(0,true),(1,true),(2,true),(3,true),(4,true),(5,false),(6,true),(7,false)] (by kernel_rfl) ?_;refine goY ?_;refine zL rfl (gV y8 (hVk au)) ?_;refine goY ?_;refine hR9 (T:=44) (gN.mk y2 y3 (gI.mk y4 y5) y6) ?_;refine goY ?_;refine gD5 ?_;refine goL ?_;refine gX (jK y8 (by omega)) ?_;exact⟨(y8+1),3,ax,0,0,[(gN.mk y2 y3 (gI.mk y4 y5) y6)],0,h,by omega,hIu 0 [0,1,4,3]⟩
 ·have f:=qC am;rw [gT f,qP.eq_1] at h;refine goX ?_;refine jH ?_;obtain rfl:=Option.some.inj h;exact hCk
def gEq(f:gG→LB→LB→Int→Option (List Int × Bool))(a0:gG)(a2:LB)(y:Int)(x2:mE × Int × Bool):Nat→Int→Option (List Int × Bool)
 | 0,q=>none
 | n4+1,q=>lt_ (cnd (decide (q < (x2.1.supertraits.length:Int))) (decide (y > 0)) (false)) fun b5=>
(cnd b5 (
bnd (at? x2.1.supertraits q) fun x8=>
bnd (f a0 x8 a2 (IntKind.i64.wrap (y - 1))) fun x9=>
cnd x9.2 (
gd ([q].length+x9.1.length≤4294967296) (some (([q]++x9.1),true))) (
gEq f a0 a2 y x2 n4 (IntKind.i64.wrap (q+1)))) (some ([],false)))
def gMs(f:gG→LB→LB→Int→Option (List Int × Bool))(q:gG)(a1:LB)(y:LB)(a3:Int)(n0:Nat):Option (List Int × Bool):=
(cnd (a1==y) (some ([],true)) (
lt_ (uC q a1) fun x2=>
gEq f q y a3 x2 n0 0))
theorem hHn{f:gG→LB→LB→Int→Option (List Int × Bool)}(q:∀(x0:gG)(x1:LB)(x2:LB)(x3:Int){r:List Int × Bool},f x0 x1 x2 x3=some r→gW Tryz.prog 135 [.d (jX x0),.S x1,.S x2,.I x3] [.sl 1 (yC r.1),.b r.2])(a0:gG)(a1:LB)(a2:LB)(a3:Int){n0:Nat}{r:List Int × Bool}(h:gMs f a0 a1 a2 a3 n0=some r):gW Tryz.prog 135 [.d (jX a0),.S a1,.S a2,.I a3] [.sl 1 (yC r.1),.b r.2]:=by
 obtain⟨ae⟩:=a0;unfold gMs at h;refine SpI Tryz.func135 fun A _=>?_;refine goC h ?_ ?_<;>intro c1 h
 ·refine goL ?_;refine gFh ?_;refine goL ?_;refine qW 1 rfl rfl ?_;refine jH ?_;cases h;exact mM
 ·refine goS ?_;obtain⟨⟨⟨y,aa,ab,ac,ad⟩,al,am⟩,ap,h⟩:=pI h;have sx2:=gDt (gG.mk ae) a1;rw [ap] at sx2;refine gX (gD (sx2)) ?_;refine noB ?_;refine gAg (fun(n4:Nat)(y3:Int)=>⟨[(2,.S a2),(3,.I a3),(4,.ptr 0 0),(10,.ptr 1 0),(13,.I y3)],[bPr ae,bTr y aa ab ac ad],Tryz.f135.ntmps⟩) (fun n4 y3=>gEq f (gG.mk ae) a2 a3 ((mE.mk y aa ab ac ad),al,am) n4 y3=some r) (fun n4 y3=>n4) n0 0 eJ h ?_;rintro n4 y3 h;rcases n4 with _ | n4
  ·cases h
  rw [gEq.eq_2] at h;refine goL ?_;obtain⟨b5,hb5,h⟩:=pI h;refine kG ⟨[(2,.S a2),(3,.I a3),(4,.ptr 0 0),(10,.ptr 1 0),(13,.I y3),(35,.B b5)],[bPr ae,bTr y aa ab ac ad],Tryz.f135.ntmps⟩ ?_ ?_
  ·exact gqZ 32 hb5
  refine goC h ?_ ?_<;>intro c7 h
  ·refine noS ?_;refine kC (gP ?_);refine goL ?_;obtain⟨x8,ai,h⟩:=gK h;obtain⟨an,ai⟩:=yY ai;refine wC (kY an (gN4 ai)) ?_;refine goL ?_;refine wC (pR) ?_;obtain⟨⟨a4,a5⟩,aq,h⟩:=gK h;refine wC (gD (q _ _ _ _ aq)) ?_;refine goC h ?_ ?_<;>intro a7 h
   ·refine goL ?_;refine gAz y3 ?_;refine goL ?_;obtain⟨ar,h⟩:=mI h;refine gDj ar ?_;refine goL ?_;refine qW 2 rfl rfl ?_;refine jH ?_;cases h;exact mM
   ·refine goS ?_;refine gX (pR) ?_;exact⟨n4,(IntKind.i64.wrap (y3+1)),h,Nat.lt_succ_self _,eJ⟩
  ·refine goX ?_;refine gFh ?_;refine goL ?_;refine qW 2 rfl rfl ?_;refine jH ?_;cases h;exact mM
def gKg:Nat→gG→LB→LB→Int→Option (List Int × Bool)
 | 0,_,_,_,_=>none
 | n+1,f,q,y,x3=>gMs (gKg n) f q y x3 n
theorem hHo:∀(n:Nat)(f:gG)(q:LB)(y:LB)(x3:Int){r:List Int × Bool},gKg n f q y x3=some r→gW Tryz.prog 135 [.d (jX f),.S q,.S y,.I x3] [.sl 1 (yC r.1),.b r.2]:=by
 intro n
 induction n with
 | zero=>intro f q y x3 r h;cases h
 | succ n ih=>intro f q y x3 r h;exact hHn ih f q y x3 h
def mU(y:gG)(a1:gU):List gI→(List gI)→Option (List gI)
 | [],f=>(some f)
 | q::xs,f=>bnd (at? y.packages q.package) fun x8=>
bnd (at? x8.instances q.at_) fun x9=>
bnd (cnd (x9.trait==a1.trait) (bnd (gKj x9.head a1.type_) fun aa=>
some aa) (some false)) fun ab=>
(cnd ab (
gd (f.length+[q].length≤4294967296) (
mU y a1 xs (f++[q]))) (
mU y a1 xs f))
def yQ(f:gG)(a1:gU):Option (List gI):=
bnd (gAa f) fun q=>
mU f a1 q []
theorem gOr(a0:gG)(a1:gU){r:List gI}(h:yQ a0 a1=some r):gW Tryz.prog 190 [.d (jX a0),.d (gCq a1)] [.sl 2 (mG r)]:=by
 obtain⟨ac⟩:=a0;obtain⟨ad,⟨f,q,y⟩⟩:=a1;unfold yQ at h;refine SpI Tryz.func190 fun A _=>?_;refine goL ?_;refine qO ?_;refine goL ?_;obtain⟨x1,a9,h⟩:=gK h;refine gX (gD (gK2 _ a9)) ?_;refine noB ?_;refine gB0 6 (fun z5=>?_);refine kQ (fun(y4:Nat)(y2:List gI)(v3:Nat)=>⟨[(2,.ptr 0 0),(3,.ptr 1 0),(5,.sl 2 v3),(6,.L 2 (mG x1)),(7,.N y4)],[bPr ac,bBd ad f q y,.arr 29 2 v3 (mG y2)],Tryz.f190.ntmps⟩) (fun y4 y2 v3=>mU (gG.mk ac) (gU.mk ad (gF.mk f q y)) (x1.drop y4) y2=some r) (fun y4 y2 v3=>x1.length - y4) 0 [] 0 eJ h ?_;rintro y4 y2 v3 h;refine goL ?_;refine kN (fun c6=>?_) (fun c6=>?_)
 ·have aa:=qB c6;obtain⟨x7,ap,au⟩:=drop_at aa;rw [au,mU.eq_2] at h;obtain⟨an,ao⟩:=x7;refine noS ?_;refine kC (gP ?_);refine sZ 1 ?_;refine goW ?_;refine kR (fun _=>gV y4 (vQ ap)) ?_;refine goW ?_;obtain⟨x8,aq,h⟩:=gK h;obtain⟨av,aq⟩:=yY aq;obtain⟨bd,be,bf,bg,bh,bi⟩:=x8;refine kR (fun _=>kY av (mX aq)) ?_;refine goW ?_;refine kR (fun _=>gV y4 (vQ ap)) ?_;refine goW ?_;obtain⟨x9,ar,h⟩:=gK h;obtain⟨aw,ar⟩:=yY ar;obtain⟨ax,ay,⟨ag,ah,ai⟩,a2,a3,a4,⟨aj,ak,al⟩,a5⟩:=x9;refine kR (fun _=>kY aw (gFf ar)) ?_;refine goW ?_;refine jY ?_;refine goL ?_;obtain⟨bb,hb10,h⟩:=gK h;refine kG ⟨[(2,.ptr 0 0),(3,.ptr 1 0),(5,.sl 2 v3),(6,.L 2 (mG x1)),(7,.N y4),(46,.B bb)],[bPr ac,bBd ad f q y,.arr 29 2 v3 (mG y2),bIn ax ay ag ah ai a2 a3 a4 aj ak al a5],Tryz.f190.ntmps⟩ ?_ ?_
  ·refine gqA 40 hb10 (fun bm hb10=>?_);obtain⟨bn,a6,hb10⟩:=gK hb10;refine gX (gD (gYj _ _ a6)) ?_;cases hb10;exact eJ
  refine goC h ?_ ?_<;>intro bo h
  ·refine goL ?_;refine gX (gV y4 (vQ ap)) ?_;refine uN (u:=(.st [.i .i64 an,.i .i64 ao])) ?_;obtain⟨bc,h⟩:=mI h;refine vR bc ?_;refine goL ?_;refine gX (jK y4 (by omega)) ?_;exact⟨(y4+1),(y2++[(gI.mk an ao)]),(v3+1),h,by omega,eJ⟩
  ·refine goS ?_;refine gX (jK y4 (by omega)) ?_;exact⟨(y4+1),y2,v3,h,by omega,eJ⟩
 ·have aa:=qC c6;rw [gT aa,mU.eq_1] at h;refine goX ?_;refine jS 2 rfl rfl ?_;refine jH ?_;cases h;exact mM
def gDz(f:gF):Option (Bool):=
bnd (wV f) fun q=>
bnd (cnd ((q.length:Int)==0) (bnd (wT 5000 f) fun y=>
some (!y)) (some false)) fun b2=>
(some b2)
theorem hDx(a0:gF){r:Bool}(h:gDz a0=some r):gW Tryz.prog 191 [.d (kT a0)] [.b r]:=by
 obtain⟨f,q,y⟩:=a0;unfold gDz at h;refine SpI Tryz.func191 fun A _=>?_;refine goL ?_;obtain⟨x1,ab,h⟩:=gK h;refine gX (gD (gCw _ ab)) ?_;obtain⟨b2,hb2,h⟩:=gK h;refine kG ⟨[(2,.B b2)],[bTy f q y],Tryz.f191.ntmps⟩ ?_ ?_
 ·refine gqA 7 hb2 (fun c3 hb2=>?_);obtain⟨x4,ac,hb2⟩:=gK hb2;refine gX (gD (gJ0 _ _ ac)) ?_;cases hb2;exact eJ
 exact goR h
def gFc(q:gG)(a1:gF):Int:=
lt_ (cnd (a1.kind != 2) (true) (gKa a1.name)) fun y=>
(cnd y (-1) (
lt_ (wQ q a1.name) fun f=>
cnd (!f.2.2) (-1) (
f.2.1)))
theorem gQb(a0:gG)(a1:gF):gW Tryz.prog 159 [.d (jX a0),.d (kT a1)] [.i .i64 (gFc a0 a1)]:=by
 obtain⟨r,h⟩:∃r,gFc a0 a1=r:=⟨_,rfl⟩
 rw [h];obtain⟨q⟩:=a0;obtain⟨y,f,aa⟩:=a1;unfold gFc at h;refine SpI Tryz.func159 fun A _=>?_;refine goL ?_;obtain⟨b1,hb1,h⟩:=pI h;refine kG ⟨[(2,.ptr 0 0),(3,.ptr 1 0),(15,.B b1)],[bPr q,bTy y f aa],Tryz.f159.ntmps⟩ ?_ ?_
 ·refine gqO 11 hb1 (fun c2 hb1=>?_);refine gX (gD (gRc f)) ?_;cases hb1;exact eJ
 refine goC h ?_ ?_<;>intro c3 h
 ·refine goL ?_;refine jH ?_;subst h;exact mM
 ·refine goS ?_;obtain⟨⟨⟨ac,ad,ae⟩,ai,aj⟩,ag,h⟩:=pI h;have sx4:=gNd (gG.mk q) f;rw [ag] at sx4;refine gX (gD (sx4)) ?_;refine kN (fun c5=>?_) (fun c5=>?_)
  ·replace h:=jU c5 h;refine goL ?_;refine jH ?_;subst h;exact mM
  ·replace h:=jV c5 h;refine goS ?_;refine jH ?_;subst h;exact mM
def zH(f:gU)(a1:gF):LS→Option (Bool)
 | []=>(some (decide ((tsz f.type_) < (tsz a1))))
 | q::xs=>bnd (zD 5000 f.type_ q) fun y=>
bnd (zD 5000 a1 q) fun x7=>
(cnd (decide (y > x7)) (some false) (
zH f a1 xs ))
def gH2(f:gU)(a1:gF):Option (Bool):=
bnd (wV f.type_) fun q=>
zH f a1 q
theorem gSw(a0:gU)(a1:gF){r:Bool}(h:gH2 a0 a1=some r):gW Tryz.prog 160 [.d (gCq a0),.d (kT a1)] [.b r]:=by
 obtain⟨ag,⟨f,q,y⟩⟩:=a0;obtain⟨ab,ac,ad⟩:=a1;unfold gH2 at h;refine SpI Tryz.func160 fun A _=>?_;refine goL ?_;obtain⟨x1,al,h⟩:=gK h;refine gX (gD (gCw _ al)) ?_;refine noB ?_;refine gB0 5 (fun z3=>?_);refine kZ (fun(y2:Nat)=>⟨[(2,.ptr 0 0),(3,.ptr 1 0),(5,.L 1 (kD x1)),(6,.N y2)],[bBd ag f q y,bTy ab ac ad],Tryz.f160.ntmps⟩) (fun y2=>zH (gU.mk ag (gF.mk f q y)) (gF.mk ab ac ad) (x1.drop y2)  =some r) (fun y2=>x1.length - y2) 0 eJ h ?_;rintro y2 h;refine goL ?_;refine kN (fun c4=>?_) (fun c4=>?_)
 ·have aa:=qB c4;obtain⟨x5,ah,ai⟩:=drop_at aa;rw [ai,zH.eq_2] at h;refine noS ?_;refine kC (gP ?_);refine goL ?_;refine wC (gV y2 (gN4 ah)) ?_;refine goL ?_;obtain⟨x6,an,h⟩:=gK h;refine wC (gD (gEv _ _ _ an)) ?_;refine goL ?_;refine wC (gV y2 (gN4 ah)) ?_;refine goL ?_;obtain⟨x7,ao,h⟩:=gK h;refine wC (gD (gEv _ _ _ ao)) ?_;refine goC h ?_ ?_<;>intro c8 h
  ·exact goR h
  ·refine goS ?_;refine gX (jK y2 (by omega)) ?_;exact⟨(y2+1),h,by omega,eJ⟩
 ·have aa:=qC c4;rw [gT aa,zH.eq_1] at h;refine goX ?_;refine wC (gD (gCi (gF.mk f q y))) ?_;refine goL ?_;refine wC (gD (gCi (gF.mk ab ac ad))) ?_;exact goR h
def gJh:LB→Option (Bool)
 | []=>(some true)
 | f::xs=>lt_ (cnd (decide ((f.toNat:Int) < 48)) (true) (decide ((f.toNat:Int) > 57))) fun q=>
(cnd q (some false) (
gJh xs ))
def gMt(f:gF):Option (Bool):=
bnd (cnd (f.kind != 1) (some true) (cnd (decide ((f.name.length:Int) < 2)) (some true) (bnd (at? f.name 0) fun q=>
(cnd ((q.toNat:Int) != 63) (some true) (bnd (at? f.name 1) fun y=>
cnd ((y.toNat:Int)==48) (some (decide ((f.name.length:Int) > 2))) (some false)))))) fun b1=>
(cnd b1 (some false) (
gJh (f.name.drop 1) ))
theorem gRq(a0:gF){r:Bool}(h:gMt a0=some r):gW Tryz.prog 180 [.d (kT a0)] [.b r]:=by
 obtain⟨y,f,aa⟩:=a0;unfold gMt at h;refine SpI Tryz.func180 fun A _=>?_;refine goL ?_;obtain⟨b1,hb1,h⟩:=gK h;refine kG ⟨[(1,.ptr 0 0),(3,.I (f.length:Int)),(30,.B b1)],[bTy y f aa],Tryz.f180.ntmps⟩ ?_ ?_
 ·refine gqO 11 hb1 (fun c2 hb1=>?_);refine gqO 15 hb1 (fun c3 hb1=>?_);obtain⟨x4,ad,hb1⟩:=gK hb1;obtain⟨ai,ad⟩:=yY ad;refine gX (gO3 ai ad) ?_;refine gqO 21 hb1 (fun c5 hb1=>?_);obtain⟨x6,ae,hb1⟩:=gK hb1;obtain⟨aj,ae⟩:=yY ae;refine gX (gO3 aj ae) ?_;exact gqZ 26 hb1
 refine goC h ?_ ?_<;>intro c8 h
 ·exact goR h
 ·refine goS ?_;refine noB ?_;refine hWy 0 1 (fun an=>?_);refine kZ (fun(y9:Nat)=>⟨[(1,.ptr 0 0),(3,.I (f.length:Int)),(4,.N y9)],[bTy y f aa],Tryz.f180.ntmps⟩) (fun y9=>gJh (f.drop y9)  =some r) (fun y9=>f.length - y9) 1 eJ h ?_;rintro y9 h;refine goL ?_;refine kN (fun ag=>?_) (fun ag=>?_)
  ·have q:=hWo ag;obtain⟨ao,ac,ah⟩:=drop_at q;rw [ah,gJh.eq_2] at h;refine noS ?_;refine kC (gP ?_);refine goL ?_;refine gX (gLb y9 ac) ?_;obtain⟨al,hb13,h⟩:=pI h;refine kG ⟨[(1,.ptr 0 0),(3,.I (f.length:Int)),(4,.N y9),(47,.B al)],[bTy y f aa],Tryz.f180.ntmps⟩ ?_ ?_
   ·refine gqO 41 hb13 (fun ap hb13=>?_);refine gX (gLb y9 ac) ?_;cases hb13;exact eJ
   refine goC h ?_ ?_<;>intro aq h
   ·exact goR h
   ·refine goS ?_;refine gX (jK y9 (by omega)) ?_;exact⟨(y9+1),h,by omega,eJ⟩
  ·have q:=hWp ag;rw [gT q,gJh.eq_1] at h;refine goX ?_;refine jH ?_;cases h;exact mM
def gG8(f:(List gM)→gF→Option (Bool))(q:List gM):List gF→Option (Bool)
 | []=>(some false)
 | y::xs=>bnd (f q y) fun x9=>
(cnd x9 (some true) (
gG8 f q xs ))
def gG9(f:(List gM)→gF→Option (Bool))(a0:List gM):List gF→Option (Bool)
 | []=>(some false)
 | q::xs=>bnd (f a0 q) fun y=>
(cnd y (some true) (
gG9 f a0 xs ))
def gSx(f:(List gM)→gF→Option (Bool))(q:List gM)(a1:gF):Option (Bool):=
bnd (gMt a1) fun y=>
(cnd y (
bnd (gLk q a1.name) fun x3=>
cnd x3.2 (some true) (
gG8 f q a1.args )) (
gG9 f q a1.args ))
theorem hHp{f:(List gM)→gF→Option (Bool)}(q:∀(x0:List gM)(x1:gF){r:Bool},f x0 x1=some r→gW Tryz.prog 238 [.L 4 (jM x0),.d (kT x1)] [.b r])(a0:List gM)(a1:gF){r:Bool}(h:gSx f a0 a1=some r):gW Tryz.prog 238 [.L 4 (jM a0),.d (kT a1)] [.b r]:=by
 obtain⟨aj,ad,y⟩:=a1;unfold gSx at h;refine SpI Tryz.func238 fun A _=>?_;refine goL ?_;obtain⟨x1,av,h⟩:=gK h;refine gX (gD (gRq _ av)) ?_;refine kN (fun c2=>?_) (fun c2=>?_)
 ·replace h:=jU c2 h;refine goL ?_;obtain⟨⟨⟨ae,ag,ah⟩,ba⟩,ax,h⟩:=gK h;refine gX (gD ((gXk a0 ad ax).p)) ?_;refine kN (fun c4=>?_) (fun c4=>?_)
  ·replace h:=jU c4 h;exact goR h
  ·replace h:=jV c4 h;refine goS ?_;refine noB ?_;refine pG 0 2 (fun z6=>?_);refine kZ (fun(y5:Nat)=>⟨[(0,.L 4 (jM a0)),(3,.ptr 0 0),(7,.N y5)],[bTy aj ad y,bTy ae ag ah],Tryz.f238.ntmps⟩) (fun y5=>gG8 f a0 (y.drop y5)  =some r) (fun y5=>y.length - y5) 0 eJ h ?_;rintro y5 h;refine goL ?_;refine kN (fun c7=>?_) (fun c7=>?_)
   ·have ac:=qB c7;obtain⟨x8,a3,ap⟩:=drop_at ac;rw [ap,gG8.eq_2] at h;obtain⟨bb,bc,bd⟩:=x8;refine noS ?_;refine kC (gP ?_);refine goL ?_;refine gX (gV y5 (gAw a3)) ?_;obtain⟨x9,a4,h⟩:=gK h;refine gX (gD (q _ _ a4)) ?_;refine kN (fun al=>?_) (fun al=>?_)
    ·replace h:=jU al h;exact goR h
    ·replace h:=jV al h;refine goS ?_;refine gX (jK y5 (by omega)) ?_;exact⟨(y5+1),h,by omega,eJ⟩
   ·have ac:=qC c7;rw [gT ac,gG8.eq_1] at h;refine goX ?_;refine jH ?_;cases h;exact mM
 ·replace h:=jV c2 h;refine goS ?_;refine noB ?_;refine pG 0 2 (fun bf=>?_);refine kZ (fun(aa:Nat)=>⟨[(0,.L 4 (jM a0)),(3,.ptr 0 0),(7,.N aa)],[bTy aj ad y],Tryz.f238.ntmps⟩) (fun aa=>gG9 f a0 (y.drop aa)  =some r) (fun aa=>y.length - aa) 0 eJ h ?_;rintro aa h;refine goL ?_;refine kN (fun am=>?_) (fun am=>?_)
  ·have ab:=qB am;obtain⟨a5,aq,an⟩:=drop_at ab;rw [an,gG9.eq_2] at h;obtain⟨a6,a7,a8⟩:=a5;refine noS ?_;refine kC (gP ?_);refine goL ?_;refine gX (gV aa (gAw aq)) ?_;obtain⟨bg,ar,h⟩:=gK h;refine gX (gD (q _ _ ar)) ?_;refine kN (fun ao=>?_) (fun ao=>?_)
   ·replace h:=jU ao h;exact goR h
   ·replace h:=jV ao h;refine goS ?_;refine gX (jK aa (by omega)) ?_;exact⟨(aa+1),h,by omega,eJ⟩
  ·have ab:=qC am;rw [gT ab,gG9.eq_1] at h;refine goX ?_;refine jH ?_;cases h;exact mM
def gSy:Nat→(List gM)→gF→Option (Bool)
 | 0,_,_=>none
 | n+1,f,q=>gSx (gSy n) f q
theorem hHq:∀(n:Nat)(f:List gM)(q:gF){r:Bool},gSy n f q=some r→gW Tryz.prog 238 [.L 4 (jM f),.d (kT q)] [.b r]:=by
 intro n
 induction n with
 | zero=>intro f q r h;cases h
 | succ n ih=>intro f q r h;exact hHp ih f q h
def gFd(a1:gF)(a2:List gF):LS→Nat→(List jT)→Option (List jT)
 | [],y,y1=>(some y1)
 | x6::xs,y,y1=>bnd (cnd (decide ((y:Int) > 0)) (
bnd (at? a2 (IntKind.i64.wrap ((y:Int) - 1))) fun x9=>
some (x9.kind,x9.name,x9.args)) (some (a1.kind,a1.name,a1.args))) fun f=>
gd (tok (gF.mk f.1 f.2.1 f.2.2)) (lt_ (idT (gF.mk f.1 f.2.1 f.2.2)) fun q=>
gd (y1.length+[(jT.mk x6 q)].length≤4294967296) (
gFd a1 a2 xs (y+1) (y1++[(jT.mk x6 q)])))
def gNg(f:LS)(a1:gF)(q:List gF):Option (List jT):=
gFd a1 q f 0 []
theorem gWd(a0:LS)(a1:gF)(a2:List gF){r:List jT}(h:gNg a0 a1 a2=some r):gW Tryz.prog 112 [.L 1 (kD a0),.d (kT a1),.L 3 (jJ a2)] [.sl 4 (mK r)]:=by
 obtain⟨q,y,aa⟩:=a1;unfold gNg at h;refine SpI Tryz.func112 fun A _=>?_;refine goL ?_;refine qO ?_;refine goL ?_;refine noB ?_;refine gB0 0 (fun z4=>?_);refine kQ (fun(y3:Nat)(y1:List jT)(v2:Nat)=>⟨[(0,.L 1 (kD a0)),(2,.L 3 (jJ a2)),(4,.ptr 0 0),(7,.sl 1 v2),(8,.N y3)],[bTy q y aa,.arr 225 4 v2 (mK y1)],Tryz.f112.ntmps⟩) (fun y3 y1 v2=>gFd (gF.mk q y aa) a2 (a0.drop y3) y3 y1=some r) (fun y3 y1 v2=>a0.length - y3) 0 [] 0 eJ h ?_;rintro y3 y1 v2 h;refine goL ?_;refine kN (fun c5=>?_) (fun c5=>?_)
 ·have f:=qB c5;obtain⟨x6,au,ao⟩:=drop_at f;rw [ao,gFd.eq_2] at h;refine noS ?_;refine kC (gP ?_);refine goL ?_;obtain⟨⟨ah,ai,aj⟩,hb7,h⟩:=gK h;refine gHf ⟨[(0,.L 1 (kD a0)),(2,.L 3 (jJ a2)),(4,.ptr 0 0),(7,.sl 1 v2),(8,.N y3),(9,.ptr 2 0)],[bTy q y aa,.arr 225 4 v2 (mK y1),bTy ah ai aj],Tryz.f112.ntmps⟩ ?_ ?_
  ·refine kN (fun c8=>?_) (fun c8=>?_)
   ·replace hb7:=jU c8 hb7;refine goL ?_;refine pX (pR) ?_;obtain⟨x9,al,hb7⟩:=gK hb7;obtain⟨ap,al⟩:=yY al;obtain⟨a3,a4,a5⟩:=x9;refine gX (kY ap (gAw al)) ?_;cases hb7;exact eJ
   ·replace hb7:=jV c8 hb7;refine gCs ?_;cases hb7;exact eJ
  refine gCj ?_;refine dZ 0 ?_;refine goW ?_;refine kR (fun _=>gV y3 (gN4 au)) ?_;refine goW ?_;obtain⟨aw,h⟩:=mI h;obtain⟨⟨ac,ad,ae⟩,aq,h⟩:=pI h;have sx11:=(mR (gF.mk ah ai aj) aw).p;rw [aq] at sx11;refine kR (fun _=>gD (sx11)) ?_;refine goW ?_;refine uK (us:=mK [(jT.mk x6 (gF.mk ac ad ae))]) ?_;obtain⟨ax,h⟩:=mI h;refine uL ax ?_;refine goW ?_;refine jY ?_;refine goL ?_;refine gX (jK y3 (by omega)) ?_;exact⟨(y3+1),(y1++[(jT.mk x6 (gF.mk ac ad ae))]),(v2+1),h,by omega,eJ⟩
 ·have f:=qC c5;rw [gT f,gFd.eq_1] at h;refine goX ?_;refine jS 1 rfl rfl ?_;refine jH ?_;cases h;exact mM
def gFe:List gU→(List gU)→Option (List gU)
 | [],f=>(some f)
 | q::xs,f=>gd (tok q.type_) (lt_ (idT q.type_) fun y=>
gd (f.length+[(gU.mk q.trait y)].length≤4294967296) (
gFe xs (f++[(gU.mk q.trait y)])))
def gNh(f:List gU):Option (List gU):=
gFe f []
theorem gWe(a0:List gU){r:List gU}(h:gNh a0=some r):gW Tryz.prog 115 [.L 4 (kM a0)] [.sl 4 (kM r)]:=by
 unfold gNh at h;refine SpI Tryz.func115 fun A _=>?_;refine goL ?_;refine qO ?_;refine goL ?_;refine noB ?_;refine gB0 0 (fun z4=>?_);refine kQ (fun(q:Nat)(y1:List gU)(v2:Nat)=>⟨[(0,.L 4 (kM a0)),(3,.sl 0 v2),(4,.N q)],[.arr 110 4 v2 (kM y1)],Tryz.f115.ntmps⟩) (fun q y1 v2=>gFe (a0.drop q) y1=some r) (fun q y1 v2=>a0.length - q) 0 [] 0 eJ h ?_;rintro q y1 v2 h;refine goL ?_;refine kN (fun c5=>?_) (fun c5=>?_)
 ·have f:=qB c5;obtain⟨x6,ak,al⟩:=drop_at f;rw [al,gFe.eq_2] at h;obtain⟨ac,⟨y,aa,ab⟩⟩:=x6;refine noS ?_;refine kC (gP ?_);refine dZ 0 ?_;refine goW ?_;refine kR (fun _=>gV q (gF3 ak)) ?_;refine goW ?_;refine kR (fun _=>gV q (gF3 ak)) ?_;refine goW ?_;obtain⟨g7,h⟩:=mI h;obtain⟨⟨ad,ae,ag⟩,an,h⟩:=pI h;have sx8:=(mR (gF.mk y aa ab) g7).p;rw [an] at sx8;refine kR (fun _=>gD (sx8)) ?_;refine goW ?_;refine uK (us:=kM [(gU.mk ac (gF.mk ad ae ag))]) ?_;obtain⟨g9,h⟩:=mI h;refine uL g9 ?_;refine goW ?_;refine jY ?_;refine goL ?_;refine gX (jK q (by omega)) ?_;exact⟨(q+1),(y1++[(gU.mk ac (gF.mk ad ae ag))]),(v2+1),h,by omega,eJ⟩
 ·have f:=qC c5;rw [gT f,gFe.eq_1] at h;refine goX ?_;refine jS 0 rfl rfl ?_;refine jH ?_;cases h;exact mM
def gAb(f:gB)(a1:Int):gB:=
(cnd (f.code==0) (gB.mk f.next f.count f.node f.bindings f.equations f.obligations a1 f.node) (
f))
theorem gCn(f:gB)(a1:Int):gW Tryz.prog 121 [.d (jR f),.I a1] [jR (gAb f a1)]:=by
 obtain⟨r,h⟩:∃r,gAb f a1=r:=⟨_,rfl⟩
 rw [h];obtain⟨q,y,aa,ab,ac,ad,ae,ag⟩:=f;unfold gAb at h;refine SpI Tryz.func121 fun A _=>?_;refine goC h ?_ ?_<;>intro c1 h
 ·refine goL ?_;refine jH ?_;subst h;exact mM
 ·refine goS ?_;refine jH ?_;subst h;exact mM
def gBc(y:List jT)(a1:LB):Nat→Int→Option (gF × Bool)
 | 0,f=>none
 | n2+1,f=>(cnd (decide (f≥0)) (
bnd (at? y f) fun q=>
(cnd (q.name==a1) (
gd (tok q.type_) (lt_ (idT q.type_) fun x7=>
some (x7,true))) (
gBc y a1 n2 (IntKind.i64.wrap (f - 1))))) (some ((gF.mk 0 [] []),false)))
def gH3(f:List jT)(a1:LB)(q:Nat):Option (gF × Bool):=
gBc f a1 q (IntKind.i64.wrap ((f.length:Int) - 1))
theorem gSz(a0:List jT)(a1:LB){n0:Nat}{r:gF × Bool}(h:gH3 a0 a1 n0=some r):gW Tryz.prog 228 [.L 4 (mK a0),.S a1] [kT r.1,.b r.2]:=by
 unfold gH3 at h;refine SpI Tryz.func228 fun A _=>?_;refine goL ?_;refine gX (pR) ?_;refine noB ?_;refine gAg (fun(n2:Nat)(y1:Int)=>⟨[(0,.L 4 (mK a0)),(1,.S a1),(4,.ptr 0 0),(6,.I y1)],[.box [.I 0,.S [],.nilsl]],Tryz.f228.ntmps⟩) (fun n2 y1=>gBc a0 a1 n2 y1=some r) (fun n2 y1=>n2) n0 (IntKind.i64.wrap ((a0.length:Int) - 1)) eJ h ?_;rintro n2 y1 h;rcases n2 with _ | n2
 ·cases h
 rw [gBc.eq_2] at h;refine goC h ?_ ?_<;>intro c3 h
 ·refine noS ?_;refine kC (gP ?_);refine goL ?_;obtain⟨x4,f,h⟩:=gK h;obtain⟨ac,f⟩:=yY f;obtain⟨aj,⟨q,y,aa⟩⟩:=x4;refine gX (kY ac (gQf f)) ?_;refine kN (fun c5=>?_) (fun c5=>?_)
  ·replace h:=jU c5 h;refine goL ?_;refine gX (kY ac (gQf f)) ?_;obtain⟨g6,h⟩:=mI h;obtain⟨⟨ak,al,am⟩,ah,h⟩:=pI h;have sx7:=(mR (gF.mk q y aa) g6).p;rw [ah] at sx7;refine pX (gD (sx7)) ?_;exact goR h
  ·replace h:=jV c5 h;refine goS ?_;refine gX (pR) ?_;exact⟨n2,(IntKind.i64.wrap (y1 - 1)),h,Nat.lt_succ_self _,eJ⟩
 ·refine goX ?_;refine uX (jI TBd.h TZ.h rfl (by repeat constructor)) ?_;exact goR h
def gT0(f:List jT)(q:LB):Option (gF × Bool):=gH3 f q 5000
def gPu(a0:gB):Nat→Int→LB→(List gF)→Int→Option (gF)
 | 0,q,y,y5,y6=>none
 | n7+1,q,y,y5,y6=>bnd (cnd (decide (y6 < 60)) (bnd (gSy 5000 a0.bindings (gF.mk q y y5)) fun ad=>
cnd ad (some (decide ((tsz (gF.mk q y y5)) < 4000))) (some false)) (some false)) fun b8=>
(cnd b8 (
gd (bok a0.bindings∧tok (gF.mk q y y5)) (lt_ (apT a0.bindings (gF.mk q y y5)) fun f=>
gPu a0 n7 f.kind f.name f.args (IntKind.i64.wrap (y6+1)))) (some (gF.mk q y y5)))
def hDy(q:gB)(a1:gF)(y:Nat):Option (gF):=
gd (tok a1) (lt_ (idT a1) fun f=>
gPu q y f.kind f.name f.args 0)
theorem gZi(a0:gB)(a1:gF){n0:Nat}{r:gF}(h:hDy a0 a1 n0=some r):gW Tryz.prog 179 [.d (jR a0),.d (kT a1)] [kT r]:=by
 obtain⟨q,y,aa,f,ab,ac,ad,ae⟩:=a0;obtain⟨ao,ap,aq⟩:=a1;unfold hDy at h;refine SpI Tryz.func179 fun A _=>?_;refine goL ?_;obtain⟨g1,h⟩:=mI h;obtain⟨⟨ar,au,av⟩,a2,h⟩:=pI h;have sx2:=(mR (gF.mk ao ap aq) g1).p;rw [a2] at sx2;refine gX (gD (sx2)) ?_;refine noB ?_;refine gMj (fun(n7:Nat)(y3:Int)(y4:LB)(y5:List gF)(y6:Int)=>⟨[(2,.ptr 0 0),(3,.ptr 1 0),(4,.ptr 2 0),(5,.I y6)],[bSt q y aa f ab ac ad ae,bTy y3 y4 y5,.box [.I 0,.S [],.nilsl]],Tryz.f179.ntmps⟩) (fun n7 y3 y4 y5 y6=>gPu (gB.mk q y aa f ab ac ad ae) n7 y3 y4 y5 y6=some r) (fun n7 y3 y4 y5 y6=>n7) n0 ar au av 0 eJ h ?_;rintro n7 y3 y4 y5 y6 h;rcases n7 with _ | n7
 ·cases h
 rw [gPu.eq_2] at h;refine goL ?_;obtain⟨b8,hb8,h⟩:=gK h;refine kG ⟨[(2,.ptr 0 0),(3,.ptr 1 0),(4,.ptr 2 0),(5,.I y6),(20,.B b8)],[bSt q y aa f ab ac ad ae,bTy y3 y4 y5,.box [.I 0,.S [],.nilsl]],Tryz.f179.ntmps⟩ ?_ ?_
 ·refine gqA 10 hb8 (fun c9 hb8=>?_);obtain⟨a7,aw,hb8⟩:=gK hb8;refine gX (gD (hHq _ _ _ aw)) ?_;refine gqA 16 hb8 (fun a8 hb8=>?_);refine gX (gD (gCi (gF.mk y3 y4 y5))) ?_;cases hb8;exact eJ
 refine goC h ?_ ?_<;>intro a9 h
 ·refine noS ?_;refine kC (gP ?_);refine goL ?_;obtain⟨a3,h⟩:=mI h;obtain⟨⟨al,am,an⟩,ax,h⟩:=pI h;have sx14:=(gDi f (gF.mk y3 y4 y5) a3).p;rw [ax] at sx14;refine gX (gD (sx14)) ?_;refine gX (pR) ?_;exact⟨n7,al,am,an,(IntKind.i64.wrap (y6+1)),h,Nat.lt_succ_self _,eJ⟩
 ·refine goX ?_;refine jH ?_;cases h;exact mM
def hFr(f:gB)(q:gF):Option (gF):=hDy f q 5000
def vI(f:gF→Option (Bool))(q:gF):List gF→Option (Bool)
 | []=>bnd (gMt q) fun y=>
(some y)
 | x4::xs=>bnd (f x4) fun x5=>
(cnd x5 (some true) (
vI f q xs ))
def gCe(f:gF→Option (Bool))(q:gF):Option (Bool):=
vI f q q.args
theorem gNi{f:gF→Option (Bool)}(q:∀(x0:gF){r:Bool},f x0=some r→gW Tryz.prog 183 [.d (kT x0)] [.b r])(a0:gF){r:Bool}(h:gCe f a0=some r):gW Tryz.prog 183 [.d (kT a0)] [.b r]:=by
 obtain⟨ac,ad,aa⟩:=a0;unfold gCe at h;refine SpI Tryz.func183 fun A _=>?_;refine goL ?_;refine noB ?_;refine pG 0 2 (fun z2=>?_);refine kZ (fun(y1:Nat)=>⟨[(1,.ptr 0 0),(3,.N y1)],[bTy ac ad aa],Tryz.f183.ntmps⟩) (fun y1=>vI f (gF.mk ac ad aa) (aa.drop y1)  =some r) (fun y1=>aa.length - y1) 0 eJ h ?_;rintro y1 h;refine goL ?_;refine kN (fun c3=>?_) (fun c3=>?_)
 ·have y:=qB c3;obtain⟨x4,ai,ae⟩:=drop_at y;rw [ae,vI.eq_2] at h;obtain⟨an,ao,ap⟩:=x4;refine noS ?_;refine kC (gP ?_);refine goL ?_;refine gX (gV y1 (gAw ai)) ?_;obtain⟨x5,aj,h⟩:=gK h;refine gX (gD (q _ aj)) ?_;refine kN (fun c6=>?_) (fun c6=>?_)
  ·replace h:=jU c6 h;exact goR h
  ·replace h:=jV c6 h;refine goS ?_;refine gX (jK y1 (by omega)) ?_;exact⟨(y1+1),h,by omega,eJ⟩
 ·have y:=qC c3;rw [gT y,vI.eq_1] at h;refine goX ?_;obtain⟨x7,al,h⟩:=gK h;refine pX (gD (gRq _ al)) ?_;exact goR h
def qI:Nat→gF→Option (Bool)
 | 0,_=>none
 | n+1,f=>gCe (qI n) f
theorem vH:∀(n:Nat)(f:gF){r:Bool},qI n f=some r→gW Tryz.prog 183 [.d (kT f)] [.b r]:=by
 intro n
 induction n with
 | zero=>intro f r h;cases h
 | succ n ih=>intro f r h;exact gNi ih f h
def gRr(f:gB)(a1:Int)(q:gU):Option (gB × gN):=
(cnd (f.code != 0) (some (f,(gN.mk 0 0 (gI.mk 0 0) []))) (
gd (([]:List jZ).length+f.obligations.length≤4294967296) (
gd (([]++f.obligations).length+[(jZ.mk q a1)].length≤4294967296) (some ((gB.mk f.next f.count f.node f.bindings f.equations (([]++f.obligations)++[(jZ.mk q a1)]) f.code f.at_),(gN.mk 0 (f.obligations.length:Int) (gI.mk 0 0) []))))))
theorem gZj(a0:gB)(a1:Int)(a2:gU){r:gB × gN}(h:gRr a0 a1 a2=some r):gW Tryz.prog 236 [.d (jR a0),.I a1,.d (gCq a2)] [jR r.1,wS r.2]:=by
 obtain⟨ad,ae,ag,ah,ai,aj,ak,al⟩:=a0;obtain⟨aa,⟨f,q,y⟩⟩:=a2;unfold gRr at h;refine SpI Tryz.func236 fun A _=>?_;refine goC h ?_ ?_<;>intro c1 h
 ·refine goL ?_;refine uX (jI TBd.h TZ.h rfl (by repeat constructor)) ?_;exact goR h
 ·refine noS ?_;refine gCj ?_;refine sZ 1 ?_;refine goW ?_;refine gTb ?_;refine goW ?_;obtain⟨g2,h⟩:=mI h;refine uL g2 ?_;refine goW ?_;refine uK (us:=uY [(jZ.mk (gU.mk aa (gF.mk f q y)) a1)]) ?_;obtain⟨g3,h⟩:=mI h;refine uL g3 ?_;refine goW ?_;refine jY ?_;refine goL ?_;refine gC1 (jI TBd.h TZ.h rfl (by repeat constructor)) ?_;refine jS 4 rfl rfl ?_;refine jH ?_;cases h;exact mM
def gJi(y:gB)(y1:List gM)(aa:List kK):List jZ→(List jZ)→Option (gB)
 | [],q=>(some (gB.mk y.next y.count y.node y1 aa q y.code y.at_))
 | f::xs,q=>gd (tok f.goal.type_) (lt_ (idT f.goal.type_) fun ab=>
gd (q.length+[(jZ.mk (gU.mk f.goal.trait ab) f.node)].length≤4294967296) (
gJi y y1 aa xs (q++[(jZ.mk (gU.mk f.goal.trait ab) f.node)])))
def gJj(a0:gB)(y1:List gM):List kK→(List kK)→Option (gB)
 | [],q=>gJi a0 y1 q a0.obligations []
 | f::xs,q=>gd (tok f.a) (lt_ (idT f.a) fun y=>
gd (tok f.b) (lt_ (idT f.b) fun aa=>
gd (q.length+[(kK.mk y aa f.node)].length≤4294967296) (
gJj a0 y1 xs (q++[(kK.mk y aa f.node)]))))
def gJk(y:gB):List gM→(List gM)→Option (gB)
 | [],f=>gJj y f y.equations []
 | q::xs,f=>gd (tok q.type_) (lt_ (idT q.type_) fun x8=>
gd (f.length+[(gM.mk q.var_ x8)].length≤4294967296) (
gJk y xs (f++[(gM.mk q.var_ x8)])))
def gWf(f:gB):Option (gB):=
gJk f f.bindings []
theorem hLh(a0:gB){r:gB}(h:gWf a0=some r):gW Tryz.prog 281 [.d (jR a0)] [jR r]:=by
 obtain⟨f,q,y,ac,ad,ae,aa,ab⟩:=a0;unfold gWf at h;refine SpI Tryz.func281 fun A _=>?_;refine goL ?_;refine gC1 (jI TBd.h TZ.h rfl (by repeat constructor)) ?_;refine noB ?_;refine uA 253 4 2 3 rfl rfl (by repeat constructor) (by repeat constructor) (by repeat constructor) (by repeat constructor) ?_;show V _ _ _ _ _;refine pG 0 3 (fun z4=>?_);refine kQ (fun(y3:Nat)(y1:List gM)(v2:Nat)=>⟨[(1,.ptr 0 0),(2,.ptr 1 0),(3,.ptr 2 0),(4,.N y3)],[bSt f q y ac ad ae aa ab,.box [.I 0,.I 0,.I 0,.nilsl,.nilsl,.nilsl,.I 0,.I 0],.box [.I f,.I q,.I y,.sl 3 v2,.nilsl,.nilsl,.I aa,.I ab],.arr 253 4 v2 (jM y1)],Tryz.f281.ntmps⟩) (fun y3 y1 v2=>gJk (gB.mk f q y ac ad ae aa ab) (ac.drop y3) y1=some r) (fun y3 y1 v2=>ac.length - y3) 0 [] 0 eJ h ?_;rintro y3 y1 v2 h;refine goL ?_;refine kN (fun c5=>?_) (fun c5=>?_)
 ·have an:=qB c5;obtain⟨x6,bu,bv⟩:=drop_at an;rw [bv,gJk.eq_2] at h;obtain⟨bl,⟨bi,bj,bk⟩⟩:=x6;refine noS ?_;refine kC (gP ?_);refine dZ 0 ?_;refine goW ?_;refine kR (fun _=>gV y3 (gL1 bu)) ?_;refine goW ?_;refine kR (fun _=>gV y3 (gL1 bu)) ?_;refine goW ?_;obtain⟨g7,h⟩:=mI h;obtain⟨⟨bm,bn,bo⟩,b4,h⟩:=pI h;have sx8:=(mR (gF.mk bi bj bk) g7).p;rw [b4] at sx8;refine kR (fun _=>gD (sx8)) ?_;refine goW ?_;refine uK (us:=jM [(gM.mk bl (gF.mk bm bn bo))]) ?_;obtain⟨g9,h⟩:=mI h;refine uL g9 ?_;refine goW ?_;refine jY ?_;refine goL ?_;refine gX (jK y3 (by omega)) ?_;exact⟨(y3+1),(y1++[(gM.mk bl (gF.mk bm bn bo))]),(v2+1),h,by omega,eJ⟩
 ·have an:=qC c5;rw [gT an,gJk.eq_1] at h;refine goX ?_;refine noB ?_;refine uA 239 7 2 4 rfl rfl (by repeat constructor) (by repeat constructor) (by repeat constructor) (by repeat constructor) ?_;show V _ _ _ _ _;refine pG 0 4 (fun cf=>?_);refine kQ (fun(ag:Nat)(ak:List kK)(al:Nat)=>⟨[(1,.ptr 0 0),(2,.ptr 1 0),(3,.ptr 2 0),(5,.N ag)],[bSt f q y ac ad ae aa ab,.box [.I 0,.I 0,.I 0,.nilsl,.nilsl,.nilsl,.I 0,.I 0],.box [.I f,.I q,.I y,.sl 3 v2,.sl 4 al,.nilsl,.I aa,.I ab],.arr 253 4 v2 (jM y1),.arr 239 7 al (vV ak)],Tryz.f281.ntmps⟩) (fun ag ak al=>gJj (gB.mk f q y ac ad ae aa ab) y1 (ad.drop ag) ak=some r) (fun ag ak al=>ad.length - ag) 0 [] 0 eJ h ?_;rintro ag ak al h;refine goL ?_;refine kN (fun bp=>?_) (fun bp=>?_)
  ·have ah:=qB bp;obtain⟨b5,bw,bq⟩:=drop_at ah;rw [bq,gJj.eq_2] at h;obtain⟨⟨av,aw,ax⟩,⟨ay,a2,a3⟩,a4⟩:=b5;refine noS ?_;refine kC (gP ?_);refine goL ?_;refine pX (gV ag (gJu bw)) ?_;refine gCj ?_;refine dZ 0 ?_;refine goW ?_;obtain⟨b6,h⟩:=mI h;obtain⟨⟨a5,a6,a7⟩,bx,h⟩:=pI h;have sx17:=(mR (gF.mk av aw ax) b6).p;rw [bx] at sx17;refine kR (fun _=>gD (sx17)) ?_;refine goW ?_;obtain⟨b7,h⟩:=mI h;obtain⟨⟨a8,a9,ba⟩,bz,h⟩:=pI h;have sx19:=(mR (gF.mk ay a2 a3) b7).p;rw [bz] at sx19;refine kR (fun _=>gD (sx19)) ?_;refine goW ?_;refine uK (us:=vV [(kK.mk (gF.mk a5 a6 a7) (gF.mk a8 a9 ba) a4)]) ?_;obtain⟨b8,h⟩:=mI h;refine uL b8 ?_;refine goW ?_;refine jY ?_;refine goL ?_;refine gX (jK ag (by omega)) ?_;exact⟨(ag+1),(ak++[(kK.mk (gF.mk a5 a6 a7) (gF.mk a8 a9 ba) a4)]),(al+1),h,by omega,eJ⟩
  ·have ah:=qC bp;rw [gT ah,gJj.eq_1] at h;refine goX ?_;refine noB ?_;refine uA 300 5 2 5 rfl rfl (by repeat constructor) (by repeat constructor) (by repeat constructor) (by repeat constructor) ?_;show V _ _ _ _ _;refine pG 0 5 (fun cg=>?_);refine kQ (fun(ai:Nat)(ar:List jZ)(au:Nat)=>⟨[(1,.ptr 0 0),(2,.ptr 1 0),(3,.ptr 2 0),(7,.N ai)],[bSt f q y ac ad ae aa ab,.box [.I 0,.I 0,.I 0,.nilsl,.nilsl,.nilsl,.I 0,.I 0],.box [.I f,.I q,.I y,.sl 3 v2,.sl 4 al,.sl 5 au,.I aa,.I ab],.arr 253 4 v2 (jM y1),.arr 239 7 al (vV ak),.arr 300 5 au (uY ar)],Tryz.f281.ntmps⟩) (fun ai ar au=>gJi (gB.mk f q y ac ad ae aa ab) y1 ak (ae.drop ai) ar=some r) (fun ai ar au=>ae.length - ai) 0 [] 0 eJ h ?_;rintro ai ar au h;refine goL ?_;refine kN (fun br=>?_) (fun br=>?_)
   ·have aj:=qB br;obtain⟨b9,b0,bt⟩:=drop_at aj;rw [bt,gJi.eq_2] at h;obtain⟨⟨am,⟨ao,ap,aq⟩⟩,bb⟩:=b9;refine noS ?_;refine kC (gP ?_);refine goL ?_;refine pX (gV ai (gD6 b0)) ?_;refine gCj ?_;refine dZ 0 ?_;refine goW ?_;obtain⟨ca,h⟩:=mI h;obtain⟨⟨bc,bd,be⟩,b1,h⟩:=pI h;have sx28:=(mR (gF.mk ao ap aq) ca).p;rw [b1] at sx28;refine kR (fun _=>gD (sx28)) ?_;refine goW ?_;refine uK (us:=uY [(jZ.mk (gU.mk am (gF.mk bc bd be)) bb)]) ?_;obtain⟨cb,h⟩:=mI h;refine uL cb ?_;refine goW ?_;refine jY ?_;refine goL ?_;refine gX (jK ai (by omega)) ?_;exact⟨(ai+1),(ar++[(jZ.mk (gU.mk am (gF.mk bc bd be)) bb)]),(au+1),h,by omega,eJ⟩
   ·have aj:=qC br;rw [gT aj,gJi.eq_1] at h;refine goX ?_;refine jS 3 rfl rfl ?_;refine jS 4 rfl rfl ?_;refine jS 5 rfl rfl ?_;refine jH ?_;cases h;exact mM
def gJl(a1:LB):List mJ→Nat→Int
 | [],f=>(-1)
 | q::xs,f=>(cnd (q.name==a1) (f:Int) (
gJl a1 xs (f+1)))
def gJm(f:jW)(a1:LB):Int:=
gJl a1 f.constructors 0
theorem hLl(a0:jW)(a1:LB):gW Tryz.prog 269 [.d (gAf a0),.S a1] [.i .i64 (gJm a0 a1)]:=by
 obtain⟨r,h⟩:∃r,gJm a0 a1=r:=⟨_,rfl⟩
 rw [h];obtain⟨aa,ab,q⟩:=a0;unfold gJm at h;refine SpI Tryz.func269 fun A _=>?_;refine goL ?_;refine noB ?_;refine pG 0 2 (fun z2=>?_);refine kZ (fun(y:Nat)=>⟨[(1,.S a1),(2,.ptr 0 0),(5,.N y)],[bDa aa ab q],Tryz.f269.ntmps⟩) (fun y=>gJl a1 (q.drop y) y=r) (fun y=>q.length - y) 0 eJ h ?_;rintro y h;refine goL ?_;refine kN (fun c3=>?_) (fun c3=>?_)
 ·have f:=qB c3;obtain⟨x4,ag,ac⟩:=drop_at f;rw [ac,gJl.eq_2] at h;obtain⟨ai,aj⟩:=x4;refine noS ?_;refine kC (gP ?_);refine goL ?_;refine gX (gV y (qA ag)) ?_;refine kN (fun c5=>?_) (fun c5=>?_)
  ·replace h:=jU c5 h;refine goL ?_;refine jH ?_;subst h;exact mM
  ·replace h:=jV c5 h;refine goS ?_;refine gX (jK y (by omega)) ?_;exact⟨(y+1),h,by omega,eJ⟩
 ·have f:=qC c3;rw [gT f,gJl.eq_1] at h;refine goX ?_;refine jH ?_;subst h;exact mM
def gCf(f:Int):Int:=
(cnd (f==0) (
0) (cnd (f==1) (
3) (cnd (f==2) (
4) (
6))))
theorem gQv(f:Int):gW Tryz.prog 185 [.I f] [.i .i64 (gCf f)]:=by
 obtain⟨r,h⟩:∃r,gCf f=r:=⟨_,rfl⟩
 rw [h];unfold gCf at h;refine SpI Tryz.func185 fun A _=>?_;refine goL ?_;refine gP ?_;refine goC h ?_ ?_<;>intro q h
 ·refine goL ?_;refine jH ?_;subst h;exact mM
 ·refine goC h ?_ ?_<;>intro y h
  ·refine goL ?_;refine jH ?_;subst h;exact mM
  ·refine goC h ?_ ?_<;>intro c3 h
   ·refine goL ?_;refine jH ?_;subst h;exact mM
   ·refine goS ?_;refine jH ?_;subst h;exact mM
def gPv(f:LB)(a1:gF):Option (gF):=
gd (tok a1) (lt_ (idT a1) fun q=>
some (gF.mk 3 f [q]))
theorem hFs(a0:LB)(a1:gF){r:gF}(h:gPv a0 a1=some r):gW Tryz.prog 88 [.S a0,.d (kT a1)] [kT r]:=by
 obtain⟨f,q,y⟩:=a1;unfold gPv at h;refine SpI Tryz.func88 fun A _=>?_;refine goL ?_;obtain⟨g1,h⟩:=mI h;obtain⟨⟨aa,ab,ac⟩,ad,h⟩:=pI h;have sx2:=(mR (gF.mk f q y) g1).p;rw [ad] at sx2;refine pX (gD (sx2)) ?_;refine uN (u:=(.st [.i .i64 aa,.s ab,.sl 3 (jJ ac)])) ?_;refine gC1 (jI TBd.h TZ.h rfl (by repeat constructor)) ?_;refine jS 2 rfl rfl ?_;refine jH ?_;cases h;exact mM
def gAc(f:gG)(a1:gI):Option (jF × Bool):=
bnd (cnd (decide (a1.package < 0)) (some true) (cnd (decide (a1.package≥(f.packages.length:Int))) (some true) (cnd (decide (a1.at_ < 0)) (some true) (bnd (at? f.packages a1.package) fun q=>
some (decide (a1.at_≥(q.instances.length:Int))))))) fun y=>
(cnd y (some ((jF.mk [] [] (gF.mk 0 [] []) [] false false (gF.mk 0 [] []) []),false)) (
bnd (at? f.packages a1.package) fun x7=>
bnd (at? x7.instances a1.at_) fun x8=>
some (x8,true)))
theorem gQw(a0:gG)(a1:gI){r:jF × Bool}(h:gAc a0 a1=some r):gW Tryz.prog 14 [.d (jX a0),.d (qQ a1)] [vY r.1,.b r.2]:=by
 obtain⟨aa⟩:=a0;obtain⟨ab,ac⟩:=a1;unfold gAc at h;refine SpI Tryz.func14 fun A _=>?_;refine gCj ?_;obtain⟨b1,hb1,h⟩:=gK h;refine qN (P:=Tryz.prog) Mix.h ⟨[(2,.ptr 0 0),(3,.ptr 1 0),(4,.ptr 2 0),(34,.B b1)],[bPr aa,.box [.I ab,.I ac],.box [.S [],.nilsl,.I 0,.S [],.nilsl,.nilsl,.B false,.B false,.I 0,.S [],.nilsl,.nilsl]],Tryz.f14.ntmps⟩ (by kernel_rfl) ?_ ?_
 ·refine goL ?_;refine qE 9 (fun c2=>?_) (fun c2=>?_)
  ·replace hb1:=jU c2 hb1;refine goL ?_;cases hb1;exact eJ
  ·replace hb1:=jV c2 hb1;refine goL ?_;refine qE 17 (fun c3=>?_) (fun c3=>?_)
   ·replace hb1:=jU c3 hb1;refine goL ?_;cases hb1;exact eJ
   ·replace hb1:=jV c3 hb1;refine goL ?_;refine qE 22 (fun c4=>?_) (fun c4=>?_)
    ·replace hb1:=jU c4 hb1;refine goL ?_;cases hb1;exact eJ
    ·replace hb1:=jV c4 hb1;refine goL ?_;obtain⟨x5,f,hb1⟩:=gK hb1;obtain⟨ad,f⟩:=yY f;obtain⟨ar,au,av,aw,ax,ay⟩:=x5;refine wN (kY ad (mX f)) ?_;refine goL ?_;cases hb1;exact eJ
 refine goC h ?_ ?_<;>intro c6 h
 ·refine goL ?_;refine uX (jI TBd.h TZ.h rfl (by repeat constructor)) ?_;exact goR h
 ·refine noS ?_;refine sZ 0 ?_;refine goW ?_;obtain⟨x7,q,h⟩:=gK h;obtain⟨ae,q⟩:=yY q;obtain⟨a2,a3,a4,a5,a6,a7⟩:=x7;refine kR (fun _=>kY ae (mX q)) ?_;refine goW ?_;obtain⟨x8,y,h⟩:=gK h;obtain⟨ag,y⟩:=yY y;obtain⟨a8,a9,⟨ah,ai,aj⟩,ba,bb,bc,⟨ak,al,am⟩,bd⟩:=x8;refine kR (fun _=>kY ag (gFf y)) ?_;refine goW ?_;refine jY ?_;exact goR h
def uV(a1:LB)(q:Nat)(f:mE × Int × Bool):List mE→mE × Int × Bool
 | []=>f
 | y::xs=>(cnd (y.name==a1) (y,(q:Int),true) (
uV a1 q f xs ))
def qM(a1:LB):List jL→Nat→mE × Int × Bool
 | [],f=>((mE.mk [] [] false false []),0,false)
 | q::xs,f=>uV a1 f (qM a1 xs (f+1)) q.traits
def mY(f:gG)(a1:LB):mE × Int × Bool:=
qM a1 f.packages 0
theorem gT1(a0:gG)(a1:LB):gW Tryz.prog 18 [.d (jX a0),.S a1] [gF2 (mY a0 a1).1,.i .i64 (mY a0 a1).2.1,.b (mY a0 a1).2.2]:=by
 obtain⟨r,h⟩:∃r,mY a0 a1=r:=⟨_,rfl⟩
 rw [h];obtain⟨f⟩:=a0;unfold mY at h;refine SpI Tryz.func18 fun A _=>?_;refine goL ?_;refine noB ?_;refine gB0 12 (fun z2=>?_);refine kZ (fun(y:Nat)=>⟨[(1,.S a1),(4,.ptr 1 0),(12,.L 6 (gAx f)),(13,.I (f.length:Int)),(14,.N y)],[bPr f,.box [.S [],.nilsl,.B false,.B false,.nilsl]],Tryz.f18.ntmps⟩) (fun y=>qM a1 (f.drop y) y=r) (fun y=>f.length - y) 0 eJ h ?_;rintro y h;refine goL ?_;refine kC (kN (fun c3=>?_) (fun c3=>?_))
 ·have aa:=qB c3;obtain⟨x4,an,ae⟩:=drop_at aa;rw [ae,qM.eq_2] at h;obtain⟨ag,ah,q,ai,aj,ak⟩:=x4;refine noS ?_;refine kC (gP ?_);refine goL ?_;refine gX (gV y (mX an)) ?_;refine noB ?_;refine gB0 20 (fun z6=>?_);refine kZ (fun(y5:Nat)=>⟨[(1,.S a1),(4,.ptr 1 0),(7,.N y),(12,.L 6 (gAx f)),(13,.I (f.length:Int)),(14,.N y),(20,.L 5 (gFr q)),(21,.I (q.length:Int)),(22,.N y5)],[bPr f,.box [.S [],.nilsl,.B false,.B false,.nilsl],bPk ag ah q ai aj ak],Tryz.f18.ntmps⟩) (fun y5=>uV a1 y (qM a1 (f.drop (y+1)) (y+1)) (q.drop y5)  =r) (fun y5=>q.length - y5) 0 eJ h ?_;rintro y5 h;refine goL ?_;refine kC (kN (fun c7=>?_) (fun c7=>?_))
  ·have ab:=qB c7;obtain⟨x8,ap,al⟩:=drop_at ab;rw [al,uV.eq_2] at h;obtain⟨ar,au,av,aw,ax⟩:=x8;refine noS ?_;refine kC (gP ?_);refine goL ?_;refine gX (gV y5 (gLc ap)) ?_;refine kN (fun c9=>?_) (fun c9=>?_)
   ·replace h:=jU c9 h;refine goL ?_;refine jH ?_;subst h;exact mM
   ·replace h:=jV c9 h;refine goS ?_;refine gX (jK y5 (by omega)) ?_;exact⟨(y5+1),h,by omega,eJ⟩
  ·have ab:=qC c7;rw [gT ab,uV.eq_1] at h;refine goX ?_;refine gX (jK y (by omega)) ?_;exact⟨(y+1),h,by omega,eJ⟩
 ·have aa:=qC c3;rw [gT aa,qM.eq_1] at h;refine goX ?_;refine gC1 (jI TBd.h TZ.h rfl (by repeat constructor)) ?_;refine jH ?_;subst h;exact mM
end Go.Proofs.YtfjncckelekpiaaGreat
