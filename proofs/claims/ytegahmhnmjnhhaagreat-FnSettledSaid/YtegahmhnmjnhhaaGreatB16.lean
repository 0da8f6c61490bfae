import Derived.Test.YtegahmhnmjnhhaaGreatB15
set_option maxHeartbeats 4000000
set_option linter.unusedVariables false
set_option linter.unusedSimpArgs false
set_option linter.unusedSectionVars false
namespace Go.Proofs.YtegahmhnmjnhhaaGreat
open Go Go.Eng
attribute [local irreducible] V VO VQ VY Quiet QR jC kT Rng mU mV mI
def yN(a1:(List UInt8)→Option Bool):List (List UInt8)→Nat→Option (Int)
 | [],c=>(some (-1))
 | f::xs,c=>bnd (a1 f) fun h=>
(cnd h (
(some (c:Int))) (
yN a1 xs (c+1)))
def gH7(c:List (List UInt8))(a1:(List UInt8)→Option Bool):Option (Int):=
yN a1 c 0
theorem gW6(y:List (List UInt8)){a1f:Nat}{a1c:List SV}{a1:(List UInt8)→Option Bool}(a1_lt:∀n,SV.lts n a1c=true)(ha1:∀(x0:List UInt8) (r:Bool),a1 x0=some r→jC Tryz.prog a1f ([.S x0]++a1c) [.b r]){r:Int}(h:gH7 y a1=some r):jC Tryz.prog 88 [.L 1 (jP y),.fn a1f a1c] [.i .i64 r]:=by
 unfold gH7 at h;refine SpI Tryz.func88 fun A _=>?_;refine goL ?_;refine noB ?_;refine gBx 0 (fun z2=>?_);refine mQ (fun(f:Nat)=>⟨[(0,.L 1 (jP y)),(1,.fn a1f a1c),(7,.I (y.length:Int)),(8,.N f)],[],Tryz.f88.ntmps⟩) (fun f=>yN a1 (y.drop f) f=some r) (fun f=>y.length - f) 0 ⟨rfl,⟨⟨rfl,rfl⟩,⟨rfl,a1_lt _⟩,⟨rfl,rfl⟩,⟨rfl,rfl⟩,trivial⟩,⟨[],rfl⟩,rfl⟩ h ?_;rintro f h;refine goL ?_;refine jW (kX (fun c3=>?_) (fun c3=>?_))
 ·have c:=uR c3;obtain⟨x4,ac,aa⟩:=drop_at c;rw [aa,yN.eq_2] at h;refine noS ?_;refine jW (jE ?_);refine goL ?_;refine jL (jM f (gQq ac)) ?_;obtain⟨x5,ad,h⟩:=gP h;refine jL (gN9 (ha1 _ _ ad) (a1_lt 0)) ?_;refine kX (fun c6=>?_) (fun c6=>?_)
  ·replace h:=kD c6 h;exact goR h
  ·replace h:=kE c6 h;refine goS ?_;refine jL (jR f (by omega)) ?_;exact⟨(f+1),h,by omega,⟨rfl,⟨⟨rfl,rfl⟩,⟨rfl,a1_lt _⟩,⟨rfl,rfl⟩,⟨rfl,rfl⟩,trivial⟩,⟨_,rfl⟩,rfl⟩⟩
 ·have c:=uS c3;rw [jF c,yN.eq_1] at h;refine goX ?_;refine jK ?_;cases h;exact qA
def gBz(c:List (List UInt8))(a1:(List UInt8)→Option Bool):Option (Bool):=
bnd (gH7 c a1) fun f=>
(some (decide (f≥0)))
theorem gRm(c:List (List UInt8)){a1f:Nat}{a1c:List SV}{a1:(List UInt8)→Option Bool}(a1_lt:∀n,SV.lts n a1c=true)(ha1:∀(y:List UInt8) (r:Bool),a1 y=some r→jC Tryz.prog a1f ([.S y]++a1c) [.b r]){r:Bool}(h:gBz c a1=some r):jC Tryz.prog 63 [.L 1 (jP c),.fn a1f a1c] [.b r]:=by
 unfold gBz at h;refine SpI Tryz.func63 fun A _=>?_;refine goL ?_;obtain⟨x1,f,h⟩:=gP h;refine qI (gF (gW6 c (a1:=a1) a1_lt ha1 f)) ?_;exact goR h
def gT1(c:gB):Option (Bool):=
bnd (gAp c) fun f=>
bnd (gBz f zO) fun h=>
(some h)
theorem hOu(a0:gB){r:Bool}(h:gT1 a0=some r):jC Tryz.prog 52 [.d (jS a0)] [.b r]:=by
 obtain⟨c,f,y⟩:=a0;unfold gT1 at h;refine SpI Tryz.func52 fun A _=>?_;refine goL ?_;obtain⟨x1,ab,h⟩:=gP h;refine qI (gF ((gL3 (gB.mk c f y) ab).p)) ?_;obtain⟨x2,ac,h⟩:=gP h;refine qI (gF (gRm x1 (a1:=zO) (fun _=>rfl) (fun x0 r hr=>gKl x0 hr) ac)) ?_;exact goR h
def gFf(c:gB→Option (Bool))(f:gB):List gB→Option (Bool)
 | []=>bnd (gF2 f) fun h=>
(some h)
 | y::xs=>bnd (c y) fun x5=>
(cnd x5 (
(some true)) (
gFf c f xs ))
def hBp(c:gB→Option (Bool))(f:gB):Option (Bool):=
gFf c f f.args
theorem hTl{c:gB→Option (Bool)}(f:∀(x0:gB) {r:Bool},c x0=some r→jC Tryz.prog 62 [.d (jS x0)] [.b r])(a0:gB){r:Bool}(h:hBp c a0=some r):jC Tryz.prog 62 [.d (jS a0)] [.b r]:=by
 obtain⟨ac,ad,aa⟩:=a0;unfold hBp at h;refine SpI Tryz.func62 fun A _=>?_;refine goL ?_;refine noB ?_;refine wN 0 2 (fun z2=>?_);refine mQ (fun(y1:Nat)=>⟨[(1,.ptr 0 0),(3,.N y1)],[bTy ac ad aa],Tryz.f62.ntmps⟩) (fun y1=>gFf c (gB.mk ac ad aa) (aa.drop y1)  =some r) (fun y1=>aa.length - y1) 0 eJ h ?_;rintro y1 h;refine goL ?_;refine kX (fun c3=>?_) (fun c3=>?_)
 ·have y:=uR c3;obtain⟨x4,ai,ae⟩:=drop_at y;rw [ae,gFf.eq_2] at h;obtain⟨an,ao,ap⟩:=x4;refine noS ?_;refine jW (jE ?_);refine goL ?_;refine jL (jM y1 (zL ai)) ?_;obtain⟨x5,aj,h⟩:=gP h;refine jL (gF (f _ aj)) ?_;refine kX (fun c6=>?_) (fun c6=>?_)
  ·replace h:=kD c6 h;exact goR h
  ·replace h:=kE c6 h;refine goS ?_;refine jL (jR y1 (by omega)) ?_;exact⟨(y1+1),h,by omega,eJ⟩
 ·have y:=uS c3;rw [jF y,gFf.eq_1] at h;refine goX ?_;obtain⟨x7,al,h⟩:=gP h;refine qI (gF (gOt _ al)) ?_;exact goR h
def gT2:Nat→gB→Option (Bool)
 | 0,_=>none
 | n+1,c=>hBp (gT2 n) c
theorem hTm:∀(n:Nat) (c:gB) {r:Bool},gT2 n c=some r→jC Tryz.prog 62 [.d (jS c)] [.b r]:=by
 intro n
 induction n with
 | zero=>intro c r h;cases h
 | succ n ih=>intro c r h;exact hTl ih c h
def gJp(t:gB):Bool:=gW1 isInf t
theorem gKn{p:List UInt8→Option Bool}{q:List UInt8→Bool}(hp:∀x,p x=some (q x)):∀(l:List (List UInt8)) (k:Nat),∃i,yN p l k=some i∧(0≤i↔l.any q=true)
 | [],k=>⟨-1,rfl,by simp⟩
 | x::l,k=>by
   obtain⟨i,c,f⟩:=gKn hp l (k+1);simp only [yN,hp,bnd];cases hq:q x with
   | true=>exact⟨k,by simp [cnd],by simp [hq]⟩
   | false=>exact⟨i,by simpa [cnd] using c,by simpa [hq] using f⟩
theorem gP7{p:List UInt8→Option Bool}{q:List UInt8→Bool}(hp:∀x,p x=some (q x))(l:List (List UInt8)):gBz l p=some (l.any q):=by
 obtain⟨i,f,c⟩:=gKn hp l 0;unfold gBz gH7;rw [f];simp only [bnd,Option.some.injEq];cases h:l.any q with
 | true=>exact decide_eq_true (c.2 h)
 | false=>exact decide_eq_false (fun hi=>by rw [c.1 hi] at h;cases h)
theorem hF9(t:gB)(h:tnd t≤4294967296):gT1 t=some (gJp t):=by
 unfold gT1;rw [gKv t h];simp only [bnd];rw [gP7 gI4,gTj];simp [gJp]
theorem gT3{n:Nat}{t:gB}:∀(xs:List gB),(∀x∈xs,gT2 n x=some (gJp x))→gFf (gT2 n) t xs=some (((t.kind==1) && isInf t.name) || gGc isInf xs)
 | [],_=>by simp only [gFf,gG1,bnd,gGc,Bool.or_false]
 | x::xs,h=>by
   simp only [gFf,gGc];rw [h x (by simp)];simp only [bnd];show cnd (gW1 isInf x) _ _=_;cases hx:gW1 isInf x with
   | true=>simp [cnd]
   | false=>
     rw [gK,gT3 xs (fun y hy=>h y (by simp [hy]))];simp
theorem hGa:∀(n:Nat) (t:gB),tnd t≤n→gT2 n t=some (gJp t)
 | 0,t,h=>by have:=gBq t;omega
 | n+1,⟨k,s,ts⟩,h=>by
   simp only [tnd] at h;rw [gT2.eq_2];unfold hBp;simp only [];rw [gT3 ts (fun x hx=>hGa n x (by have:=zC hx;omega))];rfl
theorem hBq(c:gB):jC Tryz.prog 62 [.d (jS c)] [.b (gJp c)]:=hTm (tnd c) c (hGa _ _ (Nat.le_refl _))
def uA(f:gI)(a1:List gY)(a2:gB):Option (gB × Bool × Bool):=
lt_ ((cnd (a2.kind != 3) (true) ((gJp a2)))) fun h=>
(cnd h (
(some (a2,false,true))) (
bnd (gBy f a1 a2) fun c=>
(cnd (c.2 != 0) (
(some (a2,false,false))) (
(some (c.1,(!(teq c.1 a2)),true))))))
theorem gPr(a0:gI)(a1:List gY)(a2:gB){r:gB × Bool × Bool}(h:uA a0 a1 a2=some r):jC Tryz.prog 61 [.d (kR a0),.L 4 (kV a1),.d (jS a2)] [jS r.1,.b r.2.1,.b r.2.2]:=by
 obtain⟨ad⟩:=a0;obtain⟨aa,ab,ac⟩:=a2;unfold uA at h;refine SpI Tryz.func61 fun A _=>?_;refine goL ?_;obtain⟨b1,hb1,h⟩:=qB h;refine jT ⟨[(1,.L 4 (kV a1)),(3,.ptr 0 0),(5,.ptr 1 0),(6,.ptr 2 0),(17,.B b1)],[bPr ad,bTy aa ab ac,.box [.I 0,.S [],.nilsl]],Tryz.f61.ntmps⟩ ?_ ?_
 ·refine gqO 14 hb1 (fun c2 hb1=>?_);refine jL (gF (hBq (gB.mk aa ab ac))) ?_;cases hb1;exact eJ
 refine goC h ?_ ?_<;>intro c3 h
 ·exact goR h
 ·refine goS ?_;obtain⟨⟨⟨c,f,y⟩,ai⟩,ag,h⟩:=gP h;refine jL (gF (gW5 _ _ _ ag)) ?_;refine kX (fun c5=>?_) (fun c5=>?_)
  ·replace h:=kD c5 h;exact goR h
  ·replace h:=kE c5 h;refine noS ?_;refine qH (P:=Tryz.prog) Mix.h (.q 0 (.q 1 (.q 2 (.q 3 (.q 4 (.h 5 (.q 6 (.q 7 .nil)) .nil)))))) ⟨[(6,.ptr 2 0),(7,.d (.b (!(teq (gB.mk c f y) (gB.mk aa ab ac))))),(8,.B true)],[bPr ad,bTy aa ab ac,bTy c f y,bTy c f y],Tryz.f61.ntmps⟩ (by kernel_rfl) ?_ ?_
   ·refine goT ?_;refine gAt (jI rfl (gF (gF0 (gB.mk c f y) (gB.mk aa ab ac))) jX) ?_;refine hE5 rfl (hI7) ?_;refine goT ?_;refine jY ?_;exact uK 0 [0,1,2,3]
   exact goR h
def gVc(c:qJ):Option (Bool):=
bnd ((cnd (!(mF c.name)) ((some true)) ((cnd (decide ((c.params.length:Int) > 4)) ((some true)) (bnd (gQc c.params [[115,101,108,102]]) fun x4=>
(cnd (!x4) ((some true)) (bnd (gDw c.result [[115,101,108,102]]) fun x6=>
(some (!x6))))))))) fun b1=>
(cnd b1 (
(some false)) (
(cnd (!c.hasDefault) (
bnd ((cnd ((c.vars.length:Int)==0) (bnd (gRx c.body) fun f=>
(some f)) ((some false)))) fun b9=>
(some b9)) (
bnd (yG c.vars 5) fun h=>
bnd ((cnd h ((cnd ((c.vars.length:Int)==(IntKind.i64.wrap ((c.params.length:Int)+1))) (bnd (gK1 c.body c.vars) fun y=>
(some y)) ((some false)))) ((some false)))) fun aa=>
(some aa)))))
theorem hLp(a0:qJ){r:Bool}(h:gVc a0=some r):jC Tryz.prog 212 [.d (gGw a0)] [.b r]:=by
 obtain⟨ak,al,⟨aa,ab,ac⟩,am,an,⟨ad,ae,ag,ah,⟨c,f,y⟩,ai,aj⟩⟩:=a0;unfold gVc at h;refine SpI Tryz.func212 fun A _=>?_;refine goL ?_;refine jL (gF (qD ak)) ?_;obtain⟨b1,hb1,h⟩:=gP h;refine jT ⟨[(1,.ptr 0 0),(26,.B b1)],[bSg ak al aa ab ac am an ad ae ag ah c f y ai aj],Tryz.f212.ntmps⟩ ?_ ?_
 ·refine pX 7 (fun c2=>?_) (fun c2=>?_) (by first | rfl | (simp only [jG,gV];rfl))
  ·replace hb1:=kD c2 hb1;refine goL ?_;cases hb1;exact⟨rfl,⟨⟨rfl,rfl⟩,⟨by first | rfl | (simp only [jG,gV];rfl),rfl⟩,trivial⟩,⟨_,rfl⟩,rfl⟩
  ·replace hb1:=kE c2 hb1;refine goL ?_;refine pX 13 (fun c3=>?_) (fun c3=>?_) (by first | rfl | (simp only [jG,gV];rfl))
   ·replace hb1:=kD c3 hb1;refine goL ?_;cases hb1;exact⟨rfl,⟨⟨rfl,rfl⟩,⟨by first | rfl | (simp only [jG,gV];rfl),rfl⟩,trivial⟩,⟨_,rfl⟩,rfl⟩
   ·replace hb1:=kE c3 hb1;refine goL ?_;refine gQp ?_;refine gBc ([115,101,108,102]:List UInt8) ?_;refine gQp ?_;obtain⟨x4,ay,hb1⟩:=gP hb1;refine gBn (gW2 (hBo al [[115,101,108,102]] ay)) ?_;refine pX 20 (fun c5=>?_) (fun c5=>?_) (by first | rfl | (simp only [jG,gV];rfl))
    ·replace hb1:=kD c5 hb1;refine goL ?_;cases hb1;exact⟨rfl,⟨⟨rfl,rfl⟩,⟨by first | rfl | (simp only [jG,gV];rfl),rfl⟩,trivial⟩,⟨_,rfl⟩,rfl⟩
    ·replace hb1:=kE c5 hb1;refine goL ?_;refine gQp ?_;refine gBc ([115,101,108,102]:List UInt8) ?_;refine gQp ?_;obtain⟨x6,a4,hb1⟩:=gP hb1;refine gBn (gW2 (gG3 (gB.mk aa ab ac) [[115,101,108,102]] a4)) ?_;cases hb1;exact⟨rfl,⟨⟨rfl,rfl⟩,⟨by first | rfl | (simp only [jG,gV];rfl),rfl⟩,trivial⟩,⟨_,rfl⟩,rfl⟩
 refine goC h ?_ ?_<;>intro c7 h
 ·exact goR h
 ·refine goS ?_;refine kX (fun c8=>?_) (fun c8=>?_)
  ·replace h:=kD c8 h;refine goL ?_;obtain⟨b9,hb9,h⟩:=gP h;refine jT ⟨[(2,.B b9)],[bSg ak al aa ab ac am an ad ae ag ah c f y ai aj],Tryz.f212.ntmps⟩ ?_ ?_
   ·refine gqA 34 hb9 (fun a9 hb9=>?_);obtain⟨ba,aq,hb9⟩:=gP hb9;refine jL (gF (hGr _ aq)) ?_;cases hb9;exact eJ
   exact goR h
  ·replace h:=kE c8 h;refine goS ?_;obtain⟨bb,ar,h⟩:=gP h;refine jL (gF (gAb _ _ ar)) ?_;obtain⟨a6,hb13,h⟩:=gP h;refine jT ⟨[(2,.B a6)],[bSg ak al aa ab ac am an ad ae ag ah c f y ai aj],Tryz.f212.ntmps⟩ ?_ ?_
   ·refine pX 42 (fun ao=>?_) (fun ao=>?_) (by first | rfl | (simp only [jG,gV];rfl))
    ·replace hb13:=kD ao hb13;refine goL ?_;refine gQp ?_;refine jL (pR) ?_;refine pX 52 (fun ap=>?_) (fun ap=>?_) (by first | rfl | (simp only [jG,gV];rfl))
     ·replace hb13:=kD ap hb13;refine goL ?_;refine gQp ?_;obtain⟨bc,au,hb13⟩:=gP hb13;refine jL (gF (gRl _ _ au)) ?_;cases hb13;exact⟨rfl,⟨⟨by first | rfl | (simp only [jG,gV];rfl),rfl⟩,trivial⟩,⟨_,rfl⟩,rfl⟩
     ·replace hb13:=kE ap hb13;refine goL ?_;cases hb13;exact⟨rfl,⟨⟨by first | rfl | (simp only [jG,gV];rfl),rfl⟩,trivial⟩,⟨_,rfl⟩,rfl⟩
    ·replace hb13:=kE ao hb13;refine goL ?_;cases hb13;exact⟨rfl,⟨⟨by first | rfl | (simp only [jG,gV];rfl),rfl⟩,trivial⟩,⟨_,rfl⟩,rfl⟩
   exact goR h
def vJ(a0:mJ)(x4:gD):List pU→(List gD)→Option (gD)
 | [],y=>bnd (gBs a0) fun aa=>
bnd (gOx aa (gD.mk x4.atom y)) fun ab=>
(some ab)
 | h::xs,y=>lt_ (mG h.name) fun c=>
bnd (gL6 h.fields) fun f=>
gd ([c].length+f.length≤4294967296) (
gd (y.length+[(gD.mk [] ([c]++f))].length≤4294967296) (
vJ a0 x4 xs (y++[(gD.mk [] ([c]++f))])))
def gD0(c:mJ):Option (gD):=
lt_ (mG [100,97,116,97]) fun h=>
lt_ (mG c.name) fun y=>
bnd (gBg c.vars) fun x3=>
bnd (gJk [h,y,x3]) fun f=>
vJ c f c.constructors f.list
theorem gNq(a0:mJ){r:gD}(h:gD0 a0=some r):jC Tryz.prog 171 [.d (gFr a0)] [pF r]:=by
 obtain⟨ae,ah,ad⟩:=a0;unfold gD0 at h;refine SpI Tryz.func171 fun A _=>?_;refine gH2 ?_;obtain⟨⟨c,f⟩,a6,h⟩:=qB h;have sx1:=mM [100,97,116,97];rw [a6] at sx1;obtain⟨⟨y,aa⟩,a7,h⟩:=qB h;have sx2:=mM ae;rw [a7] at sx2;obtain⟨⟨ab,ac⟩,a8,h⟩:=gP h;obtain⟨⟨ai,aj⟩,ap,h⟩:=gP h;refine qH (P:=Tryz.prog) Mix.h (.q 0 (.q 1 (.q 2 (.q 3 (.q 4 (.q 5 (.q 6 (.h 7 (.h 8 (.h 9 (.h 10 .nil .nil) .nil) (.h 9 (.h 8 (.h 10 .nil .nil) .nil) .nil)) (.h 9 (.h 7 (.h 8 (.h 10 .nil .nil) .nil) .nil) .nil))))))))) ⟨[(1,.ptr 0 0),(2,.ptr 1 0),(3,.ptr 4 0)],[bDa ae ah ad,.box [.S [],.nilsl],.frz 135 2 0 (jA [(gD.mk c f),(gD.mk y aa),(gD.mk ab ac)]),.arr 135 2 0 (jA aj),.box [.S ai,.sl 3 0]],Tryz.f171.ntmps⟩ (by kernel_rfl) ?_ ?_
 ·refine gAt (jI rfl (gF (sx1)) jX) ?_;refine goT ?_;refine gAt (jI rfl (gF (sx2)) jX) ?_;refine goT ?_;refine gAt (jI rfl (gF (uL _ a8)) jX) ?_;refine vW (qE (T:=133) (us:=jA [(gD.mk c f),(gD.mk y aa),(gD.mk ab ac)]) jX) ?_ ?_
  ·refine vW (gBe 2 rfl rfl (vH (sv:=.ag [.S ai,.sl 3 0]) (L':=[bDa ae ah ad,.box [.S [],.nilsl],.frz 135 2 0 (jA [(gD.mk c f),(gD.mk y aa),(gD.mk ab ac)]),.arr 135 2 0 (jA aj)]) [] (vD [(gD.mk c f),(gD.mk y aa),(gD.mk ab ac)] ap) jX)) ?_ ?_
   ·refine goT ?_;refine jY ?_;exact uK 0 [0,1,2,3,4]
   refine goT ?_;refine jV (gBe 2 rfl rfl (vH (sv:=.ag [.S ai,.sl 4 0]) (L':=[bDa ae ah ad,.box [.S [],.nilsl],.frz 135 2 0 (jA [(gD.mk c f),(gD.mk y aa),(gD.mk ab ac)]),.box [.S [],.nilsl],.arr 135 2 0 (jA aj)]) [] (vD [(gD.mk c f),(gD.mk y aa),(gD.mk ab ac)] ap) jX)) ?_;refine goT ?_;refine jY ?_;exact uK 0 [0,1,2,4,3]
  refine goT ?_;refine jV (qE (T:=133) (us:=jA [(gD.mk c f),(gD.mk y aa),(gD.mk ab ac)]) jX) ?_;refine jV (gBe 3 rfl rfl (vH (sv:=.ag [.S ai,.sl 4 0]) (L':=[bDa ae ah ad,.box [.S [],.nilsl],.box [.S [],.nilsl],.frz 135 2 0 (jA [(gD.mk c f),(gD.mk y aa),(gD.mk ab ac)]),.arr 135 2 0 (jA aj)]) [] (vD [(gD.mk c f),(gD.mk y aa),(gD.mk ab ac)] ap) jX)) ?_;refine goT ?_;refine jY ?_;exact uK 0 [0,1,3,4,2]
 refine goL ?_;refine noB ?_;refine wN 0 2 (fun z8=>?_);refine kS (fun(y7:Nat) (y5:List gD) (v6:Nat)=>⟨[(1,.ptr 0 0),(2,.ptr 1 0),(3,.ptr 4 0),(4,.N y7)],[bDa ae ah ad,.box [.S [],.nilsl],.frz 135 2 0 (jA [(gD.mk c f),(gD.mk y aa),(gD.mk ab ac)]),.arr 135 2 v6 (jA y5),.box [.S ai,.sl 3 v6]],Tryz.f171.ntmps⟩) (fun y7 y5 v6=>vJ (mJ.mk ae ah ad) (gD.mk ai aj) (ad.drop y7) y5=some r) (fun y7 y5 v6=>ad.length - y7) 0 aj 0 eJ h ?_;rintro y7 y5 v6 h;refine goL ?_;refine kX (fun c9=>?_) (fun c9=>?_)
 ·have ak:=uR c9;obtain⟨ba,ao,aq⟩:=drop_at ak;rw [aq,vJ.eq_2] at h;obtain⟨ar,bb⟩:=ba;refine noS ?_;refine jW (jE ?_);refine uF (P:=Tryz.prog) Mix.h [(0,true),(1,true),(2,true),(3,true),(4,true),(5,true),(6,true),(7,true),(8,true),(10,true),(11,true),(12,true),(13,true),(14,true),(15,true),(16,true),(9,false),(17,false),(18,true),(19,false),(20,false),(21,true),(22,false)] (by kernel_rfl) ?_;refine goY ?_;refine jI rfl (jM y7 (gDr ao)) ?_;refine goY ?_;obtain⟨⟨al,am⟩,aw,h⟩:=qB h;have sx11:=mM ar;rw [aw] at sx11;refine jI rfl (gF (sx11)) ?_;refine goY ?_;refine jI rfl (jM y7 (gDr ao)) ?_;refine goY ?_;obtain⟨ax,ay,h⟩:=gP h;refine jI rfl (gF (gT0 _ ay)) ?_;refine qE (T:=133) (us:=jA [(gD.mk al am)]) ?_;obtain⟨bc,h⟩:=mW h;refine pV (T:=133) bc ?_;refine goY ?_;refine gBe 5 rfl rfl ?_;refine qE (T:=133) (us:=jA [(gD.mk [] ([(gD.mk al am)]++ax))]) ?_;obtain⟨bd,h⟩:=mW h;refine pV (T:=133) bd ?_;refine goY ?_;refine kQ ?_;refine goL ?_;refine jL (jR y7 (by omega)) ?_;exact⟨(y7+1),(y5++[(gD.mk [] ([(gD.mk al am)]++ax))]),(v6+1),h,by omega,eJ⟩
 ·have ak:=uS c9;rw [jF ak,vJ.eq_1] at h;refine noX ?_;refine kN 3 rfl rfl ?_;refine hU0 ?_;refine jO (P:=Tryz.prog) Mix.h [(0,true),(1,true),(2,true),(3,true),(4,false)] (by kernel_rfl) ?_;refine goY ?_;obtain⟨bg,a3,h⟩:=gP h;refine jI rfl (gF (gH6 _ a3)) ?_;refine goY ?_;obtain⟨⟨be,bf⟩,a4,h⟩:=gP h;refine jI rfl (gF (gU9 _ _ a4)) ?_;refine goY ?_;refine kQ ?_;exact goR h
def vK:List gC0→(List (List UInt8))→Option (Bool)
 | [],f=>bnd (yG f 6) fun h=>
(some h)
 | c::xs,f=>bnd ((cnd ((c.vars.length:Int)==0) ((some true)) (bnd (yG c.vars 5) fun y=>
(cnd (!y) ((some true)) (bnd (gK1 c.body c.vars) fun aa=>
(some (!aa))))))) fun ab=>
(cnd ab (
(some false)) (
gd (f.length+[c.name].length≤4294967296) (
vK xs (f++[c.name]))))
def vL(c:kG):List (List UInt8)→Option (Bool)
 | []=>bnd ((cnd c.hasAssoc (bnd (gDw c.assoc c.vars) fun f=>
(cnd (!f) ((some true)) ((cnd (!c.hasAssoc) ((some (!(gAo c.assoc)))) ((some false)))))) ((cnd (!c.hasAssoc) ((some (!(gAo c.assoc)))) ((some false)))))) fun h=>
(cnd h (
(some false)) (
vK c.methods []))
 | y::xs=>bnd (gEq y c.head) fun aa=>
(cnd (!aa) (
(some false)) (
vL c xs ))
def gBt(c:kG):Option (Bool):=
bnd ((cnd (!(mF c.trait)) ((some true)) (bnd (yG c.vars 3) fun h=>
(cnd (!h) ((some true)) (bnd (gDw c.head c.vars) fun y=>
(cnd (!y) ((some true)) (bnd (gC7 5000 c.head) fun x7=>
(cnd x7 ((some true)) ((cnd (c.head.kind==4) ((some true)) (bnd (gL5 c.where_ c.vars) fun f=>
(some (!f))))))))))))) fun b1=>
(cnd b1 (
(some false)) (
vL c c.vars ))
theorem gH8(a0:kG){r:Bool}(h:gBt a0=some r):jC Tryz.prog 179 [.d (gCa a0)] [.b r]:=by
 obtain⟨ag,ad,⟨aa,ab,ac⟩,ai,aj,ak,⟨c,f,y⟩,ae⟩:=a0;unfold gBt at h;refine SpI Tryz.func179 fun A _=>?_;refine goL ?_;refine jL (gF (qD ag)) ?_;obtain⟨b1,hb1,h⟩:=gP h;refine jT ⟨[(1,.ptr 0 0),(43,.B b1)],[bIn ag ad aa ab ac ai aj ak c f y ae],Tryz.f179.ntmps⟩ ?_ ?_
 ·refine gqO 11 hb1 (fun c2 hb1=>?_);obtain⟨x3,bk,hb1⟩:=gP hb1;refine jL (gF (gAb _ _ bk)) ?_;refine gqO 17 hb1 (fun c4 hb1=>?_);obtain⟨x5,bl,hb1⟩:=gP hb1;refine jL (gF (gG3 _ _ bl)) ?_;refine gqO 25 hb1 (fun c6 hb1=>?_);obtain⟨x7,bm,hb1⟩:=gP hb1;refine jL (gF (gKu _ _ bm)) ?_;refine gqO 30 hb1 (fun c8 hb1=>?_);refine gqO 36 hb1 (fun c9 hb1=>?_);obtain⟨bt,bb,hb1⟩:=gP hb1;refine jL (gF (gTz _ _ bb)) ?_;cases hb1;exact eJ
 refine goC h ?_ ?_<;>intro bu h
 ·exact goR h
 ·refine goS ?_;refine noB ?_;refine wN 0 1 (fun bv=>?_);refine mQ (fun(al:Nat)=>⟨[(1,.ptr 0 0),(3,.N al)],[bIn ag ad aa ab ac ai aj ak c f y ae],Tryz.f179.ntmps⟩) (fun al=>vL (kG.mk ag ad (gB.mk aa ab ac) ai aj ak (gB.mk c f y) ae) (ad.drop al)  =some r) (fun al=>ad.length - al) 0 eJ h ?_;rintro al h;refine goL ?_;refine kX (fun a6=>?_) (fun a6=>?_)
  ·have am:=uR a6;obtain⟨bw,bc,a7⟩:=drop_at am;rw [a7,vL.eq_2] at h;refine noS ?_;refine jW (jE ?_);refine goL ?_;refine gE7 (jM al (gQq bc)) ?_;refine goL ?_;obtain⟨bx,bd,h⟩:=gP h;refine gE7 (gF (gRr _ _ bd)) ?_;refine goC h ?_ ?_<;>intro bz h
   ·exact goR h
   ·refine goS ?_;refine jL (jR al (by omega)) ?_;exact⟨(al+1),h,by omega,eJ⟩
  ·have am:=uS a6;rw [jF am,vL.eq_1] at h;refine goX ?_;obtain⟨bn,hb18,h⟩:=gP h;refine jT ⟨[(1,.ptr 0 0),(80,.B bn)],[bIn ag ad aa ab ac ai aj ak c f y ae],Tryz.f179.ntmps⟩ ?_ ?_
   ·refine gqV 62 hb18 ?_ ?_<;>intro b0 hb18
    ·obtain⟨b2,be,hb18⟩:=gP hb18;refine jL (gF (gG3 _ _ be)) ?_;refine gqO 70 hb18 (fun b3 hb18=>?_);refine gqA 74 hb18 (fun b4 hb18=>?_);refine jL (gF (gC5 (gB.mk c f y))) ?_;cases hb18;exact eJ
    ·refine gqA 74 hb18 (fun b5 hb18=>?_);refine jL (gF (gC5 (gB.mk c f y))) ?_;cases hb18;exact eJ
   refine goC h ?_ ?_<;>intro b6 h
   ·exact goR h
   ·refine goS ?_;refine gF9 ?_;refine goL ?_;refine noB ?_;refine wN 0 11 (fun b7=>?_);refine kS (fun(ah:Nat) (ao:List (List UInt8)) (ap:Nat)=>⟨[(1,.ptr 0 0),(4,.sl 1 ap),(5,.N ah)],[bIn ag ad aa ab ac ai aj ak c f y ae,.own 9 1 ap (jP ao)],Tryz.f179.ntmps⟩) (fun ah ao ap=>vK (ae.drop ah) ao=some r) (fun ah ao ap=>ae.length - ah) 0 [] 0 eJ h ?_;rintro ah ao ap h;refine goL ?_;refine kX (fun a8=>?_) (fun a8=>?_)
    ·have an:=uR a8;obtain⟨bo,bf,a9⟩:=drop_at an;rw [a9,vK.eq_2] at h;obtain⟨aq,ba,⟨aw,ax,ay,a3,⟨ar,au,av⟩,a4,a5⟩⟩:=bo;refine noS ?_;refine jW (jE ?_);refine goL ?_;refine jL (jM ah (hH9 bf)) ?_;obtain⟨bp,hb31,h⟩:=gP h;refine jT ⟨[(1,.ptr 0 0),(4,.sl 1 ap),(5,.N ah),(6,.ptr 2 0),(111,.B bp)],[bIn ag ad aa ab ac ai aj ak c f y ae,.own 9 1 ap (jP ao),.box [.S aq,.L 1 (jP ba),.I aw,.S ax,.S ay,.I a3,.I ar,.S au,.L 3 (jJ av),.L 9 (gB8 a4),.L 11 (gKw a5)]],Tryz.f179.ntmps⟩ ?_ ?_
     ·refine gqO 98 hb31 (fun b8 hb31=>?_);obtain⟨b9,bg,hb31⟩:=gP hb31;refine jL (gF (gAb _ _ bg)) ?_;refine gqO 104 hb31 (fun ca hb31=>?_);obtain⟨cb,bh,hb31⟩:=gP hb31;refine jL (gF (gRl _ _ bh)) ?_;cases hb31;exact eJ
     refine goC h ?_ ?_<;>intro cc h
     ·exact goR h
     ·refine goS ?_;refine gBc aq ?_;obtain⟨bq,h⟩:=mW h;refine gH3 bq ?_;refine goL ?_;refine jL (jR ah (by omega)) ?_;exact⟨(ah+1),(ao++[aq]),(ap+1),h,by omega,eJ⟩
    ·have an:=uS a8;rw [jF an,vK.eq_1] at h;refine goX ?_;obtain⟨cd,bi,h⟩:=gP h;refine gAq (gW2 (gAb ao 6 bi)) ?_;exact goR h
def vM(c:mH):List gHo→(List (List UInt8))→Option (Bool)
 | [],f=>bnd ((cnd (mF c.name) (bnd (yG c.vars 3) fun h=>
(cnd h (bnd (gL5 c.where_ c.vars) fun y=>
(cnd y (bnd (yG f 5) fun aa=>
(cnd aa (bnd (gDw c.result c.vars) fun ab=>
(cnd ab (bnd (gK1 c.body f) fun ac=>
(some ac)) ((some false)))) ((some false)))) ((some false)))) ((some false)))) ((some false)))) fun ad=>
(some ad)
 | x6::xs,f=>bnd (gDw x6.type_ c.vars) fun x7=>
(cnd (!x7) (
(some false)) (
gd (f.length+[x6.name].length≤4294967296) (
vM c xs (f++[x6.name]))))
def gBu(c:mH):Option (Bool):=
vM c c.params []
theorem gH9(a0:mH){r:Bool}(h:gBu a0=some r):jC Tryz.prog 180 [.d (gFs a0)] [.b r]:=by
 obtain⟨am,an,ao,ak,⟨ah,ai,aj⟩,⟨aa,ab,ac,ad,⟨c,f,y⟩,ae,ag⟩⟩:=a0;unfold gBu at h;refine SpI Tryz.func180 fun A _=>?_;refine goL ?_;refine gF9 ?_;refine goL ?_;refine noB ?_;refine wN 0 3 (fun z4=>?_);refine kS (fun(y3:Nat) (y1:List (List UInt8)) (v2:Nat)=>⟨[(1,.ptr 0 0),(3,.sl 1 v2),(4,.N y3)],[.box [.S am,.L 1 (jP an),.L 4 (kV ao),.L 4 (gHp ak),.I ah,.S ai,.L 3 (jJ aj),.I aa,.S ab,.S ac,.I ad,.I c,.S f,.L 3 (jJ y),.L 9 (gB8 ae),.L 11 (gKw ag)],.own 9 1 v2 (jP y1)],Tryz.f180.ntmps⟩) (fun y3 y1 v2=>vM (mH.mk am an ao ak (gB.mk ah ai aj) (kJ.mk aa ab ac ad (gB.mk c f y) ae ag)) (ak.drop y3) y1=some r) (fun y3 y1 v2=>ak.length - y3) 0 [] 0 eJ h ?_;rintro y3 y1 v2 h;refine goL ?_;refine kX (fun c5=>?_) (fun c5=>?_)
 ·have al:=uR c5;obtain⟨x6,av,aw⟩:=drop_at al;rw [aw,vM.eq_2] at h;obtain⟨ar,⟨a6,a7,a8⟩⟩:=x6;refine noS ?_;refine jW (jE ?_);refine goL ?_;refine gE7 (jM y3 (hCo av)) ?_;refine goL ?_;obtain⟨x7,bb,h⟩:=gP h;refine gE7 (gF (gG3 _ _ bb)) ?_;refine goC h ?_ ?_<;>intro c8 h
  ·exact goR h
  ·refine goS ?_;refine jL (jM y3 (hCo av)) ?_;refine gBc ar ?_;obtain⟨g9,h⟩:=mW h;refine gH3 g9 ?_;refine goL ?_;refine jL (jR y3 (by omega)) ?_;exact⟨(y3+1),(y1++[ar]),(v2+1),h,by omega,eJ⟩
 ·have al:=uS c5;rw [jF al,vM.eq_1] at h;refine goX ?_;refine jL (gF (qD am)) ?_;obtain⟨bc,hb10,h⟩:=gP h;refine jT ⟨[(2,.B bc)],[.box [.S am,.L 1 (jP an),.L 4 (kV ao),.L 4 (gHp ak),.I ah,.S ai,.L 3 (jJ aj),.I aa,.S ab,.S ac,.I ad,.I c,.S f,.L 3 (jJ y),.L 9 (gB8 ae),.L 11 (gKw ag)],.own 9 1 v2 (jP y1)],Tryz.f180.ntmps⟩ ?_ ?_
  ·refine gqA 35 hb10 (fun bf hb10=>?_);obtain⟨bg,ax,hb10⟩:=gP hb10;refine jL (gF (gAb _ _ ax)) ?_;refine gqA 40 hb10 (fun bh hb10=>?_);obtain⟨bi,ay,hb10⟩:=gP hb10;refine jL (gF (gTz _ _ ay)) ?_;refine gqA 47 hb10 (fun bj hb10=>?_);obtain⟨bk,a3,hb10⟩:=gP hb10;refine gBn (gW2 (gAb y1 5 a3)) ?_;refine gqA 51 hb10 (fun bl hb10=>?_);obtain⟨bm,a4,hb10⟩:=gP hb10;refine jL (gF (gG3 _ _ a4)) ?_;refine gqA 58 hb10 (fun bn hb10=>?_);obtain⟨bo,a5,hb10⟩:=gP hb10;refine gBn (gW2 (gRl (kJ.mk aa ab ac ad (gB.mk c f y) ae ag) y1 a5)) ?_;cases hb10;exact eJ
  exact goR h
end Go.Proofs.YtegahmhnmjnhhaaGreat
