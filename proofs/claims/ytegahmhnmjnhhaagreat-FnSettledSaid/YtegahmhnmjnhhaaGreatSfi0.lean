import Derived.Test.YtegahmhnmjnhhaaGreatTh
import Derived.Lib.ItoaLen
import Derived.Lib.AppendIntMem
import Derived.Lib.ItoaNum
set_option maxHeartbeats 4000000
set_option linter.unusedVariables false
set_option linter.unusedSimpArgs false
set_option linter.unusedSectionVars false
namespace Go.Proofs.YtegahmhnmjnhhaaGreat
open Go Go.Eng
attribute [local irreducible] V VO VQ VY Quiet QR jC kT Rng mU mV mI
def gCf:List gG→(List gG)→Option (List gG)
 | [],c=>(some c)
 | f::xs,c=>gd (tok f.type_) (lt_ (idT f.type_) fun h=>
gd (c.length+[(gG.mk f.var_ h)].length≤4294967296) (
gCf xs (c++[(gG.mk f.var_ h)])))
def gQw(c:List gG):Option (List gG):=
gCf c []
theorem hNu(a0:List gG){r:List gG}(h:gQw a0=some r):jC Tryz.prog 54 [.L 4 (gN a0)] [.sl 4 (gN r)]:=by
 unfold gQw at h;refine SpI Tryz.func54 fun A _=>?_;refine goL ?_;refine gAl ?_;refine goL ?_;refine noB ?_;refine gBx 0 (fun z4=>?_);refine kS (fun(f:Nat) (y1:List gG) (v2:Nat)=>⟨[(0,.L 4 (gN a0)),(3,.sl 0 v2),(4,.N f)],[.arr 101 4 v2 (gN y1)],Tryz.f54.ntmps⟩) (fun f y1 v2=>gCf (a0.drop f) y1=some r) (fun f y1 v2=>a0.length - f) 0 [] 0 eJ h ?_;rintro f y1 v2 h;refine goL ?_;refine kX (fun c5=>?_) (fun c5=>?_)
 ·have c:=uR c5;obtain⟨x6,ak,al⟩:=drop_at c;rw [al,gCf.eq_2] at h;obtain⟨ac,⟨y,aa,ab⟩⟩:=x6;refine noS ?_;refine jW (jE ?_);refine uF (P:=Tryz.prog) Mix.h [(0,true),(1,true),(2,true),(3,true),(4,true),(5,true),(6,true),(7,true),(8,true),(9,true),(10,true),(11,true),(12,true),(13,false),(14,false),(15,true)] (by kernel_rfl) ?_;refine goY ?_;refine jI rfl (jM f (gMf ak)) ?_;refine goY ?_;refine jI rfl (jM f (gMf ak)) ?_;refine goY ?_;obtain⟨g7,h⟩:=mW h;obtain⟨⟨ad,ae,ag⟩,an,h⟩:=qB h;have sx8:=(zV (gB.mk y aa ab) g7).p;rw [an] at sx8;refine jI rfl (gF (sx8)) ?_;refine goY ?_;refine qE (T:=28) (us:=gN [(gG.mk ac (gB.mk ad ae ag))]) ?_;obtain⟨g9,h⟩:=mW h;refine pV (T:=28) g9 ?_;refine goY ?_;refine kQ ?_;refine goL ?_;refine jL (jR f (by omega)) ?_;exact⟨(f+1),(y1++[(gG.mk ac (gB.mk ad ae ag))]),(v2+1),h,by omega,eJ⟩
 ·have c:=uS c5;rw [jF c,gCf.eq_1] at h;refine goX ?_;refine kN 0 rfl rfl ?_;refine jK ?_;cases h;exact qA
def pO(c:gJ)(a1:Int):gJ:=
(cnd (c.code==0) (
(gJ.mk c.next c.count c.node c.bindings c.equations c.obligations a1 c.node)) (
c))
theorem gLs(c:gJ)(a1:Int):jC Tryz.prog 58 [.d (mD c),.I a1] [mD (pO c a1)]:=by
 obtain⟨r,h⟩:∃r,pO c a1=r:=⟨_,rfl⟩
 rw [h];obtain⟨f,y,aa,ab,ac,ad,ae,ag⟩:=c;unfold pO at h;refine SpI Tryz.func58 fun A _=>?_;refine goC h ?_ ?_<;>intro c1 h
 ·refine goL ?_;refine jK ?_;subst h;exact qA
 ·refine goS ?_;refine jK ?_;subst h;exact qA
def mP(c:gB→(List UInt8)→Option (Int))(a1:List UInt8):List gB→Int→Option (Int)
 | [],f=>(some f)
 | y::xs,f=>bnd (c y a1) fun h=>
mP c a1 xs (IntKind.i64.wrap (f+h))
def gAa(c:gB→(List UInt8)→Option (Int))(f:gB)(a1:List UInt8):Option (Int):=
lt_ ((cnd (f.kind==1) ((f.name==a1)) (false))) fun h=>
bnd ((cnd h (
(some 1)) (
(some 0)))) fun y=>
mP c a1 f.args y
theorem gMq{c:gB→(List UInt8)→Option (Int)}(f:∀(x0:gB) (x1:List UInt8) {r:Int},c x0 x1=some r→jC Tryz.prog 104 [.d (jS x0),.S x1] [.i .i64 r])(a0:gB)(a1:List UInt8){r:Int}(h:gAa c a0 a1=some r):jC Tryz.prog 104 [.d (jS a0),.S a1] [.i .i64 r]:=by
 obtain⟨ab,ac,y⟩:=a0;unfold gAa at h;refine SpI Tryz.func104 fun A _=>?_;refine goL ?_;obtain⟨b1,hb1,h⟩:=qB h;refine jT ⟨[(1,.S a1),(2,.ptr 0 0),(5,.I 0),(15,.B b1)],[bTy ab ac y],Tryz.f104.ntmps⟩ ?_ ?_
 ·exact gqZ 10 hb1
 refine goL ?_;obtain⟨b3,hb3,h⟩:=gP h;refine gEf ⟨[(1,.S a1),(2,.ptr 0 0),(5,.I b3)],[bTy ab ac y],Tryz.f104.ntmps⟩ ?_ ?_
 ·refine kX (fun c4=>?_) (fun c4=>?_)
  ·replace hb3:=kD c4 hb3;refine goL ?_;cases hb3;exact eJ
  ·replace hb3:=kE c4 hb3;refine zA ?_;cases hb3;exact eJ
 refine goL ?_;refine noB ?_;refine wN 0 2 (fun z7=>?_);refine gEe (fun(y6:Nat) (y5:Int)=>⟨[(1,.S a1),(2,.ptr 0 0),(5,.I y5),(6,.N y6)],[bTy ab ac y],Tryz.f104.ntmps⟩) (fun y6 y5=>mP c a1 (y.drop y6) y5=some r) (fun y6 y5=>y.length - y6) 0 b3 eJ h ?_;rintro y6 y5 h;refine goL ?_;refine kX (fun c8=>?_) (fun c8=>?_)
 ·have aa:=uR c8;obtain⟨x9,al,ag⟩:=drop_at aa;rw [ag,mP.eq_2] at h;obtain⟨aq,ar,au⟩:=x9;refine noS ?_;refine jW (jE ?_);refine goL ?_;refine jL (jM y6 (zL al)) ?_;obtain⟨am,ah,h⟩:=gP h;refine qI (gF (f _ _ ah)) ?_;refine jL (pR) ?_;refine jL (jR y6 (by omega)) ?_;exact⟨(y6+1),(IntKind.i64.wrap (y5+am)),h,by omega,eJ⟩
 ·have aa:=uS c8;rw [jF aa,mP.eq_1] at h;refine goX ?_;refine jK ?_;cases h;exact qA
def qZ:Nat→gB→(List UInt8)→Option (Int)
 | 0,_,_=>none
 | n+1,c,f=>gAa (qZ n) c f
theorem gMr:∀(n:Nat) (c:gB) (f:List UInt8) {r:Int},qZ n c f=some r→jC Tryz.prog 104 [.d (jS c),.S f] [.i .i64 r]:=by
 intro n
 induction n with
 | zero=>intro c f r h;cases h
 | succ n ih=>intro c f r h;exact gMq ih c f h
def yC(c:gY)(a1:gY):Bool:=
lt_ ((cnd (c.trait==a1.trait) ((teq c.type_ a1.type_)) (false))) fun f=>
f
theorem gYq(a0:gY)(a1:gY):jC Tryz.prog 219 [.d (zY a0),.d (zY a1)] [.b (yC a0 a1)]:=by
 obtain⟨r,h⟩:∃r,yC a0 a1=r:=⟨_,rfl⟩
 rw [h];obtain⟨ad,⟨c,f,y⟩⟩:=a0;obtain⟨ae,⟨aa,ab,ac⟩⟩:=a1;unfold yC at h;refine SpI Tryz.func219 fun A _=>?_;refine goL ?_;obtain⟨b1,hb1,h⟩:=qB h;refine jT ⟨[(4,.B b1)],[bBd ad c f y,bBd ae aa ab ac],Tryz.f219.ntmps⟩ ?_ ?_
 ·refine gqA 10 hb1 (fun c2 hb1=>?_);refine jL (gF (gF0 (gB.mk c f y) (gB.mk aa ab ac))) ?_;cases hb1;exact eJ
 refine goL ?_;refine jK ?_;subst h;exact qA
def gC3(c:gQ→Option (gQ)):List gQ→(List gQ)→Option (List gQ)
 | [],f=>(some f)
 | y::xs,f=>bnd (c y) fun h=>
gd (f.length+[h].length≤4294967296) (
gC3 c xs (f++[h]))
def gNh(f:(List gQ)→Option (List gQ))(c:gQ→Option (gQ))(h:List gQ):Option (List gQ):=
gC3 c h []
def gNi(c:(List gQ)→Option (List gQ)):Prop:=∀(f:List gQ) {r:List gQ},c f=some r→kT Tryz.prog 236 [.L 5 (jZ f)] [147] [.sl 5 (jZ r)]
def gOi(c:gQ→Option (gQ)):Prop:=∀(f:gQ) {r:gQ},c f=some r→kT Tryz.prog 220 [.d (pY f)] [147] [pY r]
theorem hAi{f}{c}(ad:gNi f)(y:gOi c)(a0:List gQ){r:List gQ}(h:gNh f c a0=some r):kT Tryz.prog 236 [.L 5 (jZ a0)] [147] [.sl 5 (jZ r)]:=by
 unfold gNh at h;refine pM Tryz.func236 rfl (by kernel_rfl) rfl (by simp) fun A _=>?_;refine goL ?_;refine gF9 ?_;refine goL ?_;refine noB ?_;refine gBx 0 (fun z4=>?_);refine kS (fun(y3:Nat) (y1:List gQ) (v2:Nat)=>⟨[(0,.L 5 (jZ a0)),(3,.sl 0 v2),(4,.N y3)],[.own 147 5 v2 (jZ y1)],Tryz.f236.ntmps⟩) (fun y3 y1 v2=>gC3 c (a0.drop y3) y1=some r) (fun y3 y1 v2=>a0.length - y3) 0 [] 0 eJ h ?_;rintro y3 y1 v2 h;refine goL ?_;refine kX (fun c5=>?_) (fun c5=>?_)
 ·have aa:=uR c5;obtain⟨x6,av,ao⟩:=drop_at aa;rw [ao,gC3.eq_2] at h;obtain⟨ap,aq,⟨ag,ah⟩,ar⟩:=x6;refine noS ?_;refine jW (jE ?_);refine goL ?_;refine jL (jM y3 (gX3 av)) ?_;obtain⟨⟨ai,aj,⟨ab,ac⟩,ak⟩,aw,h⟩:=gP h;refine gGa (y (gQ.mk ap aq (gH.mk ag ah) ar) aw) ?_;refine gBc (gQ.mk ai aj (gH.mk ab ac) ak) ?_;obtain⟨g8,h⟩:=mW h;refine gH3 g8 ?_;refine goL ?_;refine jL (jR y3 (by omega)) ?_;exact⟨(y3+1),(y1++[(gQ.mk ai aj (gH.mk ab ac) ak)]),(v2+1),h,by omega,eJ⟩
 ·have aa:=uS c5;rw [jF aa,gC3.eq_1] at h;refine goX ?_;refine jK ?_;obtain rfl:=Option.some.inj h;exact gPw
def gS6(c:(List gQ)→Option (List gQ))(f:gQ→Option (gQ))(h:gQ):Option (gQ):=
bnd (c h.args) fun y=>
(some (gQ.mk h.kind h.n h.at_ y))
theorem hJq{c}{f}(y:gNi c)(aa:gOi f)(a0:gQ){r:gQ}(h:gS6 c f a0=some r):kT Tryz.prog 220 [.d (pY a0)] [147] [pY r]:=by
 obtain⟨ah,ai,⟨ac,ad⟩,ab⟩:=a0;unfold gS6 at h;refine pM Tryz.func220 rfl (by kernel_rfl) rfl (by simp) fun A _=>?_;refine goL ?_;obtain⟨x1,ag,h⟩:=gP h;refine gGa (y ab ag) ?_;refine goL ?_;refine jK ?_;obtain rfl:=Option.some.inj h;exact gPw
mutual
def gNj:Nat→(List gQ)→Option (List gQ)
 | 0,_=>none
 | n+1,c=>gNh (gNj n) (gJh n) c
def gJh:Nat→gQ→Option (gQ)
 | 0,_=>none
 | n+1,c=>gS6 (gNj n) (gJh n) c
end
theorem gYr:∀(n:Nat),gNi (gNj n)∧gOi (gJh n):=by
 intro n
 induction n with
 | zero=>exact⟨(by intro c r h;cases h),(by intro c r h;cases h)⟩
 | succ n ih=>
   obtain⟨ih0,ih1⟩:=ih;refine⟨(fun c r h=>hAi ih0 ih1 c h),(fun c r h=>hJq ih0 ih1 c h)⟩
theorem hJr:∀(n:Nat),gOi (gJh n):=fun n=>(gYr n).2
def gCg(a1:List UInt8)(f:Nat)(c:qV × Int × Bool):List qV→qV × Int × Bool
 | []=>c
 | h::xs=>(cnd (h.name==a1) (
(h,(f:Int),true)) (
gCg a1 f c xs ))
def gAm(a1:List UInt8):List kI→Nat→qV × Int × Bool
 | [],c=>((qV.mk [] [] false false []),0,false)
 | f::xs,c=>gCg a1 c (gAm a1 xs (c+1)) f.traits
def yD(c:gI)(a1:List UInt8):qV × Int × Bool:=
gAm a1 c.packages 0
theorem gLt(a0:gI)(a1:List UInt8):jC Tryz.prog 192 [.d (kR a0),.S a1] [gMu (yD a0 a1).1,.i .i64 (yD a0 a1).2.1,.b (yD a0 a1).2.2]:=by
 obtain⟨r,h⟩:∃r,yD a0 a1=r:=⟨_,rfl⟩
 rw [h];obtain⟨c⟩:=a0;unfold yD at h;refine SpI Tryz.func192 fun A _=>?_;refine goL ?_;refine noB ?_;refine wN 0 0 (fun z2=>?_);refine mQ (fun(f:Nat)=>⟨[(1,.S a1),(2,.ptr 0 0),(4,.ptr 1 0),(7,.N f)],[bPr c,.box [.S [],.nilsl,.B false,.B false,.nilsl]],Tryz.f192.ntmps⟩) (fun f=>gAm a1 (c.drop f) f=r) (fun f=>c.length - f) 0 eJ h ?_;rintro f h;refine goL ?_;refine kX (fun c3=>?_) (fun c3=>?_)
 ·have y:=uR c3;obtain⟨x4,ad,ag⟩:=drop_at y;rw [ag,gAm.eq_2] at h;obtain⟨am,an,ac,ao,ap,aq⟩:=x4;refine noS ?_;refine jW (jE ?_);refine goL ?_;refine noB ?_;refine mQ (fun(y5:Nat)=>⟨[(1,.S a1),(2,.ptr 0 0),(4,.ptr 1 0),(7,.N f),(8,.N y5)],[bPr c,.box [.S [],.nilsl,.B false,.B false,.nilsl]],Tryz.f192.ntmps⟩) (fun y5=>gCg a1 f (gAm a1 (c.drop (f+1)) (f+1)) (ac.drop y5)  =r) (fun y5=>ac.length - y5) 0 eJ h ?_;rintro y5 h;refine goL ?_;refine jL (jM f (gBw ad)) ?_;refine kX (fun c6=>?_) (fun c6=>?_)
  ·have aa:=uR c6;refine gBx 22 (fun z7=>?_);obtain⟨x8,ah,ai⟩:=drop_at aa;rw [ai,gCg.eq_2] at h;obtain⟨ar,au,av,aw,ax⟩:=x8;refine noS ?_;refine jW (jE ?_);refine goL ?_;refine jL (jM f (gBw ad)) ?_;refine jL (jM y5 (gXw ah)) ?_;refine kX (fun c9=>?_) (fun c9=>?_)
   ·replace h:=kD c9 h;refine goL ?_;refine jL (jM f (gBw ad)) ?_;refine jL (jM y5 (gXw ah)) ?_;refine jK ?_;subst h;exact qA
   ·replace h:=kE c9 h;refine goS ?_;refine jL (jR y5 (by omega)) ?_;exact⟨(y5+1),h,by omega,eJ⟩
  ·have aa:=uS c6;rw [jF aa,gCg.eq_1] at h;refine goX ?_;refine jL (jR f (by omega)) ?_;exact⟨(f+1),h,by omega,eJ⟩
 ·have y:=uS c3;rw [jF y,gAm.eq_1] at h;refine goX ?_;refine gBn (jU TBd.h TZ.h rfl (by repeat constructor)) ?_;refine jK ?_;subst h;exact qA
def mR(y:Nat)(c:(List gH)→Option (List gH)):List kG→Nat→(List gH)→Option (List gH)
 | [],f,h=>(c h)
 | aa::xs,f,h=>gd (h.length+[(gH.mk (y:Int) (f:Int))].length≤4294967296) (
mR y c xs (f+1) (h++[(gH.mk (y:Int) (f:Int))]))
def mY:List kI→Nat→(List gH)→Option (List gH)
 | [],c,f=>(some f)
 | h::xs,c,f=>mR c (fun y=>mY xs (c+1) y) h.instances 0 f
def gAn(c:gI):Option (List gH):=
mY c.packages 0 []
theorem gS7(a0:gI){r:List gH}(h:gAn a0=some r):jC Tryz.prog 249 [.d (kR a0)] [.sl 2 (kF r)]:=by
 obtain⟨c⟩:=a0;unfold gAn at h;refine SpI Tryz.func249 fun A _=>?_;refine goL ?_;refine gAl ?_;refine goL ?_;refine noB ?_;refine wN 0 0 (fun z4=>?_);refine kS (fun(f:Nat) (y1:List gH) (v2:Nat)=>⟨[(1,.ptr 0 0),(3,.sl 1 v2),(4,.N f)],[bPr c,.arr 144 2 v2 (kF y1)],Tryz.f249.ntmps⟩) (fun f y1 v2=>mY (c.drop f) f y1=some r) (fun f y1 v2=>c.length - f) 0 [] 0 eJ h ?_;rintro f y1 v2 h;refine goL ?_;refine kX (fun c5=>?_) (fun c5=>?_)
 ·have y:=uR c5;obtain⟨x6,av,ak⟩:=drop_at y;rw [ak,mY.eq_2] at h;obtain⟨a8,a9,ba,bb,ad,bc⟩:=x6;refine noS ?_;refine jW (jE ?_);refine goL ?_;refine noB ?_;refine kS (fun(y9:Nat) (y7:List gH) (v8:Nat)=>⟨[(1,.ptr 0 0),(3,.sl 1 v8),(4,.N f),(5,.N y9)],[bPr c,.arr 144 2 v8 (kF y7)],Tryz.f249.ntmps⟩) (fun y9 y7 v8=>mR f (fun y7=>mY (c.drop (f+1)) (f+1) y7) (ad.drop y9) y9 y7=some r) (fun y9 y7 v8=>ad.length - y9) 0 y1 v2 eJ h ?_;rintro y9 y7 v8 h;refine goL ?_;refine jL (jM f (gBw av)) ?_;refine kX (fun ag=>?_) (fun ag=>?_)
  ·have aa:=uR ag;refine gBx 20 (fun bf=>?_);obtain⟨aw,bd,ah⟩:=drop_at aa;rw [ah,mR.eq_2] at h;obtain⟨ax,ay,⟨al,am,an⟩,a3,a4,a5,⟨ao,ap,aq⟩,a6⟩:=aw;refine noS ?_;refine jW (jE ?_);refine goL ?_;refine gAq (jU TBd.h TZ.h rfl (by repeat constructor)) ?_;refine gAk (u:=(.st [.i .i64 (f:Int),.i .i64 (y9:Int)])) ?_;obtain⟨a7,h⟩:=mW h;refine gBd a7 ?_;refine goL ?_;refine jL (jR y9 (by omega)) ?_;exact⟨(y9+1),(y7++[(gH.mk (f:Int) (y9:Int))]),(v8+1),h,by omega,eJ⟩
  ·have aa:=uS ag;rw [jF aa,mR.eq_1] at h;refine goX ?_;refine jL (jR f (by omega)) ?_;exact⟨(f+1),y7,v8,h,by omega,eJ⟩
 ·have y:=uS c5;rw [jF y,mY.eq_1] at h;refine goX ?_;refine kN 1 rfl rfl ?_;refine jK ?_;cases h;exact qA
def uY(c:gB)(a1:gB):Option (Bool):=
bnd (gBl a1 c) fun f=>
(some f)
theorem gGe(c:gB)(a1:gB){r:Bool}(h:uY c a1=some r):jC Tryz.prog 251 [.d (jS c),.d (jS a1)] [.b r]:=by
 obtain⟨y,aa,ab⟩:=c;obtain⟨ac,ad,ae⟩:=a1;unfold uY at h;refine SpI Tryz.func251 fun A _=>?_;refine goL ?_;obtain⟨x1,f,h⟩:=gP h;refine qI (gF (gUo _ _ f)) ?_;exact goR h
def gHw(c:Int)(a1:Int)(a2:Int):Bool:=
lt_ ((cnd (decide (c≥a1)) ((decide (c≤a2))) (false))) fun f=>
f
theorem gP1(c:Int)(a1:Int)(a2:Int):jC Tryz.prog 27 [.I c,.I a1,.I a2] [.b (gHw c a1 a2)]:=by
 obtain⟨r,h⟩:∃r,gHw c a1 a2=r:=⟨_,rfl⟩
 rw [h];unfold gHw at h;refine SpI Tryz.func27 fun A _=>?_;refine goL ?_;obtain⟨f,hb1,h⟩:=qB h;refine jT ⟨[(6,.B f)],[],Tryz.f27.ntmps⟩ ?_ ?_
 ·exact gqZ 10 hb1
 refine goL ?_;refine jK ?_;subst h;exact qA
def mZ(f:List UInt8)(a1:Int):Nat→(List (List UInt8))→Int→Int→Option (List (List UInt8))
 | 0,y,h,c=>none
 | n5+1,y,h,c=>(cnd (decide (c≤(f.length:Int))) (
bnd ((cnd (c==(f.length:Int)) ((some true)) (bnd (at? f c) fun x9=>
(some ((x9.toNat:Int)==a1))))) fun b7=>
(cnd b7 (
gd (0≤h∧h≤c∧c≤(f.length:Int)) (
gd (y.length+[((f.drop (Int.toNat h)).take (Int.toNat c - Int.toNat h))].length≤4294967296) (
mZ f a1 n5 (y++[((f.drop (Int.toNat h)).take (Int.toNat c - Int.toNat h))]) (IntKind.i64.wrap (c+1)) (IntKind.i64.wrap (c+1))))) (
mZ f a1 n5 y h (IntKind.i64.wrap (c+1))))) (
(some y)))
def gFv(c:List UInt8)(a1:Int)(f:Nat):Option (List (List UInt8)):=
mZ c a1 f [] 0 0
theorem gYs(a0:List UInt8)(a1:Int){n0:Nat}{r:List (List UInt8)}(h:gFv a0 a1 n0=some r):jC Tryz.prog 70 [.S a0,.d (.i .u8 a1)] [.sl 1 (jP r)]:=by
 unfold gFv at h;refine SpI Tryz.func70 fun A _=>?_;refine goL ?_;refine gF9 ?_;refine goL ?_;refine noB ?_;refine gV4 (fun(y:Nat) (y1:List (List UInt8)) (c:Int) (f:Int) (v2:Nat)=>⟨[(0,.S a0),(1,.d (.i .u8 a1)),(5,.sl 0 v2),(6,.I c),(7,.I f)],[.own 9 1 v2 (jP y1)],Tryz.f70.ntmps⟩) (fun y y1 c f v2=>mZ a0 a1 y y1 c f=some r) (fun y y1 c f v2=>y) n0 [] 0 0 0 eJ h ?_;rintro y y1 c f v2 h;rcases y with _ | y
 ·cases h
 rw [mZ.eq_2] at h;refine goC h ?_ ?_<;>intro c6 h
 ·refine noS ?_;refine jW (jE ?_);refine goL ?_;obtain⟨b7,hb7,h⟩:=gP h;refine jT ⟨[(0,.S a0),(1,.d (.i .u8 a1)),(5,.sl 0 v2),(6,.I c),(7,.I f),(25,.B b7)],[.own 9 1 v2 (jP y1)],Tryz.f70.ntmps⟩ ?_ ?_
  ·refine gqO 19 hb7 (fun c8 hb7=>?_);obtain⟨x9,ad,hb7⟩:=gP hb7;obtain⟨ae,ad⟩:=gEd ad;refine jL (gJd ae ad) ?_;cases hb7;exact eJ
  refine goC h ?_ ?_<;>intro ak h
  ·refine goL ?_;obtain⟨ag,h⟩:=mW h;refine qI (hPf ag) ?_;refine gBc ((a0.drop (Int.toNat c)).take (Int.toNat f - Int.toNat c)) ?_;obtain⟨ah,h⟩:=mW h;refine gH3 ah ?_;refine goL ?_;refine jL (pR) ?_;refine jL (pR) ?_;exact⟨y,(y1++[((a0.drop (Int.toNat c)).take (Int.toNat f - Int.toNat c))]),(IntKind.i64.wrap (f+1)),(IntKind.i64.wrap (f+1)),(v2+1),h,Nat.lt_succ_self _,eJ⟩
  ·refine goS ?_;refine jL (pR) ?_;exact⟨y,y1,c,(IntKind.i64.wrap (f+1)),v2,h,Nat.lt_succ_self _,eJ⟩
 ·refine goX ?_;refine uH 0 rfl rfl ?_;refine jK ?_;cases h;exact qA
def gEz(c:List UInt8)(f:Int):Option (List (List UInt8)):=gFv c f 5000
def gEi:List UInt8→Bool
 | []=>true
 | c::xs=>(cnd ((c.toNat:Int) != 32) (
false) (
gEi xs ))
def gGy(c:List UInt8):Bool:=
gEi c
theorem hE9(y:List UInt8):jC Tryz.prog 71 [.S y] [.b (gGy y)]:=by
 obtain⟨r,h⟩:∃r,gGy y=r:=⟨_,rfl⟩
 rw [h];unfold gGy at h;refine SpI Tryz.func71 fun A _=>?_;refine goL ?_;refine noB ?_;refine hId 0 (fun z2=>?_);refine mQ (fun(f:Nat)=>⟨[(0,.S y),(3,.N f)],[],Tryz.f71.ntmps⟩) (fun f=>gEi (y.drop f)  =r) (fun f=>y.length - f) 0 eJ h ?_;rintro f h;refine goL ?_;refine kX (fun c3=>?_) (fun c3=>?_)
 ·have c:=hS3 c3;obtain⟨x4,ac,aa⟩:=drop_at c;rw [aa,gEi.eq_2] at h;refine noS ?_;refine jW (jE ?_);refine goL ?_;refine jL (gF8 f ac) ?_;refine kX (fun c5=>?_) (fun c5=>?_)
  ·replace h:=kD c5 h;refine goL ?_;refine jK ?_;subst h;exact qA
  ·replace h:=kE c5 h;refine goS ?_;refine jL (jR f (by omega)) ?_;exact⟨(f+1),h,by omega,eJ⟩
 ·have c:=hS4 c3;rw [jF c,gEi.eq_1] at h;refine goX ?_;refine jK ?_;subst h;exact qA
def zU(c:vB):Nat→Int→Option (vB)
 | 0,f=>none
 | y+1,f=>bnd ((cnd (decide (f < (c.s.length:Int))) (bnd (at? c.s f) fun h=>
(cnd ((h.toNat:Int)==32) ((some true)) ((some ((h.toNat:Int)==10))))) ((some false)))) fun b3=>
(cnd b3 (
zU c y (IntKind.i64.wrap (f+1))) (
(some (vB.mk c.s f c.deep c.size c.bad))))
def gWh(c:vB)(f:Nat):Option (vB):=
zU c f c.at_
theorem gWi(c:vB){n0:Nat}{r:vB}(h:gWh c n0=some r):Go.Eng.Spec Tryz.prog 110 [.ptr 0 0] [bIp c.s c.at_ c.deep c.size c.bad] (fun sv Lo=>sv=.tup []∧Lo=[bIp r.s r.at_ r.deep r.size r.bad]):=by
 obtain⟨f,ah,y,aa,ab⟩:=c;unfold gWh at h;refine kM 1 Tryz.func110 rfl (by kernel_rfl) rfl rfl fun A _=>?_;refine noB ?_;refine gEe (fun(n2:Nat) (y1:Int)=>⟨[(0,.ptr 0 0)],[bIp f y1 y aa ab],Tryz.f110.ntmps⟩) (fun n2 y1=>zU (vB.mk f ah y aa ab) n2 y1=some r) (fun n2 y1=>n2) n0 ah eJ h ?_;rintro n2 y1 h;rcases n2 with _ | n2
 ·cases h
 rw [zU.eq_2] at h;refine gH2 ?_;obtain⟨b3,hb3,h⟩:=gP h;refine uJ (P:=Tryz.prog) Mix.h ⟨[(0,.ptr 0 0),(35,.B b3)],[bIp f y1 y aa ab],Tryz.f110.ntmps⟩ (by kernel_rfl) ?_ ?_
 ·refine goL ?_;refine yQ 12 (fun c4=>?_) (fun c4=>?_)
  ·replace hb3:=kD c4 hb3;refine goL ?_;obtain⟨x5,ac,hb3⟩:=gP hb3;obtain⟨ag,ac⟩:=gEd ac;refine gDf (gJd ag ac) ?_;refine goL ?_;refine yQ 23 (fun c6=>?_) (fun c6=>?_)
   ·replace hb3:=kD c6 hb3;refine goL ?_;cases hb3;exact eJ
   ·replace hb3:=kE c6 hb3;refine goL ?_;refine gDf (gJd ag ac) ?_;refine goL ?_;cases hb3;exact eJ
  ·replace hb3:=kE c4 hb3;refine goL ?_;cases hb3;exact eJ
 refine goC h ?_ ?_<;>intro c7 h
 ·refine noS ?_;refine jE ?_;refine goL ?_;refine jL (pR) ?_;exact⟨n2,(IntKind.i64.wrap (y1+1)),h,Nat.lt_succ_self _,eJ⟩
 ·refine gSn ?_;show mI _ _ _ _ _ _;obtain rfl:=Option.some.inj h;exact hEz [] [bIp f y1 y aa ab] ⟨rfl,rfl⟩
def gPm(c:vB):Option (vB):=gWh c 5000
def gGp(c:Int):Bool:=
lt_ ((cnd (decide (c≥97)) ((cnd (decide (c≤122)) (true) ((cnd (decide (c≥48)) ((cnd (decide (c≤57)) (true) ((cnd (c==39) (true) ((cnd (c==45) (true) ((cnd (c==43) (true) ((cnd (c==42) (true) ((cnd (c==60) (true) ((cnd (c==61) (true) ((c==46)))))))))))))))) ((cnd (c==39) (true) ((cnd (c==45) (true) ((cnd (c==43) (true) ((cnd (c==42) (true) ((cnd (c==60) (true) ((cnd (c==61) (true) ((c==46)))))))))))))))))) ((cnd (decide (c≥48)) ((cnd (decide (c≤57)) (true) ((cnd (c==39) (true) ((cnd (c==45) (true) ((cnd (c==43) (true) ((cnd (c==42) (true) ((cnd (c==60) (true) ((cnd (c==61) (true) ((c==46)))))))))))))))) ((cnd (c==39) (true) ((cnd (c==45) (true) ((cnd (c==43) (true) ((cnd (c==42) (true) ((cnd (c==60) (true) ((cnd (c==61) (true) ((c==46)))))))))))))))))) fun f=>
f
theorem hC7(c:Int):jC Tryz.prog 128 [.d (.i .u8 c)] [.b (gGp c)]:=by
 obtain⟨r,h⟩:∃r,gGp c=r:=⟨_,rfl⟩
 rw [h];unfold gGp at h;refine SpI Tryz.func128 fun A _=>?_;refine goL ?_;obtain⟨f,hb1,h⟩:=qB h;refine jT ⟨[(2,.B f)],[],Tryz.f128.ntmps⟩ ?_ ?_
 ·refine gqV 5 hb1 ?_ ?_<;>intro c2 hb1
  ·refine gqO 9 hb1 (fun c3 hb1=>?_);refine gqV 12 hb1 ?_ ?_<;>intro c4 hb1
   ·refine gqO 17 hb1 (fun c5 hb1=>?_);refine gqO 21 hb1 (fun c6 hb1=>?_);refine gqO 25 hb1 (fun c7 hb1=>?_);refine gqO 29 hb1 (fun c8 hb1=>?_);refine gqO 33 hb1 (fun c9 hb1=>?_);refine gqO 37 hb1 (fun y hb1=>?_);exact gqZ 41 hb1
   ·refine gqO 21 hb1 (fun aa hb1=>?_);refine gqO 25 hb1 (fun ab hb1=>?_);refine gqO 29 hb1 (fun ac hb1=>?_);refine gqO 33 hb1 (fun ad hb1=>?_);refine gqO 37 hb1 (fun ae hb1=>?_);exact gqZ 41 hb1
  ·refine gqV 12 hb1 ?_ ?_<;>intro ag hb1
   ·refine gqO 17 hb1 (fun ah hb1=>?_);refine gqO 21 hb1 (fun ai hb1=>?_);refine gqO 25 hb1 (fun aj hb1=>?_);refine gqO 29 hb1 (fun ak hb1=>?_);refine gqO 33 hb1 (fun al hb1=>?_);refine gqO 37 hb1 (fun am hb1=>?_);exact gqZ 41 hb1
   ·refine gqO 21 hb1 (fun an hb1=>?_);refine gqO 25 hb1 (fun ao hb1=>?_);refine gqO 29 hb1 (fun ap hb1=>?_);refine gqO 33 hb1 (fun aq hb1=>?_);refine gqO 37 hb1 (fun ar hb1=>?_);exact gqZ 41 hb1
 refine goL ?_;refine jK ?_;subst h;exact qA
end Go.Proofs.YtegahmhnmjnhhaaGreat
namespace Go.Proofs.YtegahmhnmjnhhaaGreat
open Go Go.Eng Go.RowKit
attribute [local irreducible] V VO VQ VY Quiet QR jC kT Rng mU mV mI
instance (n:Int):Decidable (gF7 n):=inferInstanceAs (Decidable (_∧_))
def dgs(u:Nat):List UInt8:=if u=0 then [] else Lib.decDigits u
theorem hNv{u:Nat}(h:u≠0):dgs u=dgs (u / 10)++[UInt8.ofNat (48+u % 10)]:=by
 unfold dgs;rw [if_neg h,Lib.decDigits];by_cases c:u < 10
 ·rw [dif_pos c,if_pos (by omega),Nat.mod_eq_of_lt c];rfl
 ·rw [dif_neg c,if_neg (by omega)]
theorem hR3{n:Int}(h:gF7 n):(dgs n.natAbs).length≤21:=by
 unfold dgs;split
 ·simp
 ·have:=Lib.itoa_length_le n h.1 h.2
  unfold Lib.itoa at this;split at this
  ·simp at this;omega
  ·have e:n.natAbs=n.toNat:=by omega
   rw [e];exact this
theorem itoa_neg{n:Int}(h:n < 0):Lib.itoa n=45::dgs n.natAbs:=by unfold Lib.itoa dgs;rw [if_pos h,if_neg (by omega)]
theorem hNw{n:Int}(h:0 < n):Lib.itoa n=dgs n.natAbs:=by unfold Lib.itoa dgs;rw [if_neg (by omega),if_neg (by omega)];congr 1;omega
theorem hJt:Lib.itoa 0=[48]:=by unfold Lib.itoa;rw [if_neg (by omega),Lib.decDigits];rfl
theorem hJu{m:Int}(h:m.tmod 10 < 0):IntKind.i64.wrap (0 - m.tmod 10)=((m.natAbs % 10:Nat):Int):=by
 have e:m.tmod 10= -((m.natAbs % 10:Nat):Int):=by
  rcases Int.natAbs_eq m with c | c
  ·rw [c] at h
   have:=Int.tmod_nonneg (a:=(m.natAbs:Int)) 10 (by omega)
   omega
  ·conv=>lhs;rw [c]
   rw [Int.neg_tmod]
   have:((m.natAbs:Int)).tmod 10=((m.natAbs % 10:Nat):Int):=by rw [show (10:Int)=((10:Nat):Int)from rfl,←Int.ofNat_tmod];
   rw [this]
 rw [e,qR _ (by omega) (by omega)];omega
theorem hJw{m:Int}(h:¬m.tmod 10 < 0):m.tmod 10=((m.natAbs % 10:Nat):Int):=by
 have key:((m.natAbs:Int)).tmod 10=((m.natAbs % 10:Nat):Int):=by rw [show (10:Int)=((10:Nat):Int)from rfl,←Int.ofNat_tmod]
 rcases Int.natAbs_eq m with c | c
 ·conv=>lhs;rw [c]
  exact key
 ·have e:m.tmod 10= -((m.natAbs % 10:Nat):Int):=by
   conv=>lhs;rw [c]
   rw [Int.neg_tmod,key]
  omega
theorem gWj(m:Int):(m.tdiv 10).natAbs=m.natAbs / 10:=by simp [Int.natAbs_tdiv];rfl
theorem gOj{m:Int}(h:gF7 m):gF7 (m.tdiv 10)∧IntKind.i64.wrap (m.tdiv 10)=m.tdiv 10:=by
 have:=gWj m
 have hr:gF7 (m.tdiv 10):=by
  obtain⟨c,f⟩:=h;unfold gF7;omega
 exact⟨hr,qR _ hr.1 hr.2⟩
theorem byte_of(u:Nat):UInt8.ofNat (IntKind.u8.wrap (IntKind.i64.wrap (48+((u % 10:Nat):Int)))).toNat=UInt8.ofNat (48+u % 10):=by
 have:u % 10 < 10:=Nat.mod_lt _ (by decide)
 generalize u % 10=k at this
 match k,this with
 | 0,_ | 1,_ | 2,_ | 3,_ | 4,_ | 5,_ | 6,_ | 7,_ | 8,_ | 9,_=>rfl
theorem round_eq{n m:Int}{out:List UInt8}(hm:m≠0)(h:dgs n.natAbs=dgs m.natAbs++out):dgs n.natAbs=dgs (m.tdiv 10).natAbs++([UInt8.ofNat (48+m.natAbs % 10)]++out):=by
 rw [h,hNv (u:=m.natAbs) (by omega),gWj,List.append_assoc]
set_option maxHeartbeats 4000000 in
theorem gLu(n:Int)(hn:gF7 n):jC Tryz.prog 39 [.d (.i .i64 n)] [.s (Lib.itoa n)]:=by
 refine gR9 Tryz.func39 rfl (by kernel_rfl) rfl fun A _=>?_;refine goL ?_;refine kX (fun f=>?_) (fun f=>?_)
 ·have:n=0:=by simpa using f
  subst this;rw [hJt];refine goL ?_;refine jK ?_;exact qA
 refine zA ?_;show V _ _ _ _ _;have hn0:n≠0:=by simpa using f
 refine goL ?_;refine jW (jE ?_);refine mQ (fun(x:Int × List UInt8)=>⟨[(0,.d (.i .i64 x.1)),(2,.d (.s [])),(3,.d (.b (decide (n < 0)))),(4,.d (.s x.2))],[],Tryz.f39.ntmps⟩) (fun x=>gF7 x.1∧dgs n.natAbs=dgs x.1.natAbs++x.2) (fun x=>x.1.natAbs) (n,[]) ⟨rfl,⟨⟨rfl,rfl⟩,⟨rfl,rfl⟩,⟨rfl,rfl⟩,⟨rfl,rfl⟩,trivial⟩,⟨_,rfl⟩,rfl⟩ ⟨hn,by simp⟩ ?_;rintro⟨m,out⟩ ⟨hr,hd⟩;have hl:=hR3 hn;have hol:out.length≤21:=by rw [hd] at hl;simp at hl;omega
 dsimp only;refine goL ?_;refine kX (fun h=>?_) (fun h=>?_)
 ·have hm:m≠0:=by simpa using h
  refine zA ?_;show V _ _ _ _ _;refine jE ?_;refine goL ?_;refine gAq hUo ?_;refine goL ?_;refine kX (fun c=>?_) (fun c=>?_)
  ·have hd3:=hJu (of_decide_eq_true c);refine goL ?_;refine qI pR ?_;rw [hd3];refine goL ?_;refine qI pR ?_;refine goL ?_;refine gAq (gZz rfl Tryz.underlying3 Tryz.underlying5) ?_;refine goL ?_;refine hUk (u:=.i .u8 _) ?_;refine gAq (hCk rfl rfl Tryz.underlying22 Tryz.underlying5 Tryz.underlying9) ?_;rw [byte_of];refine goL ?_;refine qI (wO (a:=[_]) (b:=out) (by simp;omega)) ?_;refine goL ?_;refine gAq (hPa (gOj hr).2) ?_;refine goL ?_;exact⟨(m.tdiv 10,_),⟨(gOj hr).1,round_eq hm hd⟩,by have:=gWj m;simp only;omega,⟨rfl,⟨⟨rfl,rfl⟩,⟨rfl,rfl⟩,⟨rfl,rfl⟩,⟨rfl,rfl⟩,trivial⟩,⟨_,rfl⟩,rfl⟩⟩
  ·have hd3:=hJw (of_decide_eq_false c);refine zA ?_;show V _ _ _ _ _;refine goL ?_;rw [hd3];refine qI pR ?_;refine goL ?_;refine gAq (gZz rfl Tryz.underlying3 Tryz.underlying5) ?_;refine goL ?_;refine hUk (u:=.i .u8 _) ?_;refine gAq (hCk rfl rfl Tryz.underlying22 Tryz.underlying5 Tryz.underlying9) ?_;rw [byte_of];refine goL ?_;refine qI (wO (a:=[_]) (b:=out) (by simp;omega)) ?_;refine goL ?_;refine gAq (hPa (gOj hr).2) ?_;refine goL ?_;exact⟨(m.tdiv 10,_),⟨(gOj hr).1,round_eq hm hd⟩,by have:=gWj m;simp only;omega,⟨rfl,⟨⟨rfl,rfl⟩,⟨rfl,rfl⟩,⟨rfl,rfl⟩,⟨rfl,rfl⟩,trivial⟩,⟨_,rfl⟩,rfl⟩⟩
 ·have hm:m=0:=by simpa using h
  subst hm;refine gSn ?_;show V _ _ _ _ _;refine goL ?_;simp [dgs] at hd;refine kX (fun c=>?_) (fun c=>?_)
  ·have y:=of_decide_eq_true c;rw [itoa_neg y,show dgs n.natAbs=out by simp [dgs,hd]];refine goL ?_;refine qI (wO (a:=[45]) (b:=out) (by simp;omega)) ?_;refine goL ?_;refine jK ?_;exact qA
  ·have y:=of_decide_eq_false c;rw [hNw (by omega),show dgs n.natAbs=out by simp [dgs,hd]];refine zA ?_;show V _ _ _ _ _;refine goL ?_;refine jK ?_;exact qA
end Go.Proofs.YtegahmhnmjnhhaaGreat
namespace Go.Proofs.YtegahmhnmjnhhaaGreat
open Go Go.Eng
attribute [local irreducible] V VO VQ VY Quiet QR jC kT Rng mU mV mI
end Go.Proofs.YtegahmhnmjnhhaaGreat
