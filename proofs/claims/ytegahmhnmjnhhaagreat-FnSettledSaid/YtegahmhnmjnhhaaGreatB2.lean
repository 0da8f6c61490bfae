import Derived.Test.YtegahmhnmjnhhaaGreatSfi0
set_option maxHeartbeats 4000000
set_option linter.unusedVariables false
set_option linter.unusedSimpArgs false
set_option linter.unusedSectionVars false
namespace Go.Proofs.YtegahmhnmjnhhaaGreat
open Go Go.Eng
attribute [local irreducible] V VO VQ VY Quiet QR jC kT Rng mU mV mI
def gEp(a1:List UInt8):List (List UInt8)→Bool
 | []=>false
 | c::xs=>(cnd (c==a1) (
true) (
gEp a1 xs ))
def wQ(c:List (List UInt8))(a1:List UInt8):Bool:=
gEp a1 c
theorem gF4(y:List (List UInt8))(a1:List UInt8):jC Tryz.prog 139 [.L 1 (jP y),.S a1] [.b (wQ y a1)]:=by
 obtain⟨r,h⟩:∃r,wQ y a1=r:=⟨_,rfl⟩
 rw [h];unfold wQ at h;refine SpI Tryz.func139 fun A _=>?_;refine goL ?_;refine noB ?_;refine gBx 0 (fun z2=>?_);refine mQ (fun(f:Nat)=>⟨[(0,.L 1 (jP y)),(1,.S a1),(5,.N f)],[],Tryz.f139.ntmps⟩) (fun f=>gEp a1 (y.drop f)  =r) (fun f=>y.length - f) 0 eJ h ?_;rintro f h;refine goL ?_;refine kX (fun c3=>?_) (fun c3=>?_)
 ·have c:=uR c3;obtain⟨x4,ac,aa⟩:=drop_at c;rw [aa,gEp.eq_2] at h;refine noS ?_;refine jW (jE ?_);refine goL ?_;refine jL (jM f (gQq ac)) ?_;refine kX (fun c5=>?_) (fun c5=>?_)
  ·replace h:=kD c5 h;refine goL ?_;refine jK ?_;subst h;exact qA
  ·replace h:=kE c5 h;refine goS ?_;refine jL (jR f (by omega)) ?_;exact⟨(f+1),h,by omega,eJ⟩
 ·have c:=uS c3;rw [jF c,gEp.eq_1] at h;refine goX ?_;refine jK ?_;subst h;exact qA
def gC9(c:gB→(List (List UInt8))→Option (List (List UInt8))):List gB→(List (List UInt8))→Option (List (List UInt8))
 | [],f=>(some f)
 | h::xs,f=>bnd (c h f) fun y=>
gC9 c xs y
def gDa(c:gB→(List (List UInt8))→Option (List (List UInt8))):List gB→(List (List UInt8))→Option (List (List UInt8))
 | [],f=>(some f)
 | h::xs,f=>bnd (c h f) fun y=>
gDa c xs y
def gQd(c:gB→(List (List UInt8))→Option (List (List UInt8)))(t:gB)(f:List (List UInt8)):Option (List (List UInt8)):=
lt_ ((cnd (t.kind==1) ((!(wQ f t.name))) (false))) fun h=>
(cnd h (
gd (f.length+[t.name].length≤4294967296) (
gC9 c t.args (f++[t.name]))) (
gDa c t.args f))
theorem hLr{c:gB→(List (List UInt8))→Option (List (List UInt8))}(f:∀(x0:gB) (x1:List (List UInt8)) (w0:Nat) {r:List (List UInt8)},c x0 x1=some r→Go.Eng.Spec Tryz.prog 242 [.d (jS x0),.sl 0 w0] [.own 9 1 w0 (jP x1)] (fun sv Lo=>∃v'0,sv=.sl 0 v'0∧Lo=[.own 9 1 v'0 (jP r)]))(t:gB)(l0:List (List UInt8))(v0:Nat){r:List (List UInt8)}(h:gQd c t l0=some r):Go.Eng.Spec Tryz.prog 242 [.d (jS t),.sl 0 v0] [.own 9 1 v0 (jP l0)] (fun sv Lo=>∃v'0,sv=.sl 0 v'0∧Lo=[.own 9 1 v'0 (jP r)]):=by
 obtain⟨ah,ad,y⟩:=t;unfold gQd at h;refine kM 1 Tryz.func242 rfl (by kernel_rfl) rfl rfl fun A _=>?_;refine goL ?_;obtain⟨b1,hb1,h⟩:=qB h;refine jT ⟨[(1,.sl 0 v0),(2,.ptr 1 0),(15,.B b1)],[.own 9 1 v0 (jP l0),bTy ah ad y],Tryz.f242.ntmps⟩ ?_ ?_
 ·refine gqA 9 hb1 (fun c2 hb1=>?_);refine gBn (gW2 (gF4 l0 ad)) ?_;cases hb1;exact eJ
 refine goC h ?_ ?_<;>intro c3 h
 ·refine goL ?_;refine gBc ad ?_;obtain⟨g4,h⟩:=mW h;refine gH3 g4 ?_;refine goL ?_;refine noB ?_;refine wN 1 2 (fun z8=>?_);refine kS (fun(y7:Nat) (y5:List (List UInt8)) (v6:Nat)=>⟨[(1,.sl 0 v6),(2,.ptr 1 0),(5,.N y7)],[.own 9 1 v6 (jP y5),bTy ah ad y,.dead 1],Tryz.f242.ntmps⟩) (fun y7 y5 v6=>gC9 c (y.drop y7) y5=some r) (fun y7 y5 v6=>y.length - y7) 0 (l0++[ad]) (v0+1) eJ h ?_;rintro y7 y5 v6 h;refine goL ?_;refine kX (fun c9=>?_) (fun c9=>?_)
  ·have ae:=uR c9;obtain⟨ba,a3,al⟩:=drop_at ae;rw [al,gC9.eq_2] at h;obtain⟨am,an,ao⟩:=ba;refine noS ?_;refine jW (jE ?_);refine goL ?_;refine jL (jM y7 (zL a3)) ?_;obtain⟨a4,a5,h⟩:=gP h;refine yY [0] (f (gB.mk am an ao) y5 v6 a5) ?_;rintro _ _ ⟨ap,rfl,rfl⟩;show VO _ _ _ _ ⟨(_,.sl 0 ap)::_,[.own 9 1 ap (jP a4),bTy ah ad y,.dead 1],_⟩ _;refine goL ?_;refine jL (jR y7 (by omega)) ?_;exact⟨(y7+1),a4,ap,h,by omega,eJ⟩
  ·have ae:=uS c9;rw [jF ae,gC9.eq_1] at h;refine goX ?_;refine jK ?_;obtain rfl:=Option.some.inj h;exact zB [.sl 0 v6] [.own 9 1 v6 (jP y5)] ⟨v6,rfl,rfl⟩
 ·refine goS ?_;refine noB ?_;refine wN 1 2 (fun bh=>?_);refine kS (fun(aa:Nat) (ag:List (List UInt8)) (ab:Nat)=>⟨[(1,.sl 0 ab),(2,.ptr 1 0),(5,.N aa)],[.own 9 1 ab (jP ag),bTy ah ad y],Tryz.f242.ntmps⟩) (fun aa ag ab=>gDa c (y.drop aa) ag=some r) (fun aa ag ab=>y.length - aa) 0 l0 v0 eJ h ?_;rintro aa ag ab h;refine goL ?_;refine kX (fun aq=>?_) (fun aq=>?_)
  ·have ac:=uR aq;obtain⟨bb,a6,ar⟩:=drop_at ac;rw [ar,gDa.eq_2] at h;obtain⟨au,av,aw⟩:=bb;refine noS ?_;refine jW (jE ?_);refine goL ?_;refine jL (jM aa (zL a6)) ?_;obtain⟨a7,a8,h⟩:=gP h;refine yY [0] (f (gB.mk au av aw) ag ab a8) ?_;rintro _ _ ⟨ax,rfl,rfl⟩;show VO _ _ _ _ ⟨(_,.sl 0 ax)::_,[.own 9 1 ax (jP a7),bTy ah ad y],_⟩ _;refine goL ?_;refine jL (jR aa (by omega)) ?_;exact⟨(aa+1),a7,ax,h,by omega,eJ⟩
  ·have ac:=uS aq;rw [jF ac,gDa.eq_1] at h;refine goX ?_;refine jK ?_;obtain rfl:=Option.some.inj h;exact zB [.sl 0 ab] [.own 9 1 ab (jP ag)] ⟨ab,rfl,rfl⟩
def gNt:Nat→gB→(List (List UInt8))→Option (List (List UInt8))
 | 0,_,_=>none
 | n+1,c,f=>gQd (gNt n) c f
theorem hLs:∀(n:Nat) (c:gB) (f:List (List UInt8)) (y:Nat) {r:List (List UInt8)},gNt n c f=some r→Go.Eng.Spec Tryz.prog 242 [.d (jS c),.sl 0 y] [.own 9 1 y (jP f)] (fun sv Lo=>∃v'0,sv=.sl 0 v'0∧Lo=[.own 9 1 v'0 (jP r)]):=by
 intro n
 induction n with
 | zero=>intro c f y r h;cases h
 | succ n ih=>intro c f y r h;exact hLr ih c f y h
theorem hBs(a:List UInt8):∀l:List (List UInt8),gEp a l=decide (a∈l)
 | []=>rfl
 | x::l=>by
   simp only [gEp,hBs a l];by_cases h:x=a
   ·subst h;simp [gZ]
   ·rw [beq_false_of_ne h];have h':¬a=x:=fun e=>h e.symm;simp [gK,h']
theorem hLt(l:List (List UInt8))(a:List UInt8):wQ l a=decide (a∈l):=hBs a l
theorem gNu{rec:gB→List (List UInt8)→Option (List (List UInt8))}:∀(xs:List gB) (y:List (List UInt8)),(∀x∈xs,∀l,l.length+tnd x≤4294967296→rec x l=some (gKy x l))→y.length+gA6 xs≤4294967296→gC9 rec xs y=some (gIy xs y)∧gDa rec xs y=some (gIy xs y)
 | [],y,_,_=>⟨rfl,rfl⟩
 | x::xs,y,h,hl=>by
   simp only [gA6] at hl;have c:=gTg x y;simp only [gC9,gDa,gIy];rw [h x (by simp) y (by omega)];exact gNu xs _ (fun z hz=>h z (by simp [hz])) (by omega)
theorem gW7:∀(n:Nat) (t:gB) (l:List (List UInt8)),tnd t≤n→l.length+tnd t≤4294967296→gNt n t l=some (gKy t l)
 | 0,t,l,h,_=>by have:=gBq t;omega
 | n+1,⟨k,s,ts⟩,l,h,hl=>by
   simp only [tnd] at h hl;have hr:∀x∈ts,∀l,l.length+tnd x≤4294967296→gNt n x l=some (gKy x l):=fun x hx l hl=>gW7 n x l (by have:=zC hx;omega) hl;simp only [gNt,gQd,lt_,hLt,gKy,gMw];by_cases hk:k=1
   ·by_cases hs:s∈l
    ·simp only [hk,hs,beq_self_eq_true,gZ,decide_true,Bool.not_true,gK];simp only [not_true,and_false,if_false];exact(gNu ts l hr (by omega)).2
    ·simp only [hk,hs,beq_self_eq_true,gZ,decide_false,Bool.not_false];simp only [not_false_eq_true,and_self,if_true];rw [mK (by simp;omega)];exact(gNu ts (l++[s]) hr (by simp;omega)).1
   ·simp only [beq_false_of_ne hk,gK,hk,false_and,if_false];exact(gNu ts l hr (by omega)).2
theorem hLu(c:gB)(f:List (List UInt8))(y:Nat)(h:(f:List (List UInt8)).length+tnd c≤4294967296):Go.Eng.Spec Tryz.prog 242 [.d (jS c),.sl 0 y] [.own 9 1 y (jP f)] (fun sv Lo=>∃v'0,sv=.sl 0 v'0∧Lo=[.own 9 1 v'0 (jP (gKy c f))]):=hLs (tnd c) c f y (gW7 _ _ _ (Nat.le_refl _) h)
def gF5(c:gB):Option (List (List UInt8)):=
gd (([]:List (List UInt8)).length+tnd c≤4294967296) (lt_ (gKy c []) fun f=>
(some f))
theorem gP8(a0:gB){r:List (List UInt8)}(h:gF5 a0=some r):jC Tryz.prog 231 [.d (jS a0)] [.sl 1 (jP r)]:=by
 obtain⟨c,f,y⟩:=a0;unfold gF5 at h;refine SpI Tryz.func231 fun A _=>?_;refine goL ?_;refine gF9 ?_;obtain⟨g2,h⟩:=mW h;obtain⟨x1,ab,h⟩:=qB h;have sx1:=hLu (gB.mk c f y) [] 0 g2;rw [ab] at sx1;refine yY [1] (sx1) ?_;rintro _ _ ⟨v3,rfl,rfl⟩;show VO _ _ _ _ ⟨(_,.sl 1 v3)::_,[bTy c f y,.own 9 1 v3 (jP x1)],_⟩ _;refine goL ?_;refine uH 1 rfl rfl ?_;refine jK ?_;cases h;exact qA
def gJq(c:gD→Int→Option (Int))(y:gD):Nat→Int→Int→Option (Int)
 | 0,f,h=>none
 | n3+1,f,h=>lt_ ((cnd (decide (h < (y.list.length:Int))) ((decide (f≥0))) (false))) fun b4=>
(cnd b4 (
bnd (at? y.list h) fun x7=>
bnd (c x7 f) fun x8=>
gJq c y n3 x8 (IntKind.i64.wrap (h+1))) (
(some f)))
def gVe(c:gD→Int→Option (Int))(f:gD)(a1:Int)(h:Nat):Option (Int):=
gJq c f h (IntKind.i64.wrap (a1 - 1)) 0
theorem hLv{c:gD→Int→Option (Int)}(f:∀(x0:gD) (x1:Int) {r:Int},c x0 x1=some r→jC Tryz.prog 129 [.d (pF x0),.I x1] [.i .i64 r])(a0:gD)(a1:Int){n0:Nat}{r:Int}(h:gVe c a0 a1 n0=some r):jC Tryz.prog 129 [.d (pF a0),.I a1] [.i .i64 r]:=by
 obtain⟨y,aa⟩:=a0;unfold gVe at h;refine SpI Tryz.func129 fun A _=>?_;refine goL ?_;refine jL (pR) ?_;refine noB ?_;refine kS (fun(n3:Nat) (y1:Int) (y2:Int)=>⟨[(1,.I y1),(2,.ptr 0 0),(5,.I y2)],[bSx y aa],Tryz.f129.ntmps⟩) (fun n3 y1 y2=>gJq c (gD.mk y aa) n3 y1 y2=some r) (fun n3 y1 y2=>n3) n0 (IntKind.i64.wrap (a1 - 1)) 0 eJ h ?_;rintro n3 y1 y2 h;rcases n3 with _ | n3
 ·cases h
 rw [gJq.eq_2] at h;refine goL ?_;obtain⟨b4,hb4,h⟩:=qB h;refine jT ⟨[(1,.I y1),(2,.ptr 0 0),(5,.I y2),(16,.B b4)],[bSx y aa],Tryz.f129.ntmps⟩ ?_ ?_
 ·exact gqZ 13 hb4
 refine goC h ?_ ?_<;>intro c6 h
 ·refine noS ?_;refine jW (jE ?_);refine goL ?_;obtain⟨x7,ad,h⟩:=gP h;obtain⟨ag,ad⟩:=gEd ad;obtain⟨am,an⟩:=x7;refine jL (qP ag (uG ad)) ?_;obtain⟨x8,ai,h⟩:=gP h;refine jL (gF (f _ _ ai)) ?_;refine jL (pR) ?_;exact⟨n3,x8,(IntKind.i64.wrap (y2+1)),h,Nat.lt_succ_self _,eJ⟩
 ·refine goX ?_;refine jK ?_;cases h;exact qA
def gVf:Nat→gD→Int→Option (Int)
 | 0,_,_=>none
 | n+1,c,f=>gVe (gVf n) c f n
theorem hLw:∀(n:Nat) (c:gD) (f:Int) {r:Int},gVf n c f=some r→jC Tryz.prog 129 [.d (pF c),.I f] [.i .i64 r]:=by
 intro n
 induction n with
 | zero=>intro c f r h;cases h
 | succ n ih=>intro c f r h;exact hLv ih c f h
def gM1(c:Int)(a1:Int):Int:=
(cnd (decide (c > a1)) (
c) (
a1))
theorem hGc(c:Int)(a1:Int):jC Tryz.prog 163 [.I c,.I a1] [.i .i64 (gM1 c a1)]:=by
 obtain⟨r,h⟩:∃r,gM1 c a1=r:=⟨_,rfl⟩
 rw [h];unfold gM1 at h;refine SpI Tryz.func163 fun A _=>?_;refine goC h ?_ ?_<;>intro f h
 ·refine goL ?_;refine jK ?_;subst h;exact qA
 ·refine goS ?_;refine jK ?_;subst h;exact qA
def gFg:List gD→(List (List UInt8))→Option (List (List UInt8) × Bool)
 | [],c=>(some (c,true))
 | f::xs,c=>(cnd (f.atom==[]) (
(some ([],false))) (
gd (c.length+[f.atom].length≤4294967296) (
gFg xs (c++[f.atom]))))
def gK3(c:List gD):Option (List (List UInt8) × Bool):=
gFg c []
theorem gRn(a0:List gD){r:List (List UInt8) × Bool}(h:gK3 a0=some r):jC Tryz.prog 112 [.L 2 (jA a0)] [.sl 1 (jP r.1),.b r.2]:=by
 unfold gK3 at h;refine SpI Tryz.func112 fun A _=>?_;refine goL ?_;refine gF9 ?_;refine goL ?_;refine noB ?_;refine gBx 0 (fun z4=>?_);refine kS (fun(f:Nat) (y1:List (List UInt8)) (v2:Nat)=>⟨[(0,.L 2 (jA a0)),(4,.sl 0 v2),(5,.N f)],[.own 9 1 v2 (jP y1)],Tryz.f112.ntmps⟩) (fun f y1 v2=>gFg (a0.drop f) y1=some r) (fun f y1 v2=>a0.length - f) 0 [] 0 eJ h ?_;rintro f y1 v2 h;refine goL ?_;refine kX (fun c5=>?_) (fun c5=>?_)
 ·have c:=uR c5;obtain⟨x6,ad,ae⟩:=drop_at c;rw [ae,gFg.eq_2] at h;obtain⟨y,ai⟩:=x6;refine noS ?_;refine jW (jE ?_);refine goL ?_;refine jL (jM f (uG ad)) ?_;refine kX (fun c7=>?_) (fun c7=>?_)
  ·replace h:=kD c7 h;refine goL ?_;refine gF9 ?_;refine goL ?_;refine uH 1 rfl rfl ?_;refine jK ?_;cases h;exact qA
  ·replace h:=kE c7 h;refine goS ?_;refine jL (jM f (uG ad)) ?_;refine gBc y ?_;obtain⟨g8,h⟩:=mW h;refine gH3 g8 ?_;refine goL ?_;refine jL (jR f (by omega)) ?_;exact⟨(f+1),(y1++[y]),(v2+1),h,by omega,eJ⟩
 ·have c:=uS c5;rw [jF c,gFg.eq_1] at h;refine goX ?_;refine uH 0 rfl rfl ?_;refine jK ?_;cases h;exact qA
def qL(c:gD)(a1:Int):Option (gD):=
(cnd (decide (a1≥(c.list.length:Int))) (
(some (gD.mk [] []))) (
bnd (at? c.list a1) fun f=>
(some f)))
theorem qY(y:gD)(a1:Int){r:gD}(h:qL y a1=some r):jC Tryz.prog 113 [.d (pF y),.I a1] [pF r]:=by
 obtain⟨aa,ab⟩:=y;unfold qL at h;refine SpI Tryz.func113 fun A _=>?_;refine goC h ?_ ?_<;>intro c1 h
 ·refine goL ?_;refine gAq (jU TBd.h TZ.h rfl (by repeat constructor)) ?_;exact goR h
 ·refine goS ?_;obtain⟨x2,c,h⟩:=gP h;obtain⟨f,c⟩:=gEd c;obtain⟨ac,ad⟩:=x2;refine qI (qP f (uG c)) ?_;exact goR h
def uQ(c:Int)(a1:Int):Int:=
(cnd (decide (c < a1)) (
c) (
a1))
theorem gJr(c:Int)(a1:Int):jC Tryz.prog 198 [.I c,.I a1] [.i .i64 (uQ c a1)]:=by
 obtain⟨r,h⟩:∃r,uQ c a1=r:=⟨_,rfl⟩
 rw [h];unfold uQ at h;refine SpI Tryz.func198 fun A _=>?_;refine goC h ?_ ?_<;>intro f h
 ·refine goL ?_;refine jK ?_;subst h;exact qA
 ·refine goS ?_;refine jK ?_;subst h;exact qA
def wG(c:List UInt8):gB:=
(gB.mk 1 c [])
theorem gM2(c:List UInt8):jC Tryz.prog 31 [.S c] [jS (wG c)]:=by
 obtain⟨r,h⟩:∃r,wG c=r:=⟨_,rfl⟩
 rw [h];unfold wG at h;refine SpI Tryz.func31 fun A _=>?_;refine goL ?_;refine gBn (jU TBd.h TZ.h rfl (by repeat constructor)) ?_;refine jK ?_;subst h;exact qA
def gI0(c:List UInt8)(a1:List gB):Option (gB):=
gd (([]:List gB).length+a1.length≤4294967296) (
(some (gB.mk 2 c ([]++a1))))
theorem gOy(c:List UInt8)(a1:List gB){r:gB}(h:gI0 c a1=some r):jC Tryz.prog 40 [.S c,.L 3 (jJ a1)] [jS r]:=by
 unfold gI0 at h;refine SpI Tryz.func40 fun A _=>?_;refine goL ?_;refine gAl ?_;refine goL ?_;obtain⟨f,h⟩:=mW h;refine gBd f ?_;refine gBn (jU TBd.h TZ.h rfl (by repeat constructor)) ?_;refine kN 1 rfl rfl ?_;refine jK ?_;cases h;exact qA
def gG6(a0:List UInt8)(b1:Bool):List UInt8→Int→Option (Int × Bool)
 | [],c=>bnd ((cnd b1 (
(some (IntKind.i64.wrap ((0:Int) - c)))) (
(some c)))) fun f=>
gd (gF7 f) ((cnd (!((Lib.itoa f)==a0)) (
(some (0,false))) (
(some (f,true)))))
 | h::xs,c=>lt_ ((cnd (decide ((h.toNat:Int) < 48)) (true) ((decide ((h.toNat:Int) > 57))))) fun y=>
(cnd y (
(some (0,false))) (
gG6 a0 b1 xs (IntKind.i64.wrap ((IntKind.i64.wrap ((10:Int)*c))+(IntKind.i64.wrap (IntKind.u8.wrap ((h.toNat:Int) - 48)))))))
def gVg(c:List UInt8)(a1:Int):Option (Int × Bool):=
bnd ((cnd (decide ((c.length:Int) > 0)) (bnd (at? c 0) fun y=>
(some ((y.toNat:Int)==45))) ((some false)))) fun h=>
bnd ((cnd h (
gd (0≤(1:Int)∧1≤(c.length:Int)) (
(some (c.drop (Int.toNat 1))))) (
(some c)))) fun f=>
lt_ ((cnd (decide ((f.length:Int) < 1)) (true) ((decide ((f.length:Int) > a1))))) fun b7=>
(cnd b7 (
(some (0,false))) (
gG6 c h f 0))
theorem hLx(a0:List UInt8)(a1:Int){r:Int × Bool}(h:gVg a0 a1=some r):jC Tryz.prog 227 [.S a0,.I a1] [.i .i64 r.1,.b r.2]:=by
 unfold gVg at h;refine SpI Tryz.func227 fun A _=>?_;refine goL ?_;obtain⟨b1,hb1,h⟩:=gP h;refine jT ⟨[(0,.S a0),(1,.I a1),(6,.B b1)],[],Tryz.f227.ntmps⟩ ?_ ?_
 ·refine gqA 13 hb1 (fun c2 hb1=>?_);obtain⟨x3,ac,hb1⟩:=gP hb1;obtain⟨ak,ac⟩:=gEd ac;refine jL (gJd ak ac) ?_;cases hb1;exact eJ
 refine goL ?_;obtain⟨b4,hb4,h⟩:=gP h;refine gEf ⟨[(0,.S a0),(1,.I a1),(6,.B b1),(7,.S b4)],[],Tryz.f227.ntmps⟩ ?_ ?_
 ·refine kX (fun c5=>?_) (fun c5=>?_)
  ·replace hb4:=kD c5 hb4;refine goL ?_;obtain⟨g6,hb4⟩:=mW hb4;refine jL (hPg g6) ?_;cases hb4;exact eJ
  ·replace hb4:=kE c5 hb4;refine zA ?_;cases hb4;exact eJ
 refine goL ?_;obtain⟨b7,hb7,h⟩:=qB h;refine jT ⟨[(0,.S a0),(6,.B b1),(7,.S b4),(30,.B b7)],[],Tryz.f227.ntmps⟩ ?_ ?_
 ·exact gqZ 25 hb7
 refine goC h ?_ ?_<;>intro c9 h
 ·exact goR h
 ·refine goS ?_;refine noB ?_;refine hId 7 (fun au=>?_);refine gEe (fun(c:Nat) (y:Int)=>⟨[(0,.S a0),(6,.B b1),(7,.S b4),(8,.I y),(9,.N c)],[],Tryz.f227.ntmps⟩) (fun c y=>gG6 a0 b1 (b4.drop c) y=some r) (fun c y=>b4.length - c) 0 0 eJ h ?_;rintro c y h;refine goL ?_;refine kX (fun ad=>?_) (fun ad=>?_)
  ·have f:=hS3 ad;obtain⟨an,aa,ae⟩:=drop_at f;rw [ae,gG6.eq_2] at h;refine noS ?_;refine jW (jE ?_);refine goL ?_;refine jL (gF8 c aa) ?_;obtain⟨ao,hb15,h⟩:=qB h;refine jT ⟨[(0,.S a0),(6,.B b1),(7,.S b4),(8,.I y),(9,.N c),(46,.B ao)],[],Tryz.f227.ntmps⟩ ?_ ?_
   ·refine gqO 41 hb15 (fun av hb15=>?_);refine jL (gF8 c aa) ?_;cases hb15;exact eJ
   refine goC h ?_ ?_<;>intro aw h
   ·exact goR h
   ·refine goS ?_;refine jL (pR) ?_;refine qI (gF8 c aa) ?_;refine qI (pR) ?_;refine qI (hQ8 Tryz.underlying5 Tryz.underlying3) ?_;refine jL (pR) ?_;refine jL (jR c (by omega)) ?_;exact⟨(c+1),(IntKind.i64.wrap ((IntKind.i64.wrap ((10:Int)*y))+(IntKind.i64.wrap (IntKind.u8.wrap ((an.toNat:Int) - 48))))),h,by omega,eJ⟩
  ·have f:=hS4 ad;rw [jF f,gG6.eq_1] at h;refine goX ?_;obtain⟨al,hb18,h⟩:=gP h;refine gEf ⟨[(0,.S a0),(8,.I al)],[],Tryz.f227.ntmps⟩ ?_ ?_
   ·refine kX (fun ag=>?_) (fun ag=>?_)
    ·replace hb18:=kD ag hb18;refine goL ?_;refine jL (pR) ?_;cases hb18;exact eJ
    ·replace hb18:=kE ag hb18;refine zA ?_;cases hb18;exact eJ
   refine goL ?_;obtain⟨ap,h⟩:=mW h;refine jL (gF (gLu al ap)) ?_;refine kX (fun ah=>?_) (fun ah=>?_)
   ·replace h:=kD ah h;exact goR h
   ·replace h:=kE ah h;refine goS ?_;refine jK ?_;cases h;exact qA
def gQe(c:Int):kJ:=
(kJ.mk 1 [] [] c (gB.mk 0 [] []) [] [])
theorem hLy(c:Int):jC Tryz.prog 200 [.I c] [gCx (gQe c)]:=by
 obtain⟨r,h⟩:∃r,gQe c=r:=⟨_,rfl⟩
 rw [h];unfold gQe at h;refine SpI Tryz.func200 fun A _=>?_;refine goL ?_;refine gBn (jU TBd.h TZ.h rfl (by repeat constructor)) ?_;refine jK ?_;subst h;exact qA
def gQf(c:List UInt8):kJ:=
(kJ.mk 3 [] c 0 (gB.mk 0 [] []) [] [])
theorem hL8(c:List UInt8):jC Tryz.prog 201 [.S c] [gCx (gQf c)]:=by
 obtain⟨r,h⟩:∃r,gQf c=r:=⟨_,rfl⟩
 rw [h];unfold gQf at h;refine SpI Tryz.func201 fun A _=>?_;refine goL ?_;refine gBn (jU TBd.h TZ.h rfl (by repeat constructor)) ?_;refine jK ?_;subst h;exact qA
def gBa(c:gD→gD→Option (Bool))(a1:gD):List gD→Nat→Option (Bool)
 | [],f=>(some true)
 | h::xs,f=>bnd (at? a1.list (f:Int)) fun y=>
bnd (c h y) fun x9=>
(cnd (!x9) (
(some false)) (
gBa c a1 xs (f+1)))
def gJs(c:gD→gD→Option (Bool))(f:gD)(a1:gD):Option (Bool):=
lt_ ((cnd (!(f.atom==a1.atom)) (true) (((f.list.length:Int) !=(a1.list.length:Int))))) fun h=>
(cnd h (
(some false)) (
gBa c a1 f.list 0))
theorem gVh{c:gD→gD→Option (Bool)}(f:∀(x0:gD) (x1:gD) {r:Bool},c x0 x1=some r→jC Tryz.prog 169 [.d (pF x0),.d (pF x1)] [.b r])(a0:gD)(a1:gD){r:Bool}(h:gJs c a0 a1=some r):jC Tryz.prog 169 [.d (pF a0),.d (pF a1)] [.b r]:=by
 obtain⟨ae,aa⟩:=a0;obtain⟨ab,ac⟩:=a1;unfold gJs at h;refine SpI Tryz.func169 fun A _=>?_;refine goL ?_;obtain⟨b1,hb1,h⟩:=qB h;refine jT ⟨[(2,.ptr 0 0),(3,.ptr 1 0),(19,.B b1)],[bSx ae aa,bSx ab ac],Tryz.f169.ntmps⟩ ?_ ?_
 ·exact gqZ 11 hb1
 refine goC h ?_ ?_<;>intro c3 h
 ·exact goR h
 ·refine goS ?_;refine noB ?_;refine wN 0 1 (fun z5=>?_);refine mQ (fun(y4:Nat)=>⟨[(2,.ptr 0 0),(3,.ptr 1 0),(5,.N y4)],[bSx ae aa,bSx ab ac],Tryz.f169.ntmps⟩) (fun y4=>gBa c (gD.mk ab ac) (aa.drop y4) y4=some r) (fun y4=>aa.length - y4) 0 eJ h ?_;rintro y4 h;refine goL ?_;refine kX (fun c6=>?_) (fun c6=>?_)
  ·have y:=uR c6;obtain⟨x7,ak,ag⟩:=drop_at y;rw [ag,gBa.eq_2] at h;obtain⟨ao,ap⟩:=x7;refine noS ?_;refine jW (jE ?_);refine goL ?_;refine gE7 (jM y4 (uG ak)) ?_;refine goL ?_;obtain⟨x8,ah,h⟩:=gP h;rw [yZ] at ah;obtain⟨aq,ar⟩:=x8;refine gE7 (jM y4 (uG ah)) ?_;refine goL ?_;obtain⟨x9,al,h⟩:=gP h;refine gE7 (gF (f _ _ al)) ?_;refine goC h ?_ ?_<;>intro ax h
   ·exact goR h
   ·refine goS ?_;refine jL (jR y4 (by omega)) ?_;exact⟨(y4+1),h,by omega,eJ⟩
  ·have y:=uS c6;rw [jF y,gBa.eq_1] at h;refine goX ?_;refine jK ?_;cases h;exact qA
def gCl:Nat→gD→gD→Option (Bool)
 | 0,_,_=>none
 | n+1,c,f=>gJs (gCl n) c f
theorem gGg:∀(n:Nat) (c:gD) (f:gD) {r:Bool},gCl n c f=some r→jC Tryz.prog 169 [.d (pF c),.d (pF f)] [.b r]:=by
 intro n
 induction n with
 | zero=>intro c f r h;cases h
 | succ n ih=>intro c f r h;exact gVh ih c f h
def gGh(c:List UInt8):Bool:=
(wQ [[105,110,116],[98,111,111,108],[97,115,115,111,99],[100,121,110],[105,102],[108,101,116],[99,97,115,101],[110,101,119],[109,101,116,104,111,100],[112,97,99,107],[116,114,117,101],[102,97,108,115,101]] c)
theorem gVi(c:List UInt8):jC Tryz.prog 175 [.S c] [.b (gGh c)]:=by
 obtain⟨r,h⟩:∃r,gGh c=r:=⟨_,rfl⟩
 rw [h];unfold gGh at h;refine SpI Tryz.func175 fun A _=>?_;refine goL ?_;refine gSp (us:=jP [[105,110,116],[98,111,111,108],[97,115,115,111,99],[100,121,110],[105,102],[108,101,116],[99,97,115,101],[110,101,119],[109,101,116,104,111,100],[112,97,99,107],[116,114,117,101],[102,97,108,115,101]]) ?_;refine goL ?_;refine gBn (gW2 (gF4 [[105,110,116],[98,111,111,108],[97,115,115,111,99],[100,121,110],[105,102],[108,101,116],[99,97,115,101],[110,101,119],[109,101,116,104,111,100],[112,97,99,107],[116,114,117,101],[102,97,108,115,101]] c)) ?_;refine jK ?_;subst h;exact qA
def gAc(f:List (List UInt8)):List (List UInt8)→Nat→Option (Bool)
 | [],c=>(some true)
 | h::xs,c=>gd (0≤(c:Int)∧(c:Int)≤(f.length:Int)) (
(cnd (wQ (f.take (Int.toNat (c:Int))) h) (
(some false)) (
gAc f xs (c+1))))
def wV(c:List (List UInt8)):Option (Bool):=
gAc c c 0
theorem gBh(y:List (List UInt8)){r:Bool}(h:wV y=some r):jC Tryz.prog 140 [.L 1 (jP y)] [.b r]:=by
 unfold wV at h;refine SpI Tryz.func140 fun A _=>?_;refine goL ?_;refine noB ?_;refine gBx 0 (fun z2=>?_);refine mQ (fun(f:Nat)=>⟨[(0,.L 1 (jP y)),(3,.N f)],[],Tryz.f140.ntmps⟩) (fun f=>gAc y (y.drop f) f=some r) (fun f=>y.length - f) 0 eJ h ?_;rintro f h;refine goL ?_;refine kX (fun c3=>?_) (fun c3=>?_)
 ·have c:=uR c3;obtain⟨x4,ac,aa⟩:=drop_at c;rw [aa,gAc.eq_2] at h;refine noS ?_;refine jW (jE ?_);refine goL ?_;obtain⟨g5,h⟩:=mW h;refine gE7 (hUv g5) ?_;refine goL ?_;refine gE7 (jM f (gQq ac)) ?_;refine goL ?_;refine gE7 (gF (gF4 (y.take (Int.toNat (f:Int))) x4)) ?_;refine goC h ?_ ?_<;>intro c6 h
  ·exact goR h
  ·refine goS ?_;refine jL (jR f (by omega)) ?_;exact⟨(f+1),h,by omega,eJ⟩
 ·have c:=uS c3;rw [jF c,gAc.eq_1] at h;refine goX ?_;refine jK ?_;cases h;exact qA
def gJt(c:gB→Int→Option (Int))(y:gB):Nat→Int→Int→Option (Int)
 | 0,f,h=>none
 | n3+1,f,h=>lt_ ((cnd (decide (h < (y.args.length:Int))) ((decide (f≥0))) (false))) fun b4=>
(cnd b4 (
bnd (at? y.args h) fun x7=>
bnd (c x7 f) fun x8=>
gJt c y n3 x8 (IntKind.i64.wrap (h+1))) (
(some f)))
def gVj(c:gB→Int→Option (Int))(f:gB)(a1:Int)(h:Nat):Option (Int):=
gJt c f h (IntKind.i64.wrap (a1 - 1)) 0
theorem hL9{c:gB→Int→Option (Int)}(f:∀(x0:gB) (x1:Int) {r:Int},c x0 x1=some r→jC Tryz.prog 243 [.d (jS x0),.I x1] [.i .i64 r])(a0:gB)(a1:Int){n0:Nat}{r:Int}(h:gVj c a0 a1 n0=some r):jC Tryz.prog 243 [.d (jS a0),.I a1] [.i .i64 r]:=by
 obtain⟨y,aa,ab⟩:=a0;unfold gVj at h;refine SpI Tryz.func243 fun A _=>?_;refine goL ?_;refine jL (pR) ?_;refine noB ?_;refine kS (fun(n3:Nat) (y1:Int) (y2:Int)=>⟨[(1,.I y1),(2,.ptr 0 0),(5,.I y2)],[bTy y aa ab],Tryz.f243.ntmps⟩) (fun n3 y1 y2=>gJt c (gB.mk y aa ab) n3 y1 y2=some r) (fun n3 y1 y2=>n3) n0 (IntKind.i64.wrap (a1 - 1)) 0 eJ h ?_;rintro n3 y1 y2 h;rcases n3 with _ | n3
 ·cases h
 rw [gJt.eq_2] at h;refine goL ?_;obtain⟨b4,hb4,h⟩:=qB h;refine jT ⟨[(1,.I y1),(2,.ptr 0 0),(5,.I y2),(16,.B b4)],[bTy y aa ab],Tryz.f243.ntmps⟩ ?_ ?_
 ·exact gqZ 13 hb4
 refine goC h ?_ ?_<;>intro c6 h
 ·refine noS ?_;refine jW (jE ?_);refine goL ?_;obtain⟨x7,ae,h⟩:=gP h;obtain⟨ah,ae⟩:=gEd ae;obtain⟨an,ao,ap⟩:=x7;refine jL (qP ah (zL ae)) ?_;obtain⟨x8,aj,h⟩:=gP h;refine jL (gF (f _ _ aj)) ?_;refine jL (pR) ?_;exact⟨n3,x8,(IntKind.i64.wrap (y2+1)),h,Nat.lt_succ_self _,eJ⟩
 ·refine goX ?_;refine jK ?_;cases h;exact qA
def gVk:Nat→gB→Int→Option (Int)
 | 0,_,_=>none
 | n+1,c,f=>gVj (gVk n) c f n
theorem hMa:∀(n:Nat) (c:gB) (f:Int) {r:Int},gVk n c f=some r→jC Tryz.prog 243 [.d (jS c),.I f] [.i .i64 r]:=by
 intro n
 induction n with
 | zero=>intro c f r h;cases h
 | succ n ih=>intro c f r h;exact hL9 ih c f h
def gNv(c:List UInt8):Bool:=
lt_ ((cnd (c==[105,110,116]) (true) ((c==[98,111,111,108])))) fun f=>
f
theorem hBt(c:List UInt8):jC Tryz.prog 221 [.S c] [.b (gNv c)]:=by
 obtain⟨r,h⟩:∃r,gNv c=r:=⟨_,rfl⟩
 rw [h];unfold gNv at h;refine SpI Tryz.func221 fun A _=>?_;refine goL ?_;obtain⟨f,hb1,h⟩:=qB h;refine jT ⟨[(2,.B f)],[],Tryz.f221.ntmps⟩ ?_ ?_
 ·exact gqZ 5 hb1
 refine goL ?_;refine jK ?_;subst h;exact qA
def gFh(c:kJ→(List (List UInt8))→(List (List UInt8))→Option (List (List UInt8)))(bound:List (List UInt8)):List gOv→(List (List UInt8))→Option (List (List UInt8))
 | [],f=>(some f)
 | h::xs,f=>gd (([]:List (List UInt8)).length+bound.length≤4294967296) (
gd (([]++bound).length+h.vars.length≤4294967296) (
bnd (c h.body (([]++bound)++h.vars) f) fun y=>
gFh c bound xs y))
def gFi(c:kJ→(List (List UInt8))→(List (List UInt8))→Option (List (List UInt8)))(e:kJ)(bound:List (List UInt8)):List kJ→Nat→(List (List UInt8))→Option (List (List UInt8))
 | [],f,y=>gFh c bound e.arms y
 | h::xs,f,y=>bnd (lt_ ((cnd (e.kind==8) (((f:Int)==1)) (false))) fun aa=>
(cnd aa (
gd (([]:List (List UInt8)).length+bound.length≤4294967296) (
gd (([]++bound).length+[e.name].length≤4294967296) (
bnd (c h (([]++bound)++[e.name]) y) fun ab=>
(some ab)))) (
bnd (c h bound y) fun ac=>
(some ac)))) fun ad=>
gFi c e bound xs (f+1) ad
def gRo(c:kJ→(List (List UInt8))→(List (List UInt8))→Option (List (List UInt8)))(e:kJ)(bound:List (List UInt8))(f:List (List UInt8)):Option (List (List UInt8)):=
lt_ ((cnd (e.kind==3) ((cnd (!(wQ bound e.name)) ((!(wQ f e.name))) (false))) (false))) fun h=>
bnd ((cnd h (
gd (f.length+[e.name].length≤4294967296) (
(some (f++[e.name])))) (
(some f)))) fun y=>
gFi c e bound e.args 0 y
theorem hGd{c:kJ→(List (List UInt8))→(List (List UInt8))→Option (List (List UInt8))}(ab:∀(x0:kJ) (x1:List (List UInt8)) (x2:List (List UInt8)) (w0:Nat) {r:List (List UInt8)},c x0 x1 x2=some r→Go.Eng.Spec Tryz.prog 246 [.d (gCx x0),.L 1 (jP x1),.sl 0 w0] [.own 9 1 w0 (jP x2)] (fun sv Lo=>∃v'0,sv=.sl 0 v'0∧Lo=[.own 9 1 v'0 (jP r)]))(e:kJ)(bound:List (List UInt8))(l0:List (List UInt8))(v0:Nat){r:List (List UInt8)}(h:gRo c e bound l0=some r):Go.Eng.Spec Tryz.prog 246 [.d (gCx e),.L 1 (jP bound),.sl 0 v0] [.own 9 1 v0 (jP l0)] (fun sv Lo=>∃v'0,sv=.sl 0 v'0∧Lo=[.own 9 1 v'0 (jP r)]):=by
 obtain⟨ah,ai,ac,aj,⟨f,y,aa⟩,ae,ag⟩:=e;unfold gRo at h;refine kM 1 Tryz.func246 rfl (by kernel_rfl) rfl rfl fun A _=>?_;refine goL ?_;obtain⟨b1,hb1,h⟩:=qB h;refine jT ⟨[(1,.L 1 (jP bound)),(2,.sl 0 v0),(3,.ptr 1 0),(26,.B b1)],[.own 9 1 v0 (jP l0),bEx ah ai ac aj f y aa ae ag],Tryz.f246.ntmps⟩ ?_ ?_
 ·refine gqA 13 hb1 (fun c2 hb1=>?_);refine jL (gF (gF4 bound ac)) ?_;refine gqA 20 hb1 (fun c3 hb1=>?_);refine gBn (gW2 (gF4 l0 ac)) ?_;cases hb1;exact eJ
 refine goL ?_;obtain⟨b4,hb4,h⟩:=gP h;refine gNc (fun v5=>⟨[(1,.L 1 (jP bound)),(2,.sl 0 v5),(3,.ptr 1 0)],[.own 9 1 v5 (jP b4),bEx ah ai ac aj f y aa ae ag],Tryz.f246.ntmps⟩) ?_ (fun v5=>?_)
 ·refine kX (fun c6=>?_) (fun c6=>?_)
  ·replace hb4:=kD c6 hb4;refine goL ?_;refine gBc ac ?_;obtain⟨g7,hb4⟩:=mW hb4;refine gH3 g7 ?_;refine goL ?_;cases hb4;exact⟨(v0+1),eJ⟩
  ·replace hb4:=kE c6 hb4;refine zA ?_;cases hb4;exact⟨v0,eJ⟩
 refine goL ?_;refine noB ?_;refine wN 1 7 (fun ck=>?_);refine kS (fun(ad:Nat) (y8:List (List UInt8)) (v9:Nat)=>⟨[(1,.L 1 (jP bound)),(2,.sl 0 v9),(3,.ptr 1 0),(7,.N ad)],[.own 9 1 v9 (jP y8),bEx ah ai ac aj f y aa ae ag],Tryz.f246.ntmps⟩) (fun ad y8 v9=>gFi c (kJ.mk ah ai ac aj (gB.mk f y aa) ae ag) bound (ae.drop ad) ad y8=some r) (fun ad y8 v9=>ae.length - ad) 0 b4 v5 eJ h ?_;rintro ad y8 v9 h;refine goL ?_;refine kX (fun bi=>?_) (fun bi=>?_)
 ·have al:=uR bi;obtain⟨b5,bg,bj⟩:=drop_at al;rw [bj,gFi.eq_2] at h;obtain⟨ay,a0,a3,a4,⟨ao,ap,aq⟩,a5,a6⟩:=b5;refine noS ?_;refine jW ?_;obtain⟨bu,hb14,h⟩:=gP h;refine gNc (fun bf=>⟨[(1,.L 1 (jP bound)),(2,.sl 0 bf),(3,.ptr 1 0),(7,.N ad)],[.own 9 1 bf (jP bu),bEx ah ai ac aj f y aa ae ag],Tryz.f246.ntmps⟩) ?_ (fun bf=>?_)
  ·refine jE ?_;refine goL ?_;obtain⟨b6,hb16,hb14⟩:=qB hb14;refine jT ⟨[(1,.L 1 (jP bound)),(2,.sl 0 v9),(3,.ptr 1 0),(7,.N ad),(8,.L 1 (jP bound)),(46,.B b6)],[.own 9 1 v9 (jP y8),bEx ah ai ac aj f y aa ae ag],Tryz.f246.ntmps⟩ ?_ ?_
   ·exact gqZ 43 hb16
   refine goL ?_;refine kX (fun bk=>?_) (fun bk=>?_)
   ·replace hb14:=kD bk hb14;obtain⟨bl,hb14⟩:=mW hb14;obtain⟨bm,hb14⟩:=mW hb14;refine gV8 (P:=Tryz.prog) Mix.h (.q 1 (.q 3 (.q 4 (.h 0 (.h 2 (.h 5 (.h 6 (.q 7 .nil) .nil) .nil) (.h 5 (.h 2 (.h 6 (.q 7 .nil) .nil) .nil) .nil)) (.h 5 (.h 0 (.h 2 (.h 6 (.q 7 .nil) .nil) .nil) .nil) .nil))))) ⟨[(1,.L 1 (jP bound)),(2,.sl 0 v9),(3,.ptr 1 0),(7,.N ad),(8,.sl 2 ((0+1)+1))],[.own 9 1 v9 (jP y8),bEx ah ai ac aj f y aa ae ag,.own 9 1 ((0+1)+1) (jP (([]++bound)++[ac])),.dead 1],Tryz.f246.ntmps⟩ (by kernel_rfl) ?_ ?_
    ·refine goT ?_;refine vW (hQ4 jX) ?_ ?_
     ·refine vW (gV7 (T:=57) bl jX) ?_ ?_
      ·refine jV (gX6 (T:=57) (ac:List UInt8) jX) ?_;refine jV (gV7 (T:=57) bm jX) ?_;refine goT ?_;refine jY ?_;exact uK 1 [0,1,2,3]
      refine jV (gX6 (T:=57) (ac:List UInt8) jX) ?_;refine jV (gV7 (T:=57) bl jX) ?_;refine jV (gV7 (T:=57) bm jX) ?_;refine goT ?_;refine jY ?_;exact uK 1 [0,1,2,3]
     refine jV (gX6 (T:=57) (ac:List UInt8) jX) ?_;refine jV (hQ4 jX) ?_;refine jV (gV7 (T:=57) bl jX) ?_;refine jV (gV7 (T:=57) bm jX) ?_;refine goT ?_;refine jY ?_;exact uK 1 [0,1,3,2]
    refine goL ?_;refine jL (jM ad (gZ3 bg)) ?_;refine gMg 2 rfl rfl ?_;obtain⟨b7,bv,hb14⟩:=gP hb14;refine yY [0] (ab (kJ.mk ay a0 a3 a4 (gB.mk ao ap aq) a5 a6) (([]++bound)++[ac]) y8 v9 bv) ?_;rintro _ _ ⟨bn,rfl,rfl⟩;show VO _ _ _ _ ⟨(_,.sl 0 bn)::_,[.own 9 1 bn (jP b7),bEx ah ai ac aj f y aa ae ag,.frz 9 1 ((0+1)+1) (jP (([]++bound)++[ac])),.dead 1],_⟩ _;refine goL ?_;cases hb14;exact⟨bn,eJ⟩
   ·replace hb14:=kE bk hb14;refine goS ?_;refine jL (jM ad (gZ3 bg)) ?_;obtain⟨b8,bw,hb14⟩:=gP hb14;refine yY [0] (ab (kJ.mk ay a0 a3 a4 (gB.mk ao ap aq) a5 a6) bound y8 v9 bw) ?_;rintro _ _ ⟨bo,rfl,rfl⟩;show VO _ _ _ _ ⟨(_,.sl 0 bo)::_,[.own 9 1 bo (jP b8),bEx ah ai ac aj f y aa ae ag],_⟩ _;refine goL ?_;cases hb14;exact⟨bo,eJ⟩
  refine goL ?_;refine jL (jR ad (by omega)) ?_;exact⟨(ad+1),bu,bf,h,by omega,eJ⟩
 ·have al:=uS bi;rw [jF al,gFi.eq_1] at h;refine goX ?_;refine noB ?_;refine wN 1 8 (fun cl=>?_);refine kS (fun(ak:Nat) (ar:List (List UInt8)) (am:Nat)=>⟨[(1,.L 1 (jP bound)),(2,.sl 0 am),(3,.ptr 1 0),(9,.N ak)],[.own 9 1 am (jP ar),bEx ah ai ac aj f y aa ae ag],Tryz.f246.ntmps⟩) (fun ak ar am=>gFh c bound (ag.drop ak) ar=some r) (fun ak ar am=>ag.length - ak) 0 y8 v9 eJ h ?_;rintro ak ar am h;refine goL ?_;refine kX (fun bp=>?_) (fun bp=>?_)
  ·have an:=uR bp;obtain⟨b9,bh,bq⟩:=drop_at an;rw [bq,gFh.eq_2] at h;obtain⟨ca,a7,⟨a8,a9,ba,bb,⟨au,av,aw⟩,bc,bd⟩⟩:=b9;refine noS ?_;refine jW (jE ?_);refine uF (P:=Tryz.prog) Mix.h [(0,true),(1,true),(2,true),(3,true),(4,true),(5,true),(7,true),(9,true),(10,true),(11,true),(12,true),(13,true),(14,true),(16,true),(6,false),(8,false),(15,false),(17,false),(18,true)] (by kernel_rfl) ?_;refine goY ?_;refine jI rfl (jM ak (hH4 bh)) ?_;refine goY ?_;refine jI rfl (jM ak (hH4 bh)) ?_;refine goY ?_;refine hQ4 ?_;obtain⟨cb,h⟩:=mW h;refine gV7 (T:=57) cb ?_;obtain⟨cc,h⟩:=mW h;refine gV7 (T:=57) cc ?_;refine gJ2 2 rfl rfl ?_;obtain⟨bx,bz,h⟩:=gP h;refine gUg [0] (ab (kJ.mk a8 a9 ba bb (gB.mk au av aw) bc bd) (([]++bound)++a7) ar am bz) ?_;rintro _ _ ⟨br,rfl,rfl⟩;refine gSt (sv:=.sl 0 br) (L':=[.own 9 1 br (jP bx),bEx ah ai ac aj f y aa ae ag,.frz 9 1 ((0+1)+1) (jP (([]++bound)++a7))]) (by repeat(first | exact vV.nil | (apply vV.keep;focus ((repeat constructor);done)) | (apply vV.dep;focus kernel_rfl))) ?_;refine goY ?_;refine kQ ?_;refine goL ?_;refine jL (jR ak (by omega)) ?_;exact⟨(ak+1),bx,br,h,by omega,eJ⟩
  ·have an:=uS bp;rw [jF an,gFh.eq_1] at h;refine goX ?_;refine jK ?_;obtain rfl:=Option.some.inj h;exact zB [.sl 0 am] [.own 9 1 am (jP ar)] ⟨am,rfl,rfl⟩
def gRp:Nat→kJ→(List (List UInt8))→(List (List UInt8))→Option (List (List UInt8))
 | 0,_,_,_=>none
 | n+1,c,f,h=>gRo (gRp n) c f h
theorem hGe:∀(n:Nat) (c:kJ) (f:List (List UInt8)) (y:List (List UInt8)) (w0:Nat) {r:List (List UInt8)},gRp n c f y=some r→Go.Eng.Spec Tryz.prog 246 [.d (gCx c),.L 1 (jP f),.sl 0 w0] [.own 9 1 w0 (jP y)] (fun sv Lo=>∃v'0,sv=.sl 0 v'0∧Lo=[.own 9 1 v'0 (jP r)]):=by
 intro n
 induction n with
 | zero=>intro c f y w0 r h;cases h
 | succ n ih=>intro c f y w0 r h;exact hGd ih c f y w0 h
end Go.Proofs.YtegahmhnmjnhhaaGreat
