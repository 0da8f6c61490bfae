import Derived.Test.YtegahmhnmjnhhaaGreatIn
set_option maxHeartbeats 4000000
set_option linter.unusedVariables false
set_option linter.unusedSimpArgs false
set_option linter.unusedSectionVars false
namespace Go.Proofs.YtegahmhnmjnhhaaGreat
open Go Go.Eng
attribute [local irreducible] V VO VQ VY Quiet QR jC kT Rng mU mV mI
def yR(a1:gG→Option Bool):List gG→Nat→Option (Int)
 | [],c=>(some (-1))
 | f::xs,c=>bnd (a1 f) fun h=>
(cnd h (
(some (c:Int))) (
yR a1 xs (c+1)))
def gIl(c:List gG)(a1:gG→Option Bool):Option (Int):=
yR a1 c 0
theorem gYm(y:List gG){a1f:Nat}{a1c:List SV}{a1:gG→Option Bool}(a1_lt:∀n,SV.lts n a1c=true)(ha1:∀(x0:gG) (r:Bool),a1 x0=some r→jC Tryz.prog a1f ([.d (gIg x0)]++a1c) [.b r]){r:Int}(h:gIl y a1=some r):jC Tryz.prog 91 [.L 4 (gN y),.fn a1f a1c] [.i .i64 r]:=by
 unfold gIl at h;refine SpI Tryz.func91 fun A _=>?_;refine goL ?_;refine noB ?_;refine gBx 0 (fun z2=>?_);refine mQ (fun(f:Nat)=>⟨[(0,.L 4 (gN y)),(1,.fn a1f a1c),(7,.I (y.length:Int)),(8,.N f)],[],Tryz.f91.ntmps⟩) (fun f=>yR a1 (y.drop f) f=some r) (fun f=>y.length - f) 0 ⟨rfl,⟨⟨rfl,rfl⟩,⟨rfl,a1_lt _⟩,⟨rfl,rfl⟩,⟨rfl,rfl⟩,trivial⟩,⟨[],rfl⟩,rfl⟩ h ?_;rintro f h;refine goL ?_;refine jW (kX (fun c3=>?_) (fun c3=>?_))
 ·have c:=uR c3;obtain⟨x4,ag,aa⟩:=drop_at c;rw [aa,yR.eq_2] at h;obtain⟨ak,⟨ab,ac,ad⟩⟩:=x4;refine noS ?_;refine jW (jE ?_);refine goL ?_;refine jL (jM f (gMf ag)) ?_;obtain⟨x5,ah,h⟩:=gP h;refine jL (gN9 (ha1 _ _ ah) (a1_lt 0)) ?_;refine kX (fun c6=>?_) (fun c6=>?_)
  ·replace h:=kD c6 h;exact goR h
  ·replace h:=kE c6 h;refine goS ?_;refine jL (jR f (by omega)) ?_;exact⟨(f+1),h,by omega,⟨rfl,⟨⟨rfl,rfl⟩,⟨rfl,a1_lt _⟩,⟨rfl,rfl⟩,⟨rfl,rfl⟩,trivial⟩,⟨_,rfl⟩,rfl⟩⟩
 ·have c:=uS c3;rw [jF c,yR.eq_1] at h;refine goX ?_;refine jK ?_;cases h;exact qA
def gCc(c:List gG)(a1:gG→Option Bool):Option (Bool):=
bnd (gIl c a1) fun f=>
(some (decide (f≥0)))
theorem gSz(c:List gG){a1f:Nat}{a1c:List SV}{a1:gG→Option Bool}(a1_lt:∀n,SV.lts n a1c=true)(ha1:∀(y:gG) (r:Bool),a1 y=some r→jC Tryz.prog a1f ([.d (gIg y)]++a1c) [.b r]){r:Bool}(h:gCc c a1=some r):jC Tryz.prog 67 [.L 4 (gN c),.fn a1f a1c] [.b r]:=by
 unfold gCc at h;refine SpI Tryz.func67 fun A _=>?_;refine goL ?_;obtain⟨x1,f,h⟩:=gP h;refine qI (gF (gYm c (a1:=a1) a1_lt ha1 f)) ?_;exact goR h
def gMi(c:gG)(a1:List UInt8):Bool:=
(c.var_==a1)
theorem hNl(c:gG)(a1:List UInt8):jC Tryz.prog 68 [.d (gIg c),.dp (.s a1)] [.b (gMi c a1)]:=by
 obtain⟨r,h⟩:∃r,gMi c a1=r:=⟨_,rfl⟩
 rw [h];obtain⟨ab,⟨f,y,aa⟩⟩:=c;unfold gMi at h;refine SpI Tryz.func68 fun A _=>?_;refine goL ?_;refine jK ?_;subst h;exact qA
def gS0(next:Int)(count:Int)(node:Int)(bs:List gG)(es:List jB)(os:List jN)(code:Int)(att:Int)(v:List UInt8):Option (Bool):=
bnd (zO v) fun c=>
bnd ((cnd c (bnd (gCc bs (fun f=>some (gMi f v))) fun h=>
(some h)) ((some false)))) fun y=>
(some y)
theorem hRw(next:Int)(count:Int)(node:Int)(bs:List gG)(es:List jB)(os:List jN)(code:Int)(att:Int)(v:List UInt8)(c:Nat)(f:Nat)(y:Nat){r:Bool}(h:gS0 next count node bs es os code att v=some r):Go.Eng.Spec Tryz.prog 65 [.S v,.ptr 0 0] [.box [.ptr 1 0],.box [.I next,.I count,.I node,.sl 2 c,.sl 3 f,.sl 4 y,.I code,.I att],.arr 101 4 c (gN bs),.arr 79 7 f (gW es),.arr 81 5 y (gT os)] (fun sv Lo=>sv=.B r∧Lo=[.box [.ptr 1 0],.box [.I next,.I count,.I node,.sl 2 c,.sl 3 f,.sl 4 y,.I code,.I att],.arr 101 4 c (gN bs),.arr 79 7 f (gW es),.arr 81 5 y (gT os)]):=by
 unfold gS0 at h;refine kM 5 Tryz.func65 rfl (by kernel_rfl) rfl rfl fun A _=>?_;refine goL ?_;obtain⟨x1,aa,h⟩:=gP h;refine jL (gF (gKl _ aa)) ?_;obtain⟨b2,hb2,h⟩:=gP h;refine jT ⟨[(3,.B b2)],[.box [.ptr 1 0],.box [.I next,.I count,.I node,.sl 2 c,.sl 3 f,.sl 4 y,.I code,.I att],.arr 101 4 c (gN bs),.arr 79 7 f (gW es),.arr 81 5 y (gT os),.box [.S v]],Tryz.f65.ntmps⟩ ?_ ?_
 ·refine gqA 6 hb2 (fun c3 hb2=>?_);refine qI (gZ1) ?_;refine gQp ?_;obtain⟨x4,ab,hb2⟩:=gP hb2;refine gBn (hXw (gSz bs (a1:=(fun z0=>some (gMi z0 v))) (fun _=>rfl) (fun z0 r hr=>by cases hr;exact hNl z0 v) ab)) ?_;cases hb2;exact eJ
 refine goL ?_;refine jK ?_;obtain rfl:=Option.some.inj h;exact zB [.B b2] [.box [.ptr 1 0],.box [.I next,.I count,.I node,.sl 2 c,.sl 3 f,.sl 4 y,.I code,.I att],.arr 101 4 c (gN bs),.arr 79 7 f (gW es),.arr 81 5 y (gT os)] ⟨rfl,rfl⟩
def gCd(next:Int)(count:Int)(node:Int)(bs:List gG)(es:List jB)(os:List jN)(code:Int)(att:Int):List (List UInt8)→Nat→Option (Int)
 | [],c=>(some (-1))
 | f::xs,c=>bnd (gS0 next count node bs es os code att f) fun h=>
(cnd h (
(some (c:Int))) (
gCd next count node bs es os code att xs (c+1)))
def gOf(next:Int)(count:Int)(node:Int)(bs:List gG)(es:List jB)(os:List jN)(code:Int)(att:Int)(l:List (List UInt8)):Option (Int):=
gCd next count node bs es os code att l 0
theorem hJk(next:Int)(count:Int)(node:Int)(bs:List gG)(es:List jB)(os:List jN)(code:Int)(att:Int)(l:List (List UInt8))(f:Nat)(y:Nat)(v4:Nat){r:Int}(h:gOf next count node bs es os code att l=some r):Go.Eng.Spec Tryz.prog 88 [.L 1 (jP l),.fn 65 [.ptr 0 0]] [.box [.ptr 1 0],.box [.I next,.I count,.I node,.sl 2 f,.sl 3 y,.sl 4 v4,.I code,.I att],.arr 101 4 f (gN bs),.arr 79 7 y (gW es),.arr 81 5 v4 (gT os)] (fun sv Lo=>sv=.I r∧Lo=[.box [.ptr 1 0],.box [.I next,.I count,.I node,.sl 2 f,.sl 3 y,.sl 4 v4,.I code,.I att],.arr 101 4 f (gN bs),.arr 79 7 y (gW es),.arr 81 5 v4 (gT os)]):=by
 unfold gOf at h;refine kM 5 Tryz.func88 rfl (by kernel_rfl) rfl rfl fun A _=>?_;refine goL ?_;refine noB ?_;refine gBx 0 (fun z2=>?_);refine mQ (fun(y1:Nat)=>⟨[(0,.L 1 (jP l)),(1,.fn 65 [.ptr 0 0]),(7,.I (l.length:Int)),(8,.N y1)],[.box [.ptr 1 0],.box [.I next,.I count,.I node,.sl 2 f,.sl 3 y,.sl 4 v4,.I code,.I att],.arr 101 4 f (gN bs),.arr 79 7 y (gW es),.arr 81 5 v4 (gT os)],Tryz.f88.ntmps⟩) (fun y1=>gCd next count node bs es os code att (l.drop y1) y1=some r) (fun y1=>l.length - y1) 0 eJ h ?_;rintro y1 h;refine goL ?_;refine jW (kX (fun c3=>?_) (fun c3=>?_))
 ·have c:=uR c3;obtain⟨x4,ae,ac⟩:=drop_at c;rw [ac,gCd.eq_2] at h;refine noS ?_;refine jW (jE ?_);refine goL ?_;refine jL (jM y1 (gQq ae)) ?_;obtain⟨x5,ag,h⟩:=gP h;refine yY [0,1,2,3,4] (hRw next count node bs es os code att x4 f y v4 ag) ?_;rintro _ _ ⟨rfl,rfl⟩;show VO _ _ _ _ ⟨(_,.B x5)::_,[.box [.ptr 1 0],.box [.I next,.I count,.I node,.sl 2 f,.sl 3 y,.sl 4 v4,.I code,.I att],.arr 101 4 f (gN bs),.arr 79 7 y (gW es),.arr 81 5 v4 (gT os)],_⟩ _;refine goC h ?_ ?_<;>intro c6 h
  ·refine goL ?_;refine jK ?_;obtain rfl:=Option.some.inj h;exact zB [.N y1] [.box [.ptr 1 0],.box [.I next,.I count,.I node,.sl 2 f,.sl 3 y,.sl 4 v4,.I code,.I att],.arr 101 4 f (gN bs),.arr 79 7 y (gW es),.arr 81 5 v4 (gT os)] ⟨rfl,rfl⟩
  ·refine goS ?_;refine jL (jR y1 (by omega)) ?_;exact⟨(y1+1),h,by omega,eJ⟩
 ·have c:=uS c3;rw [jF c,gCd.eq_1] at h;refine goX ?_;refine jK ?_;obtain rfl:=Option.some.inj h;exact zB [.I (-1)] [.box [.ptr 1 0],.box [.I next,.I count,.I node,.sl 2 f,.sl 3 y,.sl 4 v4,.I code,.I att],.arr 101 4 f (gN bs),.arr 79 7 y (gW es),.arr 81 5 v4 (gT os)] ⟨rfl,rfl⟩
def gFu(next:Int)(count:Int)(node:Int)(bs:List gG)(es:List jB)(os:List jN)(code:Int)(att:Int)(l:List (List UInt8)):Option (Bool):=
bnd (gOf next count node bs es os code att l) fun c=>
(some (decide (c≥0)))
theorem gYn(next:Int)(count:Int)(node:Int)(bs:List gG)(es:List jB)(os:List jN)(code:Int)(att:Int)(l:List (List UInt8))(c:Nat)(f:Nat)(y:Nat){r:Bool}(h:gFu next count node bs es os code att l=some r):Go.Eng.Spec Tryz.prog 63 [.L 1 (jP l),.fn 65 [.ptr 0 0]] [.box [.ptr 1 0],.box [.I next,.I count,.I node,.sl 2 c,.sl 3 f,.sl 4 y,.I code,.I att],.arr 101 4 c (gN bs),.arr 79 7 f (gW es),.arr 81 5 y (gT os)] (fun sv Lo=>sv=.B r∧Lo=[.box [.ptr 1 0],.box [.I next,.I count,.I node,.sl 2 c,.sl 3 f,.sl 4 y,.I code,.I att],.arr 101 4 c (gN bs),.arr 79 7 f (gW es),.arr 81 5 y (gT os)]):=by
 unfold gFu at h;refine kM 5 Tryz.func63 rfl (by kernel_rfl) rfl rfl fun A _=>?_;refine goL ?_;obtain⟨x1,aa,h⟩:=gP h;refine yY [0,1,2,3,4] (hJk next count node bs es os code att l c f y aa) ?_;rintro _ _ ⟨rfl,rfl⟩;show VO _ _ _ _ ⟨(_,.I x1)::_,[.box [.ptr 1 0],.box [.I next,.I count,.I node,.sl 2 c,.sl 3 f,.sl 4 y,.I code,.I att],.arr 101 4 c (gN bs),.arr 79 7 f (gW es),.arr 81 5 y (gT os)],_⟩ _;refine goL ?_;refine jK ?_;obtain rfl:=Option.some.inj h;exact zB [.d (.b (decide (x1≥0)))] [.box [.ptr 1 0],.box [.I next,.I count,.I node,.sl 2 c,.sl 3 f,.sl 4 y,.I code,.I att],.arr 101 4 c (gN bs),.arr 79 7 f (gW es),.arr 81 5 y (gT os)] ⟨rfl,rfl⟩
def gDt(next:Int)(count:Int)(node:Int)(bs:List gG)(es:List jB)(os:List jN)(code:Int)(att:Int):Nat→Int→(List UInt8)→(List gB)→Option (gB)
 | 0,c,f,h=>(some (gB.mk c f h))
 | m9+1,c,f,h=>bnd (gAp (gB.mk c f h)) fun aa=>
bnd (gFu next count node bs es os code att aa) fun ab=>
lt_ ((cnd (!ab) (true) ((decide ((tsz (gB.mk c f h))≥4000))))) fun ac=>
(cnd ac (
(some (gB.mk c f h))) (
gd (bok bs∧tok (gB.mk c f h)) (lt_ (apT bs (gB.mk c f h)) fun y=>
gDt next count node bs es os code att m9 y.kind y.name y.args)))
def gPi(next:Int)(count:Int)(node:Int)(bs:List gG)(es:List jB)(os:List jN)(code:Int)(att:Int)(t:gB):Option (gB):=
gd (tok t) (lt_ (idT t) fun c=>
gDt next count node bs es os code att 60 c.kind c.name c.args)
theorem gC1(next:Int)(count:Int)(node:Int)(bs:List gG)(es:List jB)(os:List jN)(code:Int)(att:Int)(t:gB)(f:Nat)(y:Nat)(v3:Nat){r:gB}(h:gPi next count node bs es os code att t=some r):Go.Eng.Spec Tryz.prog 28 [.ptr 0 0,.d (jS t)] [.box [.I next,.I count,.I node,.sl 1 f,.sl 2 y,.sl 3 v3,.I code,.I att],.arr 101 4 f (gN bs),.arr 79 7 y (gW es),.arr 81 5 v3 (gT os)] (fun sv Lo=>sv=.d (jS r)∧Lo=[.box [.I next,.I count,.I node,.sl 1 f,.sl 2 y,.sl 3 v3,.I code,.I att],.arr 101 4 f (gN bs),.arr 79 7 y (gW es),.arr 81 5 v3 (gT os)]):=by
 obtain⟨ae,ag,ah⟩:=t;unfold gPi at h;refine kM 4 Tryz.func28 rfl (by kernel_rfl) rfl rfl fun A _=>?_;refine goL ?_;obtain⟨g1,h⟩:=mW h;obtain⟨⟨ao,ap,aq⟩,aw,h⟩:=qB h;have sx2:=gA7 (gB.mk ae ag ah) g1;rw [aw] at sx2;refine gGa (sx2) ?_;refine goL ?_;refine noB ?_;refine hM9 (fun(c:Nat) (y3:Int) (y4:List UInt8) (y5:List gB) (v6:Nat)=>⟨[(2,.ptr 4 0),(4,.ptr 6 0),(5,.ptr 8 0),(9,.N c)],[.box [.I next,.I count,.I node,.sl 1 f,.sl 2 y,.sl 3 v3,.I code,.I att],.arr 101 4 f (gN bs),.arr 79 7 y (gW es),.arr 81 5 v3 (gT os),.box [.ptr 0 0],bTy ae ag ah,.box [.I 0,.S [],.nilsl],.own 35 3 v6 (jJ y5),.box [.I y3,.S y4,.sl 7 v6]],Tryz.f28.ntmps⟩) (fun c y3 y4 y5 v6=>c≤60∧gDt next count node bs es os code att (60 - c) y3 y4 y5=some r) (fun c y3 y4 y5 v6=>60 - c) 0 ao ap aq 0 eJ ⟨by simp,h⟩ ?_;rintro c y3 y4 y5 v6 ⟨a4,h⟩;refine goL ?_;refine jW (kX (fun c8=>?_) (fun c8=>?_))
 ·have aj:c < 60:=by have:=of_decide_eq_true c8;omega
  obtain⟨m9,hm9⟩:∃m,60 - c=m+1:=⟨60 - c - 1,by omega⟩
  rw [hm9,gDt.eq_2] at h;refine noS ?_;refine jW (jE ?_);refine goL ?_;obtain⟨ak,ar,h⟩:=gP h;refine gGa (gL3 (gB.mk y3 y4 y5) ar) ?_;refine qI (gZ1) ?_;refine gMg 9 rfl rfl ?_;obtain⟨ay,au,h⟩:=gP h;refine yY [4,0,1,2,3] (gYn next count node bs es os code att ak f y v3 au) ?_;rintro _ _ ⟨rfl,rfl⟩;show VO _ _ _ _ ⟨(_,.B ay)::_,[.box [.I next,.I count,.I node,.sl 1 f,.sl 2 y,.sl 3 v3,.I code,.I att],.arr 101 4 f (gN bs),.arr 79 7 y (gW es),.arr 81 5 v3 (gT os),.box [.ptr 0 0],bTy ae ag ah,.box [.I 0,.S [],.nilsl],.own 35 3 v6 (jJ y5),.box [.I y3,.S y4,.sl 7 v6],.frz 9 1 0 (jP ak)],_⟩ _;refine goL ?_;obtain⟨a0,hb12,h⟩:=qB h;refine jT ⟨[(2,.ptr 4 0),(4,.ptr 6 0),(5,.ptr 8 0),(9,.N c),(21,.B a0)],[.box [.I next,.I count,.I node,.sl 1 f,.sl 2 y,.sl 3 v3,.I code,.I att],.arr 101 4 f (gN bs),.arr 79 7 y (gW es),.arr 81 5 v3 (gT os),.box [.ptr 0 0],bTy ae ag ah,.box [.I 0,.S [],.nilsl],.own 35 3 v6 (jJ y5),.box [.I y3,.S y4,.sl 7 v6],.frz 9 1 0 (jP ak)],Tryz.f28.ntmps⟩ ?_ ?_
  ·refine gqO 17 hb12 (fun a7 hb12=>?_);refine gBn (gW2 (gKe (gB.mk y3 y4 y5))) ?_;cases hb12;exact eJ
  refine goC h ?_ ?_<;>intro a8 h
  ·refine goX ?_;refine uH 7 rfl rfl ?_;refine jK ?_;obtain rfl:=Option.some.inj h;exact hLc [.d (.st [.i .i64 y3,.s y4,.sl 3 (jJ y5)])] [.box [.I next,.I count,.I node,.sl 1 f,.sl 2 y,.sl 3 v3,.I code,.I att],.arr 101 4 f (gN bs),.arr 79 7 y (gW es),.arr 81 5 v3 (gT os)] ⟨rfl,rfl⟩
  ·refine noS ?_;refine uF (P:=Tryz.prog) Mix.h [(0,true),(1,true),(2,true),(3,true),(4,true),(5,false),(6,false)] (by kernel_rfl) ?_;refine goY ?_;obtain⟨a3,h⟩:=mW h;obtain⟨⟨al,am,an⟩,av,h⟩:=qB h;have sx16:=gQ6 bs (gB.mk y3 y4 y5) a3;rw [av] at sx16;refine gNa (sx16) ?_;refine goY ?_;refine kQ ?_;refine goL ?_;refine jL (jR c (by omega)) ?_;rw [show m9=60 - (c+1) by omega] at h;exact⟨(c+1),al,am,an,0,⟨by omega,h⟩,by omega,uK 4 [0,1,2,3,4,5,6,10,8]⟩
 ·have aj:60≤c:=by have:=of_decide_eq_false c8;omega
  rw [show 60 - c=0 by omega,gDt.eq_1] at h;refine goX ?_;refine uH 7 rfl rfl ?_;refine jK ?_;obtain rfl:=Option.some.inj h;exact hLc [.d (.st [.i .i64 y3,.s y4,.sl 3 (jJ y5)])] [.box [.I next,.I count,.I node,.sl 1 f,.sl 2 y,.sl 3 v3,.I code,.I att],.arr 101 4 f (gN bs),.arr 79 7 y (gW es),.arr 81 5 v3 (gT os)] ⟨rfl,rfl⟩
def gI2(next:Int)(count:Int)(node:Int)(bs:List gG)(es:List jB)(os:List jN)(code:Int)(att:Int)(e:Int):Int × Int:=
(cnd (code==0) (
(e,node)) (
(code,att)))
theorem gWg(next:Int)(count:Int)(node:Int)(bs:List gG)(es:List jB)(os:List jN)(code:Int)(att:Int)(e:Int)(c:Nat)(f:Nat)(y:Nat):Go.Eng.Spec Tryz.prog 47 [.ptr 0 0,.I e] [.box [.I next,.I count,.I node,.sl 1 c,.sl 2 f,.sl 3 y,.I code,.I att],.arr 101 4 c (gN bs),.arr 79 7 f (gW es),.arr 81 5 y (gT os)] (fun sv Lo=>sv=.tup []∧Lo=[.box [.I next,.I count,.I node,.sl 1 c,.sl 2 f,.sl 3 y,.d (.i .i64 (gI2 next count node bs es os code att e).1),.d (.i .i64 (gI2 next count node bs es os code att e).2)],.arr 101 4 c (gN bs),.arr 79 7 f (gW es),.arr 81 5 y (gT os)]):=by
 obtain⟨r,h⟩:∃r,gI2 next count node bs es os code att e=r:=⟨_,rfl⟩
 rw [h];unfold gI2 at h;refine kM 4 Tryz.func47 rfl (by kernel_rfl) rfl rfl fun A _=>?_;refine goC h ?_ ?_<;>intro c1 h
 ·refine goL ?_;subst h;exact hEz [] [.box [.I next,.I count,.I node,.sl 1 c,.sl 2 f,.sl 3 y,.I e,.I node],.arr 101 4 c (gN bs),.arr 79 7 f (gW es),.arr 81 5 y (gT os)] ⟨rfl,rfl⟩
 ·refine zA ?_;show mI _ _ _ _ _ _;subst h;exact hEz [] [.box [.I next,.I count,.I node,.sl 1 c,.sl 2 f,.sl 3 y,.I code,.I att],.arr 101 4 c (gN bs),.arr 79 7 f (gW es),.arr 81 5 y (gT os)] ⟨rfl,rfl⟩
def hC5(v:List UInt8)(n:Int)(u:gB):Int:=
lt_ ((cnd (u.kind==1) ((u.name==v)) (false))) fun c=>
(cnd c (
(IntKind.i64.wrap (n+1))) (
n))
theorem hVb(v:List UInt8)(n:Int)(u:gB):Go.Eng.Spec Tryz.prog 116 [.d (jS u),.ptr 0 0,.ptr 1 0] [.box [.S v],.box [.I n]] (fun sv Lo=>sv=.tup []∧Lo=[.box [.S v],.box [.I (hC5 v n u)]]):=by
 obtain⟨r,h⟩:∃r,hC5 v n u=r:=⟨_,rfl⟩
 rw [h];obtain⟨c,f,y⟩:=u;unfold hC5 at h;refine kM 2 Tryz.func116 rfl (by kernel_rfl) rfl rfl fun A _=>?_;refine goL ?_;obtain⟨b1,hb1,h⟩:=qB h;refine jT ⟨[(2,.ptr 1 0),(12,.B b1)],[.box [.S v],.box [.I n],bTy c f y],Tryz.f116.ntmps⟩ ?_ ?_
 ·exact gqZ 7 hb1
 refine goC h ?_ ?_<;>intro c3 h
 ·refine goL ?_;refine jL (pR) ?_;subst h;exact hEz [] [.box [.S v],.box [.d (.i .i64 (IntKind.i64.wrap (n+1)))]] ⟨rfl,rfl⟩
 ·refine zA ?_;show mI _ _ _ _ _ _;subst h;exact hEz [] [.box [.S v],.box [.I n]] ⟨rfl,rfl⟩
def gDj(c:(List UInt8)→Int→gB→Option (Int))(v:List UInt8):List gB→Int→Option (Int)
 | [],f=>(some f)
 | h::xs,f=>bnd (c v f h) fun y=>
gDj c v xs y
def gQu(c:(List UInt8)→Int→gB→Option (Int))(v:List UInt8)(n:Int)(u:gB):Option (Int):=
lt_ (hC5 v n u) fun f=>
gDj c v u.args f
theorem hNm{c:(List UInt8)→Int→gB→Option (Int)}(f:∀(x0:List UInt8) (x1:Int) (x2:gB) {r:Int},c x0 x1 x2=some r→Go.Eng.Spec Tryz.prog 106 [.d (jS x2),.fn 116 [.ptr 0 0,.ptr 1 0]] [.box [.S x0],.box [.I x1]] (fun sv Lo=>sv=.tup []∧Lo=[.box [.S x0],.box [.I r]]))(v:List UInt8)(n:Int)(u:gB){r:Int}(h:gQu c v n u=some r):Go.Eng.Spec Tryz.prog 106 [.d (jS u),.fn 116 [.ptr 0 0,.ptr 1 0]] [.box [.S v],.box [.I n]] (fun sv Lo=>sv=.tup []∧Lo=[.box [.S v],.box [.I r]]):=by
 obtain⟨ab,ac,y⟩:=u;unfold gQu at h;refine kM 2 Tryz.func106 rfl (by kernel_rfl) rfl rfl fun A _=>?_;refine goL ?_;obtain⟨x1,am,h⟩:=qB h;have sx1:=hVb v n (gB.mk ab ac y);rw [am] at sx1;refine yY [0,1] (sx1) ?_;rintro _ _ ⟨rfl,rfl⟩;show VO _ _ _ _ ⟨(_,.tup [])::_,[.box [.S v],.box [.I x1],bTy ab ac y],_⟩ _;refine goL ?_;refine noB ?_;refine gBx 10 (fun z4=>?_);refine gEe (fun(y3:Nat) (y2:Int)=>⟨[(1,.fn 116 [.ptr 0 0,.ptr 1 0]),(10,.L 3 (jJ y)),(11,.I (y.length:Int)),(12,.N y3)],[.box [.S v],.box [.I y2],bTy ab ac y],Tryz.f106.ntmps⟩) (fun y3 y2=>gDj c v (y.drop y3) y2=some r) (fun y3 y2=>y.length - y3) 0 x1 eJ h ?_;rintro y3 y2 h;refine goL ?_;refine jW (kX (fun c5=>?_) (fun c5=>?_))
 ·have aa:=uR c5;obtain⟨x6,ao,ak⟩:=drop_at aa;rw [ak,gDj.eq_2] at h;obtain⟨ae,ag,ah⟩:=x6;refine noS ?_;refine jW (jE ?_);refine goL ?_;refine jL (jM y3 (zL ao)) ?_;obtain⟨x7,ap,h⟩:=gP h;refine yY [0,1] (f v y2 (gB.mk ae ag ah) ap) ?_;rintro _ _ ⟨rfl,rfl⟩;show VO _ _ _ _ ⟨(_,.tup [])::_,[.box [.S v],.box [.I x7],bTy ab ac y,bTy ae ag ah],_⟩ _;refine goL ?_;refine jL (jR y3 (by omega)) ?_;exact⟨(y3+1),x7,h,by omega,eJ⟩
 ·have aa:=uS c5;rw [jF aa,gDj.eq_1] at h;refine gSn ?_;show mI _ _ _ _ _ _;obtain rfl:=Option.some.inj h;exact hEz [] [.box [.S v],.box [.I y2]] ⟨rfl,rfl⟩
def gQv:Nat→(List UInt8)→Int→gB→Option (Int)
 | 0,_,_,_=>none
 | n+1,c,f,h=>gQu (gQv n) c f h
theorem hNn:∀(n:Nat) (c:List UInt8) (f:Int) (y:gB) {r:Int},gQv n c f y=some r→Go.Eng.Spec Tryz.prog 106 [.d (jS y),.fn 116 [.ptr 0 0,.ptr 1 0]] [.box [.S c],.box [.I f]] (fun sv Lo=>sv=.tup []∧Lo=[.box [.S c],.box [.I r]]):=by
 intro n
 induction n with
 | zero=>intro c f y r h;cases h
 | succ n ih=>intro c f y r h;exact hNm ih c f y h
mutual
def ctc(v:List UInt8)(n:Int):gB→Int
 | ⟨k,s,ts⟩=>hRx v (cnd (cnd (k==1) (s==v) false) (IntKind.i64.wrap (n+1)) n) ts
def hRx(v:List UInt8)(n:Int):List gB→Int
 | []=>n
 | a::ts=>hRx v (ctc v n a) ts
end
theorem gP0{rec:List UInt8→Int→gB→Option Int}(v:List UInt8):∀(xs:List gB) (y:Int),(∀x∈xs,∀n,rec v n x=some (ctc v n x))→gDj rec v xs y=some (hRx v y xs)
 | [],y,_=>rfl
 | x::xs,y,h=>by
   simp only [gDj,h x (by simp),bnd,hRx];exact gP0 v xs _ (fun z hz=>h z (by simp [hz]))
theorem gYo(v:List UInt8):∀(m:Nat) (n:Int) (t:gB),tnd t≤m→gQv m v n t=some (ctc v n t)
 | 0,n,t,h=>by have:=gBq t;omega
 | m+1,n,⟨k,s,ts⟩,h=>by
   simp only [tnd] at h;simp only [gQv,gQu,lt_,ctc];rw [gP0 v ts _ (fun x hx n=>gYo v m n x (by have:=zC hx;omega))];rfl
theorem hNo(c:List UInt8)(h:Int)(f:gB):Go.Eng.Spec Tryz.prog 106 [.d (jS f),.fn 116 [.ptr 0 0,.ptr 1 0]] [.box [.S c],.box [.I h]] (fun sv Lo=>sv=.tup []∧Lo=[.box [.S c],.box [.I (ctc c h f)]]):=hNn (tnd f) c h f (gYo _ _ _ _ (Nat.le_refl _))
def gOg(c:gB)(a1:List UInt8):Int:=
lt_ (ctc a1 0 c) fun f=>
f
theorem hNp(a0:gB)(a1:List UInt8):jC Tryz.prog 96 [.d (jS a0),.S a1] [.i .i64 (gOg a0 a1)]:=by
 obtain⟨r,h⟩:∃r,gOg a0 a1=r:=⟨_,rfl⟩
 rw [h];obtain⟨c,f,y⟩:=a0;unfold gOg at h;refine SpI Tryz.func96 fun A _=>?_;refine goL ?_;refine qI (gZ1) ?_;obtain⟨x1,ab,h⟩:=qB h;have sx1:=hNo a1 0 (gB.mk c f y);rw [ab] at sx1;refine yY [1,2] (sx1) ?_;rintro _ _ ⟨rfl,rfl⟩;show VO _ _ _ _ ⟨(_,.tup [])::_,[bTy c f y,.box [.S a1],.box [.I x1]],_⟩ _;refine goL ?_;refine jK ?_;subst h;exact qA
def gJg(c:List UInt8)(a1:gB):Bool:=
(decide ((gOg a1 c) > 0))
theorem hJl(a0:List UInt8)(a1:gB):jC Tryz.prog 79 [.S a0,.d (jS a1)] [.b (gJg a0 a1)]:=by
 obtain⟨r,h⟩:∃r,gJg a0 a1=r:=⟨_,rfl⟩
 rw [h];obtain⟨c,f,y⟩:=a1;unfold gJg at h;refine SpI Tryz.func79 fun A _=>?_;refine goL ?_;refine jL (gF (hNp (gB.mk c f y) a0)) ?_;refine jK ?_;subst h;exact qA
def gPj(next:Int)(count:Int)(node:Int)(c:List gG)(es:List jB)(os:List jN)(code:Int)(att:Int)(v:gB)(t:gB):Option (Int × Int × List gG):=
(cnd (gJg v.name t) (
lt_ (gI2 next count node c es os code att 2) fun f=>
(some (f.1,f.2,c))) (
gd (c.length+[(gG.mk v.name t)].length≤4294967296) (
(some (code,att,(c++[(gG.mk v.name t)]))))))
theorem hJm(next:Int)(count:Int)(node:Int)(l1:List gG)(es:List jB)(os:List jN)(code:Int)(att:Int)(v:gB)(t:gB)(c:Nat)(f:Nat)(y:Nat){r:Int × Int × List gG}(h:gPj next count node l1 es os code att v t=some r):Go.Eng.Spec Tryz.prog 49 [.ptr 0 0,.d (jS v),.d (jS t)] [.box [.I next,.I count,.I node,.sl 1 c,.sl 2 f,.sl 3 y,.I code,.I att],.arr 101 4 c (gN l1),.arr 79 7 f (gW es),.arr 81 5 y (gT os)] (fun sv Lo=>∃v'1,sv=.tup []∧Lo=[.box [.I next,.I count,.I node,.sl 1 v'1,.sl 2 f,.sl 3 y,.I r.1,.I r.2.1],.arr 101 4 v'1 (gN r.2.2),.arr 79 7 f (gW es),.arr 81 5 y (gT os)]):=by
 obtain⟨ai,aa,aj⟩:=v;obtain⟨ab,ac,ad⟩:=t;unfold gPj at h;refine kM 4 Tryz.func49 rfl (by kernel_rfl) rfl rfl fun A _=>?_;refine goL ?_;refine jL (gF (hJl aa (gB.mk ab ac ad))) ?_;refine kX (fun c1=>?_) (fun c1=>?_)
 ·replace h:=kD c1 h;refine goL ?_;obtain⟨⟨ae,ag⟩,al,h⟩:=qB h;have sx2:=gWg next count node l1 es os code att 2 c f y
  rw [al] at sx2;refine yY [0,1,2,3] (sx2) ?_;rintro _ _ ⟨rfl,rfl⟩;show VO _ _ _ _ ⟨(_,.tup [])::_,[.box [.I next,.I count,.I node,.sl 1 c,.sl 2 f,.sl 3 y,.I ae,.I ag],.arr 101 4 c (gN l1),.arr 79 7 f (gW es),.arr 81 5 y (gT os),bTy ai aa aj,bTy ab ac ad],_⟩ _;refine goL ?_;refine jK ?_;obtain rfl:=Option.some.inj h;exact zB [] [.box [.I next,.I count,.I node,.sl 1 c,.sl 2 f,.sl 3 y,.I ae,.I ag],.arr 101 4 c (gN l1),.arr 79 7 f (gW es),.arr 81 5 y (gT os)] ⟨c,rfl,rfl⟩
 ·replace h:=kE c1 h;refine noS ?_;refine uF (P:=Tryz.prog) Mix.h [(0,true),(1,true),(2,true),(3,true),(4,true),(5,true),(6,true),(7,true),(8,true),(9,false),(10,false),(11,true),(12,true),(13,false)] (by kernel_rfl) ?_;refine goY ?_;refine qE (T:=28) (us:=gN [(gG.mk aa (gB.mk ab ac ad))]) ?_;obtain⟨g3,h⟩:=mW h;refine pV (T:=28) g3 ?_;refine goY ?_;refine kQ ?_;refine goL ?_;obtain rfl:=Option.some.inj h;exact hEz [] [.box [.I next,.I count,.I node,.sl 1 (c+1),.sl 2 f,.sl 3 y,.I code,.I att],.arr 101 4 (c+1) (gN (l1++[(gG.mk aa (gB.mk ab ac ad))])),.arr 79 7 f (gW es),.arr 81 5 y (gT os)] ⟨(c+1),rfl,rfl⟩
def gGx(next:Int)(count:Int)(node:Int)(bs:List gG)(es:List jB)(os:List jN)(code:Int)(att:Int)(q:kP)(t:gB):Option (gB × Bool × Int × Int):=
bnd ((cnd (t.kind != 3) ((some true)) (bnd (gT1 t) fun h=>
(some h)))) fun y=>
(cnd y (
(some ((gB.mk 0 [] []),false,code,att))) (
bnd (qO 100000 q t 0) fun c=>
(cnd (c.2 != 0) (
lt_ (gI2 next count node bs es os code att 7) fun f=>
(some ((gB.mk 0 [] []),false,f.1,f.2))) (
(some (c.1,(!(teq c.1 t)),code,att))))))
theorem gUn(next:Int)(count:Int)(node:Int)(bs:List gG)(es:List jB)(os:List jN)(code:Int)(att:Int)(q:kP)(t:gB)(v1:Nat)(v2:Nat)(v3:Nat){r:gB × Bool × Int × Int}(h:gGx next count node bs es os code att q t=some r):Go.Eng.Spec Tryz.prog 50 [.ptr 0 0,.ptr 4 0,.d (jS t)] [.box [.I next,.I count,.I node,.sl 1 v1,.sl 2 v2,.sl 3 v3,.I code,.I att],.arr 101 4 v1 (gN bs),.arr 79 7 v2 (gW es),.arr 81 5 v3 (gT os),.box [.L 6 (gX q.w.packages),.L 6 (gM q.assumed)]] (fun sv Lo=>sv=.tup [.d (jS r.1),.B r.2.1]∧Lo=[.box [.I next,.I count,.I node,.sl 1 v1,.sl 2 v2,.sl 3 v3,.I r.2.2.1,.I r.2.2.2],.arr 101 4 v1 (gN bs),.arr 79 7 v2 (gW es),.arr 81 5 v3 (gT os),.box [.L 6 (gX q.w.packages),.L 6 (gM q.assumed)]]):=by
 obtain⟨⟨aa⟩,ae⟩:=q;obtain⟨ag,ah,ai⟩:=t;unfold gGx at h;refine kM 5 Tryz.func50 rfl (by kernel_rfl) rfl rfl fun A _=>?_;refine goL ?_;obtain⟨b1,hb1,h⟩:=gP h;refine jT ⟨[(0,.ptr 0 0),(1,.ptr 4 0),(5,.ptr 5 0),(6,.ptr 6 0),(16,.B b1)],[.box [.I next,.I count,.I node,.sl 1 v1,.sl 2 v2,.sl 3 v3,.I code,.I att],.arr 101 4 v1 (gN bs),.arr 79 7 v2 (gW es),.arr 81 5 v3 (gT os),.box [.L 6 (gX aa),.L 6 (gM ae)],bTy ag ah ai,.box [.I 0,.S [],.nilsl]],Tryz.f50.ntmps⟩ ?_ ?_
 ·refine gqO 13 hb1 (fun c2 hb1=>?_);obtain⟨x3,am,hb1⟩:=gP hb1;refine jL (gF (hOu _ am)) ?_;cases hb1;exact eJ
 refine goC h ?_ ?_<;>intro c4 h
 ·refine goL ?_;refine gBn (jU TBd.h TZ.h rfl (by repeat constructor)) ?_;refine jK ?_;obtain rfl:=Option.some.inj h;exact zB [.d (.st [.i .i64 0,.s [],.sl 3 []]),.B false] [.box [.I next,.I count,.I node,.sl 1 v1,.sl 2 v2,.sl 3 v3,.I code,.I att],.arr 101 4 v1 (gN bs),.arr 79 7 v2 (gW es),.arr 81 5 v3 (gT os),.box [.L 6 (gX aa),.L 6 (gM ae)]] ⟨rfl,rfl⟩
 ·refine goS ?_;obtain⟨⟨⟨c,f,y⟩,al⟩,an,h⟩:=gP h;refine yY [4] (gNg 100000 (kP.mk (gI.mk aa) ae) (gB.mk ag ah ai) 0 an) ?_;rintro _ _ ⟨rfl,rfl⟩;show VO _ _ _ _ ⟨(_,.tup [.d (.st [.i .i64 c,.s f,.sl 3 (jJ y)]),.I al])::_,[.box [.I next,.I count,.I node,.sl 1 v1,.sl 2 v2,.sl 3 v3,.I code,.I att],.arr 101 4 v1 (gN bs),.arr 79 7 v2 (gW es),.arr 81 5 v3 (gT os),.box [.L 6 (gX aa),.L 6 (gM ae)],bTy ag ah ai,.box [.I 0,.S [],.nilsl]],_⟩ _;refine goC h ?_ ?_<;>intro c6 h
  ·refine goL ?_;obtain⟨⟨aj,ak⟩,ao,h⟩:=qB h;have sx7:=gWg next count node bs es os code att 7 v1 v2 v3
   rw [ao] at sx7;refine yY [0,1,2,3] (sx7) ?_;rintro _ _ ⟨rfl,rfl⟩;show VO _ _ _ _ ⟨(_,.tup [])::_,[.box [.I next,.I count,.I node,.sl 1 v1,.sl 2 v2,.sl 3 v3,.I aj,.I ak],.arr 101 4 v1 (gN bs),.arr 79 7 v2 (gW es),.arr 81 5 v3 (gT os),.box [.L 6 (gX aa),.L 6 (gM ae)],bTy ag ah ai,.box [.I 0,.S [],.nilsl],bTy c f y],_⟩ _;refine goL ?_;refine gBn (jU TBd.h TZ.h rfl (by repeat constructor)) ?_;refine jK ?_;obtain rfl:=Option.some.inj h;exact zB [.d (.st [.i .i64 0,.s [],.sl 3 []]),.B false] [.box [.I next,.I count,.I node,.sl 1 v1,.sl 2 v2,.sl 3 v3,.I aj,.I ak],.arr 101 4 v1 (gN bs),.arr 79 7 v2 (gW es),.arr 81 5 v3 (gT os),.box [.L 6 (gX aa),.L 6 (gM ae)]] ⟨rfl,rfl⟩
  ·refine noS ?_;refine qH (P:=Tryz.prog) Mix.h (.q 0 (.q 1 (.q 2 (.q 3 (.q 4 (.h 5 (.q 6 .nil) .nil)))))) ⟨[(6,.ptr 6 0),(7,.d (.b (!(teq (gB.mk c f y) (gB.mk ag ah ai)))))],[.box [.I next,.I count,.I node,.sl 1 v1,.sl 2 v2,.sl 3 v3,.I code,.I att],.arr 101 4 v1 (gN bs),.arr 79 7 v2 (gW es),.arr 81 5 v3 (gT os),.box [.L 6 (gX aa),.L 6 (gM ae)],bTy ag ah ai,bTy c f y,bTy c f y],Tryz.f50.ntmps⟩ (by kernel_rfl) ?_ ?_
   ·refine gSu ?_;refine gAt (jI rfl (gF (gIt (gB.mk c f y) (gB.mk ag ah ai))) jX) ?_;refine hE5 rfl (hI7) ?_;refine gSu ?_;refine jY ?_;exact uK 5 [0,1,2,3,4,5,6,7]
   refine goL ?_;refine jK ?_;obtain rfl:=Option.some.inj h;exact zB [.d (.st [.i .i64 c,.s f,.sl 3 (jJ y)]),.d (.b (!(teq (gB.mk c f y) (gB.mk ag ah ai))))] [.box [.I next,.I count,.I node,.sl 1 v1,.sl 2 v2,.sl 3 v3,.I code,.I att],.arr 101 4 v1 (gN bs),.arr 79 7 v2 (gW es),.arr 81 5 v3 (gT os),.box [.L 6 (gX aa),.L 6 (gM ae)]] ⟨rfl,rfl⟩
end Go.Proofs.YtegahmhnmjnhhaaGreat
