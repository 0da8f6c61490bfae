import Derived.Test.YtegahmhnmjnhhaaGreatUn1
set_option maxHeartbeats 4000000
set_option linter.unusedVariables false
set_option linter.unusedSimpArgs false
set_option linter.unusedSectionVars false
namespace Go.Proofs.YtegahmhnmjnhhaaGreat
open Go Go.Eng
attribute [local irreducible] V VO VQ VY Quiet QR jC kT Rng mU mV mI
def yV(a1:List UInt8):List (List UInt8)→Nat→Int
 | [],c=>(-1)
 | f::xs,c=>(cnd (a1==f) (
(c:Int)) (
yV a1 xs (c+1)))
def gOs(c:List (List UInt8))(a1:List UInt8):Int:=
yV a1 c 0
theorem hOi(y:List (List UInt8))(a1:List UInt8):jC Tryz.prog 127 [.L 1 (jP y),.S a1] [.i .i64 (gOs y a1)]:=by
 obtain⟨r,h⟩:∃r,gOs y a1=r:=⟨_,rfl⟩
 rw [h];unfold gOs at h;refine SpI Tryz.func127 fun A _=>?_;refine goL ?_;refine noB ?_;refine gBx 0 (fun z2=>?_);refine mQ (fun(f:Nat)=>⟨[(0,.L 1 (jP y)),(1,.S a1),(7,.I (y.length:Int)),(8,.N f)],[],Tryz.f127.ntmps⟩) (fun f=>yV a1 (y.drop f) f=r) (fun f=>y.length - f) 0 eJ h ?_;rintro f h;refine goL ?_;refine jW (kX (fun c3=>?_) (fun c3=>?_))
 ·have c:=uR c3;obtain⟨x4,ac,aa⟩:=drop_at c;rw [aa,yV.eq_2] at h;refine noS ?_;refine jW (jE ?_);refine goL ?_;refine jL (jM f (gQq ac)) ?_;refine kX (fun c5=>?_) (fun c5=>?_)
  ·replace h:=kD c5 h;refine goL ?_;refine jK ?_;subst h;exact qA
  ·replace h:=kE c5 h;refine goS ?_;refine jL (jR f (by omega)) ?_;exact⟨(f+1),h,by omega,eJ⟩
 ·have c:=uS c3;rw [jF c,yV.eq_1] at h;refine goX ?_;refine jK ?_;subst h;exact qA
def gDm(c:List (List UInt8))(a1:List UInt8):Bool:=
(decide ((gOs c a1)≥0))
theorem gTf(c:List (List UInt8))(a1:List UInt8):jC Tryz.prog 108 [.L 1 (jP c),.S a1] [.b (gDm c a1)]:=by
 obtain⟨r,h⟩:∃r,gDm c a1=r:=⟨_,rfl⟩
 rw [h];unfold gDm at h;refine SpI Tryz.func108 fun A _=>?_;refine goL ?_;refine jL (gF (hOi c a1)) ?_;refine jK ?_;subst h;exact qA
def gL2(u:gB)(c:List (List UInt8)):Option (List (List UInt8)):=
lt_ ((cnd (u.kind==1) ((!(gDm c u.name))) (false))) fun f=>
(cnd f (
gd (c.length+[u.name].length≤4294967296) (
(some (c++[u.name])))) (
(some c)))
theorem hK6(u:gB)(y:List (List UInt8))(c:Nat){r:List (List UInt8)}(h:gL2 u y=some r):Go.Eng.Spec Tryz.prog 107 [.d (jS u),.ptr 0 0] [.box [.sl 1 c],.own 9 1 c (jP y)] (fun sv Lo=>∃v'1,sv=.tup []∧Lo=[.box [.sl 1 v'1],.own 9 1 v'1 (jP r)]):=by
 obtain⟨aa,f,ab⟩:=u;unfold gL2 at h;refine kM 2 Tryz.func107 rfl (by kernel_rfl) rfl rfl fun A _=>?_;refine goL ?_;obtain⟨b1,hb1,h⟩:=qB h;refine jT ⟨[(1,.ptr 0 0),(2,.ptr 2 0),(12,.B b1)],[.box [.sl 1 c],.own 9 1 c (jP y),bTy aa f ab],Tryz.f107.ntmps⟩ ?_ ?_
 ·refine gqA 6 hb1 (fun c2 hb1=>?_);refine gBn (gW2 (gTf y f)) ?_;cases hb1;exact eJ
 refine goC h ?_ ?_<;>intro c3 h
 ·refine goL ?_;refine gBc f ?_;obtain⟨g4,h⟩:=mW h;refine gH3 g4 ?_;refine goL ?_;obtain rfl:=Option.some.inj h;exact hEz [] [.box [.sl 1 (c+1)],.own 9 1 (c+1) (jP (y++[f]))] ⟨(c+1),rfl,rfl⟩
 ·refine zA ?_;show mI _ _ _ _ _ _;obtain rfl:=Option.some.inj h;exact hEz [] [.box [.sl 1 c],.own 9 1 c (jP y)] ⟨c,rfl,rfl⟩
def zN(c:gB→(List (List UInt8))→Option (List (List UInt8))):List gB→(List (List UInt8))→Option (List (List UInt8))
 | [],f=>(some f)
 | h::xs,f=>bnd (c h f) fun y=>
zN c xs y
def gMo(c:gB→(List (List UInt8))→Option (List (List UInt8)))(u:gB)(f:List (List UInt8)):Option (List (List UInt8)):=
bnd (gL2 u f) fun h=>
zN c u.args h
theorem hFh{c:gB→(List (List UInt8))→Option (List (List UInt8))}(f:∀(x0:gB) (x1:List (List UInt8)) (w0:Nat) {r:List (List UInt8)},c x0 x1=some r→Go.Eng.Spec Tryz.prog 106 [.d (jS x0),.fn 107 [.ptr 0 0]] [.box [.sl 1 w0],.own 9 1 w0 (jP x1)] (fun sv Lo=>∃v'1,sv=.tup []∧Lo=[.box [.sl 1 v'1],.own 9 1 v'1 (jP r)]))(u:gB)(l1:List (List UInt8))(v1:Nat){r:List (List UInt8)}(h:gMo c u l1=some r):Go.Eng.Spec Tryz.prog 106 [.d (jS u),.fn 107 [.ptr 0 0]] [.box [.sl 1 v1],.own 9 1 v1 (jP l1)] (fun sv Lo=>∃v'1,sv=.tup []∧Lo=[.box [.sl 1 v'1],.own 9 1 v'1 (jP r)]):=by
 obtain⟨ab,ac,y⟩:=u;unfold gMo at h;refine kM 2 Tryz.func106 rfl (by kernel_rfl) rfl rfl fun A _=>?_;refine goL ?_;obtain⟨x1,ap,h⟩:=gP h;refine yY [0,1] (hK6 (gB.mk ab ac y) l1 v1 ap) ?_;rintro _ _ ⟨v2,rfl,rfl⟩;show VO _ _ _ _ ⟨(_,.tup [])::_,[.box [.sl 1 v2],.own 9 1 v2 (jP x1),bTy ab ac y],_⟩ _;refine goL ?_;refine noB ?_;refine gBx 10 (fun z6=>?_);refine kS (fun(y5:Nat) (y3:List (List UInt8)) (v4:Nat)=>⟨[(1,.fn 107 [.ptr 0 0]),(10,.L 3 (jJ y)),(11,.I (y.length:Int)),(12,.N y5)],[.box [.sl 1 v4],.own 9 1 v4 (jP y3),bTy ab ac y],Tryz.f106.ntmps⟩) (fun y5 y3 v4=>zN c (y.drop y5) y3=some r) (fun y5 y3 v4=>y.length - y5) 0 x1 v2 eJ h ?_;rintro y5 y3 v4 h;refine goL ?_;refine jW (kX (fun c7=>?_) (fun c7=>?_))
 ·have aa:=uR c7;obtain⟨x8,au,am⟩:=drop_at aa;rw [am,zN.eq_2] at h;obtain⟨ag,ah,ai⟩:=x8;refine noS ?_;refine jW (jE ?_);refine goL ?_;refine jL (jM y5 (zL au)) ?_;obtain⟨x9,av,h⟩:=gP h;refine yY [0,1] (f (gB.mk ag ah ai) y3 v4 av) ?_;rintro _ _ ⟨ak,rfl,rfl⟩;show VO _ _ _ _ ⟨(_,.tup [])::_,[.box [.sl 1 ak],.own 9 1 ak (jP x9),bTy ab ac y,bTy ag ah ai],_⟩ _;refine goL ?_;refine jL (jR y5 (by omega)) ?_;exact⟨(y5+1),x9,ak,h,by omega,eJ⟩
 ·have aa:=uS c7;rw [jF aa,zN.eq_1] at h;refine gSn ?_;show mI _ _ _ _ _ _;obtain rfl:=Option.some.inj h;exact hEz [] [.box [.sl 1 v4],.own 9 1 v4 (jP y3)] ⟨v4,rfl,rfl⟩
def gG0:Nat→gB→(List (List UInt8))→Option (List (List UInt8))
 | 0,_,_=>none
 | n+1,c,f=>gMo (gG0 n) c f
theorem hFi:∀(n:Nat) (c:gB) (f:List (List UInt8)) (y:Nat) {r:List (List UInt8)},gG0 n c f=some r→Go.Eng.Spec Tryz.prog 106 [.d (jS c),.fn 107 [.ptr 0 0]] [.box [.sl 1 y],.own 9 1 y (jP f)] (fun sv Lo=>∃v'1,sv=.tup []∧Lo=[.box [.sl 1 v'1],.own 9 1 v'1 (jP r)]):=by
 intro n
 induction n with
 | zero=>intro c f y r h;cases h
 | succ n ih=>intro c f y r h;exact hFh ih c f y h
def gMw(k:Int)(n:List UInt8)(l:List (List UInt8)):List (List UInt8):=if k=1∧n∉l then l++[n] else l
mutual
def gKy:gB→List (List UInt8)→List (List UInt8)
 | ⟨k,n,ts⟩,l=>gIy ts (gMw k n l)
def gIy:List gB→List (List UInt8)→List (List UInt8)
 | [],l=>l
 | a::ts,l=>gIy ts (gKy a l)
end
theorem gUy(k:Int)(n:List UInt8)(l:List (List UInt8)):(gMw k n l).length≤l.length+1:=by
 unfold gMw;split
 ·simp
 ·omega
mutual
theorem gTg:∀(t:gB) (l:List (List UInt8)),(gKy t l).length≤l.length+tnd t
 | ⟨k,n,ts⟩,l=>by
   simp only [gKy,tnd];have c:=gUz ts (gMw k n l);have f:=gUy k n l;omega
theorem gUz:∀(ts:List gB) (l:List (List UInt8)),(gIy ts l).length≤l.length+gA6 ts
 | [],l=>by simp [gIy]
 | a::ts,l=>by
   simp only [gIy,gA6];have c:=gUz ts (gKy a l);have f:=gTg a l;omega
end
theorem gU0(a:List UInt8):∀(l:List (List UInt8)) (k:Nat),0≤yV a l k↔a∈l
 | [],k=>by simp [yV]
 | x::l,k=>by
   by_cases h:a=x
   ·subst h;simp [yV,cnd]
   ·have c:(a==x)=false:=by simpa using h
    have f:yV a (x::l) k=yV a l (k+1):=by simp [yV,c,cnd]
    rw [f,gU0 a l (k+1)];simp [h]
theorem gZd(l:List (List UInt8))(a:List UInt8):gDm l a=decide (a∈l):=by
 unfold gDm gOs;exact decide_eq_decide.2 (gU0 a l 0)
theorem hFj(u:gB)(l:List (List UInt8))(h:l.length+1≤4294967296):gL2 u l=some (gMw u.kind u.name l):=by
 unfold gL2 lt_ gMw;rw [gZd];by_cases c:u.kind=1
 ·by_cases f:u.name∈l
  ·simp [c,f,cnd]
  ·simp only [c,f,decide_false,Bool.not_false,beq_self_eq_true,gZ,not_false_eq_true,and_self,if_true];rw [mK (by simpa using h)]
 ·have:(u.kind==1)=false:=by simpa using c
  simp [this,c,cnd]
theorem gMx{n:Nat}(ih:∀(t:gB) (l:List (List UInt8)),tnd t≤n→l.length+tnd t≤4294967296→gG0 n t l=some (gKy t l)) :
  ∀(xs:List gB) (l:List (List UInt8)),gA6 xs≤n→l.length+gA6 xs≤4294967296→zN (gG0 n) xs l=some (gIy xs l)
 | [],l,_,_=>by simp [zN,gIy]
 | x::xs,l,c,f=>by
   simp only [gA6] at c f;simp only [zN,gIy];rw [ih x l (by omega) (by omega)]
   have:=gTg x l
   exact gMx ih xs _ (by omega) (by omega)
theorem gTh:∀(n:Nat) (t:gB) (l:List (List UInt8)),tnd t≤n→l.length+tnd t≤4294967296→gG0 n t l=some (gKy t l)
 | 0,⟨k,nm,ts⟩,l,h,_=>by simp only [tnd] at h;omega
 | n+1,⟨k,nm,ts⟩,l,c,f=>by
   simp only [tnd] at c f;simp only [gG0,gMo,gKy];rw [hFj _ _ (by omega)]
   have:=gUy k nm l
   exact gMx (gTh n) ts (gMw k nm l) (by omega) (by omega)
theorem hFk(c:gB)(f:List (List UInt8))(y:Nat)(h:f.length+tnd c≤4294967296):Go.Eng.Spec Tryz.prog 106 [.d (jS c),.fn 107 [.ptr 0 0]] [.box [.sl 1 y],.own 9 1 y (jP f)] (fun sv Lo=>∃v'1,sv=.tup []∧Lo=[.box [.sl 1 v'1],.own 9 1 v'1 (jP (gKy c f))]):=hFi (tnd c) c f y (gTh _ _ _ (Nat.le_refl _) h)
def zD:List gB→(List (List UInt8))→Option (List (List UInt8))
 | [],c=>(some c)
 | f::xs,c=>gd (c.length+tnd f≤4294967296) (lt_ (gKy f c) fun h=>
zD xs h)
def gGt(c:List gB):Option (List (List UInt8)):=
zD c []
theorem gW0(a0:List gB){r:List (List UInt8)}(h:gGt a0=some r):kT Tryz.prog 89 [.L 3 (jJ a0)] [9] [.sl 1 (jP r)]:=by
 unfold gGt at h;refine pM Tryz.func89 rfl (by kernel_rfl) rfl (by simp) fun A _=>?_;refine goL ?_;refine gF9 ?_;refine goL ?_;refine noB ?_;refine gBx 7 (fun z4=>?_);refine kS (fun(f:Nat) (y1:List (List UInt8)) (v2:Nat)=>⟨[(3,.ptr 1 0),(7,.L 3 (jJ a0)),(8,.I (a0.length:Int)),(9,.N f)],[.own 9 1 v2 (jP y1),.box [.sl 0 v2]],Tryz.f89.ntmps⟩) (fun f y1 v2=>zD (a0.drop f) y1=some r) (fun f y1 v2=>a0.length - f) 0 [] 0 eJ h ?_;rintro f y1 v2 h;refine goL ?_;refine jW (kX (fun c5=>?_) (fun c5=>?_))
 ·have c:=uR c5;obtain⟨x6,ai,ag⟩:=drop_at c;rw [ag,zD.eq_2] at h;obtain⟨y,aa,ab⟩:=x6;refine noS ?_;refine jW (jE ?_);refine goL ?_;refine jL (jM f (zL ai)) ?_;refine qI (gZ1) ?_;obtain⟨g8,h⟩:=mW h;obtain⟨x7,aj,h⟩:=qB h;have sx7:=hFk (gB.mk y aa ab) y1 v2 g8;rw [aj] at sx7;refine yY [1,0] (sx7) ?_;rintro _ _ ⟨v9,rfl,rfl⟩;show VO _ _ _ _ ⟨(_,.tup [])::_,[.own 9 1 v9 (jP x7),.box [.sl 0 v9],bTy y aa ab],_⟩ _;refine goL ?_;refine jL (jR f (by omega)) ?_;exact⟨(f+1),x7,v9,h,by omega,eJ⟩
 ·have c:=uS c5;rw [jF c,zD.eq_1] at h;refine goX ?_;refine jK ?_;obtain rfl:=Option.some.inj h;exact gPw
def gAp(c:gB):Option (List (List UInt8)):=
bnd (gGt [c]) fun f=>
(some f)
theorem gL3(a0:gB){r:List (List UInt8)}(h:gAp a0=some r):kT Tryz.prog 64 [.d (jS a0)] [9] [.sl 1 (jP r)]:=by
 obtain⟨c,f,y⟩:=a0;unfold gAp at h;refine pM Tryz.func64 rfl (by kernel_rfl) rfl (by simp) fun A _=>?_;refine goL ?_;refine gAk (u:=(.st [.i .i64 c,.s f,.sl 3 (jJ y)])) ?_;obtain⟨x1,ab,h⟩:=gP h;refine gGa (gW0 [(gB.mk c f y)] ab) ?_;refine goL ?_;refine jK ?_;obtain rfl:=Option.some.inj h;exact gPw
def gJl(c:Int):Bool:=
lt_ ((cnd (decide (c≥48)) ((decide (c≤57))) (false))) fun f=>
f
theorem hK7(c:Int):jC Tryz.prog 90 [.d (.i .u8 c)] [.b (gJl c)]:=by
 obtain⟨r,h⟩:∃r,gJl c=r:=⟨_,rfl⟩
 rw [h];unfold gJl at h;refine SpI Tryz.func90 fun A _=>?_;refine goL ?_;obtain⟨f,hb1,h⟩:=qB h;refine jT ⟨[(2,.B f)],[],Tryz.f90.ntmps⟩ ?_ ?_
 ·exact gqZ 5 hb1
 refine goL ?_;refine jK ?_;subst h;exact qA
def wL:List UInt8→Option (Bool)
 | []=>(some true)
 | c::xs=>(cnd (!(gJl (c.toNat:Int))) (
(some false)) (
wL xs ))
def zO(c:List UInt8):Option (Bool):=
bnd ((cnd (decide ((c.length:Int) < 2)) ((some true)) (bnd (at? c 0) fun f=>
(cnd ((f.toNat:Int) != 63) ((some true)) ((cnd (decide ((c.length:Int) > 2)) (bnd (at? c 1) fun h=>
(some ((h.toNat:Int)==48))) ((some false)))))))) fun y=>
(cnd y (
(some false)) (
wL (c.drop 1) ))
theorem gKl(a0:List UInt8){r:Bool}(h:zO a0=some r):jC Tryz.prog 66 [.S a0] [.b r]:=by
 unfold zO at h;refine SpI Tryz.func66 fun A _=>?_;refine goL ?_;obtain⟨b1,hb1,h⟩:=gP h;refine jT ⟨[(0,.S a0),(21,.B b1)],[],Tryz.f66.ntmps⟩ ?_ ?_
 ·refine gqO 7 hb1 (fun c2 hb1=>?_);obtain⟨x3,y,hb1⟩:=gP hb1;obtain⟨ag,y⟩:=gEd y;refine jL (gJd ag y) ?_;refine gqO 12 hb1 (fun c4 hb1=>?_);refine gqA 16 hb1 (fun c5 hb1=>?_);obtain⟨x6,aa,hb1⟩:=gP hb1;obtain⟨ah,aa⟩:=gEd aa;refine jL (gJd ah aa) ?_;cases hb1;exact eJ
 refine goC h ?_ ?_<;>intro c7 h
 ·exact goR h
 ·refine goS ?_;refine noB ?_;refine hId 0 (fun z9=>?_);refine mQ (fun(f:Nat)=>⟨[(0,.S a0),(3,.N f)],[],Tryz.f66.ntmps⟩) (fun f=>wL (a0.drop f)  =some r) (fun f=>a0.length - f) 1 eJ h ?_;rintro f h;refine goL ?_;refine kX (fun ab=>?_) (fun ab=>?_)
  ·have c:=hS3 ab;obtain⟨aj,ai,ac⟩:=drop_at c;rw [ac,wL.eq_2] at h;refine noS ?_;refine jW (jE ?_);refine goL ?_;refine qI (gF8 f ai) ?_;refine jL (gF (hK7 (aj.toNat:Int))) ?_;refine kX (fun ad=>?_) (fun ad=>?_)
   ·replace h:=kD ad h;exact goR h
   ·replace h:=kE ad h;refine goS ?_;refine jL (jR f (by omega)) ?_;exact⟨(f+1),h,by omega,eJ⟩
  ·have c:=hS4 ab;rw [jF c,wL.eq_1] at h;refine goX ?_;refine jK ?_;cases h;exact qA
def gCj:List UInt8→Option (Bool)
 | []=>(some true)
 | c::xs=>lt_ ((cnd (decide ((c.toNat:Int) < 48)) (true) ((decide ((c.toNat:Int) > 57))))) fun f=>
(cnd f (
(some false)) (
gCj xs ))
def gF2(c:gB):Option (Bool):=
bnd ((cnd (c.kind != 1) ((some true)) ((cnd (decide ((c.name.length:Int) < 2)) ((some true)) (bnd (at? c.name 0) fun f=>
(cnd ((f.toNat:Int) != 63) ((some true)) (bnd (at? c.name 1) fun h=>
(cnd ((h.toNat:Int)==48) ((some (decide ((c.name.length:Int) > 2)))) ((some false)))))))))) fun y=>
(cnd y (
(some false)) (
gCj (c.name.drop 1) ))
theorem gOt(a0:gB){r:Bool}(h:gF2 a0=some r):jC Tryz.prog 59 [.d (jS a0)] [.b r]:=by
 obtain⟨y,c,aa⟩:=a0;unfold gF2 at h;refine SpI Tryz.func59 fun A _=>?_;refine goL ?_;obtain⟨b1,hb1,h⟩:=gP h;refine jT ⟨[(1,.ptr 0 0),(3,.I (c.length:Int)),(30,.B b1)],[bTy y c aa],Tryz.f59.ntmps⟩ ?_ ?_
 ·refine gqO 11 hb1 (fun c2 hb1=>?_);refine gqO 15 hb1 (fun c3 hb1=>?_);obtain⟨x4,ad,hb1⟩:=gP hb1;obtain⟨ai,ad⟩:=gEd ad;refine jL (gJd ai ad) ?_;refine gqO 21 hb1 (fun c5 hb1=>?_);obtain⟨x6,ae,hb1⟩:=gP hb1;obtain⟨aj,ae⟩:=gEd ae;refine jL (gJd aj ae) ?_;exact gqZ 26 hb1
 refine goC h ?_ ?_<;>intro c8 h
 ·exact goR h
 ·refine goS ?_;refine noB ?_;refine hUl 0 1 (fun an=>?_);refine mQ (fun(y9:Nat)=>⟨[(1,.ptr 0 0),(3,.I (c.length:Int)),(4,.N y9)],[bTy y c aa],Tryz.f59.ntmps⟩) (fun y9=>gCj (c.drop y9)  =some r) (fun y9=>c.length - y9) 1 eJ h ?_;rintro y9 h;refine goL ?_;refine kX (fun ag=>?_) (fun ag=>?_)
  ·have f:=hS3 ag;obtain⟨ao,ac,ah⟩:=drop_at f;rw [ah,gCj.eq_2] at h;refine noS ?_;refine jW (jE ?_);refine goL ?_;refine jL (gF8 y9 ac) ?_;obtain⟨al,hb13,h⟩:=qB h;refine jT ⟨[(1,.ptr 0 0),(3,.I (c.length:Int)),(4,.N y9),(47,.B al)],[bTy y c aa],Tryz.f59.ntmps⟩ ?_ ?_
   ·refine gqO 41 hb13 (fun ap hb13=>?_);refine jL (gF8 y9 ac) ?_;cases hb13;exact eJ
   refine goC h ?_ ?_<;>intro aq h
   ·exact goR h
   ·refine goS ?_;refine jL (jR y9 (by omega)) ?_;exact⟨(y9+1),h,by omega,eJ⟩
  ·have f:=hS4 ag;rw [jF f,gCj.eq_1] at h;refine goX ?_;refine jK ?_;cases h;exact qA
def dig(b:UInt8):Bool:=decide (48≤b.toNat) && decide (b.toNat≤57)
def isInf:List UInt8→Bool
 | f::c::l=>(f.toNat==63) && !(c.toNat==48 && !l.isEmpty) && (c::l).all dig
 | _=>false
theorem hFl(b:UInt8):gJl (b.toNat:Int)=dig b:=by
 unfold gJl lt_ dig;rw [hHx];by_cases f:48≤b.toNat
 ·have c:(decide ((b.toNat:Int)≥48))=true:=decide_eq_true (by omega);rw [c];simp [f];omega
 ·have c:(decide ((b.toNat:Int)≥48))=false:=by simp;omega
  rw [c];simp [f]
theorem gTi:∀(l:List UInt8),wL l=some (l.all dig)
 | []=>rfl
 | b::l=>by
   simp only [wL,hFl,List.all_cons];cases h:dig b with
   | true=>simp [cnd,gTi l]
   | false=>simp [cnd]
theorem gOu:∀(l:List UInt8),gCj l=some (l.all dig)
 | []=>rfl
 | b::l=>by
   simp only [gCj,lt_,List.all_cons];have key:(cnd (decide ((b.toNat:Int) < 48)) true (decide ((b.toNat:Int) > 57)))= !dig b:=by
    unfold dig;rw [hHx];by_cases y:b.toNat < 48
    ·have c:(decide ((b.toNat:Int) < 48))=true:=decide_eq_true (by omega);rw [c]
     have:¬48≤b.toNat:=by omega
     simp [this]
    ·have c:(decide ((b.toNat:Int) < 48))=false:=by simp;omega
     rw [c]
     have:48≤b.toNat:=by omega
     simp only [Bool.false_eq_true,if_false,this,decide_true,Bool.true_and];by_cases f:b.toNat≤57
     ·simp [f];omega
     ·simp [f];omega
   rw [key];cases h:dig b with
   | true=>simp [cnd,gOu l]
   | false=>simp [cnd]
theorem gI4(s:List UInt8):zO s=some (isInf s):=by
 match s with
 | []=>rfl
 | [a]=>rfl
 | c::f::l=>
   unfold zO;have h1:decide (((c::f::l).length:Int) < 2)=false:=by simp;omega
   have e0:at? (c::f::l) 0=some c:=rfl;have e1:at? (c::f::l) 1=some f:=rfl;rw [h1,e0,e1];simp only [gK,bnd,isInf];by_cases h:c.toNat=63
   ·have y:((c.toNat:Int) != 63)=false:=by simp [h]
    have h4:(c.toNat==63)=true:=by simp [h]
    rw [y,h4];simp only [gK,Bool.true_and,List.drop_succ_cons,List.drop_zero,gTi];cases l with
    | nil=>simp [cnd]
    | cons b2 l=>
      have h5:decide (((c::f::b2::l).length:Int) > 2)=true:=by simp;omega
      rw [h5];simp only [gZ,List.isEmpty_cons,Bool.not_false,Bool.and_true];by_cases h6:f.toNat=48
      ·have h7:((f.toNat:Int)==48)=true:=by simp [h6]
       have h8:(f.toNat==48)=true:=by simp [h6]
       rw [h7,h8];rfl
      ·have h7:((f.toNat:Int)==48)=false:=by simp;omega
       have h8:(f.toNat==48)=false:=by simp [h6]
       rw [h7,h8];simp [cnd]
   ·have y:((c.toNat:Int) != 63)=true:=by simp;omega
    have h4:(c.toNat==63)=false:=by simp [h]
    rw [y,h4];rfl
theorem gG1(t:gB):gF2 t=some ((t.kind==1) && isInf t.name):=by
 obtain⟨k,s,ts⟩:=t;unfold gF2;by_cases hk:k=1
 ·have h:(k != 1)=false:=by simp [hk]
  have h0':(k==1)=true:=by simp [hk]
  simp only [h,h0',gK,Bool.true_and]
  match s with
  | []=>rfl
  | [a]=>rfl
  | c::f::l=>
    have h1:decide (((c::f::l).length:Int) < 2)=false:=by simp;omega
    have e0:at? (c::f::l) 0=some c:=rfl;have e1:at? (c::f::l) 1=some f:=rfl;rw [h1,e0,e1];simp only [gK,bnd,isInf];by_cases y:c.toNat=63
    ·have h3:((c.toNat:Int) != 63)=false:=by simp [y]
     have h4:(c.toNat==63)=true:=by simp [y]
     rw [h3,h4];simp only [gK,Bool.true_and,List.drop_succ_cons,List.drop_zero,gOu];by_cases h6:f.toNat=48
     ·have h7:((f.toNat:Int)==48)=true:=by simp [h6]
      have h8:(f.toNat==48)=true:=by simp [h6]
      rw [h7,h8];cases l with
      | nil=>simp [cnd]
      | cons b2 l=>
        have h5:decide (((c::f::b2::l).length:Int) > 2)=true:=by simp;omega
        rw [h5];rfl
     ·have h7:((f.toNat:Int)==48)=false:=by simp;omega
      have h8:(f.toNat==48)=false:=by simp [h6]
      rw [h7,h8];simp [cnd]
    ·have h3:((c.toNat:Int) != 63)=true:=by simp;omega
     have h4:(c.toNat==63)=false:=by simp [y]
     rw [h3,h4];rfl
 ·have h:(k != 1)=true:=by simp [hk]
  have h0':(k==1)=false:=by simp [hk]
  simp only [h,h0'];rfl
theorem wrap_small{m:Int}(c: -4611686018427387904≤m)(f:m≤4611686018427387904):IntKind.i64.wrap m=m:=by
 exact qR m (by omega) (by omega)
mutual
theorem yX:∀(t:gB),tnd t≤4294967297→tsz t=tnd t
 | ⟨k,n,ts⟩,h=>by
   simp only [tnd] at h;simp only [tsz,tnd];rw [gU1 ts 1 (by omega) (by omega)];omega
theorem gU1:∀(ts:List gB) (y:Int),0≤y→y+gA6 ts≤4294967297→hN4 ts y=y+gA6 ts
 | [],y,_,_=>by simp [hN4,gA6]
 | a::ts,y,c,h=>by
   simp only [gA6] at h;simp only [hN4,gA6];rw [yX a (by omega),wrap_small (by omega) (by omega),gU1 ts _ (by omega) (by omega)];omega
end
def gA8(c:(List gG)→gB→Option (Bool))(f:List gG):List gB→Option (Bool)
 | []=>(some false)
 | h::xs=>bnd (c f h) fun y=>
(cnd y (
(some true)) (
gA8 c f xs ))
def gA9(c:(List gG)→gB→Option (Bool))(y:List gG):List gB→Option (Bool)
 | []=>(some false)
 | f::xs=>bnd (c y f) fun h=>
(cnd h (
(some true)) (
gA9 c y xs ))
def gMp(c:(List gG)→gB→Option (Bool))(f:List gG)(a1:gB):Option (Bool):=
bnd (gF2 a1) fun h=>
(cnd h (
bnd (gF1 f a1.name) fun y=>
(cnd y.2 (
(some true)) (
gA8 c f a1.args ))) (
gA9 c f a1.args ))
theorem hFm{c:(List gG)→gB→Option (Bool)}(f:∀(x0:List gG) (x1:gB) {r:Bool},c x0 x1=some r→jC Tryz.prog 84 [.L 4 (gN x0),.d (jS x1)] [.b r])(a0:List gG)(a1:gB){r:Bool}(h:gMp c a0 a1=some r):jC Tryz.prog 84 [.L 4 (gN a0),.d (jS a1)] [.b r]:=by
 obtain⟨aj,ad,y⟩:=a1;unfold gMp at h;refine SpI Tryz.func84 fun A _=>?_;refine goL ?_;obtain⟨x1,av,h⟩:=gP h;refine jL (gF (gOt _ av)) ?_;refine kX (fun c2=>?_) (fun c2=>?_)
 ·replace h:=kD c2 h;refine goL ?_;obtain⟨⟨⟨ae,ag,ah⟩,bb⟩,ax,h⟩:=gP h;refine jL (gF ((gTc a0 ad ax).p)) ?_;refine kX (fun c4=>?_) (fun c4=>?_)
  ·replace h:=kD c4 h;exact goR h
  ·replace h:=kE c4 h;refine goS ?_;refine noB ?_;refine wN 0 2 (fun z6=>?_);refine mQ (fun(y5:Nat)=>⟨[(0,.L 4 (gN a0)),(3,.ptr 0 0),(7,.N y5)],[bTy aj ad y,bTy ae ag ah],Tryz.f84.ntmps⟩) (fun y5=>gA8 c a0 (y.drop y5)  =some r) (fun y5=>y.length - y5) 0 eJ h ?_;rintro y5 h;refine goL ?_;refine kX (fun c7=>?_) (fun c7=>?_)
   ·have ac:=uR c7;obtain⟨x8,a4,ap⟩:=drop_at ac;rw [ap,gA8.eq_2] at h;obtain⟨bc,bd,be⟩:=x8;refine noS ?_;refine jW (jE ?_);refine goL ?_;refine jL (jM y5 (zL a4)) ?_;obtain⟨x9,a5,h⟩:=gP h;refine jL (gF (f _ _ a5)) ?_;refine kX (fun al=>?_) (fun al=>?_)
    ·replace h:=kD al h;exact goR h
    ·replace h:=kE al h;refine goS ?_;refine jL (jR y5 (by omega)) ?_;exact⟨(y5+1),h,by omega,eJ⟩
   ·have ac:=uS c7;rw [jF ac,gA8.eq_1] at h;refine goX ?_;refine jK ?_;cases h;exact qA
 ·replace h:=kE c2 h;refine goS ?_;refine noB ?_;refine wN 0 2 (fun bg=>?_);refine mQ (fun(aa:Nat)=>⟨[(0,.L 4 (gN a0)),(3,.ptr 0 0),(7,.N aa)],[bTy aj ad y],Tryz.f84.ntmps⟩) (fun aa=>gA9 c a0 (y.drop aa)  =some r) (fun aa=>y.length - aa) 0 eJ h ?_;rintro aa h;refine goL ?_;refine kX (fun am=>?_) (fun am=>?_)
  ·have ab:=uR am;obtain⟨a6,aq,an⟩:=drop_at ab;rw [an,gA9.eq_2] at h;obtain⟨a7,a8,a9⟩:=a6;refine noS ?_;refine jW (jE ?_);refine goL ?_;refine jL (jM aa (zL aq)) ?_;obtain⟨bh,ar,h⟩:=gP h;refine jL (gF (f _ _ ar)) ?_;refine kX (fun ao=>?_) (fun ao=>?_)
   ·replace h:=kD ao h;exact goR h
   ·replace h:=kE ao h;refine goS ?_;refine jL (jR aa (by omega)) ?_;exact⟨(aa+1),h,by omega,eJ⟩
  ·have ab:=uS am;rw [jF ab,gA9.eq_1] at h;refine goX ?_;refine jK ?_;cases h;exact qA
def gJm:Nat→(List gG)→gB→Option (Bool)
 | 0,_,_=>none
 | n+1,c,f=>gMp (gJm n) c f
theorem hFo:∀(n:Nat) (c:List gG) (f:gB) {r:Bool},gJm n c f=some r→jC Tryz.prog 84 [.L 4 (gN c),.d (jS f)] [.b r]:=by
 intro n
 induction n with
 | zero=>intro c f r h;cases h
 | succ n ih=>intro c f r h;exact hFm ih c f h
mutual
def gW1(p:List UInt8→Bool):gB→Bool
 | ⟨k,n,ts⟩=>((k==1) && p n) || gGc p ts
def gGc(p:List UInt8→Bool):List gB→Bool
 | []=>false
 | a::ts=>gW1 p a || gGc p ts
end
theorem hFp(p:List UInt8→Bool)(k:Int)(n:List UInt8)(l:List (List UInt8)):(gMw k n l).any p=(l.any p || ((k==1) && p n)):=by
 unfold gMw;by_cases hk:k=1
 ·by_cases hn:n∈l
  ·simp only [hn,not_true_eq_false,and_false,if_false,hk,beq_self_eq_true,Bool.true_and];cases h:p n with
   | false=>simp
   | true=>simp only [Bool.or_true];exact List.any_eq_true.2 ⟨n,hn,h⟩
  ·simp [hn,hk]
 ·simp [hk]
mutual
theorem gTj(p:List UInt8→Bool):∀(t:gB) (l:List (List UInt8)),(gKy t l).any p=(l.any p || gW1 p t)
 | ⟨k,n,ts⟩,l=>by
   simp only [gKy,gW1];rw [gU2 p ts,hFp,Bool.or_assoc]
theorem gU2(p:List UInt8→Bool):∀(ts:List gB) (l:List (List UInt8)),(gIy ts l).any p=(l.any p || gGc p ts)
 | [],l=>by simp [gIy,gGc]
 | a::ts,l=>by
   simp only [gIy,gGc];rw [gU2 p ts,gTj p a,Bool.or_assoc]
end
def hasB(l:List gG)(s:List UInt8):Bool:=l.any fun b=>b.var_==s
theorem hK8(v:List UInt8):∀(l:List gG),(lkp v l).2=hasB l v
 | []=>rfl
 | b::l=>by
   simp only [lkp,hasB,List.any_cons];cases hb:b.var_==v with
   | true=>rfl
   | false=>
     simp only [gK,Bool.false_or];exact hK8 v l
def zp(l:List gG)(s:List UInt8):Bool:=isInf s && hasB l s
def zbd(l:List gG)(t:gB):Bool:=gW1 (zp l) t
theorem gMy{rec:List gG→gB→Option Bool}{l:List gG}:∀(xs:List gB),(∀x∈xs,rec l x=some (zbd l x))→gA8 rec l xs=some (gGc (zp l) xs)
 | [],_=>rfl
 | x::xs,h=>by
   simp only [gA8,h x (by simp),bnd,gGc];rw [gMy xs (fun y hy=>h y (by simp [hy]))];show cnd (gW1 (zp l) x) _ _=_;cases gW1 (zp l) x<;>rfl
theorem gMz{rec:List gG→gB→Option Bool}{l:List gG}:∀(xs:List gB),(∀x∈xs,rec l x=some (zbd l x))→gA9 rec l xs=some (gGc (zp l) xs)
 | [],_=>rfl
 | x::xs,h=>by
   simp only [gA9,h x (by simp),bnd,gGc];rw [gMz xs (fun y hy=>h y (by simp [hy]))];show cnd (gW1 (zp l) x) _ _=_;cases gW1 (zp l) x<;>rfl
theorem gTk:∀(n:Nat) (l:List gG) (t:gB),bok l→tnd t≤n→gJm n l t=some (zbd l t)
 | 0,l,⟨k,nm,ts⟩,_,h=>by simp only [tnd] at h;omega
 | n+1,l,⟨k,nm,ts⟩,hl,h=>by
   simp only [tnd] at h;have ih:∀x∈ts,gJm n l x=some (zbd l x):=fun x hx=>gTk n l x hl (by have:=zC hx;omega);simp only [gJm,gMp,gG1,bnd,gF1,gGr nm l hl,gMy ts ih,gMz ts ih,hK8];unfold zbd;simp only [gW1,zp];cases k==1<;>cases isInf nm<;>cases hasB l nm<;>rfl
theorem hFq(c:List gG)(f:gB)(h:bok c):jC Tryz.prog 84 [.L 4 (gN c),.d (jS f)] [.b (zbd c f)]:=hFo (tnd f) c f (gTk _ _ _ h (Nat.le_refl _))
def gDn(a0:gJ):Nat→Int→(List UInt8)→(List gB)→Int→Option (gB)
 | 0,f,h,y,y6=>none
 | n7+1,f,h,y,y6=>bnd ((cnd (decide (y6 < 60)) (gd (bok a0.bindings) ((cnd (zbd a0.bindings (gB.mk f h y)) ((some (decide ((tsz (gB.mk f h y)) < 4000)))) ((some false))))) ((some false)))) fun b8=>
(cnd b8 (
gd (bok a0.bindings∧tok (gB.mk f h y)) (lt_ (apT a0.bindings (gB.mk f h y)) fun c=>
gDn a0 n7 c.kind c.name c.args (IntKind.i64.wrap (y6+1)))) (
(some (gB.mk f h y))))
def gQ9(f:gJ)(a1:gB)(h:Nat):Option (gB):=
gd (tok a1) (lt_ (idT a1) fun c=>
gDn f h c.kind c.name c.args 0)
theorem hOj(a0:gJ)(a1:gB){n0:Nat}{r:gB}(h:gQ9 a0 a1 n0=some r):jC Tryz.prog 56 [.d (mD a0),.d (jS a1)] [jS r]:=by
 obtain⟨f,y,aa,c,ab,ac,ad,ae⟩:=a0;obtain⟨ao,ap,aq⟩:=a1;unfold gQ9 at h;refine SpI Tryz.func56 fun A _=>?_;refine goL ?_;obtain⟨g1,h⟩:=mW h;obtain⟨⟨ar,au,av⟩,ay,h⟩:=qB h;have sx2:=(zV (gB.mk ao ap aq) g1).p;rw [ay] at sx2;refine jL (gF (sx2)) ?_;refine noB ?_;refine gV4 (fun(n7:Nat) (y3:Int) (y4:List UInt8) (y5:List gB) (y6:Int)=>⟨[(2,.ptr 0 0),(3,.ptr 1 0),(4,.ptr 2 0),(5,.I y6)],[bSt f y aa c ab ac ad ae,bTy y3 y4 y5,.box [.I 0,.S [],.nilsl]],Tryz.f56.ntmps⟩) (fun n7 y3 y4 y5 y6=>gDn (gJ.mk f y aa c ab ac ad ae) n7 y3 y4 y5 y6=some r) (fun n7 y3 y4 y5 y6=>n7) n0 ar au av 0 eJ h ?_;rintro n7 y3 y4 y5 y6 h;rcases n7 with _ | n7
 ·cases h
 rw [gDn.eq_2] at h;refine goL ?_;obtain⟨b8,hb8,h⟩:=gP h;refine jT ⟨[(2,.ptr 0 0),(3,.ptr 1 0),(4,.ptr 2 0),(5,.I y6),(20,.B b8)],[bSt f y aa c ab ac ad ae,bTy y3 y4 y5,.box [.I 0,.S [],.nilsl]],Tryz.f56.ntmps⟩ ?_ ?_
 ·refine gqA 10 hb8 (fun c9 hb8=>?_);obtain⟨a3,hb8⟩:=mW hb8;refine jL (gF (hFq c (gB.mk y3 y4 y5) a3)) ?_;refine gqA 16 hb8 (fun a8 hb8=>?_);refine jL (gF (gKh (gB.mk y3 y4 y5))) ?_;cases hb8;exact eJ
 refine goC h ?_ ?_<;>intro a9 h
 ·refine noS ?_;refine jW (jE ?_);refine goL ?_;obtain⟨a4,h⟩:=mW h;obtain⟨⟨al,am,an⟩,aw,h⟩:=qB h;have sx14:=(gWu c (gB.mk y3 y4 y5) a4).p;rw [aw] at sx14;refine jL (gF (sx14)) ?_;refine jL (pR) ?_;exact⟨n7,al,am,an,(IntKind.i64.wrap (y6+1)),h,Nat.lt_succ_self _,eJ⟩
 ·refine goX ?_;refine jK ?_;cases h;exact qA
def zk(l:List gG):Nat→gB→gB
 | 0,t=>t
 | n+1,t=>cnd (zbd l t && decide (tsz t < 4000)) (zk l n (apT l t)) t
theorem gKv(t:gB)(h:tnd t≤4294967296):gAp t=some (gKy t []):=by
 unfold gAp gGt;simp only [zD];rw [mK (by simpa using h)];rfl
theorem gU3(t:gB):gB.mk t.kind t.name t.args=t:=by cases t;rfl
theorem gTl(s:gJ)(c:bok s.bindings):∀(n k:Nat) (t:gB),k+n=60→tok t→gDn s (n+1) t.kind t.name t.args (k:Int)=some (zk s.bindings n t)
 | 0,k,t,hk,_=>by
   obtain rfl:k=60:=by omega
   simp only [gDn,zk,gU3];rfl
 | n+1,k,t,hk,f=>by
   rw [gDn.eq_2,zk];simp only [gU3];have h:decide ((k:Int) < 60)=true:=decide_eq_true (by omega);rw [h,mK c,mK ⟨c,f⟩];have y:IntKind.i64.wrap ((k:Int)+1)=((k+1:Nat):Int):=by rw [wrap_small (by omega) (by omega)];omega
   have ih:=gTl s c n (k+1) (apT s.bindings t) (by omega) (hA9 c t f);simp only [lt_,y,gZ,ih];cases zbd s.bindings t<;>cases decide (tsz t < 4000)<;>rfl
def zkF(s:gJ)(t:gB):gB:=zk s.bindings 60 t
theorem hK9(s:gJ)(t:gB)(f:bok s.bindings)(c:tok t):gQ9 s t 61=some (zkF s t):=by
 unfold gQ9;rw [mK c];exact gTl s f 60 0 t rfl c
theorem hD8(s:gJ)(t:gB)(h:bok s.bindings∧tok t):jC Tryz.prog 56 [.d (mD s),.d (jS t)] [jS (zkF s t)]:=hOj s t (hK9 s t h.1 h.2)
end Go.Proofs.YtegahmhnmjnhhaaGreat
