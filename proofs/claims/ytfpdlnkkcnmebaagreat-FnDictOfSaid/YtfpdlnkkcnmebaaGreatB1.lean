import Derived.Test.YtfpdlnkkcnmebaaGreatSv
set_option maxHeartbeats 4000000
set_option linter.unusedVariables false
set_option linter.unusedSimpArgs false
set_option linter.unusedSectionVars false
namespace Go.Proofs.YtfpdlnkkcnmebaaGreat
open Go Go.Eng
attribute [local irreducible] V VO VQ VY Quiet QR jI mK Rng qE qA pX
def uS(c:gK)(a1:Int):Option (Bool × gK):=
bnd (kW c a1) fun f=>
(some ((f.1==0),f.2))
theorem wB(c:gK)(a1:Int){r:Bool × gK}(h:uS c a1=some r):Go.Eng.Spec Tryz.prog 61 [.ptr 0 0,.I a1] [bCu c.b c.i c.h] (fun sv Lo=>sv=.B r.1∧Lo=[bCu r.2.b r.2.i r.2.h]):=by
 obtain⟨ab,ac,ad⟩:=c;unfold uS at h;refine kJ 1 Tryz.func61 rfl (by kernel_rfl) rfl rfl fun A _=>?_;refine goL ?_;obtain⟨⟨f,⟨q,y,aa⟩⟩,ae,h⟩:=gJ h;refine mI 0 (mH (gK.mk ab ac ad) a1 ae) ?_;refine goL ?_;refine jF ?_;obtain rfl:=Option.some.inj h;exact gAg [.B (f==0)] _ ⟨rfl,rfl⟩
def qF(h:LB)(a1:Int):Nat→LS→Int→Int→Option LS
 | 0,y,q,f=>none
 | n5+1,y,q,f=>(cnd (decide (f≤(h.length:Int))) (
bnd ((cnd (f==(h.length:Int)) ((some true)) (bnd (at? h f) fun x9=>
(some ((x9.toNat:Int)==a1))))) fun b7=>
(cnd b7 (
gd (0≤q∧q≤f∧f≤(h.length:Int)) (
gd (y.length+[((h.drop (Int.toNat q)).take (Int.toNat f - Int.toNat q))].length≤4294967296) (
qF h a1 n5 (y++[((h.drop (Int.toNat q)).take (Int.toNat f - Int.toNat q))]) (IntKind.i64.wrap (f+1)) (IntKind.i64.wrap (f+1))))) (
qF h a1 n5 y q (IntKind.i64.wrap (f+1))))) (
(some y)))
def gFu(f:LB)(a1:Int)(h:Nat):Option LS:=
qF f a1 h [] 0 0
theorem gU1(a0:LB)(a1:Int){n0:Nat}{r:LS}(h:gFu a0 a1 n0=some r):jI Tryz.prog 138 [.S a0,.d (.i .u8 a1)] [.sl 1 (gT r)]:=by
 unfold gFu at h;refine SpI Tryz.func138 fun A _=>?_;refine goL ?_;refine gC1 ?_;refine goL ?_;refine noB ?_;refine gXf (fun(y:Nat)(y1:LS)(f:Int)(q:Int)(v2:Nat)=>⟨[(0,.S a0),(1,.d (.i .u8 a1)),(5,.sl 0 v2),(6,.I f),(7,.I q)],[.own 9 1 v2 (gT y1)],Tryz.f138.ntmps⟩) (fun y y1 f q v2=>qF a0 a1 y y1 f q=some r) (fun y y1 f q v2=>y) n0 [] 0 0 0 eJ h ?_;rintro y y1 f q v2 h;rcases y with _ | y
 ·cases h
 rw [qF.eq_2] at h;refine goC h ?_ ?_<;>intro c6 h
 ·refine noS ?_;refine kI (jA ?_);refine goL ?_;obtain⟨b7,hb7,h⟩:=gJ h;refine kH ⟨[(0,.S a0),(1,.d (.i .u8 a1)),(5,.sl 0 v2),(6,.I f),(7,.I q),(25,.B b7)],[.own 9 1 v2 (gT y1)],Tryz.f138.ntmps⟩ ?_ ?_
  ·refine gqO 19 hb7 (fun c8 hb7=>?_);obtain⟨x9,ad,hb7⟩:=gJ hb7;obtain⟨ae,ad⟩:=gBm ad;refine jP (gNs ae ad) ?_;cases hb7;exact eJ
  refine goC h ?_ ?_<;>intro ak h
  ·refine goL ?_;obtain⟨ag,h⟩:=pU h;refine uN (hKw ag) ?_;refine wX ((a0.drop (Int.toNat f)).take (Int.toNat q - Int.toNat f)) ?_;obtain⟨ah,h⟩:=pU h;refine gDl ah ?_;refine goL ?_;refine jP (pV) ?_;refine jP (pV) ?_;exact⟨y,(y1++[((a0.drop (Int.toNat f)).take (Int.toNat q - Int.toNat f))]),(IntKind.i64.wrap (q+1)),(IntKind.i64.wrap (q+1)),(v2+1),h,Nat.lt_succ_self _,eJ⟩
  ·refine goS ?_;refine jP (pV) ?_;exact⟨y,y1,f,(IntKind.i64.wrap (q+1)),v2,h,Nat.lt_succ_self _,eJ⟩
 ·refine goX ?_;refine mP 0 rfl rfl ?_;refine jF ?_;cases h;exact uM
def gE6(f:LB)(h:Int):Option LS:=gFu f h 5000
def gEa:LB→Bool
 | []=>true
 | f::xs=>(cnd ((f.toNat:Int) != 32) (
false) (
gEa xs ))
def gGy(f:LB):Bool:=
gEa f
theorem gZ9(y:LB):jI Tryz.prog 139 [.S y] [.b (gGy y)]:=by
 obtain⟨r,h⟩:∃r,gGy y=r:=⟨_,rfl⟩
 rw [h];unfold gGy at h;refine SpI Tryz.func139 fun A _=>?_;refine goL ?_;refine noB ?_;refine hIa 0 (fun z2=>?_);refine pY (fun(q:Nat)=>⟨[(0,.S y),(3,.N q)],[],Tryz.f139.ntmps⟩) (fun q=>gEa (y.drop q)  =r) (fun q=>y.length - q) 0 eJ h ?_;rintro q h;refine goL ?_;refine mR (fun c3=>?_) (fun c3=>?_)
 ·have f:=hQl c3;obtain⟨x4,ac,aa⟩:=drop_at f;rw [aa,gEa.eq_2] at h;refine noS ?_;refine kI (jA ?_);refine goL ?_;refine jP (gJy q ac) ?_;refine mR (fun c5=>?_) (fun c5=>?_)
  ·replace h:=kU c5 h;refine goL ?_;refine jF ?_;subst h;exact uM
  ·replace h:=kV c5 h;refine goS ?_;refine jP (kD q (by omega)) ?_;exact⟨(q+1),h,by omega,eJ⟩
 ·have f:=hQm c3;rw [jK f,gEa.eq_1] at h;refine goX ?_;refine jF ?_;subst h;exact uM
def gAh(c:wC):Nat→Int→Option (wC)
 | 0,f=>none
 | q+1,f=>bnd ((cnd (decide (f < (c.s.length:Int))) (bnd (at? c.s f) fun h=>
(cnd ((h.toNat:Int)==32) ((some true)) ((some ((h.toNat:Int)==10))))) ((some false)))) fun y=>
(cnd y (
gAh c q (IntKind.i64.wrap (f+1))) (
(some (wC.mk c.s f c.deep c.size c.bad))))
def gTi(c:wC)(f:Nat):Option (wC):=
gAh c f c.at_
theorem gTj(c:wC){n0:Nat}{r:wC}(h:gTi c n0=some r):Go.Eng.Spec Tryz.prog 174 [.ptr 0 0] [bIp c.s c.at_ c.deep c.size c.bad] (fun sv Lo=>sv=.tup []∧Lo=[bIp r.s r.at_ r.deep r.size r.bad]):=by
 obtain⟨aa,ag,ab,ac,ad⟩:=c;unfold gTi at h;refine kJ 1 Tryz.func174 rfl (by kernel_rfl) rfl rfl fun A _=>?_;refine noB ?_;refine gFc (fun(q:Nat)(y1:Int)=>⟨[(0,.ptr 0 0)],[bIp aa y1 ab ac ad],Tryz.f174.ntmps⟩) (fun q y1=>gAh (wC.mk aa ag ab ac ad) q y1=some r) (fun q y1=>q) n0 ag eJ h ?_;rintro q y1 h;rcases q with _ | q
 ·cases h
 rw [gAh.eq_2] at h;refine gIb ?_;obtain⟨b3,hb3,h⟩:=gJ h;refine wG (P:=Tryz.prog) Mix.h ⟨[(0,.ptr 0 0),(35,.B b3)],[bIp aa y1 ab ac ad],Tryz.f174.ntmps⟩ (by kernel_rfl) ?_ ?_
 ·refine goL ?_;refine gAl 12 (fun c4=>?_) (fun c4=>?_)
  ·replace hb3:=kU c4 hb3;refine goL ?_;obtain⟨x5,f,hb3⟩:=gJ hb3;obtain⟨y,f⟩:=gBm f;refine gGh (gNs y f) ?_;refine goL ?_;refine gAl 23 (fun c6=>?_) (fun c6=>?_)
   ·replace hb3:=kU c6 hb3;refine goL ?_;cases hb3;exact eJ
   ·replace hb3:=kV c6 hb3;refine goL ?_;refine gGh (gNs y f) ?_;refine goL ?_;cases hb3;exact eJ
  ·replace hb3:=kV c4 hb3;refine goL ?_;cases hb3;exact eJ
 refine goC h ?_ ?_<;>intro c7 h
 ·refine noS ?_;refine jA ?_;refine goL ?_;refine jP (pV) ?_;exact⟨q,(IntKind.i64.wrap (y1+1)),h,Nat.lt_succ_self _,eJ⟩
 ·refine gS5 ?_;show pX _ _ _ _ _ _;obtain rfl:=Option.some.inj h;exact hMq [] _ ⟨rfl,rfl⟩
def gOe(f:wC):Option (wC):=gTi f 5000
def gGo(f:Int):Bool:=
lt_ ((cnd (decide (f≥97)) ((cnd (decide (f≤122)) (true) ((cnd (decide (f≥48)) ((cnd (decide (f≤57)) (true) ((cnd (f==39) (true) ((cnd (f==45) (true) ((cnd (f==43) (true) ((cnd (f==42) (true) ((cnd (f==60) (true) ((cnd (f==61) (true) ((f==46)))))))))))))))) ((cnd (f==39) (true) ((cnd (f==45) (true) ((cnd (f==43) (true) ((cnd (f==42) (true) ((cnd (f==60) (true) ((cnd (f==61) (true) ((f==46)))))))))))))))))) ((cnd (decide (f≥48)) ((cnd (decide (f≤57)) (true) ((cnd (f==39) (true) ((cnd (f==45) (true) ((cnd (f==43) (true) ((cnd (f==42) (true) ((cnd (f==60) (true) ((cnd (f==61) (true) ((f==46)))))))))))))))) ((cnd (f==39) (true) ((cnd (f==45) (true) ((cnd (f==43) (true) ((cnd (f==42) (true) ((cnd (f==60) (true) ((cnd (f==61) (true) ((f==46)))))))))))))))))) fun h=>
h
theorem gYm(f:Int):jI Tryz.prog 183 [.d (.i .u8 f)] [.b (gGo f)]:=by
 obtain⟨r,h⟩:∃r,gGo f=r:=⟨_,rfl⟩
 rw [h];unfold gGo at h;refine SpI Tryz.func183 fun A _=>?_;refine goL ?_;obtain⟨q,hb1,h⟩:=uK h;refine kH ⟨[(2,.B q)],[],Tryz.f183.ntmps⟩ ?_ ?_
 ·refine gqV 5 hb1 ?_ ?_<;>intro c2 hb1
  ·refine gqO 9 hb1 (fun c3 hb1=>?_);refine gqV 12 hb1 ?_ ?_<;>intro c4 hb1
   ·refine gqO 17 hb1 (fun c5 hb1=>?_);refine gqO 21 hb1 (fun c6 hb1=>?_);refine gqO 25 hb1 (fun c7 hb1=>?_);refine gqO 29 hb1 (fun c8 hb1=>?_);refine gqO 33 hb1 (fun c9 hb1=>?_);refine gqO 37 hb1 (fun y hb1=>?_);exact gqZ 41 hb1
   ·refine gqO 21 hb1 (fun aa hb1=>?_);refine gqO 25 hb1 (fun ab hb1=>?_);refine gqO 29 hb1 (fun ac hb1=>?_);refine gqO 33 hb1 (fun ad hb1=>?_);refine gqO 37 hb1 (fun ae hb1=>?_);exact gqZ 41 hb1
  ·refine gqV 12 hb1 ?_ ?_<;>intro ag hb1
   ·refine gqO 17 hb1 (fun ah hb1=>?_);refine gqO 21 hb1 (fun ai hb1=>?_);refine gqO 25 hb1 (fun aj hb1=>?_);refine gqO 29 hb1 (fun ak hb1=>?_);refine gqO 33 hb1 (fun al hb1=>?_);refine gqO 37 hb1 (fun am hb1=>?_);exact gqZ 41 hb1
   ·refine gqO 21 hb1 (fun an hb1=>?_);refine gqO 25 hb1 (fun ao hb1=>?_);refine gqO 29 hb1 (fun ap hb1=>?_);refine gqO 33 hb1 (fun aq hb1=>?_);refine gqO 37 hb1 (fun ar hb1=>?_);exact gqZ 41 hb1
 refine goL ?_;refine jF ?_;subst h;exact uM
def gJl(f:gF→Int→Option (Int))(y:gF):Nat→Int→Int→Option (Int)
 | 0,h,q=>none
 | n3+1,h,q=>lt_ ((cnd (decide (q < (y.list.length:Int))) ((decide (h≥0))) (false))) fun b4=>
(cnd b4 (
bnd (at? y.list q) fun x7=>
bnd (f x7 h) fun x8=>
gJl f y n3 x8 (IntKind.i64.wrap (q+1))) (
(some h)))
def gTk(f:gF→Int→Option (Int))(h:gF)(a1:Int)(q:Nat):Option (Int):=
gJl f h q (IntKind.i64.wrap (a1 - 1)) 0
theorem hGy{f:gF→Int→Option (Int)}(q:∀(x0:gF)(x1:Int){r:Int},f x0 x1=some r→jI Tryz.prog 184 [.d (qJ x0),.I x1] [.i .i64 r])(a0:gF)(a1:Int){n0:Nat}{r:Int}(h:gTk f a0 a1 n0=some r):jI Tryz.prog 184 [.d (qJ a0),.I a1] [.i .i64 r]:=by
 obtain⟨y,aa⟩:=a0;unfold gTk at h;refine SpI Tryz.func184 fun A _=>?_;refine goL ?_;refine jP (pV) ?_;refine noB ?_;refine mG (fun(n3:Nat)(y1:Int)(y2:Int)=>⟨[(1,.I y1),(2,.ptr 0 0),(5,.I y2)],[bSx y aa],Tryz.f184.ntmps⟩) (fun n3 y1 y2=>gJl f (gF.mk y aa) n3 y1 y2=some r) (fun n3 y1 y2=>n3) n0 (IntKind.i64.wrap (a1 - 1)) 0 eJ h ?_;rintro n3 y1 y2 h;rcases n3 with _ | n3
 ·cases h
 rw [gJl.eq_2] at h;refine goL ?_;obtain⟨b4,hb4,h⟩:=uK h;refine kH ⟨[(1,.I y1),(2,.ptr 0 0),(5,.I y2),(16,.B b4)],[bSx y aa],Tryz.f184.ntmps⟩ ?_ ?_
 ·exact gqZ 13 hb4
 refine goC h ?_ ?_<;>intro c6 h
 ·refine noS ?_;refine kI (jA ?_);refine goL ?_;obtain⟨x7,ad,h⟩:=gJ h;obtain⟨ag,ad⟩:=gBm ad;obtain⟨am,an⟩:=x7;refine jP (uL ag (vH ad)) ?_;obtain⟨x8,ai,h⟩:=gJ h;refine jP (gI (q _ _ ai)) ?_;refine jP (pV) ?_;exact⟨n3,x8,(IntKind.i64.wrap (y2+1)),h,Nat.lt_succ_self _,eJ⟩
 ·refine goX ?_;refine jF ?_;cases h;exact uM
def gTl:Nat→gF→Int→Option (Int)
 | 0,_,_=>none
 | n+1,f,h=>gTk (gTl n) f h n
theorem hGz:∀(n:Nat)(f:gF)(q:Int){r:Int},gTl n f q=some r→jI Tryz.prog 184 [.d (qJ f),.I q] [.i .i64 r]:=by
 intro n
 induction n with
 | zero=>intro f q r h;cases h
 | succ n ih=>intro f q r h;exact hGy ih f q h
def gH3(f:Int)(a1:Int)(a2:Int):Bool:=
lt_ ((cnd (decide (f≥a1)) ((decide (f≤a2))) (false))) fun h=>
h
theorem gM8(f:Int)(a1:Int)(a2:Int):jI Tryz.prog 35 [.I f,.I a1,.I a2] [.b (gH3 f a1 a2)]:=by
 obtain⟨r,h⟩:∃r,gH3 f a1 a2=r:=⟨_,rfl⟩
 rw [h];unfold gH3 at h;refine SpI Tryz.func35 fun A _=>?_;refine goL ?_;obtain⟨q,hb1,h⟩:=uK h;refine kH ⟨[(6,.B q)],[],Tryz.f35.ntmps⟩ ?_ ?_
 ·exact gqZ 10 hb1
 refine goL ?_;refine jF ?_;subst h;exact uM
def gMt(f:Int)(a1:Int):Int:=
(cnd (decide (f > a1)) (
f) (
a1))
theorem hBv(f:Int)(a1:Int):jI Tryz.prog 197 [.I f,.I a1] [.i .i64 (gMt f a1)]:=by
 obtain⟨r,h⟩:∃r,gMt f a1=r:=⟨_,rfl⟩
 rw [h];unfold gMt at h;refine SpI Tryz.func197 fun A _=>?_;refine goC h ?_ ?_<;>intro q h
 ·refine goL ?_;refine jF ?_;subst h;exact uM
 ·refine goS ?_;refine jF ?_;subst h;exact uM
def gFv:List gF→LS→Option (LS × Bool)
 | [],f=>(some (f,true))
 | h::xs,f=>(cnd (h.atom==[]) (
(some ([],false))) (
gd (f.length+[h.atom].length≤4294967296) (
gFv xs (f++[h.atom]))))
def gKp(f:List gF):Option (LS × Bool):=
gFv f []
theorem gQe(a0:List gF){r:LS × Bool}(h:gKp a0=some r):jI Tryz.prog 176 [.L 2 (jB a0)] [.sl 1 (gT r.1),.b r.2]:=by
 unfold gKp at h;refine SpI Tryz.func176 fun A _=>?_;refine goL ?_;refine gC1 ?_;refine goL ?_;refine noB ?_;refine gCw 0 (fun z4=>?_);refine mG (fun(q:Nat)(y1:LS)(v2:Nat)=>⟨[(0,.L 2 (jB a0)),(4,.sl 0 v2),(5,.N q)],[.own 9 1 v2 (gT y1)],Tryz.f176.ntmps⟩) (fun q y1 v2=>gFv (a0.drop q) y1=some r) (fun q y1 v2=>a0.length - q) 0 [] 0 eJ h ?_;rintro q y1 v2 h;refine goL ?_;refine mR (fun c5=>?_) (fun c5=>?_)
 ·have f:=vR c5;obtain⟨x6,ad,ae⟩:=drop_at f;rw [ae,gFv.eq_2] at h;obtain⟨y,ai⟩:=x6;refine noS ?_;refine kI (jA ?_);refine goL ?_;refine jP (jR q (vH ad)) ?_;refine mR (fun c7=>?_) (fun c7=>?_)
  ·replace h:=kU c7 h;refine goL ?_;refine gC1 ?_;refine goL ?_;refine mP 1 rfl rfl ?_;refine jF ?_;cases h;exact uM
  ·replace h:=kV c7 h;refine goS ?_;refine jP (jR q (vH ad)) ?_;refine wX y ?_;obtain⟨g8,h⟩:=pU h;refine gDl g8 ?_;refine goL ?_;refine jP (kD q (by omega)) ?_;exact⟨(q+1),(y1++[y]),(v2+1),h,by omega,eJ⟩
 ·have f:=vS c5;rw [jK f,gFv.eq_1] at h;refine goX ?_;refine mP 0 rfl rfl ?_;refine jF ?_;cases h;exact uM
def uT(f:gF)(a1:Int):Option (gF):=
(cnd (decide (a1≥(f.list.length:Int))) (
(some (gF.mk [] []))) (
bnd (at? f.list a1) fun h=>
(some h)))
theorem vE(y:gF)(a1:Int){r:gF}(h:uT y a1=some r):jI Tryz.prog 177 [.d (qJ y),.I a1] [qJ r]:=by
 obtain⟨aa,ab⟩:=y;unfold uT at h;refine SpI Tryz.func177 fun A _=>?_;refine goC h ?_ ?_<;>intro c1 h
 ·refine goL ?_;refine vP (jN TBd.h TZ.h rfl (by repeat constructor)) ?_;exact goR h
 ·refine goS ?_;obtain⟨x2,f,h⟩:=gJ h;obtain⟨q,f⟩:=gBm f;obtain⟨ac,ad⟩:=x2;refine uN (uL q (vH f)) ?_;exact goR h
def vO(f:Int)(a1:Int):Int:=
(cnd (decide (f < a1)) (
f) (
a1))
theorem gJm(f:Int)(a1:Int):jI Tryz.prog 215 [.I f,.I a1] [.i .i64 (vO f a1)]:=by
 obtain⟨r,h⟩:∃r,vO f a1=r:=⟨_,rfl⟩
 rw [h];unfold vO at h;refine SpI Tryz.func215 fun A _=>?_;refine goC h ?_ ?_<;>intro q h
 ·refine goL ?_;refine jF ?_;subst h;exact uM
 ·refine goS ?_;refine jF ?_;subst h;exact uM
def gJn(f:LB):gY:=
(gY.mk 3 [] f 0 (gB.mk 0 [] []) [] [])
theorem gPh(f:LB):jI Tryz.prog 145 [.S f] [gBp (gJn f)]:=by
 obtain⟨r,h⟩:∃r,gJn f=r:=⟨_,rfl⟩
 rw [h];unfold gJn at h;refine SpI Tryz.func145 fun A _=>?_;refine goL ?_;refine yT (jN TBd.h TZ.h rfl (by repeat constructor)) ?_;refine jF ?_;subst h;exact uM
def gFr(f:Int):gY:=
(gY.mk 1 [] [] f (gB.mk 0 [] []) [] [])
theorem gM9(f:Int):jI Tryz.prog 146 [.I f] [gBp (gFr f)]:=by
 obtain⟨r,h⟩:∃r,gFr f=r:=⟨_,rfl⟩
 rw [h];unfold gFr at h;refine SpI Tryz.func146 fun A _=>?_;refine goL ?_;refine yT (jN TBd.h TZ.h rfl (by repeat constructor)) ?_;refine jF ?_;subst h;exact uM
def gG4(a0:LB)(b1:Bool):LB→Int→Option (Int × Bool)
 | [],f=>bnd ((cnd b1 (
(some (IntKind.i64.wrap ((0:Int) - f)))) (
(some f)))) fun h=>
gd (gIw h) ((cnd (!((Lib.itoa h)==a0)) (
(some (0,false))) (
(some (h,true)))))
 | q::xs,f=>lt_ ((cnd (decide ((q.toNat:Int) < 48)) (true) ((decide ((q.toNat:Int) > 57))))) fun y=>
(cnd y (
(some (0,false))) (
gG4 a0 b1 xs (IntKind.i64.wrap ((IntKind.i64.wrap ((10:Int)*f))+(IntKind.i64.wrap (IntKind.u8.wrap ((q.toNat:Int) - 48)))))))
def gTm(f:LB)(a1:Int):Option (Int × Bool):=
bnd ((cnd (decide ((f.length:Int) > 0)) (bnd (at? f 0) fun y=>
(some ((y.toNat:Int)==45))) ((some false)))) fun q=>
bnd ((cnd q (
gd (0≤(1:Int)∧1≤(f.length:Int)) (
(some (f.drop (Int.toNat 1))))) (
(some f)))) fun h=>
lt_ ((cnd (decide ((h.length:Int) < 1)) (true) ((decide ((h.length:Int) > a1))))) fun b7=>
(cnd b7 (
(some (0,false))) (
gG4 f q h 0))
theorem hG5(a0:LB)(a1:Int){r:Int × Bool}(h:gTm a0 a1=some r):jI Tryz.prog 234 [.S a0,.I a1] [.i .i64 r.1,.b r.2]:=by
 unfold gTm at h;refine SpI Tryz.func234 fun A _=>?_;refine goL ?_;obtain⟨b1,hb1,h⟩:=gJ h;refine kH ⟨[(0,.S a0),(1,.I a1),(6,.B b1)],[],Tryz.f234.ntmps⟩ ?_ ?_
 ·refine gqA 13 hb1 (fun c2 hb1=>?_);obtain⟨x3,ac,hb1⟩:=gJ hb1;obtain⟨ak,ac⟩:=gBm ac;refine jP (gNs ak ac) ?_;cases hb1;exact eJ
 refine goL ?_;obtain⟨b4,hb4,h⟩:=gJ h;refine wY ⟨[(0,.S a0),(1,.I a1),(6,.B b1),(7,.S b4)],[],Tryz.f234.ntmps⟩ ?_ ?_
 ·refine mR (fun c5=>?_) (fun c5=>?_)
  ·replace hb4:=kU c5 hb4;refine goL ?_;obtain⟨g6,hb4⟩:=pU hb4;refine jP (hKy g6) ?_;cases hb4;exact eJ
  ·replace hb4:=kV c5 hb4;refine vN ?_;cases hb4;exact eJ
 refine goL ?_;obtain⟨b7,hb7,h⟩:=uK h;refine kH ⟨[(0,.S a0),(6,.B b1),(7,.S b4),(30,.B b7)],[],Tryz.f234.ntmps⟩ ?_ ?_
 ·exact gqZ 25 hb7
 refine goC h ?_ ?_<;>intro c9 h
 ·exact goR h
 ·refine goS ?_;refine noB ?_;refine hIa 7 (fun au=>?_);refine gFc (fun(f:Nat)(y:Int)=>⟨[(0,.S a0),(6,.B b1),(7,.S b4),(8,.I y),(9,.N f)],[],Tryz.f234.ntmps⟩) (fun f y=>gG4 a0 b1 (b4.drop f) y=some r) (fun f y=>b4.length - f) 0 0 eJ h ?_;rintro f y h;refine goL ?_;refine mR (fun ad=>?_) (fun ad=>?_)
  ·have q:=hQl ad;obtain⟨an,aa,ae⟩:=drop_at q;rw [ae,gG4.eq_2] at h;refine noS ?_;refine kI (jA ?_);refine goL ?_;refine jP (gJy f aa) ?_;obtain⟨ao,hb15,h⟩:=uK h;refine kH ⟨[(0,.S a0),(6,.B b1),(7,.S b4),(8,.I y),(9,.N f),(46,.B ao)],[],Tryz.f234.ntmps⟩ ?_ ?_
   ·refine gqO 41 hb15 (fun av hb15=>?_);refine jP (gJy f aa) ?_;cases hb15;exact eJ
   refine goC h ?_ ?_<;>intro aw h
   ·exact goR h
   ·refine goS ?_;refine jP (pV) ?_;refine uN (gJy f aa) ?_;refine uN (pV) ?_;refine uN (hMu Tryz.underlying5 Tryz.underlying3) ?_;refine jP (pV) ?_;refine jP (kD f (by omega)) ?_;exact⟨(f+1),(IntKind.i64.wrap ((IntKind.i64.wrap ((10:Int)*y))+(IntKind.i64.wrap (IntKind.u8.wrap ((an.toNat:Int) - 48))))),h,by omega,eJ⟩
  ·have q:=hQm ad;rw [jK q,gG4.eq_1] at h;refine goX ?_;obtain⟨al,hb18,h⟩:=gJ h;refine wY ⟨[(0,.S a0),(8,.I al)],[],Tryz.f234.ntmps⟩ ?_ ?_
   ·refine mR (fun ag=>?_) (fun ag=>?_)
    ·replace hb18:=kU ag hb18;refine goL ?_;refine jP (pV) ?_;cases hb18;exact eJ
    ·replace hb18:=kV ag hb18;refine vN ?_;cases hb18;exact eJ
   refine goL ?_;obtain⟨ap,h⟩:=pU h;refine jP (gI (gO9 al ap)) ?_;refine mR (fun ah=>?_) (fun ah=>?_)
   ·replace h:=kU ah h;exact goR h
   ·replace h:=kV ah h;refine goS ?_;refine jF ?_;cases h;exact uM
def gBn(f:gF→gF→Option (Bool))(a1:gF):List gF→Nat→Option (Bool)
 | [],h=>(some true)
 | q::xs,h=>bnd (at? a1.list (h:Int)) fun y=>
bnd (f q y) fun x9=>
(cnd (!x9) (
(some false)) (
gBn f a1 xs (h+1)))
def gJo(f:gF→gF→Option (Bool))(h:gF)(a1:gF):Option (Bool):=
lt_ ((cnd (!(h.atom==a1.atom)) (true) (((h.list.length:Int) !=(a1.list.length:Int))))) fun q=>
(cnd q (
(some false)) (
gBn f a1 h.list 0))
theorem gTn{f:gF→gF→Option (Bool)}(q:∀(x0:gF)(x1:gF){r:Bool},f x0 x1=some r→jI Tryz.prog 203 [.d (qJ x0),.d (qJ x1)] [.b r])(a0:gF)(a1:gF){r:Bool}(h:gJo f a0 a1=some r):jI Tryz.prog 203 [.d (qJ a0),.d (qJ a1)] [.b r]:=by
 obtain⟨ae,aa⟩:=a0;obtain⟨ab,ac⟩:=a1;unfold gJo at h;refine SpI Tryz.func203 fun A _=>?_;refine goL ?_;obtain⟨b1,hb1,h⟩:=uK h;refine kH ⟨[(2,.ptr 0 0),(3,.ptr 1 0),(19,.B b1)],[bSx ae aa,bSx ab ac],Tryz.f203.ntmps⟩ ?_ ?_
 ·exact gqZ 11 hb1
 refine goC h ?_ ?_<;>intro c3 h
 ·exact goR h
 ·refine goS ?_;refine noB ?_;refine yC 0 1 (fun z5=>?_);refine pY (fun(y4:Nat)=>⟨[(2,.ptr 0 0),(3,.ptr 1 0),(5,.N y4)],[bSx ae aa,bSx ab ac],Tryz.f203.ntmps⟩) (fun y4=>gBn f (gF.mk ab ac) (aa.drop y4) y4=some r) (fun y4=>aa.length - y4) 0 eJ h ?_;rintro y4 h;refine goL ?_;refine mR (fun c6=>?_) (fun c6=>?_)
  ·have y:=vR c6;obtain⟨x7,ak,ag⟩:=drop_at y;rw [ag,gBn.eq_2] at h;obtain⟨ao,ap⟩:=x7;refine noS ?_;refine kI (jA ?_);refine goL ?_;refine gDi (jR y4 (vH ak)) ?_;refine goL ?_;obtain⟨x8,ah,h⟩:=gJ h;rw [gA4] at ah;obtain⟨aq,ar⟩:=x8;refine gDi (jR y4 (vH ah)) ?_;refine goL ?_;obtain⟨x9,al,h⟩:=gJ h;refine gDi (gI (q _ _ al)) ?_;refine goC h ?_ ?_<;>intro ax h
   ·exact goR h
   ·refine goS ?_;refine jP (kD y4 (by omega)) ?_;exact⟨(y4+1),h,by omega,eJ⟩
  ·have y:=vS c6;rw [jK y,gBn.eq_1] at h;refine goX ?_;refine jF ?_;cases h;exact uM
def gCx:Nat→gF→gF→Option (Bool)
 | 0,_,_=>none
 | n+1,f,h=>gJo (gCx n) f h
theorem gGp:∀(n:Nat)(f:gF)(q:gF){r:Bool},gCx n f q=some r→jI Tryz.prog 203 [.d (qJ f),.d (qJ q)] [.b r]:=by
 intro n
 induction n with
 | zero=>intro f q r h;cases h
 | succ n ih=>intro f q r h;exact gTn ih f q h
@[reducible] def zL0:LS:=[[105,110,116],[98,111,111,108],[97,115,115,111,99],[100,121,110],[105,102],[108,101,116],[99,97,115,101],[110,101,119],[109,101,116,104,111,100],[112,97,99,107],[116,114,117,101],[102,97,108,115,101]]
def gGq(f:LB):Bool:=
(yV zL0 f)
theorem gTo(f:LB):jI Tryz.prog 209 [.S f] [.b (gGq f)]:=by
 obtain⟨r,h⟩:∃r,gGq f=r:=⟨_,rfl⟩
 rw [h];unfold gGq at h;refine SpI Tryz.func209 fun A _=>?_;refine goL ?_;refine yQ (us:=gT zL0) ?_;refine goL ?_;refine yT (gUa (gGl zL0 f)) ?_;refine jF ?_;subst h;exact uM
end Go.Proofs.YtfpdlnkkcnmebaaGreat
