import Derived.Test.YtfpdlnkkcnmebaaGreatTyL
set_option maxHeartbeats 4000000
set_option linter.unusedVariables false
set_option linter.unusedSimpArgs false
set_option linter.unusedSectionVars false
namespace Go.Proofs.YtfpdlnkkcnmebaaGreat
open Go Go.Eng
attribute [local irreducible] V VO VQ VY Quiet QR jI mK Rng qE qA pX
def gEb(h:LB):Option (gF × Bool):=
bnd (gB3 5000 (wC.mk h 0 0 0 false)) fun f=>
bnd (gOe f.2) fun q=>
bnd ((cnd q.bad ((some true)) ((cnd (q.at_ !=(h.length:Int)) ((some true)) (bnd (uY f.1) fun y=>
(some (!y))))))) fun b3=>
(cnd b3 (
(some ((gF.mk [] []),false))) (
(some (f.1,true))))
theorem gTp(a0:LB){r:gF × Bool}(h:gEb a0=some r):jI Tryz.prog 163 [.S a0] [qJ r.1,.b r.2]:=by
 unfold gEb at h;refine SpI Tryz.func163 fun A _=>?_;refine goL ?_;refine yT (jN TBd.h TZ.h rfl (by repeat constructor)) ?_;obtain⟨⟨⟨f,q⟩,⟨y,aa,ab,ac,ad⟩⟩,al,h⟩:=gJ h;refine mI 1 (hHa 5000 (wC.mk a0 0 0 0 false) al) ?_;refine goL ?_;obtain⟨⟨ae,ag,ah,ai,aj⟩,am,h⟩:=gJ h;refine mI 1 (gTj (wC.mk y aa ab ac ad) am) ?_;refine goL ?_;obtain⟨b3,hb3,h⟩:=gJ h;refine kH ⟨[(2,.ptr 0 0),(5,.ptr 2 0),(30,.B b3)],[.box [.S [],.nilsl],bIp ae ag ah ai aj,bSx f q],Tryz.f163.ntmps⟩ ?_ ?_
 ·refine gqO 17 hb3 (fun c4 hb3=>?_);refine gqO 26 hb3 (fun c5 hb3=>?_);obtain⟨x6,an,hb3⟩:=gJ hb3;refine jP (gI (zQ _ an)) ?_;cases hb3;exact eJ
 refine goC h ?_ ?_<;>intro c7 h
 ·refine goL ?_;refine vP (jN TBd.h TZ.h rfl (by repeat constructor)) ?_;exact goR h
 ·refine goS ?_;refine jF ?_;cases h;exact uM
def gFw(f:gB)(a1:LS):LS→Option (Bool)
 | []=>bnd (zD f) fun h=>
(some h)
 | q::xs=>(cnd (!(yV a1 q)) (
(some false)) (
gFw f a1 xs ))
def gEc(f:gB)(a1:LS):Option (Bool):=
bnd (gBs f) fun h=>
gFw f a1 h
theorem gG6(a0:gB)(a1:LS){r:Bool}(h:gEc a0 a1=some r):jI Tryz.prog 229 [.d (mM a0),.L 1 (gT a1)] [.b r]:=by
 obtain⟨y,aa,ab⟩:=a0;unfold gEc at h;refine SpI Tryz.func229 fun A _=>?_;refine goL ?_;obtain⟨x1,ag,h⟩:=gJ h;refine jP (gI (gKl _ ag)) ?_;refine noB ?_;refine gCw 5 (fun z3=>?_);refine pY (fun(q:Nat)=>⟨[(1,.L 1 (gT a1)),(2,.ptr 0 0),(5,.L 1 (gT x1)),(6,.N q)],[bTy y aa ab],Tryz.f229.ntmps⟩) (fun q=>gFw (gB.mk y aa ab) a1 (x1.drop q)  =some r) (fun q=>x1.length - q) 0 eJ h ?_;rintro q h;refine goL ?_;refine mR (fun c4=>?_) (fun c4=>?_)
 ·have f:=vR c4;obtain⟨x5,ai,ac⟩:=drop_at f;rw [ac,gFw.eq_2] at h;refine noS ?_;refine kI (jA ?_);refine goL ?_;refine jP (jR q (gO7 ai)) ?_;refine jP (gI (gGl a1 x5)) ?_;refine mR (fun c6=>?_) (fun c6=>?_)
  ·replace h:=kU c6 h;exact goR h
  ·replace h:=kV c6 h;refine goS ?_;refine jP (kD q (by omega)) ?_;exact⟨(q+1),h,by omega,eJ⟩
 ·have f:=vS c4;rw [jK f,gFw.eq_1] at h;refine goX ?_;obtain⟨x7,ak,h⟩:=gJ h;refine uN (gI (gBy _ ak)) ?_;exact goR h
def gFx(f:gY→Option (Bool)):List gL8→Option (Bool)
 | []=>(some true)
 | h::xs=>bnd ((cnd (!(pF h.constructor)) ((some true)) ((cnd (!(gK7 h.vars)) ((some true)) (bnd (zC h.vars) fun q=>
(cnd (!q) ((some true)) (bnd (f h.body) fun y=>
(some (!y))))))))) fun aa=>
(cnd aa (
(some false)) (
gFx f xs ))
def gFy(f:gY→Option (Bool))(y:gY):List gY→Option (Bool)
 | []=>gFx f y.arms
 | h::xs=>bnd (f h) fun q=>
(cnd (!q) (
(some false)) (
gFy f y xs ))
def gQh(q:gY→Option (Bool))(f:gY):Option (Bool):=
lt_ (gGu f.kind) fun h=>
lt_ ((cnd (!(gH3 f.kind 1 12)) (true) ((cnd (!((pF f.trait)==h.1)) (true) ((cnd (!h.1) ((cnd (!(f.trait==[])) (true) ((cnd (!h.2.2.1) ((cnd (f.n != 0) (true) ((!((decide ((f.arms.length:Int) > 0))==h.2.2.2.2.2))))) ((!((decide ((f.arms.length:Int) > 0))==h.2.2.2.2.2))))))) ((cnd (!h.2.2.1) ((cnd (f.n != 0) (true) ((!((decide ((f.arms.length:Int) > 0))==h.2.2.2.2.2))))) ((!((decide ((f.arms.length:Int) > 0))==h.2.2.2.2.2))))))))))) fun b2=>
(cnd b2 (
(some false)) (
lt_ ((cnd (f.kind==10) ((cnd (!(gNz f.name)) (true) ((cnd (f.kind != 10) ((cnd (!((pF f.name)==h.2.1)) (true) ((cnd (!h.2.1) ((!(f.name==[]))) (false))))) (false))))) ((cnd (f.kind != 10) ((cnd (!((pF f.name)==h.2.1)) (true) ((cnd (!h.2.1) ((!(f.name==[]))) (false))))) (false))))) fun y=>
(cnd y (
(some false)) (
bnd ((cnd (decide (h.2.2.2.2.1≥0)) ((cnd ((f.args.length:Int) != h.2.2.2.2.1) ((some true)) ((cnd (f.kind==5) ((cnd ((f.args.length:Int)==0) ((some true)) ((cnd h.2.2.2.1 (bnd (zD f.type_) fun aa=>
(cnd (!aa) ((some true)) ((cnd (!h.2.2.2.1) ((some (!(gAw f.type_)))) ((some false)))))) ((cnd (!h.2.2.2.1) ((some (!(gAw f.type_)))) ((some false)))))))) ((cnd h.2.2.2.1 (bnd (zD f.type_) fun ab=>
(cnd (!ab) ((some true)) ((cnd (!h.2.2.2.1) ((some (!(gAw f.type_)))) ((some false)))))) ((cnd (!h.2.2.2.1) ((some (!(gAw f.type_)))) ((some false)))))))))) ((cnd (f.kind==5) ((cnd ((f.args.length:Int)==0) ((some true)) ((cnd h.2.2.2.1 (bnd (zD f.type_) fun ac=>
(cnd (!ac) ((some true)) ((cnd (!h.2.2.2.1) ((some (!(gAw f.type_)))) ((some false)))))) ((cnd (!h.2.2.2.1) ((some (!(gAw f.type_)))) ((some false)))))))) ((cnd h.2.2.2.1 (bnd (zD f.type_) fun ad=>
(cnd (!ad) ((some true)) ((cnd (!h.2.2.2.1) ((some (!(gAw f.type_)))) ((some false)))))) ((cnd (!h.2.2.2.1) ((some (!(gAw f.type_)))) ((some false)))))))))) fun ae=>
(cnd ae (
(some false)) (
lt_ ((cnd (f.kind==1) ((cnd (!(gH3 f.n (-999999) 999999)) (true) ((cnd (f.kind==2) ((!(gH3 f.n 0 1))) (false))))) ((cnd (f.kind==2) ((!(gH3 f.n 0 1))) (false))))) fun ag=>
(cnd ag (
(some false)) (
gFy q f f.args ))))))))
theorem hB8{aa:gY→Option (Bool)}(ad:∀(x0:gY){r:Bool},aa x0=some r→jI Tryz.prog 250 [.d (gBp x0)] [.b r])(a0:gY){r:Bool}(h:gQh aa a0=some r):jI Tryz.prog 250 [.d (gBp a0)] [.b r]:=by
 obtain⟨ae,ai,ab,ac,⟨f,q,y⟩,ag,ah⟩:=a0;unfold gQh at h;refine SpI Tryz.func250 fun A _=>?_;refine goL ?_;obtain⟨⟨b6,bb,b7,a4,a5,b8⟩,bp,h⟩:=uK h;have sx1:=hIy ae;rw [bp] at sx1;refine jP (gI (sx1)) ?_;refine jP (gI (gM8 ae 1 12)) ?_;obtain⟨b2,hb2,h⟩:=uK h;refine kH ⟨[(1,.ptr 0 0),(4,.B bb),(6,.B a4),(7,.I a5),(58,.B b2)],[bEx ae ai ab ac f q y ag ah],Tryz.f250.ntmps⟩ ?_ ?_
 ·refine gqO 26 hb2 (fun c3 hb2=>?_);refine jP (gI (uH ai)) ?_;refine gqO 33 hb2 (fun c4 hb2=>?_);refine gqV 36 hb2 ?_ ?_<;>intro c5 hb2
  ·refine gqO 42 hb2 (fun c6 hb2=>?_);refine gqA 45 hb2 (fun c7 hb2=>?_);exact gqZ 51 hb2
  ·refine gqA 45 hb2 (fun c9 hb2=>?_);exact gqZ 51 hb2
 refine goC h ?_ ?_<;>intro ca h
 ·exact goR h
 ·refine goS ?_;obtain⟨bq,hb12,h⟩:=uK h;refine kH ⟨[(1,.ptr 0 0),(6,.B a4),(7,.I a5),(88,.B bq)],[bEx ae ai ab ac f q y ag ah],Tryz.f250.ntmps⟩ ?_ ?_
  ·refine gqV 62 hb12 ?_ ?_<;>intro cb hb12
   ·refine jP (gI (hE5 ab)) ?_;refine gqO 68 hb12 (fun cc hb12=>?_);refine gqA 72 hb12 (fun cd hb12=>?_);refine jP (gI (uH ab)) ?_;refine gqO 78 hb12 (fun ce hb12=>?_);exact gqZ 81 hb12
   ·refine gqA 72 hb12 (fun cf hb12=>?_);refine jP (gI (uH ab)) ?_;refine gqO 78 hb12 (fun cg hb12=>?_);exact gqZ 81 hb12
  refine goC h ?_ ?_<;>intro ch h
  ·exact goR h
  ·refine goS ?_;obtain⟨br,hb22,h⟩:=gJ h;refine kH ⟨[(1,.ptr 0 0),(127,.B br)],[bEx ae ai ab ac f q y ag ah],Tryz.f250.ntmps⟩ ?_ ?_
   ·refine gqV 91 hb22 ?_ ?_<;>intro ci hb22
    ·refine gqO 98 hb22 (fun cj hb22=>?_);refine gqV 102 hb22 ?_ ?_<;>intro ck hb22
     ·refine gqO 109 hb22 (fun cl hb22=>?_);refine gqV 111 hb22 ?_ ?_<;>intro cm hb22
      ·obtain⟨cn,bc,hb22⟩:=gJ hb22;refine jP (gI (gBy _ bc)) ?_;refine gqO 118 hb22 (fun co hb22=>?_);refine gqA 121 hb22 (fun cp hb22=>?_);refine jP (gI (gDn (gB.mk f q y))) ?_;cases hb22;exact eJ
      ·refine gqA 121 hb22 (fun cq hb22=>?_);refine jP (gI (gDn (gB.mk f q y))) ?_;cases hb22;exact eJ
     ·refine gqV 111 hb22 ?_ ?_<;>intro cr hb22
      ·obtain⟨cs,bd,hb22⟩:=gJ hb22;refine jP (gI (gBy _ bd)) ?_;refine gqO 118 hb22 (fun ct hb22=>?_);refine gqA 121 hb22 (fun cu hb22=>?_);refine jP (gI (gDn (gB.mk f q y))) ?_;cases hb22;exact eJ
      ·refine gqA 121 hb22 (fun cv hb22=>?_);refine jP (gI (gDn (gB.mk f q y))) ?_;cases hb22;exact eJ
    ·refine gqV 102 hb22 ?_ ?_<;>intro cw hb22
     ·refine gqO 109 hb22 (fun cx hb22=>?_);refine gqV 111 hb22 ?_ ?_<;>intro cy hb22
      ·obtain⟨cz,be,hb22⟩:=gJ hb22;refine jP (gI (gBy _ be)) ?_;refine gqO 118 hb22 (fun c0 hb22=>?_);refine gqA 121 hb22 (fun c1 hb22=>?_);refine jP (gI (gDn (gB.mk f q y))) ?_;cases hb22;exact eJ
      ·refine gqA 121 hb22 (fun c2 hb22=>?_);refine jP (gI (gDn (gB.mk f q y))) ?_;cases hb22;exact eJ
     ·refine gqV 111 hb22 ?_ ?_<;>intro c8 hb22
      ·obtain⟨da,bf,hb22⟩:=gJ hb22;refine jP (gI (gBy _ bf)) ?_;refine gqO 118 hb22 (fun db hb22=>?_);refine gqA 121 hb22 (fun dc hb22=>?_);refine jP (gI (gDn (gB.mk f q y))) ?_;cases hb22;exact eJ
      ·refine gqA 121 hb22 (fun dd hb22=>?_);refine jP (gI (gDn (gB.mk f q y))) ?_;cases hb22;exact eJ
   refine goC h ?_ ?_<;>intro de h
   ·exact goR h
   ·refine goS ?_;obtain⟨bt,hb50,h⟩:=uK h;refine kH ⟨[(1,.ptr 0 0),(147,.B bt)],[bEx ae ai ab ac f q y ag ah],Tryz.f250.ntmps⟩ ?_ ?_
    ·refine gqV 131 hb50 ?_ ?_<;>intro df hb50
     ·refine jP (gI (gM8 ac (-999999) 999999)) ?_;refine gqO 137 hb50 (fun dg hb50=>?_);refine gqA 141 hb50 (fun dh hb50=>?_);refine jP (gI (gM8 ac 0 1)) ?_;cases hb50;exact eJ
     ·refine gqA 141 hb50 (fun di hb50=>?_);refine jP (gI (gM8 ac 0 1)) ?_;cases hb50;exact eJ
    refine goC h ?_ ?_<;>intro dj h
    ·exact goR h
    ·refine goS ?_;refine noB ?_;refine yC 0 7 (fun dk=>?_);refine pY (fun(ak:Nat)=>⟨[(1,.ptr 0 0),(9,.N ak)],[bEx ae ai ab ac f q y ag ah],Tryz.f250.ntmps⟩) (fun ak=>gFy aa (gY.mk ae ai ab ac (gB.mk f q y) ag ah) (ag.drop ak)  =some r) (fun ak=>ag.length - ak) 0 eJ h ?_;rintro ak h;refine goL ?_;refine mR (fun a6=>?_) (fun a6=>?_)
     ·have al:=vR a6;obtain⟨bu,bg,a7⟩:=drop_at al;rw [a7,gFy.eq_2] at h;obtain⟨bv,bw,bx,bz,⟨bh,bi,bj⟩,b0,b1⟩:=bu;refine noS ?_;refine kI (jA ?_);refine goL ?_;refine jP (jR ak (gXd bg)) ?_;obtain⟨dl,bk,h⟩:=gJ h;refine jP (gI (ad _ bk)) ?_;refine mR (fun a8=>?_) (fun a8=>?_)
      ·replace h:=kU a8 h;exact goR h
      ·replace h:=kV a8 h;refine goS ?_;refine jP (kD ak (by omega)) ?_;exact⟨(ak+1),h,by omega,eJ⟩
     ·have al:=vS a6;rw [jK al,gFy.eq_1] at h;refine goX ?_;refine noB ?_;refine yC 0 8 (fun dm=>?_);refine pY (fun(aj:Nat)=>⟨[(1,.ptr 0 0),(10,.N aj)],[bEx ae ai ab ac f q y ag ah],Tryz.f250.ntmps⟩) (fun aj=>gFx aa (ah.drop aj)  =some r) (fun aj=>ah.length - aj) 0 eJ h ?_;rintro aj h;refine goL ?_;refine mR (fun a9=>?_) (fun a9=>?_)
      ·have am:=vR a9;obtain⟨b3,bl,ba⟩:=drop_at am;rw [ba,gFx.eq_2] at h;obtain⟨aq,ar,⟨au,av,aw,ax,⟨an,ao,ap⟩,ay,a3⟩⟩:=b3;refine noS ?_;refine kI (jA ?_);refine goL ?_;refine jP (jR aj (hDv bl)) ?_;refine jP (gI (uH aq)) ?_;obtain⟨b4,hb66,h⟩:=gJ h;refine kH ⟨[(1,.ptr 0 0),(10,.N aj),(195,.B b4)],[bEx ae ai ab ac f q y ag ah,.box [.S aq,.L 1 (gT ar),.I au,.S av,.S aw,.I ax,.I an,.S ao,.L 3 (gN ap),.L 9 (kQ ay),.L 11 (uZ a3)]],Tryz.f250.ntmps⟩ ?_ ?_
       ·refine gqO 178 hb66 (fun dn hb66=>?_);refine jP (gI (gVa ar)) ?_;refine gqO 184 hb66 (fun dp hb66=>?_);obtain⟨dq,bm,hb66⟩:=gJ hb66;refine jP (gI (gBx _ bm)) ?_;refine gqO 190 hb66 (fun dr hb66=>?_);obtain⟨dt,bn,hb66⟩:=gJ hb66;refine jP (gI (ad _ bn)) ?_;cases hb66;exact eJ
       refine goC h ?_ ?_<;>intro du h
       ·exact goR h
       ·refine goS ?_;refine jP (kD aj (by omega)) ?_;exact⟨(aj+1),h,by omega,eJ⟩
      ·have am:=vS a9;rw [jK am,gFx.eq_1] at h;refine goX ?_;refine jF ?_;cases h;exact uM
def gQi:Nat→gY→Option (Bool)
 | 0,_=>none
 | n+1,f=>gQh (gQi n) f
theorem hB9:∀(n:Nat)(f:gY){r:Bool},gQi n f=some r→jI Tryz.prog 250 [.d (gBp f)] [.b r]:=by
 intro n
 induction n with
 | zero=>intro f r h;cases h
 | succ n ih=>intro f r h;exact hB8 ih f h
def gOh(f:Bool)(a1:gF):Option (gF):=
bnd ((cnd (!f) ((some true)) (bnd (uY a1) fun h=>
(some (!h))))) fun q=>
(cnd q (
(some (gF.mk [] []))) (
(some a1)))
theorem gTq(a0:Bool)(a1:gF){r:gF}(h:gOh a0 a1=some r):jI Tryz.prog 225 [.B a0,.d (qJ a1)] [qJ r]:=by
 obtain⟨f,q⟩:=a1;unfold gOh at h;refine SpI Tryz.func225 fun A _=>?_;refine goL ?_;obtain⟨b1,hb1,h⟩:=gJ h;refine kH ⟨[(3,.ptr 0 0),(4,.ptr 1 0),(11,.B b1)],[bSx f q,.box [.S [],.nilsl]],Tryz.f225.ntmps⟩ ?_ ?_
 ·refine gqO 7 hb1 (fun c2 hb1=>?_);obtain⟨x3,y,hb1⟩:=gJ hb1;refine jP (gI (zQ _ y)) ?_;cases hb1;exact eJ
 refine goC h ?_ ?_<;>intro c4 h
 ·refine goL ?_;refine vP (jN TBd.h TZ.h rfl (by repeat constructor)) ?_;exact goR h
 ·refine goS ?_;refine jF ?_;cases h;exact uM
def gG7(f:gP):Option (Bool):=
bnd ((cnd (pF f.trait) (bnd (zD f.type_) fun h=>
(some h)) ((some false)))) fun q=>
(some q)
theorem gQj(a0:gP){r:Bool}(h:gG7 a0=some r):jI Tryz.prog 240 [.d (yF a0)] [.b r]:=by
 obtain⟨aa,⟨f,q,y⟩⟩:=a0;unfold gG7 at h;refine SpI Tryz.func240 fun A _=>?_;refine goL ?_;refine jP (gI (uH aa)) ?_;obtain⟨b1,hb1,h⟩:=gJ h;refine kH ⟨[(2,.B b1)],[bBd aa f q y],Tryz.f240.ntmps⟩ ?_ ?_
 ·refine gqA 6 hb1 (fun c2 hb1=>?_);obtain⟨x3,ac,hb1⟩:=gJ hb1;refine jP (gI (gBy _ ac)) ?_;cases hb1;exact eJ
 exact goR h
def gG8(a1:LS):List gB→Option (Bool)
 | []=>(some true)
 | f::xs=>bnd (gEc f a1) fun h=>
(cnd (!h) (
(some false)) (
gG8 a1 xs ))
def gPi(f:List gB)(a1:LS):Option (Bool):=
gG8 a1 f
theorem gYn(y:List gB)(a1:LS){r:Bool}(h:gPi y a1=some r):jI Tryz.prog 228 [.L 3 (gN y),.L 1 (gT a1)] [.b r]:=by
 unfold gPi at h;refine SpI Tryz.func228 fun A _=>?_;refine goL ?_;refine noB ?_;refine gCw 0 (fun z2=>?_);refine pY (fun(q:Nat)=>⟨[(0,.L 3 (gN y)),(1,.L 1 (gT a1)),(5,.N q)],[],Tryz.f228.ntmps⟩) (fun q=>gG8 a1 (y.drop q)  =some r) (fun q=>y.length - q) 0 eJ h ?_;rintro q h;refine goL ?_;refine mR (fun c3=>?_) (fun c3=>?_)
 ·have f:=vR c3;obtain⟨x4,ac,aa⟩:=drop_at f;rw [aa,gG8.eq_2] at h;obtain⟨ag,ah,ai⟩:=x4;refine noS ?_;refine kI (jA ?_);refine goL ?_;refine jP (jR q (gDj ac)) ?_;obtain⟨x5,ad,h⟩:=gJ h;refine jP (gI (gG6 _ _ ad)) ?_;refine mR (fun c6=>?_) (fun c6=>?_)
  ·replace h:=kU c6 h;exact goR h
  ·replace h:=kV c6 h;refine goS ?_;refine jP (kD q (by omega)) ?_;exact⟨(q+1),h,by omega,eJ⟩
 ·have f:=vS c3;rw [jK f,gG8.eq_1] at h;refine goX ?_;refine jF ?_;cases h;exact uM
def gIt(f:gY):Option (Bool):=
bnd (gRs 5000 f 300) fun h=>
bnd ((cnd (decide (h≥0)) (bnd (gQi 5000 f) fun q=>
(some q)) ((some false)))) fun y=>
(some y)
theorem gSi(a0:gY){r:Bool}(h:gIt a0=some r):jI Tryz.prog 243 [.d (gBp a0)] [.b r]:=by
 obtain⟨aa,ab,ac,ad,⟨f,q,y⟩,ae,ag⟩:=a0;unfold gIt at h;refine SpI Tryz.func243 fun A _=>?_;refine goL ?_;obtain⟨x1,ai,h⟩:=gJ h;refine jP (gI (hE4 _ _ _ ai)) ?_;obtain⟨b2,hb2,h⟩:=gJ h;refine kH ⟨[(2,.B b2)],[bEx aa ab ac ad f q y ae ag],Tryz.f243.ntmps⟩ ?_ ?_
 ·refine gqA 6 hb2 (fun c3 hb2=>?_);obtain⟨x4,aj,hb2⟩:=gJ hb2;refine jP (gI (hB9 _ _ aj)) ?_;cases hb2;exact eJ
 exact goR h
def gEd(q:List gP)(a1:LS):List gP→Option (Bool)
 | []=>(some (decide ((q.length:Int)≤4)))
 | f::xs=>bnd (gG7 f) fun y=>
bnd ((cnd (!y) ((some true)) (bnd (gEc f.type_ a1) fun x8=>
(cnd (!x8) ((some true)) (bnd (vY 5000 f.type_) fun h=>
(some h)))))) fun b6=>
(cnd b6 (
(some false)) (
gEd q a1 xs ))
def gL3(f:List gP)(a1:LS):Option (Bool):=
gEd f a1 f
theorem gSt(y:List gP)(a1:LS){r:Bool}(h:gL3 y a1=some r):jI Tryz.prog 230 [.L 4 (kC y),.L 1 (gT a1)] [.b r]:=by
 unfold gL3 at h;refine SpI Tryz.func230 fun A _=>?_;refine goL ?_;refine noB ?_;refine gCw 0 (fun z2=>?_);refine pY (fun(q:Nat)=>⟨[(0,.L 4 (kC y)),(1,.L 1 (gT a1)),(5,.N q)],[],Tryz.f230.ntmps⟩) (fun q=>gEd y a1 (y.drop q)  =some r) (fun q=>y.length - q) 0 eJ h ?_;rintro q h;refine goL ?_;refine mR (fun c3=>?_) (fun c3=>?_)
 ·have f:=vR c3;obtain⟨x4,aa,ab⟩:=drop_at f;rw [ab,gEd.eq_2] at h;obtain⟨ak,⟨ad,ae,ag⟩⟩:=x4;refine noS ?_;refine kI (jA ?_);refine goL ?_;refine jP (jR q (gHi aa)) ?_;obtain⟨x5,ai,h⟩:=gJ h;refine jP (gI (gQj _ ai)) ?_;obtain⟨b6,hb6,h⟩:=gJ h;refine kH ⟨[(0,.L 4 (kC y)),(1,.L 1 (gT a1)),(5,.N q),(35,.B b6)],[],Tryz.f230.ntmps⟩ ?_ ?_
  ·refine gqO 18 hb6 (fun c7 hb6=>?_);refine jP (jR q (gHi aa)) ?_;refine gRd ?_;obtain⟨x8,aj,hb6⟩:=gJ hb6;refine jP (gI (gG6 _ _ aj)) ?_;refine gqO 28 hb6 (fun c9 hb6=>?_);refine jP (jR q (gHi aa)) ?_;refine gRd ?_;obtain⟨an,ac,hb6⟩:=gJ hb6;refine jP (gI (gGk _ _ ac)) ?_;cases hb6;exact eJ
  refine goC h ?_ ?_<;>intro ao h
  ·exact goR h
  ·refine goS ?_;refine jP (kD q (by omega)) ?_;exact⟨(q+1),h,by omega,eJ⟩
 ·have f:=vS c3;rw [jK f,gEd.eq_1] at h;refine goX ?_;refine jF ?_;cases h;exact uM
def gFz(f:gY)(a1:LS):LS→Option (Bool)
 | []=>bnd (gIt f) fun h=>
(some h)
 | q::xs=>(cnd (!(yV a1 q)) (
(some false)) (
gFz f a1 xs ))
def gKt(f:gY)(a1:LS):Option (Bool):=
bnd (gGg f) fun h=>
gFz f a1 h
theorem gQk(a0:gY)(a1:LS){r:Bool}(h:gKt a0 a1=some r):jI Tryz.prog 233 [.d (gBp a0),.L 1 (gT a1)] [.b r]:=by
 obtain⟨ac,ad,ae,ag,⟨q,y,aa⟩,ah,ai⟩:=a0;unfold gKt at h;refine SpI Tryz.func233 fun A _=>?_;refine goL ?_;obtain⟨x1,am,h⟩:=gJ h;refine jP (gI (gPd _ am)) ?_;refine noB ?_;refine gCw 5 (fun z3=>?_);refine pY (fun(y2:Nat)=>⟨[(1,.L 1 (gT a1)),(2,.ptr 0 0),(5,.L 1 (gT x1)),(6,.N y2)],[bEx ac ad ae ag q y aa ah ai],Tryz.f233.ntmps⟩) (fun y2=>gFz (gY.mk ac ad ae ag (gB.mk q y aa) ah ai) a1 (x1.drop y2)  =some r) (fun y2=>x1.length - y2) 0 eJ h ?_;rintro y2 h;refine goL ?_;refine mR (fun c4=>?_) (fun c4=>?_)
 ·have f:=vR c4;obtain⟨x5,ao,aj⟩:=drop_at f;rw [aj,gFz.eq_2] at h;refine noS ?_;refine kI (jA ?_);refine goL ?_;refine jP (jR y2 (gO7 ao)) ?_;refine jP (gI (gGl a1 x5)) ?_;refine mR (fun c6=>?_) (fun c6=>?_)
  ·replace h:=kU c6 h;exact goR h
  ·replace h:=kV c6 h;refine goS ?_;refine jP (kD y2 (by omega)) ?_;exact⟨(y2+1),h,by omega,eJ⟩
 ·have f:=vS c4;rw [jK f,gFz.eq_1] at h;refine goX ?_;obtain⟨x7,aq,h⟩:=gJ h;refine uN (gI (gSi _ aq)) ?_;exact goR h
def wK(h:kG):List jC→LS→Option (Bool)
 | [],f=>bnd ((cnd (pF h.name) (bnd (zJ h.vars 3) fun y=>
(cnd y ((cnd (decide ((f.length:Int) > 0)) (bnd (zJ f 5) fun aa=>
(some aa)) ((some false)))) ((some false)))) ((some false)))) fun ab=>
(some ab)
 | q::xs,f=>bnd ((cnd (decide ((q.fields.length:Int) > 4)) ((some true)) (bnd (gPi q.fields h.vars) fun x9=>
(some (!x9))))) fun b7=>
(cnd b7 (
(some false)) (
gd (f.length+[q.name].length≤4294967296) (
wK h xs (f++[q.name]))))
def gB0(f:kG):Option (Bool):=
wK f f.constructors []
theorem gH4(a0:kG){r:Bool}(h:gB0 a0=some r):jI Tryz.prog 212 [.d (gDk a0)] [.b r]:=by
 obtain⟨q,aa,f⟩:=a0;unfold gB0 at h;refine SpI Tryz.func212 fun A _=>?_;refine goL ?_;refine gC1 ?_;refine goL ?_;refine noB ?_;refine yC 0 2 (fun z4=>?_);refine mG (fun(y3:Nat)(y1:LS)(v2:Nat)=>⟨[(1,.ptr 0 0),(3,.sl 1 v2),(4,.N y3)],[bDa q aa f,.own 9 1 v2 (gT y1)],Tryz.f212.ntmps⟩) (fun y3 y1 v2=>wK (kG.mk q aa f) (f.drop y3) y1=some r) (fun y3 y1 v2=>f.length - y3) 0 [] 0 eJ h ?_;rintro y3 y1 v2 h;refine goL ?_;refine mR (fun c5=>?_) (fun c5=>?_)
 ·have y:=vR c5;obtain⟨x6,ag,ah⟩:=drop_at y;rw [ah,wK.eq_2] at h;obtain⟨ae,aq⟩:=x6;refine noS ?_;refine kI (jA ?_);refine gIb ?_;obtain⟨b7,hb7,h⟩:=gJ h;refine wG (P:=Tryz.prog) Mix.h ⟨[(1,.ptr 0 0),(3,.sl 1 v2),(4,.N y3),(32,.B b7)],[bDa q aa f,.own 9 1 v2 (gT y1)],Tryz.f212.ntmps⟩ (by kernel_rfl) ?_ ?_
  ·refine goL ?_;refine gDi (jR y3 (gA5 ag)) ?_;refine goL ?_;refine gAl 21 (fun c8=>?_) (fun c8=>?_)
   ·replace hb7:=kU c8 hb7;refine goL ?_;cases hb7;exact eJ
   ·replace hb7:=kV c8 hb7;refine goL ?_;refine gGh (jR y3 (gA5 ag)) ?_;refine goL ?_;obtain⟨x9,an,hb7⟩:=gJ hb7;refine gGh (gI (gYn _ _ an)) ?_;refine goL ?_;cases hb7;exact eJ
  refine goC h ?_ ?_<;>intro av h
  ·exact goR h
  ·refine goS ?_;refine jP (jR y3 (gA5 ag)) ?_;refine wX ae ?_;obtain⟨ao,h⟩:=pU h;refine gDl ao ?_;refine goL ?_;refine jP (kD y3 (by omega)) ?_;exact⟨(y3+1),(y1++[ae]),(v2+1),h,by omega,eJ⟩
 ·have y:=vS c5;rw [jK y,wK.eq_1] at h;refine goX ?_;refine jP (gI (uH q)) ?_;obtain⟨ap,hb12,h⟩:=gJ h;refine kH ⟨[(2,.B ap)],[bDa q aa f,.own 9 1 v2 (gT y1)],Tryz.f212.ntmps⟩ ?_ ?_
  ·refine gqA 45 hb12 (fun aw hb12=>?_);obtain⟨ax,ai,hb12⟩:=gJ hb12;refine jP (gI (gAy _ _ ai)) ?_;refine gqA 50 hb12 (fun ay hb12=>?_);refine gqA 55 hb12 (fun a3 hb12=>?_);obtain⟨a4,aj,hb12⟩:=gJ hb12;refine yT (gUa (gAy y1 5 aj)) ?_;cases hb12;exact eJ
  exact goR h
end Go.Proofs.YtfpdlnkkcnmebaaGreat
