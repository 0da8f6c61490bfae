import Derived.Test.YtegahmhnmjnhhaaGreatB12
set_option maxHeartbeats 4000000
set_option linter.unusedVariables false
set_option linter.unusedSimpArgs false
set_option linter.unusedSectionVars false
namespace Go.Proofs.YtegahmhnmjnhhaaGreat
open Go Go.Eng
attribute [local irreducible] V VO VQ VY Quiet QR gY kR Rng mU mW mG
def gEn(f:LB):Option (gD × Bool):=
bnd (gBz 5000 (vB.mk f 0 0 0 false)) fun c=>
bnd (gO9 c.2) fun h=>
bnd ((cnd h.bad ((some true)) ((cnd (h.at_ !=(f.length:Int)) ((some true)) (bnd (qN c.1) fun y=>
(some (!y))))))) fun b3=>
(cnd b3 (
(some ((gD.mk [] []),false))) (
(some (c.1,true))))
theorem gWs(a0:LB){r:gD × Bool}(h:gEn a0=some r):gY Tryz.prog 94 [.S a0] [pJ r.1,.b r.2]:=by
 unfold gEn at h;refine SpI Tryz.func94 fun A _=>?_;refine goL ?_;refine gBn (jX TBd.h TZ.h rfl (by repeat constructor)) ?_;obtain⟨⟨⟨c,f⟩,⟨y,aa,ab,ac,ad⟩⟩,al,h⟩:=gM h;refine gA7 1 (hPi 5000 (vB.mk a0 0 0 0 false) al) ?_;refine goL ?_;obtain⟨⟨ae,ag,ah,ai,aj⟩,am,h⟩:=gM h;refine gA7 1 (gVg (vB.mk y aa ab ac ad) am) ?_;refine goL ?_;obtain⟨b3,hb3,h⟩:=gM h;refine jT ⟨[(2,.ptr 0 0),(5,.ptr 2 0),(30,.B b3)],[.box [.S [],.nilsl],bIp ae ag ah ai aj,bSx c f],Tryz.f94.ntmps⟩ ?_ ?_
 ·refine gqO 17 hb3 (fun c4 hb3=>?_);refine gqO 26 hb3 (fun c5 hb3=>?_);obtain⟨x6,an,hb3⟩:=gM hb3;refine jI (gF (yG _ an)) ?_;cases hb3;exact eJ
 refine goC h ?_ ?_<;>intro c7 h
 ·refine goL ?_;refine zZ (jX TBd.h TZ.h rfl (by repeat constructor)) ?_;exact goR h
 ·refine goS ?_;refine jG ?_;cases h;exact qD
def gF0(c:gB)(a1:LS):LS→Option (Bool)
 | []=>bnd (wR c) fun f=>
(some f)
 | h::xs=>(cnd (!(wM a1 h)) (
(some false)) (
gF0 c a1 xs ))
def gEo(c:gB)(a1:LS):Option (Bool):=
bnd (gGh c) fun f=>
gF0 c a1 f
theorem gH3(a0:gB)(a1:LS){r:Bool}(h:gEo a0 a1=some r):gY Tryz.prog 214 [.d (jS a0),.L 1 (jL a1)] [.b r]:=by
 obtain⟨y,aa,ab⟩:=a0;unfold gEo at h;refine SpI Tryz.func214 fun A _=>?_;refine goL ?_;obtain⟨x1,ag,h⟩:=gM h;refine jI (gF (gQo _ ag)) ?_;refine noB ?_;refine gB0 5 (fun z3=>?_);refine mV (fun(f:Nat)=>⟨[(1,.L 1 (jL a1)),(2,.ptr 0 0),(5,.L 1 (jL x1)),(6,.N f)],[bTy y aa ab],Tryz.f214.ntmps⟩) (fun f=>gF0 (gB.mk y aa ab) a1 (x1.drop f)  =some r) (fun f=>x1.length - f) 0 eJ h ?_;rintro f h;refine goL ?_;refine kX (fun c4=>?_) (fun c4=>?_)
 ·have c:=uR c4;obtain⟨x5,ai,ac⟩:=drop_at c;rw [ac,gF0.eq_2] at h;refine noS ?_;refine jY (jA ?_);refine goL ?_;refine jI (jJ f (gQr ai)) ?_;refine jI (gF (gGg a1 x5)) ?_;refine kX (fun c6=>?_) (fun c6=>?_)
  ·replace h:=kD c6 h;exact goR h
  ·replace h:=kE c6 h;refine goS ?_;refine jI (jW f (by omega)) ?_;exact⟨(f+1),h,by omega,eJ⟩
 ·have c:=uS c4;rw [jC c,gF0.eq_1] at h;refine goX ?_;obtain⟨x7,ak,h⟩:=gM h;refine qK (gF (gBi _ ak)) ?_;exact goR h
def gF1(c:kI→Option (Bool)):List gO7→Option (Bool)
 | []=>(some true)
 | f::xs=>bnd ((cnd (!(mH f.constructor)) ((some true)) ((cnd (!(gL0 f.vars)) ((some true)) (bnd (wT f.vars) fun h=>
(cnd (!h) ((some true)) (bnd (c f.body) fun y=>
(some (!y))))))))) fun aa=>
(cnd aa (
(some false)) (
gF1 c xs ))
def gF2(c:kI→Option (Bool))(y:kI):List kI→Option (Bool)
 | []=>gF1 c y.arms
 | f::xs=>bnd (c f) fun h=>
(cnd (!h) (
(some false)) (
gF2 c y xs ))
def gTk(h:kI→Option (Bool))(c:kI):Option (Bool):=
lt_ (gGt c.kind) fun f=>
lt_ ((cnd (!(gFl c.kind 1 12)) (true) ((cnd (!((mH c.trait)==f.1)) (true) ((cnd (!f.1) ((cnd (!(c.trait==[])) (true) ((cnd (!f.2.2.1) ((cnd (c.n != 0) (true) ((!((decide ((c.arms.length:Int) > 0))==f.2.2.2.2.2))))) ((!((decide ((c.arms.length:Int) > 0))==f.2.2.2.2.2))))))) ((cnd (!f.2.2.1) ((cnd (c.n != 0) (true) ((!((decide ((c.arms.length:Int) > 0))==f.2.2.2.2.2))))) ((!((decide ((c.arms.length:Int) > 0))==f.2.2.2.2.2))))))))))) fun b2=>
(cnd b2 (
(some false)) (
lt_ ((cnd (c.kind==10) ((cnd (!(gN5 c.name)) (true) ((cnd (c.kind != 10) ((cnd (!((mH c.name)==f.2.1)) (true) ((cnd (!f.2.1) ((!(c.name==[]))) (false))))) (false))))) ((cnd (c.kind != 10) ((cnd (!((mH c.name)==f.2.1)) (true) ((cnd (!f.2.1) ((!(c.name==[]))) (false))))) (false))))) fun y=>
(cnd y (
(some false)) (
bnd ((cnd (decide (f.2.2.2.2.1≥0)) ((cnd ((c.args.length:Int) != f.2.2.2.2.1) ((some true)) ((cnd (c.kind==5) ((cnd ((c.args.length:Int)==0) ((some true)) ((cnd f.2.2.2.1 (bnd (wR c.type_) fun aa=>
(cnd (!aa) ((some true)) ((cnd (!f.2.2.2.1) ((some (!(gAf c.type_)))) ((some false)))))) ((cnd (!f.2.2.2.1) ((some (!(gAf c.type_)))) ((some false)))))))) ((cnd f.2.2.2.1 (bnd (wR c.type_) fun ab=>
(cnd (!ab) ((some true)) ((cnd (!f.2.2.2.1) ((some (!(gAf c.type_)))) ((some false)))))) ((cnd (!f.2.2.2.1) ((some (!(gAf c.type_)))) ((some false)))))))))) ((cnd (c.kind==5) ((cnd ((c.args.length:Int)==0) ((some true)) ((cnd f.2.2.2.1 (bnd (wR c.type_) fun ac=>
(cnd (!ac) ((some true)) ((cnd (!f.2.2.2.1) ((some (!(gAf c.type_)))) ((some false)))))) ((cnd (!f.2.2.2.1) ((some (!(gAf c.type_)))) ((some false)))))))) ((cnd f.2.2.2.1 (bnd (wR c.type_) fun ad=>
(cnd (!ad) ((some true)) ((cnd (!f.2.2.2.1) ((some (!(gAf c.type_)))) ((some false)))))) ((cnd (!f.2.2.2.1) ((some (!(gAf c.type_)))) ((some false)))))))))) fun ae=>
(cnd ae (
(some false)) (
lt_ ((cnd (c.kind==1) ((cnd (!(gFl c.n (-999999) 999999)) (true) ((cnd (c.kind==2) ((!(gFl c.n 0 1))) (false))))) ((cnd (c.kind==2) ((!(gFl c.n 0 1))) (false))))) fun ag=>
(cnd ag (
(some false)) (
gF2 h c c.args ))))))))
theorem hLy{aa:kI→Option (Bool)}(ad:∀(x0:kI){r:Bool},aa x0=some r→gY Tryz.prog 248 [.d (gCy x0)] [.b r])(a0:kI){r:Bool}(h:gTk aa a0=some r):gY Tryz.prog 248 [.d (gCy a0)] [.b r]:=by
 obtain⟨ae,ai,ab,ac,⟨c,f,y⟩,ag,ah⟩:=a0;unfold gTk at h;refine SpI Tryz.func248 fun A _=>?_;refine goL ?_;obtain⟨⟨b6,bb,b7,a4,a5,b8⟩,bp,h⟩:=qA h;have sx1:=hNt ae;rw [bp] at sx1;refine jI (gF (sx1)) ?_;refine jI (gF (gNz ae 1 12)) ?_;obtain⟨b2,hb2,h⟩:=qA h;refine jT ⟨[(1,.ptr 0 0),(4,.B bb),(6,.B a4),(7,.I a5),(58,.B b2)],[bEx ae ai ab ac c f y ag ah],Tryz.f248.ntmps⟩ ?_ ?_
 ·refine gqO 26 hb2 (fun c3 hb2=>?_);refine jI (gF (qG ai)) ?_;refine gqO 33 hb2 (fun c4 hb2=>?_);refine gqV 36 hb2 ?_ ?_<;>intro c5 hb2
  ·refine gqO 42 hb2 (fun c6 hb2=>?_);refine gqA 45 hb2 (fun c7 hb2=>?_);exact gqZ 51 hb2
  ·refine gqA 45 hb2 (fun c9 hb2=>?_);exact gqZ 51 hb2
 refine goC h ?_ ?_<;>intro ca h
 ·exact goR h
 ·refine goS ?_;obtain⟨bq,hb12,h⟩:=qA h;refine jT ⟨[(1,.ptr 0 0),(6,.B a4),(7,.I a5),(88,.B bq)],[bEx ae ai ab ac c f y ag ah],Tryz.f248.ntmps⟩ ?_ ?_
  ·refine gqV 62 hb12 ?_ ?_<;>intro cb hb12
   ·refine jI (gF (hHm ab)) ?_;refine gqO 68 hb12 (fun cc hb12=>?_);refine gqA 72 hb12 (fun cd hb12=>?_);refine jI (gF (qG ab)) ?_;refine gqO 78 hb12 (fun ce hb12=>?_);exact gqZ 81 hb12
   ·refine gqA 72 hb12 (fun cf hb12=>?_);refine jI (gF (qG ab)) ?_;refine gqO 78 hb12 (fun cg hb12=>?_);exact gqZ 81 hb12
  refine goC h ?_ ?_<;>intro ch h
  ·exact goR h
  ·refine goS ?_;obtain⟨br,hb22,h⟩:=gM h;refine jT ⟨[(1,.ptr 0 0),(127,.B br)],[bEx ae ai ab ac c f y ag ah],Tryz.f248.ntmps⟩ ?_ ?_
   ·refine gqV 91 hb22 ?_ ?_<;>intro ci hb22
    ·refine gqO 98 hb22 (fun cj hb22=>?_);refine gqV 102 hb22 ?_ ?_<;>intro ck hb22
     ·refine gqO 109 hb22 (fun cl hb22=>?_);refine gqV 111 hb22 ?_ ?_<;>intro cm hb22
      ·obtain⟨cn,bc,hb22⟩:=gM hb22;refine jI (gF (gBi _ bc)) ?_;refine gqO 118 hb22 (fun co hb22=>?_);refine gqA 121 hb22 (fun cp hb22=>?_);refine jI (gF (gC3 (gB.mk c f y))) ?_;cases hb22;exact eJ
      ·refine gqA 121 hb22 (fun cq hb22=>?_);refine jI (gF (gC3 (gB.mk c f y))) ?_;cases hb22;exact eJ
     ·refine gqV 111 hb22 ?_ ?_<;>intro cr hb22
      ·obtain⟨cs,bd,hb22⟩:=gM hb22;refine jI (gF (gBi _ bd)) ?_;refine gqO 118 hb22 (fun ct hb22=>?_);refine gqA 121 hb22 (fun cu hb22=>?_);refine jI (gF (gC3 (gB.mk c f y))) ?_;cases hb22;exact eJ
      ·refine gqA 121 hb22 (fun cv hb22=>?_);refine jI (gF (gC3 (gB.mk c f y))) ?_;cases hb22;exact eJ
    ·refine gqV 102 hb22 ?_ ?_<;>intro cw hb22
     ·refine gqO 109 hb22 (fun cx hb22=>?_);refine gqV 111 hb22 ?_ ?_<;>intro cy hb22
      ·obtain⟨cz,be,hb22⟩:=gM hb22;refine jI (gF (gBi _ be)) ?_;refine gqO 118 hb22 (fun c0 hb22=>?_);refine gqA 121 hb22 (fun c1 hb22=>?_);refine jI (gF (gC3 (gB.mk c f y))) ?_;cases hb22;exact eJ
      ·refine gqA 121 hb22 (fun c2 hb22=>?_);refine jI (gF (gC3 (gB.mk c f y))) ?_;cases hb22;exact eJ
     ·refine gqV 111 hb22 ?_ ?_<;>intro c8 hb22
      ·obtain⟨da,bf,hb22⟩:=gM hb22;refine jI (gF (gBi _ bf)) ?_;refine gqO 118 hb22 (fun db hb22=>?_);refine gqA 121 hb22 (fun dc hb22=>?_);refine jI (gF (gC3 (gB.mk c f y))) ?_;cases hb22;exact eJ
      ·refine gqA 121 hb22 (fun dd hb22=>?_);refine jI (gF (gC3 (gB.mk c f y))) ?_;cases hb22;exact eJ
   refine goC h ?_ ?_<;>intro de h
   ·exact goR h
   ·refine goS ?_;obtain⟨bt,hb50,h⟩:=qA h;refine jT ⟨[(1,.ptr 0 0),(147,.B bt)],[bEx ae ai ab ac c f y ag ah],Tryz.f248.ntmps⟩ ?_ ?_
    ·refine gqV 131 hb50 ?_ ?_<;>intro df hb50
     ·refine jI (gF (gNz ac (-999999) 999999)) ?_;refine gqO 137 hb50 (fun dg hb50=>?_);refine gqA 141 hb50 (fun dh hb50=>?_);refine jI (gF (gNz ac 0 1)) ?_;cases hb50;exact eJ
     ·refine gqA 141 hb50 (fun di hb50=>?_);refine jI (gF (gNz ac 0 1)) ?_;cases hb50;exact eJ
    refine goC h ?_ ?_<;>intro dj h
    ·exact goR h
    ·refine goS ?_;refine noB ?_;refine wJ 0 7 (fun dk=>?_);refine mV (fun(ak:Nat)=>⟨[(1,.ptr 0 0),(9,.N ak)],[bEx ae ai ab ac c f y ag ah],Tryz.f248.ntmps⟩) (fun ak=>gF2 aa (kI.mk ae ai ab ac (gB.mk c f y) ag ah) (ag.drop ak)  =some r) (fun ak=>ag.length - ak) 0 eJ h ?_;rintro ak h;refine goL ?_;refine kX (fun a6=>?_) (fun a6=>?_)
     ·have al:=uR a6;obtain⟨bu,bg,a7⟩:=drop_at al;rw [a7,gF2.eq_2] at h;obtain⟨bv,bw,bx,bz,⟨bh,bi,bj⟩,b0,b1⟩:=bu;refine noS ?_;refine jY (jA ?_);refine goL ?_;refine jI (jJ ak (hAg bg)) ?_;obtain⟨dl,bk,h⟩:=gM h;refine jI (gF (ad _ bk)) ?_;refine kX (fun a8=>?_) (fun a8=>?_)
      ·replace h:=kD a8 h;exact goR h
      ·replace h:=kE a8 h;refine goS ?_;refine jI (jW ak (by omega)) ?_;exact⟨(ak+1),h,by omega,eJ⟩
     ·have al:=uS a6;rw [jC al,gF2.eq_1] at h;refine goX ?_;refine noB ?_;refine wJ 0 8 (fun dm=>?_);refine mV (fun(aj:Nat)=>⟨[(1,.ptr 0 0),(10,.N aj)],[bEx ae ai ab ac c f y ag ah],Tryz.f248.ntmps⟩) (fun aj=>gF1 aa (ah.drop aj)  =some r) (fun aj=>ah.length - aj) 0 eJ h ?_;rintro aj h;refine goL ?_;refine kX (fun a9=>?_) (fun a9=>?_)
      ·have am:=uR a9;obtain⟨b3,bl,ba⟩:=drop_at am;rw [ba,gF1.eq_2] at h;obtain⟨aq,ar,⟨au,av,aw,ax,⟨an,ao,ap⟩,ay,a3⟩⟩:=b3;refine noS ?_;refine jY (jA ?_);refine goL ?_;refine jI (jJ aj (hJk bl)) ?_;refine jI (gF (qG aq)) ?_;obtain⟨b4,hb66,h⟩:=gM h;refine jT ⟨[(1,.ptr 0 0),(10,.N aj),(195,.B b4)],[bEx ae ai ab ac c f y ag ah,.box [.S aq,.L 1 (jL ar),.I au,.S av,.S aw,.I ax,.I an,.S ao,.L 3 (jH ap),.L 9 (gCa ay),.L 11 (gK1 a3)]],Tryz.f248.ntmps⟩ ?_ ?_
       ·refine gqO 178 hb66 (fun dn hb66=>?_);refine jI (gF (gY7 ar)) ?_;refine gqO 184 hb66 (fun dp hb66=>?_);obtain⟨dq,bm,hb66⟩:=gM hb66;refine jI (gF (gBk _ bm)) ?_;refine gqO 190 hb66 (fun dr hb66=>?_);obtain⟨ds,bn,hb66⟩:=gM hb66;refine jI (gF (ad _ bn)) ?_;cases hb66;exact eJ
       refine goC h ?_ ?_<;>intro dt h
       ·exact goR h
       ·refine goS ?_;refine jI (jW aj (by omega)) ?_;exact⟨(aj+1),h,by omega,eJ⟩
      ·have am:=uS a9;rw [jC am,gF1.eq_1] at h;refine goX ?_;refine jG ?_;cases h;exact qD
def gTl:Nat→kI→Option (Bool)
 | 0,_=>none
 | n+1,c=>gTk (gTl n) c
theorem hL8:∀(n:Nat)(c:kI){r:Bool},gTl n c=some r→gY Tryz.prog 248 [.d (gCy c)] [.b r]:=by
 intro n
 induction n with
 | zero=>intro c r h;cases h
 | succ n ih=>intro c r h;exact hLy ih c h
def gP5(c:Bool)(a1:gD):Option (gD):=
bnd ((cnd (!c) ((some true)) (bnd (qN a1) fun f=>
(some (!f))))) fun h=>
(cnd h (
(some (gD.mk [] []))) (
(some a1)))
theorem gWt(a0:Bool)(a1:gD){r:gD}(h:gP5 a0 a1=some r):gY Tryz.prog 210 [.B a0,.d (pJ a1)] [pJ r]:=by
 obtain⟨c,f⟩:=a1;unfold gP5 at h;refine SpI Tryz.func210 fun A _=>?_;refine goL ?_;obtain⟨b1,hb1,h⟩:=gM h;refine jT ⟨[(3,.ptr 0 0),(4,.ptr 1 0),(11,.B b1)],[bSx c f,.box [.S [],.nilsl]],Tryz.f210.ntmps⟩ ?_ ?_
 ·refine gqO 7 hb1 (fun c2 hb1=>?_);obtain⟨x3,y,hb1⟩:=gM hb1;refine jI (gF (yG _ y)) ?_;cases hb1;exact eJ
 refine goC h ?_ ?_<;>intro c4 h
 ·refine goL ?_;refine zZ (jX TBd.h TZ.h rfl (by repeat constructor)) ?_;exact goR h
 ·refine goS ?_;refine jG ?_;cases h;exact qD
def gH4(c:gW):Option (Bool):=
bnd ((cnd (mH c.trait) (bnd (wR c.type_) fun f=>
(some f)) ((some false)))) fun h=>
(some h)
theorem gTm(a0:gW){r:Bool}(h:gH4 a0=some r):gY Tryz.prog 233 [.d (zW a0)] [.b r]:=by
 obtain⟨aa,⟨c,f,y⟩⟩:=a0;unfold gH4 at h;refine SpI Tryz.func233 fun A _=>?_;refine goL ?_;refine jI (gF (qG aa)) ?_;obtain⟨b1,hb1,h⟩:=gM h;refine jT ⟨[(2,.B b1)],[bBd aa c f y],Tryz.f233.ntmps⟩ ?_ ?_
 ·refine gqA 6 hb1 (fun c2 hb1=>?_);obtain⟨x3,ac,hb1⟩:=gM hb1;refine jI (gF (gBi _ ac)) ?_;cases hb1;exact eJ
 exact goR h
def gFh(c:gK)(a1:List gW)(a2:gW):Option (gN × Int):=
bnd (pK c a1) fun h=>
bnd (uI 5000 c h a2 12) fun f=>
(some (f.1,f.2))
theorem hPc(a0:gK)(a1:List gW)(a2:gW){r:gN × Int}(h:gFh a0 a1 a2=some r):gY Tryz.prog 125 [.d (kT a0),.L 4 (kY a1),.d (zW a2)] [qB r.1,.i .i64 r.2]:=by
 obtain⟨aj⟩:=a0;obtain⟨ak,⟨y,aa,ab⟩⟩:=a2;unfold gFh at h;refine SpI Tryz.func125 fun A _=>?_;refine gId ?_;refine jK (P:=Tryz.prog) Mix.h [(0,true),(1,true),(2,true),(3,true),(4,true),(5,true),(6,true),(7,true),(8,false),(9,true)] (by kernel_rfl) ?_;refine goY ?_;obtain⟨x1,ah,h⟩:=gM h;refine jF rfl (gF (gTw _ _ ah)) ?_;refine goY ?_;obtain⟨⟨⟨ac,ad,⟨c,f⟩,ae⟩,al⟩,ai,h⟩:=gM h;refine jF rfl (gF (hE6 _ _ _ _ _ ai)) ?_;refine goY ?_;refine kQ ?_;exact goR h
def gH5(a1:LS):List gB→Option (Bool)
 | []=>(some true)
 | c::xs=>bnd (gEo c a1) fun f=>
(cnd (!f) (
(some false)) (
gH5 a1 xs ))
def gRe(c:List gB)(a1:LS):Option (Bool):=
gH5 a1 c
theorem hEd(y:List gB)(a1:LS){r:Bool}(h:gRe y a1=some r):gY Tryz.prog 213 [.L 3 (jH y),.L 1 (jL a1)] [.b r]:=by
 unfold gRe at h;refine SpI Tryz.func213 fun A _=>?_;refine goL ?_;refine noB ?_;refine gB0 0 (fun z2=>?_);refine mV (fun(f:Nat)=>⟨[(0,.L 3 (jH y)),(1,.L 1 (jL a1)),(5,.N f)],[],Tryz.f213.ntmps⟩) (fun f=>gH5 a1 (y.drop f)  =some r) (fun f=>y.length - f) 0 eJ h ?_;rintro f h;refine goL ?_;refine kX (fun c3=>?_) (fun c3=>?_)
 ·have c:=uR c3;obtain⟨x4,ac,aa⟩:=drop_at c;rw [aa,gH5.eq_2] at h;obtain⟨ag,ah,ai⟩:=x4;refine noS ?_;refine jY (jA ?_);refine goL ?_;refine jI (jJ f (zJ ac)) ?_;obtain⟨x5,ad,h⟩:=gM h;refine jI (gF (gH3 _ _ ad)) ?_;refine kX (fun c6=>?_) (fun c6=>?_)
  ·replace h:=kD c6 h;exact goR h
  ·replace h:=kE c6 h;refine goS ?_;refine jI (jW f (by omega)) ?_;exact⟨(f+1),h,by omega,eJ⟩
 ·have c:=uS c3;rw [jC c,gH5.eq_1] at h;refine goX ?_;refine jG ?_;cases h;exact qD
def gJa(c:kI):Option (Bool):=
bnd (gR5 5000 c 300) fun f=>
bnd ((cnd (decide (f≥0)) (bnd (gTl 5000 c) fun h=>
(some h)) ((some false)))) fun y=>
(some y)
theorem gT6(a0:kI){r:Bool}(h:gJa a0=some r):gY Tryz.prog 235 [.d (gCy a0)] [.b r]:=by
 obtain⟨aa,ab,ac,ad,⟨c,f,y⟩,ae,ag⟩:=a0;unfold gJa at h;refine SpI Tryz.func235 fun A _=>?_;refine goL ?_;obtain⟨x1,ai,h⟩:=gM h;refine jI (gF (hHl _ _ _ ai)) ?_;obtain⟨b2,hb2,h⟩:=gM h;refine jT ⟨[(2,.B b2)],[bEx aa ab ac ad c f y ae ag],Tryz.f235.ntmps⟩ ?_ ?_
 ·refine gqA 6 hb2 (fun c3 hb2=>?_);obtain⟨x4,aj,hb2⟩:=gM hb2;refine jI (gF (hL8 _ _ aj)) ?_;cases hb2;exact eJ
 exact goR h
def gEp(h:List gW)(a1:LS):List gW→Option (Bool)
 | []=>(some (decide ((h.length:Int)≤4)))
 | c::xs=>bnd (gH4 c) fun y=>
bnd ((cnd (!y) ((some true)) (bnd (gEo c.type_ a1) fun x8=>
(cnd (!x8) ((some true)) (bnd (uL 5000 c.type_) fun f=>
(some f)))))) fun b6=>
(cnd b6 (
(some false)) (
gEp h a1 xs ))
def gMn(c:List gW)(a1:LS):Option (Bool):=
gEp c a1 c
theorem gUy(y:List gW)(a1:LS){r:Bool}(h:gMn y a1=some r):gY Tryz.prog 215 [.L 4 (kY y),.L 1 (jL a1)] [.b r]:=by
 unfold gMn at h;refine SpI Tryz.func215 fun A _=>?_;refine goL ?_;refine noB ?_;refine gB0 0 (fun z2=>?_);refine mV (fun(f:Nat)=>⟨[(0,.L 4 (kY y)),(1,.L 1 (jL a1)),(5,.N f)],[],Tryz.f215.ntmps⟩) (fun f=>gEp y a1 (y.drop f)  =some r) (fun f=>y.length - f) 0 eJ h ?_;rintro f h;refine goL ?_;refine kX (fun c3=>?_) (fun c3=>?_)
 ·have c:=uR c3;obtain⟨x4,aa,ab⟩:=drop_at c;rw [ab,gEp.eq_2] at h;obtain⟨ak,⟨ad,ae,ag⟩⟩:=x4;refine noS ?_;refine jY (jA ?_);refine goL ?_;refine jI (jJ f (gHt aa)) ?_;obtain⟨x5,ai,h⟩:=gM h;refine jI (gF (gTm _ ai)) ?_;obtain⟨b6,hb6,h⟩:=gM h;refine jT ⟨[(0,.L 4 (kY y)),(1,.L 1 (jL a1)),(5,.N f),(35,.B b6)],[],Tryz.f215.ntmps⟩ ?_ ?_
  ·refine gqO 18 hb6 (fun c7 hb6=>?_);refine jI (jJ f (gHt aa)) ?_;refine gQq ?_;obtain⟨x8,aj,hb6⟩:=gM hb6;refine jI (gF (gH3 _ _ aj)) ?_;refine gqO 28 hb6 (fun c9 hb6=>?_);refine jI (jJ f (gHt aa)) ?_;refine gQq ?_;obtain⟨an,ac,hb6⟩:=gM hb6;refine jI (gF (gDa _ _ ac)) ?_;cases hb6;exact eJ
  refine goC h ?_ ?_<;>intro ao h
  ·exact goR h
  ·refine goS ?_;refine jI (jW f (by omega)) ?_;exact⟨(f+1),h,by omega,eJ⟩
 ·have c:=uS c3;rw [jC c,gEp.eq_1] at h;refine goX ?_;refine jG ?_;cases h;exact qD
def yO(c:gK→(List gW)→gB→Int→Option (gB × Int))(y:gK)(a1:List gW)(a3:Int):List gB→(List gB)→Option (List gB × Int)
 | [],f=>(some (f,0))
 | x6::xs,f=>bnd (c y a1 x6 a3) fun h=>
(cnd (h.2 != 0) (
(some ([],h.2))) (
gd (f.length+[h.1].length≤4294967296) (
yO c y a1 a3 xs (f++[h.1]))))
def gRf(f:gK→(List gW)→(List gB)→Int→Option (List gB × Int))(c:gK→(List gW)→gB→Int→Option (gB × Int))(h:gK)(a1:List gW)(a2:List gB)(y:Int):Option (List gB × Int):=
yO c h a1 y a2 []
def gWu(c:gK→(List gW)→(List gB)→Int→Option (List gB × Int)):Prop:=∀(f:gK)(h:List gW)(y:List gB)(x3:Int){r:List gB × Int},c f h y x3=some r→gY Tryz.prog 124 [.d (kT f),.L 4 (kY h),.L 3 (jH y),.I x3] [.sl 3 (jH r.1),.i .i64 r.2]
def gKd(c:gK→(List gW)→gB→Int→Option (gB × Int)):Prop:=∀(f:gK)(h:List gW)(y:gB)(x3:Int){r:gB × Int},c f h y x3=some r→gY Tryz.prog 105 [.d (kT f),.L 4 (kY h),.d (jS y),.I x3] [jS r.1,.i .i64 r.2]
theorem hPd{f}{c}(ae:gWu f)(y:gKd c)(a0:gK)(a1:List gW)(a2:List gB)(a3:Int){r:List gB × Int}(h:gRf f c a0 a1 a2 a3=some r):gY Tryz.prog 124 [.d (kT a0),.L 4 (kY a1),.L 3 (jH a2),.I a3] [.sl 3 (jH r.1),.i .i64 r.2]:=by
 obtain⟨ah⟩:=a0;unfold gRf at h;refine SpI Tryz.func124 fun A _=>?_;refine goL ?_;refine gAp ?_;refine goL ?_;refine noB ?_;refine gB0 2 (fun z4=>?_);refine kS (fun(y3:Nat)(y1:List gB)(v2:Nat)=>⟨[(1,.L 4 (kY a1)),(2,.L 3 (jH a2)),(3,.I a3),(4,.ptr 0 0),(10,.sl 1 v2),(11,.N y3)],[bPr ah,.arr 35 3 v2 (jH y1)],Tryz.f124.ntmps⟩) (fun y3 y1 v2=>yO c (gK.mk ah) a1 a3 (a2.drop y3) y1=some r) (fun y3 y1 v2=>a2.length - y3) 0 [] 0 eJ h ?_;rintro y3 y1 v2 h;refine goL ?_;refine kX (fun c5=>?_) (fun c5=>?_)
 ·have aa:=uR c5;obtain⟨x6,ao,ak⟩:=drop_at aa;rw [ak,yO.eq_2] at h;obtain⟨aq,ar,au⟩:=x6;refine noS ?_;refine jY (jA ?_);refine jK (P:=Tryz.prog) Mix.h [(0,true),(1,true),(2,true),(3,true),(4,true),(5,true),(6,true),(7,true),(8,true),(9,true),(10,true),(11,false),(12,false),(13,true)] (by kernel_rfl) ?_;refine goY ?_;refine jF rfl (jJ y3 (zJ ao)) ?_;refine goY ?_;obtain⟨⟨⟨ab,ac,ad⟩,av⟩,ap,h⟩:=gM h;refine jF rfl (gF (y _ _ _ _ ap)) ?_;refine goY ?_;refine kQ ?_;refine goC h ?_ ?_<;>intro c8 h
  ·refine goL ?_;refine gAp ?_;refine goL ?_;refine kP 3 rfl rfl ?_;refine jG ?_;cases h;exact qD
  ·refine goS ?_;refine gAo (u:=(.st [.i .i64 ab,.s ac,.sl 3 (jH ad)])) ?_;obtain⟨g9,h⟩:=mY h;refine gBd g9 ?_;refine goL ?_;refine jI (jW y3 (by omega)) ?_;exact⟨(y3+1),(y1++[(gB.mk ab ac ad)]),(v2+1),h,by omega,eJ⟩
 ·have aa:=uS c5;rw [jC aa,yO.eq_1] at h;refine goX ?_;refine kP 1 rfl rfl ?_;refine jG ?_;cases h;exact qD
def zQ(f:gK→(List gW)→(List gB)→Int→Option (List gB × Int))(c:gK→(List gW)→gB→Int→Option (gB × Int))(a0:gK)(a1:List gW)(a2:gB)(a3:Int):Option (gB × Int):=
bnd (f a0 a1 a2.args a3) fun h=>
(cnd (h.2 != 0) (
(some ((gB.mk 0 [] []),h.2))) (
(cnd (decide ((tsz (gB.mk a2.kind a2.name h.1)) > 400)) (
(some ((gB.mk 0 [] []),2))) (
lt_ ((cnd (a2.kind != 3) (true) (((h.1.length:Int) != 1)))) fun b4=>
(cnd b4 (
(some ((gB.mk a2.kind a2.name h.1),0))) (
(cnd (a3==0) (
(some ((gB.mk 0 [] []),2))) (
bnd (at? h.1 0) fun x8=>
bnd (gFh a0 a1 (gW.mk a2.name x8)) fun x9=>
(cnd (x9.2 != 0) (
(some ((gB.mk 0 [] []),1))) (
(cnd (x9.1.kind != 1) (
(some ((gB.mk a2.kind a2.name h.1),0))) (
bnd (wS a0 x9.1.at_ x8) fun y=>
(cnd (!y.2) (
(some ((gB.mk 0 [] []),1))) (
bnd (c a0 a1 y.1 (IntKind.i64.wrap (a3 - 1))) fun aa=>
(some (aa.1,aa.2))))))))))))))))
theorem hA6{f}{c}(aa:gWu f)(y:gKd c)(a0:gK)(a1:List gW)(a2:gB)(a3:Int){r:gB × Int}(h:zQ f c a0 a1 a2 a3=some r):gY Tryz.prog 105 [.d (kT a0),.L 4 (kY a1),.d (jS a2),.I a3] [jS r.1,.i .i64 r.2]:=by
 obtain⟨ak⟩:=a0;obtain⟨ab,ac,al⟩:=a2;unfold zQ at h;refine SpI Tryz.func105 fun A _=>?_;refine goL ?_;obtain⟨⟨ad,be⟩,a6,h⟩:=gM h;refine jI (gF (aa _ _ _ _ a6)) ?_;refine kX (fun c2=>?_) (fun c2=>?_)
 ·replace h:=kD c2 h;refine goL ?_;refine zZ (jX TBd.h TZ.h rfl (by repeat constructor)) ?_;exact goR h
 ·replace h:=kE c2 h;refine goS ?_;refine gBn (jX TBd.h TZ.h rfl (by repeat constructor)) ?_;refine jI (gF (gKp (gB.mk ab ac ad))) ?_;refine kX (fun c3=>?_) (fun c3=>?_)
  ·replace h:=kD c3 h;refine goL ?_;refine zZ (jX TBd.h TZ.h rfl (by repeat constructor)) ?_;exact goR h
  ·replace h:=kE c3 h;refine goS ?_;obtain⟨b4,hb4,h⟩:=qA h;refine jT ⟨[(1,.L 4 (kY a1)),(3,.I a3),(4,.ptr 0 0),(6,.ptr 1 0),(8,.ptr 2 0),(10,.L 3 (jH ad)),(12,.ptr 3 0),(47,.B b4)],[bPr ak,bTy ab ac al,.box [.I 0,.S [],.nilsl],bTy ab ac ad],Tryz.f105.ntmps⟩ ?_ ?_
   ·refine uD 43 (fun c5=>?_) (fun c5=>?_) (by first | rfl | (simp only [jE,gU];rfl))
    ·replace hb4:=kD c5 hb4;refine goL ?_;cases hb4;exact⟨rfl,⟨⟨rfl,rfl⟩,⟨rfl,rfl⟩,⟨rfl,rfl⟩,⟨rfl,rfl⟩,⟨rfl,rfl⟩,⟨rfl,rfl⟩,⟨rfl,rfl⟩,⟨by first | rfl | (simp only [jE,gU];rfl),rfl⟩,trivial⟩,⟨_,rfl⟩,rfl⟩
    ·replace hb4:=kE c5 hb4;refine goL ?_;cases hb4;exact⟨rfl,⟨⟨rfl,rfl⟩,⟨rfl,rfl⟩,⟨rfl,rfl⟩,⟨rfl,rfl⟩,⟨rfl,rfl⟩,⟨rfl,rfl⟩,⟨rfl,rfl⟩,⟨by first | rfl | (simp only [jE,gU];rfl),rfl⟩,trivial⟩,⟨_,rfl⟩,rfl⟩
   refine goC h ?_ ?_<;>intro c6 h
   ·exact goR h
   ·refine goS ?_;refine kX (fun c7=>?_) (fun c7=>?_)
    ·replace h:=kD c7 h;refine goL ?_;refine zZ (jX TBd.h TZ.h rfl (by repeat constructor)) ?_;exact goR h
    ·replace h:=kE c7 h;refine noS ?_;refine jK (P:=Tryz.prog) Mix.h [(0,true),(1,true),(2,true),(3,true),(4,true),(5,true),(6,true),(7,true),(8,true),(9,true),(10,true),(11,true),(12,false),(13,false),(14,true)] (by kernel_rfl) ?_;refine goY ?_;obtain⟨x8,ae,h⟩:=gM h;obtain⟨ag,ae⟩:=gDy ae;obtain⟨bf,bg,bh⟩:=x8;refine jF rfl (qW ag (zJ ae)) ?_;refine goY ?_;obtain⟨⟨⟨aw,ax,⟨ai,aj⟩,ay⟩,bi⟩,bb,h⟩:=gM h;refine jF rfl (gF (hPc _ _ _ bb)) ?_;refine goY ?_;refine kQ ?_;refine goC h ?_ ?_<;>intro bl h
     ·refine goL ?_;refine zZ (jX TBd.h TZ.h rfl (by repeat constructor)) ?_;exact goR h
     ·refine goS ?_;refine kX (fun ah=>?_) (fun ah=>?_)
      ·replace h:=kD ah h;exact goR h
      ·replace h:=kE ah h;refine noS ?_;refine jK (P:=Tryz.prog) Mix.h [(0,true),(1,true),(2,true),(3,true),(4,true),(5,true),(6,true),(7,true),(8,true),(9,true),(10,false),(11,false),(12,true)] (by kernel_rfl) ?_;refine goY ?_;refine jF rfl (qW ag (zJ ae)) ?_;refine goY ?_;obtain⟨⟨⟨am,an,ao⟩,bc⟩,ap,h⟩:=gM h;refine jF rfl (gF (gTx _ _ _ ap)) ?_;refine goY ?_;refine kQ ?_;refine goC h ?_ ?_<;>intro bm h
       ·refine goL ?_;refine zZ (jX TBd.h TZ.h rfl (by repeat constructor)) ?_;exact goR h
       ·refine goS ?_;refine qK (pU) ?_;obtain⟨⟨⟨aq,ar,au⟩,bd⟩,av,h⟩:=gM h;refine qK (gF (y _ _ _ _ av)) ?_;exact goR h
mutual
def gBy:Nat→gK→(List gW)→(List gB)→Int→Option (List gB × Int)
 | 0,_,_,_,_=>none
 | n+1,c,f,h,y=>gRf (gBy n) (mE n) c f h y
def mE:Nat→gK→(List gW)→gB→Int→Option (gB × Int)
 | 0,_,_,_,_=>none
 | n+1,c,f,h,y=>zQ (gBy n) (mE n) c f h y
end
theorem hL9:∀(n:Nat),gWu (gBy n)∧gKd (mE n):=by
 intro n
 induction n with
 | zero=>exact⟨(by intro c f y x3 r h;cases h),(by intro c f y x3 r h;cases h)⟩
 | succ n ih=>
   obtain⟨ih0,ih1⟩:=ih;refine⟨(fun c f y x3 r h=>hPd ih0 ih1 c f y x3 h),(fun c f y x3 r h=>hA6 ih0 ih1 c f y x3 h)⟩
theorem hA7:∀(n:Nat),gKd (mE n):=fun n=>(hL9 n).2
theorem gHa(p t:gB)(hp:tnd p≤40000)(ht:tok t):gFj p t=some (match mtT p t [] with | some l=>(l,true) | none=>([],false)):=by
 obtain⟨q,h,c⟩:=(gRv 100000).2 [p] [t] [] (by simp only [gAb];omega) (fun b hb=>by simp at hb) (by simpa using ht) rfl (by simp [gAb];omega);have y:((([p]:List gB).length:Int) !=(([t]:List gB).length:Int))=false:=by simp
 unfold gFj gHc;rw [y,gI,jO h];simp only [gZo] at c;cases hm:mtT p t [] with
 | none=>
   rw [hm] at c;have f:q.1=false:=c;rw [f];rfl
 | some l=>
   rw [hm] at c;have f:q=(true,l):=c;subst f;rfl
def addN:LB:=[97,100,100]
def hXp:LB:=[105,110,116]
def hUw:LB:=[98,111,120]
def yP:gB:=⟨2,hXp,[]⟩
def gC8:gB:=⟨2,hUw,[⟨1,[97],[]⟩]⟩
def gF3(t:gB):gB:=⟨3,addN,[t]⟩
def gGe(t:gB):gB:=⟨2,hUw,[t]⟩
def isI(t:gB):Bool:=(t.kind==2) && (t.name==hXp) && (t.args.length==0)
def gUz(t:gB):Bool:=(t.kind==2) && (t.name==hUw) && (t.args.length==1)
theorem gQj(t:gB):mtT yP t []=cnd (isI t) (some []) none:=by
 obtain⟨k,n,ts⟩:=t;simp only [yP,mtT,isI];rw [show ((2:Int)==1)=false from by decide,gI];by_cases c:k=2
 ·subst c;by_cases f:n=hXp
  ·subst f;cases ts with
   | nil=>rfl
   | cons a ts=>
     simp only [bne_self_eq_false,beq_self_eq_true,Bool.not_true,gI,List.length_cons,List.length_nil,Bool.and_self,Bool.true_and];rw [show (((0:Nat):Int) !=((ts.length+1:Nat):Int))=true from bne_iff_ne.2 (by omega),show(ts.length+1==0)=false from beq_false_of_ne (by omega)];rfl
  ·rw [show (hXp==n)=false from beq_false_of_ne (Ne.symm f),show(n==hXp)=false from beq_false_of_ne f];simp [cnd]
 ·rw [show ((2:Int) != k)=true from bne_iff_ne.2 (Ne.symm c),show(k==2)=false from beq_false_of_ne c];simp [cnd]
theorem gQk(t:gB):mtT gC8 t []=cnd (gUz t) (some [⟨[97],t.args.headD ⟨0,[],[]⟩⟩]) none:=by
 obtain⟨k,n,ts⟩:=t;simp only [gC8,mtT,gUz];rw [show ((2:Int)==1)=false from by decide,gI];by_cases c:k=2
 ·subst c;by_cases f:n=hUw
  ·subst f
   match ts with
   | []=>rfl
   | [a]=>rfl
   | a::b::ts=>
     simp only [bne_self_eq_false,beq_self_eq_true,Bool.not_true,gI,List.length_cons,List.length_nil,Bool.and_self,Bool.true_and];rw [show (((0+1:Nat):Int) !=((ts.length+1+1:Nat):Int))=true from bne_iff_ne.2 (by omega),show(ts.length+1+1==1)=false from beq_false_of_ne (by omega)];rfl
  ·rw [show (hUw==n)=false from beq_false_of_ne (Ne.symm f),show(n==hUw)=false from beq_false_of_ne f];simp [cnd]
 ·rw [show ((2:Int) != k)=true from bne_iff_ne.2 (Ne.symm c),show(k==2)=false from beq_false_of_ne c];simp [cnd]
def gOw(w:gK)(o:gH):Option kG:=bnd (at? w.packages o.package) fun p=>at? p.instances o.at_
def gU0(w:gK)(l:List gH):Prop:=∀o∈l,∃i,gOw w o=some i∧(i.trait==addN)=false
structure gO8 (w:gK)(k:Int):Prop where
 refs:∃pre post,gAi w=some (pre++(⟨0,k⟩::⟨0,k+1⟩::post))∧gU0 w pre∧gU0 w post
 i1:∃i,gOw w ⟨0,k⟩=some i∧i.trait=addN∧i.head=yP∧i.where_=[]∧i.default_=false∧i.hasAssoc=true∧i.assoc=yP∧gDi w ⟨0,k⟩=some (i,true)
 i2:∃i,gOw w ⟨0,k+1⟩=some i∧i.trait=addN∧i.head=gC8∧i.where_=[⟨addN,⟨1,[97],[]⟩⟩]∧i.default_=false∧i.hasAssoc=true∧i.assoc=gGe (gF3 ⟨1,[97],[]⟩)∧gDi w ⟨0,k+1⟩=some (i,true)
 tr:(wV w addN).1.auto=false
 sh:qY w [115,104,111,119]=some []
 od:qY w [111,114,100]=some [[101,113]]
 ad:qY w addN=some []
 pa:yB w [111,114,100] [101,113]=some ([0],true)
theorem gJb{w:gK}{o:gH}{i:kG}(h:gOw w o=some i):∃p,at? w.packages o.package=some p∧at? p.instances o.at_=some i:=gM h
theorem gWv{w:gK}(t:gB):∀(l acc:List gH)(rest:List gH),gU0 w l→kW w ⟨addN,t⟩ (l++rest) acc=kW w ⟨addN,t⟩ rest acc
 | [],acc,rest,_=>rfl
 | o::l,acc,rest,h=>by
   obtain⟨i,c,f⟩:=h o (by simp);obtain⟨p,y,h4⟩:=gJb c;simp only [List.cons_append,kW,y,h4,bnd,f,gI];exact gWv t l acc rest (fun o ho=>h o (by simp [ho]))
def gU1(k:Int)(t:gB):List gH:=cnd (isI t) [⟨0,k⟩] (cnd (gUz t) [⟨0,k+1⟩] [])
theorem hEf{t:gB}(h:isI t=true):gUz t=false:=by
 unfold isI at h;unfold gUz;simp only [Bool.and_eq_true,beq_iff_eq] at h;rw [h.2];simp
theorem hUf{w:gK}{k:Int}(hw:gO8 w k)(t:gB)(ht:tok t):vP w ⟨addN,t⟩=some (gU1 k t):=by
 obtain⟨pre,post,c,f,h⟩:=hw.refs;obtain⟨a,ha,ha1,ha2,_⟩:=hw.i1;obtain⟨b,hb,hb1,hb2,_⟩:=hw.i2;obtain⟨p,ha3,ha4⟩:=gJb ha;obtain⟨q,hb3,hb4⟩:=gJb hb;have hpq:q=p:=Option.some.inj (hb3.symm.trans ha3);subst hpq;unfold vP;rw [jO c,gWv t pre [] _ f];have y:gBg a.head t=some (isI t):=by rw [ha2,gJx yP t (by decide) ht,gQj];cases isI t<;>rfl
 have e2:gBg b.head t=some (gUz t):=by rw [hb2,gJx gC8 t (by decide) ht,gQk];cases gUz t<;>rfl
 have hend:∀acc,kW w ⟨addN,t⟩ post acc=some acc:=fun acc=>by
  have:=gWv t post acc [] h
  rw [List.append_nil] at this;rw [this];rfl
 simp only [kW,ha3,ha4,hb3,hb4,bnd,ha1,hb1,beq_self_eq_true,gT,y,e2,gU1];cases hI:isI t with
 | true=>
   simp only [gT,hEf hI,gI];rw [mI (by simp)];exact hend _
 | false=>
   simp only [gI];cases gUz t with
   | true=>
     simp only [gT];rw [mI (by simp)];exact hend _
   | false=>simp only [gI];exact hend _
theorem hPe:vO yP yP=some false:=by
 have h:gBg yP yP=some true:=by rw [gJx yP yP (by decide) (gIb _ _),gQj];rfl
 unfold vO uX;simp only [h,bnd,gT,Bool.not_true]
theorem hEg:tok gC8:=by simp [gC8,tok,gU3]
theorem hPf:vO gC8 gC8=some false:=by
 have h:gBg gC8 gC8=some true:=by rw [gJx gC8 gC8 (by decide) hEg,gQk];rfl
 unfold vO uX;simp only [h,bnd,gT,Bool.not_true]
def hF4(k:Int)(t:gB):gH × Int:=cnd (isI t) (⟨0,k⟩,0) (cnd (gUz t) (⟨0,k+1⟩,0) (⟨0,0⟩,1))
theorem hMa{w:gK}{o:gH}{i:kG}(h:gOw w o=some i)(hm:vO i.head i.head=some false)(hd:i.default_=false):qH w [o] [o]=some (o,0):=by
 obtain⟨p,c,f⟩:=gJb h;simp only [qH,uW,c,f,bnd,hm,gT,Bool.not_false,hd,gI]
theorem hQ6{w:gK}{k:Int}(hw:gO8 w k)(t:gB)(ht:tok t):gAd w ⟨addN,t⟩=some (hF4 k t):=by
 obtain⟨a,ha,ha1,ha2,_,ha5,_⟩:=hw.i1;obtain⟨b,hb,hb1,hb2,_,hb5,_⟩:=hw.i2;unfold gAd;rw [jO (hUf hw t ht)];unfold gU1 hF4;cases isI t with
 | true=>simp only [gT];exact hMa ha (by rw [ha2];exact hPe) ha5
 | false=>
   simp only [gI];cases gUz t with
   | true=>simp only [gT];exact hMa hb (by rw [hb2];exact hPf) hb5
   | false=>rfl
def hZ7(k:Int)(t:gB)(e:gN):Prop:=(e.kind=1→(isI t=true∧e.at_=⟨0,k⟩)∨(gUz t=true∧e.at_=⟨0,k+1⟩))∧(e.kind≠1→∃n,isInf n=false∧t=⟨1,n,[]⟩)
def FV(f:List gQ):Prop:=∀a∈f,∃n,isInf n=false∧a.goal.type_=⟨1,n,[]⟩
theorem hXq{a b:gW}(h:wU a b=true):a.type_=b.type_:=by
 unfold wU lt_ at h;cases hn:a.trait==b.trait with
 | true=>rw [hn] at h;exact(gL3 _ _).1 h
 | false=>rw [hn] at h;cases h
theorem gKe(e:gN)(h:e.args=[])(n:Nat):gJg (n+2) e=some e:=by
 obtain⟨k,m,o,l⟩:=e;simp only at h;subst h;rfl
theorem gOx(steps:List Int)(k n a b:Int)(l:List gN):∃e,uJ steps k n a b l=some e∧(e.kind=k∨e.kind=3):=by
 induction steps generalizing k n a b l with
 | nil=>exact⟨_,rfl,.inl rfl⟩
 | cons x steps ih=>
   obtain⟨e,c,f⟩:=ih 3 x 0 0 [⟨k,n,⟨a,b⟩,l⟩];exact⟨e,c,.inr (by rcases f with h | h<;>exact h)⟩
theorem find_ok(g:gW):∀(l:List gQ)(y:Nat),mZ g l y= -1∨∃(j:Nat)(h:j < l.length),mZ g l y=((y+j:Nat):Int)∧wU l[j].goal g=true
 | [],y=>.inl rfl
 | a::l,y=>by
   simp only [mZ];cases hg:wU a.goal g with
   | true=>exact .inr ⟨0,by simp,rfl,hg⟩
   | false=>
     simp only [gI];rcases find_ok g l (y+1)with h | ⟨j,h1,c,f⟩
     ·exact .inl h
     ·exact .inr ⟨j+1,by simp;omega,by rw [c];congr 1;omega,f⟩
mutual
def n4:gB→Prop
 | ⟨k,_,ts⟩=>(k≠4∧ts.length≤2∧(k=1→ts=[]))∧n4s ts
def n4s:List gB→Prop
 | []=>True
 | a::ts=>n4 a∧n4s ts
end
theorem gWw:∀{ts:List gB},n4s ts↔∀t∈ts,n4 t
 | []=>by simp [n4s]
 | a::ts=>by simp only [n4s,gWw (ts:=ts),List.mem_cons,forall_eq_or_imp]
theorem gRg{t:gB}(h:gUz t=true):∃u,t=gGe u:=by
 obtain⟨k,n,ts⟩:=t;unfold gUz at h;simp only [Bool.and_eq_true,beq_iff_eq] at h;obtain⟨⟨rfl,rfl⟩,c⟩:=h
 match ts,c with
 | [u],_=>exact⟨u,rfl⟩
def hXr(k:Int)(facts:List gQ)(t:gB)(e:gN):Prop:=hZ7 k t e∧(e.kind≠1→0≤jZ facts ⟨addN,t⟩)
theorem hPg{w:gK}{k:Int}(hw:gO8 w k){facts:List gQ}(hF:FV facts):∀(d n:Nat)(t:gB),2*d+2≤n→d≤12→tok t→n4 t→∃e c,uI n w facts ⟨addN,t⟩ (d:Int)=some (e,c)∧(c=0→hXr k facts t e):=by
 intro d
 induction d with
 | zero=>
   intro n t hn _ ht h4;obtain⟨n,rfl⟩:∃m,n=m+2:=⟨n - 2,by omega⟩
   rw [uI];unfold gCm;rcases find_ok ⟨addN,t⟩ facts 0 with h | ⟨j,y,f,h3⟩
   ·have h:jZ facts ⟨addN,t⟩= -1:=h;rw [h];exact⟨_,_,rfl,fun h=>by cases h⟩
   ·have f:jZ facts ⟨addN,t⟩=((0+j:Nat):Int):=f;obtain⟨e,q1,q2⟩:=gOx facts[j].steps 2 facts[j].from_ 0 0 [];rw [f,show decide (((0+j:Nat):Int)≥0)=true from decide_eq_true (by omega),gT,zI,Nat.zero_add,List.getElem?_eq_getElem y];simp only [bnd];unfold qP;rw [gKe _ rfl 4998];simp only [bnd,q1];obtain⟨m,m1,m2⟩:=hF _ (List.getElem_mem y);exact⟨_,_,rfl,fun _=>⟨⟨fun hk=>(by rcases q2 with h | h<;>rw [h] at hk<;>cases hk),fun _=>⟨m,m1,by rw [←m2];exact(hXq h3).symm⟩⟩,fun _=>by rw [f];omega⟩⟩
 | succ d ih=>
   intro n t hn hd ht h4;obtain⟨n,rfl⟩:∃m,n=m+2:=⟨n - 2,by omega⟩
   rw [uI];unfold gCm;rcases find_ok ⟨addN,t⟩ facts 0 with h | ⟨j,y,f,h3⟩
   ·have h:jZ facts ⟨addN,t⟩= -1:=h;rw [h,show decide ((-1:Int)≥0)=false from by decide,gI,show decide (((d+1:Nat):Int)≤0)=false from decide_eq_false (by omega),gI];simp only [lt_,hw.tr,gI];cases hk:cnd (t.kind==1) true (t.kind==3)with
    | true=>exact⟨_,_,rfl,fun h=>by cases h⟩
    | false=>
      have ah:t.kind≠4:=by obtain⟨a,b,c⟩:=t;exact h4.1.1
      rw [gI,show(t.kind==4)=false from beq_false_of_ne ah,gI];have key:∃e c,gHh (n+1) w facts ⟨addN,t⟩ ((d+1:Nat):Int)=some (e,c)∧(c=0→hXr k facts t e):=by
       rw [gHh];unfold gLd;rw [jO (hQ6 hw t ht)];unfold hF4;obtain⟨a,ha,_,ha2,ha3,_⟩:=hw.i1;obtain⟨b,hb,_,hb2,hb3,_⟩:=hw.i2;obtain⟨p,ha4,ha5⟩:=gJb ha;obtain⟨q,hb4,hb5⟩:=gJb hb;cases hI:isI t with
       | true=>
         simp only [gT,bne_self_eq_false,gI,ha4,ha5,bnd];rw [ha2,gHa yP t (by decide) ht,gQj,hI];simp only [gT,ha3,zC];exact⟨_,_,rfl,fun _=>⟨⟨fun _=>.inl ⟨hI,rfl⟩,fun h=>absurd rfl h⟩,fun h=>absurd rfl h⟩⟩
       | false=>
         simp only [gI];cases hB:gUz t with
         | true=>
           simp only [gT,bne_self_eq_false,gI,hb4,hb5,bnd];rw [hb2,gHa gC8 t (by decide) ht,gQk,hB];simp only [gT,hb3,zC];obtain⟨u,rfl⟩:=gRg hB;have hu:tok u:=hMz _ ht u (by simp [gGe]);rw [mI ⟨fun c hc=>by simp only [List.mem_singleton] at hc;subst hc;exact hu,gIb _ _⟩];simp only [lt_];rw [show IntKind.i64.wrap (((d+1:Nat):Int) - 1)=(d:Int)from by rw [qR _ (by omega) (by omega)];omega];obtain⟨e,c,e1,e2⟩:=ih n u (by omega) (by omega) hu (h4.2.1);have e1:uI n w facts ⟨addN,apT [⟨[97],(gGe u).args.headD ⟨0,[],[]⟩⟩] ⟨1,[97],[]⟩⟩ (d:Int)=some (e,c):=e1;rw [jO e1];simp only [];cases hc:(c != 0)with
           | true=>exact⟨_,_,rfl,fun h=>by rw [h] at hc;cases hc⟩
           | false=>
             simp only [gI];rw [mI (by simp)];exact⟨_,_,rfl,fun _=>⟨⟨fun _=>.inr ⟨hB,rfl⟩,fun h=>absurd rfl h⟩,fun h=>absurd rfl h⟩⟩
         | false=>exact⟨_,_,rfl,fun h=>by cases h⟩
      obtain⟨e,c,e1,e2⟩:=key;rw [jO e1];exact⟨e,c,rfl,e2⟩
   ·have f:jZ facts ⟨addN,t⟩=((0+j:Nat):Int):=f;obtain⟨e,q1,q2⟩:=gOx facts[j].steps 2 facts[j].from_ 0 0 [];rw [f,show decide (((0+j:Nat):Int)≥0)=true from decide_eq_true (by omega),gT,zI,Nat.zero_add,List.getElem?_eq_getElem y];simp only [bnd];unfold qP;rw [gKe _ rfl 4998];simp only [bnd,q1];obtain⟨m,m1,m2⟩:=hF _ (List.getElem_mem y);exact⟨_,_,rfl,fun _=>⟨⟨fun hk=>(by rcases q2 with h | h<;>rw [h] at hk<;>cases hk),fun _=>⟨m,m1,by rw [←m2];exact(hXq h3).symm⟩⟩,fun _=>by rw [f];omega⟩⟩
def NT(V:LS)(t:gB):Prop:=tok t∧n4 t∧(∀v∈tvs t,v∈V)
theorem hXs{V:LS}{u:gB}(h:NT V u):NT V (gGe u):=⟨by simp [gGe,tok,gU3,h.1],⟨⟨by decide,by simp,fun h=>absurd h (by decide)⟩,h.2.1,trivial⟩,fun v hv=>by simp only [gGe,tvs,gGc] at hv;simpa using h.2.2 v (by simpa using hv)⟩
theorem hQ7{V:LS}{u:gB}(h:NT V u):NT V (gF3 u):=⟨by simp [gF3,tok,gU3,h.1],⟨⟨by decide,by simp,fun h=>absurd h (by decide)⟩,h.2.1,trivial⟩,fun v hv=>by simp only [gF3,tvs,gGc] at hv;simpa using h.2.2 v (by simpa using hv)⟩
theorem hXt{V:LS}:NT V yP:=⟨gIb _ _,⟨⟨by decide,by simp,fun _=>rfl⟩,trivial⟩,fun v hv=>by simp [yP,tvs,gGc] at hv⟩
theorem hUg{V:LS}{t:gB}(h:NT V t):∀u∈t.args,NT V u:=fun u hu=>by
 obtain⟨k,n,ts⟩:=t;refine⟨hMz _ h.1 u hu,gWw.1 h.2.1.2 u hu,fun v hv=>h.2.2 v ?_⟩;simp only [tvs,List.mem_append];exact .inr (gNv.2 ⟨u,hu,hv⟩)
theorem hEh{w:gK}{k:Int}(hw:gO8 w k){t:gB}{e:gN}(h:hZ7 k t e)(hk:e.kind=1)(ht:tok t):(isI t=true∧wS w e.at_ t=some (yP,true))∨(∃u,t=gGe u∧wS w e.at_ t=some (gGe (gF3 u),true)):=by
 obtain⟨a,ha,_,ha2,_,_,ha6,ha7,ha8⟩:=hw.i1;obtain⟨b,hb,_,hb2,_,_,hb6,hb7,hb8⟩:=hw.i2;rcases h.1 hk with ⟨f,y⟩ | ⟨f,y⟩
 ·left;refine⟨f,?_⟩
  rw [y];unfold wS;rw [jO ha8];simp only [];rw [ha2,jO (gHa yP t (by decide) ht),gQj,f];simp only [gT,lt_,Bool.not_true,gI,ha6,ha7];rw [mI ⟨fun c hc=>by simp at hc,gIb _ _⟩];rfl
 ·right;obtain⟨u,rfl⟩:=gRg f
  refine⟨u,rfl,?_⟩;rw [y];unfold wS;rw [jO hb8];simp only [];rw [hb2,jO (gHa gC8 _ (by decide) ht),gQk,f];simp only [gT,lt_,Bool.not_true,gI,hb6,hb7];rw [mI ⟨fun c hc=>by simp only [List.mem_singleton] at hc;subst hc;exact hMz _ ht u (by simp [gGe]),by simp [gGe,gF3,tok,gU3]⟩];rfl
theorem gMo(l:List gB):l.length≤gAb l:=by
 induction l with
 | nil=>simp [gAb]
 | cons x l ih=>have:=gBs x;simp only [List.length_cons,gAb];omega
def gOy(l:List gW):Prop:=∀b∈l,(b.trait=[115,104,111,119]∨b.trait=[111,114,100]∨b.trait=addN)∧∃n,isInf n=false∧b.type_=⟨1,n,[]⟩
theorem hMb{f:List gQ}{g:LB}{b:gB}{y:Int}{st:List Int}(h:FV f)(hb:∃n,isInf n=false∧b=⟨1,n,[]⟩):FV (f++[⟨⟨g,b⟩,y,st⟩]):=fun a ha=>by
 rcases List.mem_append.1 ha with ha | ha
 ·exact h a ha
 ·simp only [List.mem_singleton] at ha;subst ha;exact hb
theorem gOz{w:gK}{k:Int}(hw:gO8 w k):∀(l:List gW)(y:Nat)(acc:List gQ),gOy l→FV acc→acc.length+2*l.length≤4294967296→∃f,pQ w l y acc=some f∧FV f∧f.length≤acc.length+2*l.length
 | [],y,acc,_,hf,_=>⟨acc,rfl,hf,by simp⟩
 | b::l,y,acc,h,hf,hl=>by
   obtain⟨h1,h0⟩:=h b (by simp);have h2:tok b.type_:=by obtain⟨n,_,h0⟩:=h0;rw [h0];exact gIb _ _
   simp only [List.length_cons] at hl ⊢;have hrec:∀y acc',FV acc'→acc'.length≤acc.length+2→∃f,pQ w l y acc'=some f∧FV f∧f.length≤acc.length+2*(l.length+1):=fun y acc' hf ha=>by
    obtain⟨f,f1,f2,f3⟩:=gOz hw l y acc' (fun c hc=>h c (by simp [hc])) hf (by omega);exact⟨f,f1,f2,by omega⟩
   have hf1:∀y,FV (acc++[⟨⟨b.trait,b.type_⟩,y,[]⟩]):=fun y=>hMb hf h0;rw [pQ,mI h2];simp only [lt_,idT];rw [mI (by simp;omega)];rcases h1 with h1 | h1 | h1
   ·rw [h1] at hf1 ⊢;rw [jO hw.sh];exact hrec _ _ (hf1 _) (by simp)
   ·rw [h1] at hf1 ⊢;rw [jO hw.od];simp only [qC];rw [h1,jO hw.pa,mI h2];simp only [lt_];rw [mI (by simp;omega)];exact hrec _ _ (hMb (hf1 _) h0) (by simp)
   ·rw [h1] at hf1 ⊢;rw [jO hw.ad];exact hrec _ _ (hf1 _) (by simp)
mutual
def jD4:gB→Prop
 | ⟨k,n,ts⟩=>(k=3→n=addN∧ts.length=1)∧hMc ts
def hMc:List gB→Prop
 | []=>True
 | a::ts=>jD4 a∧hMc ts
end
theorem gO0:∀{ts:List gB},hMc ts↔∀t∈ts,jD4 t
 | []=>by simp [hMc]
 | a::ts=>by simp only [hMc,gO0 (ts:=ts),List.mem_cons,forall_eq_or_imp]
def DT(V:LS)(t:gB):Prop:=NT V t∧jD4 t
theorem gE7{V:LS}{t:gB}(h:DT V t):∀u∈t.args,DT V u:=fun u hu=>⟨hUg h.1 u hu,by obtain⟨k,n,ts⟩:=t;exact gO0.1 h.2.2 u hu⟩
theorem hXu{V:LS}{k:Int}{n:LB}{ts us:List gB}(h:DT V ⟨k,n,ts⟩)(hu:∀u∈us,DT V u)(hl:us.length=ts.length):DT V ⟨k,n,us⟩:=by
 have c:=h.1.2.1.1;refine⟨⟨⟨by omega,gIy.2 fun u hh=>(hu u hh).1.1⟩,⟨⟨c.1,by omega,fun hk=>List.eq_nil_of_length_eq_zero (by rw [hl,c.2.2 hk];rfl)⟩,gWw.2 fun u hh=>(hu u hh).1.2.1⟩,fun v hv=>?_⟩,⟨fun hk=>⟨(h.2.1 hk).1,by rw [hl];exact(h.2.1 hk).2⟩,gO0.2 fun u hh=>(hu u hh).2⟩⟩;simp only [tvs,List.mem_append] at hv;rcases hv with hv | hv
 ·exact h.1.2.2 v (by simp only [tvs,List.mem_append];exact .inl hv)
 ·obtain⟨u,f,c⟩:=gNv.1 hv;exact(hu u f).1.2.2 v c
theorem hQ8{V:LS}{u:gB}(h:DT V u):DT V (gGe (gF3 u)):=⟨hXs (hQ7 h.1),fun hk=>absurd hk (by decide),⟨fun _=>⟨rfl,rfl⟩,h.2,trivial⟩,trivial⟩
theorem hA8{V:LS}{t:gB}(h:DT V t)(c:t.kind=3):t.name=addN∧t.args.length=1:=by
 obtain⟨k,n,ts⟩:=t;exact h.2.1 c
theorem hQ9{V:LS}:DT V yP:=⟨hXt,fun hk=>absurd hk (by decide),trivial⟩
mutual
def hg(r:LB→Nat):gB→Nat
 | ⟨k,n,ts⟩=>max (if k=1 then r n else 1) (hgs r ts)
def hgs(r:LB→Nat):List gB→Nat
 | []=>0
 | a::ts=>max (1+hg r a) (hgs r ts)
end
mutual
def ed:gB→Nat
 | ⟨_,_,ts⟩=>eds ts
def eds:List gB→Nat
 | []=>0
 | a::ts=>max (1+ed a) (eds ts)
end
mutual
def alS(Q:gB→Prop):gB→Prop
 | ⟨k,n,ts⟩=>Q ⟨k,n,ts⟩∧gRh Q ts
def gRh(Q:gB→Prop):List gB→Prop
 | []=>True
 | a::ts=>alS Q a∧gRh Q ts
end
theorem gWx{Q:gB→Prop}:∀{ts:List gB},gRh Q ts↔∀t∈ts,alS Q t
 | []=>by simp [gRh]
 | a::ts=>by simp only [gRh,gWx (ts:=ts),List.mem_cons,forall_eq_or_imp]
theorem gAa{Q:gB→Prop}{t:gB}(h:alS Q t):∀u∈t.args,alS Q u:=by
 obtain⟨k,n,ts⟩:=t;exact gWx.1 h.2
theorem gP6{Q:gB→Prop}{t:gB}(h:alS Q t):Q t:=by
 obtain⟨k,n,ts⟩:=t;exact h.1
mutual
theorem gMp{Q Q':gB→Prop}(hq:∀t,Q t→Q' t):∀(t:gB),alS Q t→alS Q' t
 | ⟨k,n,ts⟩,h=>⟨hq _ h.1,gY4 hq ts h.2⟩
theorem gY4{Q Q':gB→Prop}(hq:∀t,Q t→Q' t):∀(ts:List gB),gRh Q ts→gRh Q' ts
 | [],_=>trivial
 | a::ts,h=>⟨gMp hq a h.1,gY4 hq ts h.2⟩
end
theorem hMd{r:LB→Nat}:∀{ts:List gB}{u:gB},u∈ts→1+hg r u≤hgs r ts
 | a::ts,u,h=>by
   simp only [hgs];rcases List.mem_cons.1 h with rfl | h
   ·omega
   ·have:=hMd (r:=r) h
    omega
theorem hUh{r:LB→Nat}{t u:gB}(h:u∈t.args):1+hg r u≤hg r t:=by
 obtain⟨k,n,ts⟩:=t
 have:=hMd (r:=r) (show u∈ts from h)
 simp only [hg];omega
def va(t:gB):Prop:=t.kind=1→t.args=[]
def Gd(E:Nat)(r:LB→Nat)(h:Nat):Prop:=h≤14∨∃w,r w < h∧h≤r w+E
def HS(E:Nat)(r:LB→Nat)(t:gB):Prop:=alS (fun y=>(y.kind=1∧y.args=[])∨(y.kind≠1∧Gd E r (hg r y))) t
mutual
theorem hXv{r:LB→Nat}:∀(t:gB),alS va t→(t.kind=1∧hg r t=r t.name)∨hg r t≤ed t+1∨∃w,r w < hg r t∧hg r t≤r w+ed t
 | ⟨k,n,ts⟩,h=>by
   by_cases hk:k=1
   ·have:ts=[]:=h.1 hk
    subst hk;subst this;left;simp [hg,hgs]
   ·right;simp only [hg,ed,if_neg hk]
    rcases hRa (r:=r) ts h.2 with c | ⟨w,c,f⟩
    ·left;omega
    ·rcases Nat.lt_or_ge 1 (hgs r ts)with y | y
     ·right;exact⟨w,by omega,by omega⟩
     ·left;omega
theorem hRa{r:LB→Nat}:∀(ts:List gB),gRh va ts→hgs r ts≤eds ts+1∨∃w,r w < hgs r ts∧hgs r ts≤r w+eds ts
 | [],_=>by left;simp [hgs]
 | a::ts,h=>by
   simp only [hgs,eds];rcases Nat.lt_or_ge (hgs r ts) (1+hg r a)with hm | hm
   ·rw [Nat.max_eq_left (by omega:hgs r ts≤1+hg r a)];rcases hXv (r:=r) a h.1 with ⟨_,c⟩ | c | ⟨w,c,f⟩
    ·right;exact⟨a.name,by omega,by omega⟩
    ·left;omega
    ·right;exact⟨w,by omega,by omega⟩
   ·rw [Nat.max_eq_right hm];rcases hRa (r:=r) ts h.2 with c | ⟨w,c,f⟩
    ·left;omega
    ·right;exact⟨w,c,by omega⟩
end
mutual
theorem hXw{E:Nat}(hE:E≤13){r:LB→Nat}:∀(t:gB),alS va t→ed t≤E→HS E r t
 | ⟨k,n,ts⟩,h,he=>by
   refine⟨?_,hRc hE ts h.2 (by simpa only [ed] using he)⟩;by_cases hk:k=1
   ·exact .inl ⟨hk,h.1 hk⟩
   ·refine .inr ⟨hk,?_⟩;rcases hXv (r:=r) ⟨k,n,ts⟩ h with ⟨c,_⟩ | c | ⟨w,c,f⟩
    ·exact absurd c hk
    ·left;omega
    ·right;exact⟨w,c,by omega⟩
theorem hRc{E:Nat}(hE:E≤13){r:LB→Nat}:∀(ts:List gB),gRh va ts→eds ts≤E→gRh (fun y=>(y.kind=1∧y.args=[])∨(y.kind≠1∧Gd E r (hg r y))) ts
 | [],_,_=>trivial
 | a::ts,h,he=>by
   simp only [eds] at he;exact⟨hXw hE a h.1 (by omega),hRc hE ts h.2 (by omega)⟩
end
def tw(fs:List gQ):Nat→gB→Prop
 | 0,t=>t=yP∨∃n,isInf n=false∧t=gF3 ⟨1,n,[]⟩∧0≤jZ fs ⟨addN,⟨1,n,[]⟩⟩
 | d+1,t=>(t=yP∨∃n,isInf n=false∧t=gF3 ⟨1,n,[]⟩∧0≤jZ fs ⟨addN,⟨1,n,[]⟩⟩)∨∃u,t=gGe u∧tw fs d u
theorem hXx{fs:List gQ}:∀{d:Nat}{t:gB},tw fs d t→tw fs (d+1) t
 | 0,t,h=>.inl h
 | d+1,t,h=>by
   rcases h with h | ⟨u,c,f⟩
   ·exact .inl h
   ·exact .inr ⟨u,c,hXx f⟩
theorem hUi{fs:List gQ}{r:LB→Nat}(hr:∀v,isInf v=false→r v=0):∀{d:Nat}{t:gB},tw fs d t→alS (fun y=>va y∧hg r y≤d+2) t
 | 0,t,h=>by
   rcases h with rfl | ⟨n,c,rfl,_⟩
   ·exact⟨⟨fun h=>absurd h (by decide),by simp [yP,hg,hgs]⟩,trivial⟩
   ·refine⟨⟨fun h=>absurd (show(3:Int)=1 from h) (by decide),?_⟩,⟨⟨fun _=>rfl,?_⟩,trivial⟩,trivial⟩
    ·simp [hg,hgs,hr n c]
    ·simp [hg,hgs,hr n c]
 | d+1,t,h=>by
   rcases h with h | ⟨u,rfl,f⟩
   ·exact gMp (fun y hy=>⟨hy.1,by omega⟩) t (hUi hr (d:=0) h)
   ·have ih:=hUi hr f
    have:=(gP6 ih).2
    refine⟨⟨fun h=>absurd (show(2:Int)=1 from h) (by decide),?_⟩,gMp (fun y hy=>⟨hy.1,by omega⟩) u ih,trivial⟩;simp only [hg,hgs,if_neg (show ¬ (2:Int)=1 from by decide)];omega
theorem hXy{E:Nat}{fs:List gQ}{r:LB→Nat}(hr:∀v,isInf v=false→r v=0){d:Nat}(hd:d≤12){t:gB}(h:tw fs d t):HS E r t:=
 gMp (fun y hy=>by
  by_cases hk:y.kind=1
  ·exact .inl ⟨hk,hy.1 hk⟩
  ·exact .inr ⟨hk,.inl (by have:=hy.2;omega)⟩) t (hUi hr h)
mutual
def pm:gB→Nat
 | ⟨k,_,ts⟩=>cnd (k==3) (pmx ts) (pml ts)
def pml:List gB→Nat
 | []=>0
 | a::ts=>max (1+pm a) (pml ts)
def pmx:List gB→Nat
 | []=>0
 | a::ts=>max (pm a) (pmx ts)
end
inductive vE {α β:Type}(R:α→β→Prop):List α→List β→Prop
 | nil:vE R [] []
 | cons {a:α} {b:β} {l:List α} {l':List β} (h:R a b) (t:vE R l l'):vE R (a::l) (b::l')
theorem vE.len{α β:Type}{R:α→β→Prop}{l:List α}{l':List β}(h:vE R l l'):l'.length=l.length:=by
 induction h with
 | nil=>rfl
 | cons _ _ ih=>simp [ih]
theorem vE.mem{α β:Type}{R:α→β→Prop}{l:List α}{l':List β}(h:vE R l l'):∀b∈l',∃a∈l,R a b:=by
 induction h with
 | nil=>intro b hb;simp at hb
 | cons c _ ih=>
   intro b hb;rcases List.mem_cons.1 hb with rfl | hb
   ·exact⟨_,by simp,c⟩
   ·obtain⟨a,f,y⟩:=ih b hb;exact⟨a,by simp [f],y⟩
structure NQ (V:LS)(fs:List gQ)(d:Nat)(t u:gB):Prop where
 dt:DT V u
 sz:tnd u≤400
 hg:∀r,hg r u≤hg r t
 tw:t.kind=3→tw fs d u
 bx:∀x,t=gGe x→x.kind=3→∃v,u=gGe v∧Go.Proofs.YtegahmhnmjnhhaaGreat.tw fs d v
 pm:pm u≤pm t
def NR(V:LS)(fs:List gQ)(d:Nat)(t:gB)(r:gB × Int):Prop:=r.2=0→NQ V fs d t r.1
theorem vE.hgs{V:LS}{fs:List gQ}{d:Nat}{l l':List gB}(h:vE (NQ V fs d) l l')(r:LB→Nat):hgs r l'≤hgs r l:=by
 induction h with
 | nil=>exact Nat.le_refl _
 | cons c _ ih=>
   have:=c.hg r
   simp only [Go.Proofs.YtegahmhnmjnhhaaGreat.hgs];omega
theorem vE.pml{V:LS}{fs:List gQ}{d:Nat}{l l':List gB}(h:vE (NQ V fs d) l l'):pml l'≤pml l∧pmx l'≤pmx l:=by
 induction h with
 | nil=>exact⟨Nat.le_refl _,Nat.le_refl _⟩
 | cons c _ ih=>
   have:=c.pm
   simp only [Go.Proofs.YtegahmhnmjnhhaaGreat.pml,Go.Proofs.YtegahmhnmjnhhaaGreat.pmx];omega
theorem hEj{V:LS}{fs:List gQ}{e:Nat}{rec:gK→List gW→gB→Int→Option (gB × Int)}{w:gK}{wh:List gW}{d:Int}:∀(xs acc:List gB),(∀u∈xs,∃r,rec w wh u d=some r∧NR V fs e u r)→acc.length+xs.length≤4294967296→
  ∃r,yO rec w wh d xs acc=some r∧(r.2=0→∃ys,r.1=acc++ys∧vE (NQ V fs e) xs ys)
 | [],acc,_,_=>⟨_,rfl,fun _=>⟨[],by simp,.nil⟩⟩
 | x::xs,acc,h,hl=>by
   obtain⟨r,f,y⟩:=h x (by simp);simp only [List.length_cons] at hl;rw [yO,jO f];cases hc:(r.2 != 0)with
   | true=>exact⟨_,rfl,fun c=>by have c:r.2=0:=c;rw [c] at hc;cases hc⟩
   | false=>
     have hc0:r.2=0:=by simpa using hc
     rw [gI,mI (by simp;omega)];obtain⟨q,q1,q2⟩:=hEj xs (acc++[r.1]) (fun u hu=>h u (by simp [hu])) (by simp;omega);refine⟨q,q1,fun c=>?_⟩;obtain⟨ys,y1,y2⟩:=q2 c;exact⟨r.1::ys,by rw [y1];simp,.cons (y hc0) y2⟩
theorem hA9{M:Nat}:∀(l:List gB),(∀u∈l,tnd u≤M)→gAb l≤M*l.length
 | [],_=>by simp [gAb]
 | a::l,h=>by
   have c:=h a (by simp);have f:=hA9 l (fun u hu=>h u (by simp [hu]));simp only [gAb,List.length_cons,Nat.mul_add,Nat.mul_one];omega
theorem gU2{w:gK}{k:Int}(hw:gO8 w k){wh:List gW}{fs:List gQ}(hf:pK w wh=some fs)(hF:FV fs){t:gB}(ht:tok t)(h4:n4 t):∃e c,gFh w wh ⟨addN,t⟩=some (e,c)∧(c=0→hZ7 k t e∧(e.kind≠1→0≤jZ fs ⟨addN,t⟩)):=by
 obtain⟨e,c,f,y⟩:=hPg hw hF 12 5000 t (by omega) (by omega) ht h4;have f:uI 5000 w fs ⟨addN,t⟩ 12=some (e,c):=f;unfold gFh;rw [jO hf,jO f];exact⟨e,c,rfl,fun h=>⟨(y h).1,(y h).2⟩⟩
theorem hMf{V:LS}{fs:List gQ}{d:Nat}{t:gB}{ys:List gB}(hD:DT V t)(h:vE (NQ V fs d) t.args ys)(hs:tnd ⟨t.kind,t.name,ys⟩≤400)(f:t.kind=3→tw fs d ⟨t.kind,t.name,ys⟩):NQ V fs d t ⟨t.kind,t.name,ys⟩:=by
 obtain⟨k,n,ts⟩:=t;refine⟨hXu hD (fun u hu=>?_) h.len,hs,fun r=>?_,f,fun x hx hk=>?_,?_⟩
 ·obtain⟨a,_,c⟩:=h.mem u hu;exact c.dt
 ·have:=h.hgs r
  simp only [hg];have e:(⟨k,n,ts⟩:gB).args=ts:=rfl;rw [e] at this;omega
 ·cases hx;cases h with
  | cons y c=>
    cases c;exact⟨_,rfl,y.tw hk⟩
 ·have:=h.pml
  have e:(⟨k,n,ts⟩:gB).args=ts:=rfl;rw [e] at this;simp only [pm];cases k==3<;>simp only [gT,gI]<;>omega
theorem hXz{w:gK}{wh:List gW}{d:Int}:∀{n:Nat}{s:gB × Int},mE n w wh yP d=some s→s.2=0→s.1=yP
 | 0,s,h,_=>by rw [mE] at h;cases h
 | 1,s,h,_=>by rw [mE] at h;unfold zQ at h;rw [gBy] at h;cases h
 | n+2,s,h,_=>by
   rw [mE] at h;unfold zQ at h;rw [gBy] at h;cases h;rfl
theorem gLv{w:gK}{k:Int}(hw:gO8 w k){wh:List gW}{fs:List gQ}(hf:pK w wh=some fs)(hF:FV fs)(V:LS):∀(d m n:Nat)(t:gB),tnd t≤m→2*m+d*1000≤n→d≤12→DT V t→tnd t≤40000→∃r,mE n w wh t (d:Int)=some r∧NR V fs d t r:=by
 intro d
 induction d with
 | zero=>
   intro m
   induction m with
   | zero=>intro n t h;have:=gBs t;omega
   | succ m ihm=>
     intro n t ht hn hd hD h4;obtain⟨n,rfl⟩:∃j,n=j+2:=⟨n - 2,by omega⟩
     have hargs:gAb t.args+1=tnd t:=by obtain⟨a,b,c⟩:=t;simp only [tnd];omega
     have hall:=hEj (V:=V) (fs:=fs) (e:=0) (rec:=mE n) (w:=w) (wh:=wh) (d:=((0:Nat):Int)) t.args [] (fun u hu=>ihm n u (by have:=yU hu;omega) (by omega) hd (gE7 hD u hu) (by have:=yU hu;omega)) (by have:=gMo t.args;simp;omega);obtain⟨r,r1,r2⟩:=hall;have r1:gBy (n+1) w wh t.args ((0:Nat):Int)=some r:=by rw [gBy];exact r1
     rw [mE];unfold zQ;rw [jO r1];cases hc:(r.2 != 0)with
     | true=>exact⟨_,rfl,fun f=>by have f:r.2=0:=f;rw [f] at hc;cases hc⟩
     | false=>
       have hc0:r.2=0:=by simpa using hc
       obtain⟨ys,q1,y⟩:=r2 hc0;rw [List.nil_append] at q1;rw [q1];have hlen:ys.length≤40000:=by have:=gMo t.args;have:=y.len;omega
       have hsz:gAb ys≤400*40000:=Nat.le_trans (hA9 ys (fun u hu=>by obtain⟨a,_,h⟩:=y.mem u hu;exact h.sz)) (Nat.mul_le_mul_left 400 hlen);have htz:tsz ⟨t.kind,t.name,ys⟩=(tnd ⟨t.kind,t.name,ys⟩:Int):=uN _ (by simp only [tnd];omega);rw [gI,htz];cases hs:decide ((tnd ⟨t.kind,t.name,ys⟩:Int) > 400)with
       | true=>exact⟨_,rfl,fun f=>by cases f⟩
       | false=>
         have hs:=of_decide_eq_false hs;simp only [gI,lt_];cases hk:cnd (t.kind != 3) true ((ys.length:Int) != 1)with
         | true=>
           refine⟨_,rfl,fun _=>hMf hD y (by omega) (fun h3=>?_)⟩;exfalso;rw [h3] at hk;simp only [bne_self_eq_false,gI] at hk;have h1:=hD.2
           have:=y.len
           have h5:=(hA8 hD h3).2;simp at hk;omega
         | false=>exact⟨_,rfl,fun f=>by cases f⟩
 | succ d ihd=>
   intro m
   induction m with
   | zero=>intro n t h;have:=gBs t;omega
   | succ m ihm=>
     intro n t ht hn hd hD h4;obtain⟨n,rfl⟩:∃j,n=j+2:=⟨n - 2,by omega⟩
     have hargs:gAb t.args+1=tnd t:=by obtain⟨a,b,c⟩:=t;simp only [tnd];omega
     have hall:=hEj (V:=V) (fs:=fs) (e:=d+1) (rec:=mE n) (w:=w) (wh:=wh) (d:=((d+1:Nat):Int)) t.args [] (fun u hu=>ihm n u (by have:=yU hu;omega) (by omega) hd (gE7 hD u hu) (by have:=yU hu;omega)) (by have:=gMo t.args;simp;omega);obtain⟨r,r1,r2⟩:=hall;have r1:gBy (n+1) w wh t.args ((d+1:Nat):Int)=some r:=by rw [gBy];exact r1
     rw [mE];unfold zQ;rw [jO r1];cases hc:(r.2 != 0)with
     | true=>exact⟨_,rfl,fun f=>by have f:r.2=0:=f;rw [f] at hc;cases hc⟩
     | false=>
       have hc0:r.2=0:=by simpa using hc
       obtain⟨ys,q1,y⟩:=r2 hc0;rw [List.nil_append] at q1;rw [q1];have hlen:ys.length≤40000:=by have:=gMo t.args;have:=y.len;omega
       have hsz:gAb ys≤400*40000:=Nat.le_trans (hA9 ys (fun u hu=>by obtain⟨a,_,h⟩:=y.mem u hu;exact h.sz)) (Nat.mul_le_mul_left 400 hlen);have htz:tsz ⟨t.kind,t.name,ys⟩=(tnd ⟨t.kind,t.name,ys⟩:Int):=uN _ (by simp only [tnd];omega);rw [gI,htz];cases hs:decide ((tnd ⟨t.kind,t.name,ys⟩:Int) > 400)with
       | true=>exact⟨_,rfl,fun f=>by cases f⟩
       | false=>
         have hs:=of_decide_eq_false hs;simp only [gI,lt_];by_cases hk3:t.kind=3
         ·obtain⟨hnm,hone⟩:=hA8 hD hk3;have hl1:ys.length=1:=by rw [y.len];exact hone
          rw [hk3];simp only [bne_self_eq_false,gI];rw [show ((ys.length:Int) != 1)=false from by rw [hl1];rfl,gI,show(((d+1:Nat):Int)==0)=false from beq_false_of_ne (by omega),gI];obtain⟨x,hx⟩:∃x,t.args=[x]:=by
           match t.args,hone with
           | [x],_=>exact⟨x,rfl⟩
          rw [hx] at y;obtain⟨u,rfl⟩:∃u,ys=[u]:=by
           match ys,hl1 with
           | [u],_=>exact⟨u,rfl⟩
          have hU:NQ V fs (d+1) x u:=by cases y with | cons h _=>exact h
          rw [show at? [u] 0=some u from rfl];simp only [bnd];obtain⟨e,c,e1,e2⟩:=gU2 hw hf hF hU.dt.1.1 hU.dt.1.2.1;have htt:t=gF3 x:=by obtain⟨a,b,c⟩:=t;simp only at hk3 hnm hx;subst hk3;subst hnm;subst hx;rfl
          rw [hnm,e1];simp only;cases hc2:(c != 0)with
          | true=>exact⟨_,rfl,fun f=>by cases f⟩
          | false=>
            have hc3:c=0:=by simpa using hc2
            obtain⟨f1,f2⟩:=e2 hc3;rw [gI];cases hek:(e.kind != 1)with
            | true=>
              have hek:e.kind≠1:=by simpa using hek
              obtain⟨m,m1,m2⟩:=f1.2 hek;have hfd:=f2 hek;rw [m2] at hfd;refine⟨_,rfl,fun _=>?_⟩
              have:=hMf (ys:=[u]) hD (by rw [hx];exact y) (by omega) (fun _=>?_)
              ·rw [hk3,hnm] at this;exact this
              ·rw [hk3,hnm];exact .inl (.inr ⟨m,m1,by rw [m2];rfl,hfd⟩)
            | false=>
              have hek1:e.kind=1:=by simpa using hek
              rw [gI];have hw1:IntKind.i64.wrap (((d+1:Nat):Int) - 1)=(d:Int):=by rw [qR _ (by omega) (by omega)];omega
              rcases hEh hw f1 hek1 hU.dt.1.1 with ⟨hI,g⟩ | ⟨v,rfl,g⟩
              ·rw [g];simp only [Bool.not_true,gI,hw1];obtain⟨s,s1,s2⟩:=ihd 403 (n+1) yP (by decide) (by omega) (by omega) hQ9 (by decide);rw [s1];refine⟨_,rfl,fun f=>?_⟩;have s3:=s2 f
               have:s.1=yP:=hXz s1 f
               refine⟨s3.dt,s3.sz,fun r=>?_,fun _=>?_,fun x hx hk=>?_,by rw [this];exact Nat.zero_le _⟩
               ·rw [this,htt];simp [yP,gF3,hg,hgs]
               ·rw [this];exact .inl (.inl rfl)
               ·rw [htt] at hx;cases hx
              ·rw [g];simp only [Bool.not_true,gI,hw1];have hv:tnd v+1≤400:=by have:=hU.sz;simp only [gGe,tnd,gAb] at this;omega
               have hvD:DT V v:=gE7 hU.dt v (by simp [gGe]);obtain⟨s,s1,s2⟩:=ihd 403 (n+1) (gGe (gF3 v)) (by simp only [gGe,gF3,tnd,gAb];omega) (by omega) (by omega) (hQ8 hvD) (by simp only [gGe,gF3,tnd,gAb];omega);rw [s1];refine⟨_,rfl,fun f=>?_⟩;have s3:=s2 f;obtain⟨u',u1,u2⟩:=s3.bx (gF3 v) rfl rfl;refine⟨s3.dt,s3.sz,fun r=>?_,fun _=>.inr ⟨u',u1,u2⟩,fun x hx hk=>?_,?_⟩
               ·have h1:=s3.hg r;have h2:=hU.hg r;have h3:hg r (gGe (gF3 v))=hg r (gF3 (gGe v)):=by
                 simp only [gGe,gF3,hg,hgs,if_neg (show ¬ (2:Int)=1 from by decide),if_neg (show ¬ (3:Int)=1 from by decide)]
                have h4:hg r (gF3 (gGe v))≤hg r (gF3 x):=by
                 simp only [gF3,hg,hgs,if_neg (show ¬ (3:Int)=1 from by decide)] at h2 ⊢;omega
                rw [htt];show hg r s.1≤_;omega
               ·rw [htt] at hx;cases hx
               ·have h1:=s3.pm;have h2:=hU.pm;rw [htt];show pm s.1≤_;have e3:∀z,pm (gF3 z)=pm z:=fun z=>by simp [gF3,pm,pmx,cnd]
                have e4:∀z,pm (gGe z)=1+pm z:=fun z=>by simp [gGe,pm,pml,cnd]
                rw [e4,e3] at h1;rw [e4] at h2;rw [e3];omega
         ·rw [show (t.kind != 3)=true from bne_iff_ne.2 hk3,gT,gT];exact⟨_,rfl,fun _=>hMf hD y (by omega) (fun h3=>absurd h3 hk3)⟩
end Go.Proofs.YtegahmhnmjnhhaaGreat
