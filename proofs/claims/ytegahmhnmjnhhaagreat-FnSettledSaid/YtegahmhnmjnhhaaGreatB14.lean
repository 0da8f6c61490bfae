import Derived.Test.YtegahmhnmjnhhaaGreatB13
set_option maxHeartbeats 4000000
set_option linter.unusedVariables false
set_option linter.unusedSimpArgs false
set_option linter.unusedSectionVars false
namespace Go.Proofs.YtegahmhnmjnhhaaGreat
open Go Go.Eng
attribute [local irreducible] V VO VQ VY Quiet QR jC kT Rng mU mV mI
def yM(c:gI→(List gY)→gB→Int→Option (gB × Int))(y:gI)(a1:List gY)(a3:Int):List gB→(List gB)→Option (List gB × Int)
 | [],f=>(some (f,0))
 | x6::xs,f=>bnd (c y a1 x6 a3) fun h=>
(cnd (h.2 != 0) (
(some ([],h.2))) (
gd (f.length+[h.1].length≤4294967296) (
yM c y a1 a3 xs (f++[h.1]))))
def gQb(f:gI→(List gY)→(List gB)→Int→Option (List gB × Int))(c:gI→(List gY)→gB→Int→Option (gB × Int))(h:gI)(a1:List gY)(a2:List gB)(y:Int):Option (List gB × Int):=
yM c h a1 y a2 []
def gVa(c:gI→(List gY)→(List gB)→Int→Option (List gB × Int)):Prop:=∀(f:gI) (h:List gY) (y:List gB) (x3:Int) {r:List gB × Int},c f h y x3=some r→jC Tryz.prog 124 [.d (kR f),.L 4 (kV h),.L 3 (jJ y),.I x3] [.sl 3 (jJ r.1),.i .i64 r.2]
def gJn(c:gI→(List gY)→gB→Int→Option (gB × Int)):Prop:=∀(f:gI) (h:List gY) (y:gB) (x3:Int) {r:gB × Int},c f h y x3=some r→jC Tryz.prog 105 [.d (kR f),.L 4 (kV h),.d (jS y),.I x3] [jS r.1,.i .i64 r.2]
theorem hLm{f}{c}(ae:gVa f)(y:gJn c)(a0:gI)(a1:List gY)(a2:List gB)(a3:Int){r:List gB × Int}(h:gQb f c a0 a1 a2 a3=some r):jC Tryz.prog 124 [.d (kR a0),.L 4 (kV a1),.L 3 (jJ a2),.I a3] [.sl 3 (jJ r.1),.i .i64 r.2]:=by
 obtain⟨ah⟩:=a0;unfold gQb at h;refine SpI Tryz.func124 fun A _=>?_;refine goL ?_;refine gAl ?_;refine goL ?_;refine noB ?_;refine gBx 2 (fun z4=>?_);refine kS (fun(y3:Nat) (y1:List gB) (v2:Nat)=>⟨[(1,.L 4 (kV a1)),(2,.L 3 (jJ a2)),(3,.I a3),(4,.ptr 0 0),(10,.sl 1 v2),(11,.N y3)],[bPr ah,.arr 35 3 v2 (jJ y1)],Tryz.f124.ntmps⟩) (fun y3 y1 v2=>yM c (gI.mk ah) a1 a3 (a2.drop y3) y1=some r) (fun y3 y1 v2=>a2.length - y3) 0 [] 0 eJ h ?_;rintro y3 y1 v2 h;refine goL ?_;refine kX (fun c5=>?_) (fun c5=>?_)
 ·have aa:=uR c5;obtain⟨x6,ao,ak⟩:=drop_at aa;rw [ak,yM.eq_2] at h;obtain⟨aq,ar,au⟩:=x6;refine noS ?_;refine jW (jE ?_);refine jO (P:=Tryz.prog) Mix.h [(0,true),(1,true),(2,true),(3,true),(4,true),(5,true),(6,true),(7,true),(8,true),(9,true),(10,true),(11,false),(12,false),(13,true)] (by kernel_rfl) ?_;refine goY ?_;refine jI rfl (jM y3 (zL ao)) ?_;refine goY ?_;obtain⟨⟨⟨ab,ac,ad⟩,av⟩,ap,h⟩:=gP h;refine jI rfl (gF (y _ _ _ _ ap)) ?_;refine goY ?_;refine kQ ?_;refine goC h ?_ ?_<;>intro c8 h
  ·refine goL ?_;refine gAl ?_;refine goL ?_;refine kN 3 rfl rfl ?_;refine jK ?_;cases h;exact qA
  ·refine goS ?_;refine gAk (u:=(.st [.i .i64 ab,.s ac,.sl 3 (jJ ad)])) ?_;obtain⟨g9,h⟩:=mW h;refine gBd g9 ?_;refine goL ?_;refine jL (jR y3 (by omega)) ?_;exact⟨(y3+1),(y1++[(gB.mk ab ac ad)]),(v2+1),h,by omega,eJ⟩
 ·have aa:=uS c5;rw [jF aa,yM.eq_1] at h;refine goX ?_;refine kN 1 rfl rfl ?_;refine jK ?_;cases h;exact qA
def zP(f:gI→(List gY)→(List gB)→Int→Option (List gB × Int))(c:gI→(List gY)→gB→Int→Option (gB × Int))(a0:gI)(a1:List gY)(a2:gB)(a3:Int):Option (gB × Int):=
bnd (f a0 a1 a2.args a3) fun h=>
(cnd (h.2 != 0) (
(some ((gB.mk 0 [] []),h.2))) (
(cnd (decide ((tsz (gB.mk a2.kind a2.name h.1)) > 400)) (
(some ((gB.mk 0 [] []),2))) (
lt_ ((cnd (a2.kind != 3) (true) (((h.1.length:Int) != 1)))) fun b4=>
(cnd b4 (
(some ((gB.mk a2.kind a2.name h.1),0))) (
(cnd (a3==0) (
(some ((gB.mk 0 [] []),2))) (
bnd (at? h.1 0) fun x8=>
bnd (gE4 a0 a1 (gY.mk a2.name x8)) fun x9=>
(cnd (x9.2 != 0) (
(some ((gB.mk 0 [] []),1))) (
(cnd (x9.1.kind != 1) (
(some ((gB.mk a2.kind a2.name h.1),0))) (
bnd (wX a0 x9.1.at_ x8) fun y=>
(cnd (!y.2) (
(some ((gB.mk 0 [] []),1))) (
bnd (c a0 a1 y.1 (IntKind.i64.wrap (a3 - 1))) fun aa=>
(some (aa.1,aa.2))))))))))))))))
theorem gZj{f}{c}(aa:gVa f)(y:gJn c)(a0:gI)(a1:List gY)(a2:gB)(a3:Int){r:gB × Int}(h:zP f c a0 a1 a2 a3=some r):jC Tryz.prog 105 [.d (kR a0),.L 4 (kV a1),.d (jS a2),.I a3] [jS r.1,.i .i64 r.2]:=by
 obtain⟨ak⟩:=a0;obtain⟨ab,ac,al⟩:=a2;unfold zP at h;refine SpI Tryz.func105 fun A _=>?_;refine goL ?_;obtain⟨⟨ad,be⟩,a6,h⟩:=gP h;refine jL (gF (aa _ _ _ _ a6)) ?_;refine kX (fun c2=>?_) (fun c2=>?_)
 ·replace h:=kD c2 h;refine goL ?_;refine gAq (jU TBd.h TZ.h rfl (by repeat constructor)) ?_;exact goR h
 ·replace h:=kE c2 h;refine goS ?_;refine gBn (jU TBd.h TZ.h rfl (by repeat constructor)) ?_;refine jL (gF (gKh (gB.mk ab ac ad))) ?_;refine kX (fun c3=>?_) (fun c3=>?_)
  ·replace h:=kD c3 h;refine goL ?_;refine gAq (jU TBd.h TZ.h rfl (by repeat constructor)) ?_;exact goR h
  ·replace h:=kE c3 h;refine goS ?_;obtain⟨b4,hb4,h⟩:=qB h;refine jT ⟨[(1,.L 4 (kV a1)),(3,.I a3),(4,.ptr 0 0),(6,.ptr 1 0),(8,.ptr 2 0),(10,.L 3 (jJ ad)),(12,.ptr 3 0),(47,.B b4)],[bPr ak,bTy ab ac al,.box [.I 0,.S [],.nilsl],bTy ab ac ad],Tryz.f105.ntmps⟩ ?_ ?_
   ·refine pX 43 (fun c5=>?_) (fun c5=>?_) (by first | rfl | (simp only [jG,gV];rfl))
    ·replace hb4:=kD c5 hb4;refine goL ?_;cases hb4;exact⟨rfl,⟨⟨rfl,rfl⟩,⟨rfl,rfl⟩,⟨rfl,rfl⟩,⟨rfl,rfl⟩,⟨rfl,rfl⟩,⟨rfl,rfl⟩,⟨rfl,rfl⟩,⟨by first | rfl | (simp only [jG,gV];rfl),rfl⟩,trivial⟩,⟨_,rfl⟩,rfl⟩
    ·replace hb4:=kE c5 hb4;refine goL ?_;cases hb4;exact⟨rfl,⟨⟨rfl,rfl⟩,⟨rfl,rfl⟩,⟨rfl,rfl⟩,⟨rfl,rfl⟩,⟨rfl,rfl⟩,⟨rfl,rfl⟩,⟨rfl,rfl⟩,⟨by first | rfl | (simp only [jG,gV];rfl),rfl⟩,trivial⟩,⟨_,rfl⟩,rfl⟩
   refine goC h ?_ ?_<;>intro c6 h
   ·exact goR h
   ·refine goS ?_;refine kX (fun c7=>?_) (fun c7=>?_)
    ·replace h:=kD c7 h;refine goL ?_;refine gAq (jU TBd.h TZ.h rfl (by repeat constructor)) ?_;exact goR h
    ·replace h:=kE c7 h;refine noS ?_;refine jO (P:=Tryz.prog) Mix.h [(0,true),(1,true),(2,true),(3,true),(4,true),(5,true),(6,true),(7,true),(8,true),(9,true),(10,true),(11,true),(12,false),(13,false),(14,true)] (by kernel_rfl) ?_;refine goY ?_;obtain⟨x8,ae,h⟩:=gP h;obtain⟨ag,ae⟩:=gEd ae;obtain⟨bf,bg,bh⟩:=x8;refine jI rfl (qP ag (zL ae)) ?_;refine goY ?_;obtain⟨⟨⟨aw,ax,⟨ai,aj⟩,ay⟩,bi⟩,bb,h⟩:=gP h;refine jI rfl (gF (hLl _ _ _ bb)) ?_;refine goY ?_;refine kQ ?_;refine goC h ?_ ?_<;>intro bl h
     ·refine goL ?_;refine gAq (jU TBd.h TZ.h rfl (by repeat constructor)) ?_;exact goR h
     ·refine goS ?_;refine kX (fun ah=>?_) (fun ah=>?_)
      ·replace h:=kD ah h;exact goR h
      ·replace h:=kE ah h;refine noS ?_;refine jO (P:=Tryz.prog) Mix.h [(0,true),(1,true),(2,true),(3,true),(4,true),(5,true),(6,true),(7,true),(8,true),(9,true),(10,false),(11,false),(12,true)] (by kernel_rfl) ?_;refine goY ?_;refine jI rfl (qP ag (zL ae)) ?_;refine goY ?_;obtain⟨⟨⟨am,an,ao⟩,bc⟩,ap,h⟩:=gP h;refine jI rfl (gF (gTr _ _ _ ap)) ?_;refine goY ?_;refine kQ ?_;refine goC h ?_ ?_<;>intro bm h
       ·refine goL ?_;refine gAq (jU TBd.h TZ.h rfl (by repeat constructor)) ?_;exact goR h
       ·refine goS ?_;refine qI (pR) ?_;obtain⟨⟨⟨aq,ar,au⟩,bd⟩,av,h⟩:=gP h;refine qI (gF (y _ _ _ _ av)) ?_;exact goR h
mutual
def gBr:Nat→gI→(List gY)→(List gB)→Int→Option (List gB × Int)
 | 0,_,_,_,_=>none
 | n+1,c,f,h,y=>gQb (gBr n) (mE n) c f h y
def mE:Nat→gI→(List gY)→gB→Int→Option (gB × Int)
 | 0,_,_,_,_=>none
 | n+1,c,f,h,y=>zP (gBr n) (mE n) c f h y
end
theorem hF7:∀(n:Nat),gVa (gBr n)∧gJn (mE n):=by
 intro n
 induction n with
 | zero=>exact⟨(by intro c f y x3 r h;cases h),(by intro c f y x3 r h;cases h)⟩
 | succ n ih=>
   obtain⟨ih0,ih1⟩:=ih;refine⟨(fun c f y x3 r h=>hLm ih0 ih1 c f y x3 h),(fun c f y x3 r h=>gZj ih0 ih1 c f y x3 h)⟩
theorem gZk:∀(n:Nat),gJn (mE n):=fun n=>(hF7 n).2
def gG5(a1:List (List UInt8)):List gB→Option (Bool)
 | []=>(some true)
 | c::xs=>bnd (gDw c a1) fun f=>
(cnd (!f) (
(some false)) (
gG5 a1 xs ))
def gQc(c:List gB)(a1:List (List UInt8)):Option (Bool):=
gG5 a1 c
theorem hBo(y:List gB)(a1:List (List UInt8)){r:Bool}(h:gQc y a1=some r):jC Tryz.prog 213 [.L 3 (jJ y),.L 1 (jP a1)] [.b r]:=by
 unfold gQc at h;refine SpI Tryz.func213 fun A _=>?_;refine goL ?_;refine noB ?_;refine gBx 0 (fun z2=>?_);refine mQ (fun(f:Nat)=>⟨[(0,.L 3 (jJ y)),(1,.L 1 (jP a1)),(5,.N f)],[],Tryz.f213.ntmps⟩) (fun f=>gG5 a1 (y.drop f)  =some r) (fun f=>y.length - f) 0 eJ h ?_;rintro f h;refine goL ?_;refine kX (fun c3=>?_) (fun c3=>?_)
 ·have c:=uR c3;obtain⟨x4,ac,aa⟩:=drop_at c;rw [aa,gG5.eq_2] at h;obtain⟨ag,ah,ai⟩:=x4;refine noS ?_;refine jW (jE ?_);refine goL ?_;refine jL (jM f (zL ac)) ?_;obtain⟨x5,ad,h⟩:=gP h;refine jL (gF (gG3 _ _ ad)) ?_;refine kX (fun c6=>?_) (fun c6=>?_)
  ·replace h:=kD c6 h;exact goR h
  ·replace h:=kE c6 h;refine goS ?_;refine jL (jR f (by omega)) ?_;exact⟨(f+1),h,by omega,eJ⟩
 ·have c:=uS c3;rw [jF c,gG5.eq_1] at h;refine goX ?_;refine jK ?_;cases h;exact qA
def gIz(c:kJ):Option (Bool):=
bnd (gTe 5000 c 300) fun f=>
bnd ((cnd (decide (f≥0)) (bnd (gRf 5000 c) fun h=>
(some h)) ((some false)))) fun y=>
(some y)
theorem gTn(a0:kJ){r:Bool}(h:gIz a0=some r):jC Tryz.prog 235 [.d (gCx a0)] [.b r]:=by
 obtain⟨aa,ab,ac,ad,⟨c,f,y⟩,ae,ag⟩:=a0;unfold gIz at h;refine SpI Tryz.func235 fun A _=>?_;refine goL ?_;obtain⟨x1,ai,h⟩:=gP h;refine jL (gF (hKk _ _ _ ai)) ?_;obtain⟨b2,hb2,h⟩:=gP h;refine jT ⟨[(2,.B b2)],[bEx aa ab ac ad c f y ae ag],Tryz.f235.ntmps⟩ ?_ ?_
 ·refine gqA 6 hb2 (fun c3 hb2=>?_);obtain⟨x4,aj,hb2⟩:=gP hb2;refine jL (gF (hF6 _ _ aj)) ?_;cases hb2;exact eJ
 exact goR h
def gDx(h:List gY)(a1:List (List UInt8)):List gY→Option (Bool)
 | []=>(some (decide ((h.length:Int)≤4)))
 | c::xs=>bnd (gG4 c) fun y=>
bnd ((cnd (!y) ((some true)) (bnd (gDw c.type_ a1) fun x8=>
(cnd (!x8) ((some true)) (bnd (gC7 5000 c.type_) fun f=>
(some f)))))) fun b6=>
(cnd b6 (
(some false)) (
gDx h a1 xs ))
def gL5(c:List gY)(a1:List (List UInt8)):Option (Bool):=
gDx c a1 c
theorem gTz(y:List gY)(a1:List (List UInt8)){r:Bool}(h:gL5 y a1=some r):jC Tryz.prog 215 [.L 4 (kV y),.L 1 (jP a1)] [.b r]:=by
 unfold gL5 at h;refine SpI Tryz.func215 fun A _=>?_;refine goL ?_;refine noB ?_;refine gBx 0 (fun z2=>?_);refine mQ (fun(f:Nat)=>⟨[(0,.L 4 (kV y)),(1,.L 1 (jP a1)),(5,.N f)],[],Tryz.f215.ntmps⟩) (fun f=>gDx y a1 (y.drop f)  =some r) (fun f=>y.length - f) 0 eJ h ?_;rintro f h;refine goL ?_;refine kX (fun c3=>?_) (fun c3=>?_)
 ·have c:=uR c3;obtain⟨x4,aa,ab⟩:=drop_at c;rw [ab,gDx.eq_2] at h;obtain⟨ak,⟨ad,ae,ag⟩⟩:=x4;refine noS ?_;refine jW (jE ?_);refine goL ?_;refine jL (jM f (gHm aa)) ?_;obtain⟨x5,ai,h⟩:=gP h;refine jL (gF (gRg _ ai)) ?_;obtain⟨b6,hb6,h⟩:=gP h;refine jT ⟨[(0,.L 4 (kV y)),(1,.L 1 (jP a1)),(5,.N f),(35,.B b6)],[],Tryz.f215.ntmps⟩ ?_ ?_
  ·refine gqO 18 hb6 (fun c7 hb6=>?_);refine jL (jM f (gHm aa)) ?_;refine gQp ?_;obtain⟨x8,aj,hb6⟩:=gP hb6;refine jL (gF (gG3 _ _ aj)) ?_;refine gqO 28 hb6 (fun c9 hb6=>?_);refine jL (jM f (gHm aa)) ?_;refine gQp ?_;obtain⟨an,ac,hb6⟩:=gP hb6;refine jL (gF (gKu _ _ ac)) ?_;cases hb6;exact eJ
  refine goC h ?_ ?_<;>intro ao h
  ·exact goR h
  ·refine goS ?_;refine jL (jR f (by omega)) ?_;exact⟨(f+1),h,by omega,eJ⟩
 ·have c:=uS c3;rw [jF c,gDx.eq_1] at h;refine goX ?_;refine jK ?_;cases h;exact qA
end Go.Proofs.YtegahmhnmjnhhaaGreat
