import Derived.Test.YtegahmhnmjnhhaaGreatB2
set_option maxHeartbeats 4000000
set_option linter.unusedVariables false
set_option linter.unusedSimpArgs false
set_option linter.unusedSectionVars false
namespace Go.Proofs.YtegahmhnmjnhhaaGreat
open Go Go.Eng
attribute [local irreducible] V VO VQ VY Quiet QR jC kT Rng mU mV mI
def gCm(h:gJ)(x1:List gG)(y2:List jB):List jN→(List jN)→Option (gJ)
 | [],f=>(some (gJ.mk h.next h.count h.node x1 y2 f h.code h.at_))
 | c::xs,f=>gd (tok c.goal.type_) (lt_ (idT c.goal.type_) fun y=>
gd (f.length+[(jN.mk (gY.mk c.goal.trait y) c.node)].length≤4294967296) (
gCm h x1 y2 xs (f++[(jN.mk (gY.mk c.goal.trait y) c.node)])))
def zH(y:gJ)(x1:List gG):List jB→(List jB)→Option (gJ)
 | [],h=>gCm y x1 h y.obligations []
 | c::xs,h=>gd (tok c.a) (lt_ (idT c.a) fun x9=>
gd (tok c.b) (lt_ (idT c.b) fun f=>
gd (h.length+[(jB.mk x9 f c.node)].length≤4294967296) (
zH y x1 xs (h++[(jB.mk x9 f c.node)]))))
def gGu(c:gJ):Option (gJ):=
bnd (gQw c.bindings) fun f=>
zH c f c.equations []
theorem gT4(a0:gJ){r:gJ}(h:gGu a0=some r):jC Tryz.prog 25 [.d (mD a0)] [mD r]:=by
 obtain⟨y,aa,ab,am,ac,c,ad,ae⟩:=a0;unfold gGu at h;refine SpI Tryz.func25 fun A _=>?_;refine goL ?_;obtain⟨x1,bo,h⟩:=gP h;refine jL (gF (hNu _ bo)) ?_;refine gAl ?_;refine goL ?_;refine noB ?_;refine wN 0 4 (fun z5=>?_);refine kS (fun(y4:Nat) (y2:List jB) (v3:Nat)=>⟨[(1,.ptr 0 0),(2,.ptr 1 0),(3,.ptr 2 0),(4,.N y4)],[bSt y aa ab am ac c ad ae,.box [.I 0,.I 0,.I 0,.nilsl,.nilsl,.nilsl,.I 0,.I 0],.box [.I y,.I aa,.I ab,.L 4 (gN x1),.sl 3 v3,.L 5 (gT c),.I ad,.I ae],.arr 79 7 v3 (gW y2)],Tryz.f25.ntmps⟩) (fun y4 y2 v3=>zH (gJ.mk y aa ab am ac c ad ae) x1 (ac.drop y4) y2=some r) (fun y4 y2 v3=>ac.length - y4) 0 [] 0 eJ h ?_;rintro y4 y2 v3 h;refine goL ?_;refine kX (fun c6=>?_) (fun c6=>?_)
 ·have ai:=uR c6;obtain⟨x7,bg,bj⟩:=drop_at ai;rw [bj,zH.eq_2] at h;obtain⟨⟨a3,a4,a5⟩,⟨a6,a7,a8⟩,bb⟩:=x7;refine noS ?_;refine jW (jE ?_);refine uF (P:=Tryz.prog) Mix.h [(0,true),(1,true),(2,true),(3,true),(4,true),(5,true),(6,true),(7,true),(8,true),(9,true),(10,true),(11,true),(12,true),(13,true),(14,true),(15,true),(16,true),(17,true),(18,true),(19,true),(20,true),(21,true),(22,true),(23,false),(24,false),(25,true),(26,false)] (by kernel_rfl) ?_;refine goY ?_;refine jI rfl (jM y4 (gHr bg)) ?_;refine goY ?_;obtain⟨g8,h⟩:=mW h;obtain⟨⟨bc,bd,be⟩,bq,h⟩:=qB h;have sx9:=(zV (gB.mk a3 a4 a5) g8).p;rw [bq] at sx9;refine jI rfl (gF (sx9)) ?_;refine goY ?_;refine jI rfl (jM y4 (gHr bg)) ?_;refine goY ?_;obtain⟨br,h⟩:=mW h;obtain⟨⟨aq,ar,au⟩,bk,h⟩:=qB h;have sx11:=(zV (gB.mk a6 a7 a8) br).p;rw [bk] at sx11;refine jI rfl (gF (sx11)) ?_;refine goY ?_;refine jI rfl (jM y4 (gHr bg)) ?_;refine goY ?_;refine qE (T:=29) (us:=gW [(jB.mk (gB.mk bc bd be) (gB.mk aq ar au) bb)]) ?_;obtain⟨bt,h⟩:=mW h;refine pV (T:=29) bt ?_;refine goY ?_;refine kQ ?_;refine goL ?_;refine jL (jR y4 (by omega)) ?_;exact⟨(y4+1),(y2++[(jB.mk (gB.mk bc bd be) (gB.mk aq ar au) bb)]),(v3+1),h,by omega,eJ⟩
 ·have ai:=uS c6;rw [jF ai,zH.eq_1] at h;refine goX ?_;refine gAl ?_;refine goL ?_;refine noB ?_;refine wN 0 5 (fun b0=>?_);refine kS (fun(f:Nat) (an:List jN) (ao:Nat)=>⟨[(1,.ptr 0 0),(2,.ptr 1 0),(3,.ptr 2 0),(5,.N f)],[bSt y aa ab am ac c ad ae,.box [.I 0,.I 0,.I 0,.nilsl,.nilsl,.nilsl,.I 0,.I 0],.box [.I y,.I aa,.I ab,.L 4 (gN x1),.sl 3 v3,.sl 4 ao,.I ad,.I ae],.arr 79 7 v3 (gW y2),.arr 81 5 ao (gT an)],Tryz.f25.ntmps⟩) (fun f an ao=>gCm (gJ.mk y aa ab am ac c ad ae) x1 y2 (c.drop f) an=some r) (fun f an ao=>c.length - f) 0 [] 0 eJ h ?_;rintro f an ao h;refine goL ?_;refine kX (fun bh=>?_) (fun bh=>?_)
  ·have ag:=uR bh;obtain⟨bu,bf,bi⟩:=drop_at ag;rw [bi,gCm.eq_2] at h;obtain⟨⟨ah,⟨aj,ak,al⟩⟩,av⟩:=bu;refine noS ?_;refine jW (jE ?_);refine goL ?_;refine qI (jM f (gM9 bf)) ?_;refine gH2 ?_;refine uF (P:=Tryz.prog) Mix.h [(0,true),(1,true),(2,true),(3,true),(4,true),(5,true),(6,true),(7,true),(8,true),(9,true),(10,true),(11,true),(12,true),(13,true),(14,true),(15,false),(16,false),(17,true),(18,false)] (by kernel_rfl) ?_;refine goY ?_;obtain⟨bv,h⟩:=mW h;obtain⟨⟨aw,ax,ay⟩,bl,h⟩:=qB h;have sx20:=(zV (gB.mk aj ak al) bv).p;rw [bl] at sx20;refine jI rfl (gF (sx20)) ?_;refine goY ?_;refine jI rfl (jM f (gM9 bf)) ?_;refine goY ?_;refine qE (T:=30) (us:=gT [(jN.mk (gY.mk ah (gB.mk aw ax ay)) av)]) ?_;obtain⟨bw,h⟩:=mW h;refine pV (T:=30) bw ?_;refine goY ?_;refine kQ ?_;refine goL ?_;refine jL (jR f (by omega)) ?_;exact⟨(f+1),(an++[(jN.mk (gY.mk ah (gB.mk aw ax ay)) av)]),(ao+1),h,by omega,eJ⟩
  ·have ag:=uS bh;rw [jF ag,gCm.eq_1] at h;refine goX ?_;refine kN 3 rfl rfl ?_;refine kN 4 rfl rfl ?_;refine jK ?_;cases h;exact qA
def gEq(c:List UInt8)(a1:gB):Option (Bool):=
bnd (qZ 5000 a1 c) fun f=>
(some (decide (f > 0)))
theorem gRr(f:List UInt8)(a1:gB){r:Bool}(h:gEq f a1=some r):jC Tryz.prog 86 [.S f,.d (jS a1)] [.b r]:=by
 obtain⟨y,aa,ab⟩:=a1;unfold gEq at h;refine SpI Tryz.func86 fun A _=>?_;refine goL ?_;obtain⟨x1,c,h⟩:=gP h;refine qI (gF (gMr _ _ _ c)) ?_;exact goR h
def mX(a1:gY):List gU→Nat→Int
 | [],c=>(-1)
 | f::xs,c=>(cnd (yC f.goal a1) (
(c:Int)) (
mX a1 xs (c+1)))
def kH(c:List gU)(a1:gY):Int:=
mX a1 c 0
theorem gO0(a0:List gU)(a1:gY):jC Tryz.prog 190 [.L 6 (gM a0),.d (zY a1)] [.i .i64 (kH a0 a1)]:=by
 obtain⟨r,h⟩:∃r,kH a0 a1=r:=⟨_,rfl⟩
 rw [h];obtain⟨ae,⟨c,f,y⟩⟩:=a1;unfold kH at h;refine SpI Tryz.func190 fun A _=>?_;refine goL ?_;refine noB ?_;refine gBx 0 (fun z2=>?_);refine mQ (fun(y1:Nat)=>⟨[(0,.L 6 (gM a0)),(3,.ptr 0 0),(5,.N y1)],[bBd ae c f y],Tryz.f190.ntmps⟩) (fun y1=>mX (gY.mk ae (gB.mk c f y)) (a0.drop y1) y1=r) (fun y1=>a0.length - y1) 0 eJ h ?_;rintro y1 h;refine goL ?_;refine kX (fun c3=>?_) (fun c3=>?_)
 ·have aa:=uR c3;obtain⟨x4,al,aj⟩:=drop_at aa;rw [aj,mX.eq_2] at h;obtain⟨⟨ah,⟨ab,ac,ad⟩⟩,am,an⟩:=x4;refine noS ?_;refine jW (jE ?_);refine goL ?_;refine gE7 (jM y1 (gHq al)) ?_;refine goL ?_;refine gE7 (gF (gYq (gY.mk ah (gB.mk ab ac ad)) (gY.mk ae (gB.mk c f y)))) ?_;refine goC h ?_ ?_<;>intro c5 h
  ·refine goL ?_;refine jK ?_;subst h;exact qA
  ·refine goS ?_;refine jL (jR y1 (by omega)) ?_;exact⟨(y1+1),h,by omega,eJ⟩
 ·have aa:=uS c3;rw [jF aa,mX.eq_1] at h;refine goX ?_;refine jK ?_;subst h;exact qA
def uE:List Int→Int→Int→Int→Int→(List gQ)→Option (gQ)
 | [],c,f,h,y,y6=>(some (gQ.mk c f (gH.mk h y) y6))
 | ab::xs,c,f,h,y,y6=>uE xs 3 ab 0 0 [(gQ.mk c f (gH.mk h y) y6)]
def qM(f:gQ)(a1:List Int):Option (gQ):=
bnd (gJh 5000 f) fun c=>
uE a1 c.kind c.n c.at_.package c.at_.at_ c.args
theorem gG8(a0:gQ)(a1:List Int){r:gQ}(h:qM a0 a1=some r):kT Tryz.prog 191 [.d (pY a0),.L 1 (gJe a1)] [147] [pY r]:=by
 obtain⟨ad,ae,⟨f,y⟩,ag⟩:=a0;unfold qM at h;refine pM Tryz.func191 rfl (by kernel_rfl) rfl (by simp) fun A _=>?_;refine goL ?_;obtain⟨⟨ao,ap,⟨aa,ab⟩,aq⟩,aw,h⟩:=gP h;refine gGa (hJr 5000 (gQ.mk ad ae (gH.mk f y) ag) aw) ?_;refine goL ?_;refine noB ?_;refine gBx 1 (fun z9=>?_);refine hCt (fun(y8:Nat) (y2:Int) (y3:Int) (y4:Int) (y5:Int) (y6:List gQ) (v7:Nat)=>⟨[(1,.L 1 (gJe a1)),(4,.ptr 1 0),(5,.ptr 3 0),(6,.N y8)],[.box [.I ad,.I ae,.I f,.I y,.L 5 (jZ ag)],.box [.I 0,.I 0,.I 0,.I 0,.nilsl],.own 147 5 v7 (jZ y6),.box [.I y2,.I y3,.I y4,.I y5,.sl 2 v7]],Tryz.f191.ntmps⟩) (fun y8 y2 y3 y4 y5 y6 v7=>uE (a1.drop y8) y2 y3 y4 y5 y6=some r) (fun y8 y2 y3 y4 y5 y6 v7=>a1.length - y8) 0 ao ap aa ab aq 0 eJ h ?_;rintro y8 y2 y3 y4 y5 y6 v7 h;refine goL ?_;refine kX (fun am=>?_) (fun am=>?_)
 ·have c:=uR am;obtain⟨ax,au,an⟩:=drop_at c;rw [an,uE.eq_2] at h;refine noS ?_;refine jW (jE ?_);refine uF (P:=Tryz.prog) Mix.h [(0,true),(1,true),(2,true),(3,true),(4,true),(5,false),(6,true),(7,false)] (by kernel_rfl) ?_;refine goY ?_;refine jI rfl (jM y8 (jCt au)) ?_;refine goY ?_;refine gX6 (T:=145) (gQ.mk y2 y3 (gH.mk y4 y5) y6) ?_;refine goY ?_;refine kQ ?_;refine goL ?_;refine jL (jR y8 (by omega)) ?_;exact⟨(y8+1),3,ax,0,0,[(gQ.mk y2 y3 (gH.mk y4 y5) y6)],0,h,by omega,uK 0 [0,1,4,3]⟩
 ·have c:=uS am;rw [jF c,uE.eq_1] at h;refine goX ?_;refine jK ?_;obtain rfl:=Option.some.inj h;exact gPw
def gGi(c:gI→(List UInt8)→(List UInt8)→Int→Option (List Int × Bool))(a0:gI)(a2:List UInt8)(h:Int)(y:qV × Int × Bool):Nat→Int→Option (List Int × Bool)
 | 0,f=>none
 | n4+1,f=>lt_ ((cnd (decide (f < (y.1.supertraits.length:Int))) ((decide (h > 0))) (false))) fun b5=>
(cnd b5 (
bnd (at? y.1.supertraits f) fun x8=>
bnd (c a0 x8 a2 (IntKind.i64.wrap (h - 1))) fun x9=>
(cnd x9.2 (
gd ([f].length+x9.1.length≤4294967296) (
(some (([f]++x9.1),true)))) (
gGi c a0 a2 h y n4 (IntKind.i64.wrap (f+1))))) (
(some ([],false))))
def gO1(c:gI→(List UInt8)→(List UInt8)→Int→Option (List Int × Bool))(f:gI)(a1:List UInt8)(a2:List UInt8)(h:Int)(y:Nat):Option (List Int × Bool):=
(cnd (a1==a2) (
(some ([],true))) (
lt_ (yD f a1) fun x2=>
gGi c f a2 h x2 y 0))
theorem hEh{c:gI→(List UInt8)→(List UInt8)→Int→Option (List Int × Bool)}(f:∀(x0:gI) (x1:List UInt8) (x2:List UInt8) (x3:Int) {r:List Int × Bool},c x0 x1 x2 x3=some r→jC Tryz.prog 223 [.d (kR x0),.S x1,.S x2,.I x3] [.sl 1 (gJe r.1),.b r.2])(a0:gI)(a1:List UInt8)(a2:List UInt8)(a3:Int){n0:Nat}{r:List Int × Bool}(h:gO1 c a0 a1 a2 a3 n0=some r):jC Tryz.prog 223 [.d (kR a0),.S a1,.S a2,.I a3] [.sl 1 (gJe r.1),.b r.2]:=by
 obtain⟨ae⟩:=a0;unfold gO1 at h;refine SpI Tryz.func223 fun A _=>?_;refine goC h ?_ ?_<;>intro c1 h
 ·refine goL ?_;refine gF9 ?_;refine goL ?_;refine uH 1 rfl rfl ?_;refine jK ?_;cases h;exact qA
 ·refine goS ?_;obtain⟨⟨⟨y,aa,ab,ac,ad⟩,ak,al⟩,ao,h⟩:=qB h;have sx2:=gLt (gI.mk ae) a1;rw [ao] at sx2;refine jL (gF (sx2)) ?_;refine noB ?_;refine gEe (fun(n4:Nat) (y3:Int)=>⟨[(2,.S a2),(3,.I a3),(4,.ptr 0 0),(10,.ptr 1 0),(13,.I y3)],[bPr ae,bTr y aa ab ac ad],Tryz.f223.ntmps⟩) (fun n4 y3=>gGi c (gI.mk ae) a2 a3 ((qV.mk y aa ab ac ad),ak,al) n4 y3=some r) (fun n4 y3=>n4) n0 0 eJ h ?_;rintro n4 y3 h;rcases n4 with _ | n4
  ·cases h
  rw [gGi.eq_2] at h;refine goL ?_;obtain⟨b5,hb5,h⟩:=qB h;refine jT ⟨[(2,.S a2),(3,.I a3),(4,.ptr 0 0),(10,.ptr 1 0),(13,.I y3),(35,.B b5)],[bPr ae,bTr y aa ab ac ad],Tryz.f223.ntmps⟩ ?_ ?_
  ·exact gqZ 32 hb5
  refine goC h ?_ ?_<;>intro c7 h
  ·refine noS ?_;refine jW (jE ?_);refine goL ?_;obtain⟨x8,ai,h⟩:=gP h;obtain⟨am,ai⟩:=gEd ai;refine gE7 (qP am (gQq ai)) ?_;refine goL ?_;refine gE7 (pR) ?_;obtain⟨⟨ay,a4⟩,ap,h⟩:=gP h;refine gE7 (gF (f _ _ _ _ ap)) ?_;refine goC h ?_ ?_<;>intro a6 h
   ·refine goL ?_;refine gBc y3 ?_;refine goL ?_;obtain⟨aq,h⟩:=mW h;refine gH3 aq ?_;refine goL ?_;refine uH 2 rfl rfl ?_;refine jK ?_;cases h;exact qA
   ·refine goS ?_;refine jL (pR) ?_;exact⟨n4,(IntKind.i64.wrap (y3+1)),h,Nat.lt_succ_self _,eJ⟩
  ·refine goX ?_;refine gF9 ?_;refine goL ?_;refine uH 2 rfl rfl ?_;refine jK ?_;cases h;exact qA
def gO2:Nat→gI→(List UInt8)→(List UInt8)→Int→Option (List Int × Bool)
 | 0,_,_,_,_=>none
 | n+1,c,f,h,y=>gO1 (gO2 n) c f h y n
theorem hEj:∀(n:Nat) (c:gI) (f:List UInt8) (y:List UInt8) (x3:Int) {r:List Int × Bool},gO2 n c f y x3=some r→jC Tryz.prog 223 [.d (kR c),.S f,.S y,.I x3] [.sl 1 (gJe r.1),.b r.2]:=by
 intro n
 induction n with
 | zero=>intro c f y x3 r h;cases h
 | succ n ih=>intro c f y x3 r h;exact hEh ih c f y x3 h
def kY(h:gI)(a1:gY):List gH→(List gH)→Option (List gH)
 | [],c=>(some c)
 | f::xs,c=>bnd (at? h.packages f.package) fun x8=>
bnd (at? x8.instances f.at_) fun x9=>
bnd ((cnd (x9.trait==a1.trait) (bnd (gBl x9.head a1.type_) fun y=>
(some y)) ((some false)))) fun aa=>
(cnd aa (
gd (c.length+[f].length≤4294967296) (
kY h a1 xs (c++[f]))) (
kY h a1 xs c))
def vS(c:gI)(a1:gY):Option (List gH):=
bnd (gAn c) fun f=>
kY c a1 f []
theorem gK6(a0:gI)(a1:gY){r:List gH}(h:vS a0 a1=some r):jC Tryz.prog 237 [.d (kR a0),.d (zY a1)] [.sl 2 (kF r)]:=by
 obtain⟨ac⟩:=a0;obtain⟨ad,⟨c,f,y⟩⟩:=a1;unfold vS at h;refine SpI Tryz.func237 fun A _=>?_;refine goL ?_;refine gAl ?_;refine goL ?_;obtain⟨x1,ba,h⟩:=gP h;refine jL (gF (gS7 _ ba)) ?_;refine noB ?_;refine gBx 6 (fun z5=>?_);refine kS (fun(y4:Nat) (y2:List gH) (v3:Nat)=>⟨[(2,.ptr 0 0),(3,.ptr 1 0),(5,.sl 2 v3),(6,.L 2 (kF x1)),(7,.N y4)],[bPr ac,bBd ad c f y,.arr 144 2 v3 (kF y2)],Tryz.f237.ntmps⟩) (fun y4 y2 v3=>kY (gI.mk ac) (gY.mk ad (gB.mk c f y)) (x1.drop y4) y2=some r) (fun y4 y2 v3=>x1.length - y4) 0 [] 0 eJ h ?_;rintro y4 y2 v3 h;refine goL ?_;refine kX (fun c6=>?_) (fun c6=>?_)
 ·have aa:=uR c6;obtain⟨x7,ap,au⟩:=drop_at aa;rw [au,kY.eq_2] at h;obtain⟨an,ao⟩:=x7;refine noS ?_;refine jW (jE ?_);refine jO (P:=Tryz.prog) Mix.h [(0,true),(1,true),(2,true),(3,true),(4,true),(5,true),(6,true),(7,true),(8,true),(9,true),(10,true),(11,true),(12,true),(13,true),(14,true),(15,true),(16,true),(17,false),(18,false)] (by kernel_rfl) ?_;refine goY ?_;refine jI rfl (jM y4 (wZ ap)) ?_;refine goY ?_;obtain⟨x8,aq,h⟩:=gP h;obtain⟨av,aq⟩:=gEd aq;obtain⟨be,bf,bg,bh,bi,bj⟩:=x8;refine jI rfl (qP av (gBw aq)) ?_;refine goY ?_;refine jI rfl (jM y4 (wZ ap)) ?_;refine goY ?_;obtain⟨x9,ar,h⟩:=gP h;obtain⟨aw,ar⟩:=gEd ar;obtain⟨ax,ay,⟨ag,ah,ai⟩,a3,a4,a5,⟨aj,ak,al⟩,a6⟩:=x9;refine jI rfl (qP aw (gHn ar)) ?_;refine goY ?_;refine kQ ?_;refine goL ?_;obtain⟨bc,hb10,h⟩:=gP h;refine jT ⟨[(2,.ptr 0 0),(3,.ptr 1 0),(5,.sl 2 v3),(6,.L 2 (kF x1)),(7,.N y4),(46,.B bc)],[bPr ac,bBd ad c f y,.arr 144 2 v3 (kF y2),bIn ax ay ag ah ai a3 a4 a5 aj ak al a6],Tryz.f237.ntmps⟩ ?_ ?_
  ·refine gqA 40 hb10 (fun bn hb10=>?_);obtain⟨bo,a7,hb10⟩:=gP hb10;refine jL (gF (gUo _ _ a7)) ?_;cases hb10;exact eJ
  refine goC h ?_ ?_<;>intro bp h
  ·refine goL ?_;refine jL (jM y4 (wZ ap)) ?_;refine gAk (u:=(.st [.i .i64 an,.i .i64 ao])) ?_;obtain⟨bd,h⟩:=mW h;refine gBd bd ?_;refine goL ?_;refine jL (jR y4 (by omega)) ?_;exact⟨(y4+1),(y2++[(gH.mk an ao)]),(v3+1),h,by omega,eJ⟩
  ·refine goS ?_;refine jL (jR y4 (by omega)) ?_;exact⟨(y4+1),y2,v3,h,by omega,eJ⟩
 ·have aa:=uS c6;rw [jF aa,kY.eq_1] at h;refine goX ?_;refine kN 2 rfl rfl ?_;refine jK ?_;cases h;exact qA
def vT(c:gB)(a1:gB):Option (Bool):=
bnd (uY c a1) fun f=>
bnd ((cnd f (bnd (uY a1 c) fun h=>
(some (!h))) ((some false)))) fun y=>
(some y)
theorem gRs(a0:gB)(a1:gB){r:Bool}(h:vT a0 a1=some r):jC Tryz.prog 238 [.d (jS a0),.d (jS a1)] [.b r]:=by
 obtain⟨c,f,y⟩:=a0;obtain⟨aa,ab,ac⟩:=a1;unfold vT at h;refine SpI Tryz.func238 fun A _=>?_;refine goL ?_;obtain⟨x1,ae,h⟩:=gP h;refine jL (gF (gGe _ _ ae)) ?_;obtain⟨b2,hb2,h⟩:=gP h;refine jT ⟨[(4,.B b2)],[bTy c f y,bTy aa ab ac],Tryz.f238.ntmps⟩ ?_ ?_
 ·refine gqA 8 hb2 (fun c3 hb2=>?_);obtain⟨x4,ag,hb2⟩:=gP hb2;refine jL (gF (gGe _ _ ag)) ?_;cases hb2;exact eJ
 exact goR h
def gBi(c:gI→(List UInt8)→(List (List UInt8))→Option (List (List UInt8)))(w:gI):List (List UInt8)→(List (List UInt8))→Option (List (List UInt8))
 | [],f=>(some f)
 | h::xs,f=>(cnd (!(wQ f h)) (
gd (f.length+[h].length≤4294967296) (
bnd (c w h (f++[h])) fun y=>
gBi c w xs y)) (
gBi c w xs f))
def gM3(c:gI→(List UInt8)→(List (List UInt8))→Option (List (List UInt8)))(w:gI)(name:List UInt8)(f:List (List UInt8)):Option (List (List UInt8)):=
lt_ (yD w name) fun h=>
gBi c w h.1.supertraits f
theorem gZn{c:gI→(List UInt8)→(List (List UInt8))→Option (List (List UInt8))}(f:∀(x0:gI) (x1:List UInt8) (x2:List (List UInt8)) (w0:Nat) {r:List (List UInt8)},c x0 x1 x2=some r→Go.Eng.Spec Tryz.prog 225 [.d (kR x0),.S x1,.sl 0 w0] [.own 9 1 w0 (jP x2)] (fun sv Lo=>∃v'0,sv=.sl 0 v'0∧Lo=[.own 9 1 v'0 (jP r)]))(w:gI)(name:List UInt8)(l0:List (List UInt8))(v0:Nat){r:List (List UInt8)}(h:gM3 c w name l0=some r):Go.Eng.Spec Tryz.prog 225 [.d (kR w),.S name,.sl 0 v0] [.own 9 1 v0 (jP l0)] (fun sv Lo=>∃v'0,sv=.sl 0 v'0∧Lo=[.own 9 1 v'0 (jP r)]):=by
 obtain⟨ah⟩:=w;unfold gM3 at h;refine kM 1 Tryz.func225 rfl (by kernel_rfl) rfl rfl fun A _=>?_;refine goL ?_;obtain⟨⟨⟨ab,y,ac,ad,ae⟩,a4,a5⟩,au,h⟩:=qB h;have sx1:=gLt (gI.mk ah) name;rw [au] at sx1;refine jL (gF (sx1)) ?_;refine noB ?_;refine wN 2 1 (fun z5=>?_);refine kS (fun(y4:Nat) (y2:List (List UInt8)) (v3:Nat)=>⟨[(2,.sl 0 v3),(3,.ptr 1 0),(7,.ptr 2 0),(10,.N y4)],[.own 9 1 v3 (jP y2),bPr ah,bTr ab y ac ad ae],Tryz.f225.ntmps⟩) (fun y4 y2 v3=>gBi c (gI.mk ah) (y.drop y4) y2=some r) (fun y4 y2 v3=>y.length - y4) 0 l0 v0 eJ h ?_;rintro y4 y2 v3 h;refine goL ?_;refine kX (fun c6=>?_) (fun c6=>?_)
 ·have aa:=uR c6;obtain⟨x7,ak,am⟩:=drop_at aa;rw [am,gBi.eq_2] at h;refine noS ?_;refine jW (jE ?_);refine goL ?_;refine jL (jM y4 (gQq ak)) ?_;refine gBn (gW2 (gF4 y2 x7)) ?_;refine kX (fun c8=>?_) (fun c8=>?_)
  ·replace h:=kD c8 h;refine uF (P:=Tryz.prog) Mix.h [(0,true),(1,true),(2,true),(3,true),(4,true),(5,true),(6,true),(7,true),(8,true),(9,true),(10,true),(11,true),(12,false),(13,false),(14,false),(15,true)] (by kernel_rfl) ?_;refine goY ?_;refine jI rfl (jM y4 (gQq ak)) ?_;refine goY ?_;refine jI rfl (jM y4 (gQq ak)) ?_;refine goY ?_;refine gX6 (T:=57) (x7:List UInt8) ?_;obtain⟨g9,h⟩:=mW h;refine gV7 (T:=57) g9 ?_;obtain⟨an,ao,h⟩:=gP h;refine gUg [0] (f (gI.mk ah) x7 (y2++[x7]) (v3+1) ao) ?_;rintro _ _ ⟨al,rfl,rfl⟩;refine gSt (sv:=.sl 0 al) (L':=[.own 9 1 al (jP an),bPr ah,bTr ab y ac ad ae,.dead 1]) (by repeat(first | exact vV.nil | (apply vV.keep;focus ((repeat constructor);done)) | (apply vV.dep;focus kernel_rfl))) ?_;refine goY ?_;refine kQ ?_;refine goL ?_;refine jL (jR y4 (by omega)) ?_;exact⟨(y4+1),an,al,h,by omega,eJ⟩
  ·replace h:=kE c8 h;refine goS ?_;refine jL (jR y4 (by omega)) ?_;exact⟨(y4+1),y2,v3,h,by omega,eJ⟩
 ·have aa:=uS c6;rw [jF aa,gBi.eq_1] at h;refine goX ?_;refine jK ?_;obtain rfl:=Option.some.inj h;exact zB [.sl 0 v3] [.own 9 1 v3 (jP y2)] ⟨v3,rfl,rfl⟩
def gM4:Nat→gI→(List UInt8)→(List (List UInt8))→Option (List (List UInt8))
 | 0,_,_,_=>none
 | n+1,c,f,h=>gM3 (gM4 n) c f h
theorem gZo:∀(n:Nat) (c:gI) (f:List UInt8) (y:List (List UInt8)) (w0:Nat) {r:List (List UInt8)},gM4 n c f y=some r→Go.Eng.Spec Tryz.prog 225 [.d (kR c),.S f,.sl 0 w0] [.own 9 1 w0 (jP y)] (fun sv Lo=>∃v'0,sv=.sl 0 v'0∧Lo=[.own 9 1 v'0 (jP r)]):=by
 intro n
 induction n with
 | zero=>intro c f y w0 r h;cases h
 | succ n ih=>intro c f y w0 r h;exact gZn ih c f y w0 h
def gDb(c:gI)(a1:gH):Option (kG × Bool):=
bnd ((cnd (!(gHw a1.package 0 (IntKind.i64.wrap ((c.packages.length:Int) - 1)))) ((some true)) (bnd (at? c.packages a1.package) fun f=>
(some (!(gHw a1.at_ 0 (IntKind.i64.wrap ((f.instances.length:Int) - 1)))))))) fun h=>
(cnd h (
(some ((kG.mk [] [] (gB.mk 0 [] []) [] false false (gB.mk 0 [] []) []),false))) (
bnd (at? c.packages a1.package) fun y=>
bnd (at? y.instances a1.at_) fun x6=>
(some (x6,true))))
theorem gZp(a0:gI)(a1:gH){r:kG × Bool}(h:gDb a0 a1=some r):jC Tryz.prog 160 [.d (kR a0),.d (qG a1)] [gCa r.1,.b r.2]:=by
 obtain⟨c⟩:=a0;obtain⟨f,y⟩:=a1;unfold gDb at h;refine SpI Tryz.func160 fun A _=>?_;refine gH2 ?_;obtain⟨b1,hb1,h⟩:=gP h;refine uJ (P:=Tryz.prog) Mix.h ⟨[(2,.ptr 0 0),(3,.ptr 1 0),(4,.ptr 2 0),(28,.B b1)],[bPr c,.box [.I f,.I y],.box [.S [],.nilsl,.I 0,.S [],.nilsl,.nilsl,.B false,.B false,.I 0,.S [],.nilsl,.nilsl]],Tryz.f160.ntmps⟩ (by kernel_rfl) ?_ ?_
 ·refine goL ?_;refine gE7 (pR) ?_;refine gE7 (gF (gP1 f 0 (IntKind.i64.wrap ((c.length:Int) - 1)))) ?_;refine goL ?_;refine yQ 14 (fun c2=>?_) (fun c2=>?_)
  ·replace hb1:=kD c2 hb1;refine goL ?_;cases hb1;exact eJ
  ·replace hb1:=kE c2 hb1;refine goL ?_;obtain⟨x3,aa,hb1⟩:=gP hb1;obtain⟨ad,aa⟩:=gEd aa;obtain⟨aq,ar,au,av,ae,aw⟩:=x3;refine gDf (qP ad (gBw aa)) ?_;refine goL ?_;refine gDf (pR) ?_;refine gDf (gF (gP1 y 0 (IntKind.i64.wrap ((ae.length:Int) - 1)))) ?_;refine goL ?_;cases hb1;exact eJ
 refine goC h ?_ ?_<;>intro c4 h
 ·refine goL ?_;refine gAq (jU TBd.h TZ.h rfl (by repeat constructor)) ?_;exact goR h
 ·refine noS ?_;refine jO (P:=Tryz.prog) Mix.h [(0,true),(1,true),(2,true),(3,true),(4,true),(5,true),(6,true),(7,true),(8,true),(9,true),(10,true),(11,false),(12,true)] (by kernel_rfl) ?_;refine goY ?_;obtain⟨x5,ab,h⟩:=gP h;obtain⟨ag,ab⟩:=gEd ab;obtain⟨ax,ay,a3,a4,a5,a6⟩:=x5;refine jI rfl (qP ag (gBw ab)) ?_;refine goY ?_;obtain⟨x6,ac,h⟩:=gP h;obtain⟨ah,ac⟩:=gEd ac;obtain⟨a7,a8,⟨ai,aj,ak⟩,a9,ba,bb,⟨al,am,an⟩,bc⟩:=x6;refine jI rfl (qP ah (gHn ac)) ?_;refine goY ?_;refine kQ ?_;exact goR h
end Go.Proofs.YtegahmhnmjnhhaaGreat
