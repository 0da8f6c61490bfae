import Derived.Test.YtfpdlnkkcnmebaaGreatSu
set_option maxHeartbeats 4000000
set_option linter.unusedVariables false
set_option linter.unusedSimpArgs false
set_option linter.unusedSectionVars false
namespace Go.Proofs.YtfpdlnkkcnmebaaGreat
open Go Go.Eng
attribute [local irreducible] V VO VQ VY Quiet QR jF mJ Rng qI qJ qB
def wR(c:gM→LB→LB→Int→Option (List Int × Bool))(q:gM)(a2:LB)(y:Int):LS→Nat→Option (List Int × Bool)
 | [],f=>(some ([],false))
 | x7::xs,f=>bnd (c q x7 a2 (IntKind.i64.wrap (y - 1))) fun h=>
(cnd h.2 (
gd ([(f:Int)].length+h.1.length≤4294967296) (
(some (([(f:Int)]++h.1),true)))) (
wR c q a2 y xs (f+1)))
def gEo(c:gM→LB→LB→Int→Option (List Int × Bool))(f:gM)(a1:LB)(a2:LB)(h:Int):Option (List Int × Bool):=
(cnd (a1==a2) (
(some ([],true))) (
(cnd (h==0) (
(some ([],false))) (
lt_ (zA f a1) fun q=>
wR c f a2 h q.1.supertraits 0))))
theorem gNb{c:gM→LB→LB→Int→Option (List Int × Bool)}(f:∀(x0:gM)(x1:LB)(x2:LB)(x3:Int){r:List Int × Bool},c x0 x1 x2 x3=some r→jF Tryz.prog 115 [.d (kW x0),.S x1,.S x2,.I x3] [.sl 1 (gId r.1),.b r.2])(a0:gM)(a1:LB)(a2:LB)(a3:Int){r:List Int × Bool}(h:gEo c a0 a1 a2 a3=some r):jF Tryz.prog 115 [.d (kW a0),.S a1,.S a2,.I a3] [.sl 1 (gId r.1),.b r.2]:=by
 obtain⟨aa⟩:=a0;unfold gEo at h;refine SpI Tryz.func115 fun A _=>?_;refine goC h ?_ ?_<;>intro c1 h
 ·refine goL ?_;refine gB9 ?_;refine goL ?_;refine mI 1 rfl rfl ?_;refine jG ?_;cases h;exact uA
 ·refine goS ?_;refine mQ (fun c2=>?_) (fun c2=>?_)
  ·replace h:=kT c2 h;exact goR h
  ·replace h:=kU c2 h;refine goS ?_;obtain⟨⟨⟨ac,q,ad,ae,ag⟩,ax,ay⟩,al,h⟩:=qW h;have sx3:=gK8 (gM.mk aa) a1;rw [al] at sx3;refine jK (gG (sx3)) ?_;refine noB ?_;refine gCm 31 (fun z5=>?_);refine qD (fun(y4:Nat)=>⟨[(2,.S a2),(3,.I a3),(4,.ptr 0 0),(31,.L 1 (gP q)),(32,.I (q.length:Int)),(33,.N y4)],[bPr aa,bTr ac q ad ae ag],Tryz.f115.ntmps⟩) (fun y4=>wR c (gM.mk aa) a2 a3 (q.drop y4) y4=some r) (fun y4=>q.length - y4) 0 eJ h ?_;rintro y4 h;refine goL ?_;refine kH (mQ (fun c6=>?_) (fun c6=>?_))
   ·have y:=vF c6;obtain⟨x7,an,ah⟩:=drop_at y;rw [ah,wR.eq_2] at h;refine noS ?_;refine kH (jE ?_);refine goL ?_;refine jK (jM y4 (gNp an)) ?_;refine qM (pV) ?_;obtain⟨⟨a4,a5⟩,ao,h⟩:=gJ h;refine jK (gG (f _ _ _ _ ao)) ?_;refine mQ (fun c9=>?_) (fun c9=>?_)
    ·replace h:=kT c9 h;refine goL ?_;refine yF (y4:Int) ?_;refine goL ?_;obtain⟨aq,h⟩:=pO h;refine gDn aq ?_;refine goL ?_;refine mI 2 rfl rfl ?_;refine jG ?_;cases h;exact uA
    ·replace h:=kU c9 h;refine goS ?_;refine jK (kD y4 (by omega)) ?_;exact⟨(y4+1),h,by omega,eJ⟩
   ·have y:=vG c6;rw [jH y,wR.eq_1] at h;refine goX ?_;refine jG ?_;cases h;exact uA
def gEp:Nat→gM→LB→LB→Int→Option (List Int × Bool)
 | 0,_,_,_,_=>none
 | n+1,c,f,h,q=>gEo (gEp n) c f h q
theorem gNc:∀(n:Nat)(c:gM)(f:LB)(q:LB)(y:Int){r:List Int × Bool},gEp n c f q y=some r→jF Tryz.prog 115 [.d (kW c),.S f,.S q,.I y] [.sl 1 (gId r.1),.b r.2]:=by
 intro n
 induction n with
 | zero=>intro c f q y r h;cases h
 | succ n ih=>intro c f q y r h;exact gNb ih c f q y h
def vN(f:gM)(a1:LB)(a2:LB):Option (List Int × Bool):=
bnd (gEp 5000 f a1 a2 8) fun c=>
(some (c.1,c.2))
theorem gH9(c:gM)(a1:LB)(a2:LB){r:List Int × Bool}(h:vN c a1 a2=some r):jF Tryz.prog 74 [.d (kW c),.S a1,.S a2] [.sl 1 (gId r.1),.b r.2]:=by
 obtain⟨q⟩:=c;unfold vN at h;refine SpI Tryz.func74 fun A _=>?_;refine goL ?_;obtain⟨⟨y,aa⟩,f,h⟩:=gJ h;refine qM (gG (gNc _ _ _ _ _ f)) ?_;exact goR h
def gD5(c:gI→Option (gI)):List gI→Nat→(List gI)→Option (List gI)
 | [],f,h=>(some h)
 | q::xs,f,h=>bnd (c q) fun y=>
gd (f < h.length) (
gD5 c xs (f+1) (h.set f y))
def gNd(f:(List gI)→Option (List gI))(c:gI→Option (gI))(h:List gI):Option (List gI):=
gd (h.length≤4294967296) (
gD5 c h 0 (List.replicate h.length (gI.mk 0 0 (gF.mk 0 0) [])))
def gNe(c:(List gI)→Option (List gI)):Prop:=∀(f:List gI){r:List gI},c f=some r→mJ Tryz.prog 67 [.L 5 (jP f)] [51] [.sl 5 (jP r)]
def gMb(c:gI→Option (gI)):Prop:=∀(f:gI){r:gI},c f=some r→mJ Tryz.prog 40 [.d (mF f)] [51] [mF r]
theorem gYv{f}{c}(ad:gNe f)(q:gMb c)(a0:List gI){r:List gI}(h:gNd f c a0=some r):mJ Tryz.prog 67 [.L 5 (jP a0)] [51] [.sl 5 (jP r)]:=by
 unfold gNd at h;refine qV Tryz.func67 rfl (by kernel_rfl) rfl (by simp) fun A _=>?_;refine goL ?_;obtain⟨g1,h⟩:=pO h;refine hIp (gI.mk 0 0 (gF.mk 0 0) []) g1 ?_;refine goL ?_;refine noB ?_;refine gCm 9 (fun z5=>?_);refine kV (fun(y4:Nat)(y2:List gI)(v3:Nat)=>⟨[(3,.sl 0 v3),(9,.L 5 (jP a0)),(10,.I (a0.length:Int)),(11,.N y4)],[.own 51 5 v3 (jP y2)],Tryz.f67.ntmps⟩) (fun y4 y2 v3=>gD5 c (a0.drop y4) y4 y2=some r) (fun y4 y2 v3=>a0.length - y4) 0 (List.replicate a0.length (gI.mk 0 0 (gF.mk 0 0) [])) 0 eJ h ?_;rintro y4 y2 v3 h;refine goL ?_;refine kH (mQ (fun c6=>?_) (fun c6=>?_))
 ·have y:=vF c6;obtain⟨x7,au,an⟩:=drop_at y;rw [an,gD5.eq_2] at h;obtain⟨ao,ap,⟨ae,ag⟩,aq⟩:=x7;refine noS ?_;refine kH (jE ?_);refine goL ?_;refine jK (jM y4 (gD9 au)) ?_;obtain⟨⟨ah,ai,⟨aa,ab⟩,aj⟩,av,h⟩:=gJ h;refine gIe (q (gI.mk ao ap (gF.mk ae ag) aq) av) ?_;obtain⟨g9,h⟩:=pO h;refine yS (hIq y4 g9) ?_;refine hIr (gI.mk ah ai (gF.mk aa ab) aj) g9 ?_;refine goL ?_;refine jK (kD y4 (by omega)) ?_;exact⟨(y4+1),(y2.set y4 (gI.mk ah ai (gF.mk aa ab) aj)),v3,h,by omega,eJ⟩
 ·have y:=vG c6;rw [jH y,gD5.eq_1] at h;refine goX ?_;refine jG ?_;obtain rfl:=Option.some.inj h;exact gOs
def gPr(c:(List gI)→Option (List gI))(f:gI→Option (gI))(h:gI):Option (gI):=
bnd (c h.args) fun q=>
(some (gI.mk h.kind h.n h.at_ q))
theorem gZ8{c}{f}(q:gNe c)(y:gMb f)(a0:gI){r:gI}(h:gPr c f a0=some r):mJ Tryz.prog 40 [.d (mF a0)] [51] [mF r]:=by
 obtain⟨ag,ah,⟨ab,ac⟩,aa⟩:=a0;unfold gPr at h;refine qV Tryz.func40 rfl (by kernel_rfl) rfl (by simp) fun A _=>?_;refine goL ?_;obtain⟨x1,ae,h⟩:=gJ h;refine gIe (q aa ae) ?_;refine goL ?_;refine jG ?_;obtain rfl:=Option.some.inj h;exact gOs
mutual
def gNf:Nat→(List gI)→Option (List gI)
 | 0,_=>none
 | n+1,c=>gNd (gNf n) (gJ7 n) c
def gJ7:Nat→gI→Option (gI)
 | 0,_=>none
 | n+1,c=>gPr (gNf n) (gJ7 n) c
end
theorem gV2:∀(n:Nat),gNe (gNf n)∧gMb (gJ7 n):=by
 intro n
 induction n with
 | zero=>exact⟨(by intro c r h;cases h),(by intro c r h;cases h)⟩
 | succ n ih=>
   obtain⟨ih0,ih1⟩:=ih;refine⟨(fun c r h=>gYv ih0 ih1 c h),(fun c r h=>gZ8 ih0 ih1 c h)⟩
theorem gZ9:∀(n:Nat),gMb (gJ7 n):=fun n=>(gV2 n).2
def gCw:List Int→Int→Int→Int→Int→(List gI)→Option (gI)
 | [],c,f,h,q,y=>(some (gI.mk c f (gF.mk h q) y))
 | aa::xs,c,f,h,q,y=>gCw xs 3 aa 0 0 [(gI.mk c f (gF.mk h q) y)]
def gIt(f:gI)(a1:List Int):Option (gI):=
bnd (gJ7 5000 f) fun c=>
gCw a1 c.kind c.n c.at_.package c.at_.at_ c.args
theorem gPs(a0:gI)(a1:List Int){r:gI}(h:gIt a0 a1=some r):mJ Tryz.prog 17 [.d (mF a0),.L 1 (gId a1)] [51] [mF r]:=by
 obtain⟨ac,ad,⟨f,q⟩,ae⟩:=a0;unfold gIt at h;refine qV Tryz.func17 rfl (by kernel_rfl) rfl (by simp) fun A _=>?_;refine goL ?_;obtain⟨⟨an,ao,⟨y,aa⟩,ap⟩,av,h⟩:=gJ h;refine gIe (gZ9 5000 (gI.mk ac ad (gF.mk f q) ae) av) ?_;refine goL ?_;refine noB ?_;refine gCm 10 (fun z9=>?_);refine gXu (fun(y8:Nat)(y2:Int)(y3:Int)(y4:Int)(y5:Int)(y6:List gI)(v7:Nat)=>⟨[(4,.ptr 1 0),(5,.ptr 3 0),(10,.L 1 (gId a1)),(11,.I (a1.length:Int)),(12,.N y8)],[.box [.I ac,.I ad,.I f,.I q,.L 5 (jP ae)],.box [.I 0,.I 0,.I 0,.I 0,.nilsl],.own 51 5 v7 (jP y6),.box [.I y2,.I y3,.I y4,.I y5,.sl 2 v7]],Tryz.f17.ntmps⟩) (fun y8 y2 y3 y4 y5 y6 v7=>gCw (a1.drop y8) y2 y3 y4 y5 y6=some r) (fun y8 y2 y3 y4 y5 y6 v7=>a1.length - y8) 0 an ao y aa ap 0 eJ h ?_;rintro y8 y2 y3 y4 y5 y6 v7 h;refine goL ?_;refine kH (mQ (fun al=>?_) (fun al=>?_))
 ·have c:=vF al;obtain⟨aw,ar,am⟩:=drop_at c;rw [am,gCw.eq_2] at h;refine noS ?_;refine kH (jE ?_);refine goL ?_;refine jK (jM y8 (hTq ar)) ?_;refine yF (gI.mk y2 y3 (gF.mk y4 y5) y6) ?_;refine gAc (jU TBd.h TZ.h rfl (by repeat constructor)) ?_;refine jK (kD y8 (by omega)) ?_;exact⟨(y8+1),3,aw,0,0,[(gI.mk y2 y3 (gF.mk y4 y5) y6)],0,h,by omega,mK 0 [0,1,4,3]⟩
 ·have c:=vG al;rw [jH c,gCw.eq_1] at h;refine goX ?_;refine jG ?_;obtain rfl:=Option.some.inj h;exact gOs
def gFj(c:gT)(a1:gT):Bool:=
lt_ ((cnd (c.trait==a1.trait) ((teq c.type_ a1.type_)) (false))) fun f=>
f
theorem gN3(a0:gT)(a1:gT):jF Tryz.prog 53 [.d (wU a0),.d (wU a1)] [.b (gFj a0 a1)]:=by
 obtain⟨r,h⟩:∃r,gFj a0 a1=r:=⟨_,rfl⟩
 rw [h];obtain⟨ac,⟨c,f,q⟩⟩:=a0;obtain⟨ad,⟨y,aa,ab⟩⟩:=a1;unfold gFj at h;refine SpI Tryz.func53 fun A _=>?_;refine goL ?_;obtain⟨b1,hb1,h⟩:=qW h;refine kC ⟨[(4,.B b1)],[bBd ac c f q,bBd ad y aa ab],Tryz.f53.ntmps⟩ ?_ ?_
 ·refine gqA 10 hb1 (fun c2 hb1=>?_);refine jK (gG (gOb (gB.mk c f q) (gB.mk y aa ab))) ?_;cases hb1;exact eJ
 refine goL ?_;refine jG ?_;subst h;exact uA
def gMc(c:jI)(a1:gT):Bool:=
(gFj c.goal a1)
theorem hEs(a0:jI)(a1:gT):jF Tryz.prog 107 [.d (gC8 a0),.dp (wU a1)] [.b (gMc a0 a1)]:=by
 obtain⟨r,h⟩:∃r,gMc a0 a1=r:=⟨_,rfl⟩
 rw [h];obtain⟨⟨y,⟨c,f,q⟩⟩,ag,ah⟩:=a0;obtain⟨ad,⟨aa,ab,ac⟩⟩:=a1;unfold gMc at h;refine SpI Tryz.func107 fun A _=>?_;refine goL ?_;refine jK (gG (gN3 (gT.mk y (gB.mk c f q)) (gT.mk ad (gB.mk aa ab ac)))) ?_;refine jG ?_;subst h;exact uA
def gBp(a1:jI→Option Bool):List jI→Nat→Option (Int)
 | [],c=>(some (-1))
 | f::xs,c=>bnd (a1 f) fun h=>
(cnd h (
(some (c:Int))) (
gBp a1 xs (c+1)))
def gJ8(c:List jI)(a1:jI→Option Bool):Option (Int):=
gBp a1 c 0
theorem gUe(q:List jI){a1f:Nat}{a1c:List SV}{a1:jI→Option Bool}(a1_lt:∀n,SV.lts n a1c=true)(ha1:∀(x0:jI)(r:Bool),a1 x0=some r→jF Tryz.prog a1f ([.d (gC8 x0)]++a1c) [.b r]){r:Int}(h:gJ8 q a1=some r):jF Tryz.prog 106 [.L 6 (jW q),.fn a1f a1c] [.i .i64 r]:=by
 unfold gJ8 at h;refine SpI Tryz.func106 fun A _=>?_;refine goL ?_;refine noB ?_;refine gCm 0 (fun z2=>?_);refine qD (fun(f:Nat)=>⟨[(0,.L 6 (jW q)),(1,.fn a1f a1c),(7,.I (q.length:Int)),(8,.N f)],[],Tryz.f106.ntmps⟩) (fun f=>gBp a1 (q.drop f) f=some r) (fun f=>q.length - f) 0 ⟨rfl,⟨⟨rfl,rfl⟩,⟨rfl,a1_lt _⟩,⟨rfl,rfl⟩,⟨rfl,rfl⟩,trivial⟩,⟨[],rfl⟩,rfl⟩ h ?_;rintro f h;refine goL ?_;refine kH (mQ (fun c3=>?_) (fun c3=>?_))
 ·have c:=vF c3;obtain⟨x4,ag,ac⟩:=drop_at c;rw [ac,gBp.eq_2] at h;obtain⟨⟨ad,⟨y,aa,ab⟩⟩,ak,al⟩:=x4;refine noS ?_;refine kH (jE ?_);refine goL ?_;refine jK (jM f (gG0 ag)) ?_;obtain⟨x5,ah,h⟩:=gJ h;refine jK (gOt (ha1 _ _ ah) (a1_lt 0)) ?_;refine mQ (fun c6=>?_) (fun c6=>?_)
  ·replace h:=kT c6 h;exact goR h
  ·replace h:=kU c6 h;refine goS ?_;refine jK (kD f (by omega)) ?_;exact⟨(f+1),h,by omega,⟨rfl,⟨⟨rfl,rfl⟩,⟨rfl,a1_lt _⟩,⟨rfl,rfl⟩,⟨rfl,rfl⟩,trivial⟩,⟨_,rfl⟩,rfl⟩⟩
 ·have c:=vG c3;rw [jH c,gBp.eq_1] at h;refine goX ?_;refine jG ?_;cases h;exact uA
def gOp(c:List jI)(a1:gT):Option (Int):=
bnd (gJ8 c (fun f=>some (gMc f a1))) fun h=>
(some h)
theorem hEt(a0:List jI)(a1:gT){r:Int}(h:gOp a0 a1=some r):jF Tryz.prog 72 [.L 6 (jW a0),.d (wU a1)] [.i .i64 r]:=by
 obtain⟨y,⟨c,f,q⟩⟩:=a1;unfold gOp at h;refine SpI Tryz.func72 fun A _=>?_;refine goL ?_;refine qM (hA8) ?_;obtain⟨x1,ab,h⟩:=gJ h;refine yS (hSe (gUe a0 (a1:=(fun z0=>some (gMc z0 (gT.mk y (gB.mk c f q))))) (fun _=>rfl) (fun z0 r hr=>by cases hr;exact hEs z0 (gT.mk y (gB.mk c f q))) ab)) ?_;exact goR h
def qG(c:wO→gT→Int→Option (gI × Int))(q:wO)(a2:Int)(ab:gF × Int)(y:List gV × Bool):List gT→(List gI)→Option (gI × Int)
 | [],f=>(some ((gI.mk 1 0 ab.1 f),0))
 | aa::xs,f=>gd (bok y.1∧tok aa.type_) (lt_ (apT y.1 aa.type_) fun ac=>
bnd (c q (gT.mk aa.trait ac) (IntKind.i64.wrap (a2+1))) fun h=>
(cnd (h.2 != 0) (
(some ((gI.mk 0 0 (gF.mk 0 0) []),h.2))) (
gd (f.length+[h.1].length≤4294967296) (
qG c q a2 ab y xs (f++[h.1])))))
def uX(c:wO→gT→Int→Option (gI × Int))(q:wO)(a2:Int)(ab:gF × Int)(y:List gV × Bool):List gT→(List gI)→Option (gI × Int)
 | [],f=>(some ((gI.mk 1 0 ab.1 f),0))
 | aa::xs,f=>gd (bok y.1∧tok aa.type_) (lt_ (apT y.1 aa.type_) fun ac=>
bnd (c q (gT.mk aa.trait ac) (IntKind.i64.wrap (a2+1))) fun h=>
(cnd (h.2 != 0) (
(some ((gI.mk 0 0 (gF.mk 0 0) []),h.2))) (
gd (f.length+[h.1].length≤4294967296) (
uX c q a2 ab y xs (f++[h.1])))))
def gBq(c:wO→gT→Int→Option (gI × Int))(q:wO)(a1:gT)(a2:Int):Option (gI × Int):=
bnd (gOp q.assumed a1) fun x1=>
(cnd (decide (x1≥0)) (
bnd (at? q.assumed x1) fun x3=>
bnd (gIt (gI.mk 2 x3.from_ (gF.mk 0 0) []) x3.steps) fun x4=>
(some (x4,0))) (
(cnd (decide (a2≥12)) (
(some ((gI.mk 0 0 (gF.mk 0 0) []),3))) (
lt_ (zA q.w a1.trait) fun x6=>
lt_ ((cnd x6.2.2 (x6.1.auto) (false))) fun b7=>
(cnd b7 (
none) (
bnd ((cnd (a1.type_.kind==1) (
(some (a1.type_.kind==1))) (
(some (a1.type_.kind==3))))) fun ac=>
(cnd ac (
(some ((gI.mk 0 0 (gF.mk 0 0) []),1))) (
(cnd (a1.type_.kind==4) (
bnd (vN q.w a1.type_.name a1.trait) fun y=>
(cnd y.2 (
bnd (gIt (gI.mk 4 0 (gF.mk 0 0) []) y.1) fun ad=>
(some (ad,0))) (
bnd (gFs q.w a1) fun f=>
(cnd (f.2 != 0) (
(some ((gI.mk 0 0 (gF.mk 0 0) []),f.2))) (
bnd (gC9 q.w f.1) fun aa=>
bnd (gC1 aa.1.head a1.type_) fun ae=>
qG c q a2 f ae aa.1.where_ []))))) (
bnd (gFs q.w a1) fun h=>
(cnd (h.2 != 0) (
(some ((gI.mk 0 0 (gF.mk 0 0) []),h.2))) (
bnd (gC9 q.w h.1) fun ab=>
bnd (gC1 ab.1.head a1.type_) fun ag=>
uX c q a2 h ag ab.1.where_ []))))))))))))
theorem gPt{f:wO→gT→Int→Option (gI × Int)}(c:∀(x0:wO)(x1:gT)(x2:Int){r:gI × Int},f x0 x1 x2=some r→Go.Eng.Spec Tryz.prog 44 [.ptr 0 0,.d (wU x1),.I x2] [.box [.L 6 (kQ x0.w.packages),.L 6 (jW x0.assumed)]] (fun sv Lo=>sv=.tup [.d (mF r.1),.I r.2]∧Lo=[.box [.L 6 (kQ x0.w.packages),.L 6 (jW x0.assumed)]]))(q:wO)(a1:gT)(a2:Int){r:gI × Int}(h:gBq f q a1 a2=some r):Go.Eng.Spec Tryz.prog 44 [.ptr 0 0,.d (wU a1),.I a2] [.box [.L 6 (kQ q.w.packages),.L 6 (jW q.assumed)]] (fun sv Lo=>sv=.tup [.d (mF r.1),.I r.2]∧Lo=[.box [.L 6 (kQ q.w.packages),.L 6 (jW q.assumed)]]):=by
 obtain⟨⟨y⟩,au⟩:=q;obtain⟨a5,⟨ar,av,aw⟩⟩:=a1;unfold gBq at h;refine kS 1 Tryz.func44 rfl (by kernel_rfl) rfl rfl fun A _=>?_;refine goL ?_;obtain⟨x1,dx,h⟩:=gJ h;refine gCy (gG (hEt _ _ dx)) ?_;refine goC h ?_ ?_<;>intro c2 h
 ·refine goL ?_;obtain⟨x3,ct,h⟩:=gJ h;obtain⟨dc,ct⟩:=gAz ct;obtain⟨⟨dv,⟨c7,c8,da⟩⟩,dd,de⟩:=x3;refine jK (qY dc (gG0 ct)) ?_;refine gAc (jU TBd.h TZ.h rfl (by repeat constructor)) ?_;obtain⟨⟨df,dg,⟨cr,cs⟩,dh⟩,dy,h⟩:=gJ h;refine gIe (gPs (gI.mk 2 dd (gF.mk 0 0) []) de dy) ?_;refine goL ?_;refine mI 4 rfl rfl ?_;refine jG ?_;obtain rfl:=Option.some.inj h;exact gCo [.d (.st [.i .i64 df,.i .i64 dg,.st [.i .i64 cr,.i .i64 cs],.sl 5 (jP dh)]),.I 0] [.box [.L 6 (kQ y),.L 6 (jW au)]] ⟨rfl,rfl⟩
 ·refine goS ?_;refine mQ (fun c5=>?_) (fun c5=>?_)
  ·replace h:=kT c5 h;refine goL ?_;refine gAc (jU TBd.h TZ.h rfl (by repeat constructor)) ?_;refine jG ?_;obtain rfl:=Option.some.inj h;exact gBa [.d (.st [.i .i64 0,.i .i64 0,.st [.i .i64 0,.i .i64 0],.sl 5 []]),.I 3] _ ⟨rfl,rfl⟩
  ·replace h:=kU c5 h;refine noS ?_;refine gHi ?_;refine jL (P:=Tryz.prog) Mix.h [(0,true),(1,true),(2,true),(3,true),(4,true),(5,true),(6,true),(7,true),(8,true),(9,true),(10,true),(11,false),(12,false),(13,true),(14,true)] (by kernel_rfl) ?_;refine goY ?_;obtain⟨⟨⟨ax,ay,a0,a3,a4⟩,ec,ed⟩,d0,h⟩:=qW h;have sx6:=gK8 (gM.mk y) a5;rw [d0] at sx6;refine jO rfl (gG (sx6)) ?_;refine goY ?_;refine kX ?_;refine goL ?_;obtain⟨b7,hb7,h⟩:=qW h;refine kC ⟨[(0,.ptr 0 0),(2,.I a2),(4,.ptr 1 0),(6,.ptr 2 0),(66,.B b7)],[.box [.L 6 (kQ y),.L 6 (jW au)],bBd a5 ar av aw,.box [.I 0,.I 0,.I 0,.I 0,.nilsl],bTr ax ay a0 a3 a4],Tryz.f44.ntmps⟩ ?_ ?_
   ·exact gqZ 63 hb7
   refine goC h ?_ ?_<;>intro c9 h
   ·cases h
   ·refine goS ?_;refine jE ?_;refine goL ?_;obtain⟨d1,hb10,h⟩:=gJ h;refine gAn ⟨[(0,.ptr 0 0),(2,.I a2),(4,.ptr 1 0),(6,.ptr 2 0),(80,.I ar),(81,.B d1)],[.box [.L 6 (kQ y),.L 6 (jW au)],bBd a5 ar av aw,.box [.I 0,.I 0,.I 0,.I 0,.nilsl],bTr ax ay a0 a3 a4],Tryz.f44.ntmps⟩ ?_ ?_
    ·refine mQ (fun cu=>?_) (fun cu=>?_)
     ·replace hb10:=kT cu hb10;refine yE ?_;cases hb10;exact eJ
     ·replace hb10:=kU cu hb10;refine goL ?_;cases hb10;exact eJ
    refine goC h ?_ ?_<;>intro eg h
    ·refine goL ?_;refine gAc (jU TBd.h TZ.h rfl (by repeat constructor)) ?_;refine jG ?_;obtain rfl:=Option.some.inj h;exact gBa [.d (.st [.i .i64 0,.i .i64 0,.st [.i .i64 0,.i .i64 0],.sl 5 []]),.I 1] _ ⟨rfl,rfl⟩
    ·refine goC h ?_ ?_<;>intro eh h
     ·refine goL ?_;obtain⟨⟨cv,d2⟩,di,h⟩:=gJ h;refine gCy (gG (gH9 _ _ _ di)) ?_;refine goC h ?_ ?_<;>intro ei h
      ·refine goL ?_;refine gAc (jU TBd.h TZ.h rfl (by repeat constructor)) ?_;obtain⟨⟨cw,cx,⟨cl,cm⟩,cy⟩,dj,h⟩:=gJ h;refine gIe (gPs (gI.mk 4 0 (gF.mk 0 0) []) cv dj) ?_;refine goL ?_;refine mI 4 rfl rfl ?_;refine jG ?_;obtain rfl:=Option.some.inj h;exact gCo [.d (.st [.i .i64 cw,.i .i64 cx,.st [.i .i64 cl,.i .i64 cm],.sl 5 (jP cy)]),.I 0] [.box [.L 6 (kQ y),.L 6 (jW au)]] ⟨rfl,rfl⟩
      ·refine noS ?_;refine jL (P:=Tryz.prog) Mix.h [(0,true),(1,true),(2,true),(3,true),(4,true),(5,true),(6,true),(7,true),(8,true),(9,false),(10,false),(11,true)] (by kernel_rfl) ?_;refine goY ?_;obtain⟨⟨⟨ah,ai⟩,cn⟩,dk,h⟩:=gJ h;refine jO rfl (gG (gQv _ _ dk)) ?_;refine goY ?_;refine kX ?_;refine goC h ?_ ?_<;>intro ej h
       ·refine goL ?_;refine gAc (jU TBd.h TZ.h rfl (by repeat constructor)) ?_;refine jG ?_;obtain rfl:=Option.some.inj h;exact gBa [.d (.st [.i .i64 0,.i .i64 0,.st [.i .i64 0,.i .i64 0],.sl 5 []]),.I cn] _ ⟨rfl,rfl⟩
       ·refine noS ?_;refine jL (P:=Tryz.prog) Mix.h [(0,true),(1,true),(2,true),(3,true),(4,true),(5,true),(6,true),(7,true),(8,true),(9,false),(10,false),(11,true)] (by kernel_rfl) ?_;refine goY ?_;obtain⟨⟨⟨bv,bw,⟨a6,a7,a8⟩,ae,bx,bz,⟨a9,ba,bb⟩,b0⟩,d3⟩,dl,h⟩:=gJ h;refine jO rfl (gG (gKo _ _ dl)) ?_;refine goY ?_;refine kX ?_;refine goL ?_;obtain⟨⟨bm,cz⟩,dm,h⟩:=gJ h;refine jK (gG (gMz _ _ dm)) ?_;refine gAc (jU TBd.h TZ.h rfl (by repeat constructor)) ?_;refine noB ?_;refine uO 51 5 6 4 rfl rfl (by repeat constructor) (by repeat constructor) (by repeat constructor) (by repeat constructor) ?_;show V _ _ _ _ _;refine gCm 137 (fun ek=>?_);refine kV (fun(bk:Nat)(b1:List gI)(b2:Nat)=>⟨[(0,.ptr 0 0),(2,.I a2),(6,.ptr 2 0),(20,.L 4 (jY bm)),(22,.ptr 6 0),(137,.L 4 (jQ ae)),(138,.I (ae.length:Int)),(139,.N bk)],[.box [.L 6 (kQ y),.L 6 (jW au)],bBd a5 ar av aw,.box [.I 0,.I 0,.I 0,.I 0,.nilsl],bTr ax ay a0 a3 a4,.box [.I ah,.I ai],bIn bv bw a6 a7 a8 ae bx bz a9 ba bb b0,.box [.I 1,.I 0,.I ah,.I ai,.sl 7 b2],.arr 51 5 b2 (jP b1)],Tryz.f44.ntmps⟩) (fun bk b1 b2=>qG f (wO.mk (gM.mk y) au) a2 ((gF.mk ah ai),cn) (bm,cz) (ae.drop bk) b1=some r) (fun bk b1 b2=>ae.length - bk) 0 [] 0 eJ h ?_;rintro bk b1 b2 h;refine goL ?_;refine kH (mQ (fun c0=>?_) (fun c0=>?_))
        ·have bn:=vF c0;obtain⟨d4,dn,c1⟩:=drop_at bn;rw [c1,qG.eq_2] at h;obtain⟨bo,⟨b3,b4,b5⟩⟩:=d4;refine noS ?_;refine kH (jE ?_);refine goL ?_;refine qM (jM bk (gDi dn)) ?_;refine gHi ?_;obtain⟨d5,h⟩:=pO h;obtain⟨⟨ch,ci,bp⟩,dp,h⟩:=qW h;have sx28:=gTy bm (gB.mk b3 b4 b5) d5;rw [dp] at sx28;obtain⟨⟨⟨aj,ak,⟨aa,ab⟩,al⟩,bc⟩,co,h⟩:=gJ h;refine zK (P:=Tryz.prog) Mix.h (.q 0 (.q 1 (.q 2 (.q 3 (.q 4 (.q 5 (.q 8 (.q 9 (.h 6 (.q 7 (.h 10 (.q 11 (.q 12 (.q 13 (.h 14 (.h 15 (.q 16 .nil) .nil) .nil)))) (.h 14 (.h 10 (.q 11 (.q 12 (.q 13 (.h 15 (.q 16 .nil) .nil)))) .nil) .nil))) (.h 14 (.h 6 (.q 7 (.h 10 (.q 11 (.q 12 (.q 13 (.h 15 (.q 16 .nil) .nil)))) .nil)) .nil) .nil)))))))))) ⟨[(0,.ptr 0 0),(2,.I a2),(6,.ptr 2 0),(20,.L 4 (jY bm)),(22,.ptr 6 0),(25,.ptr 10 0),(26,.I bc),(137,.L 4 (jQ ae)),(138,.I (ae.length:Int)),(139,.N bk)],[.box [.L 6 (kQ y),.L 6 (jW au)],bBd a5 ar av aw,.box [.I 0,.I 0,.I 0,.I 0,.nilsl],bTr ax ay a0 a3 a4,.box [.I ah,.I ai],bIn bv bw a6 a7 a8 ae bx bz a9 ba bb b0,.box [.I 1,.I 0,.I ah,.I ai,.sl 7 b2],.arr 51 5 b2 (jP b1),bBd bo b3 b4 b5,.frz 37 3 0 (gK bp),.box [.I aj,.I ak,.I aa,.I ab,.L 5 (jP al)]],Tryz.f44.ntmps⟩ (by kernel_rfl) ?_ ?_
         ·refine gVw ?_;refine hFh rfl (pV) ?_;refine pR (gQh (sx28) gQ) ?_ ?_
          ·refine gVw ?_;refine pR (gG2 9 rfl rfl (gPo (sv:=.tup [.d (.st [.i .i64 aj,.i .i64 ak,.st [.i .i64 aa,.i .i64 ab],.sl 5 (jP al)]),.I bc]) [0] (c (wO.mk (gM.mk y) au) (gT.mk bo (gB.mk ch ci bp)) (IntKind.i64.wrap (a2+1)) co) gQ)) ?_ ?_
           ·refine gVw ?_;refine jB ?_;exact mK 1 [0,1,2,3,4,5,6,7,8,9,10]
           refine gVw ?_;refine gH (gG2 9 rfl rfl (gPo (sv:=.tup [.d (.st [.i .i64 aj,.i .i64 ak,.st [.i .i64 aa,.i .i64 ab],.sl 5 (jP al)]),.I bc]) [0] (c (wO.mk (gM.mk y) au) (gT.mk bo (gB.mk ch ci bp)) (IntKind.i64.wrap (a2+1)) co) gQ)) ?_;refine gVw ?_;refine jB ?_;exact mK 1 [0,1,2,3,4,5,6,7,8,9,10]
          refine gVw ?_;refine gH (gQh (sx28) gQ) ?_;refine gVw ?_;refine gH (gG2 10 rfl rfl (gPo (sv:=.tup [.d (.st [.i .i64 aj,.i .i64 ak,.st [.i .i64 aa,.i .i64 ab],.sl 5 (jP al)]),.I bc]) [0] (c (wO.mk (gM.mk y) au) (gT.mk bo (gB.mk ch ci bp)) (IntKind.i64.wrap (a2+1)) co) gQ)) ?_;refine gVw ?_;refine jB ?_;exact mK 1 [0,1,2,3,4,5,6,7,8,10,9]
         refine goC h ?_ ?_<;>intro el h
         ·refine goL ?_;refine gAc (jU TBd.h TZ.h rfl (by repeat constructor)) ?_;refine jG ?_;obtain rfl:=Option.some.inj h;exact gBa [.d (.st [.i .i64 0,.i .i64 0,.st [.i .i64 0,.i .i64 0],.sl 5 []]),.I bc] _ ⟨rfl,rfl⟩
         ·refine goS ?_;refine uQ (u:=(.st [.i .i64 aj,.i .i64 ak,.st [.i .i64 aa,.i .i64 ab],.sl 5 (jP al)])) ?_;obtain⟨d6,h⟩:=pO h;refine gAi d6 ?_;refine goL ?_;refine jK (kD bk (by omega)) ?_;exact⟨(bk+1),(b1++[(gI.mk aj ak (gF.mk aa ab) al)]),(b2+1),h,by omega,eJ⟩
        ·have bn:=vG c0;rw [jH bn,qG.eq_1] at h;refine goX ?_;refine gW 7 rfl rfl ?_;refine jG ?_;obtain rfl:=Option.some.inj h;exact gCo [.d (.st [.i .i64 1,.i .i64 0,.st [.i .i64 ah,.i .i64 ai],.sl 5 (jP b1)]),.I 0] [.box [.L 6 (kQ y),.L 6 (jW au)]] ⟨rfl,rfl⟩
     ·refine noS ?_;refine jL (P:=Tryz.prog) Mix.h [(0,true),(1,true),(2,true),(3,true),(4,true),(5,true),(6,true),(7,true),(8,true),(9,false),(10,false),(11,true)] (by kernel_rfl) ?_;refine goY ?_;obtain⟨⟨⟨am,an⟩,cp⟩,dq,h⟩:=gJ h;refine jO rfl (gG (gQv _ _ dq)) ?_;refine goY ?_;refine kX ?_;refine goC h ?_ ?_<;>intro em h
      ·refine goL ?_;refine gAc (jU TBd.h TZ.h rfl (by repeat constructor)) ?_;refine jG ?_;obtain rfl:=Option.some.inj h;exact gBa [.d (.st [.i .i64 0,.i .i64 0,.st [.i .i64 0,.i .i64 0],.sl 5 []]),.I cp] _ ⟨rfl,rfl⟩
      ·refine noS ?_;refine jL (P:=Tryz.prog) Mix.h [(0,true),(1,true),(2,true),(3,true),(4,true),(5,true),(6,true),(7,true),(8,true),(9,false),(10,false),(11,true)] (by kernel_rfl) ?_;refine goY ?_;obtain⟨⟨⟨b6,b8,⟨bd,be,bf⟩,ag,b9,ca,⟨bg,bh,bi⟩,cb⟩,d7⟩,dr,h⟩:=gJ h;refine jO rfl (gG (gKo _ _ dr)) ?_;refine goY ?_;refine kX ?_;refine goL ?_;obtain⟨⟨bq,c3⟩,ds,h⟩:=gJ h;refine jK (gG (gMz _ _ ds)) ?_;refine gAc (jU TBd.h TZ.h rfl (by repeat constructor)) ?_;refine noB ?_;refine uO 51 5 6 4 rfl rfl (by repeat constructor) (by repeat constructor) (by repeat constructor) (by repeat constructor) ?_;show V _ _ _ _ _;refine gCm 137 (fun en=>?_);refine kV (fun(bl:Nat)(cc:List gI)(cd:Nat)=>⟨[(0,.ptr 0 0),(2,.I a2),(6,.ptr 2 0),(20,.L 4 (jY bq)),(22,.ptr 6 0),(137,.L 4 (jQ ag)),(138,.I (ag.length:Int)),(139,.N bl)],[.box [.L 6 (kQ y),.L 6 (jW au)],bBd a5 ar av aw,.box [.I 0,.I 0,.I 0,.I 0,.nilsl],bTr ax ay a0 a3 a4,.box [.I am,.I an],bIn b6 b8 bd be bf ag b9 ca bg bh bi cb,.box [.I 1,.I 0,.I am,.I an,.sl 7 cd],.arr 51 5 cd (jP cc)],Tryz.f44.ntmps⟩) (fun bl cc cd=>uX f (wO.mk (gM.mk y) au) a2 ((gF.mk am an),cp) (bq,c3) (ag.drop bl) cc=some r) (fun bl cc cd=>ag.length - bl) 0 [] 0 eJ h ?_;rintro bl cc cd h;refine goL ?_;refine kH (mQ (fun c4=>?_) (fun c4=>?_))
       ·have br:=vF c4;obtain⟨d8,dt,c6⟩:=drop_at br;rw [c6,uX.eq_2] at h;obtain⟨bt,⟨ce,cf,cg⟩⟩:=d8;refine noS ?_;refine kH (jE ?_);refine goL ?_;refine qM (jM bl (gDi dt)) ?_;refine gHi ?_;obtain⟨d9,h⟩:=pO h;obtain⟨⟨cj,ck,bu⟩,du,h⟩:=qW h;have sx43:=gTy bq (gB.mk ce cf cg) d9;rw [du] at sx43;obtain⟨⟨⟨ao,ap,⟨ac,ad⟩,aq⟩,bj⟩,cq,h⟩:=gJ h;refine zK (P:=Tryz.prog) Mix.h (.q 0 (.q 1 (.q 2 (.q 3 (.q 4 (.q 5 (.q 8 (.q 9 (.h 6 (.q 7 (.h 10 (.q 11 (.q 12 (.q 13 (.h 14 (.h 15 (.q 16 .nil) .nil) .nil)))) (.h 14 (.h 10 (.q 11 (.q 12 (.q 13 (.h 15 (.q 16 .nil) .nil)))) .nil) .nil))) (.h 14 (.h 6 (.q 7 (.h 10 (.q 11 (.q 12 (.q 13 (.h 15 (.q 16 .nil) .nil)))) .nil)) .nil) .nil)))))))))) ⟨[(0,.ptr 0 0),(2,.I a2),(6,.ptr 2 0),(20,.L 4 (jY bq)),(22,.ptr 6 0),(25,.ptr 10 0),(26,.I bj),(137,.L 4 (jQ ag)),(138,.I (ag.length:Int)),(139,.N bl)],[.box [.L 6 (kQ y),.L 6 (jW au)],bBd a5 ar av aw,.box [.I 0,.I 0,.I 0,.I 0,.nilsl],bTr ax ay a0 a3 a4,.box [.I am,.I an],bIn b6 b8 bd be bf ag b9 ca bg bh bi cb,.box [.I 1,.I 0,.I am,.I an,.sl 7 cd],.arr 51 5 cd (jP cc),bBd bt ce cf cg,.frz 37 3 0 (gK bu),.box [.I ao,.I ap,.I ac,.I ad,.L 5 (jP aq)]],Tryz.f44.ntmps⟩ (by kernel_rfl) ?_ ?_
        ·refine gVw ?_;refine hFh rfl (pV) ?_;refine pR (gQh (sx43) gQ) ?_ ?_
         ·refine gVw ?_;refine pR (gG2 9 rfl rfl (gPo (sv:=.tup [.d (.st [.i .i64 ao,.i .i64 ap,.st [.i .i64 ac,.i .i64 ad],.sl 5 (jP aq)]),.I bj]) [0] (c (wO.mk (gM.mk y) au) (gT.mk bt (gB.mk cj ck bu)) (IntKind.i64.wrap (a2+1)) cq) gQ)) ?_ ?_
          ·refine gVw ?_;refine jB ?_;exact mK 1 [0,1,2,3,4,5,6,7,8,9,10]
          refine gVw ?_;refine gH (gG2 9 rfl rfl (gPo (sv:=.tup [.d (.st [.i .i64 ao,.i .i64 ap,.st [.i .i64 ac,.i .i64 ad],.sl 5 (jP aq)]),.I bj]) [0] (c (wO.mk (gM.mk y) au) (gT.mk bt (gB.mk cj ck bu)) (IntKind.i64.wrap (a2+1)) cq) gQ)) ?_;refine gVw ?_;refine jB ?_;exact mK 1 [0,1,2,3,4,5,6,7,8,9,10]
         refine gVw ?_;refine gH (gQh (sx43) gQ) ?_;refine gVw ?_;refine gH (gG2 10 rfl rfl (gPo (sv:=.tup [.d (.st [.i .i64 ao,.i .i64 ap,.st [.i .i64 ac,.i .i64 ad],.sl 5 (jP aq)]),.I bj]) [0] (c (wO.mk (gM.mk y) au) (gT.mk bt (gB.mk cj ck bu)) (IntKind.i64.wrap (a2+1)) cq) gQ)) ?_;refine gVw ?_;refine jB ?_;exact mK 1 [0,1,2,3,4,5,6,7,8,10,9]
        refine goC h ?_ ?_<;>intro eo h
        ·refine goL ?_;refine gAc (jU TBd.h TZ.h rfl (by repeat constructor)) ?_;refine jG ?_;obtain rfl:=Option.some.inj h;exact gBa [.d (.st [.i .i64 0,.i .i64 0,.st [.i .i64 0,.i .i64 0],.sl 5 []]),.I bj] _ ⟨rfl,rfl⟩
        ·refine goS ?_;refine uQ (u:=(.st [.i .i64 ao,.i .i64 ap,.st [.i .i64 ac,.i .i64 ad],.sl 5 (jP aq)])) ?_;obtain⟨ea,h⟩:=pO h;refine gAi ea ?_;refine goL ?_;refine jK (kD bl (by omega)) ?_;exact⟨(bl+1),(cc++[(gI.mk ao ap (gF.mk ac ad) aq)]),(cd+1),h,by omega,eJ⟩
       ·have br:=vG c4;rw [jH br,uX.eq_1] at h;refine goX ?_;refine gW 7 rfl rfl ?_;refine jG ?_;obtain rfl:=Option.some.inj h;exact gCo [.d (.st [.i .i64 1,.i .i64 0,.st [.i .i64 am,.i .i64 an],.sl 5 (jP cc)]),.I 0] [.box [.L 6 (kQ y),.L 6 (jW au)]] ⟨rfl,rfl⟩
def uL:Nat→wO→gT→Int→Option (gI × Int)
 | 0,_,_,_=>none
 | n+1,c,f,h=>gBq (uL n) c f h
theorem gPu:∀(n:Nat)(c:wO)(f:gT)(q:Int){r:gI × Int},uL n c f q=some r→Go.Eng.Spec Tryz.prog 44 [.ptr 0 0,.d (wU f),.I q] [.box [.L 6 (kQ c.w.packages),.L 6 (jW c.assumed)]] (fun sv Lo=>sv=.tup [.d (mF r.1),.I r.2]∧Lo=[.box [.L 6 (kQ c.w.packages),.L 6 (jW c.assumed)]]):=by
 intro n
 induction n with
 | zero=>intro c f q r h;cases h
 | succ n ih=>intro c f q r h;exact gPt ih c f q h
end Go.Proofs.YtfpdlnkkcnmebaaGreat
