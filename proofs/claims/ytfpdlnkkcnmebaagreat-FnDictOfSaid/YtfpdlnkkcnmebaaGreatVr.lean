import Derived.Test.YtfpdlnkkcnmebaaGreatMt
set_option maxHeartbeats 4000000
set_option linter.unusedVariables false
set_option linter.unusedSimpArgs false
set_option linter.unusedSectionVars false
namespace Go.Proofs.YtfpdlnkkcnmebaaGreat
open Go Go.Eng
attribute [local irreducible] V VO VQ VY Quiet QR jI mK Rng qE qA pX
def vW(f:gB→LB→Option (Int))(a1:LB):List gB→Int→Option (Int)
 | [],h=>(some h)
 | y::xs,h=>bnd (f y a1) fun q=>
vW f a1 xs (IntKind.i64.wrap (h+q))
def gDe(f:gB→LB→Option (Int))(h:gB)(a1:LB):Option (Int):=
lt_ ((cnd (h.kind==1) ((h.name==a1)) (false))) fun q=>
bnd ((cnd q (
(some 1)) (
(some 0)))) fun y=>
vW f a1 h.args y
theorem gMl{f:gB→LB→Option (Int)}(q:∀(x0:gB)(x1:LB){r:Int},f x0 x1=some r→jI Tryz.prog 241 [.d (mM x0),.S x1] [.i .i64 r])(a0:gB)(a1:LB){r:Int}(h:gDe f a0 a1=some r):jI Tryz.prog 241 [.d (mM a0),.S a1] [.i .i64 r]:=by
 obtain⟨ab,ac,y⟩:=a0;unfold gDe at h;refine SpI Tryz.func241 fun A _=>?_;refine goL ?_;obtain⟨b1,hb1,h⟩:=uK h;refine kH ⟨[(1,.S a1),(2,.ptr 0 0),(5,.I 0),(15,.B b1)],[bTy ab ac y],Tryz.f241.ntmps⟩ ?_ ?_
 ·exact gqZ 10 hb1
 refine goL ?_;obtain⟨b3,hb3,h⟩:=gJ h;refine wY ⟨[(1,.S a1),(2,.ptr 0 0),(5,.I b3)],[bTy ab ac y],Tryz.f241.ntmps⟩ ?_ ?_
 ·refine mR (fun c4=>?_) (fun c4=>?_)
  ·replace hb3:=kU c4 hb3;refine goL ?_;cases hb3;exact eJ
  ·replace hb3:=kV c4 hb3;refine vN ?_;cases hb3;exact eJ
 refine goL ?_;refine noB ?_;refine yC 0 2 (fun z7=>?_);refine gFc (fun(y6:Nat)(y5:Int)=>⟨[(1,.S a1),(2,.ptr 0 0),(5,.I y5),(6,.N y6)],[bTy ab ac y],Tryz.f241.ntmps⟩) (fun y6 y5=>vW f a1 (y.drop y6) y5=some r) (fun y6 y5=>y.length - y6) 0 b3 eJ h ?_;rintro y6 y5 h;refine goL ?_;refine mR (fun c8=>?_) (fun c8=>?_)
 ·have aa:=vR c8;obtain⟨x9,al,ag⟩:=drop_at aa;rw [ag,vW.eq_2] at h;obtain⟨aq,ar,au⟩:=x9;refine noS ?_;refine kI (jA ?_);refine goL ?_;refine jP (jR y6 (gDj al)) ?_;obtain⟨am,ah,h⟩:=gJ h;refine uN (gI (q _ _ ah)) ?_;refine jP (pV) ?_;refine jP (kD y6 (by omega)) ?_;exact⟨(y6+1),(IntKind.i64.wrap (y5+am)),h,by omega,eJ⟩
 ·have aa:=vS c8;rw [jK aa,vW.eq_1] at h;refine goX ?_;refine jF ?_;cases h;exact uM
def gDf:Nat→gB→LB→Option (Int)
 | 0,_,_=>none
 | n+1,f,h=>gDe (gDf n) f h
theorem gMm:∀(n:Nat)(f:gB)(q:LB){r:Int},gDf n f q=some r→jI Tryz.prog 241 [.d (mM f),.S q] [.i .i64 r]:=by
 intro n
 induction n with
 | zero=>intro f q r h;cases h
 | succ n ih=>intro f q r h;exact gMl ih f q h
def gEz(h:LS→Option (LS × LS × LS × LS)):List jC→LS→Option (LS × LS × LS × LS)
 | [],f=>(h f)
 | q::xs,f=>gd (f.length+[q.name].length≤4294967296) (
gEz h xs (f++[q.name]))
def gE0(y:LS)(y8:LS)(h:LS):List kX→LS→Option (LS × LS × LS × LS)
 | [],f=>(some (y,y8,h,f))
 | q::xs,f=>gd (f.length+[q.name].length≤4294967296) (
gE0 y y8 h xs (f++[q.name]))
def gC2(a0:jZ)(y1:LS):List kG→LS→LS→Option (LS × LS × LS × LS)
 | [],q,f=>gE0 y1 q f a0.functions []
 | h::xs,q,f=>gd (q.length+[h.name].length≤4294967296) (
gEz (fun y=>gC2 a0 y1 xs (q++[h.name]) y) h.constructors f)
def gE1(h:jZ):List pM→LS→Option (LS × LS × LS × LS)
 | [],f=>gC2 h f h.dataTypes [] []
 | q::xs,f=>gd (f.length+[q.name].length≤4294967296) (
gE1 h xs (f++[q.name]))
def gO0(f:jZ):Option (LS × LS × LS × LS):=
gE1 f f.traits []
theorem hBi(a0:jZ){r:LS × LS × LS × LS}(h:gO0 a0=some r):jI Tryz.prog 191 [.d (gEv a0)] [.sl 1 (gT r.1),.sl 1 (gT r.2.1),.sl 1 (gT r.2.2.1),.sl 1 (gT r.2.2.2)]:=by
 obtain⟨ab,ac,q,f,ad,y⟩:=a0;unfold gO0 at h;refine SpI Tryz.func191 fun A _=>?_;refine goL ?_;refine gC1 ?_;refine goL ?_;refine gC1 ?_;refine goL ?_;refine gC1 ?_;refine goL ?_;refine gC1 ?_;refine goL ?_;refine noB ?_;refine yC 0 2 (fun z4=>?_);refine mG (fun(y3:Nat)(y1:LS)(v2:Nat)=>⟨[(1,.ptr 0 0),(6,.sl 1 v2),(7,.sl 2 0),(8,.sl 3 0),(9,.sl 4 0),(10,.N y3)],[bPk ab ac q f ad y,.own 9 1 v2 (gT y1),.own 9 1 0 [],.own 9 1 0 [],.own 9 1 0 []],Tryz.f191.ntmps⟩) (fun y3 y1 v2=>gE1 (jZ.mk ab ac q f ad y) (q.drop y3) y1=some r) (fun y3 y1 v2=>q.length - y3) 0 [] 0 eJ h ?_;rintro y3 y1 v2 h;refine goL ?_;refine mR (fun c5=>?_) (fun c5=>?_)
 ·have ao:=vR c5;obtain⟨x6,bx,bi⟩:=drop_at ao;rw [bi,gE1.eq_2] at h;obtain⟨a7,b9,ca,cb,cc⟩:=x6;refine noS ?_;refine kI (jA ?_);refine goL ?_;refine jP (jR y3 (gVh bx)) ?_;refine wX a7 ?_;obtain⟨g7,h⟩:=pU h;refine gDl g7 ?_;refine goL ?_;refine jP (kD y3 (by omega)) ?_;exact⟨(y3+1),(y1++[a7]),(v2+1),h,by omega,eJ⟩
 ·have ao:=vS c5;rw [jK ao,gE1.eq_1] at h;refine goX ?_;refine noB ?_;refine yC 0 3 (fun cf=>?_);refine gXf (fun(aa:Nat)(y8:LS)(am:LS)(v9:Nat)(an:Nat)=>⟨[(1,.ptr 0 0),(6,.sl 1 v2),(7,.sl 2 v9),(8,.sl 3 an),(9,.sl 4 0),(11,.N aa)],[bPk ab ac q f ad y,.own 9 1 v2 (gT y1),.own 9 1 v9 (gT y8),.own 9 1 an (gT am),.own 9 1 0 []],Tryz.f191.ntmps⟩) (fun aa y8 am v9 an=>gC2 (jZ.mk ab ac q f ad y) y1 (f.drop aa) y8 am=some r) (fun aa y8 am v9 an=>f.length - aa) 0 [] [] 0 0 eJ h ?_;rintro aa y8 am v9 an h;refine goL ?_;refine mR (fun a8=>?_) (fun a8=>?_)
  ·have ae:=vR a8;obtain⟨bz,ax,a9⟩:=drop_at ae;rw [a9,gC2.eq_2] at h;obtain⟨ag,ba,ap⟩:=bz;refine noS ?_;refine kI (jA ?_);refine goL ?_;refine jP (jR aa (gJa ax)) ?_;refine wX ag ?_;obtain⟨b0,h⟩:=pU h;refine gDl b0 ?_;refine goL ?_;refine noB ?_;refine mG (fun(ah:Nat)(ai:LS)(aq:Nat)=>⟨[(1,.ptr 0 0),(6,.sl 1 v2),(7,.sl 2 (v9+1)),(8,.sl 3 aq),(9,.sl 4 0),(11,.N aa),(12,.N ah)],[bPk ab ac q f ad y,.own 9 1 v2 (gT y1),.own 9 1 (v9+1) (gT (y8++[ag])),.own 9 1 aq (gT ai),.own 9 1 0 [],.dead 1],Tryz.f191.ntmps⟩) (fun ah ai aq=>gEz (fun ai=>gC2 (jZ.mk ab ac q f ad y) y1 (f.drop (aa+1)) (y8++[(kG.mk ag ba ap).name]) ai) (ap.drop ah) ai=some r) (fun ah ai aq=>ap.length - ah) 0 am an eJ h ?_;rintro ah ai aq h;refine goL ?_;refine jP (jR aa (gJa ax)) ?_;refine mR (fun bb=>?_) (fun bb=>?_)
   ·have aj:=vR bb;refine gCw 56 (fun cg=>?_);obtain⟨b1,bj,bc⟩:=drop_at aj;rw [bc,gEz.eq_2] at h;obtain⟨ay,b2⟩:=b1;refine noS ?_;refine kI (jA ?_);refine goL ?_;refine jP (jR aa (gJa ax)) ?_;refine jP (jR ah (gA5 bj)) ?_;refine wX ay ?_;obtain⟨b3,h⟩:=pU h;refine gDl b3 ?_;refine goL ?_;refine jP (kD ah (by omega)) ?_;exact⟨(ah+1),(ai++[ay]),(aq+1),h,by omega,eJ⟩
   ·have aj:=vS bb;rw [jK aj,gEz.eq_1] at h;refine goX ?_;refine jP (kD aa (by omega)) ?_;exact⟨(aa+1),(y8++[ag]),ai,(v9+1),aq,h,by omega,eJ⟩
  ·have ae:=vS a8;rw [jK ae,gC2.eq_1] at h;refine goX ?_;refine noB ?_;refine yC 0 5 (fun ch=>?_);refine mG (fun(ak:Nat)(ar:LS)(au:Nat)=>⟨[(1,.ptr 0 0),(6,.sl 1 v2),(7,.sl 2 v9),(8,.sl 3 an),(9,.sl 4 au),(13,.N ak)],[bPk ab ac q f ad y,.own 9 1 v2 (gT y1),.own 9 1 v9 (gT y8),.own 9 1 an (gT am),.own 9 1 au (gT ar)],Tryz.f191.ntmps⟩) (fun ak ar au=>gE0 y1 y8 am (y.drop ak) ar=some r) (fun ak ar au=>y.length - ak) 0 [] 0 eJ h ?_;rintro ak ar au h;refine goL ?_;refine mR (fun bd=>?_) (fun bd=>?_)
   ·have al:=vR bd;obtain⟨b4,bk,be⟩:=drop_at al;rw [be,gE0.eq_2] at h;obtain⟨a3,b5,b6,b7,⟨bl,bm,bn⟩,⟨bo,bp,bq,br,⟨bf,bg,bh⟩,bt,bu⟩⟩:=b4;refine noS ?_;refine kI (jA ?_);refine goL ?_;refine jP (jR ak (gVn bk)) ?_;refine wX a3 ?_;obtain⟨b8,h⟩:=pU h;refine gDl b8 ?_;refine goL ?_;refine jP (kD ak (by omega)) ?_;exact⟨(ak+1),(ar++[a3]),(au+1),h,by omega,eJ⟩
   ·have al:=vS bd;rw [jK al,gE0.eq_1] at h;refine goX ?_;refine mP 1 rfl rfl ?_;refine mP 2 rfl rfl ?_;refine mP 3 rfl rfl ?_;refine mP 4 rfl rfl ?_;refine jF ?_;cases h;exact uM
def gI0(f:Int)(a1:LB)(a2:List gY):Option (gY):=
gd (([]:List gY).length+a2.length≤4294967296) (
(some (gY.mk f [] a1 0 (gB.mk 0 [] []) ([]++a2) [])))
theorem gDg(f:Int)(a1:LB)(a2:List gY){r:gY}(h:gI0 f a1 a2=some r):jI Tryz.prog 144 [.I f,.S a1,.L 9 (kQ a2)] [gBp r]:=by
 unfold gI0 at h;refine SpI Tryz.func144 fun A _=>?_;refine goL ?_;refine gAu ?_;refine goL ?_;obtain⟨q,h⟩:=pU h;refine gAd q ?_;refine yT (jN TBd.h TZ.h rfl (by repeat constructor)) ?_;refine gV 1 rfl rfl ?_;refine jF ?_;cases h;exact uM
def gCs(a1:LB)(h:Nat)(f:pM × Int × Bool):List pM→pM × Int × Bool
 | []=>f
 | q::xs=>(cnd (q.name==a1) (
(q,(h:Int),true)) (
gCs a1 h f xs ))
def gAz(a1:LB):List jZ→Nat→pM × Int × Bool
 | [],f=>((pM.mk [] [] false false []),0,false)
 | h::xs,f=>gCs a1 f (gAz a1 xs (f+1)) h.traits
def uJ(f:gM)(a1:LB):pM × Int × Bool:=
gAz a1 f.packages 0
theorem gIr(a0:gM)(a1:LB):jI Tryz.prog 24 [.d (mD a0),.S a1] [gLb (uJ a0 a1).1,.i .i64 (uJ a0 a1).2.1,.b (uJ a0 a1).2.2]:=by
 obtain⟨r,h⟩:∃r,uJ a0 a1=r:=⟨_,rfl⟩
 rw [h];obtain⟨f⟩:=a0;unfold uJ at h;refine SpI Tryz.func24 fun A _=>?_;refine goL ?_;refine noB ?_;refine yC 0 0 (fun z2=>?_);refine pY (fun(q:Nat)=>⟨[(1,.S a1),(2,.ptr 0 0),(4,.ptr 1 0),(7,.N q)],[bPr f,.box [.S [],.nilsl,.B false,.B false,.nilsl]],Tryz.f24.ntmps⟩) (fun q=>gAz a1 (f.drop q) q=r) (fun q=>f.length - q) 0 eJ h ?_;rintro q h;refine goL ?_;refine mR (fun c3=>?_) (fun c3=>?_)
 ·have y:=vR c3;obtain⟨x4,ad,ag⟩:=drop_at y;rw [ag,gAz.eq_2] at h;obtain⟨am,an,ac,ao,ap,aq⟩:=x4;refine noS ?_;refine kI (jA ?_);refine goL ?_;refine noB ?_;refine pY (fun(y5:Nat)=>⟨[(1,.S a1),(2,.ptr 0 0),(4,.ptr 1 0),(7,.N q),(8,.N y5)],[bPr f,.box [.S [],.nilsl,.B false,.B false,.nilsl]],Tryz.f24.ntmps⟩) (fun y5=>gCs a1 q (gAz a1 (f.drop (q+1)) (q+1)) (ac.drop y5)  =r) (fun y5=>ac.length - y5) 0 eJ h ?_;rintro y5 h;refine goL ?_;refine jP (jR q (gAc ad)) ?_;refine mR (fun c6=>?_) (fun c6=>?_)
  ·have aa:=vR c6;refine gCw 22 (fun z7=>?_);obtain⟨x8,ah,ai⟩:=drop_at aa;rw [ai,gCs.eq_2] at h;obtain⟨ar,au,av,aw,ax⟩:=x8;refine noS ?_;refine kI (jA ?_);refine goL ?_;refine jP (jR q (gAc ad)) ?_;refine jP (jR y5 (gVh ah)) ?_;refine mR (fun c9=>?_) (fun c9=>?_)
   ·replace h:=kU c9 h;refine goL ?_;refine jP (jR q (gAc ad)) ?_;refine jP (jR y5 (gVh ah)) ?_;refine jF ?_;subst h;exact uM
   ·replace h:=kV c9 h;refine goS ?_;refine jP (kD y5 (by omega)) ?_;exact⟨(y5+1),h,by omega,eJ⟩
  ·have aa:=vS c6;rw [jK aa,gCs.eq_1] at h;refine goX ?_;refine jP (kD q (by omega)) ?_;exact⟨(q+1),h,by omega,eJ⟩
 ·have y:=vS c3;rw [jK y,gAz.eq_1] at h;refine goX ?_;refine yT (jN TBd.h TZ.h rfl (by repeat constructor)) ?_;refine jF ?_;subst h;exact uM
def gGe(f:gP)(a1:gP):Bool:=
lt_ ((cnd (f.trait==a1.trait) ((teq f.type_ a1.type_)) (false))) fun h=>
h
theorem gWr(a0:gP)(a1:gP):jI Tryz.prog 116 [.d (yF a0),.d (yF a1)] [.b (gGe a0 a1)]:=by
 obtain⟨r,h⟩:∃r,gGe a0 a1=r:=⟨_,rfl⟩
 rw [h];obtain⟨ad,⟨f,q,y⟩⟩:=a0;obtain⟨ae,⟨aa,ab,ac⟩⟩:=a1;unfold gGe at h;refine SpI Tryz.func116 fun A _=>?_;refine goL ?_;obtain⟨b1,hb1,h⟩:=uK h;refine kH ⟨[(4,.B b1)],[bBd ad f q y,bBd ae aa ab ac],Tryz.f116.ntmps⟩ ?_ ?_
 ·refine gqA 10 hb1 (fun c2 hb1=>?_);refine jP (gI (gIq (gB.mk f q y) (gB.mk aa ab ac))) ?_;cases hb1;exact eJ
 refine goL ?_;refine jF ?_;subst h;exact uM
def gDp(f:gH→Option (gH)):List gH→(List gH)→Option (List gH)
 | [],h=>(some h)
 | y::xs,h=>bnd (f y) fun q=>
gd (h.length+[q].length≤4294967296) (
gDp f xs (h++[q]))
def gM4(h:(List gH)→Option (List gH))(f:gH→Option (gH))(q:List gH):Option (List gH):=
gDp f q []
def gM5(f:(List gH)→Option (List gH)):Prop:=∀(h:List gH){r:List gH},f h=some r→mK Tryz.prog 151 [.L 5 (jE h)] [51] [.sl 5 (jE r)]
def gOb(f:gH→Option (gH)):Prop:=∀(h:gH){r:gH},f h=some r→mK Tryz.prog 117 [.d (mZ h)] [51] [mZ r]
theorem gYg{q}{f}(ad:gM5 q)(y:gOb f)(a0:List gH){r:List gH}(h:gM4 q f a0=some r):mK Tryz.prog 151 [.L 5 (jE a0)] [51] [.sl 5 (jE r)]:=by
 unfold gM4 at h;refine qB Tryz.func151 rfl (by kernel_rfl) rfl (by simp) fun A _=>?_;refine goL ?_;refine gC1 ?_;refine goL ?_;refine noB ?_;refine gCw 0 (fun z4=>?_);refine mG (fun(y3:Nat)(y1:List gH)(v2:Nat)=>⟨[(0,.L 5 (jE a0)),(3,.sl 0 v2),(4,.N y3)],[.own 51 5 v2 (jE y1)],Tryz.f151.ntmps⟩) (fun y3 y1 v2=>gDp f (a0.drop y3) y1=some r) (fun y3 y1 v2=>a0.length - y3) 0 [] 0 eJ h ?_;rintro y3 y1 v2 h;refine goL ?_;refine mR (fun c5=>?_) (fun c5=>?_)
 ·have aa:=vR c5;obtain⟨x6,av,ao⟩:=drop_at aa;rw [ao,gDp.eq_2] at h;obtain⟨ap,aq,⟨ag,ah⟩,ar⟩:=x6;refine noS ?_;refine kI (jA ?_);refine goL ?_;refine jP (jR y3 (gF7 av)) ?_;obtain⟨⟨ai,aj,⟨ab,ac⟩,ak⟩,aw,h⟩:=gJ h;refine gE3 (y (gH.mk ap aq (gD.mk ag ah) ar) aw) ?_;refine wX (gH.mk ai aj (gD.mk ab ac) ak) ?_;obtain⟨g8,h⟩:=pU h;refine gDl g8 ?_;refine goL ?_;refine jP (kD y3 (by omega)) ?_;exact⟨(y3+1),(y1++[(gH.mk ai aj (gD.mk ab ac) ak)]),(v2+1),h,by omega,eJ⟩
 ·have aa:=vS c5;rw [jK aa,gDp.eq_1] at h;refine goX ?_;refine jF ?_;obtain rfl:=Option.some.inj h;exact gNw
def gR9(f:(List gH)→Option (List gH))(h:gH→Option (gH))(q:gH):Option (gH):=
bnd (f q.args) fun y=>
(some (gH.mk q.kind q.n q.at_ y))
theorem hGj{f}{q}(y:gM5 f)(aa:gOb q)(a0:gH){r:gH}(h:gR9 f q a0=some r):mK Tryz.prog 117 [.d (mZ a0)] [51] [mZ r]:=by
 obtain⟨ah,ai,⟨ac,ad⟩,ab⟩:=a0;unfold gR9 at h;refine qB Tryz.func117 rfl (by kernel_rfl) rfl (by simp) fun A _=>?_;refine goL ?_;obtain⟨x1,ag,h⟩:=gJ h;refine gE3 (y ab ag) ?_;refine goL ?_;refine jF ?_;obtain rfl:=Option.some.inj h;exact gNw
mutual
def gM6:Nat→(List gH)→Option (List gH)
 | 0,_=>none
 | n+1,f=>gM4 (gM6 n) (gL0 n) f
def gL0:Nat→gH→Option (gH)
 | 0,_=>none
 | n+1,f=>gR9 (gM6 n) (gL0 n) f
end
theorem gWs:∀(n:Nat),gM5 (gM6 n)∧gOb (gL0 n):=by
 intro n
 induction n with
 | zero=>exact⟨(by intro f r h;cases h),(by intro f r h;cases h)⟩
 | succ n ih=>
   obtain⟨ih0,ih1⟩:=ih;refine⟨(fun f r h=>gYg ih0 ih1 f h),(fun f r h=>hGj ih0 ih1 f h)⟩
theorem hGk:∀(n:Nat),gOb (gL0 n):=fun n=>(gWs n).2
def gAn(a1:LB)(h:Nat)(f:kG × Int × Bool):List kG→kG × Int × Bool
 | []=>f
 | q::xs=>(cnd (q.name==a1) (
(q,(h:Int),true)) (
gAn a1 h f xs ))
def wJ(a1:LB):List jZ→Nat→kG × Int × Bool
 | [],f=>((kG.mk [] [] []),0,false)
 | h::xs,f=>gAn a1 f (wJ a1 xs (f+1)) h.dataTypes
def zS(f:gM)(a1:LB):kG × Int × Bool:=
wJ a1 f.packages 0
theorem gYh(a0:gM)(a1:LB):jI Tryz.prog 120 [.d (mD a0),.S a1] [gDk (zS a0 a1).1,.i .i64 (zS a0 a1).2.1,.b (zS a0 a1).2.2]:=by
 obtain⟨r,h⟩:∃r,zS a0 a1=r:=⟨_,rfl⟩
 rw [h];obtain⟨f⟩:=a0;unfold zS at h;refine SpI Tryz.func120 fun A _=>?_;refine goL ?_;refine noB ?_;refine yC 0 0 (fun z2=>?_);refine pY (fun(q:Nat)=>⟨[(1,.S a1),(2,.ptr 0 0),(4,.ptr 1 0),(7,.N q)],[bPr f,.box [.S [],.nilsl,.nilsl]],Tryz.f120.ntmps⟩) (fun q=>wJ a1 (f.drop q) q=r) (fun q=>f.length - q) 0 eJ h ?_;rintro q h;refine goL ?_;refine mR (fun c3=>?_) (fun c3=>?_)
 ·have y:=vR c3;obtain⟨x4,ad,ag⟩:=drop_at y;rw [ag,wJ.eq_2] at h;obtain⟨am,an,ao,ac,ap,aq⟩:=x4;refine noS ?_;refine kI (jA ?_);refine goL ?_;refine noB ?_;refine pY (fun(y5:Nat)=>⟨[(1,.S a1),(2,.ptr 0 0),(4,.ptr 1 0),(7,.N q),(8,.N y5)],[bPr f,.box [.S [],.nilsl,.nilsl]],Tryz.f120.ntmps⟩) (fun y5=>gAn a1 q (wJ a1 (f.drop (q+1)) (q+1)) (ac.drop y5)  =r) (fun y5=>ac.length - y5) 0 eJ h ?_;rintro y5 h;refine goL ?_;refine jP (jR q (gAc ad)) ?_;refine mR (fun c6=>?_) (fun c6=>?_)
  ·have aa:=vR c6;refine gCw 22 (fun z7=>?_);obtain⟨x8,ah,ai⟩:=drop_at aa;rw [ai,gAn.eq_2] at h;obtain⟨ar,au,av⟩:=x8;refine noS ?_;refine kI (jA ?_);refine goL ?_;refine jP (jR q (gAc ad)) ?_;refine jP (jR y5 (gJa ah)) ?_;refine mR (fun c9=>?_) (fun c9=>?_)
   ·replace h:=kU c9 h;refine goL ?_;refine jP (jR q (gAc ad)) ?_;refine jP (jR y5 (gJa ah)) ?_;refine jF ?_;subst h;exact uM
   ·replace h:=kV c9 h;refine goS ?_;refine jP (kD y5 (by omega)) ?_;exact⟨(y5+1),h,by omega,eJ⟩
  ·have aa:=vS c6;rw [jK aa,gAn.eq_1] at h;refine goX ?_;refine jP (kD q (by omega)) ?_;exact⟨(q+1),h,by omega,eJ⟩
 ·have y:=vS c3;rw [jK y,wJ.eq_1] at h;refine goX ?_;refine yT (jN TBd.h TZ.h rfl (by repeat constructor)) ?_;refine jF ?_;subst h;exact uM
def uB(y:Nat)(f:(List gD)→Option (List gD)):List jD→Nat→(List gD)→Option (List gD)
 | [],h,q=>(f q)
 | aa::xs,h,q=>gd (q.length+[(gD.mk (y:Int) (h:Int))].length≤4294967296) (
uB y f xs (h+1) (q++[(gD.mk (y:Int) (h:Int))]))
def qI:List jZ→Nat→(List gD)→Option (List gD)
 | [],f,h=>(some h)
 | q::xs,f,h=>uB f (fun y=>qI xs (f+1) y) q.instances 0 h
def gCt(f:gM):Option (List gD):=
qI f.packages 0 []
theorem gSa(a0:gM){r:List gD}(h:gCt a0=some r):jI Tryz.prog 166 [.d (mD a0)] [.sl 2 (kR r)]:=by
 obtain⟨f⟩:=a0;unfold gCt at h;refine SpI Tryz.func166 fun A _=>?_;refine goL ?_;refine gAu ?_;refine goL ?_;refine noB ?_;refine yC 0 0 (fun z4=>?_);refine mG (fun(q:Nat)(y1:List gD)(v2:Nat)=>⟨[(1,.ptr 0 0),(3,.sl 1 v2),(4,.N q)],[bPr f,.arr 28 2 v2 (kR y1)],Tryz.f166.ntmps⟩) (fun q y1 v2=>qI (f.drop q) q y1=some r) (fun q y1 v2=>f.length - q) 0 [] 0 eJ h ?_;rintro q y1 v2 h;refine goL ?_;refine mR (fun c5=>?_) (fun c5=>?_)
 ·have y:=vR c5;obtain⟨x6,av,ak⟩:=drop_at y;rw [ak,qI.eq_2] at h;obtain⟨a8,a9,ba,bb,ad,bc⟩:=x6;refine noS ?_;refine kI (jA ?_);refine goL ?_;refine noB ?_;refine mG (fun(y9:Nat)(y7:List gD)(v8:Nat)=>⟨[(1,.ptr 0 0),(3,.sl 1 v8),(4,.N q),(5,.N y9)],[bPr f,.arr 28 2 v8 (kR y7)],Tryz.f166.ntmps⟩) (fun y9 y7 v8=>uB q (fun y7=>qI (f.drop (q+1)) (q+1) y7) (ad.drop y9) y9 y7=some r) (fun y9 y7 v8=>ad.length - y9) 0 y1 v2 eJ h ?_;rintro y9 y7 v8 h;refine goL ?_;refine jP (jR q (gAc av)) ?_;refine mR (fun ag=>?_) (fun ag=>?_)
  ·have aa:=vR ag;refine gCw 20 (fun bf=>?_);obtain⟨aw,bd,ah⟩:=drop_at aa;rw [ah,uB.eq_2] at h;obtain⟨ax,ay,⟨al,am,an⟩,a3,a4,a5,⟨ao,ap,aq⟩,a6⟩:=aw;refine noS ?_;refine kI (jA ?_);refine goL ?_;refine vP (jN TBd.h TZ.h rfl (by repeat constructor)) ?_;refine uO (u:=(.st [.i .i64 (q:Int),.i .i64 (y9:Int)])) ?_;obtain⟨a7,h⟩:=pU h;refine gAd a7 ?_;refine goL ?_;refine jP (kD y9 (by omega)) ?_;exact⟨(y9+1),(y7++[(gD.mk (q:Int) (y9:Int))]),(v8+1),h,by omega,eJ⟩
  ·have aa:=vS ag;rw [jK aa,uB.eq_1] at h;refine goX ?_;refine jP (kD q (by omega)) ?_;exact⟨(q+1),y7,v8,h,by omega,eJ⟩
 ·have y:=vS c5;rw [jK y,qI.eq_1] at h;refine goX ?_;refine gV 1 rfl rfl ?_;refine jF ?_;cases h;exact uM
def yS(f:gB)(a1:gB):Option (Bool):=
bnd (gG1 a1 f) fun h=>
(some h)
theorem gGn(f:gB)(a1:gB){r:Bool}(h:yS f a1=some r):jI Tryz.prog 168 [.d (mM f),.d (mM a1)] [.b r]:=by
 obtain⟨y,aa,ab⟩:=f;obtain⟨ac,ad,ae⟩:=a1;unfold yS at h;refine SpI Tryz.func168 fun A _=>?_;refine goL ?_;obtain⟨x1,q,h⟩:=gJ h;refine uN (gI (gTc _ _ q)) ?_;exact goR h
def gJi(list:List gF):Option (gF):=
gd (([]:List gF).length+list.length≤4294967296) (
(some (gF.mk [] ([]++list))))
theorem wD(list:List gF){r:gF}(h:gJi list=some r):Go.Eng.Spec Tryz.prog 219 [.L 2 (jB list)] [] (fun sv Lo=>sv=.ag [.S r.atom,.sl 0 0]∧Lo=[.arr 223 2 0 (jB r.list)]):=by
 unfold gJi at h;refine kJ 0 Tryz.func219 rfl (by kernel_rfl) rfl rfl fun A _=>?_;refine goL ?_;refine gAu ?_;refine goL ?_;obtain⟨f,h⟩:=pU h;refine gAd f ?_;refine yT (jN TBd.h TZ.h rfl (by repeat constructor)) ?_;refine hEf (fr':=[(2,.ptr 1 0)]) (Lc:=[.arr 223 2 (0+1) (jB ([]++list)),.box [.S [],.sl 0 (0+1)]]) 0 [1,0] ?_;refine hR7 (fr':=[(2,.ptr 1 0)]) (L':=[.arr 223 2 0 (jB ([]++list)),.box [.S [],.sl 0 0]]) 0 0 ?_;refine jF ?_;obtain rfl:=Option.some.inj h;exact gAg [.ag [.S [],.sl 0 0]] _ ⟨rfl,rfl⟩
end Go.Proofs.YtfpdlnkkcnmebaaGreat
