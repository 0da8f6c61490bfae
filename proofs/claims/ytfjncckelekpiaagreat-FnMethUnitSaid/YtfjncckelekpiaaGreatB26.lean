import Derived.Test.YtfjncckelekpiaaGreatB22
set_option maxHeartbeats 4000000
set_option linter.unusedVariables false
set_option linter.unusedSimpArgs false
set_option linter.unusedSectionVars false
namespace Go.Proofs.YtfjncckelekpiaaGreat
open Go Go.Eng
attribute [local irreducible] V VO VQ VY Quiet QR gW pJ Rng vF uW uI
def gKu(a1:LS):List gF→Option (Bool)
 | []=>(some true)
 | f::xs=>bnd (gHp f a1) fun q=>
(cnd (!q) (some false) (
gKu a1 xs ))
def gUf(f:List gF)(a1:LS):Option (Bool):=
gKu a1 f
theorem hFj(y:List gF)(a1:LS){r:Bool}(h:gUf y a1=some r):gW Tryz.prog 259 [.L 3 (jJ y),.L 1 (kD a1)] [.b r]:=by
 unfold gUf at h;refine SpI Tryz.func259 fun A _=>?_;refine goL ?_;refine noB ?_;refine gB0 0 (fun z2=>?_);refine kZ (fun(q:Nat)=>⟨[(0,.L 3 (jJ y)),(1,.L 1 (kD a1)),(5,.N q)],[],Tryz.f259.ntmps⟩) (fun q=>gKu a1 (y.drop q)  =some r) (fun q=>y.length - q) 0 eJ h ?_;rintro q h;refine goL ?_;refine kN (fun c3=>?_) (fun c3=>?_)
 ·have f:=qB c3;obtain⟨x4,ac,aa⟩:=drop_at f;rw [aa,gKu.eq_2] at h;obtain⟨ag,ah,ai⟩:=x4;refine noS ?_;refine kC (gP ?_);refine goL ?_;refine gX (gV q (gAw ac)) ?_;obtain⟨x5,ad,h⟩:=gK h;refine gX (gD (gLi _ _ ad)) ?_;refine kN (fun c6=>?_) (fun c6=>?_)
  ·replace h:=jU c6 h;exact goR h
  ·replace h:=jV c6 h;refine goS ?_;refine gX (jK q (by omega)) ?_;exact⟨(q+1),h,by omega,eJ⟩
 ·have f:=qC c3;rw [gT f,gKu.eq_1] at h;refine goX ?_;refine jH ?_;cases h;exact mM
def gEy(f:gY):Option (Bool):=
bnd (gVk 5000 f 300) fun q=>
bnd (cnd (decide (q≥0)) (bnd (gXf 5000 f) fun y=>
some y) (some false)) fun b2=>
(some b2)
theorem gMb(a0:gY){r:Bool}(h:gEy a0=some r):gW Tryz.prog 73 [.d (vX a0)] [.b r]:=by
 obtain⟨aa,ab,ac,ad,⟨f,q,y⟩,ae,ag⟩:=a0;unfold gEy at h;refine SpI Tryz.func73 fun A _=>?_;refine goL ?_;obtain⟨x1,ai,h⟩:=gK h;refine gX (gD (hJg _ _ _ ai)) ?_;obtain⟨b2,hb2,h⟩:=gK h;refine kG ⟨[(2,.B b2)],[bEx aa ab ac ad f q y ae ag],Tryz.f73.ntmps⟩ ?_ ?_
 ·refine gqA 6 hb2 (fun c3 hb2=>?_);obtain⟨x4,aj,hb2⟩:=gK hb2;refine gX (gD (hN7 _ _ aj)) ?_;cases hb2;exact eJ
 exact goR h
def gGl(y:List gU)(a1:LS):List gU→Option (Bool)
 | []=>(some (decide ((y.length:Int)≤4)))
 | f::xs=>bnd (gLj f) fun x5=>
bnd (cnd (!x5) (some true) (bnd (gHp f.type_ a1) fun x8=>
(cnd (!x8) (some true) (bnd (wT 5000 f.type_) fun q=>
some q)))) fun b6=>
(cnd b6 (some false) (
gGl y a1 xs ))
def gPq(f:List gU)(a1:LS):Option (Bool):=
gGl f a1 f
theorem gX5(y:List gU)(a1:LS){r:Bool}(h:gPq y a1=some r):gW Tryz.prog 261 [.L 4 (kM y),.L 1 (kD a1)] [.b r]:=by
 unfold gPq at h;refine SpI Tryz.func261 fun A _=>?_;refine goL ?_;refine noB ?_;refine gB0 0 (fun z2=>?_);refine kZ (fun(q:Nat)=>⟨[(0,.L 4 (kM y)),(1,.L 1 (kD a1)),(5,.N q)],[],Tryz.f261.ntmps⟩) (fun q=>gGl y a1 (y.drop q)  =some r) (fun q=>y.length - q) 0 eJ h ?_;rintro q h;refine goL ?_;refine kN (fun c3=>?_) (fun c3=>?_)
 ·have f:=qB c3;obtain⟨x4,aa,ab⟩:=drop_at f;rw [ab,gGl.eq_2] at h;obtain⟨ak,⟨ad,ae,ag⟩⟩:=x4;refine noS ?_;refine kC (gP ?_);refine goL ?_;refine gX (gV q (gF3 aa)) ?_;obtain⟨x5,ai,h⟩:=gK h;refine gX (gD (gXg _ ai)) ?_;obtain⟨b6,hb6,h⟩:=gK h;refine kG ⟨[(0,.L 4 (kM y)),(1,.L 1 (kD a1)),(5,.N q),(35,.B b6)],[],Tryz.f261.ntmps⟩ ?_ ?_
  ·refine gqO 18 hb6 (fun c7 hb6=>?_);refine gX (gV q (gF3 aa)) ?_;refine gRx ?_;obtain⟨x8,aj,hb6⟩:=gK hb6;refine gX (gD (gLi _ _ aj)) ?_;refine gqO 28 hb6 (fun c9 hb6=>?_);refine gX (gV q (gF3 aa)) ?_;refine gRx ?_;obtain⟨an,ac,hb6⟩:=gK hb6;refine gX (gD (gJ0 _ _ ac)) ?_;cases hb6;exact eJ
  refine goC h ?_ ?_<;>intro ao h
  ·exact goR h
  ·refine goS ?_;refine gX (jK q (by omega)) ?_;exact⟨(q+1),h,by omega,eJ⟩
 ·have f:=qC c3;rw [gT f,gGl.eq_1] at h;refine goX ?_;refine jH ?_;cases h;exact mM
def gVq(y:gG)(a1:Int)(f:gF):Option (Int):=
(cnd (f.kind==1) (some 0) (cnd (f.kind==4) (
bnd (gU0 y a1 f.name) fun x3=>
some x3) (cnd (f.kind==3) (
bnd (gF7 y a1 f.name) fun x5=>
cnd (!x5.2) (some 3) (cnd (!x5.1.assoc) (some 4) (some 0))) (cnd (f.kind==2) (cnd (gKa f.name) (some 0) (
bnd (gXc y a1 f.name) fun q=>
cnd (!q.2) (some 1) (cnd ((q.1.vars.length:Int) !=(f.args.length:Int)) (some 2) (some 0)))) (some 1)))))
theorem hJ1(a0:gG)(a1:Int)(a2:gF){r:Int}(h:gVq a0 a1 a2=some r):gW Tryz.prog 211 [.d (jX a0),.I a1,.d (kT a2)] [.i .i64 r]:=by
 obtain⟨au⟩:=a0;obtain⟨av,y,aw⟩:=a2;unfold gVq at h;refine SpI Tryz.func211 fun A _=>?_;refine goL ?_;refine gP ?_;refine goC h ?_ ?_<;>intro c1 h
 ·exact goR h
 ·refine goC h ?_ ?_<;>intro c2 h
  ·refine goL ?_;obtain⟨x3,am,h⟩:=gK h;refine pX (gD (hGu _ _ _ am)) ?_;exact goR h
  ·refine goC h ?_ ?_<;>intro c4 h
   ·refine goL ?_;obtain⟨⟨⟨ae,ag,ah,ai,aj⟩,ax⟩,an,h⟩:=gK h;refine gX (gD (gKi _ _ _ an)) ?_;refine kN (fun c6=>?_) (fun c6=>?_)
    ·replace h:=jU c6 h;exact goR h
    ·replace h:=jV c6 h;refine goS ?_;refine kN (fun c7=>?_) (fun c7=>?_)
     ·replace h:=jU c7 h;exact goR h
     ·replace h:=jV c7 h;refine goS ?_;refine jH ?_;cases h;exact mM
   ·refine goC h ?_ ?_<;>intro c8 h
    ·refine goL ?_;refine gX (gD (gRc y)) ?_;refine kN (fun c9=>?_) (fun c9=>?_)
     ·replace h:=jU c9 h;exact goR h
     ·replace h:=jV c9 h;refine goS ?_;obtain⟨⟨⟨aa,ab,ac⟩,ar⟩,ad,h⟩:=gK h;refine gX (gD (hN4 _ _ _ ad)) ?_;refine kN (fun f=>?_) (fun f=>?_)
      ·replace h:=jU f h;exact goR h
      ·replace h:=jV f h;refine goS ?_;refine kN (fun q=>?_) (fun q=>?_)
       ·replace h:=jU q h;exact goR h
       ·replace h:=jV q h;refine goS ?_;refine jH ?_;cases h;exact mM
    ·refine goS ?_;refine jH ?_;cases h;exact mM
def gOf(f:gF)(a1:gF):Option (Bool):=
bnd (wV f) fun q=>
bnd (hPu a1 q) fun y=>
bnd (hAo f y) fun x3=>
(some x3.2)
theorem hBj(f:gF)(a1:gF){r:Bool}(h:gOf f a1=some r):gW Tryz.prog 157 [.d (kT f),.d (kT a1)] [.b r]:=by
 obtain⟨ab,ac,ad⟩:=f;obtain⟨ae,ag,ah⟩:=a1;unfold gOf at h;refine SpI Tryz.func157 fun A _=>?_;refine goL ?_;obtain⟨x1,q,h⟩:=gK h;refine wC (gD (gCw _ q)) ?_;obtain⟨⟨ai,aj,ak⟩,y,h⟩:=gK h;refine wC (gD (hLg _ _ y)) ?_;obtain⟨⟨al,am⟩,aa,h⟩:=gK h;refine wC (gD (hQ5 _ _ aa)) ?_;exact goR h
def wG(a0:gG)(y:jF × Bool):LS→(List gN)→Option (List gN × Int)
 | [],q=>(some (q,0))
 | x9::xs,q=>bnd (gL5 a0 y.1.where_ (gU.mk x9 y.1.head)) fun f=>
(cnd (f.2 != 0) (some ([],f.2)) (
gd (q.length+[f.1].length≤4294967296) (
wG a0 y xs (q++[f.1]))))
def gAq(f:gG)(a1:gI):Option (List gN × Int):=
bnd (yZ f a1) fun q=>
(cnd (!q.2) (some ([],1)) (
lt_ (uC f q.1.trait) fun y=>
wG f q y.1.supertraits []))
theorem gIz(a0:gG)(a1:gI){r:List gN × Int}(h:gAq a0 a1=some r):gW Tryz.prog 89 [.d (jX a0),.d (qQ a1)] [.sl 5 (mD r.1),.i .i64 r.2]:=by
 obtain⟨ar⟩:=a0;obtain⟨a4,a5⟩:=a1;unfold gAq at h;refine SpI Tryz.func89 fun A _=>?_;refine goL ?_;obtain⟨⟨⟨ag,am,⟨y,aa,ab⟩,an,ao,ap,⟨ac,ad,ae⟩,aq⟩,a6⟩,ba,h⟩:=gK h;refine gX (gD (gDx _ _ ba)) ?_;refine kN (fun c2=>?_) (fun c2=>?_)
 ·replace h:=jU c2 h;refine goL ?_;refine qO ?_;refine goL ?_;refine jS 3 rfl rfl ?_;refine jH ?_;cases h;exact mM
 ·replace h:=jV c2 h;refine goS ?_;obtain⟨⟨⟨au,ah,av,aw,ax⟩,bh,bi⟩,bc,h⟩:=pI h;have sx3:=gDt (gG.mk ar) ag;rw [bc] at sx3;refine gX (gD (sx3)) ?_;refine qO ?_;refine goL ?_;refine noB ?_;refine pG 3 1 (fun z7=>?_);refine kQ (fun(y6:Nat)(y4:List gN)(v5:Nat)=>⟨[(2,.ptr 0 0),(6,.ptr 2 0),(8,.ptr 3 0),(11,.sl 4 v5),(12,.N y6)],[bPr ar,.box [.I a4,.I a5],bIn ag am y aa ab an ao ap ac ad ae aq,bTr au ah av aw ax,.arr 106 5 v5 (mD y4)],Tryz.f89.ntmps⟩) (fun y6 y4 v5=>wG (gG.mk ar) ((jF.mk ag am (gF.mk y aa ab) an ao ap (gF.mk ac ad ae) aq),a6) (ah.drop y6) y4=some r) (fun y6 y4 v5=>ah.length - y6) 0 [] 0 eJ h ?_;rintro y6 y4 v5 h;refine goL ?_;refine kN (fun c8=>?_) (fun c8=>?_)
  ·have al:=qB c8;obtain⟨x9,be,a7⟩:=drop_at al;rw [a7,wG.eq_2] at h;refine noS ?_;refine kC (gP ?_);refine sZ 1 ?_;refine goW ?_;refine kR (fun _=>gV y6 (gN4 be)) ?_;refine goW ?_;obtain⟨⟨⟨ai,aj,⟨f,q⟩,ak⟩,bf⟩,a8,h⟩:=gK h;refine kR (fun _=>gD (gU1 _ _ _ a8)) ?_;refine goW ?_;refine jY ?_;refine goC h ?_ ?_<;>intro bj h
   ·refine goL ?_;refine qO ?_;refine goL ?_;refine jS 6 rfl rfl ?_;refine jH ?_;cases h;exact mM
   ·refine goS ?_;refine uN (u:=(.st [.i .i64 ai,.i .i64 aj,.st [.i .i64 f,.i .i64 q],.sl 5 (mD ak)])) ?_;obtain⟨bg,h⟩:=mI h;refine vR bg ?_;refine goL ?_;refine gX (jK y6 (by omega)) ?_;exact⟨(y6+1),(y4++[(gN.mk ai aj (gI.mk f q) ak)]),(v5+1),h,by omega,eJ⟩
  ·have al:=qC c8;rw [gT al,wG.eq_1] at h;refine goX ?_;refine jS 4 rfl rfl ?_;refine jH ?_;cases h;exact mM
def gKv(f:gG→(List gU)→gF→Int→Option (gF × Int))(a0:gG)(a1:List gU)(a3:Int):List gF→(List gF)→Option (List gF × Int)
 | [],q=>(some (q,0))
 | x6::xs,q=>bnd (f a0 a1 x6 a3) fun y=>
(cnd (y.2 != 0) (some ([],y.2)) (
gd (q.length+[y.1].length≤4294967296) (
gKv f a0 a1 a3 xs (q++[y.1]))))
def gY6(q:gG→(List gU)→(List gF)→Int→Option (List gF × Int))(f:gG→(List gU)→gF→Int→Option (gF × Int))(y:gG)(a1:List gU)(a2:List gF)(a3:Int):Option (List gF × Int):=
gKv f y a1 a3 a2 []
def gY7(f:gG→(List gU)→(List gF)→Int→Option (List gF × Int)):Prop:=∀(q:gG)(y:List gU)(x2:List gF)(x3:Int){r:List gF × Int},f q y x2 x3=some r→gW Tryz.prog 270 [.d (jX q),.L 4 (kM y),.L 3 (jJ x2),.I x3] [.sl 3 (jJ r.1),.i .i64 r.2]
def gM7(f:gG→(List gU)→gF→Int→Option (gF × Int)):Prop:=∀(q:gG)(y:List gU)(x2:gF)(x3:Int){r:gF × Int},f q y x2 x3=some r→gW Tryz.prog 240 [.d (jX q),.L 4 (kM y),.d (kT x2),.I x3] [kT r.1,.i .i64 r.2]
theorem hPi{q}{f}(ae:gY7 q)(y:gM7 f)(a0:gG)(a1:List gU)(a2:List gF)(a3:Int){r:List gF × Int}(h:gY6 q f a0 a1 a2 a3=some r):gW Tryz.prog 270 [.d (jX a0),.L 4 (kM a1),.L 3 (jJ a2),.I a3] [.sl 3 (jJ r.1),.i .i64 r.2]:=by
 obtain⟨ah⟩:=a0;unfold gY6 at h;refine SpI Tryz.func270 fun A _=>?_;refine goL ?_;refine qO ?_;refine goL ?_;refine noB ?_;refine gB0 2 (fun z4=>?_);refine kQ (fun(y3:Nat)(y1:List gF)(v2:Nat)=>⟨[(1,.L 4 (kM a1)),(2,.L 3 (jJ a2)),(3,.I a3),(4,.ptr 0 0),(10,.sl 1 v2),(11,.N y3)],[bPr ah,.arr 43 3 v2 (jJ y1)],Tryz.f270.ntmps⟩) (fun y3 y1 v2=>gKv f (gG.mk ah) a1 a3 (a2.drop y3) y1=some r) (fun y3 y1 v2=>a2.length - y3) 0 [] 0 eJ h ?_;rintro y3 y1 v2 h;refine goL ?_;refine kN (fun c5=>?_) (fun c5=>?_)
 ·have aa:=qB c5;obtain⟨x6,ap,al⟩:=drop_at aa;rw [al,gKv.eq_2] at h;obtain⟨ar,au,av⟩:=x6;refine noS ?_;refine kC (gP ?_);refine sZ 1 ?_;refine goW ?_;refine kR (fun _=>gV y3 (gAw ap)) ?_;refine goW ?_;obtain⟨⟨⟨ab,ac,ad⟩,aw⟩,aq,h⟩:=gK h;refine kR (fun _=>gD (y _ _ _ _ aq)) ?_;refine goW ?_;refine jY ?_;refine goC h ?_ ?_<;>intro c8 h
  ·refine goL ?_;refine qO ?_;refine goL ?_;refine jS 3 rfl rfl ?_;refine jH ?_;cases h;exact mM
  ·refine goS ?_;refine uN (u:=(.st [.i .i64 ab,.s ac,.sl 3 (jJ ad)])) ?_;obtain⟨g9,h⟩:=mI h;refine vR g9 ?_;refine goL ?_;refine gX (jK y3 (by omega)) ?_;exact⟨(y3+1),(y1++[(gF.mk ab ac ad)]),(v2+1),h,by omega,eJ⟩
 ·have aa:=qC c5;rw [gT aa,gKv.eq_1] at h;refine goX ?_;refine jS 1 rfl rfl ?_;refine jH ?_;cases h;exact mM
def gQp(q:gG→(List gU)→(List gF)→Int→Option (List gF × Int))(f:gG→(List gU)→gF→Int→Option (gF × Int))(a0:gG)(a1:List gU)(y:gF)(a3:Int):Option (gF × Int):=
bnd (q a0 a1 y.args a3) fun x1=>
(cnd (x1.2 != 0) (some ((gF.mk 0 [] []),x1.2)) (cnd (decide ((tsz (gF.mk y.kind y.name x1.1)) > 400)) (some ((gF.mk 0 [] []),2)) (
lt_ (cnd (y.kind != 3) (true) ((x1.1.length:Int) != 1)) fun b4=>
(cnd b4 (some ((gF.mk y.kind y.name x1.1),0)) (cnd (a3==0) (some ((gF.mk 0 [] []),2)) (
bnd (at? x1.1 0) fun x8=>
bnd (gL5 a0 a1 (gU.mk y.name x8)) fun x9=>
(cnd (x9.2 != 0) (some ((gF.mk 0 [] []),1)) (cnd (x9.1.kind != 1) (some ((gF.mk y.kind y.name x1.1),0)) (
bnd (gMf a0 x9.1.at_ x8) fun ab=>
(cnd (!ab.2) (some ((gF.mk 0 [] []),1)) (
bnd (f a0 a1 ab.1 (IntKind.i64.wrap (a3 - 1))) fun ac=>
some (ac.1,ac.2))))))))))))
theorem hDk{q}{f}(aa:gY7 q)(y:gM7 f)(a0:gG)(a1:List gU)(a2:gF)(a3:Int){r:gF × Int}(h:gQp q f a0 a1 a2 a3=some r):gW Tryz.prog 240 [.d (jX a0),.L 4 (kM a1),.d (kT a2),.I a3] [kT r.1,.i .i64 r.2]:=by
 obtain⟨ak⟩:=a0;obtain⟨ab,ac,al⟩:=a2;unfold gQp at h;refine SpI Tryz.func240 fun A _=>?_;refine goL ?_;obtain⟨⟨ad,bf⟩,a7,h⟩:=gK h;refine gX (gD (aa _ _ _ _ a7)) ?_;refine kN (fun c2=>?_) (fun c2=>?_)
 ·replace h:=jU c2 h;refine goL ?_;refine uX (jI TBd.h TZ.h rfl (by repeat constructor)) ?_;exact goR h
 ·replace h:=jV c2 h;refine goS ?_;refine gC1 (jI TBd.h TZ.h rfl (by repeat constructor)) ?_;refine gX (gD (gCi (gF.mk ab ac ad))) ?_;refine kN (fun c3=>?_) (fun c3=>?_)
  ·replace h:=jU c3 h;refine goL ?_;refine uX (jI TBd.h TZ.h rfl (by repeat constructor)) ?_;exact goR h
  ·replace h:=jV c3 h;refine goS ?_;obtain⟨b4,hb4,h⟩:=pI h;refine kG ⟨[(1,.L 4 (kM a1)),(3,.I a3),(4,.ptr 0 0),(6,.ptr 1 0),(8,.ptr 2 0),(10,.L 3 (jJ ad)),(12,.ptr 3 0),(47,.B b4)],[bPr ak,bTy ab ac al,.box [.I 0,.S [],.nilsl],bTy ab ac ad],Tryz.f240.ntmps⟩ ?_ ?_
   ·refine uJ 43 (fun c5=>?_) (fun c5=>?_) (by first | rfl | (simp only [jG,gQ];rfl))
    ·replace hb4:=jU c5 hb4;refine goL ?_;cases hb4;exact⟨rfl,⟨⟨rfl,rfl⟩,⟨rfl,rfl⟩,⟨rfl,rfl⟩,⟨rfl,rfl⟩,⟨rfl,rfl⟩,⟨rfl,rfl⟩,⟨rfl,rfl⟩,⟨by first | rfl | (simp only [jG,gQ];rfl),rfl⟩,trivial⟩,⟨_,rfl⟩,rfl⟩
    ·replace hb4:=jV c5 hb4;refine goL ?_;cases hb4;exact⟨rfl,⟨⟨rfl,rfl⟩,⟨rfl,rfl⟩,⟨rfl,rfl⟩,⟨rfl,rfl⟩,⟨rfl,rfl⟩,⟨rfl,rfl⟩,⟨rfl,rfl⟩,⟨by first | rfl | (simp only [jG,gQ];rfl),rfl⟩,trivial⟩,⟨_,rfl⟩,rfl⟩
   refine goC h ?_ ?_<;>intro c6 h
   ·exact goR h
   ·refine goS ?_;refine kN (fun c7=>?_) (fun c7=>?_)
    ·replace h:=jU c7 h;refine goL ?_;refine uX (jI TBd.h TZ.h rfl (by repeat constructor)) ?_;exact goR h
    ·replace h:=jV c7 h;refine noS ?_;refine sZ 1 ?_;refine goW ?_;obtain⟨x8,ae,h⟩:=gK h;obtain⟨ag,ae⟩:=yY ae;obtain⟨bg,bh,bi⟩:=x8;refine kR (fun _=>kY ag (gAw ae)) ?_;refine goW ?_;obtain⟨⟨⟨aw,ax,⟨ai,aj⟩,ay⟩,bj⟩,bc,h⟩:=gK h;refine kR (fun _=>gD (gU1 _ _ _ bc)) ?_;refine goW ?_;refine jY ?_;refine goC h ?_ ?_<;>intro bm h
     ·refine goL ?_;refine uX (jI TBd.h TZ.h rfl (by repeat constructor)) ?_;exact goR h
     ·refine goS ?_;refine kN (fun ah=>?_) (fun ah=>?_)
      ·replace h:=jU ah h;exact goR h
      ·replace h:=jV ah h;refine noS ?_;refine sZ 1 ?_;refine goW ?_;refine kR (fun _=>kY ag (gAw ae)) ?_;refine goW ?_;obtain⟨⟨⟨am,an,ao⟩,bd⟩,ap,h⟩:=gK h;refine kR (fun _=>gD (gXt _ _ _ ap)) ?_;refine goW ?_;refine jY ?_;refine goC h ?_ ?_<;>intro bn h
       ·refine goL ?_;refine uX (jI TBd.h TZ.h rfl (by repeat constructor)) ?_;exact goR h
       ·refine goS ?_;refine pX (pR) ?_;obtain⟨⟨⟨aq,ar,au⟩,be⟩,av,h⟩:=gK h;refine pX (gD (y _ _ _ _ av)) ?_;exact goR h
mutual
def gY8:Nat→gG→(List gU)→(List gF)→Int→Option (List gF × Int)
 | 0,_,_,_,_=>none
 | n+1,f,q,y,x3=>gY6 (gY8 n) (gKw n) f q y x3
def gKw:Nat→gG→(List gU)→gF→Int→Option (gF × Int)
 | 0,_,_,_,_=>none
 | n+1,f,q,y,x3=>gQp (gY8 n) (gKw n) f q y x3
end
theorem hJ4:∀(n:Nat),gY7 (gY8 n)∧gM7 (gKw n):=by
 intro n
 induction n with
 | zero=>exact⟨(by intro f q y x3 r h;cases h),(by intro f q y x3 r h;cases h)⟩
 | succ n ih=>
   obtain⟨ih0,ih1⟩:=ih;refine⟨(fun f q y x3 r h=>hPi ih0 ih1 f q y x3 h),(fun f q y x3 r h=>hDk ih0 ih1 f q y x3 h)⟩
theorem hDm:∀(n:Nat),gM7 (gKw n):=fun n=>(hJ4 n).2
def gI0(f:gY)(a1:LS):LS→Option (Bool)
 | []=>bnd (gEy f) fun q=>
(some q)
 | y::xs=>(cnd (!(wM a1 y)) (some false) (
gI0 f a1 xs ))
def gOg(f:gY)(a1:LS):Option (Bool):=
bnd (gJ2 f) fun q=>
gI0 f a1 q
theorem gVr(a0:gY)(a1:LS){r:Bool}(h:gOg a0 a1=some r):gW Tryz.prog 262 [.d (vX a0),.L 1 (kD a1)] [.b r]:=by
 obtain⟨ac,ad,ae,ag,⟨q,y,aa⟩,ah,ai⟩:=a0;unfold gOg at h;refine SpI Tryz.func262 fun A _=>?_;refine goL ?_;obtain⟨x1,am,h⟩:=gK h;refine gX (gD (gT4 _ am)) ?_;refine noB ?_;refine gB0 5 (fun z3=>?_);refine kZ (fun(y2:Nat)=>⟨[(1,.L 1 (kD a1)),(2,.ptr 0 0),(5,.L 1 (kD x1)),(6,.N y2)],[bEx ac ad ae ag q y aa ah ai],Tryz.f262.ntmps⟩) (fun y2=>gI0 (gY.mk ac ad ae ag (gF.mk q y aa) ah ai) a1 (x1.drop y2)  =some r) (fun y2=>x1.length - y2) 0 eJ h ?_;rintro y2 h;refine goL ?_;refine kN (fun c4=>?_) (fun c4=>?_)
 ·have f:=qB c4;obtain⟨x5,ao,aj⟩:=drop_at f;rw [aj,gI0.eq_2] at h;refine noS ?_;refine kC (gP ?_);refine goL ?_;refine gX (gV y2 (gN4 ao)) ?_;refine gX (gD (gC5 a1 x5)) ?_;refine kN (fun c6=>?_) (fun c6=>?_)
  ·replace h:=jU c6 h;exact goR h
  ·replace h:=jV c6 h;refine goS ?_;refine gX (jK y2 (by omega)) ?_;exact⟨(y2+1),h,by omega,eJ⟩
 ·have f:=qC c4;rw [gT f,gI0.eq_1] at h;refine goX ?_;obtain⟨x7,aq,h⟩:=gK h;refine pX (gD (gMb _ aq)) ?_;exact goR h
def yJ(q:jW):List mJ→LS→Option (Bool)
 | [],f=>bnd (cnd (pF q.name) (bnd (zY q.vars 3) fun aa=>
(cnd aa (cnd (decide ((f.length:Int) > 0)) (bnd (zY f 5) fun ab=>
some ab) (some false)) (some false))) (some false)) fun ac=>
(some ac)
 | y::xs,f=>bnd (cnd (decide ((y.fields.length:Int) > 4)) (some true) (bnd (gUf y.fields q.vars) fun x9=>
some (!x9))) fun b7=>
(cnd b7 (some false) (
gd (f.length+[y.name].length≤4294967296) (
yJ q xs (f++[y.name]))))
def gC8(f:jW):Option (Bool):=
yJ f f.constructors []
theorem gLt(a0:jW){r:Bool}(h:gC8 a0=some r):gW Tryz.prog 208 [.d (gAf a0)] [.b r]:=by
 obtain⟨q,aa,f⟩:=a0;unfold gC8 at h;refine SpI Tryz.func208 fun A _=>?_;refine goL ?_;refine gFh ?_;refine goL ?_;refine noB ?_;refine pG 0 2 (fun z4=>?_);refine kQ (fun(y3:Nat)(y1:LS)(v2:Nat)=>⟨[(1,.ptr 0 0),(3,.sl 1 v2),(4,.N y3)],[bDa q aa f,.own 9 1 v2 (kD y1)],Tryz.f208.ntmps⟩) (fun y3 y1 v2=>yJ (jW.mk q aa f) (f.drop y3) y1=some r) (fun y3 y1 v2=>f.length - y3) 0 [] 0 eJ h ?_;rintro y3 y1 v2 h;refine goL ?_;refine kN (fun c5=>?_) (fun c5=>?_)
 ·have y:=qB c5;obtain⟨x6,ag,ah⟩:=drop_at y;rw [ah,yJ.eq_2] at h;obtain⟨ae,aq⟩:=x6;refine noS ?_;refine kC (gP ?_);refine gCj ?_;obtain⟨b7,hb7,h⟩:=gK h;refine qN (P:=Tryz.prog) Mix.h ⟨[(1,.ptr 0 0),(3,.sl 1 v2),(4,.N y3),(32,.B b7)],[bDa q aa f,.own 9 1 v2 (kD y1)],Tryz.f208.ntmps⟩ (by kernel_rfl) ?_ ?_
  ·refine goL ?_;refine wC (gV y3 (qA ag)) ?_;refine goL ?_;refine qE 21 (fun c8=>?_) (fun c8=>?_)
   ·replace hb7:=jU c8 hb7;refine goL ?_;cases hb7;exact eJ
   ·replace hb7:=jV c8 hb7;refine goL ?_;refine wN (gV y3 (qA ag)) ?_;refine goL ?_;obtain⟨x9,an,hb7⟩:=gK hb7;refine wN (gD (hFj _ _ an)) ?_;refine goL ?_;cases hb7;exact eJ
  refine goC h ?_ ?_<;>intro av h
  ·exact goR h
  ·refine goS ?_;refine gX (gV y3 (qA ag)) ?_;refine gAz ae ?_;obtain⟨ao,h⟩:=mI h;refine gDj ao ?_;refine goL ?_;refine gX (jK y3 (by omega)) ?_;exact⟨(y3+1),(y1++[ae]),(v2+1),h,by omega,eJ⟩
 ·have y:=qC c5;rw [gT y,yJ.eq_1] at h;refine goX ?_;refine gX (gD (uB q)) ?_;obtain⟨ap,hb12,h⟩:=gK h;refine kG ⟨[(2,.B ap)],[bDa q aa f,.own 9 1 v2 (kD y1)],Tryz.f208.ntmps⟩ ?_ ?_
  ·refine gqA 45 hb12 (fun aw hb12=>?_);obtain⟨ax,ai,hb12⟩:=gK hb12;refine gX (gD (gBs _ _ ai)) ?_;refine gqA 50 hb12 (fun ay hb12=>?_);refine gqA 55 hb12 (fun a2 hb12=>?_);obtain⟨a3,aj,hb12⟩:=gK hb12;refine gC1 (gUn (gBs y1 5 aj)) ?_;cases hb12;exact eJ
  exact goR h
def gGm(f:gG→Int→gF→Option (Int))(a0:gG)(a1:Int)(y:gF):Nat→Int→Int→Option (Int)
 | 0,y2,q=>none
 | n4+1,y2,q=>lt_ (cnd (decide (q < (y.args.length:Int))) (y2==0) (false)) fun b5=>
(cnd b5 (
bnd (at? y.args q) fun x8=>
bnd (f a0 a1 x8) fun x9=>
gGm f a0 a1 y n4 x9 (IntKind.i64.wrap (q+1))) (some y2))
def gOh(f:gG→Int→gF→Option (Int))(q:gG)(a1:Int)(y:gF)(n0:Nat):Option (Int):=
bnd (gVq q a1 y) fun x1=>
gGm f q a1 y n0 x1 0
theorem hBk{f:gG→Int→gF→Option (Int)}(q:∀(x0:gG)(x1:Int)(x2:gF){r:Int},f x0 x1 x2=some r→gW Tryz.prog 154 [.d (jX x0),.I x1,.d (kT x2)] [.i .i64 r])(a0:gG)(a1:Int)(a2:gF){n0:Nat}{r:Int}(h:gOh f a0 a1 a2 n0=some r):gW Tryz.prog 154 [.d (jX a0),.I a1,.d (kT a2)] [.i .i64 r]:=by
 obtain⟨y⟩:=a0;obtain⟨aa,ab,ac⟩:=a2;unfold gOh at h;refine SpI Tryz.func154 fun A _=>?_;refine goL ?_;obtain⟨x1,am,h⟩:=gK h;refine gX (gD (hJ1 _ _ _ am)) ?_;refine noB ?_;refine kQ (fun(n4:Nat)(y2:Int)(y3:Int)=>⟨[(1,.I a1),(3,.ptr 0 0),(5,.ptr 1 0),(7,.I y2),(8,.I y3)],[bPr y,bTy aa ab ac],Tryz.f154.ntmps⟩) (fun n4 y2 y3=>gGm f (gG.mk y) a1 (gF.mk aa ab ac) n4 y2 y3=some r) (fun n4 y2 y3=>n4) n0 x1 0 eJ h ?_;rintro n4 y2 y3 h;rcases n4 with _ | n4
 ·cases h
 rw [gGm.eq_2] at h;refine goL ?_;obtain⟨b5,hb5,h⟩:=pI h;refine kG ⟨[(1,.I a1),(3,.ptr 0 0),(5,.ptr 1 0),(7,.I y2),(8,.I y3),(21,.B b5)],[bPr y,bTy aa ab ac],Tryz.f154.ntmps⟩ ?_ ?_
 ·exact gqZ 18 hb5
 refine goC h ?_ ?_<;>intro c7 h
 ·refine noS ?_;refine kC (gP ?_);refine goL ?_;obtain⟨x8,ag,h⟩:=gK h;obtain⟨ai,ag⟩:=yY ag;obtain⟨ar,au,av⟩:=x8;refine wC (kY ai (gAw ag)) ?_;refine goL ?_;obtain⟨x9,an,h⟩:=gK h;refine wC (gD (q _ _ _ an)) ?_;refine goL ?_;refine gX (pR) ?_;exact⟨n4,x9,(IntKind.i64.wrap (y3+1)),h,Nat.lt_succ_self _,eJ⟩
 ·refine goX ?_;refine jH ?_;cases h;exact mM
def zP:Nat→gG→Int→gF→Option (Int)
 | 0,_,_,_=>none
 | n+1,f,q,y=>gOh (zP n) f q y n
theorem gBz:∀(n:Nat)(f:gG)(q:Int)(y:gF){r:Int},zP n f q y=some r→gW Tryz.prog 154 [.d (jX f),.I q,.d (kT y)] [.i .i64 r]:=by
 intro n
 induction n with
 | zero=>intro f q y r h;cases h
 | succ n ih=>intro f q y r h;exact hBk ih f q y h
def gHw(f:jF)(a1:jF):Option (Bool):=
bnd (cnd (!(f.trait==a1.trait)) (some true) (bnd (gOf f.head a1.head) fun y=>
some (!y))) fun b1=>
(cnd b1 (some true) (
bnd (yP f.head a1.head) fun x5=>
bnd (cnd x5 (cnd a1.default_ (some true) (bnd (yP a1.head f.head) fun x9=>
cnd x9 (some f.default_) (some false))) (bnd (yP a1.head f.head) fun q=>
cnd q (some f.default_) (some false))) fun b6=>
some b6))
theorem gSs(a0:jF)(a1:jF){r:Bool}(h:gHw a0 a1=some r):gW Tryz.prog 106 [.d (vY a0),.d (vY a1)] [.b r]:=by
 obtain⟨ak,al,⟨f,q,y⟩,am,an,ao,⟨aa,ab,ac⟩,ap⟩:=a0;obtain⟨aq,ar,⟨ad,ae,ag⟩,au,av,aw,⟨ah,ai,aj⟩,ax⟩:=a1;unfold gHw at h;refine SpI Tryz.func106 fun A _=>?_;refine goL ?_;obtain⟨b1,hb1,h⟩:=gK h;refine kG ⟨[(2,.ptr 0 0),(3,.ptr 1 0),(17,.B b1)],[bIn ak al f q y am an ao aa ab ac ap,bIn aq ar ad ae ag au av aw ah ai aj ax],Tryz.f106.ntmps⟩ ?_ ?_
 ·refine gqO 10 hb1 (fun c2 hb1=>?_);obtain⟨x3,a3,hb1⟩:=gK hb1;refine gX (gD (hBj _ _ a3)) ?_;cases hb1;exact eJ
 refine goC h ?_ ?_<;>intro c4 h
 ·exact goR h
 ·refine goS ?_;obtain⟨x5,a4,h⟩:=gK h;refine gX (gD (gG7 _ _ a4)) ?_;obtain⟨b6,hb6,h⟩:=gK h;refine kG ⟨[(4,.B b6)],[bIn ak al f q y am an ao aa ab ac ap,bIn aq ar ad ae ag au av aw ah ai aj ax],Tryz.f106.ntmps⟩ ?_ ?_
  ·refine gqV 23 hb6 ?_ ?_<;>intro c7 hb6
   ·refine gqO 27 hb6 (fun c8 hb6=>?_);obtain⟨x9,a5,hb6⟩:=gK hb6;refine gX (gD (gG7 _ _ a5)) ?_;exact gqZ 33 hb6
   ·obtain⟨a8,ay,hb6⟩:=gK hb6;refine gX (gD (gG7 _ _ ay)) ?_;exact gqZ 33 hb6
  exact goR h
def gVs(f:gG)(a1:gI)(a2:List gI):Option (Int):=
bnd (yZ f a1) fun q=>
bnd (cnd (!q.2) (some true) (bnd (gC4 f a1) fun x4=>
some (!x4))) fun b2=>
(cnd b2 (some 1) (cnd (gUi a2 a1) (some 2) (
bnd (gCg q.1) fun x7=>
(cnd (!x7) (some 3) (
bnd (gDn q.1) fun x9=>
(cnd (!x9) (some 4) (
bnd (gAq f a1) fun y=>
cnd (y.2 != 0) (some 5) (some 0))))))))
theorem hJ5(a0:gG)(a1:gI)(a2:List gI){r:Int}(h:gVs a0 a1 a2=some r):gW Tryz.prog 69 [.d (jX a0),.d (qQ a1),.L 2 (mG a2)] [.i .i64 r]:=by
 obtain⟨ao⟩:=a0;obtain⟨ak,al⟩:=a1;unfold gVs at h;refine SpI Tryz.func69 fun A _=>?_;refine goL ?_;obtain⟨⟨⟨ad,ae,⟨f,q,y⟩,ag,ah,ai,⟨aa,ab,ac⟩,aj⟩,a6⟩,au,h⟩:=gK h;refine gX (gD (gDx _ _ au)) ?_;refine kC (gP ?_);refine goL ?_;obtain⟨b2,hb2,h⟩:=gK h;refine kG ⟨[(2,.L 2 (mG a2)),(3,.ptr 0 0),(4,.ptr 1 0),(7,.ptr 2 0),(17,.B b2)],[bPr ao,.box [.I ak,.I al],bIn ad ae f q y ag ah ai aa ab ac aj],Tryz.f69.ntmps⟩ ?_ ?_
 ·refine gqO 20 hb2 (fun c3 hb2=>?_);obtain⟨x4,av,hb2⟩:=gK hb2;refine gX (gD (gN2 _ _ av)) ?_;cases hb2;exact eJ
 refine goC h ?_ ?_<;>intro c5 h
 ·exact goR h
 ·refine goL ?_;refine gX (gD (hPr a2 (gI.mk ak al))) ?_;refine kN (fun c6=>?_) (fun c6=>?_)
  ·replace h:=jU c6 h;exact goR h
  ·replace h:=jV c6 h;refine goL ?_;obtain⟨x7,ax,h⟩:=gK h;refine gX (gD (gNj _ ax)) ?_;refine kN (fun c8=>?_) (fun c8=>?_)
   ·replace h:=jU c8 h;exact goR h
   ·replace h:=jV c8 h;refine goL ?_;obtain⟨x9,a3,h⟩:=gK h;refine gX (gD (gOc _ a3)) ?_;refine kN (fun am=>?_) (fun am=>?_)
    ·replace h:=jU am h;exact goR h
    ·replace h:=jV am h;refine goS ?_;obtain⟨⟨a4,a5⟩,ap,h⟩:=gK h;refine gX (gD (gIz _ _ ap)) ?_;refine kN (fun an=>?_) (fun an=>?_)
     ·replace h:=jU an h;exact goR h
     ·replace h:=jV an h;refine goS ?_;refine jH ?_;cases h;exact mM
def gI1(q:gG)(a1:List gU)(y:gF):Option (gF × Int):=
bnd (gKw 100000 q a1 y 12) fun f=>
(some (f.1,f.2))
theorem gOi(a0:gG)(a1:List gU)(a2:gF){r:gF × Int}(h:gI1 a0 a1 a2=some r):gW Tryz.prog 184 [.d (jX a0),.L 4 (kM a1),.d (kT a2)] [kT r.1,.i .i64 r.2]:=by
 obtain⟨ad⟩:=a0;obtain⟨ae,ag,ah⟩:=a2;unfold gI1 at h;refine SpI Tryz.func184 fun A _=>?_;refine goL ?_;obtain⟨⟨⟨f,q,y⟩,ai⟩,ac,h⟩:=gK h;refine pX (gD (hDm _ _ _ _ _ ac)) ?_;exact goR h
def vG(q:gG→gJ→Int→Option (gJ × Bool))(f:gG→(List gJ)→gN→Option (gJ × Bool))(a0:gG)(a1:gJ)(y:Int):Option (gJ × Bool):=
(cnd (decide (y < 0)) (some ((gJ.mk 0 (gI.mk 0 0) [] []),false)) (cnd (a1.kind==2) (
gd (W (jP a1)≤4294967296) (lt_ (idX a1) fun x4=>
gd (x4.steps.length+[y].length≤4294967296) (some ((gJ.mk x4.kind x4.at_ (x4.steps++[y]) x4.args),true)))) (cnd (a1.kind==1) (
bnd (gAq a0 a1.at_) fun x7=>
lt_ (cnd (x7.2 != 0) (true) (decide (y≥(x7.1.length:Int)))) fun b8=>
(cnd b8 (some ((gJ.mk 0 (gI.mk 0 0) [] []),false)) (
bnd (at? x7.1 y) fun ad=>
bnd (f a0 a1.args ad) fun ab=>
some (ab.1,ab.2)))) (some ((gJ.mk 0 (gI.mk 0 0) [] []),false)))))
def gCb(f:gG→gJ→Int→Option (gJ × Bool)):Prop:=∀(q:gG)(y:gJ)(x2:Int){r:gJ × Bool},f q y x2=some r→gW Tryz.prog 60 [.d (jX q),.d (jP y),.I x2] [jP r.1,.b r.2]
def gGn(f:gG→(List gJ)→gN→Option (gJ × Bool)):Prop:=∀(q:gG)(y:List gJ)(x2:gN){r:gJ × Bool},f q y x2=some r→gW Tryz.prog 35 [.d (jX q),.L 5 (jQ y),.d (wS x2)] [jP r.1,.b r.2]
theorem gM8{f}{q}(aa:gCb f)(y:gGn q)(a0:gG)(a1:gJ)(a2:Int){r:gJ × Bool}(h:vG f q a0 a1 a2=some r):gW Tryz.prog 60 [.d (jX a0),.d (jP a1),.I a2] [jP r.1,.b r.2]:=by
 obtain⟨al⟩:=a0;obtain⟨ae,⟨ab,ac⟩,ag,ah⟩:=a1;unfold vG at h;refine SpI Tryz.func60 fun A _=>?_;refine goL ?_;refine kC (gP ?_);refine goC h ?_ ?_<;>intro c1 h
 ·refine goL ?_;refine uX (jI TBd.h TZ.h rfl (by repeat constructor)) ?_;exact goR h
 ·refine goC h ?_ ?_<;>intro c2 h
  ·refine goL ?_;obtain⟨g3,h⟩:=mI h;obtain⟨⟨ba,⟨aw,ax⟩,bb,bc⟩,a3,h⟩:=pI h;have sx4:=gUx (gJ.mk ae (gI.mk ab ac) ag ah) g3;rw [a3] at sx4;refine gO9 (sx4) ?_;refine goL ?_;refine gAz a2 ?_;obtain⟨g5,h⟩:=mI h;refine gDj g5 ?_;refine goL ?_;refine qW 3 rfl rfl ?_;refine qW 4 rfl rfl ?_;refine jH ?_;cases h;exact mM
  ·refine goC h ?_ ?_<;>intro c6 h
   ·refine goL ?_;obtain⟨⟨am,bd⟩,a4,h⟩:=gK h;refine gX (gD (gIz _ _ a4)) ?_;obtain⟨b8,hb8,h⟩:=pI h;refine kG ⟨[(2,.I a2),(3,.ptr 0 0),(4,.ptr 1 0),(6,.ptr 2 0),(9,.L 5 (mD am)),(46,.B b8)],[bPr al,.box [.I ae,.I ab,.I ac,.L 1 (yC ag),.L 5 (jQ ah)],.box [.I 0,.I 0,.I 0,.nilsl,.nilsl]],Tryz.f60.ntmps⟩ ?_ ?_
    ·exact gqZ 41 hb8
    refine goC h ?_ ?_<;>intro bh h
    ·refine goL ?_;refine uX (jI TBd.h TZ.h rfl (by repeat constructor)) ?_;exact goR h
    ·refine noS ?_;refine sZ 0 ?_;refine goW ?_;obtain⟨a5,ad,h⟩:=gK h;obtain⟨ai,ad⟩:=yY ad;obtain⟨a6,a7,⟨an,ao⟩,a8⟩:=a5;refine kR (fun _=>kY ai (gMw ad)) ?_;refine goW ?_;obtain⟨⟨⟨ap,⟨aj,ak⟩,aq,ar⟩,a9⟩,au,h⟩:=gK h;refine kR (fun _=>gD (y _ _ _ au)) ?_;refine goW ?_;refine jY ?_;exact goR h
   ·refine goS ?_;refine uX (jI TBd.h TZ.h rfl (by repeat constructor)) ?_;exact goR h
def vN(f:gG→(List gJ)→gN→Option (gJ × Bool))(a0:gG)(a1:List gJ)(a2:gN):List gN→(List gJ)→Option (gJ × Bool)
 | [],y=>(some ((gJ.mk 1 a2.at_ [] y),true))
 | aa::xs,y=>bnd (f a0 a1 aa) fun q=>
(cnd (!q.2) (some ((gJ.mk 0 (gI.mk 0 0) [] []),false)) (
gd (y.length+[q.1].length≤4294967296) (
vN f a0 a1 a2 xs (y++[q.1]))))
def gGo(f:gG→gJ→Int→Option (gJ × Bool))(q:gG→(List gJ)→gN→Option (gJ × Bool))(a0:gG)(a1:List gJ)(y:gN):Option (gJ × Bool):=
(cnd (y.kind==2) (cnd (gBa y.n 0 (IntKind.i64.wrap ((a1.length:Int) - 1))) (
bnd (at? a1 y.n) fun x3=>
gd (W (jP x3)≤4294967296) (lt_ (idX x3) fun x5=>
some (x5,true))) (some ((gJ.mk 0 (gI.mk 0 0) [] []),false))) (cnd (y.kind==1) (
vN q a0 a1 y y.args []) (cnd (y.kind==3) (cnd ((y.args.length:Int)==1) (
bnd (at? y.args 0) fun ad=>
bnd (q a0 a1 ad) fun aa=>
(cnd aa.2 (
bnd (f a0 aa.1 y.n) fun ab=>
some (ab.1,ab.2)) (some ((gJ.mk 0 (gI.mk 0 0) [] []),false)))) (some ((gJ.mk 0 (gI.mk 0 0) [] []),false))) (cnd (y.kind==4) (some ((gJ.mk 2 (gI.mk 0 0) [] []),true)) (cnd (y.kind==5) (some ((gJ.mk 3 (gI.mk 0 0) [] []),true)) (some ((gJ.mk 0 (gI.mk 0 0) [] []),false)))))))
theorem gVt{f}{q}(aa:gCb f)(y:gGn q)(a0:gG)(a1:List gJ)(a2:gN){r:gJ × Bool}(h:gGo f q a0 a1 a2=some r):gW Tryz.prog 35 [.d (jX a0),.L 5 (jQ a1),.d (wS a2)] [jP r.1,.b r.2]:=by
 obtain⟨aq⟩:=a0;obtain⟨ar,al,⟨ad,ae⟩,ak⟩:=a2;unfold gGo at h;refine SpI Tryz.func35 fun A _=>?_;refine goL ?_;refine gP ?_;refine goC h ?_ ?_<;>intro c1 h
 ·refine goL ?_;refine pX (pR) ?_;refine gX (gD (gIv al 0 (IntKind.i64.wrap ((a1.length:Int) - 1)))) ?_;refine kN (fun c2=>?_) (fun c2=>?_)
  ·replace h:=jU c2 h;refine goL ?_;obtain⟨x3,au,h⟩:=gK h;obtain⟨a8,au⟩:=yY au;obtain⟨a9,⟨an,ao⟩,ba,bb⟩:=x3;refine gX (kY a8 (gA7 au)) ?_;obtain⟨g4,h⟩:=mI h;obtain⟨⟨ca,⟨bq,br⟩,cb,cc⟩,bw,h⟩:=pI h;have sx5:=gUx (gJ.mk a9 (gI.mk an ao) ba bb) g4;rw [bw] at sx5;refine gO9 (sx5) ?_;refine goL ?_;refine qW 3 rfl rfl ?_;refine qW 4 rfl rfl ?_;refine jH ?_;cases h;exact mM
  ·replace h:=jV c2 h;refine goS ?_;refine uX (jI TBd.h TZ.h rfl (by repeat constructor)) ?_;exact goR h
 ·refine goC h ?_ ?_<;>intro c6 h
  ·refine goL ?_;refine gC1 (jI TBd.h TZ.h rfl (by repeat constructor)) ?_;refine noB ?_;refine uA 33 5 3 4 rfl rfl (by repeat constructor) (by repeat constructor) (by repeat constructor) (by repeat constructor) ?_;show V _ _ _ _ _;refine pG 1 4 (fun cf=>?_);refine kQ (fun(y9:Nat)(y7:List gJ)(v8:Nat)=>⟨[(1,.L 5 (jQ a1)),(3,.ptr 0 0),(5,.ptr 1 0),(6,.ptr 2 0),(8,.ptr 3 0),(9,.N y9)],[bPr aq,.box [.I ar,.I al,.I ad,.I ae,.L 5 (mD ak)],.box [.I 0,.I 0,.I 0,.nilsl,.nilsl],.box [.I 1,.I ad,.I ae,.nilsl,.sl 4 v8],.arr 33 5 v8 (jQ y7)],Tryz.f35.ntmps⟩) (fun y9 y7 v8=>vN q (gG.mk aq) a1 (gN.mk ar al (gI.mk ad ae) ak) (ak.drop y9) y7=some r) (fun y9 y7 v8=>ak.length - y9) 0 [] 0 eJ h ?_;rintro y9 y7 v8 h;refine goL ?_;refine kN (fun av=>?_) (fun av=>?_)
   ·have aj:=qB av;obtain⟨bx,bc,aw⟩:=drop_at aj;rw [aw,vN.eq_2] at h;obtain⟨bz,b0,⟨bd,be⟩,b1⟩:=bx;refine noS ?_;refine kC (gP ?_);refine sZ 1 ?_;refine goW ?_;refine kR (fun _=>gV y9 (gMw bc)) ?_;refine goW ?_;obtain⟨⟨⟨ag,⟨ab,ac⟩,ah,ai⟩,b2⟩,bf,h⟩:=gK h;refine kR (fun _=>gD (y _ _ _ bf)) ?_;refine goW ?_;refine jY ?_;refine goC h ?_ ?_<;>intro cg h
    ·refine goL ?_;refine uX (jI TBd.h TZ.h rfl (by repeat constructor)) ?_;exact goR h
    ·refine goS ?_;refine uN (u:=(.st [.i .i64 ag,.st [.i .i64 ab,.i .i64 ac],.sl 1 (yC ah),.sl 5 (jQ ai)])) ?_;obtain⟨b3,h⟩:=mI h;refine vR b3 ?_;refine goL ?_;refine gX (jK y9 (by omega)) ?_;exact⟨(y9+1),(y7++[(gJ.mk ag (gI.mk ab ac) ah ai)]),(v8+1),h,by omega,eJ⟩
   ·have aj:=qC av;rw [gT aj,vN.eq_1] at h;refine goX ?_;refine jS 4 rfl rfl ?_;refine jH ?_;cases h;exact mM
  ·refine goC h ?_ ?_<;>intro ch h
   ·refine goC h ?_ ?_<;>intro ci h
    ·refine sZ 1 ?_;refine goW ?_;obtain⟨b4,am,h⟩:=gK h;obtain⟨ax,am⟩:=yY am;obtain⟨b5,b6,⟨bg,bh⟩,b7⟩:=b4;refine kR (fun _=>kY ax (gMw am)) ?_;refine goW ?_;obtain⟨⟨⟨bi,⟨ay,a3⟩,bj,bk⟩,b8⟩,bl,h⟩:=gK h;refine kR (fun _=>gD (y _ _ _ bl)) ?_;refine goW ?_;refine jY ?_;refine goC h ?_ ?_<;>intro cj h
     ·refine goL ?_;obtain⟨⟨⟨bm,⟨a4,a5⟩,bn,bo⟩,b9⟩,bp,h⟩:=gK h;refine pX (gD (aa _ _ _ bp)) ?_;exact goR h
     ·refine goS ?_;refine uX (jI TBd.h TZ.h rfl (by repeat constructor)) ?_;exact goR h
    ·refine goS ?_;refine uX (jI TBd.h TZ.h rfl (by repeat constructor)) ?_;exact goR h
   ·refine goC h ?_ ?_<;>intro ck h
    ·refine goL ?_;refine uX (jI TBd.h TZ.h rfl (by repeat constructor)) ?_;exact goR h
    ·refine goC h ?_ ?_<;>intro cl h
     ·refine goL ?_;refine uX (jI TBd.h TZ.h rfl (by repeat constructor)) ?_;exact goR h
     ·refine goS ?_;refine uX (jI TBd.h TZ.h rfl (by repeat constructor)) ?_;exact goR h
mutual
def qH:Nat→gG→gJ→Int→Option (gJ × Bool)
 | 0,_,_,_=>none
 | n+1,f,q,y=>vG (qH n) (qZ n) f q y
def qZ:Nat→gG→(List gJ)→gN→Option (gJ × Bool)
 | 0,_,_,_=>none
 | n+1,f,q,y=>gGo (qH n) (qZ n) f q y
end
theorem gMp:∀(n:Nat),gCb (qH n)∧gGn (qZ n):=by
 intro n
 induction n with
 | zero=>exact⟨(by intro f q y r h;cases h),(by intro f q y r h;cases h)⟩
 | succ n ih=>
   obtain⟨ih0,ih1⟩:=ih;refine⟨(fun f q y r h=>gM8 ih0 ih1 f q y h),(fun f q y r h=>gVt ih0 ih1 f q y h)⟩
theorem gVu:∀(n:Nat),gGn (qZ n):=fun n=>(gMp n).2
def gGp(f:gG)(a1:Int):List gF→Option (Int)
 | []=>(some 0)
 | y::xs=>bnd (zP 5000 f a1 y) fun q=>
(cnd (q != 0) (some q) (
gGp f a1 xs ))
def gPr(f:gG)(a1:Int)(q:List gF):Option (Int):=
gGp f a1 q
theorem gX6(a0:gG)(a1:Int)(a2:List gF){r:Int}(h:gPr a0 a1 a2=some r):gW Tryz.prog 153 [.d (jX a0),.I a1,.L 3 (jJ a2)] [.i .i64 r]:=by
 obtain⟨y⟩:=a0;unfold gPr at h;refine SpI Tryz.func153 fun A _=>?_;refine goL ?_;refine noB ?_;refine gB0 2 (fun z2=>?_);refine kZ (fun(q:Nat)=>⟨[(1,.I a1),(2,.L 3 (jJ a2)),(3,.ptr 0 0),(7,.N q)],[bPr y],Tryz.f153.ntmps⟩) (fun q=>gGp (gG.mk y) a1 (a2.drop q)  =some r) (fun q=>a2.length - q) 0 eJ h ?_;rintro q h;refine goL ?_;refine kN (fun c3=>?_) (fun c3=>?_)
 ·have f:=qB c3;obtain⟨x4,ae,ab⟩:=drop_at f;rw [ab,gGp.eq_2] at h;obtain⟨ah,ai,aj⟩:=x4;refine noS ?_;refine kC (gP ?_);refine goL ?_;refine wC (gV q (gAw ae)) ?_;refine goL ?_;obtain⟨x5,ag,h⟩:=gK h;refine wC (gD (gBz _ _ _ _ ag)) ?_;refine goC h ?_ ?_<;>intro c6 h
  ·exact goR h
  ·refine goS ?_;refine gX (jK q (by omega)) ?_;exact⟨(q+1),h,by omega,eJ⟩
 ·have f:=qC c3;rw [gT f,gGp.eq_1] at h;refine goX ?_;refine jH ?_;cases h;exact mM
def gM9(f:gG)(a1:Int)(q:gU):Option (Int):=
bnd (gF7 f a1 q.trait) fun y=>
(cnd (!y.2) (some 3) (
bnd (zP 5000 f a1 q.type_) fun x3=>
some x3))
theorem gY9(a0:gG)(a1:Int)(a2:gU){r:Int}(h:gM9 a0 a1 a2=some r):gW Tryz.prog 212 [.d (jX a0),.I a1,.d (gCq a2)] [.i .i64 r]:=by
 obtain⟨al⟩:=a0;obtain⟨am,⟨f,q,y⟩⟩:=a2;unfold gM9 at h;refine SpI Tryz.func212 fun A _=>?_;refine goL ?_;obtain⟨⟨⟨aa,ab,ac,ad,ae⟩,an⟩,ai,h⟩:=gK h;refine gX (gD (gKi _ _ _ ai)) ?_;refine kN (fun c2=>?_) (fun c2=>?_)
 ·replace h:=jU c2 h;exact goR h
 ·replace h:=jV c2 h;refine goS ?_;obtain⟨x3,ak,h⟩:=gK h;refine pX (gD (gBz _ _ _ _ ak)) ?_;exact goR h
def wW(a0:gG)(x1:List gI)(y2:List gI)(y4:Nat)(x7:gI)(x8:jF × Bool)(f:Option (List gI))(q:Option (List gI)):Nat→Int→Option (List gI)
 | 0,y=>none
 | aa+1,y=>(cnd (decide (y < (y4:Int))) (
bnd (at? x1 y) fun ab=>
bnd (yZ a0 ab) fun ac=>
bnd (gHw ac.1 x8.1) fun ad=>
cnd (!ad) (
gd (y2.length+[x7].length≤4294967296) (
f)) (
wW a0 x1 y2 y4 x7 x8 f q aa (IntKind.i64.wrap (y+1)))) (
q))
def pM(q:gG)(x1:List gI)(n0:Nat):List gI→Nat→(List gI)→Option (List gI)
 | [],y,f=>(some f)
 | x7::xs,y,f=>bnd (yZ q x7) fun x8=>
wW q x1 f y x7 x8 (pM q x1 n0 xs (y+1) (f++[x7])) (pM q x1 n0 xs (y+1) f) n0 0
def gCc(f:gG)(y:Nat):Option (List gI):=
bnd (gAa f) fun q=>
pM f q y q 0 []
theorem gNa(a0:gG){n0:Nat}{r:List gI}(h:gCc a0 n0=some r):gW Tryz.prog 68 [.d (jX a0)] [.sl 2 (mG r)]:=by
 obtain⟨f⟩:=a0;unfold gCc at h;refine SpI Tryz.func68 fun A _=>?_;refine goL ?_;refine qO ?_;refine goL ?_;obtain⟨x1,bl,h⟩:=gK h;refine gX (gD (gK2 _ bl)) ?_;refine noB ?_;refine gB0 4 (fun z5=>?_);refine kQ (fun(y4:Nat)(y2:List gI)(v3:Nat)=>⟨[(1,.ptr 0 0),(3,.sl 1 v3),(4,.L 2 (mG x1)),(5,.N y4)],[bPr f,.arr 29 2 v3 (mG y2)],Tryz.f68.ntmps⟩) (fun y4 y2 v3=>pM (gG.mk f) x1 n0 (x1.drop y4) y4 y2=some r) (fun y4 y2 v3=>x1.length - y4) 0 [] 0 eJ h ?_;rintro y4 y2 v3 h;refine goL ?_;refine kN (fun c6=>?_) (fun c6=>?_)
 ·have ah:=qB c6;obtain⟨x7,a9,ba⟩:=drop_at ah;rw [ba,pM.eq_2] at h;obtain⟨ai,aj⟩:=x7;refine noS ?_;refine kC (gP ?_);refine sZ 1 ?_;refine goW ?_;refine kR (fun _=>gV y4 (vQ a9)) ?_;refine goW ?_;obtain⟨⟨⟨ak,al,⟨q,y,aa⟩,am,an,ao,⟨ab,ac,ad⟩,ap⟩,bb⟩,bn,h⟩:=gK h;refine kR (fun _=>gD (gDx _ _ bn)) ?_;refine goW ?_;refine jY ?_;refine goL ?_;refine noB ?_;refine gAg (fun(ag:Nat)(y9:Int)=>⟨[(1,.ptr 0 0),(3,.sl 1 v3),(4,.L 2 (mG x1)),(5,.N y4),(6,.ptr 2 0),(8,.I y9)],[bPr f,.arr 29 2 v3 (mG y2),bIn ak al q y aa am an ao ab ac ad ap],Tryz.f68.ntmps⟩) (fun ag y9=>wW (gG.mk f) x1 y2 y4 (gI.mk ai aj) ((jF.mk ak al (gF.mk q y aa) am an ao (gF.mk ab ac ad) ap),bb) (pM (gG.mk f) x1 n0 (x1.drop (y4+1)) (y4+1) (y2++[(gI.mk ai aj)])) (pM (gG.mk f) x1 n0 (x1.drop (y4+1)) (y4+1) y2) ag y9=some r) (fun ag y9=>ag) n0 0 eJ h ?_;rintro ag y9 h;rcases ag with _ | ag
  ·cases h
  rw [wW.eq_2] at h;refine goC h ?_ ?_<;>intro bv h
  ·refine noS ?_;refine kC (gP ?_);refine sZ 1 ?_;refine goW ?_;obtain⟨bo,ar,h⟩:=gK h;obtain⟨aw,ar⟩:=yY ar;obtain⟨bp,bq⟩:=bo;refine kR (fun _=>kY aw (vQ ar)) ?_;refine goW ?_;obtain⟨⟨⟨bc,bd,⟨ax,ay,a2⟩,be,bf,bg,⟨a3,a4,a5⟩,bh⟩,br⟩,bi,h⟩:=gK h;refine kR (fun _=>gD (gDx _ _ bi)) ?_;refine goW ?_;refine jY ?_;refine goL ?_;obtain⟨bw,bj,h⟩:=gK h;refine gX (gD (gSs _ _ bj)) ?_;refine kN (fun a6=>?_) (fun a6=>?_)
   ·replace h:=jU a6 h;refine goL ?_;refine gX (gV y4 (vQ a9)) ?_;refine uN (u:=(.st [.i .i64 ai,.i .i64 aj])) ?_;obtain⟨bt,h⟩:=mI h;refine vR bt ?_;refine goL ?_;refine goX ?_;refine gX (jK y4 (by omega)) ?_;exact⟨(y4+1),(y2++[(gI.mk ai aj)]),(v3+1),h,by omega,eJ⟩
   ·replace h:=jV a6 h;refine goS ?_;refine gX (pR) ?_;exact⟨ag,(IntKind.i64.wrap (y9+1)),h,Nat.lt_succ_self _,eJ⟩
  ·refine goX ?_;refine gX (jK y4 (by omega)) ?_;exact⟨(y4+1),y2,v3,h,by omega,eJ⟩
 ·have ah:=qC c6;rw [gT ah,pM.eq_1] at h;refine goX ?_;refine jS 1 rfl rfl ?_;refine jH ?_;cases h;exact mM
def gN1(f:gG):Option (List gI):=gCc f 5000
def gLu(y:gG)(a1:List gU)(f:gF):Option (gF × Bool × Bool):=
bnd (cnd (f.kind != 3) (some true) (bnd (qI 5000 f) fun x3=>
some x3)) fun b1=>
(cnd b1 (some (f,false,true)) (
bnd (gI1 y a1 f) fun q=>
cnd (q.2 != 0) (some (f,false,false)) (some (q.1,(!(teq q.1 f)),true))))
theorem gTk(a0:gG)(a1:List gU)(a2:gF){r:gF × Bool × Bool}(h:gLu a0 a1 a2=some r):gW Tryz.prog 182 [.d (jX a0),.L 4 (kM a1),.d (kT a2)] [kT r.1,.b r.2.1,.b r.2.2]:=by
 obtain⟨ad⟩:=a0;obtain⟨aa,ab,ac⟩:=a2;unfold gLu at h;refine SpI Tryz.func182 fun A _=>?_;refine goL ?_;obtain⟨b1,hb1,h⟩:=gK h;refine kG ⟨[(1,.L 4 (kM a1)),(3,.ptr 0 0),(5,.ptr 1 0),(6,.ptr 2 0),(17,.B b1)],[bPr ad,bTy aa ab ac,.box [.I 0,.S [],.nilsl]],Tryz.f182.ntmps⟩ ?_ ?_
 ·refine gqO 14 hb1 (fun c2 hb1=>?_);obtain⟨x3,ah,hb1⟩:=gK hb1;refine gX (gD (vH _ _ ah)) ?_;cases hb1;exact eJ
 refine goC h ?_ ?_<;>intro c4 h
 ·exact goR h
 ·refine goS ?_;obtain⟨⟨⟨f,q,y⟩,ak⟩,ai,h⟩:=gK h;refine gX (gD (gOi _ _ _ ai)) ?_;refine kN (fun c6=>?_) (fun c6=>?_)
  ·replace h:=jU c6 h;exact goR h
  ·replace h:=jV c6 h;refine noS ?_;refine sZ 0 ?_;refine goW ?_;refine kR (fun _=>gD (gEd (gF.mk f q y) (gF.mk aa ab ac))) ?_;refine goW ?_;refine jY ?_;exact goR h
def gI2(a0:gG)(a1:List gU)(a2:gB):List jZ→(List gN)→Option (List gN × Int × Int)
 | [],q=>(some (q,0,0))
 | y::xs,q=>bnd (hFr a2 y.goal.type_) fun x7=>
bnd (qI 5000 x7) fun x8=>
(cnd x8 (some (q,5,y.node)) (
bnd (gI1 a0 a1 x7) fun aa=>
(cnd (aa.2 != 0) (some (q,7,y.node)) (
bnd (gL5 a0 a1 (gU.mk y.goal.trait aa.1)) fun f=>
cnd (f.2 != 0) (some (q,(gCf f.2),y.node)) (
gd (q.length+[f.1].length≤4294967296) (
gI2 a0 a1 a2 xs (q++[f.1])))))))
def gVv(q:gG)(a1:List gU)(f:gB):Option (List gN × Int × Int):=
gI2 q a1 f f.obligations []
theorem hJ6(a0:gG)(a1:List gU)(a2:gB){r:List gN × Int × Int}(h:gVv a0 a1 a2=some r):gW Tryz.prog 126 [.d (jX a0),.L 4 (kM a1),.d (jR a2)] [.sl 5 (mD r.1),.i .i64 r.2.1,.i .i64 r.2.2]:=by
 obtain⟨ah⟩:=a0;obtain⟨ai,aj,ak,al,am,ad,an,ao⟩:=a2;unfold gVv at h;refine SpI Tryz.func126 fun A _=>?_;refine goL ?_;refine qO ?_;refine goL ?_;refine noB ?_;refine pG 1 5 (fun z4=>?_);refine kQ (fun(y3:Nat)(y1:List gN)(v2:Nat)=>⟨[(1,.L 4 (kM a1)),(3,.ptr 0 0),(5,.ptr 1 0),(9,.sl 2 v2),(10,.N y3)],[bPr ah,bSt ai aj ak al am ad an ao,.arr 106 5 v2 (mD y1)],Tryz.f126.ntmps⟩) (fun y3 y1 v2=>gI2 (gG.mk ah) a1 (gB.mk ai aj ak al am ad an ao) (ad.drop y3) y1=some r) (fun y3 y1 v2=>ad.length - y3) 0 [] 0 eJ h ?_;rintro y3 y1 v2 h;refine goL ?_;refine kN (fun c5=>?_) (fun c5=>?_)
 ·have ac:=qB c5;obtain⟨x6,ag,ay⟩:=drop_at ac;rw [ay,gI2.eq_2] at h;obtain⟨⟨a8,⟨av,aw,ax⟩⟩,bh⟩:=x6;refine noS ?_;refine kC (gP ?_);refine sZ 1 ?_;refine goW ?_;refine kR (fun _=>gV y3 (gD6 ag)) ?_;refine goW ?_;obtain⟨⟨bi,bj,bk⟩,bc,h⟩:=gK h;refine kR (fun _=>gD (gZi _ _ bc)) ?_;refine goW ?_;refine jY ?_;refine goL ?_;obtain⟨x8,bd,h⟩:=gK h;refine gX (gD (vH _ _ bd)) ?_;refine kN (fun c9=>?_) (fun c9=>?_)
  ·replace h:=jU c9 h;refine goL ?_;refine wC (gV y3 (gD6 ag)) ?_;refine goL ?_;refine jS 2 rfl rfl ?_;refine jH ?_;cases h;exact mM
  ·replace h:=jV c9 h;refine goS ?_;obtain⟨⟨⟨a3,a4,a5⟩,bf⟩,a6,h⟩:=gK h;refine gX (gD (gOi _ _ _ a6)) ?_;refine kN (fun ap=>?_) (fun ap=>?_)
   ·replace h:=jU ap h;refine goL ?_;refine wC (gV y3 (gD6 ag)) ?_;refine goL ?_;refine jS 2 rfl rfl ?_;refine jH ?_;cases h;exact mM
   ·replace h:=jV ap h;refine noS ?_;refine sZ 1 ?_;refine goW ?_;refine kR (fun _=>gV y3 (gD6 ag)) ?_;refine goW ?_;obtain⟨⟨⟨y,aa,⟨f,q⟩,ab⟩,aq⟩,a7,h⟩:=gK h;refine kR (fun _=>gD (gU1 _ _ _ a7)) ?_;refine goW ?_;refine jY ?_;refine goC h ?_ ?_<;>intro bm h
    ·refine goL ?_;refine wC (gD (gQv aq)) ?_;refine goL ?_;refine wC (gV y3 (gD6 ag)) ?_;refine goL ?_;refine jS 2 rfl rfl ?_;refine jH ?_;cases h;exact mM
    ·refine goS ?_;refine uN (u:=(.st [.i .i64 y,.i .i64 aa,.st [.i .i64 f,.i .i64 q],.sl 5 (mD ab)])) ?_;obtain⟨bg,h⟩:=mI h;refine vR bg ?_;refine goL ?_;refine gX (jK y3 (by omega)) ?_;exact⟨(y3+1),(y1++[(gN.mk y aa (gI.mk f q) ab)]),(v2+1),h,by omega,eJ⟩
 ·have ac:=qC c5;rw [gT ac,gI2.eq_1] at h;refine goX ?_;refine jS 2 rfl rfl ?_;refine jH ?_;cases h;exact mM
def gZa(pk:List jL)(wh:List gU)(sn:Int)(sc:Int)(sd:Int)(bs:List gM)(es:List kK)(os:List jZ)(sk:Int)(sa:Int)(evs:List gN)(code:Int)(t:gF):Option (gF × Int):=
lt_ (cnd (gAp t) (true) (code != 0)) fun y=>
(cnd y (
gd (tok t) (lt_ (idT t) fun x5=>
some (x5,code))) (
bnd (hFr (gB.mk sn sc sd bs es os sk sa) t) fun q=>
bnd (qI 5000 q) fun x7=>
(cnd x7 (some (t,5)) (
bnd (gI1 (gG.mk pk) wh q) fun f=>
cnd (f.2 != 0) (some (f.1,7)) (some (f.1,code))))))
theorem hJ7(pk:List jL)(wh:List gU)(sn:Int)(sc:Int)(sd:Int)(bs:List gM)(es:List kK)(os:List jZ)(sk:Int)(sa:Int)(evs:List gN)(code:Int)(t:gF){r:gF × Int}(h:gZa pk wh sn sc sd bs es os sk sa evs code t=some r):Go.Eng.Spec Tryz.prog 186 [.ptr 0 0,.d (kT t)] [b34 pk wh sn sc sd bs es os sk sa evs code] (fun sv Lo=>sv=.d (kT r.1)∧Lo=[b34 pk wh sn sc sd bs es os sk sa evs r.2]):=by
 obtain⟨aa,ab,ac⟩:=t;unfold gZa at h;refine pK 1 Tryz.func186 rfl (by kernel_rfl) rfl rfl fun A _=>?_;refine goL ?_;refine gX (gD (gDm (gF.mk aa ab ac))) ?_;obtain⟨b1,hb1,h⟩:=pI h;refine kG ⟨[(0,.ptr 0 0),(3,.ptr 1 0),(4,.ptr 2 0),(16,.B b1)],[b34 pk wh sn sc sd bs es os sk sa evs code,bTy aa ab ac,.box [.I 0,.S [],.nilsl]],Tryz.f186.ntmps⟩ ?_ ?_
 ·exact gqZ 10 hb1
 refine goC h ?_ ?_<;>intro c3 h
 ·refine goL ?_;obtain⟨g4,h⟩:=mI h;obtain⟨⟨ad,ae,ag⟩,ah,h⟩:=pI h;have sx5:=mR (gF.mk aa ab ac) g4;rw [ah] at sx5;refine gO9 (sx5) ?_;refine goL ?_;refine qW 3 rfl rfl ?_;refine jH ?_;obtain rfl:=Option.some.inj h;exact hW8 [.d (.st [.i .i64 ad,.s ae,.sl 3 (jJ ag)])] [b34 pk wh sn sc sd bs es os sk sa evs code] ⟨rfl,rfl⟩
 ·refine noS ?_;refine sZ 1 ?_;refine goW ?_;obtain⟨⟨am,an,ao⟩,ai,h⟩:=gK h;refine kR (fun _=>gD (gZi _ _ ai)) ?_;refine goW ?_;refine jY ?_;refine goL ?_;obtain⟨x7,aj,h⟩:=gK h;refine gX (gD (vH _ _ aj)) ?_;refine kN (fun c8=>?_) (fun c8=>?_)
  ·replace h:=jU c8 h;refine goL ?_;refine jH ?_;obtain rfl:=Option.some.inj h;exact gHr [.d (.st [.i .i64 aa,.s ab,.sl 3 (jJ ac)])] _ ⟨rfl,rfl⟩
  ·replace h:=jV c8 h;refine noS ?_;refine sZ 1 ?_;refine goW ?_;obtain⟨⟨⟨f,q,y⟩,ap⟩,al,h⟩:=gK h;refine kR (fun _=>gD (gOi _ _ _ al)) ?_;refine goW ?_;refine jY ?_;refine goC h ?_ ?_<;>intro au h
   ·refine goL ?_;refine jH ?_;obtain rfl:=Option.some.inj h;exact gHr [.d (.st [.i .i64 f,.s q,.sl 3 (jJ y)])] _ ⟨rfl,rfl⟩
   ·refine goS ?_;refine jH ?_;obtain rfl:=Option.some.inj h;exact gHr [.d (.st [.i .i64 f,.s q,.sl 3 (jJ y)])] _ ⟨rfl,rfl⟩
def gOj(c:kP)(a1:gG):Option (gJ × kP):=
bnd (gG4 c 6) fun q=>
(cnd q.1 (
bnd (gAt q.2 5) fun x3=>
bnd (gAt x3.2 3) fun f=>
gd (0≤f.1∧f.1≤(([0,1]:List Int).length:Int)) (some ((gJ.mk x3.1 (gI.mk 0 0) (([0,1]:List Int).take (Int.toNat f.1)) []),f.2))) (
bnd (gOe q.2) fun y=>
bnd (gL5 a1 [] y.1) fun x7=>
bnd (qZ 5000 a1 [] x7.1) fun x8=>
cnd (x7.2 != 0) (some ((gJ.mk 1 (gI.mk 0 8) [] []),y.2)) (some (x8.1,y.2))))
theorem hJ8(c:kP)(a1:gG){r:gJ × kP}(h:gOj c a1=some r):Go.Eng.Spec Tryz.prog 12 [.ptr 0 0,.d (jX a1)] [bCu c.b c.i c.h] (fun sv Lo=>sv=.d (jP r.1)∧Lo=[bCu r.2.b r.2.i r.2.h]):=by
 obtain⟨a4,a5,a6⟩:=c;obtain⟨be⟩:=a1;unfold gOj at h;refine pK 1 Tryz.func12 rfl (by kernel_rfl) rfl rfl fun A _=>?_;refine goL ?_;obtain⟨⟨bf,⟨y,aa,ab⟩⟩,a7,h⟩:=gK h;refine gCt 0 (gPt (kP.mk a4 a5 a6) 6 a7) ?_;refine goC h ?_ ?_<;>intro c2 h
 ·refine goL ?_;obtain⟨⟨ar,⟨ac,ad,ae⟩⟩,a8,h⟩:=gK h;refine gCt 0 (gG0 (kP.mk y aa ab) 5 a8) ?_;refine gPb (us:=yC ([0,1]:List Int)) ?_;refine goL ?_;obtain⟨⟨au,⟨ag,ah,ai⟩⟩,a9,h⟩:=gK h;refine gCt 0 (gG0 (kP.mk ac ad ae) 3 a9) ?_;obtain⟨g5,h⟩:=mI h;refine hUn g5 ?_;refine gC1 (jI TBd.h TZ.h rfl (by repeat constructor)) ?_;refine jS 3 rfl rfl ?_;refine jH ?_;obtain rfl:=Option.some.inj h;exact hW8 [.d (.st [.i .i64 ar,.st [.i .i64 0,.i .i64 0],.sl 1 (yC (([0,1]:List Int).take (Int.toNat au))),.sl 5 []])] [bCu ag ah ai] ⟨rfl,rfl⟩
 ·refine noS ?_;refine sZ 1 ?_;refine goW ?_;obtain⟨⟨⟨av,⟨am,an,ao⟩⟩,⟨aw,ax,ay⟩⟩,ba,h⟩:=gK h;refine gSk (LH.c1 0 (hJw _ ba)) ?_;obtain⟨⟨⟨a0,a2,⟨ap,aq⟩,a3⟩,bg⟩,bb,h⟩:=gK h;refine kR (fun _=>gD (gU1 _ _ _ bb)) ?_;refine goW ?_;refine jY ?_;refine goL ?_;obtain⟨⟨⟨aj,⟨f,q⟩,ak,al⟩,bh⟩,bc,h⟩:=gK h;refine gX (gD (gVu _ _ _ _ bc)) ?_;refine kN (fun c9=>?_) (fun c9=>?_)
  ·replace h:=jU c9 h;refine goL ?_;refine uX (jI TBd.h TZ.h rfl (by repeat constructor)) ?_;refine gC1 (jI TBd.h TZ.h rfl (by repeat constructor)) ?_;refine jH ?_;obtain rfl:=Option.some.inj h;exact gHr [.d (.st [.i .i64 1,.st [.i .i64 0,.i .i64 8],.sl 1 [],.sl 5 []])] _ ⟨rfl,rfl⟩
  ·replace h:=jV c9 h;refine goS ?_;refine jH ?_;obtain rfl:=Option.some.inj h;exact gHr [.d (.st [.i .i64 aj,.st [.i .i64 f,.i .i64 q],.sl 1 (yC ak),.sl 5 (jQ al)])] _ ⟨rfl,rfl⟩
end Go.Proofs.YtfjncckelekpiaaGreat
