import Derived.Test.YtegahmhnmjnhhaaGreatCur
set_option maxHeartbeats 4000000
set_option linter.unusedVariables false
set_option linter.unusedSimpArgs false
set_option linter.unusedSectionVars false
namespace Go.Proofs.YtegahmhnmjnhhaaGreat
open Go Go.Eng
attribute [local irreducible] V VO VQ VY Quiet QR jC kT Rng mU mV mI
def gIu(c:kJ→Int→Option (Int))(y:kJ):Nat→Int→Int→Option (Int)
 | 0,h,f=>none
 | aa+1,h,f=>lt_ ((cnd (decide (f < (y.arms.length:Int))) ((decide (h≥0))) (false))) fun ab=>
(cnd ab (
bnd (at? y.arms f) fun ac=>
bnd (c ac.body h) fun ad=>
gIu c y aa ad (IntKind.i64.wrap (f+1))) (
(some h)))
def gIv(c:kJ→Int→Option (Int))(f:kJ)(n0:Nat):Nat→Int→Int→Option (Int)
 | 0,h,y=>none
 | n3+1,h,y=>lt_ ((cnd (decide (y < (f.args.length:Int))) ((decide (h≥0))) (false))) fun b4=>
(cnd b4 (
bnd (at? f.args y) fun x7=>
bnd (c x7 h) fun x8=>
gIv c f n0 n3 x8 (IntKind.i64.wrap (y+1))) (
gIu c f n0 h 0))
def gTd(c:kJ→Int→Option (Int))(h:kJ)(a1:Int)(f:Nat):Option (Int):=
gIv c h f f (IntKind.i64.wrap (a1 - 1)) 0
theorem hKj{c:kJ→Int→Option (Int)}(ab:∀(x0:kJ) (x1:Int) {r:Int},c x0 x1=some r→jC Tryz.prog 247 [.d (gCx x0),.I x1] [.i .i64 r])(a0:kJ)(a1:Int){n0:Nat}{r:Int}(h:gTd c a0 a1 n0=some r):jC Tryz.prog 247 [.d (gCx a0),.I a1] [.i .i64 r]:=by
 obtain⟨ac,ad,ae,ag,⟨f,y,aa⟩,ah,ai⟩:=a0;unfold gTd at h;refine SpI Tryz.func247 fun A _=>?_;refine goL ?_;refine jL (pR) ?_;refine noB ?_;refine kS (fun(n3:Nat) (y1:Int) (y2:Int)=>⟨[(1,.I y1),(2,.ptr 0 0),(5,.I y2)],[bEx ac ad ae ag f y aa ah ai],Tryz.f247.ntmps⟩) (fun n3 y1 y2=>gIv c (kJ.mk ac ad ae ag (gB.mk f y aa) ah ai) n0 n3 y1 y2=some r) (fun n3 y1 y2=>n3) n0 (IntKind.i64.wrap (a1 - 1)) 0 eJ h ?_;rintro n3 y1 y2 h;rcases n3 with _ | n3
 ·cases h
 rw [gIv.eq_2] at h;refine goL ?_;obtain⟨b4,hb4,h⟩:=qB h;refine jT ⟨[(1,.I y1),(2,.ptr 0 0),(5,.I y2),(17,.B b4)],[bEx ac ad ae ag f y aa ah ai],Tryz.f247.ntmps⟩ ?_ ?_
 ·exact gqZ 14 hb4
 refine goC h ?_ ?_<;>intro c6 h
 ·refine noS ?_;refine jW (jE ?_);refine goL ?_;obtain⟨x7,ap,h⟩:=gP h;obtain⟨ax,ap⟩:=gEd ap;obtain⟨bm,bn,bo,bp,⟨ba,bb,bc⟩,bq,br⟩:=x7;refine jL (qP ax (gZ3 ap)) ?_;obtain⟨x8,be,h⟩:=gP h;refine jL (gF (ab _ _ be)) ?_;refine jL (pR) ?_;exact⟨n3,x8,(IntKind.i64.wrap (y2+1)),h,Nat.lt_succ_self _,eJ⟩
 ·refine goX ?_;refine noB ?_;refine kS (fun(aj:Nat) (y9:Int) (ak:Int)=>⟨[(1,.I y9),(2,.ptr 0 0),(6,.I ak)],[bEx ac ad ae ag f y aa ah ai],Tryz.f247.ntmps⟩) (fun aj y9 ak=>gIu c (kJ.mk ac ad ae ag (gB.mk f y aa) ah ai) aj y9 ak=some r) (fun aj y9 ak=>aj) n0 y1 0 eJ h ?_;rintro aj y9 ak h;rcases aj with _ | aj
  ·cases h
  rw [gIu.eq_2] at h;refine goL ?_;obtain⟨bf,hb12,h⟩:=qB h;refine jT ⟨[(1,.I y9),(2,.ptr 0 0),(6,.I ak),(35,.B bf)],[bEx ac ad ae ag f y aa ah ai],Tryz.f247.ntmps⟩ ?_ ?_
  ·exact gqZ 32 hb12
  refine goC h ?_ ?_<;>intro bw h
  ·refine noS ?_;refine jW (jE ?_);refine goL ?_;obtain⟨bg,al,h⟩:=gP h;obtain⟨aq,al⟩:=gEd al;obtain⟨bh,bi,⟨ay,a3,a4,a5,⟨ar,au,av⟩,a6,a7⟩⟩:=bg;refine jL (qP aq (hH4 al)) ?_;obtain⟨bj,a8,h⟩:=gP h;refine jL (gF (ab _ _ a8)) ?_;refine jL (pR) ?_;exact⟨aj,bj,(IntKind.i64.wrap (ak+1)),h,Nat.lt_succ_self _,eJ⟩
  ·refine goX ?_;refine jK ?_;cases h;exact qA
def gTe:Nat→kJ→Int→Option (Int)
 | 0,_,_=>none
 | n+1,c,f=>gTd (gTe n) c f n
theorem hKk:∀(n:Nat) (c:kJ) (f:Int) {r:Int},gTe n c f=some r→jC Tryz.prog 247 [.d (gCx c),.I f] [.i .i64 r]:=by
 intro n
 induction n with
 | zero=>intro c f r h;cases h
 | succ n ih=>intro c f r h;exact hKj ih c f h
def gAo(c:gB):Bool:=
lt_ ((cnd (c.kind==0) ((cnd (c.name==[]) (((c.args.length:Int)==0)) (false))) (false))) fun f=>
f
theorem gC5(a0:gB):jC Tryz.prog 216 [.d (jS a0)] [.b (gAo a0)]:=by
 obtain⟨r,h⟩:∃r,gAo a0=r:=⟨_,rfl⟩
 rw [h];obtain⟨c,f,y⟩:=a0;unfold gAo at h;refine SpI Tryz.func216 fun A _=>?_;refine goL ?_;obtain⟨b1,hb1,h⟩:=qB h;refine jT ⟨[(2,.B b1)],[bTy c f y],Tryz.f216.ntmps⟩ ?_ ?_
 ·refine pX 6 (fun c2=>?_) (fun c2=>?_) (by first | rfl | (simp only [jG,gV];rfl))
  ·replace hb1:=kD c2 hb1;refine goL ?_;refine pX 11 (fun c3=>?_) (fun c3=>?_) (by first | rfl | (simp only [jG,gV];rfl))
   ·replace hb1:=kD c3 hb1;refine goL ?_;cases hb1;exact⟨rfl,⟨⟨by first | rfl | (simp only [jG,gV];rfl),rfl⟩,trivial⟩,⟨_,rfl⟩,rfl⟩
   ·replace hb1:=kE c3 hb1;refine goL ?_;cases hb1;exact⟨rfl,⟨⟨by first | rfl | (simp only [jG,gV];rfl),rfl⟩,trivial⟩,⟨_,rfl⟩,rfl⟩
  ·replace hb1:=kE c2 hb1;refine goL ?_;cases hb1;exact⟨rfl,⟨⟨by first | rfl | (simp only [jG,gV];rfl),rfl⟩,trivial⟩,⟨_,rfl⟩,rfl⟩
 refine goL ?_;refine jK ?_;subst h;exact qA
def gGs(c:Int):Bool × Bool × Bool × Bool × Int × Bool:=
(cnd (c==1) (
(false,false,true,false,0,false)) (
(cnd (c==2) (
(false,false,true,false,0,false)) (
(cnd (c==3) (
(false,true,false,false,0,false)) (
(cnd (c==4) (
(false,true,false,false,(-1),false)) (
(cnd (c==6) (
(false,true,false,false,(-1),false)) (
(cnd (c==5) (
(true,true,false,false,(-1),false)) (
(cnd (c==7) (
(false,false,false,false,1,true)) (
(cnd (c==8) (
(false,true,false,false,2,false)) (
(cnd (c==10) (
(false,true,false,false,2,false)) (
(cnd (c==9) (
(false,false,false,false,3,false)) (
(cnd (c==11) (
(true,false,false,false,1,false)) (
(false,false,false,true,1,false)))))))))))))))))))))))
theorem hN9(c:Int):jC Tryz.prog 253 [.I c] [.b (gGs c).1,.b (gGs c).2.1,.b (gGs c).2.2.1,.b (gGs c).2.2.2.1,.i .i64 (gGs c).2.2.2.2.1,.b (gGs c).2.2.2.2.2]:=by
 obtain⟨r,h⟩:∃r,gGs c=r:=⟨_,rfl⟩
 rw [h];unfold gGs at h;refine SpI Tryz.func253 fun A _=>?_;refine goL ?_;refine jE ?_;refine goC h ?_ ?_<;>intro c1 h
 ·refine noS ?_;refine kX (fun c2=>?_) (fun c2=>?_)
  ·refine goL ?_;refine jK ?_;subst h;exact qA
  ·exact absurd (c1.symm.trans c2) (by decide)
 ·refine goC h ?_ ?_<;>intro c3 h
  ·refine goL ?_;refine jK ?_;subst h;exact qA
  ·refine goC h ?_ ?_<;>intro c4 h
   ·refine goL ?_;refine jK ?_;subst h;exact qA
   ·refine goC h ?_ ?_<;>intro c5 h
    ·refine noS ?_;refine kX (fun c6=>?_) (fun c6=>?_)
     ·refine goL ?_;refine jK ?_;subst h;exact qA
     ·exact absurd (c5.symm.trans c6) (by decide)
    ·refine goC h ?_ ?_<;>intro c7 h
     ·refine goL ?_;refine jK ?_;subst h;exact qA
     ·refine goC h ?_ ?_<;>intro c8 h
      ·refine goL ?_;refine jK ?_;subst h;exact qA
      ·refine goC h ?_ ?_<;>intro c9 h
       ·refine goL ?_;refine jK ?_;subst h;exact qA
       ·refine goC h ?_ ?_<;>intro y h
        ·refine noS ?_;refine kX (fun f=>?_) (fun f=>?_)
         ·refine goL ?_;refine jK ?_;subst h;exact qA
         ·exact absurd (y.symm.trans f) (by decide)
        ·refine goC h ?_ ?_<;>intro ae h
         ·refine goL ?_;refine jK ?_;subst h;exact qA
         ·refine goC h ?_ ?_<;>intro ag h
          ·refine goL ?_;refine jK ?_;subst h;exact qA
          ·refine goC h ?_ ?_<;>intro ah h
           ·refine goL ?_;refine jK ?_;subst h;exact qA
           ·refine goS ?_;refine jK ?_;subst h;exact qA
def gOr(c:List UInt8):Bool:=
(wQ [[43],[45],[42],[60],[61]] c)
theorem hKl(c:List UInt8):jC Tryz.prog 254 [.S c] [.b (gOr c)]:=by
 obtain⟨r,h⟩:∃r,gOr c=r:=⟨_,rfl⟩
 rw [h];unfold gOr at h;refine SpI Tryz.func254 fun A _=>?_;refine goL ?_;refine gSp (us:=jP [[43],[45],[42],[60],[61]]) ?_;refine goL ?_;refine gBn (gW2 (gF4 [[43],[45],[42],[60],[61]] c)) ?_;refine jK ?_;subst h;exact qA
def gEj(a1:List (List UInt8)):List (List UInt8)→Nat→Option (Bool)
 | [],c=>(some true)
 | f::xs,c=>bnd (at? a1 (c:Int)) fun h=>
(cnd (!(f==h)) (
(some false)) (
gEj a1 xs (c+1)))
def gPo(c:List (List UInt8))(a1:List (List UInt8)):Option (Bool):=
(cnd ((c.length:Int) !=(a1.length:Int)) (
(some false)) (
gEj a1 c 0))
theorem hFb(y:List (List UInt8))(a1:List (List UInt8)){r:Bool}(h:gPo y a1=some r):jC Tryz.prog 252 [.L 1 (jP y),.L 1 (jP a1)] [.b r]:=by
 unfold gPo at h;refine SpI Tryz.func252 fun A _=>?_;refine goC h ?_ ?_<;>intro c1 h
 ·exact goR h
 ·refine goS ?_;refine noB ?_;refine gBx 0 (fun z3=>?_);refine mQ (fun(f:Nat)=>⟨[(0,.L 1 (jP y)),(1,.L 1 (jP a1)),(5,.N f)],[],Tryz.f252.ntmps⟩) (fun f=>gEj a1 (y.drop f) f=some r) (fun f=>y.length - f) 0 eJ h ?_;rintro f h;refine goL ?_;refine kX (fun c4=>?_) (fun c4=>?_)
  ·have c:=uR c4;obtain⟨x5,ad,aa⟩:=drop_at c;rw [aa,gEj.eq_2] at h;refine noS ?_;refine jW (jE ?_);refine goL ?_;refine gE7 (jM f (gQq ad)) ?_;refine goL ?_;obtain⟨x6,ab,h⟩:=gP h;rw [yZ] at ab;refine gE7 (jM f (gQq ab)) ?_;refine goC h ?_ ?_<;>intro c7 h
   ·exact goR h
   ·refine goS ?_;refine jL (jR f (by omega)) ?_;exact⟨(f+1),h,by omega,eJ⟩
  ·have c:=uS c4;rw [jF c,gEj.eq_1] at h;refine goX ?_;refine jK ?_;cases h;exact qA
def mG(c:List UInt8):gD:=
(gD.mk c [])
theorem mM(c:List UInt8):jC Tryz.prog 205 [.S c] [pF (mG c)]:=by
 obtain⟨r,h⟩:∃r,mG c=r:=⟨_,rfl⟩
 rw [h];unfold mG at h;refine SpI Tryz.func205 fun A _=>?_;refine goL ?_;refine gBn (jU TBd.h TZ.h rfl (by repeat constructor)) ?_;refine jK ?_;subst h;exact qA
def yU(c:gB→Option (Bool))(f:gB):List gB→Option (Bool)
 | []=>(some (f.kind==3))
 | h::xs=>bnd (c h) fun y=>
(cnd y (
(some true)) (
yU c f xs ))
def gGb(c:gB→Option (Bool))(f:gB):Option (Bool):=
yU c f f.args
theorem gQa{c:gB→Option (Bool)}(f:∀(x0:gB) {r:Bool},c x0=some r→jC Tryz.prog 13 [.d (jS x0)] [.b r])(a0:gB){r:Bool}(h:gGb c a0=some r):jC Tryz.prog 13 [.d (jS a0)] [.b r]:=by
 obtain⟨ac,ad,aa⟩:=a0;unfold gGb at h;refine SpI Tryz.func13 fun A _=>?_;refine goL ?_;refine noB ?_;refine wN 0 2 (fun z2=>?_);refine mQ (fun(y1:Nat)=>⟨[(1,.ptr 0 0),(3,.N y1)],[bTy ac ad aa],Tryz.f13.ntmps⟩) (fun y1=>yU c (gB.mk ac ad aa) (aa.drop y1)  =some r) (fun y1=>aa.length - y1) 0 eJ h ?_;rintro y1 h;refine goL ?_;refine kX (fun c3=>?_) (fun c3=>?_)
 ·have y:=uR c3;obtain⟨x4,ai,ae⟩:=drop_at y;rw [ae,yU.eq_2] at h;obtain⟨am,an,ao⟩:=x4;refine noS ?_;refine jW (jE ?_);refine goL ?_;refine jL (jM y1 (zL ai)) ?_;obtain⟨x5,aj,h⟩:=gP h;refine jL (gF (f _ aj)) ?_;refine kX (fun c6=>?_) (fun c6=>?_)
  ·replace h:=kD c6 h;exact goR h
  ·replace h:=kE c6 h;refine goS ?_;refine jL (jR y1 (by omega)) ?_;exact⟨(y1+1),h,by omega,eJ⟩
 ·have y:=uS c3;rw [jF y,yU.eq_1] at h;refine goX ?_;refine jK ?_;cases h;exact qA
def gC7:Nat→gB→Option (Bool)
 | 0,_=>none
 | n+1,c=>gGb (gC7 n) c
theorem gKu:∀(n:Nat) (c:gB) {r:Bool},gC7 n c=some r→jC Tryz.prog 13 [.d (jS c)] [.b r]:=by
 intro n
 induction n with
 | zero=>intro c r h;cases h
 | succ n ih=>intro c r h;exact gQa ih c h
def gEk(f:(List (List UInt8))→Option (List (List UInt8) × List (List UInt8) × List (List UInt8) × List (List UInt8))):List pU→(List (List UInt8))→Option (List (List UInt8) × List (List UInt8) × List (List UInt8) × List (List UInt8))
 | [],c=>(f c)
 | h::xs,c=>gd (c.length+[h.name].length≤4294967296) (
gEk f xs (c++[h.name]))
def gEl(y:List (List UInt8))(y8:List (List UInt8))(f:List (List UInt8)):List mH→(List (List UInt8))→Option (List (List UInt8) × List (List UInt8) × List (List UInt8) × List (List UInt8))
 | [],c=>(some (y,y8,f,c))
 | h::xs,c=>gd (c.length+[h.name].length≤4294967296) (
gEl y y8 f xs (c++[h.name]))
def gCy(a0:kI)(y1:List (List UInt8)):List mJ→(List (List UInt8))→(List (List UInt8))→Option (List (List UInt8) × List (List UInt8) × List (List UInt8) × List (List UInt8))
 | [],h,c=>gEl y1 h c a0.functions []
 | f::xs,h,c=>gd (h.length+[f.name].length≤4294967296) (
gEk (fun y=>gCy a0 y1 xs (h++[f.name]) y) f.constructors c)
def gEm(f:kI):List qV→(List (List UInt8))→Option (List (List UInt8) × List (List UInt8) × List (List UInt8) × List (List UInt8))
 | [],c=>gCy f c f.dataTypes [] []
 | h::xs,c=>gd (c.length+[h.name].length≤4294967296) (
gEm f xs (c++[h.name]))
def gPp(c:kI):Option (List (List UInt8) × List (List UInt8) × List (List UInt8) × List (List UInt8)):=
gEm c c.traits []
theorem hFc(a0:kI){r:List (List UInt8) × List (List UInt8) × List (List UInt8) × List (List UInt8)}(h:gPp a0=some r):jC Tryz.prog 136 [.d (gE8 a0)] [.sl 1 (jP r.1),.sl 1 (jP r.2.1),.sl 1 (jP r.2.2.1),.sl 1 (jP r.2.2.2)]:=by
 obtain⟨ab,ac,f,c,ad,y⟩:=a0;unfold gPp at h;refine SpI Tryz.func136 fun A _=>?_;refine goL ?_;refine gF9 ?_;refine goL ?_;refine gF9 ?_;refine goL ?_;refine gF9 ?_;refine goL ?_;refine gF9 ?_;refine goL ?_;refine noB ?_;refine wN 0 2 (fun z4=>?_);refine kS (fun(y3:Nat) (y1:List (List UInt8)) (v2:Nat)=>⟨[(1,.ptr 0 0),(6,.sl 1 v2),(7,.sl 2 0),(8,.sl 3 0),(9,.sl 4 0),(10,.N y3)],[bPk ab ac f c ad y,.own 9 1 v2 (jP y1),.own 9 1 0 [],.own 9 1 0 [],.own 9 1 0 []],Tryz.f136.ntmps⟩) (fun y3 y1 v2=>gEm (kI.mk ab ac f c ad y) (f.drop y3) y1=some r) (fun y3 y1 v2=>f.length - y3) 0 [] 0 eJ h ?_;rintro y3 y1 v2 h;refine goL ?_;refine kX (fun c5=>?_) (fun c5=>?_)
 ·have ao:=uR c5;obtain⟨x6,bx,bi⟩:=drop_at ao;rw [bi,gEm.eq_2] at h;obtain⟨a7,b9,ca,cb,cc⟩:=x6;refine noS ?_;refine jW (jE ?_);refine goL ?_;refine jL (jM y3 (gXw bx)) ?_;refine gBc a7 ?_;obtain⟨g7,h⟩:=mW h;refine gH3 g7 ?_;refine goL ?_;refine jL (jR y3 (by omega)) ?_;exact⟨(y3+1),(y1++[a7]),(v2+1),h,by omega,eJ⟩
 ·have ao:=uS c5;rw [jF ao,gEm.eq_1] at h;refine goX ?_;refine noB ?_;refine wN 0 3 (fun cf=>?_);refine gV4 (fun(aa:Nat) (y8:List (List UInt8)) (am:List (List UInt8)) (v9:Nat) (an:Nat)=>⟨[(1,.ptr 0 0),(6,.sl 1 v2),(7,.sl 2 v9),(8,.sl 3 an),(9,.sl 4 0),(11,.N aa)],[bPk ab ac f c ad y,.own 9 1 v2 (jP y1),.own 9 1 v9 (jP y8),.own 9 1 an (jP am),.own 9 1 0 []],Tryz.f136.ntmps⟩) (fun aa y8 am v9 an=>gCy (kI.mk ab ac f c ad y) y1 (c.drop aa) y8 am=some r) (fun aa y8 am v9 an=>c.length - aa) 0 [] [] 0 0 eJ h ?_;rintro aa y8 am v9 an h;refine goL ?_;refine kX (fun a8=>?_) (fun a8=>?_)
  ·have ae:=uR a8;obtain⟨bz,ax,a9⟩:=drop_at ae;rw [a9,gCy.eq_2] at h;obtain⟨ag,ba,ap⟩:=bz;refine noS ?_;refine jW (jE ?_);refine goL ?_;refine jL (jM aa (gN8 ax)) ?_;refine gBc ag ?_;obtain⟨b0,h⟩:=mW h;refine gH3 b0 ?_;refine goL ?_;refine noB ?_;refine kS (fun(ah:Nat) (ai:List (List UInt8)) (aq:Nat)=>⟨[(1,.ptr 0 0),(6,.sl 1 v2),(7,.sl 2 (v9+1)),(8,.sl 3 aq),(9,.sl 4 0),(11,.N aa),(12,.N ah)],[bPk ab ac f c ad y,.own 9 1 v2 (jP y1),.own 9 1 (v9+1) (jP (y8++[ag])),.own 9 1 aq (jP ai),.own 9 1 0 [],.dead 1],Tryz.f136.ntmps⟩) (fun ah ai aq=>gEk (fun ai=>gCy (kI.mk ab ac f c ad y) y1 (c.drop (aa+1)) (y8++[(mJ.mk ag ba ap).name]) ai) (ap.drop ah) ai=some r) (fun ah ai aq=>ap.length - ah) 0 am an eJ h ?_;rintro ah ai aq h;refine goL ?_;refine jL (jM aa (gN8 ax)) ?_;refine kX (fun bb=>?_) (fun bb=>?_)
   ·have aj:=uR bb;refine gBx 56 (fun cg=>?_);obtain⟨b1,bj,bc⟩:=drop_at aj;rw [bc,gEk.eq_2] at h;obtain⟨ay,b2⟩:=b1;refine noS ?_;refine jW (jE ?_);refine goL ?_;refine jL (jM aa (gN8 ax)) ?_;refine jL (jM ah (gDr bj)) ?_;refine gBc ay ?_;obtain⟨b3,h⟩:=mW h;refine gH3 b3 ?_;refine goL ?_;refine jL (jR ah (by omega)) ?_;exact⟨(ah+1),(ai++[ay]),(aq+1),h,by omega,eJ⟩
   ·have aj:=uS bb;rw [jF aj,gEk.eq_1] at h;refine goX ?_;refine jL (jR aa (by omega)) ?_;exact⟨(aa+1),(y8++[ag]),ai,(v9+1),aq,h,by omega,eJ⟩
  ·have ae:=uS a8;rw [jF ae,gCy.eq_1] at h;refine goX ?_;refine noB ?_;refine wN 0 5 (fun ch=>?_);refine kS (fun(ak:Nat) (ar:List (List UInt8)) (au:Nat)=>⟨[(1,.ptr 0 0),(6,.sl 1 v2),(7,.sl 2 v9),(8,.sl 3 an),(9,.sl 4 au),(13,.N ak)],[bPk ab ac f c ad y,.own 9 1 v2 (jP y1),.own 9 1 v9 (jP y8),.own 9 1 an (jP am),.own 9 1 au (jP ar)],Tryz.f136.ntmps⟩) (fun ak ar au=>gEl y1 y8 am (y.drop ak) ar=some r) (fun ak ar au=>y.length - ak) 0 [] 0 eJ h ?_;rintro ak ar au h;refine goL ?_;refine kX (fun bd=>?_) (fun bd=>?_)
   ·have al:=uR bd;obtain⟨b4,bk,be⟩:=drop_at al;rw [be,gEl.eq_2] at h;obtain⟨a3,b5,b6,b7,⟨bl,bm,bn⟩,⟨bo,bp,bq,br,⟨bf,bg,bh⟩,bt,bu⟩⟩:=b4;refine noS ?_;refine jW (jE ?_);refine goL ?_;refine jL (jM ak (gX1 bk)) ?_;refine gBc a3 ?_;obtain⟨b8,h⟩:=mW h;refine gH3 b8 ?_;refine goL ?_;refine jL (jR ak (by omega)) ?_;exact⟨(ak+1),(ar++[a3]),(au+1),h,by omega,eJ⟩
   ·have al:=uS bd;rw [jF al,gEl.eq_1] at h;refine goX ?_;refine uH 1 rfl rfl ?_;refine uH 2 rfl rfl ?_;refine uH 3 rfl rfl ?_;refine uH 4 rfl rfl ?_;refine jK ?_;cases h;exact qA
def gC8(c:jH)(a1:Int):Option (Bool × jH):=
bnd (gAi c a1) fun f=>
(some ((f.1==0),f.2))
theorem gIw(c:jH)(a1:Int){r:Bool × jH}(h:gC8 c a1=some r):Go.Eng.Spec Tryz.prog 30 [.ptr 0 0,.I a1] [bCu c.b c.i c.h] (fun sv Lo=>sv=.B r.1∧Lo=[bCu r.2.b r.2.i r.2.h]):=by
 obtain⟨ac,ad,ae⟩:=c;unfold gC8 at h;refine kM 1 Tryz.func30 rfl (by kernel_rfl) rfl rfl fun A _=>?_;refine goL ?_;obtain⟨⟨ab,⟨f,y,aa⟩⟩,ag,h⟩:=gP h;refine gAr 0 (gEc (jH.mk ac ad ae) a1 ag) ?_;refine goL ?_;refine jK ?_;obtain rfl:=Option.some.inj h;exact zB [.B (ab==0)] [bCu f y aa] ⟨rfl,rfl⟩
def gQ7(c:List UInt8)(a1:gB):Option (gB):=
gd (tok a1) (lt_ (idT a1) fun f=>
(some (gB.mk 3 c [f])))
theorem hOa(a0:List UInt8)(a1:gB){r:gB}(h:gQ7 a0 a1=some r):jC Tryz.prog 41 [.S a0,.d (jS a1)] [jS r]:=by
 obtain⟨c,f,y⟩:=a1;unfold gQ7 at h;refine SpI Tryz.func41 fun A _=>?_;refine goL ?_;obtain⟨g1,h⟩:=mW h;obtain⟨⟨aa,ab,ac⟩,ad,h⟩:=qB h;have sx2:=(zV (gB.mk c f y) g1).p;rw [ad] at sx2;refine qI (gF (sx2)) ?_;refine gAk (u:=(.st [.i .i64 aa,.s ab,.sl 3 (jJ ac)])) ?_;refine gBn (jU TBd.h TZ.h rfl (by repeat constructor)) ?_;refine kN 2 rfl rfl ?_;refine jK ?_;cases h;exact qA
def gJj(c:jH)(a1:List gB):Option (gB × jH):=
bnd (gAi c (a1.length:Int)) fun f=>
bnd (at? a1 f.1) fun h=>
(some (h,f.2))
theorem hFd(c:jH)(a1:List gB){r:gB × jH}(h:gJj c a1=some r):Go.Eng.Spec Tryz.prog 42 [.ptr 0 0,.L 3 (jJ a1)] [bCu c.b c.i c.h] (fun sv Lo=>sv=.d (jS r.1)∧Lo=[bCu r.2.b r.2.i r.2.h]):=by
 obtain⟨ah,ai,aj⟩:=c;unfold gJj at h;refine kM 1 Tryz.func42 rfl (by kernel_rfl) rfl rfl fun A _=>?_;refine goL ?_;obtain⟨⟨al,⟨f,y,aa⟩⟩,ak,h⟩:=gP h;refine gAr 0 (gEc (jH.mk ah ai aj) (a1.length:Int) ak) ?_;obtain⟨x2,ab,h⟩:=gP h;obtain⟨ac,ab⟩:=gEd ab;obtain⟨ad,ae,ag⟩:=x2;refine jL (qP ac (zL ab)) ?_;refine jK ?_;obtain rfl:=Option.some.inj h;exact zB [.d (.st [.i .i64 ad,.s ae,.sl 3 (jJ ag)])] [bCu f y aa] ⟨rfl,rfl⟩
def gJk(list:List gD):Option (gD):=
gd (([]:List gD).length+list.length≤4294967296) (
(some (gD.mk [] ([]++list))))
theorem vD(list:List gD){r:gD}(h:gJk list=some r):Go.Eng.Spec Tryz.prog 204 [.L 2 (jA list)] [] (fun sv Lo=>sv=.ag [.S r.atom,.sl 0 0]∧Lo=[.arr 135 2 0 (jA r.list)]):=by
 unfold gJk at h;refine kM 0 Tryz.func204 rfl (by kernel_rfl) rfl rfl fun A _=>?_;refine goL ?_;refine gAl ?_;refine goL ?_;obtain⟨c,h⟩:=mW h;refine gBd c ?_;refine gBn (jU TBd.h TZ.h rfl (by repeat constructor)) ?_;refine hXv (fr':=[(2,.ptr 1 0)]) (Lc:=[.arr 135 2 (0+1) (jA ([]++list)),.box [.S [],.sl 0 (0+1)]]) 0 [1,0] ?_;refine jBr (fr':=[(2,.ptr 1 0)]) (L':=[.arr 135 2 0 (jA ([]++list)),.box [.S [],.sl 0 0]]) 0 0 ?_;refine jK ?_;obtain rfl:=Option.some.inj h;exact zB [.ag [.S [],.sl 0 0]] [.arr 135 2 0 (jA ([]++list))] ⟨rfl,rfl⟩
end Go.Proofs.YtegahmhnmjnhhaaGreat
