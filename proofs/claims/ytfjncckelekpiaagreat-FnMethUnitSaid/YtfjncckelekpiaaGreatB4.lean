import Derived.Test.YtfjncckelekpiaaGreatTh
set_option maxHeartbeats 4000000
set_option linter.unusedVariables false
set_option linter.unusedSimpArgs false
set_option linter.unusedSectionVars false
namespace Go.Proofs.YtfjncckelekpiaaGreat
open Go Go.Eng
attribute [local irreducible] V VO VQ VY Quiet QR gW pJ Rng vF uW uI
def gKf(code:LB):Nat→Int→Int→Option (kP)
 | 0,q,f=>none
 | y+1,q,f=>lt_ (cnd (decide (f < (code.length:Int))) (decide (f < 4000)) (false)) fun b4=>
(cnd b4 (
bnd (at? code f) fun x7=>
gKf code y (hIv (IntKind.i64.wrap ((IntKind.i64.wrap ((IntKind.i64.wrap (q*131))+(IntKind.i64.wrap (x7.toNat:Int))))+7)) 1073741823) (IntKind.i64.wrap (f+1))) (some (kP.mk code 0 q)))
def gV5(code:LB)(f:Nat):Option (kP):=
gKf code f (IntKind.i64.wrap ((28803:Int)+(code.length:Int))) 0
theorem hTl(code:LB){n0:Nat}{r:kP}(h:gV5 code n0=some r):Go.Eng.Spec Tryz.prog 9 [.L 1 (gHs code)] [] (fun sv Lo=>sv=.ptr 0 0∧Lo=[bCu r.b r.i r.h]):=by
 unfold gV5 at h;refine pK 0 Tryz.func9 rfl (by kernel_rfl) rfl rfl fun A _=>?_;refine goL ?_;refine gX (hUi) ?_;refine gX (pR) ?_;refine noB ?_;refine kQ (fun(f:Nat)(q:Int)(y:Int)=>⟨[(0,.L 1 (gHs code)),(3,.I q),(4,.I y)],[],Tryz.f9.ntmps⟩) (fun f q y=>gKf code f q y=some r) (fun f q y=>f) n0 (IntKind.i64.wrap ((28803:Int)+(code.length:Int))) 0 eJ h ?_;rintro f q y h;rcases f with _ | f
 ·cases h
 rw [gKf.eq_2] at h;refine goL ?_;obtain⟨b4,hb4,h⟩:=pI h;refine kG ⟨[(0,.L 1 (gHs code)),(3,.I q),(4,.I y),(15,.B b4)],[],Tryz.f9.ntmps⟩ ?_ ?_
 ·exact gqZ 12 hb4
 refine goC h ?_ ?_<;>intro c6 h
 ·refine noS ?_;refine kC (gP ?_);refine goL ?_;refine gX (pR) ?_;obtain⟨x7,aa,h⟩:=gK h;obtain⟨ab,aa⟩:=yY aa;refine gX (kY ab (hUh aa)) ?_;refine pX (hUj Tryz.underlying5 Tryz.underlying3) ?_;refine pX (pR) ?_;refine pX (pR) ?_;refine gX (hM5) ?_;refine gX (pR) ?_;exact⟨f,(hIv (IntKind.i64.wrap ((IntKind.i64.wrap ((IntKind.i64.wrap (q*131))+(IntKind.i64.wrap (x7.toNat:Int))))+7)) 1073741823),(IntKind.i64.wrap (y+1)),h,Nat.lt_succ_self _,eJ⟩
 ·refine goX ?_;refine gC1 (jI TBd.h TZ.h rfl (by repeat constructor)) ?_;refine jH ?_;obtain rfl:=Option.some.inj h;exact gHr [.ptr 0 0] _ ⟨rfl,rfl⟩
def gOo(code:LB):kP:=(gV5 code 4001).getD ⟨[],0,0⟩
theorem gV6(code:LB):∀(n:Nat)(q f:Int),0≤f→f≤4000→(4001 - f).toNat≤n→∃h,gKf code n q f=some ⟨code,0,h⟩
 | 0,q,f,y,h1,hn=>by omega
 | n+1,q,f,y,h1,hn=>by
   simp only [gKf,lt_];cases hc:decide (f < (code.length:Int))with
   | false=>exact⟨q,rfl⟩
   | true=>
     simp only [kJ];cases hd:decide (f < 4000)with
     | false=>exact⟨q,rfl⟩
     | true=>
       have h3:=of_decide_eq_true hc;have h4:=of_decide_eq_true hd;have hx:at? code f=some (code[f.toNat]'(by omega)):=by unfold at?;rw [if_pos y];exact List.getElem?_eq_getElem _
       simp only [kJ];rw [kX hx,gD7 (f+1) (by omega) (by omega)];exact gV6 code n _ (f+1) (by omega) (by omega) (by omega)
theorem hFk(code:LB):gV5 code 4001=some (gOo code)∧(gOo code).b=code∧(gOo code).i=0:=by
 obtain⟨h,e⟩:=gV6 code 4001 (IntKind.i64.wrap ((28803:Int)+(code.length:Int))) 0 (by omega) (by omega) (by omega);have e':gV5 code 4001=some ⟨code,0,h⟩:=e;unfold gOo;rw [e'];exact⟨rfl,rfl,rfl⟩
theorem hTm(code:LB):Go.Eng.Spec Tryz.prog 9 [.L 1 (gHs code)] [] (fun sv Lo=>sv=.ptr 0 0∧Lo=[.box [.d (.sl 1 (gHs (gOo code).b)),.d (.i .i64 (gOo code).i),.d (.i .i64 (gOo code).h)]]):=hTl code (hFk code).1
def gKc(c:kP):Option (Int × kP):=
(cnd (decide (c.i < (c.b.length:Int))) (
bnd (at? c.b c.i) fun f=>
some ((hIv (IntKind.i64.wrap ((hIv (hW6 (hQm (IntKind.i64.wrap ((IntKind.i64.wrap (c.h*6364136223846793005))+1442695040888963407)) 33) (hQm (IntKind.i64.wrap ((IntKind.i64.wrap (c.h*6364136223846793005))+1442695040888963407)) 45)) 255)+(IntKind.i64.wrap (f.toNat:Int)))) 255),(kP.mk c.b (IntKind.i64.wrap (c.i+1)) (IntKind.i64.wrap ((IntKind.i64.wrap (c.h*6364136223846793005))+1442695040888963407))))) (some ((hIv (hW6 (hQm (IntKind.i64.wrap ((IntKind.i64.wrap (c.h*6364136223846793005))+1442695040888963407)) 33) (hQm (IntKind.i64.wrap ((IntKind.i64.wrap (c.h*6364136223846793005))+1442695040888963407)) 45)) 255),(kP.mk c.b c.i (IntKind.i64.wrap ((IntKind.i64.wrap (c.h*6364136223846793005))+1442695040888963407))))))
theorem gRl(c:kP){r:Int × kP}(h:gKc c=some r):Go.Eng.Spec Tryz.prog 54 [.ptr 0 0] [bCu c.b c.i c.h] (fun sv Lo=>sv=.I r.1∧Lo=[bCu r.2.b r.2.i r.2.h]):=by
 obtain⟨aa,ab,f⟩:=c;unfold gKc at h;refine pK 1 Tryz.func54 rfl (by kernel_rfl) rfl rfl fun A _=>?_;refine goL ?_;refine pX (pR) ?_;refine gX (pR) ?_;refine wC (hSe) ?_;refine goL ?_;refine wC (hSe) ?_;refine wC (hW7) ?_;refine wC (hM5) ?_;refine goC h ?_ ?_<;>intro c1 h
 ·refine goL ?_;obtain⟨x2,q,h⟩:=gK h;obtain⟨y,q⟩:=yY q;refine wC (kY y (hUh q)) ?_;refine goL ?_;refine wC (hUj Tryz.underlying5 Tryz.underlying3) ?_;refine wC (pR) ?_;refine wC (hM5) ?_;refine goL ?_;refine gX (pR) ?_;refine jH ?_;obtain rfl:=Option.some.inj h;exact gHr [.d (.i .i64 (hIv (IntKind.i64.wrap ((hIv (hW6 (hQm (IntKind.i64.wrap ((IntKind.i64.wrap (f*6364136223846793005))+1442695040888963407)) 33) (hQm (IntKind.i64.wrap ((IntKind.i64.wrap (f*6364136223846793005))+1442695040888963407)) 45)) 255)+(IntKind.i64.wrap (x2.toNat:Int)))) 255))] _ ⟨rfl,rfl⟩
 ·refine goS ?_;refine jH ?_;obtain rfl:=Option.some.inj h;exact gHr [.d (.i .i64 (hIv (hW6 (hQm (IntKind.i64.wrap ((IntKind.i64.wrap (f*6364136223846793005))+1442695040888963407)) 33) (hQm (IntKind.i64.wrap ((IntKind.i64.wrap (f*6364136223846793005))+1442695040888963407)) 45)) 255))] _ ⟨rfl,rfl⟩
def gAt(c:kP)(n:Int):Option (Int × kP):=
(cnd (decide (n≤0)) (some (0,c)) (cnd (decide (n≤256)) (
bnd (gKc c) fun f=>
gd (n≠0) (some ((Int.tmod f.1 n),f.2))) (
bnd (gKc c) fun q=>
bnd (gKc q.2) fun y=>
bnd (gKc y.2) fun x7=>
bnd (gKc x7.2) fun x8=>
gd (n≠0) (some ((Int.tmod (IntKind.i64.wrap ((IntKind.i64.wrap ((IntKind.i64.wrap ((IntKind.i64.wrap (q.1*16777216))+(IntKind.i64.wrap (y.1*65536))))+(IntKind.i64.wrap (x7.1*256))))+x8.1)) n),x8.2)))))
theorem gG0(c:kP)(n:Int){r:Int × kP}(h:gAt c n=some r):Go.Eng.Spec Tryz.prog 32 [.ptr 0 0,.I n] [bCu c.b c.i c.h] (fun sv Lo=>sv=.I r.1∧Lo=[bCu r.2.b r.2.i r.2.h]):=by
 obtain⟨ah,ai,aj⟩:=c;unfold gAt at h;refine pK 1 Tryz.func32 rfl (by kernel_rfl) rfl rfl fun A _=>?_;refine goC h ?_ ?_<;>intro c1 h
 ·refine goL ?_;refine jH ?_;obtain rfl:=Option.some.inj h;exact gHr [.I 0] _ ⟨rfl,rfl⟩
 ·refine goS ?_;refine kN (fun c2=>?_) (fun c2=>?_)
  ·replace h:=jU c2 h;refine goL ?_;obtain⟨⟨ak,⟨ap,aq,ar⟩⟩,ay,h⟩:=gK h;refine gCt 0 (gRl (kP.mk ah ai aj) ay) ?_;refine goL ?_;obtain⟨g4,h⟩:=mI h;refine gX (hSf g4) ?_;refine jH ?_;obtain rfl:=Option.some.inj h;exact gHr [.I (Int.tmod ak n)] _ ⟨rfl,rfl⟩
  ·replace h:=jV c2 h;refine goS ?_;obtain⟨⟨al,⟨f,q,y⟩⟩,a0,h⟩:=gK h;refine gCt 0 (gRl (kP.mk ah ai aj) a0) ?_;refine goL ?_;obtain⟨⟨am,⟨aa,ab,ac⟩⟩,a2,h⟩:=gK h;refine gCt 0 (gRl (kP.mk f q y) a2) ?_;refine goL ?_;obtain⟨⟨an,⟨ad,ae,ag⟩⟩,a3,h⟩:=gK h;refine gCt 0 (gRl (kP.mk aa ab ac) a3) ?_;refine goL ?_;obtain⟨⟨ao,⟨au,av,aw⟩⟩,a4,h⟩:=gK h;refine gCt 0 (gRl (kP.mk ad ae ag) a4) ?_;refine goL ?_;refine gX (pR) ?_;refine pX (pR) ?_;refine gX (pR) ?_;refine pX (pR) ?_;refine gX (pR) ?_;refine gX (pR) ?_;obtain⟨g9,h⟩:=mI h;refine gX (hSf g9) ?_;refine jH ?_;obtain rfl:=Option.some.inj h;exact gHr [.d (.i .i64 (Int.tmod (IntKind.i64.wrap ((IntKind.i64.wrap ((IntKind.i64.wrap ((IntKind.i64.wrap (al*16777216))+(IntKind.i64.wrap (am*65536))))+(IntKind.i64.wrap (an*256))))+ao)) n))] _ ⟨rfl,rfl⟩
def gDc(c:kP)(l:LS):Option (LB × kP):=
bnd (gAt c (l.length:Int)) fun f=>
bnd (at? l f.1) fun q=>
(some (q,f.2))
theorem gLw(c:kP)(l:LS){r:LB × kP}(h:gDc c l=some r):Go.Eng.Spec Tryz.prog 13 [.ptr 0 0,.L 1 (kD l)] [bCu c.b c.i c.h] (fun sv Lo=>sv=.S r.1∧Lo=[bCu r.2.b r.2.i r.2.h]):=by
 obtain⟨ac,ad,ae⟩:=c;unfold gDc at h;refine pK 1 Tryz.func13 rfl (by kernel_rfl) rfl rfl fun A _=>?_;refine goL ?_;obtain⟨⟨ah,⟨y,aa,ab⟩⟩,ag,h⟩:=gK h;refine gCt 0 (gG0 (kP.mk ac ad ae) (l.length:Int) ag) ?_;obtain⟨x2,f,h⟩:=gK h;obtain⟨q,f⟩:=yY f;refine gX (kY q (gN4 f)) ?_;refine jH ?_;obtain rfl:=Option.some.inj h;exact gHr [.S x2] _ ⟨rfl,rfl⟩
def gG1(q:LS→Option (LS × LS × LS × LS)):List mJ→LS→Option (LS × LS × LS × LS)
 | [],f=>(q f)
 | y::xs,f=>gd (f.length+[y.name].length≤4294967296) (
gG1 q xs (f++[y.name]))
def gG2(y1:LS)(y8:LS)(q:LS):List kF→LS→Option (LS × LS × LS × LS)
 | [],f=>(some (y1,y8,q,f))
 | y::xs,f=>gd (f.length+[y.name].length≤4294967296) (
gG2 y1 y8 q xs (f++[y.name]))
def gEp(a0:jL)(y1:LS):List jW→LS→LS→Option (LS × LS × LS × LS)
 | [],y,f=>gG2 y1 y f a0.functions []
 | q::xs,y,f=>gd (y.length+[q.name].length≤4294967296) (
gG1 (fun aa=>gEp a0 y1 xs (y++[q.name]) aa) q.constructors f)
def gG3(q:jL):List mE→LS→Option (LS × LS × LS × LS)
 | [],f=>gEp q f q.dataTypes [] []
 | y::xs,f=>gd (f.length+[y.name].length≤4294967296) (
gG3 q xs (f++[y.name]))
def gPs(f:jL):Option (LS × LS × LS × LS):=
gG3 f f.traits []
theorem gX7(a0:jL){r:LS × LS × LS × LS}(h:gPs a0=some r):gW Tryz.prog 103 [.d (gHd a0)] [.sl 1 (kD r.1),.sl 1 (kD r.2.1),.sl 1 (kD r.2.2.1),.sl 1 (kD r.2.2.2)]:=by
 obtain⟨ab,ac,q,f,ad,y⟩:=a0;unfold gPs at h;refine SpI Tryz.func103 fun A _=>?_;refine goL ?_;refine gFh ?_;refine goL ?_;refine gFh ?_;refine goL ?_;refine gFh ?_;refine goL ?_;refine gFh ?_;refine goL ?_;refine noB ?_;refine pG 0 2 (fun z4=>?_);refine kQ (fun(y3:Nat)(y1:LS)(v2:Nat)=>⟨[(1,.ptr 0 0),(6,.sl 1 v2),(7,.sl 2 0),(8,.sl 3 0),(9,.sl 4 0),(10,.N y3)],[bPk ab ac q f ad y,.own 9 1 v2 (kD y1),.own 9 1 0 [],.own 9 1 0 [],.own 9 1 0 []],Tryz.f103.ntmps⟩) (fun y3 y1 v2=>gG3 (jL.mk ab ac q f ad y) (q.drop y3) y1=some r) (fun y3 y1 v2=>q.length - y3) 0 [] 0 eJ h ?_;rintro y3 y1 v2 h;refine goL ?_;refine kN (fun c5=>?_) (fun c5=>?_)
 ·have ao:=qB c5;obtain⟨x6,bw,bh⟩:=drop_at ao;rw [bh,gG3.eq_2] at h;obtain⟨a6,b8,b9,ca,cb⟩:=x6;refine noS ?_;refine kC (gP ?_);refine goL ?_;refine gX (gV y3 (gLc bw)) ?_;refine gAz a6 ?_;obtain⟨g7,h⟩:=mI h;refine gDj g7 ?_;refine goL ?_;refine gX (jK y3 (by omega)) ?_;exact⟨(y3+1),(y1++[a6]),(v2+1),h,by omega,eJ⟩
 ·have ao:=qC c5;rw [gT ao,gG3.eq_1] at h;refine goX ?_;refine noB ?_;refine pG 0 3 (fun ce=>?_);refine gMj (fun(aa:Nat)(y8:LS)(am:LS)(v9:Nat)(an:Nat)=>⟨[(1,.ptr 0 0),(6,.sl 1 v2),(7,.sl 2 v9),(8,.sl 3 an),(9,.sl 4 0),(11,.N aa)],[bPk ab ac q f ad y,.own 9 1 v2 (kD y1),.own 9 1 v9 (kD y8),.own 9 1 an (kD am),.own 9 1 0 []],Tryz.f103.ntmps⟩) (fun aa y8 am v9 an=>gEp (jL.mk ab ac q f ad y) y1 (f.drop aa) y8 am=some r) (fun aa y8 am v9 an=>f.length - aa) 0 [] [] 0 0 eJ h ?_;rintro aa y8 am v9 an h;refine goL ?_;refine kN (fun a7=>?_) (fun a7=>?_)
  ·have ae:=qB a7;obtain⟨bx,ax,a8⟩:=drop_at ae;rw [a8,gEp.eq_2] at h;obtain⟨ag,a9,ap⟩:=bx;refine noS ?_;refine kC (gP ?_);refine goL ?_;refine gX (gV aa (gHc ax)) ?_;refine gAz ag ?_;obtain⟨bz,h⟩:=mI h;refine gDj bz ?_;refine goL ?_;refine noB ?_;refine kQ (fun(ah:Nat)(ai:LS)(aq:Nat)=>⟨[(1,.ptr 0 0),(6,.sl 1 v2),(7,.sl 2 (v9+1)),(8,.sl 3 aq),(9,.sl 4 0),(11,.N aa),(12,.N ah)],[bPk ab ac q f ad y,.own 9 1 v2 (kD y1),.own 9 1 (v9+1) (kD (y8++[ag])),.own 9 1 aq (kD ai),.own 9 1 0 [],.dead 1],Tryz.f103.ntmps⟩) (fun ah ai aq=>gG1 (fun ai=>gEp (jL.mk ab ac q f ad y) y1 (f.drop (aa+1)) (y8++[(jW.mk ag a9 ap).name]) ai) (ap.drop ah) ai=some r) (fun ah ai aq=>ap.length - ah) 0 am an eJ h ?_;rintro ah ai aq h;refine goL ?_;refine gX (gV aa (gHc ax)) ?_;refine kN (fun ba=>?_) (fun ba=>?_)
   ·have aj:=qB ba;refine gB0 56 (fun cf=>?_);obtain⟨b0,bi,bb⟩:=drop_at aj;rw [bb,gG1.eq_2] at h;obtain⟨ay,b1⟩:=b0;refine noS ?_;refine kC (gP ?_);refine goL ?_;refine gX (gV aa (gHc ax)) ?_;refine gX (gV ah (qA bi)) ?_;refine gAz ay ?_;obtain⟨b2,h⟩:=mI h;refine gDj b2 ?_;refine goL ?_;refine gX (jK ah (by omega)) ?_;exact⟨(ah+1),(ai++[ay]),(aq+1),h,by omega,eJ⟩
   ·have aj:=qC ba;rw [gT aj,gG1.eq_1] at h;refine goX ?_;refine gX (jK aa (by omega)) ?_;exact⟨(aa+1),(y8++[ag]),ai,(v9+1),aq,h,by omega,eJ⟩
  ·have ae:=qC a7;rw [gT ae,gEp.eq_1] at h;refine goX ?_;refine noB ?_;refine pG 0 5 (fun cg=>?_);refine kQ (fun(ak:Nat)(ar:LS)(au:Nat)=>⟨[(1,.ptr 0 0),(6,.sl 1 v2),(7,.sl 2 v9),(8,.sl 3 an),(9,.sl 4 au),(13,.N ak)],[bPk ab ac q f ad y,.own 9 1 v2 (kD y1),.own 9 1 v9 (kD y8),.own 9 1 an (kD am),.own 9 1 au (kD ar)],Tryz.f103.ntmps⟩) (fun ak ar au=>gG2 y1 y8 am (y.drop ak) ar=some r) (fun ak ar au=>y.length - ak) 0 [] 0 eJ h ?_;rintro ak ar au h;refine goL ?_;refine kN (fun bc=>?_) (fun bc=>?_)
   ·have al:=qB bc;obtain⟨b3,bj,bd⟩:=drop_at al;rw [bd,gG2.eq_2] at h;obtain⟨a2,b4,b5,b6,⟨bk,bl,bm⟩,⟨bn,bo,bp,bq,⟨be,bf,bg⟩,br,bt⟩⟩:=b3;refine noS ?_;refine kC (gP ?_);refine goL ?_;refine gX (gV ak (gLd bj)) ?_;refine gAz a2 ?_;obtain⟨b7,h⟩:=mI h;refine gDj b7 ?_;refine goL ?_;refine gX (jK ak (by omega)) ?_;exact⟨(ak+1),(ar++[a2]),(au+1),h,by omega,eJ⟩
   ·have al:=qC bc;rw [gT al,gG2.eq_1] at h;refine goX ?_;refine qW 1 rfl rfl ?_;refine qW 2 rfl rfl ?_;refine qW 3 rfl rfl ?_;refine qW 4 rfl rfl ?_;refine jH ?_;cases h;exact mM
def gG4(c:kP)(a1:Int):Option (Bool × kP):=
bnd (gAt c a1) fun f=>
(some ((f.1==0),f.2))
theorem gPt(c:kP)(a1:Int){r:Bool × kP}(h:gG4 c a1=some r):Go.Eng.Spec Tryz.prog 31 [.ptr 0 0,.I a1] [bCu c.b c.i c.h] (fun sv Lo=>sv=.B r.1∧Lo=[bCu r.2.b r.2.i r.2.h]):=by
 obtain⟨ab,ac,ad⟩:=c;unfold gG4 at h;refine pK 1 Tryz.func31 rfl (by kernel_rfl) rfl rfl fun A _=>?_;refine goL ?_;obtain⟨⟨f,⟨q,y,aa⟩⟩,ae,h⟩:=gK h;refine gCt 0 (gG0 (kP.mk ab ac ad) a1 ae) ?_;refine goL ?_;refine jH ?_;obtain rfl:=Option.some.inj h;exact gHr [.B (f==0)] _ ⟨rfl,rfl⟩
def gAu(a1:LB):List jL→Nat→Int
 | [],f=>(-1)
 | q::xs,f=>(cnd (q.name==a1) (f:Int) (
gAu a1 xs (f+1)))
def uT(f:gG)(a1:LB):Int:=
gAu a1 f.packages 0
theorem gKz(a0:gG)(a1:LB):gW Tryz.prog 97 [.d (jX a0),.S a1] [.i .i64 (uT a0 a1)]:=by
 obtain⟨r,h⟩:∃r,uT a0 a1=r:=⟨_,rfl⟩
 rw [h];obtain⟨q⟩:=a0;unfold uT at h;refine SpI Tryz.func97 fun A _=>?_;refine goL ?_;refine noB ?_;refine pG 0 0 (fun z2=>?_);refine kZ (fun(y:Nat)=>⟨[(1,.S a1),(2,.ptr 0 0),(5,.N y)],[bPr q],Tryz.f97.ntmps⟩) (fun y=>gAu a1 (q.drop y) y=r) (fun y=>q.length - y) 0 eJ h ?_;rintro y h;refine goL ?_;refine kN (fun c3=>?_) (fun c3=>?_)
 ·have f:=qB c3;obtain⟨x4,ad,aa⟩:=drop_at f;rw [aa,gAu.eq_2] at h;obtain⟨ag,ah,ai,aj,ak,al⟩:=x4;refine noS ?_;refine kC (gP ?_);refine goL ?_;refine gX (gV y (mX ad)) ?_;refine kN (fun c5=>?_) (fun c5=>?_)
  ·replace h:=jU c5 h;refine goL ?_;refine jH ?_;subst h;exact mM
  ·replace h:=jV c5 h;refine goS ?_;refine gX (jK y (by omega)) ?_;exact⟨(y+1),h,by omega,eJ⟩
 ·have f:=qC c3;rw [gT f,gAu.eq_1] at h;refine goX ?_;refine jH ?_;subst h;exact mM
def gLx(code:Int)(i:Int)(kind:LB)(name:LB)(f:List mF):Option (List mF):=
(cnd (code==0) (some f) (
gd (f.length+[(mF.mk code i kind name)].length≤4294967296) (some (f++[(mF.mk code i kind name)]))))
theorem gUg(code:Int)(i:Int)(kind:LB)(name:LB)(q:List mF)(f:Nat){r:List mF}(h:gLx code i kind name q=some r):Go.Eng.Spec Tryz.prog 98 [.sl 0 f,.I code,.I i,.S kind,.S name] [.arr 153 4 f (vM q)] (fun sv Lo=>∃v'0,sv=.sl 0 v'0∧Lo=[.arr 153 4 v'0 (vM r)]):=by
 unfold gLx at h;refine pK 1 Tryz.func98 rfl (by kernel_rfl) rfl rfl fun A _=>?_;refine goC h ?_ ?_<;>intro c1 h
 ·refine goL ?_;refine jH ?_;obtain rfl:=Option.some.inj h;exact gHr [.sl 0 f] _ ⟨f,rfl,rfl⟩
 ·refine goS ?_;refine uX (jI TBd.h TZ.h rfl (by repeat constructor)) ?_;refine uN (u:=(.st [.i .i64 code,.i .i64 i,.s kind,.s name])) ?_;obtain⟨y,h⟩:=mI h;refine vR y ?_;refine goL ?_;refine jH ?_;obtain rfl:=Option.some.inj h;exact gHr [.sl 0 (f+1)] _ ⟨(f+1),rfl,rfl⟩
def gDs(a1:LB)(q:Nat)(f:mE × Int × Bool):List mE→mE × Int × Bool
 | []=>f
 | y::xs=>(cnd (y.name==a1) (y,(q:Int),true) (
gDs a1 q f xs ))
def gBi(a1:LB):List jL→Nat→mE × Int × Bool
 | [],f=>((mE.mk [] [] false false []),0,false)
 | q::xs,f=>gDs a1 f (gBi a1 xs (f+1)) q.traits
def uC(f:gG)(a1:LB):mE × Int × Bool:=
gBi a1 f.packages 0
theorem gDt(a0:gG)(a1:LB):gW Tryz.prog 81 [.d (jX a0),.S a1] [gF2 (uC a0 a1).1,.i .i64 (uC a0 a1).2.1,.b (uC a0 a1).2.2]:=by
 obtain⟨r,h⟩:∃r,uC a0 a1=r:=⟨_,rfl⟩
 rw [h];obtain⟨f⟩:=a0;unfold uC at h;refine SpI Tryz.func81 fun A _=>?_;refine goL ?_;refine noB ?_;refine pG 0 0 (fun z2=>?_);refine kZ (fun(q:Nat)=>⟨[(1,.S a1),(2,.ptr 0 0),(4,.ptr 1 0),(7,.N q)],[bPr f,.box [.S [],.nilsl,.B false,.B false,.nilsl]],Tryz.f81.ntmps⟩) (fun q=>gBi a1 (f.drop q) q=r) (fun q=>f.length - q) 0 eJ h ?_;rintro q h;refine goL ?_;refine kN (fun c3=>?_) (fun c3=>?_)
 ·have y:=qB c3;obtain⟨x4,ad,ag⟩:=drop_at y;rw [ag,gBi.eq_2] at h;obtain⟨am,an,ac,ao,ap,aq⟩:=x4;refine noS ?_;refine kC (gP ?_);refine goL ?_;refine noB ?_;refine kZ (fun(y5:Nat)=>⟨[(1,.S a1),(2,.ptr 0 0),(4,.ptr 1 0),(7,.N q),(8,.N y5)],[bPr f,.box [.S [],.nilsl,.B false,.B false,.nilsl]],Tryz.f81.ntmps⟩) (fun y5=>gDs a1 q (gBi a1 (f.drop (q+1)) (q+1)) (ac.drop y5)  =r) (fun y5=>ac.length - y5) 0 eJ h ?_;rintro y5 h;refine goL ?_;refine gX (gV q (mX ad)) ?_;refine kN (fun c6=>?_) (fun c6=>?_)
  ·have aa:=qB c6;refine gB0 22 (fun z7=>?_);obtain⟨x8,ah,ai⟩:=drop_at aa;rw [ai,gDs.eq_2] at h;obtain⟨ar,au,av,aw,ax⟩:=x8;refine noS ?_;refine kC (gP ?_);refine goL ?_;refine gX (gV q (mX ad)) ?_;refine gX (gV y5 (gLc ah)) ?_;refine kN (fun c9=>?_) (fun c9=>?_)
   ·replace h:=jU c9 h;refine goL ?_;refine gX (gV q (mX ad)) ?_;refine gX (gV y5 (gLc ah)) ?_;refine jH ?_;subst h;exact mM
   ·replace h:=jV c9 h;refine goS ?_;refine gX (jK y5 (by omega)) ?_;exact⟨(y5+1),h,by omega,eJ⟩
  ·have aa:=qC c6;rw [gT aa,gDs.eq_1] at h;refine goX ?_;refine gX (jK q (by omega)) ?_;exact⟨(q+1),h,by omega,eJ⟩
 ·have y:=qC c3;rw [gT y,gBi.eq_1] at h;refine goX ?_;refine gC1 (jI TBd.h TZ.h rfl (by repeat constructor)) ?_;refine jH ?_;subst h;exact mM
def gG5(a1:Int):List Int→Bool
 | []=>false
 | f::xs=>(cnd (f==a1) (
true) (
gG5 a1 xs ))
def gMr(f:List Int)(a1:Int):Bool:=
gG5 a1 f
theorem gX8(y:List Int)(a1:Int):gW Tryz.prog 222 [.L 1 (yC y),.I a1] [.b (gMr y a1)]:=by
 obtain⟨r,h⟩:∃r,gMr y a1=r:=⟨_,rfl⟩
 rw [h];unfold gMr at h;refine SpI Tryz.func222 fun A _=>?_;refine goL ?_;refine noB ?_;refine gB0 0 (fun z2=>?_);refine kZ (fun(q:Nat)=>⟨[(0,.L 1 (yC y)),(1,.I a1),(5,.N q)],[],Tryz.f222.ntmps⟩) (fun q=>gG5 a1 (y.drop q)  =r) (fun q=>y.length - q) 0 eJ h ?_;rintro q h;refine goL ?_;refine kN (fun c3=>?_) (fun c3=>?_)
 ·have f:=qB c3;obtain⟨x4,ac,aa⟩:=drop_at f;rw [aa,gG5.eq_2] at h;refine noS ?_;refine kC (gP ?_);refine goL ?_;refine gX (gV q (hVk ac)) ?_;refine kN (fun c5=>?_) (fun c5=>?_)
  ·replace h:=jU c5 h;refine goL ?_;refine jH ?_;subst h;exact mM
  ·replace h:=jV c5 h;refine goS ?_;refine gX (jK q (by omega)) ?_;exact⟨(q+1),h,by omega,eJ⟩
 ·have f:=qC c3;rw [gT f,gG5.eq_1] at h;refine goX ?_;refine jH ?_;subst h;exact mM
def gA2(a1:LB)(q:Nat)(f:jW × Int × Bool):List jW→jW × Int × Bool
 | []=>f
 | y::xs=>(cnd (y.name==a1) (y,(q:Int),true) (
gA2 a1 q f xs ))
def yD(a1:LB):List jL→Nat→jW × Int × Bool
 | [],f=>((jW.mk [] [] []),0,false)
 | q::xs,f=>gA2 a1 f (yD a1 xs (f+1)) q.dataTypes
def wQ(f:gG)(a1:LB):jW × Int × Bool:=
yD a1 f.packages 0
theorem gNd(a0:gG)(a1:LB):gW Tryz.prog 132 [.d (jX a0),.S a1] [gAf (wQ a0 a1).1,.i .i64 (wQ a0 a1).2.1,.b (wQ a0 a1).2.2]:=by
 obtain⟨r,h⟩:∃r,wQ a0 a1=r:=⟨_,rfl⟩
 rw [h];obtain⟨f⟩:=a0;unfold wQ at h;refine SpI Tryz.func132 fun A _=>?_;refine goL ?_;refine noB ?_;refine pG 0 0 (fun z2=>?_);refine kZ (fun(q:Nat)=>⟨[(1,.S a1),(2,.ptr 0 0),(4,.ptr 1 0),(7,.N q)],[bPr f,.box [.S [],.nilsl,.nilsl]],Tryz.f132.ntmps⟩) (fun q=>yD a1 (f.drop q) q=r) (fun q=>f.length - q) 0 eJ h ?_;rintro q h;refine goL ?_;refine kN (fun c3=>?_) (fun c3=>?_)
 ·have y:=qB c3;obtain⟨x4,ad,ag⟩:=drop_at y;rw [ag,yD.eq_2] at h;obtain⟨am,an,ao,ac,ap,aq⟩:=x4;refine noS ?_;refine kC (gP ?_);refine goL ?_;refine noB ?_;refine kZ (fun(y5:Nat)=>⟨[(1,.S a1),(2,.ptr 0 0),(4,.ptr 1 0),(7,.N q),(8,.N y5)],[bPr f,.box [.S [],.nilsl,.nilsl]],Tryz.f132.ntmps⟩) (fun y5=>gA2 a1 q (yD a1 (f.drop (q+1)) (q+1)) (ac.drop y5)  =r) (fun y5=>ac.length - y5) 0 eJ h ?_;rintro y5 h;refine goL ?_;refine gX (gV q (mX ad)) ?_;refine kN (fun c6=>?_) (fun c6=>?_)
  ·have aa:=qB c6;refine gB0 22 (fun z7=>?_);obtain⟨x8,ah,ai⟩:=drop_at aa;rw [ai,gA2.eq_2] at h;obtain⟨ar,au,av⟩:=x8;refine noS ?_;refine kC (gP ?_);refine goL ?_;refine gX (gV q (mX ad)) ?_;refine gX (gV y5 (gHc ah)) ?_;refine kN (fun c9=>?_) (fun c9=>?_)
   ·replace h:=jU c9 h;refine goL ?_;refine gX (gV q (mX ad)) ?_;refine gX (gV y5 (gHc ah)) ?_;refine jH ?_;subst h;exact mM
   ·replace h:=jV c9 h;refine goS ?_;refine gX (jK y5 (by omega)) ?_;exact⟨(y5+1),h,by omega,eJ⟩
  ·have aa:=qC c6;rw [gT aa,gA2.eq_1] at h;refine goX ?_;refine gX (jK q (by omega)) ?_;exact⟨(q+1),h,by omega,eJ⟩
 ·have y:=qC c3;rw [gT y,yD.eq_1] at h;refine goX ?_;refine gC1 (jI TBd.h TZ.h rfl (by repeat constructor)) ?_;refine jH ?_;subst h;exact mM
def gK0(a1:LB):List kW→kW × Bool
 | []=>((kW.mk [] [] (gF.mk 0 [] []) false [] (gY.mk 0 [] [] 0 (gF.mk 0 [] []) [] [])),false)
 | f::xs=>(cnd (f.name==a1) (f,true) (
gK0 a1 xs ))
def gNe(f:mE)(a1:LB):kW × Bool:=
gK0 a1 f.signatures
theorem gZg(a0:mE)(a1:LB):gW Tryz.prog 164 [.d (gF2 a0),.S a1] [gC0 (gNe a0 a1).1,.b (gNe a0 a1).2]:=by
 obtain⟨r,h⟩:∃r,gNe a0 a1=r:=⟨_,rfl⟩
 rw [h];obtain⟨ae,ag,ah,ai,q⟩:=a0;unfold gNe at h;refine SpI Tryz.func164 fun A _=>?_;refine goL ?_;refine noB ?_;refine pG 0 4 (fun z2=>?_);refine kZ (fun(y:Nat)=>⟨[(1,.S a1),(2,.ptr 0 0),(4,.ptr 1 0),(6,.N y)],[bTr ae ag ah ai q,.box [.S [],.nilsl,.I 0,.S [],.nilsl,.B false,.nilsl,.I 0,.S [],.S [],.I 0,.I 0,.S [],.nilsl,.nilsl,.nilsl]],Tryz.f164.ntmps⟩) (fun y=>gK0 a1 (q.drop y)  =r) (fun y=>q.length - y) 0 eJ h ?_;rintro y h;refine goL ?_;refine kN (fun c3=>?_) (fun c3=>?_)
 ·have f:=qB c3;obtain⟨x4,aj,ak⟩:=drop_at f;rw [ak,gK0.eq_2] at h;obtain⟨ay,a2,⟨al,am,an⟩,a3,a4,⟨ao,ap,aq,ar,⟨aa,ab,ac⟩,au,av⟩⟩:=x4;refine noS ?_;refine kC (gP ?_);refine goL ?_;refine gX (gV y (vU aj)) ?_;refine kN (fun c5=>?_) (fun c5=>?_)
  ·replace h:=jU c5 h;refine goL ?_;refine gX (gV y (vU aj)) ?_;refine jH ?_;subst h;exact mM
  ·replace h:=jV c5 h;refine goS ?_;refine gX (jK y (by omega)) ?_;exact⟨(y+1),h,by omega,eJ⟩
 ·have f:=qC c3;rw [gT f,gK0.eq_1] at h;refine goX ?_;refine gC1 (jI TBd.h TZ.h rfl (by repeat constructor)) ?_;refine jH ?_;subst h;exact mM
def gJb(a1:LB)(q:Nat)(f:kF × Int × Bool):List kF→kF × Int × Bool
 | []=>f
 | y::xs=>(cnd (y.name==a1) (y,(q:Int),true) (
gJb a1 q f xs ))
def gF0(a1:LB):List jL→Nat→kF × Int × Bool
 | [],f=>((kF.mk [] [] [] [] (gF.mk 0 [] []) (gY.mk 0 [] [] 0 (gF.mk 0 [] []) [] [])),0,false)
 | q::xs,f=>gJb a1 f (gF0 a1 xs (f+1)) q.functions
def gK1(f:gG)(a1:LB):kF × Int × Bool:=
gF0 a1 f.packages 0
theorem hBp(a0:gG)(a1:LB):gW Tryz.prog 171 [.d (jX a0),.S a1] [gCr (gK1 a0 a1).1,.i .i64 (gK1 a0 a1).2.1,.b (gK1 a0 a1).2.2]:=by
 obtain⟨r,h⟩:∃r,gK1 a0 a1=r:=⟨_,rfl⟩
 rw [h];obtain⟨f⟩:=a0;unfold gK1 at h;refine SpI Tryz.func171 fun A _=>?_;refine goL ?_;refine noB ?_;refine pG 0 0 (fun z2=>?_);refine kZ (fun(q:Nat)=>⟨[(1,.S a1),(2,.ptr 0 0),(4,.ptr 1 0),(7,.N q)],[bPr f,.box [.S [],.nilsl,.nilsl,.nilsl,.I 0,.S [],.nilsl,.I 0,.S [],.S [],.I 0,.I 0,.S [],.nilsl,.nilsl,.nilsl]],Tryz.f171.ntmps⟩) (fun q=>gF0 a1 (f.drop q) q=r) (fun q=>f.length - q) 0 eJ h ?_;rintro q h;refine goL ?_;refine kN (fun c3=>?_) (fun c3=>?_)
 ·have y:=qB c3;obtain⟨x4,ad,aj⟩:=drop_at y;rw [aj,gF0.eq_2] at h;obtain⟨a3,a4,a5,a6,a7,ac⟩:=x4;refine noS ?_;refine kC (gP ?_);refine goL ?_;refine noB ?_;refine kZ (fun(y5:Nat)=>⟨[(1,.S a1),(2,.ptr 0 0),(4,.ptr 1 0),(7,.N q),(8,.N y5)],[bPr f,.box [.S [],.nilsl,.nilsl,.nilsl,.I 0,.S [],.nilsl,.I 0,.S [],.S [],.I 0,.I 0,.S [],.nilsl,.nilsl,.nilsl]],Tryz.f171.ntmps⟩) (fun y5=>gJb a1 q (gF0 a1 (f.drop (q+1)) (q+1)) (ac.drop y5)  =r) (fun y5=>ac.length - y5) 0 eJ h ?_;rintro y5 h;refine goL ?_;refine gX (gV q (mX ad)) ?_;refine kN (fun c6=>?_) (fun c6=>?_)
  ·have aa:=qB c6;refine gB0 22 (fun z7=>?_);obtain⟨x8,ak,al⟩:=drop_at aa;rw [al,gJb.eq_2] at h;obtain⟨a8,a9,ba,bb,⟨am,an,ao⟩,⟨ap,aq,ar,au,⟨ag,ah,ai⟩,av,aw⟩⟩:=x8;refine noS ?_;refine kC (gP ?_);refine goL ?_;refine gX (gV q (mX ad)) ?_;refine gX (gV y5 (gLd ak)) ?_;refine kN (fun c9=>?_) (fun c9=>?_)
   ·replace h:=jU c9 h;refine goL ?_;refine gX (gV q (mX ad)) ?_;refine gX (gV y5 (gLd ak)) ?_;refine jH ?_;subst h;exact mM
   ·replace h:=jV c9 h;refine goS ?_;refine gX (jK y5 (by omega)) ?_;exact⟨(y5+1),h,by omega,eJ⟩
  ·have aa:=qC c6;rw [gT aa,gJb.eq_1] at h;refine goX ?_;refine gX (jK q (by omega)) ?_;exact⟨(q+1),h,by omega,eJ⟩
 ·have y:=qC c3;rw [gT y,gF0.eq_1] at h;refine goX ?_;refine gC1 (jI TBd.h TZ.h rfl (by repeat constructor)) ?_;refine jH ?_;subst h;exact mM
def gFa(a1:LB)(x8:jW)(f:jW × Int × Bool):List mJ→Nat→jW × Int × Bool
 | [],q=>f
 | y::xs,q=>(cnd (y.name==a1) (x8,(q:Int),true) (
gFa a1 x8 f xs (q+1)))
def gCy(a1:LB)(f:jW × Int × Bool):List jW→jW × Int × Bool
 | []=>f
 | q::xs=>gFa a1 q (gCy a1 f xs ) q.constructors 0
def gA3(a1:LB):List jL→jW × Int × Bool
 | []=>((jW.mk [] [] []),0,false)
 | f::xs=>gCy a1 (gA3 a1 xs ) f.dataTypes
def gDu(f:gG)(a1:LB):jW × Int × Bool:=
gA3 a1 f.packages
theorem gQr(a0:gG)(a1:LB):gW Tryz.prog 224 [.d (jX a0),.S a1] [gAf (gDu a0 a1).1,.i .i64 (gDu a0 a1).2.1,.b (gDu a0 a1).2.2]:=by
 obtain⟨r,h⟩:∃r,gDu a0 a1=r:=⟨_,rfl⟩
 rw [h];obtain⟨f⟩:=a0;unfold gDu at h;refine SpI Tryz.func224 fun A _=>?_;refine goL ?_;refine noB ?_;refine pG 0 0 (fun z2=>?_);refine kZ (fun(y1:Nat)=>⟨[(1,.S a1),(2,.ptr 0 0),(4,.ptr 1 0),(7,.N y1)],[bPr f,.box [.S [],.nilsl,.nilsl]],Tryz.f224.ntmps⟩) (fun y1=>gA3 a1 (f.drop y1)  =r) (fun y1=>f.length - y1) 0 eJ h ?_;rintro y1 h;refine goL ?_;refine kN (fun c3=>?_) (fun c3=>?_)
 ·have q:=qB c3;obtain⟨x4,an,ao⟩:=drop_at q;rw [ao,gA3.eq_2] at h;obtain⟨a2,a3,a4,ad,a5,a6⟩:=x4;refine noS ?_;refine kC (gP ?_);refine goL ?_;refine noB ?_;refine kZ (fun(y5:Nat)=>⟨[(1,.S a1),(2,.ptr 0 0),(4,.ptr 1 0),(7,.N y1),(8,.N y5)],[bPr f,.box [.S [],.nilsl,.nilsl]],Tryz.f224.ntmps⟩) (fun y5=>gCy a1 (gA3 a1 (f.drop (y1+1)) ) (ad.drop y5)  =r) (fun y5=>ad.length - y5) 0 eJ h ?_;rintro y5 h;refine goL ?_;refine gX (gV y1 (mX an)) ?_;refine kN (fun c6=>?_) (fun c6=>?_)
  ·have y:=qB c6;refine gB0 24 (fun z7=>?_);obtain⟨x8,av,ap⟩:=drop_at y;rw [ap,gCy.eq_2] at h;obtain⟨ah,ai,ac⟩:=x8;refine noS ?_;refine kC (gP ?_);refine goL ?_;refine gX (gV y1 (mX an)) ?_;refine gX (gV y5 (gHc av)) ?_;refine noB ?_;refine pG 2 2 (fun a9=>?_);refine kZ (fun(y9:Nat)=>⟨[(1,.S a1),(2,.ptr 0 0),(4,.ptr 1 0),(7,.N y1),(8,.N y5),(9,.ptr 2 0),(10,.N y9)],[bPr f,.box [.S [],.nilsl,.nilsl],bDa ah ai ac],Tryz.f224.ntmps⟩) (fun y9=>gFa a1 (jW.mk ah ai ac) (gCy a1 (gA3 a1 (f.drop (y1+1)) ) (ad.drop (y5+1)) ) (ac.drop y9) y9=r) (fun y9=>ac.length - y9) 0 eJ h ?_;rintro y9 h;refine goL ?_;refine kN (fun aj=>?_) (fun aj=>?_)
   ·have aa:=qB aj;obtain⟨aw,aq,ak⟩:=drop_at aa;rw [ak,gFa.eq_2] at h;obtain⟨ax,ay⟩:=aw;refine noS ?_;refine kC (gP ?_);refine goL ?_;refine gX (gV y9 (qA aq)) ?_;refine kN (fun al=>?_) (fun al=>?_)
    ·replace h:=jU al h;refine goL ?_;refine jH ?_;subst h;exact mM
    ·replace h:=jV al h;refine goS ?_;refine gX (jK y9 (by omega)) ?_;exact⟨(y9+1),h,by omega,eJ⟩
   ·have aa:=qC aj;rw [gT aa,gFa.eq_1] at h;refine goX ?_;refine gX (jK y5 (by omega)) ?_;exact⟨(y5+1),h,by omega,eJ⟩
  ·have y:=qC c6;rw [gT y,gCy.eq_1] at h;refine goX ?_;refine gX (jK y1 (by omega)) ?_;exact⟨(y1+1),h,by omega,eJ⟩
 ·have q:=qC c3;rw [gT q,gA3.eq_1] at h;refine goX ?_;refine gC1 (jI TBd.h TZ.h rfl (by repeat constructor)) ?_;refine jH ?_;subst h;exact mM
def gJc(a0:jW)(y2:Nat)(x5:mJ)(q:Option (Bool)):Nat→Int→Option (Bool)
 | 0,f=>none
 | y+1,f=>(cnd (decide (f < (y2:Int))) (
bnd (at? a0.constructors f) fun aa=>
cnd (aa.name==x5.name) (some false) (
gJc a0 y2 x5 q y (IntKind.i64.wrap (f+1)))) (
q))
def gF1(y:mJ)(f:Int→Option (Bool)):List gJs→Int→Option (Bool)
 | [],y6=>(f y6)
 | q::xs,y6=>lt_ (cnd (q.constructor==y.name) ((q.vars.length:Int)==(y.fields.length:Int)) (false)) fun ab=>
(cnd ab (
gF1 y f xs (IntKind.i64.wrap (y6+1))) (
gF1 y f xs y6))
def gDv(q:jW)(a1:List gJs)(y:Nat):List mJ→Nat→Option (Bool)
 | [],f=>(some true)
 | x5::xs,f=>gF1 x5 (fun y6=>gJc q f x5 (cnd (y6 != 1) (some false) (
gDv q a1 y xs (f+1))) y 0) a1 0
def gV7(f:jW)(a1:List gJs)(q:Nat):Option (Bool):=
(cnd ((a1.length:Int) !=(f.constructors.length:Int)) (some false) (
gDv f a1 q f.constructors 0))
theorem hKk(a0:jW)(a1:List gJs){n0:Nat}{r:Bool}(h:gV7 a0 a1 n0=some r):gW Tryz.prog 174 [.d (gAf a0),.L 11 (gBv a1)] [.b r]:=by
 obtain⟨q,y,f⟩:=a0;unfold gV7 at h;refine SpI Tryz.func174 fun A _=>?_;refine goC h ?_ ?_<;>intro c1 h
 ·exact goR h
 ·refine goS ?_;refine noB ?_;refine gB0 12 (fun z3=>?_);refine kZ (fun(y2:Nat)=>⟨[(1,.L 11 (gBv a1)),(2,.ptr 0 0),(5,.N y2)],[bDa q y f],Tryz.f174.ntmps⟩) (fun y2=>gDv (jW.mk q y f) a1 n0 (f.drop y2) y2=some r) (fun y2=>f.length - y2) 0 eJ h ?_;rintro y2 h;refine goL ?_;refine kN (fun c4=>?_) (fun c4=>?_)
  ·have ac:=qB c4;obtain⟨x5,am,ax⟩:=drop_at ac;rw [ax,gDv.eq_2] at h;obtain⟨ai,aj⟩:=x5;refine noS ?_;refine kC (gP ?_);refine goL ?_;refine noB ?_;refine gB0 1 (fun z8=>?_)
   refine gAg (fun(y7:Nat)(y6:Int)=>⟨[(1,.L 11 (gBv a1)),(2,.ptr 0 0),(5,.N y2),(6,.I y6),(7,.N y7)],[bDa q y f],Tryz.f174.ntmps⟩) (fun y7 y6=>gF1 (mJ.mk ai aj) (fun y6=>gJc (jW.mk q y f) y2 (mJ.mk ai aj) (cnd (y6 != 1) (some false) (
gDv (jW.mk q y f) a1 n0 (f.drop (y2+1)) (y2+1))) n0 0) (a1.drop y7) y6=some r) (fun y7 y6=>a1.length - y7) 0 0 eJ h ?_
   rintro y7 y6 h;refine goL ?_;refine kN (fun c9=>?_) (fun c9=>?_)
   ·have ad:=qB c9;obtain⟨ba,al,an⟩:=drop_at ad;rw [an,gF1.eq_2] at h;obtain⟨bb,bc,⟨ay,a2,a3,a4,⟨ao,ap,aq⟩,a5,a6⟩⟩:=ba;refine noS ?_;refine kC (gP ?_);obtain⟨bd,hb11,h⟩:=pI h;refine qN (P:=Tryz.prog) Mix.h ⟨[(1,.L 11 (gBv a1)),(2,.ptr 0 0),(5,.N y2),(6,.I y6),(7,.N y7),(55,.B bd)],[bDa q y f],Tryz.f174.ntmps⟩ (by kernel_rfl) ?_ ?_
    ·refine goL ?_;refine wC (gV y7 (gYd al)) ?_;refine goL ?_;refine wC (gV y2 (qA am)) ?_;refine goL ?_;refine qE 40 (fun ar=>?_) (fun ar=>?_) (by first | rfl | (simp only [jG,gQ];rfl))
     ·replace hb11:=jU ar hb11;refine goL ?_;refine wN (gV y7 (gYd al)) ?_;refine goL ?_;refine wN (gV y2 (qA am)) ?_;refine goL ?_;cases hb11;exact⟨rfl,⟨⟨rfl,rfl⟩,⟨rfl,rfl⟩,⟨rfl,rfl⟩,⟨rfl,rfl⟩,⟨rfl,rfl⟩,⟨by first | rfl | (simp only [jG,gQ];rfl),rfl⟩,trivial⟩,⟨_,rfl⟩,rfl⟩
     ·replace hb11:=jV ar hb11;refine goL ?_;cases hb11;exact⟨rfl,⟨⟨rfl,rfl⟩,⟨rfl,rfl⟩,⟨rfl,rfl⟩,⟨rfl,rfl⟩,⟨rfl,rfl⟩,⟨by first | rfl | (simp only [jG,gQ];rfl),rfl⟩,trivial⟩,⟨_,rfl⟩,rfl⟩
    refine goC h ?_ ?_<;>intro bi h
    ·refine goL ?_;refine gX (pR) ?_;refine gX (jK y7 (by omega)) ?_;exact⟨(y7+1),(IntKind.i64.wrap (y6+1)),h,by omega,eJ⟩
    ·refine goS ?_;refine gX (jK y7 (by omega)) ?_;exact⟨(y7+1),y6,h,by omega,eJ⟩
   ·have ad:=qC c9;rw [gT ad,gF1.eq_1] at h;refine goX ?_;refine noB ?_
    refine gAg (fun(ab:Nat)(ag:Int)=>⟨[(1,.L 11 (gBv a1)),(2,.ptr 0 0),(5,.N y2),(6,.I y6),(8,.I ag)],[bDa q y f],Tryz.f174.ntmps⟩) (fun ab ag=>gJc (jW.mk q y f) y2 (mJ.mk ai aj) (cnd (y6 != 1) (some false) (
gDv (jW.mk q y f) a1 n0 (f.drop (y2+1)) (y2+1))) ab ag=some r) (fun ab ag=>ab) n0 0 eJ h ?_
    rintro ab ag h;rcases ab with _ | ab
    ·cases h
    rw [gJc.eq_2] at h;refine goC h ?_ ?_<;>intro bj h
    ·refine noS ?_;refine kC (gP ?_);refine goL ?_;obtain⟨be,ak,h⟩:=gK h;obtain⟨au,ak⟩:=yY ak;obtain⟨bf,bg⟩:=be;refine wC (kY au (qA ak)) ?_;refine goL ?_;refine wC (gV y2 (qA am)) ?_;refine goC h ?_ ?_<;>intro bk h
     ·exact goR h
     ·refine goS ?_;refine gX (pR) ?_;exact⟨ab,(IntKind.i64.wrap (ag+1)),h,Nat.lt_succ_self _,eJ⟩
    ·refine goX ?_;refine kN (fun av=>?_) (fun av=>?_)
     ·replace h:=jU av h;exact goR h
     ·replace h:=jV av h;refine goS ?_;refine gX (jK y2 (by omega)) ?_;exact⟨(y2+1),h,by omega,eJ⟩
  ·have ac:=qC c4;rw [gT ac,gDv.eq_1] at h;refine goX ?_;refine jH ?_;cases h;exact mM
def hPp(f:jW)(q:List gJs):Option (Bool):=gV7 f q 5000
def gG6:List Int→Int
 | []=>0
 | f::xs=>(cnd (f != 0) (
f) (
gG6 xs ))
def gBj(f:List Int):Int:=
gG6 f
theorem gSv(y:List Int):gW Tryz.prog 152 [.L 1 (yC y)] [.i .i64 (gBj y)]:=by
 obtain⟨r,h⟩:∃r,gBj y=r:=⟨_,rfl⟩
 rw [h];unfold gBj at h;refine SpI Tryz.func152 fun A _=>?_;refine goL ?_;refine noB ?_;refine gB0 0 (fun z2=>?_);refine kZ (fun(q:Nat)=>⟨[(0,.L 1 (yC y)),(3,.N q)],[],Tryz.f152.ntmps⟩) (fun q=>gG6 (y.drop q)  =r) (fun q=>y.length - q) 0 eJ h ?_;rintro q h;refine goL ?_;refine kN (fun c3=>?_) (fun c3=>?_)
 ·have f:=qB c3;obtain⟨x4,aa,ab⟩:=drop_at f;rw [ab,gG6.eq_2] at h;refine noS ?_;refine kC (gP ?_);refine goL ?_;refine gX (gV q (hVk aa)) ?_;refine kN (fun c5=>?_) (fun c5=>?_)
  ·replace h:=jU c5 h;refine goL ?_;refine gX (gV q (hVk aa)) ?_;refine jH ?_;subst h;exact mM
  ·replace h:=jV c5 h;refine goS ?_;refine gX (jK q (by omega)) ?_;exact⟨(q+1),h,by omega,eJ⟩
 ·have f:=qC c3;rw [gT f,gG6.eq_1] at h;refine goX ?_;refine jH ?_;subst h;exact mM
def vO(y3:Nat)(f:(List gI)→Option (List gI)):List jF→Nat→(List gI)→Option (List gI)
 | [],q,y=>(f y)
 | ab::xs,q,y=>gd (y.length+[(gI.mk (y3:Int) (q:Int))].length≤4294967296) (
vO y3 f xs (q+1) (y++[(gI.mk (y3:Int) (q:Int))]))
def uH:List jL→Nat→(List gI)→Option (List gI)
 | [],f,q=>(some q)
 | y::xs,f,q=>vO f (fun y7=>uH xs (f+1) y7) y.instances 0 q
def gAa(f:gG):Option (List gI):=
uH f.packages 0 []
theorem gK2(a0:gG){r:List gI}(h:gAa a0=some r):gW Tryz.prog 67 [.d (jX a0)] [.sl 2 (mG r)]:=by
 obtain⟨f⟩:=a0;unfold gAa at h;refine SpI Tryz.func67 fun A _=>?_;refine goL ?_;refine qO ?_;refine goL ?_;refine noB ?_;refine pG 0 0 (fun z4=>?_);refine kQ (fun(q:Nat)(y1:List gI)(v2:Nat)=>⟨[(1,.ptr 0 0),(3,.sl 1 v2),(4,.N q)],[bPr f,.arr 29 2 v2 (mG y1)],Tryz.f67.ntmps⟩) (fun q y1 v2=>uH (f.drop q) q y1=some r) (fun q y1 v2=>f.length - q) 0 [] 0 eJ h ?_;rintro q y1 v2 h;refine goL ?_;refine kN (fun c5=>?_) (fun c5=>?_)
 ·have y:=qB c5;obtain⟨x6,av,ak⟩:=drop_at y;rw [ak,uH.eq_2] at h;obtain⟨a7,a8,a9,ba,ad,bb⟩:=x6;refine noS ?_;refine kC (gP ?_);refine goL ?_;refine noB ?_;refine kQ (fun(y9:Nat)(y7:List gI)(v8:Nat)=>⟨[(1,.ptr 0 0),(3,.sl 1 v8),(4,.N q),(5,.N y9)],[bPr f,.arr 29 2 v8 (mG y7)],Tryz.f67.ntmps⟩) (fun y9 y7 v8=>vO q (fun y7=>uH (f.drop (q+1)) (q+1) y7) (ad.drop y9) y9 y7=some r) (fun y9 y7 v8=>ad.length - y9) 0 y1 v2 eJ h ?_;rintro y9 y7 v8 h;refine goL ?_;refine gX (gV q (mX av)) ?_;refine kN (fun ag=>?_) (fun ag=>?_)
  ·have aa:=qB ag;refine gB0 20 (fun be=>?_);obtain⟨aw,bc,ah⟩:=drop_at aa;rw [ah,vO.eq_2] at h;obtain⟨ax,ay,⟨al,am,an⟩,a2,a3,a4,⟨ao,ap,aq⟩,a5⟩:=aw;refine noS ?_;refine kC (gP ?_);refine goL ?_;refine uX (jI TBd.h TZ.h rfl (by repeat constructor)) ?_;refine uN (u:=(.st [.i .i64 (q:Int),.i .i64 (y9:Int)])) ?_;obtain⟨a6,h⟩:=mI h;refine vR a6 ?_;refine goL ?_;refine gX (jK y9 (by omega)) ?_;exact⟨(y9+1),(y7++[(gI.mk (q:Int) (y9:Int))]),(v8+1),h,by omega,eJ⟩
  ·have aa:=qC ag;rw [gT aa,vO.eq_1] at h;refine goX ?_;refine gX (jK q (by omega)) ?_;exact⟨(q+1),y7,v8,h,by omega,eJ⟩
 ·have y:=qC c5;rw [gT y,uH.eq_1] at h;refine goX ?_;refine jS 1 rfl rfl ?_;refine jH ?_;cases h;exact mM
def gK3:List gM→(List gM)→Option (List gM)
 | [],f=>(some f)
 | q::xs,f=>gd (tok q.type_) (lt_ (idT q.type_) fun y=>
gd (f.length+[(gM.mk q.var_ y)].length≤4294967296) (
gK3 xs (f++[(gM.mk q.var_ y)])))
def gUh(f:List gM):Option (List gM):=
gK3 f []
theorem hFl(a0:List gM){r:List gM}(h:gUh a0=some r):gW Tryz.prog 176 [.L 4 (jM a0)] [.sl 4 (jM r)]:=by
 unfold gUh at h;refine SpI Tryz.func176 fun A _=>?_;refine goL ?_;refine qO ?_;refine goL ?_;refine noB ?_;refine gB0 0 (fun z4=>?_);refine kQ (fun(q:Nat)(y1:List gM)(v2:Nat)=>⟨[(0,.L 4 (jM a0)),(3,.sl 0 v2),(4,.N q)],[.arr 253 4 v2 (jM y1)],Tryz.f176.ntmps⟩) (fun q y1 v2=>gK3 (a0.drop q) y1=some r) (fun q y1 v2=>a0.length - q) 0 [] 0 eJ h ?_;rintro q y1 v2 h;refine goL ?_;refine kN (fun c5=>?_) (fun c5=>?_)
 ·have f:=qB c5;obtain⟨x6,ak,al⟩:=drop_at f;rw [al,gK3.eq_2] at h;obtain⟨ac,⟨y,aa,ab⟩⟩:=x6;refine noS ?_;refine kC (gP ?_);refine dZ 0 ?_;refine goW ?_;refine kR (fun _=>gV q (gL1 ak)) ?_;refine goW ?_;refine kR (fun _=>gV q (gL1 ak)) ?_;refine goW ?_;obtain⟨g7,h⟩:=mI h;obtain⟨⟨ad,ae,ag⟩,an,h⟩:=pI h;have sx8:=(mR (gF.mk y aa ab) g7).p;rw [an] at sx8;refine kR (fun _=>gD (sx8)) ?_;refine goW ?_;refine uK (us:=jM [(gM.mk ac (gF.mk ad ae ag))]) ?_;obtain⟨g9,h⟩:=mI h;refine uL g9 ?_;refine goW ?_;refine jY ?_;refine goL ?_;refine gX (jK q (by omega)) ?_;exact⟨(q+1),(y1++[(gM.mk ac (gF.mk ad ae ag))]),(v2+1),h,by omega,eJ⟩
 ·have f:=qC c5;rw [gT f,gK3.eq_1] at h;refine goX ?_;refine jS 0 rfl rfl ?_;refine jH ?_;cases h;exact mM
def gJd(a1:LB)(f:gF):List gM→(List gM)→Option (List gM)
 | [],q=>gd (tok f) (lt_ (idT f) fun y=>
gd (q.length+[(gM.mk a1 y)].length≤4294967296) (some (q++[(gM.mk a1 y)])))
 | x6::xs,q=>gd (bok [(gM.mk a1 f)]∧tok x6.type_) (lt_ (apT [(gM.mk a1 f)] x6.type_) fun x8=>
gd (q.length+[(gM.mk x6.var_ x8)].length≤4294967296) (
gJd a1 f xs (q++[(gM.mk x6.var_ x8)])))
def gRm(f:List gM)(a1:LB)(q:gF):Option (List gM):=
gJd a1 q f []
theorem hBq(a0:List gM)(a1:LB)(a2:gF){r:List gM}(h:gRm a0 a1 a2=some r):gW Tryz.prog 286 [.L 4 (jM a0),.S a1,.d (kT a2)] [.sl 4 (jM r)]:=by
 obtain⟨f,q,y⟩:=a2;unfold gRm at h;refine SpI Tryz.func286 fun A _=>?_;refine goL ?_;refine qO ?_;refine goL ?_;refine uX (jI TBd.h TZ.h rfl (by repeat constructor)) ?_;refine uN (u:=(.st [.s a1,.st [.i .i64 f,.s q,.sl 3 (jJ y)]])) ?_;refine goL ?_;refine noB ?_;refine jS 2 rfl rfl ?_;show V _ _ _ _ _;refine gB0 0 (fun z4=>?_);refine kQ (fun(y3:Nat)(y1:List gM)(v2:Nat)=>⟨[(0,.L 4 (jM a0)),(1,.S a1),(5,.ptr 0 0),(7,.sl 1 v2),(8,.sl 2 0),(9,.N y3)],[bTy f q y,.arr 253 4 v2 (jM y1),.frz 253 4 0 (jM [(gM.mk a1 (gF.mk f q y))])],Tryz.f286.ntmps⟩) (fun y3 y1 v2=>gJd a1 (gF.mk f q y) (a0.drop y3) y1=some r) (fun y3 y1 v2=>a0.length - y3) 0 [] 0 eJ h ?_;rintro y3 y1 v2 h;refine goL ?_;refine kN (fun c5=>?_) (fun c5=>?_)
 ·have aa:=qB c5;obtain⟨x6,aq,ar⟩:=drop_at aa;rw [ar,gJd.eq_2] at h;obtain⟨ag,⟨ac,ad,ae⟩⟩:=x6;refine noS ?_;refine kC (gP ?_);refine dZ 0 ?_;refine goW ?_;refine kR (fun _=>gV y3 (gL1 aq)) ?_;refine goW ?_;refine kR (fun _=>gV y3 (gL1 aq)) ?_;refine goW ?_;obtain⟨g7,h⟩:=mI h;obtain⟨⟨ah,ai,aj⟩,ax,h⟩:=pI h;have sx8:=(gDi [(gM.mk a1 (gF.mk f q y))] (gF.mk ac ad ae) g7).p;rw [ax] at sx8;refine gSk (LH.cl (sx8)) ?_;refine goW ?_;refine uK (us:=jM [(gM.mk ag (gF.mk ah ai aj))]) ?_;obtain⟨g9,h⟩:=mI h;refine uL g9 ?_;refine goW ?_;refine jY ?_;refine goL ?_;refine gX (jK y3 (by omega)) ?_;exact⟨(y3+1),(y1++[(gM.mk ag (gF.mk ah ai aj))]),(v2+1),h,by omega,eJ⟩
 ·have aa:=qC c5;rw [gT aa,gJd.eq_1] at h;refine goX ?_;obtain⟨ay,h⟩:=mI h;obtain⟨⟨ak,al,am⟩,au,h⟩:=pI h;have sx11:=(mR (gF.mk f q y) ay).p;rw [au] at sx11;refine pX (gD (sx11)) ?_;refine uX (jI TBd.h TZ.h rfl (by repeat constructor)) ?_;refine uN (u:=(.st [.s a1,.st [.i .i64 ak,.s al,.sl 3 (jJ am)]])) ?_;obtain⟨a3,h⟩:=mI h;refine vR a3 ?_;refine goL ?_;refine jS 1 rfl rfl ?_;refine jH ?_;cases h;exact mM
def gHz:LS→LS→Option LS
 | [],q=>(some q)
 | f::xs,q=>(cnd (!(wM q f)) (
gd (q.length+[f].length≤4294967296) (
gHz xs (q++[f]))) (
gHz xs q))
def gH0(a1:LS):LS→LS→Option LS
 | [],f=>gHz a1 f
 | q::xs,f=>(cnd (!(wM f q)) (
gd (f.length+[q].length≤4294967296) (
gH0 a1 xs (f++[q]))) (
gH0 a1 xs f))
def gZh(f:LS)(a1:LS):Option LS:=
gH0 a1 f []
theorem hPq(a0:LS)(a1:LS){r:LS}(h:gZh a0 a1=some r):pJ Tryz.prog 265 [.L 1 (kD a0),.L 1 (kD a1)] [9] [.sl 1 (kD r)]:=by
 unfold gZh at h;refine yB Tryz.func265 rfl (by kernel_rfl) rfl (by simp) fun A _=>?_;refine goL ?_;refine gFh ?_;refine goL ?_;refine noB ?_;refine gB0 0 (fun z4=>?_);refine kQ (fun(y3:Nat)(y1:LS)(v2:Nat)=>⟨[(0,.L 1 (kD a0)),(1,.L 1 (kD a1)),(5,.sl 0 v2),(6,.N y3)],[.own 9 1 v2 (kD y1)],Tryz.f265.ntmps⟩) (fun y3 y1 v2=>gH0 a1 (a0.drop y3) y1=some r) (fun y3 y1 v2=>a0.length - y3) 0 [] 0 eJ h ?_;rintro y3 y1 v2 h;refine goL ?_;refine kN (fun c5=>?_) (fun c5=>?_)
 ·have y:=qB c5;obtain⟨x6,am,an⟩:=drop_at y;rw [an,gH0.eq_2] at h;refine noS ?_;refine kC (gP ?_);refine goL ?_;refine gX (gV y3 (gN4 am)) ?_;refine gC1 (gUn (gC5 y1 x6)) ?_;refine kN (fun c7=>?_) (fun c7=>?_)
  ·replace h:=jU c7 h;refine goL ?_;refine gX (gV y3 (gN4 am)) ?_;refine gAz x6 ?_;obtain⟨g8,h⟩:=mI h;refine gDj g8 ?_;refine goL ?_;refine gX (jK y3 (by omega)) ?_;exact⟨(y3+1),(y1++[x6]),(v2+1),h,by omega,eJ⟩
  ·replace h:=jV c7 h;refine goS ?_;refine gX (jK y3 (by omega)) ?_;exact⟨(y3+1),y1,v2,h,by omega,eJ⟩
 ·have y:=qC c5;rw [gT y,gH0.eq_1] at h;refine goX ?_;refine noB ?_;refine gB0 1 (fun av=>?_);refine kQ (fun(f:Nat)(y9:LS)(aa:Nat)=>⟨[(1,.L 1 (kD a1)),(5,.sl 0 aa),(7,.N f)],[.own 9 1 aa (kD y9)],Tryz.f265.ntmps⟩) (fun f y9 aa=>gHz (a1.drop f) y9=some r) (fun f y9 aa=>a1.length - f) 0 y1 v2 eJ h ?_;rintro f y9 aa h;refine goL ?_;refine kN (fun ah=>?_) (fun ah=>?_)
  ·have q:=qB ah;obtain⟨ai,ag,aj⟩:=drop_at q;rw [aj,gHz.eq_2] at h;refine noS ?_;refine kC (gP ?_);refine goL ?_;refine gX (gV f (gN4 ag)) ?_;refine gC1 (gUn (gC5 y9 ai)) ?_;refine kN (fun ak=>?_) (fun ak=>?_)
   ·replace h:=jU ak h;refine goL ?_;refine gX (gV f (gN4 ag)) ?_;refine gAz ai ?_;obtain⟨ar,h⟩:=mI h;refine gDj ar ?_;refine goL ?_;refine gX (jK f (by omega)) ?_;exact⟨(f+1),(y9++[ai]),(aa+1),h,by omega,eJ⟩
   ·replace h:=jV ak h;refine goS ?_;refine gX (jK f (by omega)) ?_;exact⟨(f+1),y9,aa,h,by omega,eJ⟩
  ·have q:=qC ah;rw [gT q,gHz.eq_1] at h;refine goX ?_;refine jH ?_;obtain rfl:=Option.some.inj h;exact hCk
def zF(f:gF)(a1:gF):Option (Bool):=
bnd (gKj a1 f) fun q=>
(some q)
theorem gJ5(f:gF)(a1:gF){r:Bool}(h:zF f a1=some r):gW Tryz.prog 216 [.d (kT f),.d (kT a1)] [.b r]:=by
 obtain⟨y,aa,ab⟩:=f;obtain⟨ac,ad,ae⟩:=a1;unfold zF at h;refine SpI Tryz.func216 fun A _=>?_;refine goL ?_;obtain⟨x1,q,h⟩:=gK h;refine pX (gD (gYj _ _ q)) ?_;exact goR h
def gDw(f:gU)(a1:gU):Bool:=
lt_ (cnd (f.trait==a1.trait) (teq f.type_ a1.type_) (false)) fun q=>
q
theorem gOp(a0:gU)(a1:gU):gW Tryz.prog 128 [.d (gCq a0),.d (gCq a1)] [.b (gDw a0 a1)]:=by
 obtain⟨r,h⟩:∃r,gDw a0 a1=r:=⟨_,rfl⟩
 rw [h];obtain⟨ad,⟨f,q,y⟩⟩:=a0;obtain⟨ae,⟨aa,ab,ac⟩⟩:=a1;unfold gDw at h;refine SpI Tryz.func128 fun A _=>?_;refine goL ?_;obtain⟨b1,hb1,h⟩:=pI h;refine kG ⟨[(4,.B b1)],[bBd ad f q y,bBd ae aa ab ac],Tryz.f128.ntmps⟩ ?_ ?_
 ·refine gqA 10 hb1 (fun c2 hb1=>?_);refine gX (gD (gEd (gF.mk f q y) (gF.mk aa ab ac))) ?_;cases hb1;exact eJ
 refine goL ?_;refine jH ?_;subst h;exact mM
def gFb(f:gN→Option (gN)):List gN→(List gN)→Option (List gN)
 | [],q=>(some q)
 | x6::xs,q=>bnd (f x6) fun y=>
gd (q.length+[y].length≤4294967296) (
gFb f xs (q++[y]))
def gQs(q:(List gN)→Option (List gN))(f:gN→Option (gN))(y:List gN):Option (List gN):=
gFb f y []
def gNf(f:(List gN)→Option (List gN)):Prop:=∀(q:List gN){r:List gN},f q=some r→pJ Tryz.prog 187 [.L 5 (mD q)] [106] [.sl 5 (mD r)]
def gRn(f:gN→Option (gN)):Prop:=∀(q:gN){r:gN},f q=some r→pJ Tryz.prog 129 [.d (wS q)] [106] [wS r]
theorem hDr{q}{f}(ad:gNf q)(y:gRn f)(a0:List gN){r:List gN}(h:gQs q f a0=some r):pJ Tryz.prog 187 [.L 5 (mD a0)] [106] [.sl 5 (mD r)]:=by
 unfold gQs at h;refine yB Tryz.func187 rfl (by kernel_rfl) rfl (by simp) fun A _=>?_;refine goL ?_;refine gFh ?_;refine goL ?_;refine noB ?_;refine gB0 0 (fun z4=>?_);refine kQ (fun(y3:Nat)(y1:List gN)(v2:Nat)=>⟨[(0,.L 5 (mD a0)),(3,.sl 0 v2),(4,.N y3)],[.own 106 5 v2 (mD y1)],Tryz.f187.ntmps⟩) (fun y3 y1 v2=>gFb f (a0.drop y3) y1=some r) (fun y3 y1 v2=>a0.length - y3) 0 [] 0 eJ h ?_;rintro y3 y1 v2 h;refine goL ?_;refine kN (fun c5=>?_) (fun c5=>?_)
 ·have aa:=qB c5;obtain⟨x6,av,ao⟩:=drop_at aa;rw [ao,gFb.eq_2] at h;obtain⟨ap,aq,⟨ag,ah⟩,ar⟩:=x6;refine noS ?_;refine kC (gP ?_);refine goL ?_;refine gX (gV y3 (gMw av)) ?_;obtain⟨⟨ai,aj,⟨ab,ac⟩,ak⟩,aw,h⟩:=gK h;refine gO9 (y (gN.mk ap aq (gI.mk ag ah) ar) aw) ?_;refine gAz (gN.mk ai aj (gI.mk ab ac) ak) ?_;obtain⟨g8,h⟩:=mI h;refine gDj g8 ?_;refine goL ?_;refine gX (jK y3 (by omega)) ?_;exact⟨(y3+1),(y1++[(gN.mk ai aj (gI.mk ab ac) ak)]),(v2+1),h,by omega,eJ⟩
 ·have aa:=qC c5;rw [gT aa,gFb.eq_1] at h;refine goX ?_;refine jH ?_;obtain rfl:=Option.some.inj h;exact hCk
def gV8(f:(List gN)→Option (List gN))(q:gN→Option (gN))(y:gN):Option (gN):=
bnd (f y.args) fun x1=>
(some (gN.mk y.kind y.n y.at_ x1))
theorem hKl{f}{q}(y:gNf f)(aa:gRn q)(a0:gN){r:gN}(h:gV8 f q a0=some r):pJ Tryz.prog 129 [.d (wS a0)] [106] [wS r]:=by
 obtain⟨ah,ai,⟨ac,ad⟩,ab⟩:=a0;unfold gV8 at h;refine yB Tryz.func129 rfl (by kernel_rfl) rfl (by simp) fun A _=>?_;refine goL ?_;obtain⟨x1,ag,h⟩:=gK h;refine gO9 (y ab ag) ?_;refine goL ?_;refine jH ?_;obtain rfl:=Option.some.inj h;exact hCk
mutual
def gK4:Nat→(List gN)→Option (List gN)
 | 0,_=>none
 | n+1,f=>gQs (gK4 n) (gJe n) f
def gJe:Nat→gN→Option (gN)
 | 0,_=>none
 | n+1,f=>gV8 (gK4 n) (gJe n) f
end
theorem gTl:∀(n:Nat),gNf (gK4 n)∧gRn (gJe n):=by
 intro n
 induction n with
 | zero=>exact⟨(by intro f r h;cases h),(by intro f r h;cases h)⟩
 | succ n ih=>
   obtain⟨ih0,ih1⟩:=ih;refine⟨(fun f r h=>hDr ih0 ih1 f h),(fun f r h=>hKl ih0 ih1 f h)⟩
theorem hDt:∀(n:Nat),gNf (gK4 n):=fun n=>(gTl n).1
theorem gRo:∀(n:Nat),gRn (gJe n):=fun n=>(gTl n).2
def gK5(a1:gI):List gI→Bool
 | []=>false
 | f::xs=>(cnd (f.package==a1.package && f.at_==a1.at_) (
true) (
gK5 a1 xs ))
def gUi(f:List gI)(a1:gI):Bool:=
gK5 a1 f
theorem hPr(a0:List gI)(a1:gI):gW Tryz.prog 108 [.L 2 (mG a0),.d (qQ a1)] [.b (gUi a0 a1)]:=by
 obtain⟨r,h⟩:∃r,gUi a0 a1=r:=⟨_,rfl⟩
 rw [h];obtain⟨y,aa⟩:=a1;unfold gUi at h;refine SpI Tryz.func108 fun A _=>?_;refine goL ?_;refine noB ?_;refine gB0 0 (fun z2=>?_);refine kZ (fun(q:Nat)=>⟨[(0,.L 2 (mG a0)),(3,.ptr 0 0),(5,.N q)],[.box [.I y,.I aa]],Tryz.f108.ntmps⟩) (fun q=>gK5 (gI.mk y aa) (a0.drop q)  =r) (fun q=>a0.length - q) 0 eJ h ?_;rintro q h;refine goL ?_;refine kN (fun c3=>?_) (fun c3=>?_)
 ·have f:=qB c3;obtain⟨x4,ae,ac⟩:=drop_at f;rw [ac,gK5.eq_2] at h;obtain⟨ag,ah⟩:=x4;refine noS ?_;refine kC (gP ?_);refine goL ?_;refine wC (gV q (vQ ae)) ?_;refine goL ?_;refine wC (hWz) ?_;refine goC h ?_ ?_<;>intro c5 h
  ·refine goL ?_;refine jH ?_;subst h;exact mM
  ·refine goS ?_;refine gX (jK q (by omega)) ?_;exact⟨(q+1),h,by omega,eJ⟩
 ·have f:=qC c3;rw [gT f,gK5.eq_1] at h;refine goX ?_;refine jH ?_;subst h;exact mM
def gJf(f:gY→Option (gY))(a0:gY)(y2:List gY):List gJs→(List gJs)→Option (gY)
 | [],y=>(some (gY.mk a0.kind a0.trait a0.name a0.n (gF.mk a0.type_.kind a0.type_.name (hS4 a0.type_.args)) y2 y))
 | q::xs,y=>gd (([]:LS).length+q.vars.length≤4294967296) (
bnd (f q.body) fun ab=>
gd (y.length+[(gJs.mk q.constructor ([]++q.vars) ab)].length≤4294967296) (
gJf f a0 y2 xs (y++[(gJs.mk q.constructor ([]++q.vars) ab)])))
def gJg(f:gY→Option (gY))(y:gY):List gY→(List gY)→Option (gY)
 | [],q=>gJf f y q y.arms []
 | x7::xs,q=>bnd (f x7) fun x8=>
gd (q.length+[x8].length≤4294967296) (
gJg f y xs (q++[x8]))
def gV9(f:gY→Option (gY))(q:gY):Option (gY):=
gd (hIr q.type_.args) (gJg f q q.args [])
theorem hKm{f:gY→Option (gY)}(q:∀(x0:gY){r:gY},f x0=some r→gW Tryz.prog 116 [.d (vX x0)] [vX r])(a0:gY){r:gY}(h:gV9 f a0=some r):gW Tryz.prog 116 [.d (vX a0)] [vX r]:=by
 obtain⟨al,am,an,ao,⟨aa,ab,y⟩,ad,ae⟩:=a0;unfold gV9 at h;refine SpI Tryz.func116 fun A _=>?_;refine gCj ?_;refine sZ 0 ?_;refine goW ?_;obtain⟨g1,h⟩:=mI h;refine kR (fun _=>gD ((gPh y g1).p)) ?_;refine goW ?_;refine jY ?_;refine goL ?_;refine qO ?_;refine goL ?_;refine noB ?_;refine pG 0 7 (fun z5=>?_);refine kQ (fun(y4:Nat)(y2:List gY)(v3:Nat)=>⟨[(1,.ptr 0 0),(2,.ptr 1 0),(3,.sl 2 v3),(4,.N y4)],[.box [.I al,.S am,.S an,.I ao,.I aa,.S ab,.d (.sl 3 (jJ (hS4 y))),.L 9 (vP ad),.L 11 (gBv ae)],.box [.I 0,.S [],.S [],.I 0,.I 0,.S [],.nilsl,.nilsl,.nilsl],.arr 76 9 v3 (vP y2)],Tryz.f116.ntmps⟩) (fun y4 y2 v3=>gJg f (gY.mk al am an ao (gF.mk aa ab y) ad ae) (ad.drop y4) y2=some r) (fun y4 y2 v3=>ad.length - y4) 0 [] 0 eJ h ?_;rintro y4 y2 v3 h;refine goL ?_;refine kN (fun c6=>?_) (fun c6=>?_)
 ·have ak:=qB c6;obtain⟨x7,b1,bm⟩:=drop_at ak;rw [bm,gJg.eq_2] at h;obtain⟨b7,b8,b9,ca,⟨bv,bw,bx⟩,cb,cc⟩:=x7;refine noS ?_;refine kC (gP ?_);refine goL ?_;refine gX (gV y4 (gO4 b1)) ?_;obtain⟨⟨bb,bc,bd,be,⟨ap,aq,ar⟩,bf,bg⟩,b2,h⟩:=gK h;refine pX (gD (q _ b2)) ?_;refine uN (u:=(.st [.i .i64 bb,.s bc,.s bd,.i .i64 be,.st [.i .i64 ap,.s aq,.sl 3 (jJ ar)],.sl 9 (vP bf),.sl 11 (gBv bg)])) ?_;obtain⟨g9,h⟩:=mI h;refine vR g9 ?_;refine goL ?_;refine gX (jK y4 (by omega)) ?_;exact⟨(y4+1),(y2++[(gY.mk bb bc bd be (gF.mk ap aq ar) bf bg)]),(v3+1),h,by omega,eJ⟩
 ·have ak:=qC c6;rw [gT ak,gJg.eq_1] at h;refine goX ?_;refine qO ?_;refine goL ?_;refine noB ?_;refine pG 0 8 (fun cg=>?_);refine kQ (fun(ac:Nat)(au:List gJs)(av:Nat)=>⟨[(1,.ptr 0 0),(2,.ptr 1 0),(3,.sl 2 v3),(5,.sl 3 av),(6,.N ac)],[.box [.I al,.S am,.S an,.I ao,.I aa,.S ab,.d (.sl 3 (jJ (hS4 y))),.L 9 (vP ad),.L 11 (gBv ae)],.box [.I 0,.S [],.S [],.I 0,.I 0,.S [],.nilsl,.nilsl,.nilsl],.arr 76 9 v3 (vP y2),.arr 230 11 av (gBv au)],Tryz.f116.ntmps⟩) (fun ac au av=>gJf f (gY.mk al am an ao (gF.mk aa ab y) ad ae) y2 (ae.drop ac) au=some r) (fun ac au av=>ae.length - ac) 0 [] 0 eJ h ?_;rintro ac au av h;refine goL ?_;refine kN (fun bh=>?_) (fun bh=>?_)
  ·have ag:=qB bh;obtain⟨b3,aw,bi⟩:=drop_at ag;rw [bi,gJf.eq_2] at h;obtain⟨ax,ay,⟨bn,bo,bp,bq,⟨bj,bk,bl⟩,br,bt⟩⟩:=b3;refine noS ?_;refine kC (gP ?_);refine dZ 1 ?_;refine goW ?_;refine kR (fun _=>gV ac (gYd aw)) ?_;refine goW ?_;refine gTb ?_;refine goW ?_;refine kR (fun _=>gV ac (gYd aw)) ?_;refine goW ?_;obtain⟨b4,h⟩:=mI h;refine uL b4 ?_;refine goW ?_;refine kR (fun _=>gV ac (gYd aw)) ?_;refine goW ?_;obtain⟨⟨a2,a3,a4,a5,⟨ah,ai,aj⟩,a6,a7⟩,bu,h⟩:=gK h;refine kR (fun _=>gD (q _ bu)) ?_;refine goW ?_;refine gSk (LH.frz 4 (h:=LH.ld (us:=gBv [(gJs.mk ax ([]++ay) (gY.mk a2 a3 a4 a5 (gF.mk ah ai aj) a6 a7))]))) ?_;obtain⟨b5,h⟩:=mI h;refine uL b5 ?_;refine goW ?_;refine jY ?_;refine goL ?_;refine gX (jK ac (by omega)) ?_;exact⟨(ac+1),(au++[(gJs.mk ax ([]++ay) (gY.mk a2 a3 a4 a5 (gF.mk ah ai aj) a6 a7))]),(av+1),h,by omega,eJ⟩
  ·have ag:=qC bh;rw [gT ag,gJf.eq_1] at h;refine goX ?_;refine jS 2 rfl rfl ?_;refine jS 3 rfl rfl ?_;refine jH ?_;cases h;exact mM
def gOq:Nat→gY→Option (gY)
 | 0,_=>none
 | n+1,f=>gV9 (gOq n) f
theorem gWa:∀(n:Nat)(f:gY){r:gY},gOq n f=some r→gW Tryz.prog 116 [.d (vX f)] [vX r]:=by
 intro n
 induction n with
 | zero=>intro f r h;cases h
 | succ n ih=>intro f r h;exact hKm ih f h
end Go.Proofs.YtfjncckelekpiaaGreat
