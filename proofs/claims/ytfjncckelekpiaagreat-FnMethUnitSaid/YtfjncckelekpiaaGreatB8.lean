import Derived.Test.YtfjncckelekpiaaGreatIm
set_option maxHeartbeats 4000000
set_option linter.unusedVariables false
set_option linter.unusedSimpArgs false
set_option linter.unusedSectionVars false
namespace Go.Proofs.YtfjncckelekpiaaGreat
open Go Go.Eng
attribute [local irreducible] V VO VQ VY Quiet QR gW pJ Rng vF uW uI
def zI(f:(List gM)→jN→Option (jN))(a0:List gM)(a1:jN)(x2:gF)(x4:List gN)(y5:List jN):List qD→(List qD)→Option (jN)
 | [],y=>(some (jN.mk a1.kind a1.trait a1.name a1.n x2 (gT7 a0 a1.typeArgs) x4 y5 y))
 | q::xs,y=>gd (([]:LS).length+q.vars.length≤4294967296) (
bnd (f a0 q.body) fun aa=>
gd (y.length+[(qD.mk q.constructor ([]++q.vars) aa)].length≤4294967296) (
zI f a0 a1 x2 x4 y5 xs (y++[(qD.mk q.constructor ([]++q.vars) aa)])))
def zJ(f:(List gM)→jN→Option (jN))(a0:List gM)(a1:jN)(x2:gF)(x4:List gN):List jN→(List jN)→Option (jN)
 | [],y=>zI f a0 a1 x2 x4 y a1.arms []
 | ab::xs,y=>bnd (f a0 ab) fun q=>
gd (y.length+[q].length≤4294967296) (
zJ f a0 a1 x2 x4 xs (y++[q]))
def gH5(f:(List gM)→jN→Option (jN))(q:List gM)(a1:jN):Option (jN):=
gd (bok q∧tok a1.type_) (lt_ (apT q a1.type_) fun y=>
gd (bok q∧hIr a1.typeArgs) (bnd (gK4 5000 a1.evidence) fun x4=>
zJ f q a1 y x4 a1.args []))
theorem gS3{f:(List gM)→jN→Option (jN)}(q:∀(x0:List gM)(x1:jN){r:jN},f x0 x1=some r→gW Tryz.prog 178 [.L 4 (jM x0),.d (gBo x1)] [gBo r])(a0:List gM)(a1:jN){r:jN}(h:gH5 f a0 a1=some r):gW Tryz.prog 178 [.L 4 (jM a0),.d (gBo a1)] [gBo r]:=by
 obtain⟨ae,ag,ah,ai,⟨y,aa,ab⟩,ac,am,aj,ak⟩:=a1;unfold gH5 at h;refine SpI Tryz.func178 fun A _=>?_;refine gCj ?_;refine sZ 1 ?_;refine goW ?_;obtain⟨g1,h⟩:=mI h;obtain⟨⟨aw,ax,ay⟩,ce,h⟩:=pI h;have sx2:=(gDi a0 (gF.mk y aa ab) g1).p;rw [ce] at sx2;refine kR (fun _=>gD (sx2)) ?_;refine goW ?_;obtain⟨g3,h⟩:=mI h;refine kR (fun _=>gD ((gQ6 a0 ac g3).p)) ?_;refine goW ?_;obtain⟨x4,cf,h⟩:=gK h;refine kR (fun _=>gD ((hDt 5000 am cf).p)) ?_;refine goW ?_;refine jY ?_;refine goL ?_;refine noB ?_;refine uA 48 11 2 9 rfl rfl (by repeat constructor) (by repeat constructor) (by repeat constructor) (by repeat constructor) ?_;show V _ _ _ _ _;refine pG 0 9 (fun z8=>?_);refine kQ (fun(y7:Nat)(y5:List jN)(v6:Nat)=>⟨[(0,.L 4 (jM a0)),(3,.ptr 0 0),(4,.ptr 1 0),(5,.ptr 2 0),(6,.N y7)],[bCo ae ag ah ai y aa ab ac am aj ak,.box [.I 0,.S [],.S [],.I 0,.I 0,.S [],.nilsl,.nilsl,.nilsl,.nilsl,.nilsl],.box [.I ae,.S ag,.S ah,.I ai,.I aw,.S ax,.L 3 (jJ ay),.d (.sl 3 (jJ (gT7 a0 ac))),.L 5 (mD x4),.sl 3 v6,.nilsl],.arr 48 11 v6 (zK y5)],Tryz.f178.ntmps⟩) (fun y7 y5 v6=>zJ f a0 (jN.mk ae ag ah ai (gF.mk y aa ab) ac am aj ak) (gF.mk aw ax ay) x4 (aj.drop y7) y5=some r) (fun y7 y5 v6=>aj.length - y7) 0 [] 0 eJ h ?_;rintro y7 y5 v6 h;refine goL ?_;refine kN (fun c9=>?_) (fun c9=>?_)
 ·have av:=qB c9;obtain⟨ch,bz,br⟩:=drop_at av;rw [br,zJ.eq_2] at h;obtain⟨ci,cj,ck,cl,⟨b0,b1,b2⟩,cm,cn,co,cp⟩:=ch;refine noS ?_;refine kC (gP ?_);refine dZ 0 ?_;refine goW ?_;refine kR (fun _=>gV y7 (hWn bz)) ?_;refine goW ?_;obtain⟨⟨a4,a5,a6,a7,⟨an,ao,ap⟩,a8,a9,ba,bb⟩,b3,h⟩:=gK h;refine kR (fun _=>gD (q _ _ b3)) ?_;refine uK (us:=zK [(jN.mk a4 a5 a6 a7 (gF.mk an ao ap) a8 a9 ba bb)]) ?_;obtain⟨cq,h⟩:=mI h;refine uL cq ?_;refine goW ?_;refine jY ?_;refine goL ?_;refine gX (jK y7 (by omega)) ?_;exact⟨(y7+1),(y5++[(jN.mk a4 a5 a6 a7 (gF.mk an ao ap) a8 a9 ba bb)]),(v6+1),h,by omega,eJ⟩
 ·have av:=qC c9;rw [gT av,zJ.eq_1] at h;refine goX ?_;refine noB ?_;refine uA 312 13 2 10 rfl rfl (by repeat constructor) (by repeat constructor) (by repeat constructor) (by repeat constructor) ?_;show V _ _ _ _ _;refine pG 0 10 (fun cy=>?_);refine kQ (fun(ad:Nat)(a2:List qD)(a3:Nat)=>⟨[(0,.L 4 (jM a0)),(3,.ptr 0 0),(4,.ptr 1 0),(5,.ptr 2 0),(7,.N ad)],[bCo ae ag ah ai y aa ab ac am aj ak,.box [.I 0,.S [],.S [],.I 0,.I 0,.S [],.nilsl,.nilsl,.nilsl,.nilsl,.nilsl],.box [.I ae,.S ag,.S ah,.I ai,.I aw,.S ax,.L 3 (jJ ay),.d (.sl 3 (jJ (gT7 a0 ac))),.L 5 (mD x4),.sl 3 v6,.sl 4 a3],.arr 48 11 v6 (zK y5),.arr 312 13 a3 (vK a2)],Tryz.f178.ntmps⟩) (fun ad a2 a3=>zI f a0 (jN.mk ae ag ah ai (gF.mk y aa ab) ac am aj ak) (gF.mk aw ax ay) x4 y5 (ak.drop ad) a2=some r) (fun ad a2 a3=>ak.length - ad) 0 [] 0 eJ h ?_;rintro ad a2 a3 h;refine goL ?_;refine kN (fun bt=>?_) (fun bt=>?_)
  ·have al:=qB bt;obtain⟨cr,bc,bu⟩:=drop_at al;rw [bu,zI.eq_2] at h;obtain⟨bd,be,⟨b4,b5,b6,b7,⟨bv,bw,bx⟩,b8,b9,ca,cb⟩⟩:=cr;refine noS ?_;refine kC (gP ?_);refine dZ 1 ?_;refine goW ?_;refine kR (fun _=>gV ad (gUo bc)) ?_;refine goW ?_;refine gTb ?_;refine goW ?_;refine kR (fun _=>gV ad (gUo bc)) ?_;refine goW ?_;obtain⟨cs,h⟩:=mI h;refine uL cs ?_;refine goW ?_;refine kR (fun _=>gV ad (gUo bc)) ?_;refine goW ?_;obtain⟨⟨bf,bg,bh,bi,⟨aq,ar,au⟩,bj,bk,bl,bm⟩,cc,h⟩:=gK h;refine kR (fun _=>gD (q _ _ cc)) ?_;refine goW ?_;refine gSk (LH.frz 5 (h:=LH.ld (us:=vK [(qD.mk bd ([]++be) (jN.mk bf bg bh bi (gF.mk aq ar au) bj bk bl bm))]))) ?_;obtain⟨ct,h⟩:=mI h;refine uL ct ?_;refine goW ?_;refine jY ?_;refine goL ?_;refine gX (jK ad (by omega)) ?_;exact⟨(ad+1),(a2++[(qD.mk bd ([]++be) (jN.mk bf bg bh bi (gF.mk aq ar au) bj bk bl bm))]),(a3+1),h,by omega,eJ⟩
  ·have al:=qC bt;rw [gT al,zI.eq_1] at h;refine goX ?_;refine jS 3 rfl rfl ?_;refine jS 4 rfl rfl ?_;refine jH ?_;cases h;exact mM
def gH6:Nat→(List gM)→jN→Option (jN)
 | 0,_,_=>none
 | n+1,f,q=>gH5 (gH6 n) f q
theorem gS4:∀(n:Nat)(f:List gM)(q:jN){r:jN},gH6 n f q=some r→gW Tryz.prog 178 [.L 4 (jM f),.d (gBo q)] [gBo r]:=by
 intro n
 induction n with
 | zero=>intro f q r h;cases h
 | succ n ih=>intro f q r h;exact gS3 ih f q h
def hFw(f:kP→LS→Int→Option (gF × kP))(c:kP)(a1:LS)(a2:Int):Option (gF × kP):=
bnd (gAt c 8) fun q=>
lt_ (cnd (decide (q.1 < 3)) (decide ((a1.length:Int) > 0)) (false)) fun b2=>
(cnd b2 (
bnd (gAt q.2 (a1.length:Int)) fun x5=>
bnd (at? a1 x5.1) fun x6=>
lt_ (gM4 x6) fun x7=>
some (x7,x5.2)) (
lt_ (cnd (decide (q.1 < 5)) (true) (decide (a2≤0))) fun b8=>
(cnd b8 (
bnd (gDc q.2 [[105,110,116],[98,111,111,108],[117,110,105,116]]) fun y=>
bnd (gGh y.1 []) fun ag=>
some (ag,y.2)) (cnd (q.1==5) (
bnd (f q.2 a1 (IntKind.i64.wrap (a2 - 1))) fun aa=>
bnd (f aa.2 a1 (IntKind.i64.wrap (a2 - 1))) fun ab=>
bnd (gGh [112,97,105,114] [aa.1,ab.1]) fun ah=>
some (ah,ab.2)) (
bnd (gDc q.2 [[108,105,115,116],[108,105,115,116],[98,111,120]]) fun ac=>
bnd (f ac.2 a1 (IntKind.i64.wrap (a2 - 1))) fun ad=>
bnd (gGh ac.1 [ad.1]) fun ai=>
some (ai,ad.2))))))
theorem hV5{ab:kP→LS→Int→Option (gF × kP)}(aa:∀(x0:kP)(x1:LS)(x2:Int){r:gF × kP},ab x0 x1 x2=some r→Go.Eng.Spec Tryz.prog 57 [.ptr 0 0,.L 1 (kD x1),.I x2] [bCu x0.b x0.i x0.h] (fun sv Lo=>sv=.d (kT r.1)∧Lo=[bCu r.2.b r.2.i r.2.h]))(c:kP)(a1:LS)(a2:Int){r:gF × kP}(h:hFw ab c a1 a2=some r):Go.Eng.Spec Tryz.prog 57 [.ptr 0 0,.L 1 (kD a1),.I a2] [bCu c.b c.i c.h] (fun sv Lo=>sv=.d (kT r.1)∧Lo=[bCu r.2.b r.2.i r.2.h]):=by
 obtain⟨b1,b3,b4⟩:=c;unfold hFw at h;refine pK 1 Tryz.func57 rfl (by kernel_rfl) rfl rfl fun A _=>?_;refine goL ?_;obtain⟨⟨au,⟨f,q,y⟩⟩,b5,h⟩:=gK h;refine gCt 0 (gG0 (kP.mk b1 b3 b4) 8 b5) ?_;refine goL ?_;refine kC (gP ?_);refine goL ?_;obtain⟨b2,hb2,h⟩:=pI h;refine kG ⟨[(0,.ptr 0 0),(1,.L 1 (kD a1)),(2,.I a2),(6,.ptr 1 0),(7,.I au),(10,.B b2)],[bCu f q y,.box [.I 0,.S [],.nilsl]],Tryz.f57.ntmps⟩ ?_ ?_
 ·exact gqZ 13 hb2
 refine goC h ?_ ?_<;>intro c4 h
 ·refine goL ?_;obtain⟨⟨cc,⟨bx,bz,b0⟩⟩,b6,h⟩:=gK h;refine gCt 0 (gG0 (kP.mk f q y) (a1.length:Int) b6) ?_;obtain⟨x6,aw,h⟩:=gK h;obtain⟨ba,aw⟩:=yY aw;refine gX (kY ba (gN4 aw)) ?_;obtain⟨⟨bb,bc,bd⟩,b7,h⟩:=pI h;have sx7:=gVi x6;rw [b7] at sx7;refine gX (gD (sx7)) ?_;refine jH ?_;obtain rfl:=Option.some.inj h;exact gHr [.d (.st [.i .i64 bb,.s bc,.sl 3 (jJ bd)])] _ ⟨rfl,rfl⟩
 ·refine goL ?_;obtain⟨b8,hb8,h⟩:=pI h;refine kG ⟨[(0,.ptr 0 0),(1,.L 1 (kD a1)),(2,.I a2),(6,.ptr 1 0),(7,.I au),(26,.B b8)],[bCu f q y,.box [.I 0,.S [],.nilsl]],Tryz.f57.ntmps⟩ ?_ ?_
  ·exact gqZ 29 hb8
  refine goC h ?_ ?_<;>intro cg h
  ·refine goL ?_;refine gPb (us:=kD [[105,110,116],[98,111,111,108],[117,110,105,116]]) ?_;refine qV 2 rfl rfl ?_;obtain⟨⟨b9,⟨be,bf,bg⟩⟩,bh,h⟩:=gK h;refine gCt 0 (gLw (kP.mk f q y) [[105,110,116],[98,111,111,108],[117,110,105,116]] bh) ?_;obtain⟨⟨ax,ay,a0⟩,bi,h⟩:=gK h;refine gX (gD (gMa _ _ bi)) ?_;refine jH ?_;obtain rfl:=Option.some.inj h;exact gHr [.d (.st [.i .i64 ax,.s ay,.sl 3 (jJ a0)])] _ ⟨rfl,rfl⟩
  ·refine goC h ?_ ?_<;>intro ch h
   ·refine goL ?_;refine pX (pR) ?_;obtain⟨⟨⟨ac,ad,ae⟩,⟨am,an,ao⟩⟩,bj,h⟩:=gK h;refine gCt 0 (aa (kP.mk f q y) a1 (IntKind.i64.wrap (a2 - 1)) bj) ?_;refine goL ?_;refine pX (pR) ?_;obtain⟨⟨⟨ag,ah,ai⟩,⟨bk,bl,bm⟩⟩,bn,h⟩:=gK h;refine gCt 0 (aa (kP.mk am an ao) a1 (IntKind.i64.wrap (a2 - 1)) bn) ?_;refine gPb (us:=jJ [(gF.mk ac ad ae),(gF.mk ag ah ai)]) ?_;refine qV 2 rfl rfl ?_;obtain⟨⟨a3,a4,a5⟩,bo,h⟩:=gK h;refine gC1 (hDc (gMa [112,97,105,114] [(gF.mk ac ad ae),(gF.mk ag ah ai)] bo)) ?_;refine jH ?_;obtain rfl:=Option.some.inj h;exact gHr [.d (.st [.i .i64 a3,.s a4,.sl 3 (jJ a5)])] _ ⟨rfl,rfl⟩
   ·refine goS ?_;refine gPb (us:=kD [[108,105,115,116],[108,105,115,116],[98,111,120]]) ?_;refine qV 2 rfl rfl ?_;obtain⟨⟨a6,⟨ap,aq,ar⟩⟩,bp,h⟩:=gK h;refine gCt 0 (gLw (kP.mk f q y) [[108,105,115,116],[108,105,115,116],[98,111,120]] bp) ?_;refine goL ?_;refine pX (pR) ?_;obtain⟨⟨⟨aj,ak,al⟩,⟨bq,br,bt⟩⟩,bu,h⟩:=gK h;refine gCt 0 (aa (kP.mk ap aq ar) a1 (IntKind.i64.wrap (a2 - 1)) bu) ?_;refine uN (u:=(.st [.i .i64 aj,.s ak,.sl 3 (jJ al)])) ?_;refine qV 3 rfl rfl ?_;obtain⟨⟨a7,a8,a9⟩,bv,h⟩:=gK h;refine gC1 (hDc (gMa a6 [(gF.mk aj ak al)] bv)) ?_;refine jH ?_;obtain rfl:=Option.some.inj h;exact gHr [.d (.st [.i .i64 a7,.s a8,.sl 3 (jJ a9)])] _ ⟨rfl,rfl⟩
def gYa:Nat→kP→LS→Int→Option (gF × kP)
 | 0,_,_,_=>none
 | n+1,f,q,y=>hFw (gYa n) f q y
theorem hR3:∀(n:Nat)(f:kP)(q:LS)(y:Int){r:gF × kP},gYa n f q y=some r→Go.Eng.Spec Tryz.prog 57 [.ptr 0 0,.L 1 (kD q),.I y] [bCu f.b f.i f.h] (fun sv Lo=>sv=.d (kT r.1)∧Lo=[bCu r.2.b r.2.i r.2.h]):=by
 intro n
 induction n with
 | zero=>intro f q y r h;cases h
 | succ n ih=>intro f q y r h;exact hV5 ih f q y h
def gCp(a0:gG)(a1:List pQ)(q:gJ)(a3:LB)(a4:LB):Option (Int × List gJ):=
bnd (gAc a0 q.at_) fun x1=>
lt_ (cnd (q.kind != 1) (true) (!x1.2)) fun b2=>
(cnd b2 (some ((-1),[])) (
bnd (gSc x1.1 a4) fun x5=>
(cnd (decide (x5≥0)) (
bnd (gP3 a1 2 q.at_.package q.at_.at_ x5) fun x7=>
cnd (decide (x7 < 0)) (some ((-1),[])) (
gd (W (.sl 5 (jQ q.args))≤4294967296) (some (x7,(idX q.args))))) (
lt_ (mY a0 a3) fun f=>
lt_ (pV f.1 a4) fun y=>
lt_ (cnd (!f.2.2) (true) (!y.2.2)) fun ac=>
(cnd ac (some ((-1),[])) (
bnd (at? a0.packages f.2.1) fun ad=>
bnd (gPd ad a3) fun ae=>
bnd (gP3 a1 1 f.2.1 ae y.2.1) fun aa=>
(cnd (decide (aa < 0)) (some ((-1),[])) (
gd (W (jP q)≤4294967296) (lt_ (idX q) fun ag=>
some (aa,[ag]))))))))))
theorem gT5(a0:gG)(a1:List pQ)(a2:gJ)(a3:LB)(a4:LB){r:Int × List gJ}(h:gCp a0 a1 a2 a3 a4=some r):gW Tryz.prog 6 [.d (jX a0),.L 21 (zR a1),.d (jP a2),.S a3,.S a4] [.i .i64 r.1,.sl 5 (jQ r.2)]:=by
 obtain⟨bc⟩:=a0;obtain⟨bd,⟨ad,ae⟩,be,a5⟩:=a2;unfold gCp at h;refine SpI Tryz.func6 fun A _=>?_;refine goL ?_;obtain⟨⟨⟨a6,a7,⟨f,q,y⟩,a8,a9,ba,⟨aa,ab,ac⟩,bb⟩,cl⟩,b5,h⟩:=gK h;refine gX (gD (gQw _ _ b5)) ?_;obtain⟨b2,hb2,h⟩:=pI h;refine kG ⟨[(1,.L 21 (zR a1)),(3,.S a3),(4,.S a4),(5,.ptr 0 0),(7,.ptr 1 0),(12,.ptr 2 0),(36,.B b2)],[bPr bc,.box [.I bd,.I ad,.I ae,.L 1 (yC be),.L 5 (jQ a5)],bIn a6 a7 f q y a8 a9 ba aa ab ac bb],Tryz.f6.ntmps⟩ ?_ ?_
 ·exact gqZ 33 hb2
 refine goC h ?_ ?_<;>intro c4 h
 ·exact goR h
 ·refine goS ?_;obtain⟨x5,b6,h⟩:=gK h;refine gX (gD (hQ0 _ _ b6)) ?_;refine kN (fun c6=>?_) (fun c6=>?_)
  ·replace h:=jU c6 h;refine goL ?_;obtain⟨x7,b8,h⟩:=gK h;refine gX (gD (hGp _ _ _ _ _ b8)) ?_;refine kN (fun c8=>?_) (fun c8=>?_)
   ·replace h:=jU c8 h;exact goR h
   ·replace h:=jV c8 h;refine goS ?_;obtain⟨g9,h⟩:=mI h;refine pX (gD ((hNt a5 g9).p)) ?_;exact goR h
  ·replace h:=jV c6 h;refine goS ?_;obtain⟨⟨⟨aj,ak,al,am,an⟩,bm,ca⟩,bv,h⟩:=pI h;have sx10:=gT1 (gG.mk bc) a3;rw [bv] at sx10;refine gX (gD (sx10)) ?_;obtain⟨⟨⟨bf,bg,⟨ao,ap,aq⟩,bh,bi,⟨ar,au,av,aw,⟨ag,ah,ai⟩,ax,ay⟩⟩,bn,cb⟩,bw,h⟩:=pI h;have sx11:=gR7 (mE.mk aj ak al am an) a4;rw [bw] at sx11;refine gX (gD (sx11)) ?_;obtain⟨cc,hb12,h⟩:=pI h;refine kG ⟨[(1,.L 21 (zR a1)),(3,.S a3),(5,.ptr 0 0),(7,.ptr 1 0),(17,.I bm),(20,.I bn),(76,.B cc)],[bPr bc,.box [.I bd,.I ad,.I ae,.L 1 (yC be),.L 5 (jQ a5)],bIn a6 a7 f q y a8 a9 ba aa ab ac bb,bTr aj ak al am an,bSg bf bg ao ap aq bh bi ar au av aw ag ah ai ax ay],Tryz.f6.ntmps⟩ ?_ ?_
   ·exact gqZ 73 hb12
   refine goC h ?_ ?_<;>intro co h
   ·exact goR h
   ·refine goS ?_;obtain⟨cd,bj,h⟩:=gK h;obtain⟨bo,bj⟩:=yY bj;obtain⟨ce,cf,cg,ch,ci,cj⟩:=cd;refine gX (kY bo (mX bj)) ?_;obtain⟨cp,bx,h⟩:=gK h;refine gX (gD (hNw _ _ bx)) ?_;obtain⟨cq,bz,h⟩:=gK h;refine gX (gD (hGp _ _ _ _ _ bz)) ?_;refine kN (fun bp=>?_) (fun bp=>?_)
    ·replace h:=jU bp h;exact goR h
    ·replace h:=jV bp h;refine goS ?_;obtain⟨ck,h⟩:=mI h;obtain⟨⟨bq,⟨bk,bl⟩,br,bt⟩,b0,h⟩:=pI h;have sx20:=(hQz (gJ.mk bd (gI.mk ad ae) be a5) ck).p;rw [b0] at sx20;refine pX (gD (sx20)) ?_;refine uN (u:=(.st [.i .i64 bq,.st [.i .i64 bk,.i .i64 bl],.sl 1 (yC br),.sl 5 (jQ bt)])) ?_;refine goL ?_;refine jS 5 rfl rfl ?_;refine jH ?_;cases h;exact mM
def gAd(y:gG)(a1:List pQ)(a3:LB)(f:Int × Int):Nat→Int→Option (Int)
 | 0,q=>none
 | n4+1,q=>bnd (at? y.packages f.1) fun x5=>
bnd (at? x5.traits f.2) fun x6=>
(cnd (decide (q < (x6.signatures.length:Int))) (
bnd (at? x6.signatures q) fun x8=>
cnd (x8.name==a3) (some (qF a1 1 f.1 f.2 q)) (
gAd y a1 a3 f n4 (IntKind.i64.wrap (q+1)))) (some (-1)))
def gJo(f:gG)(a1:List pQ)(y:LB)(a3:LB)(n0:Nat):Option (Int):=
lt_ (gC2 f y) fun q=>
(cnd (decide (q.1 < 0)) (some (-1)) (
gAd f a1 a3 q n0 0))
theorem hBy(a0:gG)(a1:List pQ)(a2:LB)(a3:LB){n0:Nat}{r:Int}(h:gJo a0 a1 a2 a3 n0=some r):gW Tryz.prog 26 [.d (jX a0),.L 21 (zR a1),.S a2,.S a3] [.i .i64 r]:=by
 obtain⟨f⟩:=a0;unfold gJo at h;refine SpI Tryz.func26 fun A _=>?_;refine goL ?_;obtain⟨⟨q,y⟩,a5,h⟩:=pI h;have sx1:=hIi (gG.mk f) a2;rw [a5] at sx1;refine gX (gD (sx1)) ?_;refine kN (fun c2=>?_) (fun c2=>?_)
 ·replace h:=jU c2 h;exact goR h
 ·replace h:=jV c2 h;refine goS ?_;refine noB ?_;refine gAg (fun(n4:Nat)(y3:Int)=>⟨[(1,.L 21 (zR a1)),(3,.S a3),(4,.ptr 0 0),(9,.I q),(10,.I y),(11,.I y3)],[bPr f],Tryz.f26.ntmps⟩) (fun n4 y3=>gAd (gG.mk f) a1 a3 (q,y) n4 y3=some r) (fun n4 y3=>n4) n0 0 eJ h ?_;rintro n4 y3 h;rcases n4 with _ | n4
  ·cases h
  rw [gAd.eq_2] at h;refine goL ?_;obtain⟨x5,aa,h⟩:=gK h;obtain⟨ad,aa⟩:=yY aa;obtain⟨ba,bb,bc,bd,be,bf⟩:=x5;refine gX (kY ad (mX aa)) ?_;obtain⟨x6,ab,h⟩:=gK h;obtain⟨ae,ab⟩:=yY ab;obtain⟨bg,bh,bi,bj,bk⟩:=x6;refine gX (kY ae (gLc ab)) ?_;refine kN (fun c7=>?_) (fun c7=>?_)
  ·replace h:=jU c7 h;refine noS ?_;refine kC (gP ?_);refine goL ?_;refine gX (kY ad (mX aa)) ?_;refine gX (kY ae (gLc ab)) ?_;obtain⟨x8,ah,h⟩:=gK h;obtain⟨al,ah⟩:=yY ah;obtain⟨bl,bm,⟨an,ao,ap⟩,bn,bo,⟨aq,ar,au,av,⟨ai,aj,ak⟩,aw,ax⟩⟩:=x8;refine gX (kY al (vU ah)) ?_;refine kN (fun c9=>?_) (fun c9=>?_)
   ·replace h:=jU c9 h;refine goL ?_;refine pX (gD (gW8 a1 1 q y y3)) ?_;exact goR h
   ·replace h:=jV c9 h;refine goS ?_;refine gX (pR) ?_;exact⟨n4,(IntKind.i64.wrap (y3+1)),h,Nat.lt_succ_self _,eJ⟩
  ·replace h:=jV c7 h;refine goX ?_;refine jH ?_;cases h;exact mM
def gWj(f:gG)(q:List pQ)(y:LB)(x3:LB):Option (Int):=gJo f q y x3 5000
def gLz(f:List gH):Option (gH):=
gd (([]:List gH).length+f.length≤4294967296) (some (gH.mk [] ([]++f)))
theorem gPw(f:List gH){r:gH}(h:gLz f=some r):gW Tryz.prog 250 [.L 2 (kE f)] [qL r]:=by
 unfold gLz at h;refine SpI Tryz.func250 fun A _=>?_;refine goL ?_;refine qO ?_;refine goL ?_;obtain⟨q,h⟩:=mI h;refine vR q ?_;refine gC1 (jI TBd.h TZ.h rfl (by repeat constructor)) ?_;refine jS 1 rfl rfl ?_;refine jH ?_;cases h;exact mM
def gMv(list:List gH):Option (gH):=
gd (([]:List gH).length+list.length≤4294967296) (some (gH.mk [] ([]++list)))
theorem gJp(list:List gH){r:gH}(h:gMv list=some r):Go.Eng.Spec Tryz.prog 250 [.L 2 (kE list)] [] (fun sv Lo=>sv=.ag [.S r.atom,.sl 0 0]∧Lo=[.arr 148 2 0 (kE r.list)]):=by
 unfold gMv at h;refine pK 0 Tryz.func250 rfl (by kernel_rfl) rfl rfl fun A _=>?_;refine goL ?_;refine qO ?_;refine goL ?_;obtain⟨f,h⟩:=mI h;refine vR f ?_;refine gC1 (jI TBd.h TZ.h rfl (by repeat constructor)) ?_;refine jH4 (fr':=[(2,.ptr 1 0)]) (Lc:=[.arr 148 2 (0+1) (kE ([]++list)),.box [.S [],.sl 0 (0+1)]]) 0 [1,0] ?_;refine jH6 (fr':=[(2,.ptr 1 0)]) (L':=[.arr 148 2 0 (kE ([]++list)),.box [.S [],.sl 0 0]]) 0 0 ?_;refine jH ?_;obtain rfl:=Option.some.inj h;exact gHr [.ag [.S [],.sl 0 0]] _ ⟨rfl,rfl⟩
def gD1(f:gY→gY→Option (Bool))(a1:gY):List gJs→Nat→Option (Bool)
 | [],q=>(some true)
 | y::xs,q=>bnd (bnd (at? a1.arms (q:Int)) fun aa=>
(cnd (!(y.constructor==aa.constructor)) (some true) (bnd (gSo y.vars aa.vars) fun ab=>
(cnd (!ab) (some true) (bnd (f y.body aa.body) fun ac=>
some (!ac)))))) fun ad=>
(cnd ad (some false) (
gD1 f a1 xs (q+1)))
def gD2(f:gY→gY→Option (Bool))(a0:gY)(a1:gY):List gY→Nat→Option (Bool)
 | [],q=>gD1 f a1 a0.arms 0
 | y::xs,q=>bnd (at? a1.args (q:Int)) fun aa=>
bnd (f y aa) fun ab=>
(cnd (!ab) (some false) (
gD2 f a0 a1 xs (q+1)))
def gOw(f:gY→gY→Option (Bool))(q:gY)(a1:gY):Option (Bool):=
lt_ (cnd (q.kind != a1.kind) (true) (cnd (!(q.trait==a1.trait)) (true) (cnd (!(q.name==a1.name)) (true) (cnd (q.n != a1.n) (true) (cnd (!(teq q.type_ a1.type_)) (true) (cnd ((q.args.length:Int) !=(a1.args.length:Int)) (true) ((q.arms.length:Int) !=(a1.arms.length:Int)))))))) fun y=>
(cnd y (some false) (
gD2 f q a1 q.args 0))
theorem hBz{f:gY→gY→Option (Bool)}(q:∀(x0:gY)(x1:gY){r:Bool},f x0 x1=some r→gW Tryz.prog 282 [.d (vX x0),.d (vX x1)] [.b r])(a0:gY)(a1:gY){r:Bool}(h:gOw f a0 a1=some r):gW Tryz.prog 282 [.d (vX a0),.d (vX a1)] [.b r]:=by
 obtain⟨aq,ar,au,av,⟨ac,ad,ae⟩,ah,ai⟩:=a0;obtain⟨aj,ak,al,am,⟨y,aa,ab⟩,an,ao⟩:=a1;unfold gOw at h;refine SpI Tryz.func282 fun A _=>?_;refine goL ?_;obtain⟨b1,hb1,h⟩:=pI h;refine kG ⟨[(2,.ptr 0 0),(3,.ptr 1 0),(58,.B b1)],[bEx aq ar au av ac ad ae ah ai,bEx aj ak al am y aa ab an ao],Tryz.f282.ntmps⟩ ?_ ?_
 ·refine gqO 12 hb1 (fun c2 hb1=>?_);refine gqO 19 hb1 (fun c3 hb1=>?_);refine gqO 26 hb1 (fun c4 hb1=>?_);refine gqO 33 hb1 (fun c5 hb1=>?_);refine gX (gD (gEd (gF.mk ac ad ae) (gF.mk y aa ab))) ?_;refine gqO 41 hb1 (fun c6 hb1=>?_);exact gqZ 50 hb1
 refine goC h ?_ ?_<;>intro c8 h
 ·exact goR h
 ·refine goS ?_;refine noB ?_;refine pG 0 7 (fun cu=>?_);refine kZ (fun(y9:Nat)=>⟨[(2,.ptr 0 0),(3,.ptr 1 0),(5,.N y9)],[bEx aq ar au av ac ad ae ah ai,bEx aj ak al am y aa ab an ao],Tryz.f282.ntmps⟩) (fun y9=>gD2 f (gY.mk aq ar au av (gF.mk ac ad ae) ah ai) (gY.mk aj ak al am (gF.mk y aa ab) an ao) (ah.drop y9) y9=some r) (fun y9=>ah.length - y9) 0 eJ h ?_;rintro y9 h;refine goL ?_;refine kN (fun a4=>?_) (fun a4=>?_)
  ·have aw:=qB a4;obtain⟨b6,bg,a5⟩:=drop_at aw;rw [a5,gD2.eq_2] at h;obtain⟨b7,b8,b9,ca,⟨bh,bi,bj⟩,cb,cc⟩:=b6;refine noS ?_;refine kC (gP ?_);refine goL ?_;refine wC (gV y9 (gO4 bg)) ?_;refine goL ?_;obtain⟨cd,a3,h⟩:=gK h;rw [gBb] at a3;obtain⟨ce,cf,cg,ch,⟨bk,bl,bm⟩,ci,cj⟩:=cd;refine wC (gV y9 (gO4 a3)) ?_;refine goL ?_;obtain⟨cv,bn,h⟩:=gK h;refine wC (gD (q _ _ bn)) ?_;refine goC h ?_ ?_<;>intro cw h
   ·exact goR h
   ·refine goS ?_;refine gX (jK y9 (by omega)) ?_;exact⟨(y9+1),h,by omega,eJ⟩
  ·have aw:=qC a4;rw [gT aw,gD2.eq_1] at h;refine goX ?_;refine noB ?_;refine pG 0 8 (fun cx=>?_);refine kZ (fun(ag:Nat)=>⟨[(2,.ptr 0 0),(3,.ptr 1 0),(6,.N ag)],[bEx aq ar au av ac ad ae ah ai,bEx aj ak al am y aa ab an ao],Tryz.f282.ntmps⟩) (fun ag=>gD1 f (gY.mk aj ak al am (gF.mk y aa ab) an ao) (ai.drop ag) ag=some r) (fun ag=>ai.length - ag) 0 eJ h ?_;rintro ag h;refine goL ?_;refine kN (fun a6=>?_) (fun a6=>?_)
   ·have ap:=qB a6;obtain⟨ck,a2,a7⟩:=drop_at ap;rw [a7,gD1.eq_2] at h;obtain⟨cl,cm,⟨bo,bp,bq,br,⟨a8,a9,ba⟩,bt,bu⟩⟩:=ck;refine noS ?_;refine kC (gP ?_);obtain⟨cn,hb20,h⟩:=gK h;refine qN (P:=Tryz.prog) Mix.h ⟨[(2,.ptr 0 0),(3,.ptr 1 0),(6,.N ag),(129,.B cn)],[bEx aq ar au av ac ad ae ah ai,bEx aj ak al am y aa ab an ao],Tryz.f282.ntmps⟩ (by kernel_rfl) ?_ ?_
    ·refine goL ?_;refine wC (gV ag (gYd a2)) ?_;refine goL ?_;obtain⟨co,ax,hb20⟩:=gK hb20;rw [gBb] at ax;obtain⟨cp,cq,⟨bv,bw,bx,bz,⟨bb,bc,bd⟩,b0,b2⟩⟩:=co;refine wC (gV ag (gYd ax)) ?_;refine goL ?_;refine qE 98 (fun be=>?_) (fun be=>?_)
     ·replace hb20:=jU be hb20;refine goL ?_;cases hb20;exact eJ
     ·replace hb20:=jV be hb20;refine goL ?_;refine wN (gV ag (gYd a2)) ?_;refine goL ?_;refine wN (gV ag (gYd ax)) ?_;refine goL ?_;obtain⟨cy,b3,hb20⟩:=gK hb20;refine wN (gD (hHh _ _ b3)) ?_;refine goL ?_;refine qE 114 (fun bf=>?_) (fun bf=>?_)
      ·replace hb20:=jU bf hb20;refine goL ?_;cases hb20;exact eJ
      ·replace hb20:=jV bf hb20;refine goL ?_;refine wN (gV ag (gYd a2)) ?_;refine goL ?_;refine wN (gV ag (gYd ax)) ?_;refine goL ?_;obtain⟨cz,b4,hb20⟩:=gK hb20;refine wN (gD (q _ _ b4)) ?_;refine goL ?_;cases hb20;exact eJ
    refine goC h ?_ ?_<;>intro c0 h
    ·exact goR h
    ·refine goS ?_;refine gX (jK ag (by omega)) ?_;exact⟨(ag+1),h,by omega,eJ⟩
   ·have ap:=qC a6;rw [gT ap,gD1.eq_1] at h;refine goX ?_;refine jH ?_;cases h;exact mM
def gOx:Nat→gY→gY→Option (Bool)
 | 0,_,_=>none
 | n+1,f,q=>gOw (gOx n) f q
theorem hB5:∀(n:Nat)(f:gY)(q:gY){r:Bool},gOx n f q=some r→gW Tryz.prog 282 [.d (vX f),.d (vX q)] [.b r]:=by
 intro n
 induction n with
 | zero=>intro f q r h;cases h
 | succ n ih=>intro f q r h;exact hBz ih f q h
def gJq:LS→(List gH)→Option (List gH)
 | [],f=>(some f)
 | y::xs,f=>lt_ (mZ y) fun q=>
gd (f.length+[q].length≤4294967296) (
gJq xs (f++[q]))
def gRv(f:LS):Option (List gH):=
gJq f []
theorem hB6(a0:LS){r:List gH}(h:gRv a0=some r):gW Tryz.prog 274 [.L 1 (kD a0)] [.sl 2 (kE r)]:=by
 unfold gRv at h;refine SpI Tryz.func274 fun A _=>?_;refine goL ?_;refine qO ?_;refine goL ?_;refine noB ?_;refine gB0 0 (fun z4=>?_);refine kQ (fun(q:Nat)(y1:List gH)(v2:Nat)=>⟨[(0,.L 1 (kD a0)),(3,.sl 0 v2),(4,.N q)],[.arr 148 2 v2 (kE y1)],Tryz.f274.ntmps⟩) (fun q y1 v2=>gJq (a0.drop q) y1=some r) (fun q y1 v2=>a0.length - q) 0 [] 0 eJ h ?_;rintro q y1 v2 h;refine goL ?_;refine kN (fun c5=>?_) (fun c5=>?_)
 ·have f:=qB c5;obtain⟨x6,ah,ae⟩:=drop_at f;rw [ae,gJq.eq_2] at h;refine noS ?_;refine kC (gP ?_);refine goL ?_;refine gX (gV q (gN4 ah)) ?_;obtain⟨⟨y,aa⟩,ai,h⟩:=pI h;have sx7:=pO x6;rw [ai] at sx7;refine pX (gD (sx7)) ?_;refine uN (u:=(.st [.s y,.sl 2 (kE aa)])) ?_;obtain⟨g8,h⟩:=mI h;refine vR g8 ?_;refine goL ?_;refine gX (jK q (by omega)) ?_;exact⟨(q+1),(y1++[(gH.mk y aa)]),(v2+1),h,by omega,eJ⟩
 ·have f:=qC c5;rw [gT f,gJq.eq_1] at h;refine goX ?_;refine jS 0 rfl rfl ?_;refine jH ?_;cases h;exact mM
def gOy(f:gF→Option (gH)):List gF→(List gH)→Option (gH)
 | [],q=>(some (gH.mk [] q))
 | aa::xs,q=>bnd (f aa) fun y=>
gd (q.length+[y].length≤4294967296) (
gOy f xs (q++[y]))
def gOz(f:gF→Option (gH)):List gF→(List gH)→Option (gH)
 | [],q=>(some (gH.mk [] q))
 | aa::xs,q=>bnd (f aa) fun y=>
gd (q.length+[y].length≤4294967296) (
gOz f xs (q++[y]))
def hLr(f:gF→Option (gH))(q:gF):Option (gH):=
(cnd (q.kind==1) (
gd (([39]:LB).length+q.name.length≤4294967296) (
lt_ (mZ (([39]:LB)++q.name)) fun x3=>
some x3)) (cnd (q.kind==4) (
lt_ (mZ [100,121,110]) fun x5=>
lt_ (mZ q.name) fun x6=>
bnd (gLz [x5,x6]) fun x7=>
some x7) (
lt_ (cnd (q.kind==2) ((q.args.length:Int)==0) (false)) fun b8=>
(cnd b8 (
lt_ (mZ q.name) fun ac=>
some ac) (cnd (q.kind==3) (
lt_ (mZ [97,115,115,111,99]) fun y=>
gd (([]:List gH).length+[y].length≤4294967296) (
lt_ (mZ q.name) fun aa=>
gd (([]++[y]).length+[aa].length≤4294967296) (
gOy f q.args (([]++[y])++[aa])))) (
lt_ (mZ q.name) fun ab=>
gd (([]:List gH).length+[ab].length≤4294967296) (
gOz f q.args ([]++[ab]))))))))
theorem hV6{f:gF→Option (gH)}(y:∀(x0:gF){r:gH},f x0=some r→gW Tryz.prog 254 [.d (kT x0)] [qL r])(a0:gF){r:gH}(h:hLr f a0=some r):gW Tryz.prog 254 [.d (kT a0)] [qL r]:=by
 obtain⟨ak,q,aa⟩:=a0;unfold hLr at h;refine SpI Tryz.func254 fun A _=>?_;refine goL ?_;refine kC (gP ?_);refine goC h ?_ ?_<;>intro c1 h
 ·refine goL ?_;obtain⟨g2,h⟩:=mI h;refine pX (yS g2) ?_;obtain⟨⟨b5,b6⟩,bi,h⟩:=pI h;have sx3:=pO (([39]:LB)++q);rw [bi] at sx3;refine pX (gD (sx3)) ?_;exact goR h
 ·refine goC h ?_ ?_<;>intro c4 h
  ·refine sZ 0 ?_;refine goW ?_;obtain⟨⟨a5,a6⟩,bj,h⟩:=pI h;have sx5:=pO [100,121,110];rw [bj] at sx5;refine kR (fun _=>gD (sx5)) ?_;refine goW ?_;obtain⟨⟨a7,a8⟩,bk,h⟩:=pI h;have sx6:=pO q;rw [bk] at sx6;refine kR (fun _=>gD (sx6)) ?_;refine uK (us:=kE [(gH.mk a5 a6),(gH.mk a7 a8)]) ?_;obtain⟨⟨b7,b9⟩,bl,h⟩:=gK h;refine kR (fun _=>gD (gPw _ bl)) ?_;refine goW ?_;refine jY ?_;exact goR h
  ·refine goL ?_;obtain⟨b8,hb8,h⟩:=pI h;refine kG ⟨[(1,.ptr 0 0),(2,.ptr 1 0),(23,.B b8)],[bTy ak q aa,.box [.S [],.nilsl]],Tryz.f254.ntmps⟩ ?_ ?_
   ·refine uJ 27 (fun c9=>?_) (fun c9=>?_) (by first | rfl | (simp only [jG,gQ];rfl))
    ·replace hb8:=jU c9 hb8;refine goL ?_;cases hb8;exact⟨rfl,⟨⟨rfl,rfl⟩,⟨rfl,rfl⟩,⟨by first | rfl | (simp only [jG,gQ];rfl),rfl⟩,trivial⟩,⟨_,rfl⟩,rfl⟩
    ·replace hb8:=jV c9 hb8;refine goL ?_;cases hb8;exact⟨rfl,⟨⟨rfl,rfl⟩,⟨rfl,rfl⟩,⟨by first | rfl | (simp only [jG,gQ];rfl),rfl⟩,trivial⟩,⟨_,rfl⟩,rfl⟩
   refine goC h ?_ ?_<;>intro cc h
   ·refine goL ?_;obtain⟨⟨bn,bo⟩,a9,h⟩:=pI h;have sx11:=pO q;rw [a9] at sx11;refine pX (gD (sx11)) ?_;exact goR h
   ·refine goS ?_;refine gC1 (jI TBd.h TZ.h rfl (by repeat constructor)) ?_;refine kN (fun ax=>?_) (fun ax=>?_)
    ·replace h:=jU ax h;refine uA 148 2 2 1 rfl rfl (by repeat constructor) (by repeat constructor) (by repeat constructor) (by repeat constructor) ?_;refine dZ 0 ?_;refine goW ?_;obtain⟨⟨al,am⟩,ba,h⟩:=pI h;have sx13:=pO [97,115,115,111,99];rw [ba] at sx13;refine kR (fun _=>gD (sx13)) ?_;refine uK (us:=kE [(gH.mk al am)]) ?_;obtain⟨bp,h⟩:=mI h;refine uL bp ?_;refine goW ?_;refine jY ?_;refine gCj ?_;refine sZ 0 ?_;refine goW ?_;obtain⟨⟨an,ao⟩,bb,h⟩:=pI h;have sx15:=pO q;rw [bb] at sx15;refine kR (fun _=>gD (sx15)) ?_;refine uK (us:=kE [(gH.mk an ao)]) ?_;obtain⟨bq,h⟩:=mI h;refine uL bq ?_;refine goW ?_;refine jY ?_;refine goL ?_;refine noB ?_;refine pG 0 2 (fun cd=>?_);refine kQ (fun(ab:Nat)(ag:List gH)(ah:Nat)=>⟨[(1,.ptr 0 0),(2,.ptr 1 0),(3,.ptr 2 0),(4,.N ab)],[bTy ak q aa,.box [.S [],.nilsl],.box [.S [],.sl 3 ah],.arr 148 2 ah (kE ag)],Tryz.f254.ntmps⟩) (fun ab ag ah=>gOy f (aa.drop ab) ag=some r) (fun ab ag ah=>aa.length - ab) 0 (([]++[(gH.mk al am)])++[(gH.mk an ao)]) ((0+1)+1) eJ h ?_;rintro ab ag ah h;refine goL ?_;refine kN (fun ay=>?_) (fun ay=>?_)
     ·have ac:=qB ay;obtain⟨br,bc,a2⟩:=drop_at ac;rw [a2,gOy.eq_2] at h;obtain⟨bt,bu,bv⟩:=br;refine noS ?_;refine kC (gP ?_);refine dZ 0 ?_;refine goW ?_;refine kR (fun _=>gV ab (gAw bc)) ?_;refine goW ?_;obtain⟨⟨ap,aq⟩,bd,h⟩:=gK h;refine kR (fun _=>gD (y _ bd)) ?_;refine uK (us:=kE [(gH.mk ap aq)]) ?_;obtain⟨bw,h⟩:=mI h;refine uL bw ?_;refine goW ?_;refine jY ?_;refine goL ?_;refine gX (jK ab (by omega)) ?_;exact⟨(ab+1),(ag++[(gH.mk ap aq)]),(ah+1),h,by omega,eJ⟩
     ·have ac:=qC ay;rw [gT ac,gOy.eq_1] at h;refine goX ?_;refine jS 3 rfl rfl ?_;refine jH ?_;cases h;exact mM
    ·replace h:=jV ax h;refine noS ?_;refine uA 148 2 2 1 rfl rfl (by repeat constructor) (by repeat constructor) (by repeat constructor) (by repeat constructor) ?_;refine sZ 0 ?_;refine goW ?_;obtain⟨⟨ar,au⟩,be,h⟩:=pI h;have sx25:=pO q;rw [be] at sx25;refine kR (fun _=>gD (sx25)) ?_;refine uK (us:=kE [(gH.mk ar au)]) ?_;obtain⟨bx,h⟩:=mI h;refine uL bx ?_;refine goW ?_;refine jY ?_;refine goL ?_;refine noB ?_;refine pG 0 2 (fun ce=>?_);refine kQ (fun(ad:Nat)(ai:List gH)(aj:Nat)=>⟨[(1,.ptr 0 0),(2,.ptr 1 0),(3,.ptr 2 0),(4,.N ad)],[bTy ak q aa,.box [.S [],.nilsl],.box [.S [],.sl 3 aj],.arr 148 2 aj (kE ai)],Tryz.f254.ntmps⟩) (fun ad ai aj=>gOz f (aa.drop ad) ai=some r) (fun ad ai aj=>aa.length - ad) 0 ([]++[(gH.mk ar au)]) (0+1) eJ h ?_;rintro ad ai aj h;refine goL ?_;refine kN (fun a3=>?_) (fun a3=>?_)
     ·have ae:=qB a3;obtain⟨bz,bf,a4⟩:=drop_at ae;rw [a4,gOz.eq_2] at h;obtain⟨b0,b1,b2⟩:=bz;refine noS ?_;refine kC (gP ?_);refine dZ 0 ?_;refine goW ?_;refine kR (fun _=>gV ad (gAw bf)) ?_;refine goW ?_;obtain⟨⟨av,aw⟩,bg,h⟩:=gK h;refine kR (fun _=>gD (y _ bg)) ?_;refine uK (us:=kE [(gH.mk av aw)]) ?_;obtain⟨b3,h⟩:=mI h;refine uL b3 ?_;refine goW ?_;refine jY ?_;refine goL ?_;refine gX (jK ad (by omega)) ?_;exact⟨(ad+1),(ai++[(gH.mk av aw)]),(aj+1),h,by omega,eJ⟩
     ·have ae:=qC a3;rw [gT ae,gOz.eq_1] at h;refine goX ?_;refine jS 3 rfl rfl ?_;refine jH ?_;cases h;exact mM
def gQd:Nat→gF→Option (gH)
 | 0,_=>none
 | n+1,f=>hLr (gQd n) f
theorem gTo:∀(n:Nat)(f:gF){r:gH},gQd n f=some r→gW Tryz.prog 254 [.d (kT f)] [qL r]:=by
 intro n
 induction n with
 | zero=>intro f r h;cases h
 | succ n ih=>intro f r h;exact hV6 ih f h
def gD3(f:LB)(a1:gF):Option (Bool):=
bnd (zD 5000 a1 f) fun q=>
(some (decide (q > 0)))
theorem gH7(q:LB)(a1:gF){r:Bool}(h:gD3 q a1=some r):gW Tryz.prog 239 [.S q,.d (kT a1)] [.b r]:=by
 obtain⟨y,aa,ab⟩:=a1;unfold gD3 at h;refine SpI Tryz.func239 fun A _=>?_;refine goL ?_;obtain⟨x1,f,h⟩:=gK h;refine pX (gD (gEv _ _ _ f)) ?_;exact goR h
@[reducible] def zA:LB:=List.append [40,112,97,99,107,97,103,101,32,99,111,114,101,32,40,41,32,40,116,114,97,105,116,32,115,104,111,119,32,40,41,32,40,41,32,40,109,32,40,41,32,105,110,116,41,32,40,116,119,111,32,40,39,115,101] [108,102,41,32,105,110,116,32,40,120,32,121,41,32,40,43,32,40,109,101,116,104,111,100,32,115,104,111,119,32,109,32,120,41,32,40,109,101,116,104,111,100,32,115,104,111,119,32,109,32,121,41,41,41,41]
@[reducible] def zB:LB:=List.append (List.append [32,40,116,114,97,105,116,32,101,113,32,40,41,32,40,41,32,40,115,97,109,101,32,40,39,115,101,108,102,41,32,98,111,111,108,41,41,32,40] [116,114,97,105,116,32,111,114,100,32,40,101,113,41,32,40,41,32,40,108,101,115,115,32,40,39,115,101,108,102,41,32,98,111,111,108,41,41,32]) (List.append [40,116,114,97,105,116,32,97,100,100,32,40,41,32,40,97,115,115,111,99,41,32,40,112,108,117,115,32,40,39,115,101,108,102,41,32,40,97,115] [115,111,99,32,97,100,100,32,39,115,101,108,102,41,41,41,32,40,116,114,97,105,116,32,115,101,110,100,32,40,41,32,40,97,117,116,111,41,41])
@[reducible] def gAe:LB:=List.append [32,40,100,97,116,97,32,108,105,115,116,32,40,97,41,32,40,110,105,108,41,32,40,99,111,110,115,32,39,97,32,40,108,105,115,116,32,39,97,41,41,41,32,40,100,97,116,97,32,112,97,105,114,32,40,97,32,98,41] [32,40,112,97,105,114,32,39,97,32,39,98,41,41,32,40,100,97,116,97,32,98,111,120,32,40,97,41,32,40,98,111,120,32,39,97,41,41,32,40,100,97,116,97,32,117,110,105,116,32,40,41,32,40,117,110,105,116,41,41]
@[reducible] def gA5:LB:=List.append [32,40,105,110,115,116,32,115,104,111,119,32,40,41,32,105,110,116,32,40,41,32,40,41,32,40,41,32,40,109,32,40,120,41,32,120,41,41,32,40,105,110,115] [116,32,115,104,111,119,32,40,41,32,98,111,111,108,32,40,41,32,40,41,32,40,41,32,40,109,32,40,120,41,32,40,105,102,32,120,32,49,32,48,41,41,41]
@[reducible] def gFp:LB:=List.append [32,40,105,110,115,116,32,115,104,111,119,32,40,97,41,32,40,108,105,115,116,32,39,97,41,32,40,40,115,104,111,119,32,39,97,41,41,32,40,41,32,40,41,32,40,109,32,40,120,41,32,40,99,97,115,101,32,120,32,40] [110,105,108,32,48,41,32,40,99,111,110,115,32,104,32,116,32,40,43,32,40,109,101,116,104,111,100,32,115,104,111,119,32,109,32,104,41,32,40,109,101,116,104,111,100,32,115,104,111,119,32,109,32,116,41,41,41,41,41,41]
@[reducible] def gFq:LB:=List.append (List.append [32,40,105,110,115,116,32,115,104,111,119,32,40,97,41,32,40,108,105,115,116,32,39,97,41,32,40,41,32,40,100,101,102,97,117,108] [116,41,32,40,41,32,40,109,32,40,120,41,32,55,41,41,32,40,105,110,115,116,32,115,104,111,119,32,40,41,32,40,108,105,115,116,32]) (List.append [105,110,116,41,32,40,41,32,40,41,32,40,41,32,40,109,32,40,120,41,32,40,99,97,115,101,32,120,32,40,110,105,108,32,48,41,32] [40,99,111,110,115,32,104,32,116,32,40,43,32,104,32,40,109,101,116,104,111,100,32,115,104,111,119,32,109,32,116,41,41,41,41,41,41])
@[reducible] def wR:LB:=List.append [32,40,105,110,115,116,32,115,104,111,119,32,40,97,32,98,41,32,40,112,97,105,114,32,39,97,32,39,98,41,32,40,40,115,104,111,119,32,39,97,41,32,40,115,104,111,119,32,39,98,41,41,32,40,41,32,40,41,32,40,109,32,40] [120,41,32,40,99,97,115,101,32,120,32,40,112,97,105,114,32,121,32,122,32,40,45,32,40,109,101,116,104,111,100,32,115,104,111,119,32,109,32,121,41,32,40,109,101,116,104,111,100,32,115,104,111,119,32,109,32,122,41,41,41,41,41,41]
@[reducible] def wZ:LB:=List.append [32,40,105,110,115,116,32,101,113,32,40,41,32,105,110,116,32,40,41,32,40,41,32,40,41,32,40,115,97,109,101,32,40,120,32,121,41,32,40,61,32,120,32,121,41,41,41] [32,40,105,110,115,116,32,111,114,100,32,40,41,32,105,110,116,32,40,41,32,40,41,32,40,41,32,40,108,101,115,115,32,40,120,32,121,41,32,40,60,32,120,32,121,41,41,41]
@[reducible] def zC:LB:=List.append [32,40,105,110,115,116,32,101,113,32,40,97,41,32,40,98,111,120,32,39,97,41,32,40,40,101,113,32,39,97,41,41,32,40,41,32,40,41,32,40,115,97,109,101,32,40,120,32,121,41,32,40,99] [97,115,101,32,120,32,40,98,111,120,32,112,32,40,99,97,115,101,32,121,32,40,98,111,120,32,113,32,40,109,101,116,104,111,100,32,101,113,32,115,97,109,101,32,112,32,113,41,41,41,41,41,41,41]
@[reducible] def yR:LB:=[32,40,105,110,115,116,32,97,100,100,32,40,41,32,105,110,116,32,40,41,32,40,41,32,40,105,110,116,41,32,40,112,108,117,115,32,40,120,32,121,41,32,40,43,32,120,32,121,41,41,41]
@[reducible] def zQ:LB:=List.append (List.append [32,40,105,110,115,116,32,97,100,100,32,40,97,41,32,40,98,111,120,32,39,97,41,32,40,40,97,100,100,32,39,97,41,41,32] [40,41,32,40,40,98,111,120,32,40,97,115,115,111,99,32,97,100,100,32,39,97,41,41,41,32,40,112,108,117,115,32,40,120,32]) (List.append [121,41,32,40,99,97,115,101,32,120,32,40,98,111,120,32,112,32,40,99,97,115,101,32,121,32,40,98,111,120,32,113,32,40,110] [101,119,32,98,111,120,32,40,109,101,116,104,111,100,32,97,100,100,32,112,108,117,115,32,112,32,113,41,41,41,41,41,41,41,41])
@[reducible] def gAv:LB:=List.append [32,40,102,110,32,105,100,32,40,97,41,32,40,41,32,40,40,120,32,39,97,41,41,32,39,97,32,120,41,32,40,102,110,32,98,111,116,104,32,40,97,41,32,40,40] [115,104,111,119,32,39,97,41,41,32,40,40,120,32,39,97,41,41,32,105,110,116,32,40,109,101,116,104,111,100,32,115,104,111,119,32,116,119,111,32,120,32,120,41,41]
def gO0(c:kP):Option (LB × kP):=
gd (zA.length+zB.length≤4294967296) (
gd ((zA++zB).length+gAe.length≤4294967296) (
gd (((zA++zB)++gAe).length+gA5.length≤4294967296) (
bnd (gG4 c 2) fun q=>
bnd (cnd q.1 (
gd ((((zA++zB)++gAe)++gA5).length+gFp.length≤4294967296) (some ((((zA++zB)++gAe)++gA5)++gFp))) (
gd ((((zA++zB)++gAe)++gA5).length+gFq.length≤4294967296) (some ((((zA++zB)++gAe)++gA5)++gFq)))) fun f=>
gd (f.length+wR.length≤4294967296) (
gd ((f++wR).length+wZ.length≤4294967296) (
gd (((f++wR)++wZ).length+zC.length≤4294967296) (
gd ((((f++wR)++wZ)++zC).length+yR.length≤4294967296) (
gd (((((f++wR)++wZ)++zC)++yR).length+zQ.length≤4294967296) (
gd ((((((f++wR)++wZ)++zC)++yR)++zQ).length+gAv.length≤4294967296) (
gd (((((((f++wR)++wZ)++zC)++yR)++zQ)++gAv).length+([41]:LB).length≤4294967296) (some ((((((((f++wR)++wZ)++zC)++yR)++zQ)++gAv)++([41]:LB)),q.2)))))))))))
set_option maxRecDepth 100000 in
theorem hLs(c:kP){r:LB × kP}(h:gO0 c=some r):Go.Eng.Spec Tryz.prog 48 [.ptr 0 0] [bCu c.b c.i c.h] (fun sv Lo=>sv=.S r.1∧Lo=[bCu r.2.b r.2.i r.2.h]):=by
 obtain⟨aa,ab,ac⟩:=c;unfold gO0 at h;refine pK 1 Tryz.func48 rfl (by kernel_rfl) rfl rfl fun A _=>?_;refine goL ?_;obtain⟨g1,h⟩:=mI h;refine gX (yS g1) ?_;obtain⟨g2,h⟩:=mI h;refine gX (yS g2) ?_;obtain⟨g3,h⟩:=mI h;refine gX (yS g3) ?_;obtain⟨⟨am,⟨f,q,y⟩⟩,ad,h⟩:=gK h;refine gCt 0 (gPt (kP.mk aa ab ac) 2 ad) ?_;refine goL ?_;obtain⟨b5,hb5,h⟩:=gK h;refine gHf ⟨[(3,.S b5)],[bCu f q y],Tryz.f48.ntmps⟩ ?_ ?_
 ·refine kN (fun c6=>?_) (fun c6=>?_)
  ·replace hb5:=jU c6 hb5;refine goL ?_;obtain⟨g7,hb5⟩:=mI hb5;refine gX (yS g7) ?_;cases hb5;exact eJ
  ·replace hb5:=jV c6 hb5;refine goL ?_;obtain⟨g8,hb5⟩:=mI hb5;refine gX (yS g8) ?_;cases hb5;exact eJ
 refine goL ?_;obtain⟨g9,h⟩:=mI h;refine gX (yS g9) ?_;obtain⟨ag,h⟩:=mI h;refine gX (yS ag) ?_;obtain⟨ah,h⟩:=mI h;refine gX (yS ah) ?_;obtain⟨ai,h⟩:=mI h;refine gX (yS ai) ?_;obtain⟨aj,h⟩:=mI h;refine gX (yS aj) ?_;obtain⟨ak,h⟩:=mI h;refine gX (yS ak) ?_;obtain⟨al,h⟩:=mI h;refine gX (yS al) ?_;refine jH ?_;obtain rfl:=Option.some.inj h;exact gHr [.d (.s (((((((b5++wR)++wZ)++zC)++yR)++zQ)++gAv)++([41]:LB)))] _ ⟨rfl,rfl⟩
end Go.Proofs.YtfjncckelekpiaaGreat
