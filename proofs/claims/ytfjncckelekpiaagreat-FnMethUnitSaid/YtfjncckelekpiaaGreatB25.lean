import Derived.Test.YtfjncckelekpiaaGreatB26
set_option maxHeartbeats 4000000
set_option linter.unusedVariables false
set_option linter.unusedSimpArgs false
set_option linter.unusedSectionVars false
namespace Go.Proofs.YtfjncckelekpiaaGreat
open Go Go.Eng
attribute [local irreducible] V VO VQ VY Quiet QR gW pJ Rng vF uW uI
def gGj(f:gG)(a1:Int):List gU→Option (Int)
 | []=>(some 0)
 | y::xs=>bnd (gM9 f a1 y) fun q=>
(cnd (q != 0) (some q) (
gGj f a1 xs ))
def gPp(f:gG)(a1:Int)(q:List gU):Option (Int):=
gGj f a1 q
theorem gX4(a0:gG)(a1:Int)(a2:List gU){r:Int}(h:gPp a0 a1 a2=some r):gW Tryz.prog 155 [.d (jX a0),.I a1,.L 4 (kM a2)] [.i .i64 r]:=by
 obtain⟨y⟩:=a0;unfold gPp at h;refine SpI Tryz.func155 fun A _=>?_;refine goL ?_;refine noB ?_;refine gB0 2 (fun z2=>?_);refine kZ (fun(q:Nat)=>⟨[(1,.I a1),(2,.L 4 (kM a2)),(3,.ptr 0 0),(7,.N q)],[bPr y],Tryz.f155.ntmps⟩) (fun q=>gGj (gG.mk y) a1 (a2.drop q)  =some r) (fun q=>a2.length - q) 0 eJ h ?_;rintro q h;refine goL ?_;refine kN (fun c3=>?_) (fun c3=>?_)
 ·have f:=qB c3;obtain⟨x4,ai,ab⟩:=drop_at f;rw [ab,gGj.eq_2] at h;obtain⟨ak,⟨ac,ad,ae⟩⟩:=x4;refine noS ?_;refine kC (gP ?_);refine goL ?_;refine wC (gV q (gF3 ai)) ?_;refine goL ?_;obtain⟨x5,aj,h⟩:=gK h;refine wC (gD (gY9 _ _ _ aj)) ?_;refine goC h ?_ ?_<;>intro c6 h
  ·exact goR h
  ·refine goS ?_;refine gX (jK q (by omega)) ?_;exact⟨(q+1),h,by omega,eJ⟩
 ·have f:=qC c3;rw [gT f,gGj.eq_1] at h;refine goX ?_;refine jH ?_;cases h;exact mM
def wF(a0:gG)(x5:List gI):List gI→(List pW)→Option (List pW)
 | [],y=>(some y)
 | f::xs,y=>bnd (gVs a0 f x5) fun q=>
(cnd (q != 0) (
gd (y.length+[(pW.mk q f)].length≤4294967296) (
wF a0 x5 xs (y++[(pW.mk q f)]))) (
wF a0 x5 xs y))
def yV(f:gG):Option (List pW):=
bnd (gEb f) fun q=>
(cnd (!q) (
gd (([]:List pW).length+[(pW.mk 6 (gI.mk 0 0))].length≤4294967296) (some ([]++[(pW.mk 6 (gI.mk 0 0))]))) (
bnd (gAa f) fun y=>
bnd (gN1 f) fun x5=>
wF f x5 y []))
theorem gRe(a0:gG){r:List pW}(h:yV a0=some r):gW Tryz.prog 51 [.d (jX a0)] [.sl 3 (gCu r)]:=by
 obtain⟨ab⟩:=a0;unfold yV at h;refine SpI Tryz.func51 fun A _=>?_;refine goL ?_;refine qO ?_;refine goL ?_;obtain⟨x1,al,h⟩:=gK h;refine gX (gD (gPf _ al)) ?_;refine kN (fun c2=>?_) (fun c2=>?_)
 ·replace h:=jU c2 h;refine goL ?_;refine uX (jI TBd.h TZ.h rfl (by repeat constructor)) ?_;refine uN (u:=(.st [.i .i64 6,.st [.i .i64 0,.i .i64 0]])) ?_;obtain⟨g3,h⟩:=mI h;refine vR g3 ?_;refine goL ?_;refine jS 1 rfl rfl ?_;refine jH ?_;cases h;exact mM
 ·replace h:=jV c2 h;refine goS ?_;obtain⟨x4,ao,h⟩:=gK h;refine gX (gD (gK2 _ ao)) ?_;obtain⟨x5,ap,h⟩:=gK h;refine gX (gD (gNa _ ap)) ?_;refine noB ?_;refine gB0 4 (fun z9=>?_);refine kQ (fun(q:Nat)(y6:List pW)(v7:Nat)=>⟨[(1,.ptr 0 0),(3,.sl 1 v7),(4,.L 2 (mG x4)),(5,.L 2 (mG x5)),(6,.N q)],[bPr ab,.arr 156 3 v7 (gCu y6)],Tryz.f51.ntmps⟩) (fun q y6 v7=>wF (gG.mk ab) x5 (x4.drop q) y6=some r) (fun q y6 v7=>x4.length - q) 0 [] 0 eJ h ?_;rintro q y6 v7 h;refine goL ?_;refine kN (fun ag=>?_) (fun ag=>?_)
  ·have f:=qB ag;obtain⟨aq,ac,ah⟩:=drop_at f;rw [ah,wF.eq_2] at h;obtain⟨y,aa⟩:=aq;refine noS ?_;refine kC (gP ?_);refine goL ?_;refine wC (gV q (vQ ac)) ?_;refine goL ?_;obtain⟨ai,aj,h⟩:=gK h;refine wC (gD (hJ5 _ _ _ aj)) ?_;refine goC h ?_ ?_<;>intro aw h
   ·refine goL ?_;refine gX (gV q (vQ ac)) ?_;refine uX (jI TBd.h TZ.h rfl (by repeat constructor)) ?_;refine uN (u:=(.st [.i .i64 ai,.st [.i .i64 y,.i .i64 aa]])) ?_;obtain⟨ar,h⟩:=mI h;refine vR ar ?_;refine goL ?_;refine gX (jK q (by omega)) ?_;exact⟨(q+1),(y6++[(pW.mk ai (gI.mk y aa))]),(v7+1),h,by omega,eJ⟩
   ·refine goS ?_;refine gX (jK q (by omega)) ?_;exact⟨(q+1),y6,v7,h,by omega,eJ⟩
  ·have f:=qC ag;rw [gT f,wF.eq_1] at h;refine goX ?_;refine jS 1 rfl rfl ?_;refine jH ?_;cases h;exact mM
def gEx(f:gG→(List gU)→gB→gF→gF→Int→Option (gB))(a0:gG)(a1:List gU)(a5:Int)(x3:gF):List gF→Nat→Int→Int→Int→(List gM)→(List kK)→(List jZ)→Int→Int→Option (gB)
 | [],y,aa,ab,ac,ad,ae,ag,ah,ai=>(some (gB.mk aa ab ac ad ae ag ah ai))
 | aj::xs,y,aa,ab,ac,ad,ae,ag,ah,ai=>bnd (at? x3.args (y:Int)) fun ak=>
bnd (f a0 a1 (gB.mk aa ab ac ad ae ag ah ai) aj ak (IntKind.i64.wrap (a5 - 1))) fun q=>
gEx f a0 a1 a5 x3 xs (y+1) q.next q.count q.node q.bindings q.equations q.obligations q.code q.at_
def gQn(f:gG→(List gU)→gB→gF→gF→Int→Option (gB))(a0:gG)(a1:List gU)(q:gB)(a3:gF)(a4:gF)(a5:Int):Option (gB):=
(cnd (q.code != 0) (some q) (
bnd (hFr q a3) fun x2=>
bnd (hFr q a4) fun y=>
(cnd (teq x2 y) (some q) (
lt_ (cnd (decide (a5≤0)) (true) (decide ((IntKind.i64.wrap ((tsz x2)+(tsz y))) > 2000))) fun b5=>
(cnd b5 (
lt_ (gAb q 6) fun x8=>
some x8) (
bnd (gMt x2) fun x9=>
(cnd x9 (
bnd (gRs q x2.name y) fun ag=>
some ag) (
bnd (gMt y) fun ah=>
(cnd ah (
bnd (gRs q y.name x2) fun ai=>
some ai) (
bnd (gLu a0 a1 x2) fun ab=>
(cnd (!ab.2.2) (
lt_ (gAb q 7) fun aj=>
some aj) (cnd ab.2.1 (
bnd (f a0 a1 q ab.1 y (IntKind.i64.wrap (a5 - 1))) fun ak=>
some ak) (
bnd (gLu a0 a1 y) fun ac=>
(cnd (!ac.2.2) (
lt_ (gAb q 7) fun al=>
some al) (cnd ac.2.1 (
bnd (f a0 a1 q x2 ac.1 (IntKind.i64.wrap (a5 - 1))) fun am=>
some am) (
bnd (cnd (x2.kind==3) (bnd (qI 5000 x2) fun an=>
(cnd an (some true) (cnd (y.kind==3) (bnd (qI 5000 y) fun ao=>
some ao) (some false)))) (cnd (y.kind==3) (bnd (qI 5000 y) fun ap=>
some ap) (some false))) fun aq=>
(cnd aq (
gd (([]:List kK).length+q.equations.length≤4294967296) (
gd (([]++q.equations).length+[(kK.mk x2 y q.node)].length≤4294967296) (some (gB.mk q.next q.count q.node q.bindings (([]++q.equations)++[(kK.mk x2 y q.node)]) q.obligations q.code q.at_)))) (
lt_ (cnd (x2.kind != y.kind) (true) (cnd (!(x2.name==y.name)) (true) (cnd ((x2.args.length:Int) !=(y.args.length:Int)) (true) (x2.kind==3)))) fun ar=>
(cnd ar (
lt_ (gAb q 1) fun au=>
some au) (
gEx f a0 a1 a5 y x2.args 0 q.next q.count q.node q.bindings q.equations q.obligations q.code q.at_))))))))))))))))))))
theorem hDj{q:gG→(List gU)→gB→gF→gF→Int→Option (gB)}(f:∀(x0:gG)(x1:List gU)(x2:gB)(x3:gF)(x4:gF)(x5:Int){r:gB},q x0 x1 x2 x3 x4 x5=some r→gW Tryz.prog 125 [.d (jX x0),.L 4 (kM x1),.d (jR x2),.d (kT x3),.d (kT x4),.I x5] [jR r])(a0:gG)(a1:List gU)(a2:gB)(a3:gF)(a4:gF)(a5:Int){r:gB}(h:gQn q a0 a1 a2 a3 a4 a5=some r):gW Tryz.prog 125 [.d (jX a0),.L 4 (kM a1),.d (jR a2),.d (kT a3),.d (kT a4),.I a5] [jR r]:=by
 obtain⟨ay⟩:=a0;obtain⟨ab,ac,y,ad,ae,ag,ah,ai⟩:=a2;obtain⟨e4,e5,e6⟩:=a3;obtain⟨e7,e8,e9⟩:=a4;unfold gQn at h;refine SpI Tryz.func125 fun A _=>?_;refine goC h ?_ ?_<;>intro c1 h
 ·exact goR h
 ·refine goS ?_;obtain⟨⟨am,an,aa⟩,cl,h⟩:=gK h;refine gX (gD (gZi _ _ cl)) ?_;obtain⟨⟨aj,ak,al⟩,cm,h⟩:=gK h;refine gX (gD (gZi _ _ cm)) ?_;refine kC (gP ?_);refine goL ?_;refine gX (gD (gEd (gF.mk am an aa) (gF.mk aj ak al))) ?_;refine kN (fun c4=>?_) (fun c4=>?_)
  ·replace h:=jU c4 h;exact goR h
  ·replace h:=jV c4 h;obtain⟨b5,hb5,h⟩:=pI h;refine qN (P:=Tryz.prog) Mix.h ⟨[(1,.L 4 (kM a1)),(5,.I a5),(6,.ptr 0 0),(8,.ptr 1 0),(9,.ptr 2 0),(10,.ptr 3 0),(12,.ptr 4 0),(35,.B b5)],[bPr ay,bSt ab ac y ad ae ag ah ai,bTy am an aa,bTy aj ak al,.box [.I 0,.I 0,.I 0,.nilsl,.nilsl,.nilsl,.I 0,.I 0]],Tryz.f125.ntmps⟩ (by kernel_rfl) ?_ ?_
   ·refine goL ?_;refine qE 38 (fun c6=>?_) (fun c6=>?_)
    ·replace hb5:=jU c6 hb5;refine goL ?_;cases hb5;exact eJ
    ·replace hb5:=jV c6 hb5;refine goL ?_;refine wN (gD (gCi (gF.mk am an aa))) ?_;refine goL ?_;refine wN (gD (gCi (gF.mk aj ak al))) ?_;refine wN (pR) ?_;refine goL ?_;cases hb5;exact eJ
   refine goC h ?_ ?_<;>intro c7 h
   ·refine goL ?_;obtain⟨⟨fa,fb,fc,fd,fe,ff,fg,fh⟩,cp,h⟩:=pI h;have sx8:=gCn (gB.mk ab ac y ad ae ag ah ai) 6;rw [cp] at sx8;refine pX (gD (sx8)) ?_;exact goR h
   ·refine goL ?_;obtain⟨x9,cq,h⟩:=gK h;refine gX (gD (gRq _ cq)) ?_;refine kN (fun bg=>?_) (fun bg=>?_)
    ·replace h:=jU bg h;refine goL ?_;obtain⟨⟨cr,cs,ct,cu,cv,cw,cx,cy⟩,b1,h⟩:=gK h;refine pX (gD (hBt _ _ _ b1)) ?_;exact goR h
    ·replace h:=jV bg h;refine goL ?_;obtain⟨fj,b2,h⟩:=gK h;refine gX (gD (gRq _ b2)) ?_;refine kN (fun bh=>?_) (fun bh=>?_)
     ·replace h:=jU bh h;refine goL ?_;obtain⟨⟨cz,c0,c2,c3,c5,c8,c9,da⟩,b3,h⟩:=gK h;refine pX (gD (hBt _ _ _ b3)) ?_;exact goR h
     ·replace h:=jV bh h;refine goS ?_;obtain⟨⟨⟨ao,ap,aq⟩,db,dc⟩,b4,h⟩:=gK h;refine gX (gD (gTk _ _ _ b4)) ?_;refine kN (fun bi=>?_) (fun bi=>?_)
      ·replace h:=jU bi h;refine goL ?_;obtain⟨⟨dd,de,df,dg,dh,di,dj,dk⟩,b6,h⟩:=pI h;have sx17:=gCn (gB.mk ab ac y ad ae ag ah ai) 7;rw [b6] at sx17;refine pX (gD (sx17)) ?_;exact goR h
      ·replace h:=jV bi h;refine goS ?_;refine kN (fun bj=>?_) (fun bj=>?_)
       ·replace h:=jU bj h;refine goL ?_;refine pX (pR) ?_;obtain⟨⟨dl,dm,dn,dp,dq,dr,ds,dt⟩,b7,h⟩:=gK h;refine pX (gD (f _ _ _ _ _ _ b7)) ?_;exact goR h
       ·replace h:=jV bj h;refine goS ?_;obtain⟨⟨⟨ar,au,av⟩,du,dv⟩,b8,h⟩:=gK h;refine gX (gD (gTk _ _ _ b8)) ?_;refine kN (fun bk=>?_) (fun bk=>?_)
        ·replace h:=jU bk h;refine goL ?_;obtain⟨⟨dw,dx,dy,dz,d0,d1,d2,d3⟩,b9,h⟩:=pI h;have sx22:=gCn (gB.mk ab ac y ad ae ag ah ai) 7;rw [b9] at sx22;refine pX (gD (sx22)) ?_;exact goR h
        ·replace h:=jV bk h;refine goS ?_;refine kN (fun bl=>?_) (fun bl=>?_)
         ·replace h:=jU bl h;refine goL ?_;refine pX (pR) ?_;obtain⟨⟨d4,d5,d6,d7,d8,d9,ea,eb⟩,ca,h⟩:=gK h;refine pX (gD (f _ _ _ _ _ _ ca)) ?_;exact goR h
         ·replace h:=jV bl h;refine goS ?_;obtain⟨ec,hb25,h⟩:=gK h;refine kG ⟨[(1,.L 4 (kM a1)),(5,.I a5),(6,.ptr 0 0),(8,.ptr 1 0),(9,.ptr 2 0),(10,.ptr 3 0),(12,.ptr 4 0),(121,.B ec)],[bPr ay,bSt ab ac y ad ae ag ah ai,bTy am an aa,bTy aj ak al,.box [.I 0,.I 0,.I 0,.nilsl,.nilsl,.nilsl,.I 0,.I 0],bTy ao ap aq,bTy ar au av],Tryz.f125.ntmps⟩ ?_ ?_
          ·refine gqV 109 hb25 ?_ ?_<;>intro fk hb25
           ·obtain⟨fl,cb,hb25⟩:=gK hb25;refine gX (gD (vH _ _ cb)) ?_;refine gqO 113 hb25 (fun fm hb25=>?_);refine gqA 117 hb25 (fun fn hb25=>?_);obtain⟨fo,cc,hb25⟩:=gK hb25;refine gX (gD (vH _ _ cc)) ?_;cases hb25;exact eJ
           ·refine gqA 117 hb25 (fun fp hb25=>?_);obtain⟨fq,cd,hb25⟩:=gK hb25;refine gX (gD (vH _ _ cd)) ?_;cases hb25;exact eJ
          refine goC h ?_ ?_<;>intro fr h
          ·refine sZ 1 ?_;refine goW ?_;refine gTb ?_;refine goW ?_;obtain⟨ed,h⟩:=mI h;refine uL ed ?_;refine goW ?_;refine uK (us:=vV [(kK.mk (gF.mk am an aa) (gF.mk aj ak al) y)]) ?_;obtain⟨ee,h⟩:=mI h;refine uL ee ?_;refine goW ?_;refine jY ?_;refine goL ?_;refine jS 7 rfl rfl ?_;refine jH ?_;cases h;exact mM
          ·refine goS ?_;obtain⟨ef,hb36,h⟩:=pI h;refine kG ⟨[(1,.L 4 (kM a1)),(5,.I a5),(6,.ptr 0 0),(8,.ptr 1 0),(9,.ptr 2 0),(10,.ptr 3 0),(12,.ptr 4 0),(160,.B ef)],[bPr ay,bSt ab ac y ad ae ag ah ai,bTy am an aa,bTy aj ak al,.box [.I 0,.I 0,.I 0,.nilsl,.nilsl,.nilsl,.I 0,.I 0],bTy ao ap aq,bTy ar au av],Tryz.f125.ntmps⟩ ?_ ?_
           ·refine uJ 140 (fun bm=>?_) (fun bm=>?_) (by first | rfl | (simp only [jG,gQ];rfl))
            ·replace hb36:=jU bm hb36;refine goL ?_;cases hb36;exact⟨rfl,⟨⟨rfl,rfl⟩,⟨rfl,rfl⟩,⟨rfl,rfl⟩,⟨rfl,rfl⟩,⟨rfl,rfl⟩,⟨rfl,rfl⟩,⟨rfl,rfl⟩,⟨by first | rfl | (simp only [jG,gQ];rfl),rfl⟩,trivial⟩,⟨_,rfl⟩,rfl⟩
            ·replace hb36:=jV bm hb36;refine goL ?_;refine uJ 147 (fun bn=>?_) (fun bn=>?_) (by first | rfl | (simp only [jG,gQ];rfl))
             ·replace hb36:=jU bn hb36;refine goL ?_;cases hb36;exact⟨rfl,⟨⟨rfl,rfl⟩,⟨rfl,rfl⟩,⟨rfl,rfl⟩,⟨rfl,rfl⟩,⟨rfl,rfl⟩,⟨rfl,rfl⟩,⟨rfl,rfl⟩,⟨by first | rfl | (simp only [jG,gQ];rfl),rfl⟩,trivial⟩,⟨_,rfl⟩,rfl⟩
             ·replace hb36:=jV bn hb36;refine goL ?_;refine uJ 156 (fun bo=>?_) (fun bo=>?_) (by first | rfl | (simp only [jG,gQ];rfl))
              ·replace hb36:=jU bo hb36;refine goL ?_;cases hb36;exact⟨rfl,⟨⟨rfl,rfl⟩,⟨rfl,rfl⟩,⟨rfl,rfl⟩,⟨rfl,rfl⟩,⟨rfl,rfl⟩,⟨rfl,rfl⟩,⟨rfl,rfl⟩,⟨by first | rfl | (simp only [jG,gQ];rfl),rfl⟩,trivial⟩,⟨_,rfl⟩,rfl⟩
              ·replace hb36:=jV bo hb36;refine goL ?_;cases hb36;exact⟨rfl,⟨⟨rfl,rfl⟩,⟨rfl,rfl⟩,⟨rfl,rfl⟩,⟨rfl,rfl⟩,⟨rfl,rfl⟩,⟨rfl,rfl⟩,⟨rfl,rfl⟩,⟨by first | rfl | (simp only [jG,gQ];rfl),rfl⟩,trivial⟩,⟨_,rfl⟩,rfl⟩
           refine goC h ?_ ?_<;>intro fs h
           ·refine goL ?_;obtain⟨⟨eg,eh,ei,ej,ek,el,em,en⟩,ce,h⟩:=pI h;have sx41:=gCn (gB.mk ab ac y ad ae ag ah ai) 1;rw [ce] at sx41;refine pX (gD (sx41)) ?_;exact goR h
           ·refine goS ?_;refine noB ?_;refine pG 2 2 (fun ft=>?_);refine gW0 (fun(aw:Nat)(a6:Int)(a7:Int)(a8:Int)(a9:List gM)(ba:List kK)(bb:List jZ)(bc:Int)(bd:Int)=>⟨[(1,.L 4 (kM a1)),(5,.I a5),(6,.ptr 0 0),(8,.ptr 1 0),(9,.ptr 2 0),(10,.ptr 3 0),(12,.ptr 4 0),(19,.N aw)],[bPr ay,bSt a6 a7 a8 a9 ba bb bc bd,bTy am an aa,bTy aj ak al,.box [.I 0,.I 0,.I 0,.nilsl,.nilsl,.nilsl,.I 0,.I 0],bTy ao ap aq,bTy ar au av],Tryz.f125.ntmps⟩) (fun aw a6 a7 a8 a9 ba bb bc bd=>gEx q (gG.mk ay) a1 a5 (gF.mk aj ak al) (aa.drop aw) aw a6 a7 a8 a9 ba bb bc bd=some r) (fun aw a6 a7 a8 a9 ba bb bc bd=>aa.length - aw) 0 ab ac y ad ae ag ah ai eJ h ?_;rintro aw a6 a7 a8 a9 ba bb bc bd h;refine goL ?_;refine kN (fun bp=>?_) (fun bp=>?_)
            ·have ax:=qB bp;obtain⟨eo,cf,bq⟩:=drop_at ax;rw [bq,gEx.eq_2] at h;obtain⟨ep,er,et⟩:=eo;refine noS ?_;refine kC (gP ?_);refine dZ 0 ?_;refine goW ?_;refine kR (fun _=>gV aw (gAw cf)) ?_;refine goW ?_;obtain⟨eu,be,h⟩:=gK h;rw [gBb] at be;obtain⟨ev,ew,ex⟩:=eu;refine kR (fun _=>gV aw (gAw be)) ?_;refine goW ?_;refine kR (fun _=>pR) ?_;obtain⟨⟨br,bt,bu,bv,bw,bx,bz,b0⟩,cg,h⟩:=gK h;refine kR (fun _=>gD (f _ _ _ _ _ _ cg)) ?_;refine goW ?_;refine jY ?_;refine goL ?_;refine gX (jK aw (by omega)) ?_;exact⟨(aw+1),br,bt,bu,bv,bw,bx,bz,b0,h,by omega,eJ⟩
            ·have ax:=qC bp;rw [gT ax,gEx.eq_1] at h;refine goX ?_;refine jH ?_;cases h;exact mM
def gKt:Nat→gG→(List gU)→gB→gF→gF→Int→Option (gB)
 | 0,_,_,_,_,_,_=>none
 | n+1,f,q,y,x3,x4,x5=>gQn (gKt n) f q y x3 x4 x5
theorem gQo:∀(n:Nat)(f:gG)(q:List gU)(y:gB)(x3:gF)(x4:gF)(x5:Int){r:gB},gKt n f q y x3 x4 x5=some r→gW Tryz.prog 125 [.d (jX f),.L 4 (kM q),.d (jR y),.d (kT x3),.d (kT x4),.I x5] [jR r]:=by
 intro n
 induction n with
 | zero=>intro f q y x3 x4 x5 r h;cases h
 | succ n ih=>intro f q y x3 x4 x5 r h;exact hDj ih f q y x3 x4 x5 h
def gY5(f:kW):Option (Bool):=
bnd (cnd (!(pF f.name)) (some true) (cnd (decide ((f.params.length:Int) > 4)) (some true) (bnd (gUf f.params [[115,101,108,102]]) fun x4=>
(cnd (!x4) (some true) (bnd (gHp f.result [[115,101,108,102]]) fun x6=>
some (!x6)))))) fun b1=>
(cnd b1 (some false) (cnd (!f.hasDefault) (
bnd (cnd ((f.vars.length:Int)==0) (bnd (gVc f.body) fun q=>
some q) (some false)) fun b9=>
some b9) (
bnd (zY f.vars 5) fun y=>
bnd (cnd y (cnd ((f.vars.length:Int)==(IntKind.i64.wrap ((f.params.length:Int)+1))) (bnd (gOg f.body f.vars) fun aa=>
some aa) (some false)) (some false)) fun ab=>
some ab)))
theorem hPh(a0:kW){r:Bool}(h:gY5 a0=some r):gW Tryz.prog 258 [.d (gC0 a0)] [.b r]:=by
 obtain⟨ak,al,⟨aa,ab,ac⟩,am,an,⟨ad,ae,ag,ah,⟨f,q,y⟩,ai,aj⟩⟩:=a0;unfold gY5 at h;refine SpI Tryz.func258 fun A _=>?_;refine goL ?_;refine gX (gD (uB ak)) ?_;obtain⟨b1,hb1,h⟩:=gK h;refine kG ⟨[(1,.ptr 0 0),(26,.B b1)],[bSg ak al aa ab ac am an ad ae ag ah f q y ai aj],Tryz.f258.ntmps⟩ ?_ ?_
 ·refine uJ 7 (fun c2=>?_) (fun c2=>?_) (by first | rfl | (simp only [jG,gQ];rfl))
  ·replace hb1:=jU c2 hb1;refine goL ?_;cases hb1;exact⟨rfl,⟨⟨rfl,rfl⟩,⟨by first | rfl | (simp only [jG,gQ];rfl),rfl⟩,trivial⟩,⟨_,rfl⟩,rfl⟩
  ·replace hb1:=jV c2 hb1;refine goL ?_;refine uJ 13 (fun c3=>?_) (fun c3=>?_) (by first | rfl | (simp only [jG,gQ];rfl))
   ·replace hb1:=jU c3 hb1;refine goL ?_;cases hb1;exact⟨rfl,⟨⟨rfl,rfl⟩,⟨by first | rfl | (simp only [jG,gQ];rfl),rfl⟩,trivial⟩,⟨_,rfl⟩,rfl⟩
   ·replace hb1:=jV c3 hb1;refine goL ?_;refine gRx ?_;refine gAz ([115,101,108,102]:LB) ?_;refine gRx ?_;obtain⟨x4,ay,hb1⟩:=gK hb1;refine gC1 (gUn (hFj al [[115,101,108,102]] ay)) ?_;refine uJ 20 (fun c5=>?_) (fun c5=>?_) (by first | rfl | (simp only [jG,gQ];rfl))
    ·replace hb1:=jU c5 hb1;refine goL ?_;cases hb1;exact⟨rfl,⟨⟨rfl,rfl⟩,⟨by first | rfl | (simp only [jG,gQ];rfl),rfl⟩,trivial⟩,⟨_,rfl⟩,rfl⟩
    ·replace hb1:=jV c5 hb1;refine goL ?_;refine gRx ?_;refine gAz ([115,101,108,102]:LB) ?_;refine gRx ?_;obtain⟨x6,a3,hb1⟩:=gK hb1;refine gC1 (gUn (gLi (gF.mk aa ab ac) [[115,101,108,102]] a3)) ?_;cases hb1;exact⟨rfl,⟨⟨rfl,rfl⟩,⟨by first | rfl | (simp only [jG,gQ];rfl),rfl⟩,trivial⟩,⟨_,rfl⟩,rfl⟩
 refine goC h ?_ ?_<;>intro c7 h
 ·exact goR h
 ·refine goS ?_;refine kN (fun c8=>?_) (fun c8=>?_)
  ·replace h:=jU c8 h;refine goL ?_;obtain⟨b9,hb9,h⟩:=gK h;refine kG ⟨[(2,.B b9)],[bSg ak al aa ab ac am an ad ae ag ah f q y ai aj],Tryz.f258.ntmps⟩ ?_ ?_
   ·refine gqA 34 hb9 (fun a8 hb9=>?_);obtain⟨a9,aq,hb9⟩:=gK hb9;refine gX (gD (hI7 _ aq)) ?_;cases hb9;exact eJ
   exact goR h
  ·replace h:=jV c8 h;refine goS ?_;obtain⟨ba,ar,h⟩:=gK h;refine gX (gD (gBs _ _ ar)) ?_;obtain⟨a5,hb13,h⟩:=gK h;refine kG ⟨[(2,.B a5)],[bSg ak al aa ab ac am an ad ae ag ah f q y ai aj],Tryz.f258.ntmps⟩ ?_ ?_
   ·refine uJ 42 (fun ao=>?_) (fun ao=>?_) (by first | rfl | (simp only [jG,gQ];rfl))
    ·replace hb13:=jU ao hb13;refine goL ?_;refine gRx ?_;refine gX (pR) ?_;refine uJ 52 (fun ap=>?_) (fun ap=>?_) (by first | rfl | (simp only [jG,gQ];rfl))
     ·replace hb13:=jU ap hb13;refine goL ?_;refine gRx ?_;obtain⟨bb,au,hb13⟩:=gK hb13;refine gX (gD (gVr _ _ au)) ?_;cases hb13;exact⟨rfl,⟨⟨by first | rfl | (simp only [jG,gQ];rfl),rfl⟩,trivial⟩,⟨_,rfl⟩,rfl⟩
     ·replace hb13:=jV ap hb13;refine goL ?_;cases hb13;exact⟨rfl,⟨⟨by first | rfl | (simp only [jG,gQ];rfl),rfl⟩,trivial⟩,⟨_,rfl⟩,rfl⟩
    ·replace hb13:=jV ao hb13;refine goL ?_;cases hb13;exact⟨rfl,⟨⟨by first | rfl | (simp only [jG,gQ];rfl),rfl⟩,trivial⟩,⟨_,rfl⟩,rfl⟩
   exact goR h
def yF(a0:jW)(x4:gH):List mJ→(List gH)→Option (gH)
 | [],y5=>bnd (gC8 a0) fun ab=>
bnd (gTh ab (gH.mk x4.atom y5)) fun ac=>
(some ac)
 | y::xs,y5=>lt_ (mZ y.name) fun f=>
bnd (gPm y.fields) fun q=>
gd ([f].length+q.length≤4294967296) (
gd (y5.length+[(gH.mk [] ([f]++q))].length≤4294967296) (
yF a0 x4 xs (y5++[(gH.mk [] ([f]++q))])))
def gGk(f:jW):Option (gH):=
lt_ (mZ [100,97,116,97]) fun y=>
lt_ (mZ f.name) fun x2=>
bnd (gCx f.vars) fun x3=>
bnd (gMv [y,x2,x3]) fun q=>
yF f q f.constructors q.list
theorem gRf(a0:jW){r:gH}(h:gGk a0=some r):gW Tryz.prog 202 [.d (gAf a0)] [qL r]:=by
 obtain⟨ab,ad,aa⟩:=a0;unfold gGk at h;refine SpI Tryz.func202 fun A _=>?_;refine gCj ?_;refine sZ 2 ?_;refine goW ?_;obtain⟨⟨am,an⟩,a3,h⟩:=pI h;have sx1:=pO [100,97,116,97];rw [a3] at sx1;refine kR (fun _=>gD (sx1)) ?_;refine goW ?_;obtain⟨⟨ao,ap⟩,a4,h⟩:=pI h;have sx2:=pO ab;rw [a4] at sx2;refine kR (fun _=>gD (sx2)) ?_;refine goW ?_;obtain⟨⟨aq,ar⟩,a5,h⟩:=gK h;refine kR (fun _=>gD (gFw _ a5)) ?_;refine uK (us:=kE [(gH.mk am an),(gH.mk ao ap),(gH.mk aq ar)]) ?_;obtain⟨⟨ae,ag⟩,a6,h⟩:=gK h;refine gSk (LH.cN (gJp _ a6)) ?_;refine goW ?_;refine jY ?_;refine goL ?_;refine noB ?_;refine pG 0 2 (fun z8=>?_);refine kQ (fun(y7:Nat)(y5:List gH)(v6:Nat)=>⟨[(1,.ptr 0 0),(2,.ptr 1 0),(3,.ptr 3 0),(4,.N y7)],[bDa ab ad aa,.box [.S [],.nilsl],.arr 148 2 v6 (kE y5),.box [.S ae,.sl 2 v6]],Tryz.f202.ntmps⟩) (fun y7 y5 v6=>yF (jW.mk ab ad aa) (gH.mk ae ag) (aa.drop y7) y5=some r) (fun y7 y5 v6=>aa.length - y7) 0 ag 1 eJ h ?_;rintro y7 y5 v6 h;refine goL ?_;refine kN (fun c9=>?_) (fun c9=>?_)
 ·have f:=qB c9;obtain⟨a8,ah,ai⟩:=drop_at f;rw [ai,yF.eq_2] at h;obtain⟨aj,a9⟩:=a8;refine noS ?_;refine kC (gP ?_);refine dZ 1 ?_;refine goW ?_;refine kR (fun _=>gV y7 (qA ah)) ?_;refine goW ?_;obtain⟨⟨q,y⟩,au,h⟩:=pI h;have sx11:=pO aj;rw [au] at sx11;refine kR (fun _=>gD (sx11)) ?_;refine hXf (us:=kE [(gH.mk q y)]) ?_;refine goW ?_;refine kR (fun _=>gV y7 (qA ah)) ?_;refine goW ?_;obtain⟨av,aw,h⟩:=gK h;refine kR (fun _=>gD (gX1 _ aw)) ?_;obtain⟨ba,h⟩:=mI h;refine uL ba ?_;refine goW ?_;refine gSk (LH.frz 4 (h:=LH.ld (us:=kE [(gH.mk [] ([(gH.mk q y)]++av))]))) ?_;obtain⟨bb,h⟩:=mI h;refine uL bb ?_;refine goW ?_;refine jY ?_;refine goL ?_;refine gX (jK y7 (by omega)) ?_;exact⟨(y7+1),(y5++[(gH.mk [] ([(gH.mk q y)]++av))]),(v6+1),h,by omega,eJ⟩
 ·have f:=qC c9;rw [gT f,yF.eq_1] at h;refine noX ?_;refine jS 2 rfl rfl ?_;refine hXb ?_;refine sZ 0 ?_;refine goW ?_;obtain⟨be,ax,h⟩:=gK h;refine kR (fun _=>gD (gLt _ ax)) ?_;refine goW ?_;obtain⟨⟨bc,bd⟩,ay,h⟩:=gK h;refine kR (fun _=>gD (hAm _ _ ay)) ?_;refine goW ?_;refine jY ?_;exact goR h
def yG:List qX→LS→Option (Bool)
 | [],q=>bnd (zY q 6) fun y=>
(some y)
 | f::xs,q=>bnd (cnd ((f.vars.length:Int)==0) (some true) (bnd (zY f.vars 5) fun aa=>
(cnd (!aa) (some true) (bnd (gOg f.body f.vars) fun ab=>
some (!ab))))) fun ac=>
(cnd ac (some false) (
gd (q.length+[f.name].length≤4294967296) (
yG xs (q++[f.name]))))
def yH(f:jF):LS→Option (Bool)
 | []=>bnd (cnd f.hasAssoc (bnd (gHp f.assoc f.vars) fun q=>
cnd (!q) (some true) (cnd (!f.hasAssoc) (some (!(gAp f.assoc))) (some false))) (cnd (!f.hasAssoc) (some (!(gAp f.assoc))) (some false))) fun y=>
(cnd y (some false) (
yG f.methods []))
 | aa::xs=>bnd (gD3 aa f.head) fun ab=>
(cnd (!ab) (some false) (
yH f xs ))
def gC6(f:jF):Option (Bool):=
bnd (cnd (!(pF f.trait)) (some true) (bnd (zY f.vars 3) fun y=>
(cnd (!y) (some true) (bnd (gHp f.head f.vars) fun x5=>
(cnd (!x5) (some true) (bnd (wT 5000 f.head) fun x7=>
(cnd x7 (some true) (cnd (f.head.kind==4) (some true) (bnd (gPq f.where_ f.vars) fun q=>
some (!q)))))))))) fun b1=>
(cnd b1 (some false) (
yH f f.vars ))
theorem gLr(a0:jF){r:Bool}(h:gC6 a0=some r):gW Tryz.prog 209 [.d (vY a0)] [.b r]:=by
 obtain⟨ag,ad,⟨aa,ab,ac⟩,ai,aj,ak,⟨f,q,y⟩,ae⟩:=a0;unfold gC6 at h;refine SpI Tryz.func209 fun A _=>?_;refine goL ?_;refine gX (gD (uB ag)) ?_;obtain⟨b1,hb1,h⟩:=gK h;refine kG ⟨[(1,.ptr 0 0),(43,.B b1)],[bIn ag ad aa ab ac ai aj ak f q y ae],Tryz.f209.ntmps⟩ ?_ ?_
 ·refine gqO 11 hb1 (fun c2 hb1=>?_);obtain⟨x3,bj,hb1⟩:=gK hb1;refine gX (gD (gBs _ _ bj)) ?_;refine gqO 17 hb1 (fun c4 hb1=>?_);obtain⟨x5,bk,hb1⟩:=gK hb1;refine gX (gD (gLi _ _ bk)) ?_;refine gqO 25 hb1 (fun c6 hb1=>?_);obtain⟨x7,bl,hb1⟩:=gK hb1;refine gX (gD (gJ0 _ _ bl)) ?_;refine gqO 30 hb1 (fun c8 hb1=>?_);refine gqO 36 hb1 (fun c9 hb1=>?_);obtain⟨br,ba,hb1⟩:=gK hb1;refine gX (gD (gX5 _ _ ba)) ?_;cases hb1;exact eJ
 refine goC h ?_ ?_<;>intro bt h
 ·exact goR h
 ·refine goS ?_;refine noB ?_;refine pG 0 1 (fun bu=>?_);refine kZ (fun(al:Nat)=>⟨[(1,.ptr 0 0),(3,.N al)],[bIn ag ad aa ab ac ai aj ak f q y ae],Tryz.f209.ntmps⟩) (fun al=>yH (jF.mk ag ad (gF.mk aa ab ac) ai aj ak (gF.mk f q y) ae) (ad.drop al)  =some r) (fun al=>ad.length - al) 0 eJ h ?_;rintro al h;refine goL ?_;refine kN (fun a5=>?_) (fun a5=>?_)
  ·have am:=qB a5;obtain⟨bv,bb,a6⟩:=drop_at am;rw [a6,yH.eq_2] at h;refine noS ?_;refine kC (gP ?_);refine goL ?_;refine wC (gV al (gN4 bb)) ?_;refine goL ?_;obtain⟨bw,bc,h⟩:=gK h;refine wC (gD (gH7 _ _ bc)) ?_;refine goC h ?_ ?_<;>intro bx h
   ·exact goR h
   ·refine goS ?_;refine gX (jK al (by omega)) ?_;exact⟨(al+1),h,by omega,eJ⟩
  ·have am:=qC a5;rw [gT am,yH.eq_1] at h;refine goX ?_;obtain⟨bm,hb18,h⟩:=gK h;refine kG ⟨[(1,.ptr 0 0),(80,.B bm)],[bIn ag ad aa ab ac ai aj ak f q y ae],Tryz.f209.ntmps⟩ ?_ ?_
   ·refine gqV 62 hb18 ?_ ?_<;>intro bz hb18
    ·obtain⟨b0,bd,hb18⟩:=gK hb18;refine gX (gD (gLi _ _ bd)) ?_;refine gqO 70 hb18 (fun b2 hb18=>?_);refine gqA 74 hb18 (fun b3 hb18=>?_);refine gX (gD (gDm (gF.mk f q y))) ?_;cases hb18;exact eJ
    ·refine gqA 74 hb18 (fun b4 hb18=>?_);refine gX (gD (gDm (gF.mk f q y))) ?_;cases hb18;exact eJ
   refine goC h ?_ ?_<;>intro b5 h
   ·exact goR h
   ·refine goS ?_;refine gFh ?_;refine goL ?_;refine noB ?_;refine pG 0 11 (fun b6=>?_);refine kQ (fun(ah:Nat)(ao:LS)(ap:Nat)=>⟨[(1,.ptr 0 0),(4,.sl 1 ap),(5,.N ah)],[bIn ag ad aa ab ac ai aj ak f q y ae,.own 9 1 ap (kD ao)],Tryz.f209.ntmps⟩) (fun ah ao ap=>yG (ae.drop ah) ao=some r) (fun ah ao ap=>ae.length - ah) 0 [] 0 eJ h ?_;rintro ah ao ap h;refine goL ?_;refine kN (fun a7=>?_) (fun a7=>?_)
    ·have an:=qB a7;obtain⟨bn,be,a8⟩:=drop_at an;rw [a8,yG.eq_2] at h;obtain⟨aq,a9,⟨aw,ax,ay,a2,⟨ar,au,av⟩,a3,a4⟩⟩:=bn;refine noS ?_;refine kC (gP ?_);refine goL ?_;refine gX (gV ah (gMi be)) ?_;obtain⟨bo,hb31,h⟩:=gK h;refine kG ⟨[(1,.ptr 0 0),(4,.sl 1 ap),(5,.N ah),(6,.ptr 2 0),(111,.B bo)],[bIn ag ad aa ab ac ai aj ak f q y ae,.own 9 1 ap (kD ao),.box [.S aq,.L 1 (kD a9),.I aw,.S ax,.S ay,.I a2,.I ar,.S au,.L 3 (jJ av),.L 9 (vP a3),.L 11 (gBv a4)]],Tryz.f209.ntmps⟩ ?_ ?_
     ·refine gqO 98 hb31 (fun b7 hb31=>?_);obtain⟨b8,bf,hb31⟩:=gK hb31;refine gX (gD (gBs _ _ bf)) ?_;refine gqO 104 hb31 (fun b9 hb31=>?_);obtain⟨ca,bg,hb31⟩:=gK hb31;refine gX (gD (gVr _ _ bg)) ?_;cases hb31;exact eJ
     refine goC h ?_ ?_<;>intro cb h
     ·exact goR h
     ·refine goS ?_;refine gAz aq ?_;obtain⟨bp,h⟩:=mI h;refine gDj bp ?_;refine goL ?_;refine gX (jK ah (by omega)) ?_;exact⟨(ah+1),(ao++[aq]),(ap+1),h,by omega,eJ⟩
    ·have an:=qC a7;rw [gT an,yG.eq_1] at h;refine goX ?_;obtain⟨cc,bh,h⟩:=gK h;refine uX (gUn (gBs ao 6 bh)) ?_;exact goR h
def yI(f:kF):List jT→LS→Option (Bool)
 | [],q=>bnd (cnd (pF f.name) (bnd (zY f.vars 3) fun y=>
(cnd y (bnd (gPq f.where_ f.vars) fun aa=>
(cnd aa (bnd (zY q 5) fun ab=>
(cnd ab (bnd (gHp f.result f.vars) fun ac=>
(cnd ac (bnd (gOg f.body q) fun ad=>
some ad) (some false))) (some false))) (some false))) (some false))) (some false)) fun ae=>
(some ae)
 | x6::xs,q=>bnd (gHp x6.type_ f.vars) fun x7=>
(cnd (!x7) (some false) (
gd (q.length+[x6.name].length≤4294967296) (
yI f xs (q++[x6.name]))))
def gC7(f:kF):Option (Bool):=
yI f f.params []
theorem gLs(a0:kF){r:Bool}(h:gC7 a0=some r):gW Tryz.prog 210 [.d (gCr a0)] [.b r]:=by
 obtain⟨am,an,ao,ak,⟨ah,ai,aj⟩,⟨aa,ab,ac,ad,⟨f,q,y⟩,ae,ag⟩⟩:=a0;unfold gC7 at h;refine SpI Tryz.func210 fun A _=>?_;refine goL ?_;refine gFh ?_;refine goL ?_;refine noB ?_;refine pG 0 3 (fun z4=>?_);refine kQ (fun(y3:Nat)(y1:LS)(v2:Nat)=>⟨[(1,.ptr 0 0),(3,.sl 1 v2),(4,.N y3)],[.box [.S am,.L 1 (kD an),.L 4 (kM ao),.L 4 (mK ak),.I ah,.S ai,.L 3 (jJ aj),.I aa,.S ab,.S ac,.I ad,.I f,.S q,.L 3 (jJ y),.L 9 (vP ae),.L 11 (gBv ag)],.own 9 1 v2 (kD y1)],Tryz.f210.ntmps⟩) (fun y3 y1 v2=>yI (kF.mk am an ao ak (gF.mk ah ai aj) (gY.mk aa ab ac ad (gF.mk f q y) ae ag)) (ak.drop y3) y1=some r) (fun y3 y1 v2=>ak.length - y3) 0 [] 0 eJ h ?_;rintro y3 y1 v2 h;refine goL ?_;refine kN (fun c5=>?_) (fun c5=>?_)
 ·have al:=qB c5;obtain⟨x6,av,aw⟩:=drop_at al;rw [aw,yI.eq_2] at h;obtain⟨ar,⟨a5,a6,a7⟩⟩:=x6;refine noS ?_;refine kC (gP ?_);refine goL ?_;refine wC (gV y3 (gQf av)) ?_;refine goL ?_;obtain⟨x7,ba,h⟩:=gK h;refine wC (gD (gLi _ _ ba)) ?_;refine goC h ?_ ?_<;>intro c8 h
  ·exact goR h
  ·refine goS ?_;refine gX (gV y3 (gQf av)) ?_;refine gAz ar ?_;obtain⟨g9,h⟩:=mI h;refine gDj g9 ?_;refine goL ?_;refine gX (jK y3 (by omega)) ?_;exact⟨(y3+1),(y1++[ar]),(v2+1),h,by omega,eJ⟩
 ·have al:=qC c5;rw [gT al,yI.eq_1] at h;refine goX ?_;refine gX (gD (uB am)) ?_;obtain⟨bb,hb10,h⟩:=gK h;refine kG ⟨[(2,.B bb)],[.box [.S am,.L 1 (kD an),.L 4 (kM ao),.L 4 (mK ak),.I ah,.S ai,.L 3 (jJ aj),.I aa,.S ab,.S ac,.I ad,.I f,.S q,.L 3 (jJ y),.L 9 (vP ae),.L 11 (gBv ag)],.own 9 1 v2 (kD y1)],Tryz.f210.ntmps⟩ ?_ ?_
  ·refine gqA 35 hb10 (fun be hb10=>?_);obtain⟨bf,ax,hb10⟩:=gK hb10;refine gX (gD (gBs _ _ ax)) ?_;refine gqA 40 hb10 (fun bg hb10=>?_);obtain⟨bh,ay,hb10⟩:=gK hb10;refine gX (gD (gX5 _ _ ay)) ?_;refine gqA 47 hb10 (fun bi hb10=>?_);obtain⟨bj,a2,hb10⟩:=gK hb10;refine gC1 (gUn (gBs y1 5 a2)) ?_;refine gqA 51 hb10 (fun bk hb10=>?_);obtain⟨bl,a3,hb10⟩:=gK hb10;refine gX (gD (gLi _ _ a3)) ?_;refine gqA 58 hb10 (fun bm hb10=>?_);obtain⟨bn,a4,hb10⟩:=gK hb10;refine gC1 (gUn (gVr (gY.mk aa ab ac ad (gF.mk f q y) ae ag) y1 a4)) ?_;cases hb10;exact eJ
  exact goR h
def gVp(q:gG)(a1:Int)(f:gY):Option (Int):=
(cnd (f.kind==4) (
lt_ (gK1 q f.name) fun x2=>
bnd (cnd (!x2.2.2) (some true) (bnd (gFx q a1 x2.2.1) fun x5=>
cnd (!x5) (some true) (some ((x2.1.params.length:Int) !=(f.args.length:Int))))) fun b3=>
cnd b3 (some 9) (some 0)) (cnd (f.kind==5) (
bnd (gF7 q a1 f.trait) fun x9=>
(cnd (!x9.2) (some 3) (
lt_ (gNe x9.1 f.name) fun aa=>
lt_ (cnd (!aa.2) (true) ((IntKind.i64.wrap ((aa.1.params.length:Int)+1)) !=(f.args.length:Int))) fun ad=>
cnd ad (some 6) (some 0)))) (cnd (f.kind==6) (
bnd (gSf q a1 f.name) fun y=>
(cnd (!y.2.2) (some 1) (
bnd (at? y.1.constructors y.2.1) fun ae=>
cnd ((ae.fields.length:Int) !=(f.args.length:Int)) (some 2) (some 0)))) (cnd (f.kind==7) (cnd ((f.arms.length:Int)==0) (some 1) (
bnd (at? f.arms 0) fun ag=>
bnd (gSf q a1 ag.constructor) fun ab=>
(cnd (!ab.2.2) (some 1) (
bnd (hPp ab.1 f.arms) fun ah=>
cnd (!ah) (some 2) (some 0))))) (cnd (f.kind==11) (
bnd (gU0 q a1 f.trait) fun ai=>
some ai) (cnd (f.kind==12) (
bnd (zP 5000 q a1 f.type_) fun aj=>
some aj) (some 0)))))))
theorem hJz(a0:gG)(a1:Int)(a2:gY){r:Int}(h:gVp a0 a1 a2=some r):gW Tryz.prog 119 [.d (jX a0),.I a1,.d (vX a2)] [.i .i64 r]:=by
 obtain⟨bb⟩:=a0;obtain⟨bm,bn,an,bo,⟨ao,ap,aq⟩,bp,bq⟩:=a2;unfold gVp at h;refine SpI Tryz.func119 fun A _=>?_;refine goL ?_;refine gP ?_;refine goC h ?_ ?_<;>intro c1 h
 ·refine goL ?_;obtain⟨⟨⟨bi,bj,bk,bl,⟨ay,a3,a4⟩,⟨a5,a6,a7,a8,⟨aa,ab,ac⟩,a9,ba⟩⟩,c3,c5⟩,cn,h⟩:=pI h;have sx2:=hBp (gG.mk bb) an;rw [cn] at sx2;refine gX (gD (sx2)) ?_;obtain⟨b3,hb3,h⟩:=gK h;refine kG ⟨[(49,.B b3)],[bPr bb,bEx bm bn an bo ao ap aq bp bq,.box [.S bi,.L 1 (kD bj),.L 4 (kM bk),.L 4 (mK bl),.I ay,.S a3,.L 3 (jJ a4),.I a5,.S a6,.S a7,.I a8,.I aa,.S ab,.L 3 (jJ ac),.L 9 (vP a9),.L 11 (gBv ba)]],Tryz.f119.ntmps⟩ ?_ ?_
  ·refine gqO 34 hb3 (fun c4 hb3=>?_);obtain⟨x5,co,hb3⟩:=gK hb3;refine gX (gD (gLn _ _ _ co)) ?_;exact gqZ 41 hb3
  refine goC h ?_ ?_<;>intro c7 h
  ·exact goR h
  ·refine goS ?_;refine jH ?_;cases h;exact mM
 ·refine goC h ?_ ?_<;>intro c8 h
  ·refine goL ?_;obtain⟨⟨⟨ar,au,av,aw,ax⟩,c6⟩,cp,h⟩:=gK h;refine gX (gD (gKi _ _ _ cp)) ?_;refine kN (fun br=>?_) (fun br=>?_)
   ·replace h:=jU br h;exact goR h
   ·replace h:=jV br h;refine goS ?_;obtain⟨⟨⟨bc,bd,⟨ad,ae,ag⟩,be,bf,⟨ah,ai,aj,ak,⟨f,q,y⟩,al,am⟩⟩,cq⟩,b2,h⟩:=pI h;have sx11:=gZg (mE.mk ar au av aw ax) an;rw [b2] at sx11;refine gX (gD (sx11)) ?_;obtain⟨cr,hb12,h⟩:=pI h;refine kG ⟨[(80,.B cr)],[bPr bb,bEx bm bn an bo ao ap aq bp bq,bTr ar au av aw ax,bSg bc bd ad ae ag be bf ah ai aj ak f q y al am],Tryz.f119.ntmps⟩ ?_ ?_
    ·refine uJ 71 (fun bt=>?_) (fun bt=>?_) (by first | rfl | (simp only [jG,gQ];rfl))
     ·replace hb12:=jU bt hb12;refine goL ?_;cases hb12;exact⟨rfl,⟨⟨by first | rfl | (simp only [jG,gQ];rfl),rfl⟩,trivial⟩,⟨_,rfl⟩,rfl⟩
     ·replace hb12:=jV bt hb12;refine goL ?_;refine gRx ?_;refine gX (pR) ?_;cases hb12;exact⟨rfl,⟨⟨by first | rfl | (simp only [jG,gQ];rfl),rfl⟩,trivial⟩,⟨_,rfl⟩,rfl⟩
    refine goC h ?_ ?_<;>intro da h
    ·exact goR h
    ·refine goS ?_;refine jH ?_;cases h;exact mM
  ·refine goC h ?_ ?_<;>intro db h
   ·refine goL ?_;obtain⟨⟨⟨b4,b5,b6⟩,cs,ct⟩,b7,h⟩:=gK h;refine gX (gD (hCx _ _ _ b7)) ?_;refine kN (fun bu=>?_) (fun bu=>?_)
    ·replace h:=jU bu h;exact goR h
    ·replace h:=jV bu h;refine goS ?_;obtain⟨cu,bg,h⟩:=gK h;obtain⟨bv,bg⟩:=yY bg;obtain⟨cv,cw⟩:=cu;refine wC (kY bv (qA bg)) ?_;refine goC h ?_ ?_<;>intro dc h
     ·exact goR h
     ·refine goS ?_;refine jH ?_;cases h;exact mM
   ·refine goC h ?_ ?_<;>intro dd h
    ·refine goC h ?_ ?_<;>intro de h
     ·exact goR h
     ·refine noS ?_;refine sZ 1 ?_;refine goW ?_;obtain⟨cx,bh,h⟩:=gK h;obtain⟨bw,bh⟩:=yY bh;obtain⟨cy,cz,⟨b8,b9,ca,cb,⟨bx,bz,b0⟩,cc,cd⟩⟩:=cx;refine kR (fun _=>kY bw (gYd bh)) ?_;refine goW ?_;obtain⟨⟨⟨ce,cf,cg⟩,c0,c2⟩,ch,h⟩:=gK h;refine kR (fun _=>gD (hCx _ _ _ ch)) ?_;refine goW ?_;refine jY ?_;refine goC h ?_ ?_<;>intro df h
      ·exact goR h
      ·refine goS ?_;obtain⟨dg,ci,h⟩:=gK h;refine gX (gD (hKk _ _ ci)) ?_;refine kN (fun b1=>?_) (fun b1=>?_)
       ·replace h:=jU b1 h;exact goR h
       ·replace h:=jV b1 h;refine goS ?_;refine jH ?_;cases h;exact mM
    ·refine goC h ?_ ?_<;>intro dh h
     ·refine goL ?_;obtain⟨di,cj,h⟩:=gK h;refine pX (gD (hGu _ _ _ cj)) ?_;exact goR h
     ·refine goC h ?_ ?_<;>intro dj h
      ·refine goL ?_;obtain⟨dk,ck,h⟩:=gK h;refine pX (gD (gBz _ _ _ _ ck)) ?_;exact goR h
      ·refine goS ?_;refine jH ?_;cases h;exact mM
end Go.Proofs.YtfjncckelekpiaaGreat
