import Derived.Test.YtegahmhnmjnhhaaGreatB16
set_option maxHeartbeats 4000000
set_option linter.unusedVariables false
set_option linter.unusedSimpArgs false
set_option linter.unusedSectionVars false
namespace Go.Proofs.YtegahmhnmjnhhaaGreat
open Go Go.Eng
attribute [local irreducible] V VO VQ VY Quiet QR jC kT Rng mU mV mI
def uT(c:gI→(List gY)→gJ→gB→gB→Int→Option (gJ))(a0:gI)(a1:List gY)(a5:Int)(x5:gB):List gB→Nat→Int→Int→Int→(List gG)→(List jB)→(List jN)→Int→Int→Option (gJ)
 | [],h,y,aa,ab,ac,ad,ae,ag,ah=>(some (gJ.mk y aa ab ac ad ae ag ah))
 | ai::xs,h,y,aa,ab,ac,ad,ae,ag,ah=>bnd (at? x5.args (h:Int)) fun aj=>
bnd (c a0 a1 (gJ.mk y aa ab ac ad ae ag ah) ai aj (IntKind.i64.wrap (a5 - 1))) fun f=>
uT c a0 a1 a5 x5 xs (h+1) f.next f.count f.node f.bindings f.equations f.obligations f.code f.at_
def gDi(c:gI→(List gY)→gJ→gB→gB→Int→Option (gJ))(a0:gI)(a1:List gY)(a2:gJ)(a3:gB)(a4:gB)(a5:Int):Option (gJ):=
(cnd (a2.code != 0) (
(some a2)) (
gd (bok (a2:gJ).bindings∧tok a3) (lt_ (zkF a2 a3) fun h=>
gd (bok (a2:gJ).bindings∧tok a4) (lt_ (zkF a2 a4) fun f=>
(cnd (teq h f) (
(some a2)) (
lt_ ((cnd (decide (a5≤0)) (true) ((decide ((IntKind.i64.wrap ((tsz h)+(tsz f))) > 2000))))) fun b7=>
(cnd b7 (
lt_ (pO a2 6) fun ad=>
(some ad)) (
bnd (gF2 h) fun ae=>
(cnd ae (
bnd (gFo a2 h.name f) fun ag=>
(some ag)) (
bnd (gF2 f) fun ah=>
(cnd ah (
bnd (gFo a2 f.name h) fun ai=>
(some ai)) (
bnd (uA a0 a1 h) fun y=>
(cnd (!y.2.2) (
lt_ (pO a2 7) fun aj=>
(some aj)) (
(cnd y.2.1 (
bnd (c a0 a1 a2 y.1 f (IntKind.i64.wrap (a5 - 1))) fun ak=>
(some ak)) (
bnd (uA a0 a1 f) fun aa=>
(cnd (!aa.2.2) (
lt_ (pO a2 7) fun al=>
(some al)) (
(cnd aa.2.1 (
bnd (c a0 a1 a2 h aa.1 (IntKind.i64.wrap (a5 - 1))) fun am=>
(some am)) (
lt_ ((cnd (h.kind==3) ((cnd (gJp h) (true) ((cnd (f.kind==3) ((gJp f)) (false))))) ((cnd (f.kind==3) ((gJp f)) (false))))) fun an=>
(cnd an (
gd (([]:List jB).length+a2.equations.length≤4294967296) (
gd (([]++a2.equations).length+[(jB.mk h f a2.node)].length≤4294967296) (
(some (gJ.mk a2.next a2.count a2.node a2.bindings (([]++a2.equations)++[(jB.mk h f a2.node)]) a2.obligations a2.code a2.at_))))) (
lt_ ((cnd (h.kind != f.kind) (true) ((cnd (!(h.name==f.name)) (true) ((cnd ((h.args.length:Int) !=(f.args.length:Int)) (true) ((h.kind==3)))))))) fun ao=>
(cnd ao (
lt_ (pO a2 1) fun ap=>
(some ap)) (
uT c a0 a1 a5 f h.args 0 a2.next a2.count a2.node a2.bindings a2.equations a2.obligations a2.code a2.at_))))))))))))))))))))))))
theorem hAc{y:gI→(List gY)→gJ→gB→gB→Int→Option (gJ)}(c:∀(x0:gI) (x1:List gY) (x2:gJ) (x3:gB) (x4:gB) (x5:Int) {r:gJ},y x0 x1 x2 x3 x4 x5=some r→jC Tryz.prog 26 [.d (kR x0),.L 4 (kV x1),.d (mD x2),.d (jS x3),.d (jS x4),.I x5] [mD r])(a0:gI)(a1:List gY)(a2:gJ)(a3:gB)(a4:gB)(a5:Int){r:gJ}(h:gDi y a0 a1 a2 a3 a4 a5=some r):jC Tryz.prog 26 [.d (kR a0),.L 4 (kV a1),.d (mD a2),.d (jS a3),.d (jS a4),.I a5] [mD r]:=by
 obtain⟨ax⟩:=a0;obtain⟨ah,ai,f,aj,ak,al,am,an⟩:=a2;obtain⟨b3,b4,b5⟩:=a3;obtain⟨b6,b8,b9⟩:=a4;unfold gDi at h;refine SpI Tryz.func26 fun A _=>?_;refine goC h ?_ ?_<;>intro c1 h
 ·exact goR h
 ·refine goS ?_;obtain⟨g2,h⟩:=mW h;obtain⟨⟨ae,ag,aa⟩,cr,h⟩:=qB h;have sx3:=hD8 (gJ.mk ah ai f aj ak al am an) (gB.mk b3 b4 b5) g2;rw [cr] at sx3;refine jL (gF (sx3)) ?_;obtain⟨g4,h⟩:=mW h;obtain⟨⟨ab,ac,ad⟩,cs,h⟩:=qB h;have sx5:=hD8 (gJ.mk ah ai f aj ak al am an) (gB.mk b6 b8 b9) g4;rw [cs] at sx5;refine jL (gF (sx5)) ?_;refine jW (jE ?_);refine goL ?_;refine jL (gF (gF0 (gB.mk ae ag aa) (gB.mk ab ac ad))) ?_;refine kX (fun c6=>?_) (fun c6=>?_)
  ·replace h:=kD c6 h;exact goR h
  ·replace h:=kE c6 h;obtain⟨b7,hb7,h⟩:=qB h;refine uJ (P:=Tryz.prog) Mix.h ⟨[(1,.L 4 (kV a1)),(5,.I a5),(6,.ptr 0 0),(8,.ptr 1 0),(9,.ptr 2 0),(10,.ptr 3 0),(12,.ptr 4 0),(35,.B b7)],[bPr ax,bSt ah ai f aj ak al am an,bTy ae ag aa,bTy ab ac ad,.box [.I 0,.I 0,.I 0,.nilsl,.nilsl,.nilsl,.I 0,.I 0]],Tryz.f26.ntmps⟩ (by kernel_rfl) ?_ ?_
   ·refine goL ?_;refine yQ 38 (fun c8=>?_) (fun c8=>?_)
    ·replace hb7:=kD c8 hb7;refine goL ?_;cases hb7;exact eJ
    ·replace hb7:=kE c8 hb7;refine goL ?_;refine gDf (gF (gKh (gB.mk ae ag aa))) ?_;refine goL ?_;refine gDf (gF (gKh (gB.mk ab ac ad))) ?_;refine gDf (pR) ?_;refine goL ?_;cases hb7;exact eJ
   refine goC h ?_ ?_<;>intro c9 h
   ·refine goL ?_;obtain⟨⟨cv,cw,cx,cy,cz,c0,c2,c3⟩,ca,h⟩:=qB h;have sx10:=gLs (gJ.mk ah ai f aj ak al am an) 6;rw [ca] at sx10;refine qI (gF (sx10)) ?_;exact goR h
   ·refine goL ?_;obtain⟨fh,cb,h⟩:=gP h;refine jL (gF (gOt _ cb)) ?_;refine kX (fun bg=>?_) (fun bg=>?_)
    ·replace h:=kD bg h;refine goL ?_;obtain⟨⟨c4,c5,c7,da,db,dc,dd,de⟩,cc,h⟩:=gP h;refine qI (gF (gXp _ _ _ cc)) ?_;exact goR h
    ·replace h:=kE bg h;refine goL ?_;obtain⟨fi,cd,h⟩:=gP h;refine jL (gF (gOt _ cd)) ?_;refine kX (fun bh=>?_) (fun bh=>?_)
     ·replace h:=kD bh h;refine goL ?_;obtain⟨⟨df,dg,dh,di,dj,dk,dl,dm⟩,ce,h⟩:=gP h;refine qI (gF (gXp _ _ _ ce)) ?_;exact goR h
     ·replace h:=kE bh h;refine goS ?_;obtain⟨⟨⟨ao,ap,aq⟩,dn,dp⟩,cf,h⟩:=gP h;refine jL (gF (gPr _ _ _ cf)) ?_;refine kX (fun bi=>?_) (fun bi=>?_)
      ·replace h:=kD bi h;refine goL ?_;obtain⟨⟨dq,dr,ds,dt,du,dv,dw,dx⟩,cg,h⟩:=qB h;have sx19:=gLs (gJ.mk ah ai f aj ak al am an) 7;rw [cg] at sx19;refine qI (gF (sx19)) ?_;exact goR h
      ·replace h:=kE bi h;refine goS ?_;refine kX (fun bj=>?_) (fun bj=>?_)
       ·replace h:=kD bj h;refine goL ?_;refine qI (pR) ?_;obtain⟨⟨dy,dz,d0,d1,d2,d3,d4,d5⟩,ch,h⟩:=gP h;refine qI (gF (c _ _ _ _ _ _ ch)) ?_;exact goR h
       ·replace h:=kE bj h;refine goS ?_;obtain⟨⟨⟨ar,au,av⟩,d6,d7⟩,ci,h⟩:=gP h;refine jL (gF (gPr _ _ _ ci)) ?_;refine kX (fun bk=>?_) (fun bk=>?_)
        ·replace h:=kD bk h;refine goL ?_;obtain⟨⟨d8,d9,ea,eb,ec,ed,ee,ef⟩,cj,h⟩:=qB h;have sx24:=gLs (gJ.mk ah ai f aj ak al am an) 7;rw [cj] at sx24;refine qI (gF (sx24)) ?_;exact goR h
        ·replace h:=kE bk h;refine goS ?_;refine kX (fun bl=>?_) (fun bl=>?_)
         ·replace h:=kD bl h;refine goL ?_;refine qI (pR) ?_;obtain⟨⟨eg,eh,ei,ej,ek,el,em,en⟩,ck,h⟩:=gP h;refine qI (gF (c _ _ _ _ _ _ ck)) ?_;exact goR h
         ·replace h:=kE bl h;refine goS ?_;obtain⟨eo,hb27,h⟩:=qB h;refine jT ⟨[(1,.L 4 (kV a1)),(5,.I a5),(6,.ptr 0 0),(8,.ptr 1 0),(9,.ptr 2 0),(10,.ptr 3 0),(12,.ptr 4 0),(121,.B eo)],[bPr ax,bSt ah ai f aj ak al am an,bTy ae ag aa,bTy ab ac ad,.box [.I 0,.I 0,.I 0,.nilsl,.nilsl,.nilsl,.I 0,.I 0],bTy ao ap aq,bTy ar au av],Tryz.f26.ntmps⟩ ?_ ?_
          ·refine gqV 109 hb27 ?_ ?_<;>intro fj hb27
           ·refine jL (gF (hBq (gB.mk ae ag aa))) ?_;refine gqO 113 hb27 (fun fk hb27=>?_);refine gqA 117 hb27 (fun fl hb27=>?_);refine jL (gF (hBq (gB.mk ab ac ad))) ?_;cases hb27;exact eJ
           ·refine gqA 117 hb27 (fun fm hb27=>?_);refine jL (gF (hBq (gB.mk ab ac ad))) ?_;cases hb27;exact eJ
          refine goC h ?_ ?_<;>intro fn h
          ·obtain⟨bm,h⟩:=mW h;obtain⟨bn,h⟩:=mW h;refine qH (P:=Tryz.prog) Mix.h (.q 1 (.q 2 (.q 4 (.q 5 (.q 6 (.q 7 (.q 8 (.h 0 (.h 3 (.h 9 (.h 10 (.q 11 (.h 12 .nil .nil)) .nil) .nil) (.h 9 (.h 3 (.h 10 (.q 11 (.h 12 .nil .nil)) .nil) .nil) .nil)) (.h 9 (.h 0 (.h 3 (.h 10 (.q 11 (.h 12 .nil .nil)) .nil) .nil) .nil) .nil))))))))) ⟨[(8,.ptr 1 0),(12,.ptr 4 0)],[bPr ax,.box [.I ah,.I ai,.I f,.L 4 (gN aj),.sl 7 ((0+1)+1),.L 5 (gT al),.I am,.I an],bTy ae ag aa,bTy ab ac ad,.box [.I 0,.I 0,.I 0,.nilsl,.nilsl,.nilsl,.I 0,.I 0],bTy ao ap aq,bTy ar au av,.arr 79 7 ((0+1)+1) (gW (([]++ak)++[(jB.mk (gB.mk ae ag aa) (gB.mk ab ac ad) f)])),.arr 79 7 0 (gW [(jB.mk (gB.mk ae ag aa) (gB.mk ab ac ad) f)])],Tryz.f26.ntmps⟩ (by kernel_rfl) ?_ ?_
           ·refine goT ?_;refine vW (hCw jX) ?_ ?_
            ·refine vW (pV (T:=29) bm jX) ?_ ?_
             ·refine jV (qE (T:=29) (us:=gW [(jB.mk (gB.mk ae ag aa) (gB.mk ab ac ad) f)]) jX) ?_;refine jV (pV (T:=29) bn jX) ?_;refine goT ?_;refine jY ?_;exact uK 0 [0,1,2,3,4,5,6,7,8]
             refine jV (qE (T:=29) (us:=gW [(jB.mk (gB.mk ae ag aa) (gB.mk ab ac ad) f)]) jX) ?_;refine jV (pV (T:=29) bm jX) ?_;refine jV (pV (T:=29) bn jX) ?_;refine goT ?_;refine jY ?_;exact uK 0 [0,1,2,3,4,5,6,7,8]
            refine jV (qE (T:=29) (us:=gW [(jB.mk (gB.mk ae ag aa) (gB.mk ab ac ad) f)]) jX) ?_;refine jV (hCw jX) ?_;refine jV (pV (T:=29) bm jX) ?_;refine jV (pV (T:=29) bn jX) ?_;refine goT ?_;refine jY ?_;exact uK 0 [0,1,2,3,4,5,6,8,7]
           refine goL ?_;refine kN 7 rfl rfl ?_;refine jK ?_;cases h;exact qA
          ·refine goS ?_;obtain⟨ep,hb35,h⟩:=qB h;refine jT ⟨[(1,.L 4 (kV a1)),(5,.I a5),(6,.ptr 0 0),(8,.ptr 1 0),(9,.ptr 2 0),(10,.ptr 3 0),(12,.ptr 4 0),(160,.B ep)],[bPr ax,bSt ah ai f aj ak al am an,bTy ae ag aa,bTy ab ac ad,.box [.I 0,.I 0,.I 0,.nilsl,.nilsl,.nilsl,.I 0,.I 0],bTy ao ap aq,bTy ar au av],Tryz.f26.ntmps⟩ ?_ ?_
           ·refine pX 140 (fun bo=>?_) (fun bo=>?_) (by first | rfl | (simp only [jG,gV];rfl))
            ·replace hb35:=kD bo hb35;refine goL ?_;cases hb35;exact⟨rfl,⟨⟨rfl,rfl⟩,⟨rfl,rfl⟩,⟨rfl,rfl⟩,⟨rfl,rfl⟩,⟨rfl,rfl⟩,⟨rfl,rfl⟩,⟨rfl,rfl⟩,⟨by first | rfl | (simp only [jG,gV];rfl),rfl⟩,trivial⟩,⟨_,rfl⟩,rfl⟩
            ·replace hb35:=kE bo hb35;refine goL ?_;refine pX 147 (fun bp=>?_) (fun bp=>?_) (by first | rfl | (simp only [jG,gV];rfl))
             ·replace hb35:=kD bp hb35;refine goL ?_;cases hb35;exact⟨rfl,⟨⟨rfl,rfl⟩,⟨rfl,rfl⟩,⟨rfl,rfl⟩,⟨rfl,rfl⟩,⟨rfl,rfl⟩,⟨rfl,rfl⟩,⟨rfl,rfl⟩,⟨by first | rfl | (simp only [jG,gV];rfl),rfl⟩,trivial⟩,⟨_,rfl⟩,rfl⟩
             ·replace hb35:=kE bp hb35;refine goL ?_;refine pX 156 (fun bq=>?_) (fun bq=>?_) (by first | rfl | (simp only [jG,gV];rfl))
              ·replace hb35:=kD bq hb35;refine goL ?_;cases hb35;exact⟨rfl,⟨⟨rfl,rfl⟩,⟨rfl,rfl⟩,⟨rfl,rfl⟩,⟨rfl,rfl⟩,⟨rfl,rfl⟩,⟨rfl,rfl⟩,⟨rfl,rfl⟩,⟨by first | rfl | (simp only [jG,gV];rfl),rfl⟩,trivial⟩,⟨_,rfl⟩,rfl⟩
              ·replace hb35:=kE bq hb35;refine goL ?_;cases hb35;exact⟨rfl,⟨⟨rfl,rfl⟩,⟨rfl,rfl⟩,⟨rfl,rfl⟩,⟨rfl,rfl⟩,⟨rfl,rfl⟩,⟨rfl,rfl⟩,⟨rfl,rfl⟩,⟨by first | rfl | (simp only [jG,gV];rfl),rfl⟩,trivial⟩,⟨_,rfl⟩,rfl⟩
           refine goC h ?_ ?_<;>intro fo h
           ·refine goL ?_;obtain⟨⟨er,et,eu,ev,ew,ex,ey,ez⟩,cl,h⟩:=qB h;have sx40:=gLs (gJ.mk ah ai f aj ak al am an) 1;rw [cl] at sx40;refine qI (gF (sx40)) ?_;exact goR h
           ·refine goS ?_;refine noB ?_;refine wN 2 2 (fun fp=>?_);refine gWb (fun(aw:Nat) (a6:Int) (a7:Int) (a8:Int) (a9:List gG) (ba:List jB) (bb:List jN) (bc:Int) (bd:Int)=>⟨[(1,.L 4 (kV a1)),(5,.I a5),(6,.ptr 0 0),(8,.ptr 1 0),(9,.ptr 2 0),(10,.ptr 3 0),(12,.ptr 4 0),(19,.N aw)],[bPr ax,bSt a6 a7 a8 a9 ba bb bc bd,bTy ae ag aa,bTy ab ac ad,.box [.I 0,.I 0,.I 0,.nilsl,.nilsl,.nilsl,.I 0,.I 0],bTy ao ap aq,bTy ar au av],Tryz.f26.ntmps⟩) (fun aw a6 a7 a8 a9 ba bb bc bd=>uT y (gI.mk ax) a1 a5 (gB.mk ab ac ad) (aa.drop aw) aw a6 a7 a8 a9 ba bb bc bd=some r) (fun aw a6 a7 a8 a9 ba bb bc bd=>aa.length - aw) 0 ah ai f aj ak al am an eJ h ?_;rintro aw a6 a7 a8 a9 ba bb bc bd h;refine goL ?_;refine kX (fun br=>?_) (fun br=>?_)
            ·have ay:=uR br;obtain⟨e0,cm,bt⟩:=drop_at ay;rw [bt,uT.eq_2] at h;obtain⟨e1,e2,e3⟩:=e0;refine noS ?_;refine jW (jE ?_);refine uF (P:=Tryz.prog) Mix.h [(0,true),(1,true),(2,true),(3,true),(4,true),(5,true),(6,true),(7,true),(8,true),(9,true),(10,true),(11,true),(12,true),(13,true),(14,true),(15,true),(16,false)] (by kernel_rfl) ?_;refine goY ?_;refine jI rfl (jM aw (zL cm)) ?_;refine goY ?_;obtain⟨e4,be,h⟩:=gP h;rw [yZ] at be;obtain⟨e5,e6,e7⟩:=e4;refine jI rfl (jM aw (zL be)) ?_;refine goY ?_;refine jI rfl (pR) ?_;obtain⟨⟨bu,bv,bw,bx,bz,b0,b1,b2⟩,cn,h⟩:=gP h;refine jI rfl (gF (c _ _ _ _ _ _ cn)) ?_;refine goY ?_;refine kQ ?_;refine goL ?_;refine jL (jR aw (by omega)) ?_;exact⟨(aw+1),bu,bv,bw,bx,bz,b0,b1,b2,h,by omega,eJ⟩
            ·have ay:=uS br;rw [jF ay,uT.eq_1] at h;refine goX ?_;refine jK ?_;cases h;exact qA
def pG:Nat→gI→(List gY)→gJ→gB→gB→Int→Option (gJ)
 | 0,_,_,_,_,_,_=>none
 | n+1,c,f,h,y,x4,x5=>gDi (pG n) c f h y x4 x5
theorem gSv:∀(n:Nat) (c:gI) (f:List gY) (y:gJ) (x3:gB) (x4:gB) (x5:Int) {r:gJ},pG n c f y x3 x4 x5=some r→jC Tryz.prog 26 [.d (kR c),.L 4 (kV f),.d (mD y),.d (jS x3),.d (jS x4),.I x5] [mD r]:=by
 intro n
 induction n with
 | zero=>intro c f y x3 x4 x5 r h;cases h
 | succ n ih=>intro c f y x3 x4 x5 r h;exact hAc ih c f y x3 x4 x5 h
def zM(c:qV):List qJ→(List (List UInt8))→Option (Bool)
 | [],f=>lt_ ((cnd c.auto ((cnd c.assoc (true) ((cnd (decide ((c.signatures.length:Int) > 0)) (true) ((decide ((c.supertraits.length:Int) > 0))))))) (false))) fun h=>
(cnd h (
(some false)) (
bnd ((cnd (mF c.name) (bnd (yG c.supertraits 4) fun y=>
(cnd y (bnd (yG f 6) fun aa=>
(some aa)) ((some false)))) ((some false)))) fun ab=>
(some ab)))
 | x6::xs,f=>bnd (gVc x6) fun x7=>
(cnd (!x7) (
(some false)) (
gd (f.length+[x6.name].length≤4294967296) (
zM c xs (f++[x6.name]))))
def gEg(c:qV):Option (Bool):=
zM c c.signatures []
theorem gLq(a0:qV){r:Bool}(h:gEg a0=some r):jC Tryz.prog 177 [.d (gMu a0)] [.b r]:=by
 obtain⟨f,aa,ab,ac,c⟩:=a0;unfold gEg at h;refine SpI Tryz.func177 fun A _=>?_;refine goL ?_;refine gF9 ?_;refine goL ?_;refine noB ?_;refine wN 0 4 (fun z4=>?_);refine kS (fun(y3:Nat) (y1:List (List UInt8)) (v2:Nat)=>⟨[(1,.ptr 0 0),(3,.sl 1 v2),(4,.N y3)],[bTr f aa ab ac c,.own 9 1 v2 (jP y1)],Tryz.f177.ntmps⟩) (fun y3 y1 v2=>zM (qV.mk f aa ab ac c) (c.drop y3) y1=some r) (fun y3 y1 v2=>c.length - y3) 0 [] 0 eJ h ?_;rintro y3 y1 v2 h;refine goL ?_;refine kX (fun c5=>?_) (fun c5=>?_)
 ·have y:=uR c5;obtain⟨x6,al,am⟩:=drop_at y;rw [am,zM.eq_2] at h;obtain⟨ah,ba,⟨ap,aq,ar⟩,bb,bc,⟨au,av,aw,ax,⟨ai,aj,ak⟩,ay,a3⟩⟩:=x6;refine noS ?_;refine jW (jE ?_);refine goL ?_;refine jL (jM y3 (gPh al)) ?_;obtain⟨x7,a6,h⟩:=gP h;refine jL (gF (hLp _ a6)) ?_;refine kX (fun c8=>?_) (fun c8=>?_)
  ·replace h:=kD c8 h;exact goR h
  ·replace h:=kE c8 h;refine goS ?_;refine jL (jM y3 (gPh al)) ?_;refine gBc ah ?_;obtain⟨g9,h⟩:=mW h;refine gH3 g9 ?_;refine goL ?_;refine jL (jR y3 (by omega)) ?_;exact⟨(y3+1),(y1++[ah]),(v2+1),h,by omega,eJ⟩
 ·have y:=uS c5;rw [jF y,zM.eq_1] at h;refine goX ?_;obtain⟨a8,hb10,h⟩:=qB h;refine jT ⟨[(1,.ptr 0 0),(3,.sl 1 v2),(46,.B a8)],[bTr f aa ab ac c,.own 9 1 v2 (jP y1)],Tryz.f177.ntmps⟩ ?_ ?_
  ·refine gqA 31 hb10 (fun bf hb10=>?_);refine gqO 34 hb10 (fun bg hb10=>?_);exact gqZ 40 hb10
  refine goC h ?_ ?_<;>intro bh h
  ·exact goR h
  ·refine goS ?_;refine jL (gF (qD f)) ?_;obtain⟨a9,hb15,h⟩:=gP h;refine jT ⟨[(2,.B a9)],[bTr f aa ab ac c,.own 9 1 v2 (jP y1)],Tryz.f177.ntmps⟩ ?_ ?_
   ·refine gqA 50 hb15 (fun bi hb15=>?_);obtain⟨bj,an,hb15⟩:=gP hb15;refine jL (gF (gAb _ _ an)) ?_;refine gqA 55 hb15 (fun bk hb15=>?_);obtain⟨bl,ao,hb15⟩:=gP hb15;refine gBn (gW2 (gAb y1 6 ao)) ?_;cases hb15;exact eJ
   exact goR h
def vX(a0:gD)(x1:gD)(x3:List (List UInt8)):List gD→(List pU)→Option (mJ × Bool)
 | [],c=>bnd (bnd (qK a0) fun ad=>
(cnd (!ad) ((some true)) ((cnd ((a0.list.length:Int)==0) ((some true)) (bnd (gD0 (mJ.mk x1.atom x3 c)) fun ae=>
bnd (gCl 5000 ae a0) fun ag=>
(some (!ag))))))) fun ah=>
(cnd ah (
(some ((mJ.mk [] [] []),false))) (
(some ((mJ.mk x1.atom x3 c),true))))
 | f::xs,c=>bnd (qL f 0) fun h=>
bnd (gI7 f 1) fun ai=>
bnd (gQk ai) fun y=>
gd (c.length+[(pU.mk h.atom y)].length≤4294967296) (
vX a0 x1 x3 xs (c++[(pU.mk h.atom y)]))
def gEh(c:gD):Option (mJ × Bool):=
bnd (qL c 1) fun f=>
bnd (qL c 2) fun h=>
bnd (gCn h) fun y=>
bnd (gI7 c 3) fun x4=>
vX c f y x4 []
theorem gOd(a0:gD){r:mJ × Bool}(h:gEh a0=some r):jC Tryz.prog 133 [.d (pF a0)] [gFr r.1,.b r.2]:=by
 obtain⟨y,aa⟩:=a0;unfold gEh at h;refine SpI Tryz.func133 fun A _=>?_;refine gH2 ?_;refine jO (P:=Tryz.prog) Mix.h [(0,true),(1,true),(2,true),(3,true),(4,true),(5,true),(6,true),(7,false),(8,false)] (by kernel_rfl) ?_;refine goY ?_;obtain⟨⟨f,ak⟩,aw,h⟩:=gP h;refine jI rfl (gF (qY _ _ aw)) ?_;refine jI rfl (gIi) ?_;refine goY ?_;obtain⟨⟨be,bf⟩,ax,h⟩:=gP h;refine jI rfl (gF (qY _ _ ax)) ?_;obtain⟨x3,ay,h⟩:=gP h;refine jI rfl (gF (gEr _ ay)) ?_;refine goY ?_;refine kQ ?_;refine goL ?_;obtain⟨x4,a4,h⟩:=gP h;refine jL (gF (gNy _ _ a4)) ?_;refine noB ?_;refine wT 221 2 2 2 rfl rfl (by repeat constructor) (by repeat constructor) (by repeat constructor) (by repeat constructor) ?_;show V _ _ _ _ _;refine gBx 5 (fun z8=>?_);refine kS (fun(y7:Nat) (y5:List pU) (v6:Nat)=>⟨[(1,.ptr 0 0),(2,.ptr 1 0),(4,.ptr 2 0),(5,.L 2 (jA x4)),(6,.N y7)],[bSx y aa,.box [.S [],.nilsl,.nilsl],.box [.S f,.L 1 (jP x3),.sl 3 v6],.arr 221 2 v6 (wR y5)],Tryz.f133.ntmps⟩) (fun y7 y5 v6=>vX (gD.mk y aa) (gD.mk f ak) x3 (x4.drop y7) y5=some r) (fun y7 y5 v6=>x4.length - y7) 0 [] 0 eJ h ?_;rintro y7 y5 v6 h;refine goL ?_;refine kX (fun c9=>?_) (fun c9=>?_)
 ·have c:=uR c9;obtain⟨a6,ag,ah⟩:=drop_at c;rw [ah,vX.eq_2] at h;obtain⟨a7,a8⟩:=a6;refine noS ?_;refine jW (jE ?_);refine uF (P:=Tryz.prog) Mix.h [(0,true),(1,true),(2,true),(3,true),(4,true),(5,true),(6,true),(7,true),(8,true),(9,true),(10,true),(11,true),(12,true),(13,true),(14,true),(15,false),(16,false),(17,true),(18,false)] (by kernel_rfl) ?_;refine goY ?_;refine jI rfl (jM y7 (uG ag)) ?_;refine goY ?_;obtain⟨⟨ab,a9⟩,al,h⟩:=gP h;refine jI rfl (gF (qY _ _ al)) ?_;refine jI rfl (gIi) ?_;refine goY ?_;refine jI rfl (jM y7 (uG ag)) ?_;refine goY ?_;obtain⟨bg,am,h⟩:=gP h;refine jI rfl (gF (gNy _ _ am)) ?_;obtain⟨an,ao,h⟩:=gP h;refine jI rfl (gF (hCa _ ao)) ?_;refine goY ?_;refine qE (T:=193) (us:=wR [(pU.mk ab an)]) ?_;obtain⟨ba,h⟩:=mW h;refine pV (T:=193) ba ?_;refine goY ?_;refine kQ ?_;refine goL ?_;refine jL (jR y7 (by omega)) ?_;exact⟨(y7+1),(y5++[(pU.mk ab an)]),(v6+1),h,by omega,eJ⟩
 ·have c:=uS c9;rw [jF c,vX.eq_1] at h;refine noX ?_;refine gH2 ?_;refine kN 3 rfl rfl ?_;obtain⟨bb,hb15,h⟩:=gP h;refine uJ (P:=Tryz.prog) Mix.h ⟨[(2,.ptr 1 0),(4,.ptr 2 0),(55,.B bb)],[bSx y aa,.box [.S [],.nilsl,.nilsl],.box [.S f,.L 1 (jP x3),.sl 3 v6],.frz 221 2 v6 (wR y5)],Tryz.f133.ntmps⟩ (by kernel_rfl) ?_ ?_
  ·refine goL ?_;obtain⟨bh,ap,hb15⟩:=gP hb15;refine gE7 (gF (yL _ ap)) ?_;refine goL ?_;refine yQ 43 (fun ai=>?_) (fun ai=>?_)
   ·replace hb15:=kD ai hb15;refine goL ?_;cases hb15;exact eJ
   ·replace hb15:=kE ai hb15;refine goL ?_;refine yQ 49 (fun aj=>?_) (fun aj=>?_)
    ·replace hb15:=kD aj hb15;refine goL ?_;cases hb15;exact eJ
    ·replace hb15:=kE aj hb15;refine goL ?_;obtain⟨⟨bc,bd⟩,aq,hb15⟩:=gP hb15;refine hM6 (hHy (gNq (mJ.mk f x3 y5) aq)) ?_;refine goL ?_;obtain⟨bi,ar,hb15⟩:=gP hb15;refine gDf (gF (gGg _ _ _ ar)) ?_;refine goL ?_;cases hb15;exact eJ
  refine goC h ?_ ?_<;>intro bj h
  ·refine goL ?_;refine gAq (jU TBd.h TZ.h rfl (by repeat constructor)) ?_;exact goR h
  ·refine goS ?_;refine jK ?_;cases h;exact qA
mutual
def pj:gB→Nat
 | ⟨k,n,ts⟩=>(cnd ((k==3) && gGc isInf ts) 1 0)+pjs ts
def pjs:List gB→Nat
 | []=>0
 | a::ts=>pj a+pjs ts
end
mutual
theorem hRi:∀(t:gB),pj t≤tnd t
 | ⟨k,n,ts⟩=>by
   simp only [pj,tnd]
   have:=hPi ts
   cases (k==3) && gGc isInf ts<;>simp only [gZ,gK]<;>omega
theorem hPi:∀(ts:List gB),pjs ts≤gA6 ts
 | []=>by simp [pjs,gA6]
 | a::ts=>by simp only [pjs,gA6];have:=hRi a;have:=hPi ts;omega
end
mutual
theorem hRm:∀(t:gB),gJp t=false→pj t=0
 | ⟨k,n,ts⟩,h=>by
   have h':(((k==1) && isInf n) || gGc isInf ts)=false:=h;simp only [Bool.or_eq_false_iff] at h';simp only [pj,h'.2,Bool.and_false,gK,hPj ts h'.2]
theorem hPj:∀(ts:List gB),gGc isInf ts=false→pjs ts=0
 | [],_=>rfl
 | a::ts,h=>by
   simp only [gGc,Bool.or_eq_false_iff] at h;simp only [pjs,hRm a h.1,hPj ts h.2]
end
theorem hJb{t:gB}(c:t.kind=3)(h:gJp t=true):1≤pj t:=by
 obtain⟨k,n,ts⟩:=t;simp only at c;subst c;have h':((((3:Int)==1) && isInf n) || gGc isInf ts)=true:=h;have f:gGc isInf ts=true:=by simpa using h'
 simp only [pj,f]
 have:(((3:Int)==3) && true)=true:=by decide
 rw [this,gZ];omega
structure Inv (V:List (List UInt8)) (s:gJ):Prop where
 tri:Tri s.bindings
 inf:jCj s.bindings
 dt:∀b∈s.bindings,DT V b.type_∧tnd b.type_≤2000∧b.var_∈V
 obl:s.obligations=[]∧s.next=4
 eqs:∀q∈s.equations,(DT V q.a∧tnd q.a≤2000)∧DT V q.b∧tnd q.b≤2000
theorem pig{α:Type} [BEq α] [LawfulBEq α]:∀(l V:List α),l.Pairwise (fun a b=>a≠b)→(∀x∈l,x∈V)→l.length≤V.length
 | [],_,_,_=>Nat.zero_le _
 | x::l,V,h,hV=>by
   obtain⟨c,f⟩:=List.pairwise_cons.1 h;have hx:x∈V:=hV x (by simp)
   have:=pig l (V.erase x) f (fun y hy=>(List.mem_erase_of_ne (Ne.symm (c y hy))).2 (hV y (by simp [hy])))
   rw [List.length_erase_of_mem hx] at this;have hp:=List.length_pos_of_mem hx;simp only [List.length_cons];omega
theorem hU4{l:List gG}(h:Tri l):(dom l).Pairwise (fun a b=>a≠b):=by
 rw [List.pairwise_iff_getElem];intro i j hi hj hij hne;unfold dom at hi hj hne;simp only [List.length_map] at hi hj;simp only [List.getElem_map] at hne;refine(h j l[j] (List.getElem?_eq_getElem hj)).1 ?_;unfold dom;rw [←hne];refine List.mem_map.2 ⟨l[i],?_,rfl⟩
 have:(l.take j)[i]? =some l[i]:=by rw [List.getElem?_take,if_pos hij,List.getElem?_eq_getElem]
 exact List.mem_of_getElem? this
theorem Inv.len{V:List (List UInt8)}{s:gJ}(h:Inv V s):s.bindings.length≤V.length:=by
 have:=pig (dom s.bindings) V (hU4 h.tri) (fun v hv=>by
  obtain⟨b,c,rfl⟩:=List.mem_map.1 hv
  exact(h.dt b c).2.2)
 simpa [dom] using this
theorem Inv.bok{V:List (List UInt8)}{s:gJ}(h:Inv V s):bok s.bindings:=fun b hb=>(h.dt b hb).1.1.1
theorem Inv.hDp{V:List (List UInt8)}{s:gJ}(h:Inv V s):hDp 2000 s.bindings:=⟨by omega,fun b hb=>(h.dt b hb).2.1⟩
theorem Inv.fail{V:List (List UInt8)}{s:gJ}(h:Inv V s)(c:Int):Inv V (pO s c):=by
 unfold pO;cases s.code==0 with
 | true=>exact⟨h.tri,h.inf,h.dt,h.obl,h.eqs⟩
 | false=>exact h
theorem wE(s:gJ)(c:Int):(pO s c).bindings=s.bindings∧(pO s c).equations=s.equations:=by
 unfold pO;cases s.code==0<;>exact⟨rfl,rfl⟩
theorem hNh{l:List gG}(h:Tri l){v:List UInt8}{t:gB}(hv:v∉dom l)(ht:∀u∈tvs t,u∉dom l)(ho:v∉tvs t):Tri (l++[⟨v,t⟩]):=by
 intro i b hb;rcases Nat.lt_or_ge i l.length with hi | hi
 ·rw [List.getElem?_append_left hi] at hb;rw [List.take_append_of_le_length (by omega),List.take_append_of_le_length (by omega)];exact h i b hb
 ·rw [List.getElem?_append_right hi] at hb;have c:i - l.length=0:=by
   rcases Nat.eq_zero_or_pos (i - l.length)with c | c
   ·exact c
   ·rw [List.getElem?_eq_none (by simp;omega)] at hb;cases hb
  rw [c] at hb;simp only [List.getElem?_cons_zero,Option.some.injEq] at hb;subst hb;obtain rfl:i=l.length:=by omega
  rw [List.take_append_of_le_length (Nat.le_refl _),List.take_of_length_le (by omega),List.take_of_length_le (by simp)];refine⟨hv,fun u hu hd=>?_⟩;simp only [dom,List.map_append,List.mem_append,List.map_cons,List.map_nil,List.mem_singleton] at hd;rcases hd with hd | hd
  ·exact ht u hu hd
  ·subst hd;exact ho hu
def KQ:Nat:=4000
theorem hNi:KQ=4000:=rfl
attribute [local irreducible] KQ
structure Grow (d:Nat) (s s':gJ) (p:Nat):Prop where
 ext:∃l,s'.bindings=s.bindings++l
 le:s'.equations.length≤s.equations.length+2000+KQ*d*(s'.bindings.length - s.bindings.length)
 ze:s'.bindings.length=s.bindings.length→s'.equations.length≤s.equations.length+p
theorem Grow.same{d p:Nat}{s s':gJ}(f:s'.bindings=s.bindings)(c:s'.equations=s.equations):Grow d s s' p:=⟨⟨[],by rw [f,List.append_nil]⟩,by rw [c];omega,fun _=>by rw [c];omega⟩
theorem Grow.up{d d' p p':Nat}{s s':gJ}(h:Grow d s s' p)(hd:d≤d')(hp:p≤p'):Grow d' s s' p':=⟨h.ext,by
 have:=h.le
 have c:KQ*d*(s'.bindings.length - s.bindings.length)≤KQ*d'*(s'.bindings.length - s.bindings.length):=Nat.mul_le_mul_right _ (Nat.mul_le_mul_left _ hd)
 omega,fun hz=>by have:=h.ze hz;omega⟩
theorem bind_ok{V:List (List UInt8)}{s:gJ}(h:Inv V s)(hV:V.length≤5){v:List UInt8}{t:gB}(hv:v∉dom s.bindings)(hvV:v∈V)(hi:isInf v=true)(ht:∀u∈tvs t,u∉dom s.bindings)(hD:DT V t)(hsz:tnd t≤2000){d p:Nat}:∃s',gFo s v t=some s'∧Inv V s'∧Grow d s s' p:=by
 have hl:=h.len;unfold gFo;rw [jQ (hOx (by omega))];by_cases ho:v∈tvs t
 ·rw [decide_eq_true ho,gZ];exact⟨_,rfl,h.fail 2,.same (wE s 2).1 (wE s 2).2⟩
 ·rw [decide_eq_false ho,gK,mK (by simp;omega),mK (by simp;omega)];refine⟨_,rfl,⟨hNh h.tri hv ht ho,fun b hb=>?_,fun b hb=>?_,h.obl,h.eqs⟩,⟨⟨[⟨v,t⟩],rfl⟩,by simp;omega,fun hz=>by simp at hz⟩⟩
  ·rcases List.mem_append.1 hb with hb | hb
   ·exact h.inf b hb
   ·simp only [List.mem_singleton] at hb;subst hb;exact hi
  ·rcases List.mem_append.1 hb with hb | hb
   ·exact h.dt b hb
   ·simp only [List.mem_singleton] at hb;subst hb;exact⟨hD,hsz,hvV⟩
def Down(V:List (List UInt8))(d:Nat)(f:gJ→gB→gB→Option gJ):Prop:=∀(s:gJ) (a b:gB),Inv V s→DT V a→DT V b→tnd a≤8000000→tnd b≤8000000→s.equations.length+KQ*d*(6 - s.bindings.length)≤4294967295→
 ∃s',f s a b=some s'∧Inv V s'∧Grow d s s' (pj (zkF s a)+pj (zkF s b))
set_option maxRecDepth 100000 in
theorem hPk {V:List (List UInt8)} (hV:V.length≤5) {w:gI} {wh:List gY} {d:Nat} (hd:d≤40) {rec:gI→List gY→gJ→gB→gB→Int→Option gJ} (hrec:Down V d (fun s a b=>rec w wh s a b (IntKind.i64.wrap ((d:Int) - 1)))) (f:gJ) (y:gB)
  (h0:f.equations.length+KQ*(d+1)*(6 - f.bindings.length)≤4294967295):∀(xs ys:List gB) (j:Nat) (c:gJ) (p:Nat),y.args.drop j=ys→ys.length=xs.length→Inv V c→(∃l,c.bindings=f.bindings++l)→
  c.equations.length≤f.equations.length+2000*j+KQ*d*(c.bindings.length - f.bindings.length)→(c.bindings.length=f.bindings.length→c.equations.length≤f.equations.length+p)→
  (∀x∈xs,DT V x∧tnd x≤2000∧zbd f.bindings x=false)→(∀x∈ys,DT V x∧tnd x≤2000∧zbd f.bindings x=false)→j+xs.length≤2→
  ∃s',uT rec w wh (d:Int) y xs j c.next c.count c.node c.bindings c.equations c.obligations c.code c.at_=some s'∧Inv V s'∧(∃l,s'.bindings=f.bindings++l)∧
   s'.equations.length≤f.equations.length+2000*(j+xs.length)+KQ*d*(s'.bindings.length - f.bindings.length)∧(s'.bindings.length=f.bindings.length→s'.equations.length≤f.equations.length+(p+pjs xs+pjs ys))
 | [],ys,j,c,p,_,hl,hi,he,h1,h2,_,_,_=>by
   obtain rfl:=List.eq_nil_of_length_eq_zero hl;exact⟨c,rfl,hi,he,by simpa using h1,fun hz=>by have:=h2 hz;simp only [pjs];omega⟩
 | x::xs,[],j,c,p,_,hl,_,_,_,_,_,_,_=>by simp at hl
 | x::xs,y1::ys,j,c,p,hdr,hl,hi,⟨l,he⟩,h1,h2,hx,hy,hj=>by
   simp only [List.length_cons] at hl hj;have hyj:y.args[j]? =some y1:=by
    have:(y.args.drop j)[0]? =some y1:=by rw [hdr];rfl
    rw [List.getElem?_drop] at this;simpa using this
   have hdr2:y.args.drop (j+1)=ys:=by
    rw [←List.drop_drop,hdr];rfl
   obtain⟨x1,x2,x3⟩:=hx x (by simp);obtain⟨y2,y3,y4⟩:=hy y1 (by simp);have l0:f.bindings.length≤c.bindings.length:=by rw [he];simp
   have l1:=hi.len;have ha:KQ*d*(6 - f.bindings.length)=KQ*d*(c.bindings.length - f.bindings.length)+KQ*d*(6 - c.bindings.length):=by rw [←Nat.mul_add];congr 1;omega
   have hb:KQ*(d+1)*(6 - f.bindings.length)=KQ*d*(6 - f.bindings.length)+KQ*(6 - f.bindings.length):=by rw [Nat.mul_add,Nat.add_mul,Nat.mul_one]
   have hk6:KQ*1≤KQ*(6 - f.bindings.length):=Nat.mul_le_mul_left KQ (by omega);have hk7:=hNi;obtain⟨h,e1,e2,e3⟩:=hrec c x y1 hi x1 y2 (by omega) (by omega) (by omega);obtain⟨m,e4⟩:=e3.ext;have l2:c.bindings.length≤h.bindings.length:=by rw [e4];simp
   have hc:KQ*d*(h.bindings.length - f.bindings.length)=KQ*d*(c.bindings.length - f.bindings.length)+KQ*d*(h.bindings.length - c.bindings.length):=by rw [←Nat.mul_add];congr 1;omega
   have e5:=e3.le;rw [uT,yZ,hyj];simp only [bnd];have e1:rec w wh ⟨c.next,c.count,c.node,c.bindings,c.equations,c.obligations,c.code,c.at_⟩ x y1 (IntKind.i64.wrap ((d:Int) - 1))=some h:=e1;rw [e1];have hl2:ys.length=xs.length:=by omega
   have hle:h.equations.length≤f.equations.length+2000*(j+1)+KQ*d*(h.bindings.length - f.bindings.length):=by omega
   have hj2:j+1+xs.length≤2:=by omega
   obtain⟨s',q1,q2,q3,q4,q5⟩:=hPk hV hd hrec f y h0 xs ys (j+1) h (p+pj x+pj y1) hdr2 hl2 e2 ⟨l++m,by rw [e4,he,List.append_assoc]⟩ hle (fun hz=>by
    have hz1:c.bindings.length=f.bindings.length:=by omega
    have hb1:c.bindings=f.bindings:=by
     rw [he,List.length_append] at hz1;rw [he,List.eq_nil_of_length_eq_zero (l:=l) (by omega),List.append_nil]
    have h3:=e3.ze (by omega);have h4:=h2 hz1;unfold zkF at h3;rw [hb1,gM6 60 (.inl x3),gM6 60 (.inl y4)] at h3
    omega) (fun z hz=>hx z (by simp [hz])) (fun z hz=>hy z (by simp [hz])) hj2
   refine⟨s',q1,q2,q3,?_,fun hz=>?_⟩
   ·simp only [List.length_cons];omega
   ·have:=q5 hz
    simp only [pjs];omega
theorem hPl{V V':List (List UInt8)}{t:gB}(h:DT V t)(hv:∀v∈tvs t,v∈V'):DT V' t:=⟨⟨h.1.1,h.1.2.1,hv⟩,h.2⟩
theorem gUj{w:gI}{k:Int}(hw:gOw w k){wh:List gY}(hwh:gNl wh)(hwl:wh.length≤1000){V:List (List UInt8)}{x:gB}(hx:DT V x)(hsz:tnd x≤2000):∃r,uA w wh x=some r∧(r.2.1=true→DT V r.1∧tnd r.1≤400∧gJp r.1=false):=by
 unfold uA;simp only [lt_];cases hc:cnd (x.kind != 3) true (gJp x)with
 | true=>exact⟨_,rfl,fun h=>by cases h⟩
 | false=>
   have hh:gJp x=false:=by
    cases y:(x.kind != 3)with
    | true=>rw [y] at hc;cases hc
    | false=>rw [y] at hc;exact hc
   obtain⟨fs,hf,hF,_⟩:=gOn hw wh 0 [] hwh (fun a ha=>by simp at ha) (by simp;omega);obtain⟨r,c,r2⟩:=gOp hw (fs:=fs) hf hF (tvs x) 12 2000 100000 x hsz (by omega) (by omega) (hPl hx (fun v h=>h)) (by omega);have c:mE 100000 w wh x 12=some r:=c;unfold gBy;rw [gK,jQ c];simp only [bnd];cases hr:(r.2 != 0)with
   | true=>exact⟨_,rfl,fun h=>by cases h⟩
   | false=>
     have q:=r2 (by simpa using hr);have f:=q.dt;refine⟨_,rfl,fun _=>⟨hPl f (fun v hv=>hx.1.2.2 v (f.1.2.2 v hv)),q.sz,?_⟩⟩;show gW1 isInf r.1=false;cases hz:gW1 isInf r.1 with
     | false=>rfl
     | true=>
       obtain⟨v,h1,h2⟩:=(gGj r.1).1 hz
       have:gJp x=true:=(gGj x).2 ⟨v,f.1.2.2 v h1,h2⟩
       rw [hh] at this;cases this
theorem hAd{l:List gG}{t:gB}(h:gJp t=false):zbd l t=false:=by
 cases hz:zbd l t with
 | false=>rfl
 | true=>
   obtain⟨v,f,c⟩:=(gGj t).1 hz;unfold zp at c;simp only [Bool.and_eq_true] at c
   have:gJp t=true:=(gGj t).2 ⟨v,f,c.1⟩
   rw [h] at this;cases this
end Go.Proofs.YtegahmhnmjnhhaaGreat
