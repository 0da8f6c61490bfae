import Derived.Test.YtfpdlnkkcnmebaaGreatEvA
import Derived.Test.YtfpdlnkkcnmebaaGreatWd
set_option maxHeartbeats 4000000
set_option linter.unusedVariables false
set_option linter.unusedSimpArgs false
set_option linter.unusedSectionVars false
namespace Go.Proofs.YtfpdlnkkcnmebaaGreat
open Go Go.Eng
attribute [local irreducible] V VO VQ VY Quiet QR jI mK Rng qE qA pX
def gBt(f:gM→LB→LS→Option LS)(w:gM):LS→LS→Option LS
 | [],h=>(some h)
 | q::xs,h=>(cnd (!(yV h q)) (
gd (h.length+[q].length≤4294967296) (
bnd (f w q (h++[q])) fun y=>
gBt f w xs y)) (
gBt f w xs h))
def gMu(f:gM→LB→LS→Option LS)(w:gM)(name:LB)(h:LS):Option LS:=
lt_ (uJ w name) fun q=>
gBt f w q.1.supertraits h
theorem gWw{f:gM→LB→LS→Option LS}(q:∀(x0:gM)(x1:LB)(x2:LS)(w0:Nat){r:LS},f x0 x1 x2=some r→Go.Eng.Spec Tryz.prog 126 [.d (mD x0),.S x1,.sl 0 w0] [.own 9 1 w0 (gT x2)] (fun sv Lo=>∃v'0,sv=.sl 0 v'0∧Lo=[.own 9 1 v'0 (gT r)]))(w:gM)(name:LB)(l0:LS)(v0:Nat){r:LS}(h:gMu f w name l0=some r):Go.Eng.Spec Tryz.prog 126 [.d (mD w),.S name,.sl 0 v0] [.own 9 1 v0 (gT l0)] (fun sv Lo=>∃v'0,sv=.sl 0 v'0∧Lo=[.own 9 1 v'0 (gT r)]):=by
 obtain⟨ah⟩:=w;unfold gMu at h;refine kJ 1 Tryz.func126 rfl (by kernel_rfl) rfl rfl fun A _=>?_;refine goL ?_;obtain⟨⟨⟨ab,y,ac,ad,ae⟩,a4,a5⟩,au,h⟩:=uK h;have sx1:=gIr (gM.mk ah) name;rw [au] at sx1;refine jP (gI (sx1)) ?_;refine noB ?_;refine yC 2 1 (fun z5=>?_);refine mG (fun(y4:Nat)(y2:LS)(v3:Nat)=>⟨[(2,.sl 0 v3),(3,.ptr 1 0),(7,.ptr 2 0),(10,.N y4)],[.own 9 1 v3 (gT y2),bPr ah,bTr ab y ac ad ae],Tryz.f126.ntmps⟩) (fun y4 y2 v3=>gBt f (gM.mk ah) (y.drop y4) y2=some r) (fun y4 y2 v3=>y.length - y4) 0 l0 v0 eJ h ?_;rintro y4 y2 v3 h;refine goL ?_;refine mR (fun c6=>?_) (fun c6=>?_)
 ·have aa:=vR c6;obtain⟨x7,ak,am⟩:=drop_at aa;rw [am,gBt.eq_2] at h;refine noS ?_;refine kI (jA ?_);refine goL ?_;refine jP (jR y4 (gO7 ak)) ?_;refine yT (gUa (gGl y2 x7)) ?_;refine mR (fun c8=>?_) (fun c8=>?_)
  ·replace h:=kU c8 h;refine yL (P:=Tryz.prog) Mix.h [(0,true),(1,true),(2,true),(3,true),(4,true),(5,true),(6,true),(7,true),(8,true),(9,true),(10,true),(11,true),(12,false),(13,false),(14,false),(15,true)] (by kernel_rfl) ?_;refine goY ?_;refine jW rfl (jR y4 (gO7 ak)) ?_;refine goY ?_;refine jW rfl (jR y4 (gO7 ak)) ?_;refine goY ?_;refine gLf (T:=34) (x7:LB) ?_;obtain⟨g9,h⟩:=pU h;refine gOs (T:=34) g9 ?_;obtain⟨an,ao,h⟩:=gJ h;refine gVq [0] (q (gM.mk ah) x7 (y2++[x7]) (v3+1) ao) ?_;rintro _ _ ⟨al,rfl,rfl⟩;refine gS6 (sv:=.sl 0 al) (L':=[.own 9 1 al (gT an),bPr ah,bTr ab y ac ad ae,.dead 1]) (by repeat(first | exact vU.nil | (apply vU.keep;focus ((repeat constructor);done)) | (apply vU.dep;focus kernel_rfl))) ?_;refine goY ?_;refine mJ ?_;refine goL ?_;refine jP (kD y4 (by omega)) ?_;exact⟨(y4+1),an,al,h,by omega,eJ⟩
  ·replace h:=kV c8 h;refine goS ?_;refine jP (kD y4 (by omega)) ?_;exact⟨(y4+1),y2,v3,h,by omega,eJ⟩
 ·have aa:=vS c6;rw [jK aa,gBt.eq_1] at h;refine goX ?_;refine jF ?_;obtain rfl:=Option.some.inj h;exact gAg [.sl 0 v3] _ ⟨v3,rfl,rfl⟩
def gMv:Nat→gM→LB→LS→Option LS
 | 0,_,_,_=>none
 | n+1,f,h,q=>gMu (gMv n) f h q
theorem gWx:∀(n:Nat)(f:gM)(q:LB)(y:LS)(w0:Nat){r:LS},gMv n f q y=some r→Go.Eng.Spec Tryz.prog 126 [.d (mD f),.S q,.sl 0 w0] [.own 9 1 w0 (gT y)] (fun sv Lo=>∃v'0,sv=.sl 0 v'0∧Lo=[.own 9 1 v'0 (gT r)]):=by
 intro n
 induction n with
 | zero=>intro f q y w0 r h;cases h
 | succ n ih=>intro f q y w0 r h;exact gWw ih f q y w0 h
def gB8(h:gH × gK)(y:Int × gK):Nat→(List gH)→Option (gH × gK)
 | 0,f=>(some ((gH.mk h.1.kind h.1.n h.1.at_ f),y.2))
 | q+1,f=>gd (f.length+[(gH.mk 2 0 (gD.mk 0 0) [])].length≤4294967296) (
gB8 h y q (f++[(gH.mk 2 0 (gD.mk 0 0) [])]))
def gI3(c:gK):Option (gH × gK):=
bnd (gUj c 3) fun f=>
bnd (kW f.2 10) fun h=>
(cnd (h.1==0) (
bnd (kW h.2 8) fun q=>
(some ((gH.mk (IntKind.i64.wrap (q.1 - 1)) f.1.n f.1.at_ f.1.args),q.2))) (
(cnd (h.1==1) (
bnd (gDu h.2 [(-1),0,5]) fun y=>
(some ((gH.mk f.1.kind y.1 f.1.at_ f.1.args),y.2))) (
(cnd (h.1==2) (
bnd (gDu h.2 [(-1),1]) fun x8=>
(some ((gH.mk f.1.kind f.1.n (gD.mk x8.1 f.1.at_.at_) f.1.args),x8.2))) (
(cnd (h.1==3) (
gB8 f h 4 f.1.args) (
(some (f.1,h.2))))))))))
theorem gU2(c:gK){r:gH × gK}(h:gI3 c=some r):Go.Eng.Spec Tryz.prog 62 [.ptr 0 0] [bCu c.b c.i c.h] (fun sv Lo=>sv=.d (mZ r.1)∧Lo=[bCu r.2.b r.2.i r.2.h]):=by
 obtain⟨a7,a8,a9⟩:=c;unfold gI3 at h;refine kJ 1 Tryz.func62 rfl (by kernel_rfl) rfl rfl fun A _=>?_;refine goL ?_;obtain⟨⟨⟨y,aa,⟨q,f⟩,ab⟩,⟨ai,aj,ak⟩⟩,ba,h⟩:=gJ h;refine gBz [0] (hIu (gK.mk a7 a8 a9) 3 ba) ?_;rintro _ _ ⟨rfl,rfl⟩;show VO _ _ _ _ ⟨(_,.ag [.I y,.I aa,.I q,.I f,.sl 2 0])::_,[bCu ai aj ak,.box [.I 0,.I 0,.I 0,.I 0,.nilsl],.arr 51 5 0 (jE ab)],_⟩ _;refine goL ?_;obtain⟨⟨a3,⟨ac,ad,ae⟩⟩,bb,h⟩:=gJ h;refine mI 0 (mH (gK.mk ai aj ak) 10 bb) ?_;refine goL ?_;refine jA ?_;refine goC h ?_ ?_<;>intro c3 h
 ·refine goL ?_;obtain⟨⟨a4,⟨an,ao,ap⟩⟩,bc,h⟩:=gJ h;refine mI 0 (mH (gK.mk ac ad ae) 8 bc) ?_;refine jP (pV) ?_;refine gV 2 rfl rfl ?_;refine jF ?_;obtain rfl:=Option.some.inj h;exact gB5 [.d (.st [.i .i64 (IntKind.i64.wrap (a4 - 1)),.i .i64 aa,.st [.i .i64 q,.i .i64 f],.sl 5 (jE ab)])] [bCu an ao ap] ⟨rfl,rfl⟩
 ·refine goC h ?_ ?_<;>intro c5 h
  ·refine goL ?_;refine yQ (us:=vM [(-1),0,5]) ?_;refine kS 4 rfl rfl ?_;obtain⟨⟨a5,⟨aq,ar,au⟩⟩,bd,h⟩:=gJ h;refine mI 0 (gQy (gK.mk ac ad ae) [(-1),0,5] bd) ?_;refine goL ?_;refine gV 2 rfl rfl ?_;refine jF ?_;obtain rfl:=Option.some.inj h;exact gB5 [.d (.st [.i .i64 y,.i .i64 a5,.st [.i .i64 q,.i .i64 f],.sl 5 (jE ab)])] [bCu aq ar au] ⟨rfl,rfl⟩
  ·refine goC h ?_ ?_<;>intro c7 h
   ·refine goL ?_;refine yQ (us:=vM [(-1),1]) ?_;refine kS 4 rfl rfl ?_;obtain⟨⟨a6,⟨av,aw,ax⟩⟩,be,h⟩:=gJ h;refine mI 0 (gQy (gK.mk ac ad ae) [(-1),1] be) ?_;refine goL ?_;refine gV 2 rfl rfl ?_;refine jF ?_;obtain rfl:=Option.some.inj h;exact gB5 [.d (.st [.i .i64 y,.i .i64 aa,.st [.i .i64 a6,.i .i64 f],.sl 5 (jE ab)])] [bCu av aw ax] ⟨rfl,rfl⟩
   ·refine goC h ?_ ?_<;>intro c9 h
    ·refine goL ?_;refine noB ?_;refine mG (fun(ah:Nat)(al:List gH)(am:Nat)=>⟨[(2,.ptr 1 0),(3,.ptr 3 0),(4,.N ah)],[bCu ac ad ae,.box [.I 0,.I 0,.I 0,.I 0,.nilsl],.arr 51 5 am (jE al),.box [.I y,.I aa,.I q,.I f,.sl 2 am]],Tryz.f62.ntmps⟩) (fun ah al am=>ah≤4∧gB8 ((gH.mk y aa (gD.mk q f) ab),(gK.mk ai aj ak)) (a3,(gK.mk ac ad ae)) (4 - ah) al=some r) (fun ah al am=>4 - ah) 0 ab 0 eJ ⟨by simp,h⟩ ?_;rintro ah al am ⟨bf,h⟩;refine goL ?_;refine mR (fun a0=>?_) (fun a0=>?_)
     ·have ay:ah < 4:=by have:=of_decide_eq_true a0;omega
      obtain⟨bg,hm14⟩:∃m,4 - ah=m+1:=⟨4 - ah - 1,by omega⟩
      rw [hm14,gB8.eq_2] at h;refine noS ?_;refine kI (jA ?_);refine goL ?_;refine vP (jN TBd.h TZ.h rfl (by repeat constructor)) ?_;refine uO (u:=(.st [.i .i64 2,.i .i64 0,.st [.i .i64 0,.i .i64 0],.sl 5 []])) ?_;obtain⟨bh,h⟩:=pU h;refine gAd bh ?_;refine goL ?_;refine jP (kD ah (by omega)) ?_;rw [show bg=4 - (ah+1) by omega] at h;exact⟨(ah+1),(al++[(gH.mk 2 0 (gD.mk 0 0) [])]),(am+1),⟨by omega,h⟩,by omega,eJ⟩
     ·have ay:4≤ah:=by have:=of_decide_eq_false a0;omega
      rw [show 4 - ah=0 by omega,gB8.eq_1] at h;refine goX ?_;refine gV 2 rfl rfl ?_;refine jF ?_;obtain rfl:=Option.some.inj h;exact gB5 [.d (.st [.i .i64 y,.i .i64 aa,.st [.i .i64 q,.i .i64 f],.sl 5 (jE al)])] [bCu ac ad ae] ⟨rfl,rfl⟩
    ·refine goS ?_;refine gV 2 rfl rfl ?_;refine jF ?_;obtain rfl:=Option.some.inj h;exact gB5 [.d (.st [.i .i64 y,.i .i64 aa,.st [.i .i64 q,.i .i64 f],.sl 5 (jE ab)])] [bCu ac ad ae] ⟨rfl,rfl⟩
def gB9(f:gM→(List gX)→gP→(List gB)→Option (Int))(a0:gM)(a1:List gX)(a2:gP)(a3:List gB)(q:List gU)(h:Option (Int)):List gB→Option (Int)
 | []=>h
 | y::xs=>gd (bok q∧tok y) (lt_ (apT q y) fun ab=>
bnd (f a0 a1 (gP.mk a2.trait ab) (([]++a3)++[a2.type_])) fun aa=>
(cnd (aa != 0) (
(some aa)) (
gB9 f a0 a1 a2 a3 q h xs )))
def gA0(f:gM→(List gX)→gP→(List gB)→Option (Int))(y:gM)(a1:List gX)(a2:gP)(a3:List gB)(h:List gU):List jC→Option (Int)
 | []=>(some 0)
 | q::xs=>gB9 f y a1 a2 a3 h (gA0 f y a1 a2 a3 h xs ) q.fields
def gA1(f:gM→(List gX)→gP→(List gB)→Option (Int))(a0:gM)(a1:List gX)(a2:gP)(a3:List gB)(y:kG × Int × Bool):LS→Nat→(List gU)→Option (Int)
 | [],q,h=>gd (([]:List gB).length+a3.length≤4294967296) (
gd (([]++a3).length+[a2.type_].length≤4294967296) (
gA0 f a0 a1 a2 a3 h y.1.constructors ))
 | aa::xs,q,h=>bnd (at? a2.type_.args (q:Int)) fun ab=>
gd (h.length+[(gU.mk aa ab)].length≤4294967296) (
gA1 f a0 a1 a2 a3 y xs (q+1) (h++[(gU.mk aa ab)]))
def gA2(f:gM→(List gX)→gP→(List gB)→Option (Int))(q:gM)(a1:List gX)(a2:gP)(y:List gB):List gB→Option (Int)
 | []=>lt_ (zS q a2.type_.name) fun h=>
lt_ ((cnd (a2.type_.kind != 2) (true) ((cnd (!h.2.2) (true) (((h.1.vars.length:Int) !=(a2.type_.args.length:Int))))))) fun aa=>
(cnd aa (
(some 1)) (
lt_ ((cnd (decide ((y.length:Int) > 30)) (true) ((decide ((tsz a2.type_) > 400))))) fun ab=>
(cnd ab (
(some 3)) (
gA1 f q a1 a2 y h h.1.vars 0 []))))
 | x8::xs=>(cnd (teq x8 a2.type_) (
(some 0)) (
gA2 f q a1 a2 y xs ))
def gNb(f:gM→(List gX)→gP→(List gB)→Option (Int))(q:gM)(a1:List gX)(a2:gP)(h:List gB):Option (Int):=
lt_ ((cnd (a2.type_.kind==2) ((cnd (gJ1 a2.type_.name) (true) ((decide ((mQ a1 a2)≥0))))) ((decide ((mQ a1 a2)≥0))))) fun y=>
(cnd y (
(some 0)) (
gA2 f q a1 a2 h h ))
theorem hBz{ab:gM→(List gX)→gP→(List gB)→Option (Int)}(am:∀(x0:gM)(x1:List gX)(x2:gP)(x3:List gB){r:Int},ab x0 x1 x2 x3=some r→jI Tryz.prog 77 [.d (mD x0),.L 6 (jU x1),.d (yF x2),.L 3 (gN x3)] [.i .i64 r])(a0:gM)(a1:List gX)(a2:gP)(a3:List gB){r:Int}(h:gNb ab a0 a1 a2 a3=some r):jI Tryz.prog 77 [.d (mD a0),.L 6 (jU a1),.d (yF a2),.L 3 (gN a3)] [.i .i64 r]:=by
 obtain⟨ag⟩:=a0;obtain⟨ae,⟨y,f,aa⟩⟩:=a2;unfold gNb at h;refine SpI Tryz.func77 fun A _=>?_;refine goL ?_;obtain⟨b1,hb1,h⟩:=uK h;refine kH ⟨[(1,.L 6 (jU a1)),(3,.L 3 (gN a3)),(4,.ptr 0 0),(6,.ptr 1 0),(34,.B b1)],[bPr ag,bBd ae y f aa],Tryz.f77.ntmps⟩ ?_ ?_
 ·refine gqV 23 hb1 ?_ ?_<;>intro c2 hb1
  ·refine jP (gI (gUm f)) ?_;refine gqO 29 hb1 (fun c3 hb1=>?_);refine jP (gI (gFp a1 (gP.mk ae (gB.mk y f aa)))) ?_;cases hb1;exact eJ
  ·refine jP (gI (gFp a1 (gP.mk ae (gB.mk y f aa)))) ?_;cases hb1;exact eJ
 refine goC h ?_ ?_<;>intro c4 h
 ·exact goR h
 ·refine goS ?_;refine noB ?_;refine gCw 3 (fun z6=>?_);refine pY (fun(y5:Nat)=>⟨[(1,.L 6 (jU a1)),(3,.L 3 (gN a3)),(4,.ptr 0 0),(6,.ptr 1 0),(9,.N y5)],[bPr ag,bBd ae y f aa],Tryz.f77.ntmps⟩) (fun y5=>gA2 ab (gM.mk ag) a1 (gP.mk ae (gB.mk y f aa)) a3 (a3.drop y5)  =some r) (fun y5=>a3.length - y5) 0 eJ h ?_;rintro y5 h;refine goL ?_;refine mR (fun c7=>?_) (fun c7=>?_)
  ·have au:=vR c7;obtain⟨x8,b4,bp⟩:=drop_at au;rw [bp,gA2.eq_2] at h;obtain⟨bq,br,bt⟩:=x8;refine noS ?_;refine kI (jA ?_);refine goL ?_;refine gDi (jR y5 (gDj b4)) ?_;refine goL ?_;refine gDi (gI (gIq (gB.mk bq br bt) (gB.mk y f aa))) ?_;refine goC h ?_ ?_<;>intro c9 h
   ·exact goR h
   ·refine goS ?_;refine jP (kD y5 (by omega)) ?_;exact⟨(y5+1),h,by omega,eJ⟩
  ·have au:=vS c7;rw [jK au,gA2.eq_1] at h;refine goX ?_;obtain⟨⟨⟨ah,ad,ac⟩,a7,a8⟩,bu,h⟩:=uK h;have sx10:=gYh (gM.mk ag) f;rw [bu] at sx10;refine jP (gI (sx10)) ?_;obtain⟨b5,hb11,h⟩:=uK h;refine kH ⟨[(1,.L 6 (jU a1)),(3,.L 3 (gN a3)),(4,.ptr 0 0),(6,.ptr 1 0),(10,.ptr 2 0),(74,.B b5)],[bPr ag,bBd ae y f aa,bDa ah ad ac],Tryz.f77.ntmps⟩ ?_ ?_
   ·refine wW 61 (fun a9=>?_) (fun a9=>?_) (by first | rfl | (simp only [kE,jO];rfl))
    ·replace hb11:=kU a9 hb11;refine goL ?_;cases hb11;exact⟨rfl,⟨⟨rfl,rfl⟩,⟨rfl,rfl⟩,⟨rfl,rfl⟩,⟨rfl,rfl⟩,⟨rfl,rfl⟩,⟨by first | rfl | (simp only [kE,jO];rfl),rfl⟩,trivial⟩,⟨_,rfl⟩,rfl⟩
    ·replace hb11:=kV a9 hb11;refine goL ?_;refine wW 65 (fun ba=>?_) (fun ba=>?_) (by first | rfl | (simp only [kE,jO];rfl))
     ·replace hb11:=kU ba hb11;refine goL ?_;cases hb11;exact⟨rfl,⟨⟨rfl,rfl⟩,⟨rfl,rfl⟩,⟨rfl,rfl⟩,⟨rfl,rfl⟩,⟨rfl,rfl⟩,⟨by first | rfl | (simp only [kE,jO];rfl),rfl⟩,trivial⟩,⟨_,rfl⟩,rfl⟩
     ·replace hb11:=kV ba hb11;refine goL ?_;cases hb11;exact⟨rfl,⟨⟨rfl,rfl⟩,⟨rfl,rfl⟩,⟨rfl,rfl⟩,⟨rfl,rfl⟩,⟨rfl,rfl⟩,⟨by first | rfl | (simp only [kE,jO];rfl),rfl⟩,trivial⟩,⟨_,rfl⟩,rfl⟩
   refine goC h ?_ ?_<;>intro cj h
   ·exact goR h
   ·refine goS ?_;obtain⟨b6,hb15,h⟩:=uK h;refine kH ⟨[(1,.L 6 (jU a1)),(3,.L 3 (gN a3)),(4,.ptr 0 0),(6,.ptr 1 0),(10,.ptr 2 0),(83,.B b6)],[bPr ag,bBd ae y f aa,bDa ah ad ac],Tryz.f77.ntmps⟩ ?_ ?_
    ·refine gqO 78 hb15 (fun ck hb15=>?_);refine jP (gI (gYc (gB.mk y f aa))) ?_;cases hb15;exact eJ
    refine goC h ?_ ?_<;>intro cl h
    ·exact goR h
    ·refine goS ?_;refine gAu ?_;refine goL ?_;refine noB ?_;refine yC 2 1 (fun cm=>?_);refine mG (fun(al:Nat)(ai:List gU)(aj:Nat)=>⟨[(1,.L 6 (jU a1)),(3,.L 3 (gN a3)),(4,.ptr 0 0),(6,.ptr 1 0),(10,.ptr 2 0),(13,.sl 3 aj),(14,.N al)],[bPr ag,bBd ae y f aa,bDa ah ad ac,.arr 192 4 aj (jY ai)],Tryz.f77.ntmps⟩) (fun al ai aj=>gA1 ab (gM.mk ag) a1 (gP.mk ae (gB.mk y f aa)) a3 ((kG.mk ah ad ac),a7,a8) (ad.drop al) al ai=some r) (fun al ai aj=>ad.length - al) 0 [] 0 eJ h ?_;rintro al ai aj h;refine goL ?_;refine mR (fun bb=>?_) (fun bb=>?_)
     ·have an:=vR bb;obtain⟨bv,bw,bc⟩:=drop_at an;rw [bc,gA1.eq_2] at h;refine noS ?_;refine kI (jA ?_);refine yL (P:=Tryz.prog) Mix.h [(0,true),(1,true),(2,true),(3,true),(4,true),(5,true),(6,true),(7,true),(8,true),(9,true),(10,true),(11,true),(12,true),(13,false),(14,false),(15,true)] (by kernel_rfl) ?_;refine goY ?_;refine jW rfl (jR al (gO7 bw)) ?_;refine goY ?_;obtain⟨b7,a5,h⟩:=gJ h;rw [gA4] at a5;obtain⟨av,aw,ax⟩:=b7;refine jW rfl (jR al (gDj a5)) ?_;refine goY ?_;refine kT (T:=118) (us:=jY [(gU.mk bv (gB.mk av aw ax))]) ?_;obtain⟨b8,h⟩:=pU h;refine kN (T:=118) b8 ?_;refine goY ?_;refine mJ ?_;refine goL ?_;refine jP (kD al (by omega)) ?_;exact⟨(al+1),(ai++[(gU.mk bv (gB.mk av aw ax))]),(aj+1),h,by omega,eJ⟩
     ·have an:=vS bb;rw [jK an,gA1.eq_1] at h;refine noX ?_;obtain⟨bd,h⟩:=pU h;obtain⟨be,h⟩:=pU h;refine uC (P:=Tryz.prog) Mix.h (.q 1 (.q 3 (.q 4 (.h 0 (.h 2 (hcT 5 (hcT 6 (.q 7 .nil))) (hcT 5 (hcT 2 (hcT 6 (.q 7 .nil))))) (hcT 5 (hcT 0 (hcT 2 (hcT 6 (.q 7 .nil))))))))) ⟨[(1,.L 6 (jU a1)),(4,.ptr 0 0),(6,.ptr 1 0),(10,.ptr 2 0),(13,.sl 3 aj),(15,.sl 4 ((0+1)+1))],[bPr ag,bBd ae y f aa,bDa ah ad ac,.arr 192 4 aj (jY ai),.arr 37 3 ((0+1)+1) (gN (([]++a3)++[(gB.mk y f aa)])),.arr 37 3 0 (gN [(gB.mk y f aa)])],Tryz.f77.ntmps⟩ (by kernel_rfl) ?_ ?_
      ·refine goT ?_;refine uD (hK0 gZ) ?_ ?_
       ·refine uD (kN (T:=35) bd gZ) ?_ ?_
        ·refine gQ (kT (T:=35) (us:=gN [(gB.mk y f aa)]) gZ) ?_;refine gQ (kN (T:=35) be gZ) ?_;refine goT ?_;refine jL ?_;exact pQ 0 [0,1,2,3,4,5]
        refine gQ (kT (T:=35) (us:=gN [(gB.mk y f aa)]) gZ) ?_;refine gQ (kN (T:=35) bd gZ) ?_;refine gQ (kN (T:=35) be gZ) ?_;refine goT ?_;refine jL ?_;exact pQ 0 [0,1,2,3,4,5]
       refine gQ (kT (T:=35) (us:=gN [(gB.mk y f aa)]) gZ) ?_;refine gQ (hK0 gZ) ?_;refine gQ (kN (T:=35) bd gZ) ?_;refine gQ (kN (T:=35) be gZ) ?_;refine goT ?_;refine jL ?_;exact pQ 0 [0,1,2,3,5,4]
      refine goL ?_;refine noB ?_;refine gV 3 rfl rfl ?_;show V _ _ _ _ _;refine yC 2 2 (fun cn=>?_);refine pY (fun(ak:Nat)=>⟨[(1,.L 6 (jU a1)),(4,.ptr 0 0),(6,.ptr 1 0),(10,.ptr 2 0),(13,.sl 3 aj),(15,.sl 4 ((0+1)+1)),(16,.N ak)],[bPr ag,bBd ae y f aa,bDa ah ad ac,.frz 192 4 aj (jY ai),.arr 37 3 ((0+1)+1) (gN (([]++a3)++[(gB.mk y f aa)])),.arr 37 3 0 (gN [(gB.mk y f aa)])],Tryz.f77.ntmps⟩) (fun ak=>gA0 ab (gM.mk ag) a1 (gP.mk ae (gB.mk y f aa)) a3 ai (ac.drop ak)  =some r) (fun ak=>ac.length - ak) 0 eJ h ?_;rintro ak h;refine goL ?_;refine mR (fun bf=>?_) (fun bf=>?_)
      ·have ao:=vR bf;obtain⟨b9,a6,bg⟩:=drop_at ao;rw [bg,gA0.eq_2] at h;obtain⟨ca,ay⟩:=b9;refine noS ?_;refine kI (jA ?_);refine goL ?_;refine noB ?_;refine pY (fun(ap:Nat)=>⟨[(1,.L 6 (jU a1)),(4,.ptr 0 0),(6,.ptr 1 0),(10,.ptr 2 0),(13,.sl 3 aj),(15,.sl 4 ((0+1)+1)),(16,.N ak),(17,.N ap)],[bPr ag,bBd ae y f aa,bDa ah ad ac,.frz 192 4 aj (jY ai),.arr 37 3 ((0+1)+1) (gN (([]++a3)++[(gB.mk y f aa)])),.arr 37 3 0 (gN [(gB.mk y f aa)])],Tryz.f77.ntmps⟩) (fun ap=>gB9 ab (gM.mk ag) a1 (gP.mk ae (gB.mk y f aa)) a3 ai (gA0 ab (gM.mk ag) a1 (gP.mk ae (gB.mk y f aa)) a3 ai (ac.drop (ak+1)) ) (ay.drop ap)  =some r) (fun ap=>ay.length - ap) 0 eJ h ?_;rintro ap h;refine goL ?_;refine jP (jR ak (gA5 a6)) ?_;refine mR (fun bh=>?_) (fun bh=>?_)
       ·have aq:=vR bh;refine gCw 127 (fun co=>?_);obtain⟨cb,bx,bi⟩:=drop_at aq;rw [bi,gB9.eq_2] at h;obtain⟨bj,bk,bl⟩:=cb;refine noS ?_;refine kI (jA ?_);refine goL ?_;refine gDi (jR ak (gA5 a6)) ?_;refine goL ?_;refine gDi (jR ap (gDj bx)) ?_;refine goL ?_;obtain⟨cc,h⟩:=pU h;obtain⟨⟨bm,bn,bo⟩,bz,h⟩:=uK h;have sx37:=(gZ4 ai (gB.mk bj bk bl) cc).p;rw [bz] at sx37;refine hS6 (gRe (sx37)) ?_;refine hS6 (jN TBd.h TZ.h rfl (by repeat constructor)) ?_;refine goL ?_;obtain⟨cp,b0,h⟩:=gJ h;refine hS6 (gUa (am (gM.mk ag) a1 (gP.mk ae (gB.mk bm bn bo)) (([]++a3)++[(gB.mk y f aa)]) b0)) ?_;refine goC h ?_ ?_<;>intro cq h
        ·exact goR h
        ·refine goS ?_;refine jP (kD ap (by omega)) ?_;exact⟨(ap+1),h,by omega,eJ⟩
       ·have aq:=vS bh;rw [jK aq,gB9.eq_1] at h;refine goX ?_;refine jP (kD ak (by omega)) ?_;exact⟨(ak+1),h,by omega,eJ⟩
      ·have ao:=vS bf;rw [jK ao,gA0.eq_1] at h;refine goX ?_;refine jF ?_;cases h;exact uM
def gKq:Nat→gM→(List gX)→gP→(List gB)→Option (Int)
 | 0,_,_,_,_=>none
 | n+1,f,h,q,y=>gNb (gKq n) f h q y
theorem hB5:∀(n:Nat)(f:gM)(q:List gX)(y:gP)(x3:List gB){r:Int},gKq n f q y x3=some r→jI Tryz.prog 77 [.d (mD f),.L 6 (jU q),.d (yF y),.L 3 (gN x3)] [.i .i64 r]:=by
 intro n
 induction n with
 | zero=>intro f q y x3 r h;cases h
 | succ n ih=>intro f q y x3 r h;exact hBz ih f q y x3 h
def qW(h:gM)(a1:LB)(a2:LB):Option (List Int × Bool):=
bnd (gG3 5000 h a1 a2 8) fun f=>
(some (f.1,f.2))
theorem gI4(f:gM)(a1:LB)(a2:LB){r:List Int × Bool}(h:qW f a1 a2=some r):jI Tryz.prog 78 [.d (mD f),.S a1,.S a2] [.sl 1 (vM r.1),.b r.2]:=by
 obtain⟨y⟩:=f;unfold qW at h;refine SpI Tryz.func78 fun A _=>?_;refine goL ?_;obtain⟨⟨aa,ab⟩,q,h⟩:=gJ h;refine uN (gI (hBn _ _ _ _ _ q)) ?_;exact goR h
def qR(a0:gM)(x7:jD)(f:Bool→Option (gD × Int)):List gD→Bool→Option (gD × Int)
 | [],q=>(f q)
 | h::xs,q=>bnd (at? a0.packages h.package) fun y=>
bnd (at? y.instances h.at_) fun aa=>
bnd ((cnd q (bnd (gCu aa.head x7.head) fun ab=>
(some (!ab))) ((some false)))) fun ac=>
qR a0 x7 f xs ac
def uI(f:gM)(a1:gP)(x1:List gD):List gD→Option (gD × Int)
 | []=>(some ((gD.mk 0 0),1))
 | h::xs=>bnd (at? f.packages h.package) fun x6=>
bnd (at? x6.instances h.at_) fun x7=>
qR f x7 (fun y9=>bnd ((cnd y9 ((cnd x7.default_ (bnd (gCv a1.type_) fun q=>
(some (!q))) ((some false)))) ((some false)))) fun y=>
(cnd y (
(some ((gD.mk 0 0),2))) (
(cnd y9 (
(some (h,0))) (
uI f a1 x1 xs ))))) x1 true
def gAr(f:gM)(a1:gP):Option (gD × Int):=
bnd (yB f a1) fun h=>
uI f a1 h h
theorem gOf(a0:gM)(a1:gP){r:gD × Int}(h:gAr a0 a1=some r):jI Tryz.prog 124 [.d (mD a0),.d (yF a1)] [qO r.1,.i .i64 r.2]:=by
 obtain⟨ah⟩:=a0;obtain⟨ai,⟨f,q,y⟩⟩:=a1;unfold gAr at h;refine SpI Tryz.func124 fun A _=>?_;refine goL ?_;obtain⟨x1,b1,h⟩:=gJ h;refine jP (gI (gL1 _ _ b1)) ?_;refine noB ?_;refine gCw 6 (fun z3=>?_);refine pY (fun(y2:Nat)=>⟨[(2,.ptr 0 0),(3,.ptr 1 0),(4,.ptr 2 0),(6,.L 2 (kR x1)),(7,.N y2)],[bPr ah,bBd ai f q y,.box [.I 0,.I 0]],Tryz.f124.ntmps⟩) (fun y2=>uI (gM.mk ah) (gP.mk ai (gB.mk f q y)) x1 (x1.drop y2)  =some r) (fun y2=>x1.length - y2) 0 eJ h ?_;rintro y2 h;refine goL ?_;refine mR (fun c4=>?_) (fun c4=>?_)
 ·have aq:=vR c4;obtain⟨x5,ba,bp⟩:=drop_at aq;rw [bp,uI.eq_2] at h;obtain⟨bq,br⟩:=x5;refine noS ?_;refine kI (jA ?_);refine jS (P:=Tryz.prog) Mix.h [(0,true),(1,true),(2,true),(3,true),(4,true),(5,true),(6,true),(7,true),(8,true),(9,true),(10,true),(11,true),(12,true),(13,true),(14,true),(15,true),(16,true),(17,false),(18,false)] (by kernel_rfl) ?_;refine goY ?_;refine jW rfl (jR y2 (zA ba)) ?_;refine goY ?_;obtain⟨x6,bb,h⟩:=gJ h;obtain⟨bt,bb⟩:=gBm bb;obtain⟨ce,cf,cg,ch,ci,cj⟩:=x6;refine jW rfl (uL bt (gAc bb)) ?_;refine goY ?_;refine jW rfl (jR y2 (zA ba)) ?_;refine goY ?_;obtain⟨x7,bc,h⟩:=gJ h;obtain⟨bu,bc⟩:=gBm bc;obtain⟨aj,ak,⟨aa,ab,ac⟩,al,am,an,⟨ad,ae,ag⟩,ao⟩:=x7;refine jW rfl (uL bu (gHj bc)) ?_;refine goY ?_;refine mJ ?_;refine goL ?_;refine noB ?_;refine gCw 6 (fun cn=>?_)
  refine gFc (fun(y8:Nat)(y9:Bool)=>⟨[(2,.ptr 0 0),(3,.ptr 1 0),(4,.ptr 2 0),(6,.L 2 (kR x1)),(7,.N y2),(8,.ptr 3 0),(9,.B y9),(10,.N y8)],[bPr ah,bBd ai f q y,.box [.I 0,.I 0],bIn aj ak aa ab ac al am an ad ae ag ao],Tryz.f124.ntmps⟩) (fun y8 y9=>qR (gM.mk ah) (jD.mk aj ak (gB.mk aa ab ac) al am an (gB.mk ad ae ag) ao) (fun y9=>bnd ((cnd y9 ((cnd (jD.mk aj ak (gB.mk aa ab ac) al am an (gB.mk ad ae ag) ao).default_ (bnd (gCv (gP.mk ai (gB.mk f q y)).type_) fun bv=>
(some (!bv))) ((some false)))) ((some false)))) fun bd=>
(cnd bd (
(some ((gD.mk 0 0),2))) (
(cnd y9 (
(some ((gD.mk bq br),0))) (
uI (gM.mk ah) (gP.mk ai (gB.mk f q y)) x1 (x1.drop (y2+1)) ))))) (x1.drop y8) y9=some r) (fun y8 y9=>x1.length - y8) 0 true eJ h ?_
  rintro y8 y9 h;refine goL ?_;refine mR (fun be=>?_) (fun be=>?_)
  ·have ar:=vR be;obtain⟨b3,a9,bf⟩:=drop_at ar;rw [bf,qR.eq_2] at h;obtain⟨b4,b5⟩:=b3;refine noS ?_;refine kI (jA ?_);refine jS (P:=Tryz.prog) Mix.h [(0,true),(1,true),(2,true),(3,true),(4,true),(5,true),(6,true),(7,true),(8,true),(9,true),(10,true),(11,true),(12,true),(13,true),(14,true),(15,true),(16,true),(17,false),(18,false)] (by kernel_rfl) ?_;refine goY ?_;refine jW rfl (jR y8 (zA a9)) ?_;refine goY ?_;obtain⟨b6,aw,h⟩:=gJ h;obtain⟨bg,aw⟩:=gBm aw;obtain⟨b7,b8,b9,ca,cb,cc⟩:=b6;refine jW rfl (uL bg (gAc aw)) ?_;refine goY ?_;refine jW rfl (jR y8 (zA a9)) ?_;refine goY ?_;obtain⟨cd,ax,h⟩:=gJ h;obtain⟨bh,ax⟩:=gBm ax;obtain⟨bi,bj,⟨ay,a3,a4⟩,bk,bl,bm,⟨a5,a6,a7⟩,bn⟩:=cd;refine jW rfl (uL bh (gHj ax)) ?_;refine goY ?_;refine mJ ?_;refine goL ?_;obtain⟨bw,hb15,h⟩:=gJ h;refine kH ⟨[(2,.ptr 0 0),(3,.ptr 1 0),(4,.ptr 2 0),(6,.L 2 (kR x1)),(7,.N y2),(8,.ptr 3 0),(10,.N y8),(9,.B bw)],[bPr ah,bBd ai f q y,.box [.I 0,.I 0],bIn aj ak aa ab ac al am an ad ae ag ao,bIn bi bj ay a3 a4 bk bl bm a5 a6 a7 bn],Tryz.f124.ntmps⟩ ?_ ?_
   ·refine gqA 62 hb15 (fun co hb15=>?_);obtain⟨cp,bx,hb15⟩:=gJ hb15;refine jP (gI (gSc _ _ bx)) ?_;cases hb15;exact eJ
   refine goL ?_;refine jP (kD y8 (by omega)) ?_;exact⟨(y8+1),bw,h,by omega,eJ⟩
  ·have ar:=vS be;rw [jK ar,qR.eq_1] at h;refine goX ?_;obtain⟨bd,hb18,h⟩:=gJ h;refine kH ⟨[(2,.ptr 0 0),(3,.ptr 1 0),(4,.ptr 2 0),(6,.L 2 (kR x1)),(7,.N y2),(9,.B y9),(80,.B bd)],[bPr ah,bBd ai f q y,.box [.I 0,.I 0],bIn aj ak aa ab ac al am an ad ae ag ao],Tryz.f124.ntmps⟩ ?_ ?_
   ·refine gqA 71 hb18 (fun cq hb18=>?_);refine gqA 75 hb18 (fun cr hb18=>?_);obtain⟨bv,bz,hb18⟩:=gJ hb18;refine jP (gI (gYi _ bz)) ?_;cases hb18;exact eJ
   refine goC h ?_ ?_<;>intro cs h
   ·refine goL ?_;refine vP (jN TBd.h TZ.h rfl (by repeat constructor)) ?_;exact goR h
   ·refine goS ?_;refine mR (fun bo=>?_) (fun bo=>?_)
    ·replace h:=kU bo h;refine goL ?_;refine uN (jR y2 (zA ba)) ?_;exact goR h
    ·replace h:=kV bo h;refine goS ?_;refine jP (kD y2 (by omega)) ?_;exact⟨(y2+1),h,by omega,eJ⟩
 ·have aq:=vS c4;rw [jK aq,uI.eq_1] at h;refine goX ?_;refine vP (jN TBd.h TZ.h rfl (by repeat constructor)) ?_;exact goR h
def vB(f:gM)(a1:LB):Option LS:=
bnd (gMv 5000 f a1 []) fun h=>
(some h)
theorem gOg(q:gM)(a1:LB){r:LS}(h:vB q a1=some r):jI Tryz.prog 80 [.d (mD q),.S a1] [.sl 1 (gT r)]:=by
 obtain⟨f⟩:=q;unfold vB at h;refine SpI Tryz.func80 fun A _=>?_;refine goL ?_;refine gC1 ?_;obtain⟨x1,y,h⟩:=gJ h;refine gBz [1] (gWx 5000 (gM.mk f) a1 [] 0 y) ?_;rintro _ _ ⟨v2,rfl,rfl⟩;show VO _ _ _ _ ⟨(_,.sl 1 v2)::_,[bPr f,.own 9 1 v2 (gT x1)],_⟩ _;refine goL ?_;refine mP 1 rfl rfl ?_;refine jF ?_;cases h;exact uM
end Go.Proofs.YtfpdlnkkcnmebaaGreat
