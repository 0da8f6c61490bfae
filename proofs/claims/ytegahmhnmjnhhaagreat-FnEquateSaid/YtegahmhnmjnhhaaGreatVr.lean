import Derived.Test.YtegahmhnmjnhhaaGreatB2
set_option maxHeartbeats 4000000
set_option linter.unusedVariables false
set_option linter.unusedSimpArgs false
set_option linter.unusedSectionVars false
namespace Go.Proofs.YtegahmhnmjnhhaaGreat
open Go Go.Eng
attribute [local irreducible] V VO VQ VY Quiet QR gY kR Rng mU mW mG
def vH(c:vB→Option (gD × vB)):Nat→LB→Int→Int→Int→Bool→(List gD)→Option (gD × vB)
 | 0,ab,ac,ad,ae,aa,y=>none
 | ag+1,ab,ac,ad,ae,aa,y=>(cnd (!aa) (
bnd (gO9 (vB.mk ab ac ad ae aa)) fun f=>
bnd ((cnd (decide (f.at_ < (f.s.length:Int))) (bnd (at? f.s f.at_) fun ah=>
(some ((ah.toNat:Int)==41))) ((some false)))) fun ai=>
(cnd ai (
(some ((gD.mk [] y),(vB.mk f.s (IntKind.i64.wrap (f.at_+1)) (IntKind.i64.wrap (f.deep - 1)) f.size f.bad)))) (
bnd (c f) fun h=>
gd (y.length+[h.1].length≤4294967296) (
vH c ag h.2.s h.2.at_ h.2.deep h.2.size h.2.bad (y++[h.1]))))) (
(some ((gD.mk [] y),(vB.mk ab ac ad ae aa)))))
def zR(c:vB→Option (gD × vB))(f:vB)(n0:Nat):Nat→Int→Option (gD × vB)
 | 0,h=>none
 | n6+1,h=>bnd ((cnd (decide (h < (f.s.length:Int))) (bnd (at? f.s h) fun x9=>
(some (gGp (x9.toNat:Int)))) ((some false)))) fun b7=>
(cnd b7 (
zR c f n0 n6 (IntKind.i64.wrap (h+1))) (
(cnd (decide (h > f.at_)) (
gd (0≤f.at_∧f.at_≤h∧h≤(f.s.length:Int)) (
(some ((gD.mk ((f.s.drop (Int.toNat f.at_)).take (Int.toNat h - Int.toNat f.at_)) []),(vB.mk f.s h f.deep (IntKind.i64.wrap (f.size+1)) f.bad))))) (
bnd (bnd (at? f.s h) fun y=>
(cnd ((y.toNat:Int) != 40) ((some true)) ((some (f.deep==14))))) fun aa=>
(cnd aa (
(some ((gD.mk [] []),(vB.mk f.s h f.deep (IntKind.i64.wrap (f.size+1)) true)))) (
vH c n0 f.s (IntKind.i64.wrap (h+1)) (IntKind.i64.wrap (f.deep+1)) (IntKind.i64.wrap (f.size+1)) f.bad []))))))
def gRi(f:vB→Option (gD × vB))(c:vB)(y:Nat):Option (gD × vB):=
bnd (gO9 c) fun h=>
lt_ ((cnd (decide (h.at_≥(h.s.length:Int))) (true) ((decide ((IntKind.i64.wrap (h.size+1)) > 900))))) fun b2=>
(cnd b2 (
(some ((gD.mk [] []),(vB.mk h.s h.at_ h.deep (IntKind.i64.wrap (h.size+1)) true)))) (
zR f h y y h.at_))
theorem hPh{aa:vB→Option (gD × vB)}(ab:∀(x0:vB){r:gD × vB},aa x0=some r→Go.Eng.Spec Tryz.prog 109 [.ptr 0 0] [bIp x0.s x0.at_ x0.deep x0.size x0.bad] (fun sv Lo=>sv=.d (pJ r.1)∧Lo=[bIp r.2.s r.2.at_ r.2.deep r.2.size r.2.bad]))(c:vB){n0:Nat}{r:gD × vB}(h:gRi aa c n0=some r):Go.Eng.Spec Tryz.prog 109 [.ptr 0 0] [bIp c.s c.at_ c.deep c.size c.bad] (fun sv Lo=>sv=.d (pJ r.1)∧Lo=[bIp r.2.s r.2.at_ r.2.deep r.2.size r.2.bad]):=by
 obtain⟨bl,bm,bn,bo,bp⟩:=c;unfold gRi at h;refine kF 1 Tryz.func109 rfl (by kernel_rfl) rfl rfl fun A _=>?_;refine goL ?_;obtain⟨⟨ac,ad,am,an,ao⟩,bq,h⟩:=gM h;refine gA7 0 (gVg (vB.mk bl bm bn bo bp) bq) ?_;refine goL ?_;refine qK (pU) ?_;refine gId ?_;obtain⟨b2,hb2,h⟩:=qA h;refine uE (P:=Tryz.prog) Mix.h ⟨[(0,.ptr 0 0),(2,.ptr 1 0),(31,.B b2)],[.box [.S ac,.I ad,.I am,.d (.i .i64 (IntKind.i64.wrap (an+1))),.B ao],.box [.S [],.nilsl]],Tryz.f109.ntmps⟩ (by kernel_rfl) ?_ ?_
 ·refine goL ?_;refine vG 25 (fun c3=>?_) (fun c3=>?_)
  ·replace hb2:=kD c3 hb2;refine goL ?_;cases hb2;exact eJ
  ·replace hb2:=kE c3 hb2;refine goL ?_;cases hb2;exact eJ
 refine goC h ?_ ?_<;>intro c4 h
 ·refine goL ?_;refine gBn (jX TBd.h TZ.h rfl (by repeat constructor)) ?_;refine jG ?_;obtain rfl:=Option.some.inj h;exact yK [.d (.st [.s [],.sl 2 []])] _ ⟨rfl,rfl⟩
 ·refine goS ?_;refine jY (jA ?_);show V _ _ _ _ _;refine gEe (fun(n6:Nat)(y5:Int)=>⟨[(0,.ptr 0 0),(2,.ptr 1 0),(3,.I ad)],[.box [.S ac,.I y5,.I am,.d (.i .i64 (IntKind.i64.wrap (an+1))),.B ao],.box [.S [],.nilsl]],Tryz.f109.ntmps⟩) (fun n6 y5=>zR aa (vB.mk ac ad am an ao) n0 n6 y5=some r) (fun n6 y5=>n6) n0 ad eJ h ?_;rintro n6 y5 h;rcases n6 with _ | n6
  ·cases h
  rw [zR.eq_2] at h;refine gId ?_;obtain⟨b7,hb7,h⟩:=gM h;refine uE (P:=Tryz.prog) Mix.h ⟨[(0,.ptr 0 0),(2,.ptr 1 0),(3,.I ad),(61,.B b7)],[.box [.S ac,.I y5,.I am,.d (.i .i64 (IntKind.i64.wrap (an+1))),.B ao],.box [.S [],.nilsl]],Tryz.f109.ntmps⟩ (by kernel_rfl) ?_ ?_
  ·refine goL ?_;refine vG 50 (fun c8=>?_) (fun c8=>?_)
   ·replace hb7:=kD c8 hb7;refine goL ?_;obtain⟨x9,bb,hb7⟩:=gM hb7;obtain⟨bi,bb⟩:=gDy bb;refine gC1 (gJn bi bb) ?_;refine gC1 (gF (hB7 (x9.toNat:Int))) ?_;refine goL ?_;cases hb7;exact eJ
   ·replace hb7:=kE c8 hb7;refine goL ?_;cases hb7;exact eJ
  refine goC h ?_ ?_<;>intro b1 h
  ·refine noS ?_;refine jA ?_;refine goL ?_;refine jI (pU) ?_;exact⟨n6,(IntKind.i64.wrap (y5+1)),h,Nat.lt_succ_self _,eJ⟩
  ·refine goX ?_;refine kX (fun bc=>?_) (fun bc=>?_)
   ·replace h:=kD bc h;refine jK (P:=Tryz.prog) Mix.h [(0,true),(1,true),(2,true),(3,true),(4,true),(5,true),(6,true),(7,true),(8,true),(9,true),(10,true),(11,false)] (by kernel_rfl) ?_;refine goY ?_;obtain⟨bu,h⟩:=mY h;refine jF rfl (hQo bu) ?_;refine goY ?_;refine kQ ?_;refine goL ?_;refine jG ?_;obtain rfl:=Option.some.inj h;exact yK [.d (.st [.s ((ac.drop (Int.toNat ad)).take (Int.toNat y5 - Int.toNat ad)),.sl 2 []])] _ ⟨rfl,rfl⟩
   ·replace h:=kE bc h;refine noS ?_;refine gId ?_;obtain⟨bv,hb13,h⟩:=gM h;refine uE (P:=Tryz.prog) Mix.h ⟨[(0,.ptr 0 0),(2,.ptr 1 0),(103,.B bv)],[.box [.S ac,.I y5,.I am,.d (.i .i64 (IntKind.i64.wrap (an+1))),.B ao],.box [.S [],.nilsl]],Tryz.f109.ntmps⟩ (by kernel_rfl) ?_ ?_
    ·refine goL ?_;obtain⟨b3,a6,hb13⟩:=gM hb13;obtain⟨bd,a6⟩:=gDy a6;refine gFd (gJn bd a6) ?_;refine goL ?_;refine vG 97 (fun be=>?_) (fun be=>?_)
     ·replace hb13:=kD be hb13;refine goL ?_;cases hb13;exact eJ
     ·replace hb13:=kE be hb13;refine goL ?_;cases hb13;exact eJ
    refine goC h ?_ ?_<;>intro b4 h
    ·refine goL ?_;refine gBn (jX TBd.h TZ.h rfl (by repeat constructor)) ?_;refine jG ?_;obtain rfl:=Option.some.inj h;exact yK [.d (.st [.s [],.sl 2 []])] _ ⟨rfl,rfl⟩
    ·refine goS ?_;refine jI (pU) ?_;refine jI (pU) ?_;refine gBn (jX TBd.h TZ.h rfl (by repeat constructor)) ?_;refine jY (jA ?_);show V _ _ _ _ _;refine yT 135 2 2 1 rfl rfl (by repeat constructor) (by repeat constructor) (by repeat constructor) (by repeat constructor) ?_;show V _ _ _ _ _;refine hTm (fun(ap:Nat)(ax:LB)(ay:Int)(a0:Int)(a3:Int)(a4:Bool)(ak:List gD)(al:Nat)=>⟨[(0,.ptr 0 0),(2,.ptr 1 0),(4,.ptr 2 0)],[bIp ax ay a0 a3 a4,.box [.S [],.nilsl],.box [.S [],.sl 3 al],.arr 135 2 al (gX ak)],Tryz.f109.ntmps⟩) (fun ap ax ay a0 a3 a4 ak al=>vH aa ap ax ay a0 a3 a4 ak=some r) (fun ap ax ay a0 a3 a4 ak al=>ap) n0 ac (IntKind.i64.wrap (y5+1)) (IntKind.i64.wrap (am+1)) (IntKind.i64.wrap (an+1)) ao [] 0 eJ h ?_;rintro ap ax ay a0 a3 a4 ak al h;rcases ap with _ | ap
     ·cases h
     rw [vH.eq_2] at h;refine goC h ?_ ?_<;>intro b5 h
     ·refine noS ?_;refine jA ?_;refine goL ?_;obtain⟨⟨ae,ag,ah,ai,aj⟩,bj,h⟩:=gM h;refine gA7 0 (gVg (vB.mk ax ay a0 a3 a4) bj) ?_;refine gId ?_;obtain⟨bw,hb27,h⟩:=gM h;refine uE (P:=Tryz.prog) Mix.h ⟨[(0,.ptr 0 0),(2,.ptr 1 0),(4,.ptr 2 0),(153,.B bw)],[bIp ae ag ah ai aj,.box [.S [],.nilsl],.box [.S [],.sl 3 al],.arr 135 2 al (gX ak)],Tryz.f109.ntmps⟩ (by kernel_rfl) ?_ ?_
      ·refine goL ?_;refine vG 142 (fun bf=>?_) (fun bf=>?_)
       ·replace hb27:=kD bf hb27;refine goL ?_;obtain⟨b6,a7,hb27⟩:=gM hb27;obtain⟨bg,a7⟩:=gDy a7;refine gC1 (gJn bg a7) ?_;refine goL ?_;cases hb27;exact eJ
       ·replace hb27:=kE bf hb27;refine goL ?_;cases hb27;exact eJ
      refine goC h ?_ ?_<;>intro b8 h
      ·refine goL ?_;refine jI (pU) ?_;refine jI (pU) ?_;refine kP 3 rfl rfl ?_;refine jG ?_;obtain rfl:=Option.some.inj h;exact hGd [.d (.st [.s [],.sl 2 (gX ak)])] [.box [.S ae,.d (.i .i64 (IntKind.i64.wrap (ag+1))),.d (.i .i64 (IntKind.i64.wrap (ah - 1))),.I ai,.B aj]] ⟨rfl,rfl⟩
      ·refine noS ?_;obtain⟨⟨⟨f,y⟩,⟨aq,ar,au,av,aw⟩⟩,a8,h⟩:=gM h;obtain⟨a5,h⟩:=mY h;refine gWg (P:=Tryz.prog) Mix.h (.q 2 (.h 0 (.h 1 (.h 3 (.h 4 (.h 5 (.q 6 (.h 7 .nil .nil)) .nil) .nil) .nil) (.h 3 (.h 1 (.h 4 (.h 5 (.q 6 (.h 7 .nil .nil)) .nil) .nil) (.h 4 (.h 1 (.h 5 (.q 6 (.h 7 .nil .nil)) .nil) .nil) .nil)) .nil)) (.h 3 (.h 0 (.h 1 (.h 4 (.h 5 (.q 6 (.h 7 .nil .nil)) .nil) .nil) (.h 4 (.h 1 (.h 5 (.q 6 (.h 7 .nil .nil)) .nil) .nil) .nil)) (.h 4 (.h 0 (.h 1 (.h 5 (.q 6 (.h 7 .nil .nil)) .nil) .nil) .nil) .nil)) .nil))) ⟨[(0,.ptr 0 0),(2,.ptr 1 0),(4,.ptr 2 0)],[bIp aq ar au av aw,.box [.S [],.nilsl],.box [.S [],.sl 3 (al+1)],.arr 135 2 (al+1) (gX (ak++[(gD.mk f y)])),.arr 135 2 0 (gX [(gD.mk f y)])],Tryz.f109.ntmps⟩ (by kernel_rfl) ?_ ?_
       ·refine goT ?_;refine uV (mM jU) ?_ ?_
        ·refine uV (mM jU) ?_ ?_
         ·refine jR (pO 0 (ab (vB.mk ae ag ah ai aj) a8) jU) ?_;refine jR (qE (T:=133) (us:=gX [(gD.mk f y)]) jU) ?_;refine jR (pW (T:=133) a5 jU) ?_;refine goT ?_;refine jV ?_;exact qX 1 [0,1,2,3,4]
         refine jR (pO 0 (ab (vB.mk ae ag ah ai aj) a8) jU) ?_;refine uV (mM jU) ?_ ?_
         ·refine jR (qE (T:=133) (us:=gX [(gD.mk f y)]) jU) ?_;refine jR (pW (T:=133) a5 jU) ?_;refine goT ?_;refine jV ?_;exact qX 1 [0,1,2,3,4]
         refine jR (qE (T:=133) (us:=gX [(gD.mk f y)]) jU) ?_;refine jR (mM jU) ?_;refine jR (pW (T:=133) a5 jU) ?_;refine goT ?_;refine jV ?_;exact qX 1 [0,1,2,3,4]
        refine jR (pO 0 (ab (vB.mk ae ag ah ai aj) a8) jU) ?_;refine uV (mM jU) ?_ ?_
        ·refine uV (mM jU) ?_ ?_
         ·refine jR (qE (T:=133) (us:=gX [(gD.mk f y)]) jU) ?_;refine jR (pW (T:=133) a5 jU) ?_;refine goT ?_;refine jV ?_;exact qX 1 [0,1,2,3,4]
         refine jR (qE (T:=133) (us:=gX [(gD.mk f y)]) jU) ?_;refine jR (mM jU) ?_;refine jR (pW (T:=133) a5 jU) ?_;refine goT ?_;refine jV ?_;exact qX 1 [0,1,2,3,4]
        refine jR (qE (T:=133) (us:=gX [(gD.mk f y)]) jU) ?_;refine jR (mM jU) ?_;refine jR (mM jU) ?_;refine jR (pW (T:=133) a5 jU) ?_;refine goT ?_;refine jV ?_;exact qX 1 [0,1,2,3,4]
       refine goL ?_;exact⟨ap,aq,ar,au,av,aw,(ak++[(gD.mk f y)]),(al+1),h,Nat.lt_succ_self _,eJ⟩
     ·refine goX ?_;refine kP 3 rfl rfl ?_;refine jG ?_;obtain rfl:=Option.some.inj h;exact hGd [.d (.st [.s [],.sl 2 (gX ak)])] [bIp ax ay a0 a3 a4] ⟨rfl,rfl⟩
def gBz:Nat→vB→Option (gD × vB)
 | 0,_=>none
 | n+1,c=>gRi (gBz n) c n
theorem hPi:∀(n:Nat)(c:vB){r:gD × vB},gBz n c=some r→Go.Eng.Spec Tryz.prog 109 [.ptr 0 0] [bIp c.s c.at_ c.deep c.size c.bad] (fun sv Lo=>sv=.d (pJ r.1)∧Lo=[bIp r.2.s r.2.at_ r.2.deep r.2.size r.2.bad]):=by
 intro n
 induction n with
 | zero=>intro c r h;cases h
 | succ n ih=>intro c r h;exact hPh ih c h
def gAr(c:LB):LB→Bool
 | []=>(gFl (c.length:Int) 1 12)
 | f::xs=>(cnd (!(gGp (f.toNat:Int))) (
false) (
gAr c xs ))
def gFi(c:LB):Bool:=
gAr c c
theorem gT7(y:LB):gY Tryz.prog 162 [.S y] [.b (gFi y)]:=by
 obtain⟨r,h⟩:∃r,gFi y=r:=⟨_,rfl⟩
 rw [h];unfold gFi at h;refine SpI Tryz.func162 fun A _=>?_;refine goL ?_;refine noB ?_;refine hJ5 0 (fun z2=>?_);refine mV (fun(f:Nat)=>⟨[(0,.S y),(3,.N f)],[],Tryz.f162.ntmps⟩) (fun f=>gAr y (y.drop f)  =r) (fun f=>y.length - f) 0 eJ h ?_;rintro f h;refine goL ?_;refine kX (fun c3=>?_) (fun c3=>?_)
 ·have c:=hUu c3;obtain⟨x4,ac,aa⟩:=drop_at c;rw [aa,gAr.eq_2] at h;refine noS ?_;refine jY (jA ?_);refine goL ?_;refine qK (gGj f ac) ?_;refine jI (gF (hB7 (x4.toNat:Int))) ?_;refine kX (fun c5=>?_) (fun c5=>?_)
  ·replace h:=kD c5 h;refine goL ?_;refine jG ?_;subst h;exact qD
  ·replace h:=kE c5 h;refine goS ?_;refine jI (jW f (by omega)) ?_;exact⟨(f+1),h,by omega,eJ⟩
 ·have c:=hUv c3;rw [jC c,gAr.eq_1] at h;refine goX ?_;refine jI (gF (gNz (y.length:Int) 1 12)) ?_;refine jG ?_;subst h;exact qD
def gBf(c:gD→Option (Int)):List gD→Int→Option (Int)
 | [],f=>(some (IntKind.i64.wrap (f+1)))
 | h::xs,f=>bnd (c h) fun y=>
gBf c xs (gM8 f y)
def gKf(c:gD→Option (Int))(f:gD):Option (Int):=
(cnd (!(f.atom==[])) (
(some 0)) (
gBf c f.list 0))
theorem gWy{c:gD→Option (Int)}(f:∀(x0:gD){r:Int},c x0=some r→gY Tryz.prog 131 [.d (pJ x0)] [.i .i64 r])(a0:gD){r:Int}(h:gKf c a0=some r):gY Tryz.prog 131 [.d (pJ a0)] [.i .i64 r]:=by
 obtain⟨ad,aa⟩:=a0;unfold gKf at h;refine SpI Tryz.func131 fun A _=>?_;refine goC h ?_ ?_<;>intro c1 h
 ·exact goR h
 ·refine goS ?_;refine noB ?_;refine wJ 0 1 (fun z4=>?_);refine gEe (fun(y3:Nat)(y2:Int)=>⟨[(1,.ptr 0 0),(3,.I y2),(4,.N y3)],[bSx ad aa],Tryz.f131.ntmps⟩) (fun y3 y2=>gBf c (aa.drop y3) y2=some r) (fun y3 y2=>aa.length - y3) 0 0 eJ h ?_;rintro y3 y2 h;refine goL ?_;refine kX (fun c5=>?_) (fun c5=>?_)
  ·have y:=uR c5;obtain⟨x6,ai,ae⟩:=drop_at y;rw [ae,gBf.eq_2] at h;obtain⟨al,am⟩:=x6;refine noS ?_;refine jY (jA ?_);refine goL ?_;refine jI (jJ y3 (uK ai)) ?_;obtain⟨x7,aj,h⟩:=gM h;refine qK (gF (f _ aj)) ?_;refine jI (gF (hGs y2 x7)) ?_;refine jI (jW y3 (by omega)) ?_;exact⟨(y3+1),(gM8 y2 x7),h,by omega,eJ⟩
  ·have y:=uS c5;rw [jC y,gBf.eq_1] at h;refine goX ?_;refine qK (pU) ?_;exact goR h
def gKg:Nat→gD→Option (Int)
 | 0,_=>none
 | n+1,c=>gKf (gKg n) c
theorem gWz:∀(n:Nat)(c:gD){r:Int},gKg n c=some r→gY Tryz.prog 131 [.d (pJ c)] [.i .i64 r]:=by
 intro n
 induction n with
 | zero=>intro c r h;cases h
 | succ n ih=>intro c r h;exact gWy ih c h
def gCz(c:gD):Option LS:=
bnd (gK7 c.list) fun f=>
(some f.1)
theorem gE8(c:gD){r:LS}(h:gCz c=some r):gY Tryz.prog 164 [.d (pJ c)] [.sl 1 (jL r)]:=by
 obtain⟨y,aa⟩:=c;unfold gCz at h;refine SpI Tryz.func164 fun A _=>?_;refine goL ?_;obtain⟨⟨ab,ac⟩,f,h⟩:=gM h;refine qK (gF (gRw _ f)) ?_;exact goR h
def gJs(c:gD)(a1:Int):Option (List gD):=
gd (0≤(uQ a1 (c.list.length:Int))∧(uQ a1 (c.list.length:Int))≤(c.list.length:Int)) (
(some (c.list.drop (Int.toNat (uQ a1 (c.list.length:Int))))))
theorem gO1(f:gD)(a1:Int){r:List gD}(h:gJs f a1=some r):gY Tryz.prog 165 [.d (pJ f),.I a1] [.sl 2 (gX r)]:=by
 obtain⟨y,c⟩:=f;unfold gJs at h;refine SpI Tryz.func165 fun A _=>?_;refine goL ?_;refine gFd (gF (gJz a1 (c.length:Int))) ?_;obtain⟨g1,h⟩:=mY h;refine gFd (gM3 g1) ?_;exact goR h
def gLw(c:gD→Option (gB))(h:gD)(x8:gD):List gD→(List gB)→Option (gB)
 | [],f=>bnd ((cnd (x8.atom==[97,115,115,111,99]) ((cnd ((f.length:Int)==2) (bnd (at? h.list 1) fun ab=>
(some (!(ab.atom==[])))) ((some false)))) ((some false)))) fun ac=>
(cnd ac (
bnd (at? h.list 1) fun ad=>
gd (0≤(1:Int)∧1≤(f.length:Int)) (
(some (gB.mk 3 ad.atom (f.drop (Int.toNat 1)))))) (
bnd ((cnd (x8.atom==[100,121,110]) ((cnd ((f.length:Int)==1) (bnd (at? h.list 1) fun ae=>
(some (!(ae.atom==[])))) ((some false)))) ((some false)))) fun ag=>
(cnd ag (
bnd (at? h.list 1) fun ah=>
(some (gB.mk 4 ah.atom []))) (
(some (gB.mk 2 x8.atom f))))))
 | ai::xs,f=>bnd (c ai) fun y=>
gd (f.length+[y].length≤4294967296) (
gLw c h x8 xs (f++[y]))
def hMg(c:gD→Option (gB))(f:gD):Option (gB):=
(cnd (!(f.atom==[])) (
bnd (at? f.atom 0) fun h=>
(cnd ((h.toNat:Int)==39) (
gd (0≤(1:Int)∧1≤(f.atom.length:Int)) (
lt_ (gDe (f.atom.drop (Int.toNat 1))) fun y=>
(some y))) (
bnd (gI7 f.atom []) fun x6=>
(some x6)))) (
(cnd (decide ((f.list.length:Int) < 2)) (
(some (gB.mk 0 [] []))) (
bnd (at? f.list 0) fun x8=>
gLw c f x8 (f.list.drop 1) []))))
theorem hX3{c:gD→Option (gB)}(ae:∀(x0:gD){r:gB},c x0=some r→gY Tryz.prog 167 [.d (pJ x0)] [jS r])(a0:gD){r:gB}(h:hMg c a0=some r):gY Tryz.prog 167 [.d (pJ a0)] [jS r]:=by
 obtain⟨ac,y⟩:=a0;unfold hMg at h;refine SpI Tryz.func167 fun A _=>?_;refine goC h ?_ ?_<;>intro c1 h
 ·refine goL ?_;obtain⟨x2,ao,h⟩:=gM h;obtain⟨ad,ao⟩:=gDy ao;refine jI (gJn ad ao) ?_;refine kX (fun c3=>?_) (fun c3=>?_)
  ·replace h:=kD c3 h;refine goL ?_;obtain⟨g4,h⟩:=mY h;refine qK (hQp g4) ?_;obtain⟨⟨b1,b2,b3⟩,bc,h⟩:=qA h;have sx5:=gPa (ac.drop (Int.toNat 1));rw [bc] at sx5;refine qK (gF (sx5)) ?_;exact goR h
  ·replace h:=kE c3 h;refine goS ?_;obtain⟨⟨b4,b5,b6⟩,bd,h⟩:=gM h;refine qK (gF (gPb _ _ bd)) ?_;exact goR h
 ·refine goS ?_;refine kX (fun c7=>?_) (fun c7=>?_)
  ·replace h:=kD c7 h;refine goL ?_;refine zZ (jX TBd.h TZ.h rfl (by repeat constructor)) ?_;exact goR h
  ·replace h:=kE c7 h;refine goS ?_;obtain⟨x8,ap,h⟩:=gM h;obtain⟨a6,ap⟩:=gDy ap;obtain⟨ag,a7⟩:=x8;refine jI (qW a6 (uK ap)) ?_;refine gAp ?_;refine goL ?_;refine noB ?_;refine gB0 21 (fun b9=>?_);refine kS (fun(aa:Nat)(y9:List gB)(f:Nat)=>⟨[(1,.ptr 0 0),(2,.ptr 1 0),(3,.S ag),(4,.sl 2 f),(5,.N aa)],[bSx ac y,.box [.I 0,.S [],.nilsl],.arr 35 3 f (jH y9)],Tryz.f167.ntmps⟩) (fun aa y9 f=>gLw c (gD.mk ac y) (gD.mk ag a7) (y.drop aa) y9=some r) (fun aa y9 f=>y.length - aa) 1 [] 0 eJ h ?_;rintro aa y9 f h;refine goL ?_;refine kX (fun aq=>?_) (fun aq=>?_)
   ·have ab:=uR aq;obtain⟨bf,a8,ar⟩:=drop_at ab;rw [ar,gLw.eq_2] at h;obtain⟨bg,bh⟩:=bf;refine noS ?_;refine jY (jA ?_);refine goL ?_;refine jI (jJ aa (uK a8)) ?_;obtain⟨⟨ah,ai,aj⟩,a9,h⟩:=gM h;refine qK (gF (ae _ a9)) ?_;refine gAo (u:=(.st [.i .i64 ah,.s ai,.sl 3 (jH aj)])) ?_;obtain⟨bi,h⟩:=mY h;refine gBd bi ?_;refine goL ?_;refine jI (jW aa (by omega)) ?_;exact⟨(aa+1),(y9++[(gB.mk ah ai aj)]),(f+1),h,by omega,eJ⟩
   ·have ab:=uS aq;rw [jC ab,gLw.eq_1] at h;refine noX ?_;refine jY (jA ?_);refine goL ?_;obtain⟨bj,hb17,h⟩:=gM h;refine jT ⟨[(1,.ptr 0 0),(2,.ptr 1 0),(3,.S ag),(4,.sl 2 f),(47,.B bj)],[bSx ac y,.box [.I 0,.S [],.nilsl],.arr 35 3 f (jH y9)],Tryz.f167.ntmps⟩ ?_ ?_
    ·refine uD 50 (fun au=>?_) (fun au=>?_) (by first | rfl | (simp only [jE,gU];rfl))
     ·replace hb17:=kD au hb17;refine goL ?_;refine uD 55 (fun av=>?_) (fun av=>?_) (by first | rfl | (simp only [jE,gU];rfl))
      ·replace hb17:=kD av hb17;refine goL ?_;refine gQq ?_;obtain⟨bk,ad,hb17⟩:=gM hb17;obtain⟨aw,ad⟩:=gDy ad;obtain⟨bl,bm⟩:=bk;refine jI (qW aw (uK ad)) ?_;cases hb17;exact⟨rfl,⟨⟨rfl,rfl⟩,⟨rfl,rfl⟩,⟨rfl,rfl⟩,⟨rfl,rfl⟩,⟨by first | rfl | (simp only [jE,gU];rfl),rfl⟩,trivial⟩,⟨_,rfl⟩,rfl⟩
      ·replace hb17:=kE av hb17;refine goL ?_;cases hb17;exact⟨rfl,⟨⟨rfl,rfl⟩,⟨rfl,rfl⟩,⟨rfl,rfl⟩,⟨rfl,rfl⟩,⟨by first | rfl | (simp only [jE,gU];rfl),rfl⟩,trivial⟩,⟨_,rfl⟩,rfl⟩
     ·replace hb17:=kE au hb17;refine goL ?_;cases hb17;exact⟨rfl,⟨⟨rfl,rfl⟩,⟨rfl,rfl⟩,⟨rfl,rfl⟩,⟨rfl,rfl⟩,⟨by first | rfl | (simp only [jE,gU];rfl),rfl⟩,trivial⟩,⟨_,rfl⟩,rfl⟩
    refine goC h ?_ ?_<;>intro ca h
    ·refine kP 2 rfl rfl ?_;refine hZ4 ?_;refine jK (P:=Tryz.prog) Mix.h [(0,true),(1,true),(2,true),(3,true),(4,true),(5,true),(6,true),(7,true),(8,false)] (by kernel_rfl) ?_;refine goY ?_;obtain⟨bn,ak,h⟩:=gM h;obtain⟨ax,ak⟩:=gDy ak;obtain⟨bo,bp⟩:=bn;refine jF rfl (qW ax (uK ak)) ?_;refine goY ?_;obtain⟨bq,h⟩:=mY h;refine jF rfl (gM3 bq) ?_;refine goY ?_;refine kQ ?_;exact goR h
    ·refine goL ?_;obtain⟨br,hb24,h⟩:=gM h;refine jT ⟨[(1,.ptr 0 0),(2,.ptr 1 0),(3,.S ag),(4,.sl 2 f),(71,.B br)],[bSx ac y,.box [.I 0,.S [],.nilsl],.arr 35 3 f (jH y9)],Tryz.f167.ntmps⟩ ?_ ?_
     ·refine uD 74 (fun ay=>?_) (fun ay=>?_) (by first | rfl | (simp only [jE,gU];rfl))
      ·replace hb24:=kD ay hb24;refine goL ?_;refine uD 79 (fun a3=>?_) (fun a3=>?_) (by first | rfl | (simp only [jE,gU];rfl))
       ·replace hb24:=kD a3 hb24;refine goL ?_;refine gQq ?_;obtain⟨bt,al,hb24⟩:=gM hb24;obtain⟨a4,al⟩:=gDy al;obtain⟨bu,bv⟩:=bt;refine jI (qW a4 (uK al)) ?_;cases hb24;exact⟨rfl,⟨⟨rfl,rfl⟩,⟨rfl,rfl⟩,⟨rfl,rfl⟩,⟨rfl,rfl⟩,⟨by first | rfl | (simp only [jE,gU];rfl),rfl⟩,trivial⟩,⟨_,rfl⟩,rfl⟩
       ·replace hb24:=kE a3 hb24;refine goL ?_;cases hb24;exact⟨rfl,⟨⟨rfl,rfl⟩,⟨rfl,rfl⟩,⟨rfl,rfl⟩,⟨rfl,rfl⟩,⟨by first | rfl | (simp only [jE,gU];rfl),rfl⟩,trivial⟩,⟨_,rfl⟩,rfl⟩
      ·replace hb24:=kE ay hb24;refine goL ?_;cases hb24;exact⟨rfl,⟨⟨rfl,rfl⟩,⟨rfl,rfl⟩,⟨rfl,rfl⟩,⟨rfl,rfl⟩,⟨by first | rfl | (simp only [jE,gU];rfl),rfl⟩,trivial⟩,⟨_,rfl⟩,rfl⟩
     refine goC h ?_ ?_<;>intro cb h
     ·refine goL ?_;obtain⟨bw,am,h⟩:=gM h;obtain⟨a5,am⟩:=gDy am;obtain⟨bx,bz⟩:=bw;refine jI (qW a5 (uK am)) ?_;refine zZ (jX TBd.h TZ.h rfl (by repeat constructor)) ?_;exact goR h
     ·refine goS ?_;refine gBn (jX TBd.h TZ.h rfl (by repeat constructor)) ?_;refine kP 2 rfl rfl ?_;refine jG ?_;cases h;exact qD
def gM4:Nat→gD→Option (gB)
 | 0,_=>none
 | n+1,c=>hMg (gM4 n) c
theorem gQl:∀(n:Nat)(c:gD){r:gB},gM4 n c=some r→gY Tryz.prog 167 [.d (pJ c)] [jS r]:=by
 intro n
 induction n with
 | zero=>intro c r h;cases h
 | succ n ih=>intro c r h;exact hX3 ih c h
def gNr(f:LB):Option (Int × Bool):=
bnd (gVj f 12) fun c=>
(some (c.1,c.2))
theorem hBc(f:LB){r:Int × Bool}(h:gNr f=some r):gY Tryz.prog 199 [.S f] [.i .i64 r.1,.b r.2]:=by
 unfold gNr at h;refine SpI Tryz.func199 fun A _=>?_;refine goL ?_;obtain⟨⟨y,aa⟩,c,h⟩:=gM h;refine qK (gF (hNd _ _ c)) ?_;exact goR h
def gAs:LB→Nat→Bool
 | [],f=>true
 | c::xs,f=>lt_ ((cnd (decide ((c.toNat:Int)≥97)) ((decide ((c.toNat:Int)≤122))) (false))) fun y=>
lt_ ((cnd (!y) ((cnd ((f:Int)==0) (true) ((cnd (decide ((c.toNat:Int) < 48)) (true) ((decide ((c.toNat:Int) > 57))))))) (false))) fun h=>
(cnd h (
false) (
gAs xs (f+1)))
def mH(c:LB):Bool:=
lt_ ((cnd (!(gFl (c.length:Int) 1 8)) (true) ((gGr c)))) fun f=>
(cnd f (
false) (
gAs c 0))
theorem qG(y:LB):gY Tryz.prog 137 [.S y] [.b (mH y)]:=by
 obtain⟨r,h⟩:∃r,mH y=r:=⟨_,rfl⟩
 rw [h];unfold mH at h;refine SpI Tryz.func137 fun A _=>?_;refine goL ?_;refine jI (gF (gNz (y.length:Int) 1 8)) ?_;obtain⟨b1,hb1,h⟩:=qA h;refine jT ⟨[(0,.S y),(12,.B b1)],[],Tryz.f137.ntmps⟩ ?_ ?_
 ·refine gqO 9 hb1 (fun c2 hb1=>?_);refine jI (gF (gVl y)) ?_;cases hb1;exact eJ
 refine goC h ?_ ?_<;>intro c3 h
 ·refine goL ?_;refine jG ?_;subst h;exact qD
 ·refine goS ?_;refine noB ?_;refine hJ5 0 (fun z5=>?_);refine mV (fun(c:Nat)=>⟨[(0,.S y),(3,.N c)],[],Tryz.f137.ntmps⟩) (fun c=>gAs (y.drop c) c=r) (fun c=>y.length - c) 0 eJ h ?_;rintro c h;refine goL ?_;refine kX (fun c6=>?_) (fun c6=>?_)
  ·have f:=hUu c6;obtain⟨x7,aa,ab⟩:=drop_at f;rw [ab,gAs.eq_2] at h;refine noS ?_;refine jY (jA ?_);refine goL ?_;refine jI (gGj c aa) ?_;obtain⟨b8,hb8,h⟩:=qA h;refine jT ⟨[(0,.S y),(3,.N c),(4,.B b8)],[],Tryz.f137.ntmps⟩ ?_ ?_
   ·refine gqA 23 hb8 (fun c9 hb8=>?_);refine jI (gGj c aa) ?_;cases hb8;exact eJ
   refine goL ?_;obtain⟨ad,hb10,h⟩:=qA h;refine jT ⟨[(0,.S y),(3,.N c),(46,.B ad)],[],Tryz.f137.ntmps⟩ ?_ ?_
   ·refine gqA 31 hb10 (fun ah hb10=>?_);refine gqO 34 hb10 (fun ai hb10=>?_);refine jI (gGj c aa) ?_;refine gqO 40 hb10 (fun aj hb10=>?_);refine jI (gGj c aa) ?_;cases hb10;exact eJ
   refine goC h ?_ ?_<;>intro ak h
   ·refine goL ?_;refine jG ?_;subst h;exact qD
   ·refine goS ?_;refine jI (jW c (by omega)) ?_;exact⟨(c+1),h,by omega,eJ⟩
  ·have f:=hUv c6;rw [jC f,gAs.eq_1] at h;refine goX ?_;refine jG ?_;subst h;exact qD
def gCh(c:gB→Option (Int)):List gB→Int→Option (Int)
 | [],f=>(some f)
 | h::xs,f=>bnd (c h) fun y=>
gCh c xs (gM8 f (IntKind.i64.wrap ((1:Int)+y)))
def gLx(c:gB→Option (Int))(f:gB):Option (Int):=
gCh c f.args 0
theorem gY5{c:gB→Option (Int)}(f:∀(x0:gB){r:Int},c x0=some r→gY Tryz.prog 244 [.d (jS x0)] [.i .i64 r])(a0:gB){r:Int}(h:gLx c a0=some r):gY Tryz.prog 244 [.d (jS a0)] [.i .i64 r]:=by
 obtain⟨ad,ae,aa⟩:=a0;unfold gLx at h;refine SpI Tryz.func244 fun A _=>?_;refine goL ?_;refine noB ?_;refine wJ 0 2 (fun z3=>?_);refine gEe (fun(y2:Nat)(y1:Int)=>⟨[(1,.ptr 0 0),(3,.I y1),(4,.N y2)],[bTy ad ae aa],Tryz.f244.ntmps⟩) (fun y2 y1=>gCh c (aa.drop y2) y1=some r) (fun y2 y1=>aa.length - y2) 0 0 eJ h ?_;rintro y2 y1 h;refine goL ?_;refine kX (fun c4=>?_) (fun c4=>?_)
 ·have y:=uR c4;obtain⟨x5,aj,ag⟩:=drop_at y;rw [ag,gCh.eq_2] at h;obtain⟨am,an,ao⟩:=x5;refine noS ?_;refine jY (jA ?_);refine goL ?_;refine jI (jJ y2 (zJ aj)) ?_;obtain⟨x6,ak,h⟩:=gM h;refine qK (gF (f _ ak)) ?_;refine qK (pU) ?_;refine jI (gF (hGs y1 (IntKind.i64.wrap ((1:Int)+x6)))) ?_;refine jI (jW y2 (by omega)) ?_;exact⟨(y2+1),(gM8 y1 (IntKind.i64.wrap ((1:Int)+x6))),h,by omega,eJ⟩
 ·have y:=uS c4;rw [jC y,gCh.eq_1] at h;refine goX ?_;refine jG ?_;cases h;exact qD
def gLy:Nat→gB→Option (Int)
 | 0,_=>none
 | n+1,c=>gLx (gLy n) c
theorem gY6:∀(n:Nat)(c:gB){r:Int},gLy n c=some r→gY Tryz.prog 244 [.d (jS c)] [.i .i64 r]:=by
 intro n
 induction n with
 | zero=>intro c r h;cases h
 | succ n ih=>intro c r h;exact gY5 ih c h
def gGl(c:kI):Option LS:=
bnd (gR3 5000 c [] []) fun f=>
(some f)
theorem gQu(a0:kI){r:LS}(h:gGl a0=some r):gY Tryz.prog 234 [.d (gCy a0)] [.sl 1 (jL r)]:=by
 obtain⟨aa,ab,ac,ad,⟨c,f,y⟩,ae,ag⟩:=a0;unfold gGl at h;refine SpI Tryz.func234 fun A _=>?_;refine goL ?_;refine gGk ?_;refine gGk ?_;refine gJp 1 rfl rfl ?_;obtain⟨x1,ai,h⟩:=gM h;refine yJ [2] (hHg 5000 (kI.mk aa ab ac ad (gB.mk c f y) ae ag) [] [] 0 ai) ?_;rintro _ _ ⟨v2,rfl,rfl⟩;show VO _ _ _ _ ⟨(_,.sl 2 v2)::_,[bEx aa ab ac ad c f y ae ag,.frz 9 1 0 [],.own 9 1 v2 (jL x1)],_⟩ _;refine goL ?_;refine qU 2 rfl rfl ?_;refine jG ?_;cases h;exact qD
def gH6(c:gD→Option (Bool)):List gD→Option (Bool)
 | []=>(some true)
 | f::xs=>bnd (c f) fun h=>
(cnd (!h) (
(some false)) (
gH6 c xs ))
def gW0(c:gD→Option (Bool))(f:gD):Option (Bool):=
(cnd (!(f.atom==[])) (
lt_ ((cnd (gFi f.atom) (((f.list.length:Int)==0)) (false))) fun h=>
(some h)) (
gH6 c f.list ))
theorem hPj{c:gD→Option (Bool)}(f:∀(x0:gD){r:Bool},c x0=some r→gY Tryz.prog 130 [.d (pJ x0)] [.b r])(a0:gD){r:Bool}(h:gW0 c a0=some r):gY Tryz.prog 130 [.d (pJ a0)] [.b r]:=by
 obtain⟨ab,aa⟩:=a0;unfold gW0 at h;refine SpI Tryz.func130 fun A _=>?_;refine goC h ?_ ?_<;>intro c1 h
 ·refine goL ?_;refine jI (gF (gT7 ab)) ?_;obtain⟨b2,hb2,h⟩:=qA h;refine jT ⟨[(2,.B b2)],[bSx ab aa],Tryz.f130.ntmps⟩ ?_ ?_
  ·exact gqZ 10 hb2
  exact goR h
 ·refine goS ?_;refine noB ?_;refine wJ 0 1 (fun z5=>?_);refine mV (fun(y4:Nat)=>⟨[(1,.ptr 0 0),(3,.N y4)],[bSx ab aa],Tryz.f130.ntmps⟩) (fun y4=>gH6 c (aa.drop y4)  =some r) (fun y4=>aa.length - y4) 0 eJ h ?_;rintro y4 h;refine goL ?_;refine kX (fun c6=>?_) (fun c6=>?_)
  ·have y:=uR c6;obtain⟨x7,ah,ad⟩:=drop_at y;rw [ad,gH6.eq_2] at h;obtain⟨al,am⟩:=x7;refine noS ?_;refine jY (jA ?_);refine goL ?_;refine jI (jJ y4 (uK ah)) ?_;obtain⟨x8,ai,h⟩:=gM h;refine jI (gF (f _ ai)) ?_;refine kX (fun c9=>?_) (fun c9=>?_)
   ·replace h:=kD c9 h;exact goR h
   ·replace h:=kE c9 h;refine goS ?_;refine jI (jW y4 (by omega)) ?_;exact⟨(y4+1),h,by omega,eJ⟩
  ·have y:=uS c6;rw [jC y,gH6.eq_1] at h;refine goX ?_;refine jG ?_;cases h;exact qD
def gW1:Nat→gD→Option (Bool)
 | 0,_=>none
 | n+1,c=>gW0 (gW1 n) c
theorem hPk:∀(n:Nat)(c:gD){r:Bool},gW1 n c=some r→gY Tryz.prog 130 [.d (pJ c)] [.b r]:=by
 intro n
 induction n with
 | zero=>intro c r h;cases h
 | succ n ih=>intro c r h;exact hPj ih c h
def gH7:List gD→(List gB)→Option (List gB)
 | [],c=>(some c)
 | h::xs,c=>bnd (gM4 5000 h) fun f=>
gd (c.length+[f].length≤4294967296) (
gH7 xs (c++[f]))
def gRj(c:List gD):Option (List gB):=
gH7 c []
theorem hEm(a0:List gD){r:List gB}(h:gRj a0=some r):gY Tryz.prog 166 [.L 2 (gX a0)] [.sl 3 (jH r)]:=by
 unfold gRj at h;refine SpI Tryz.func166 fun A _=>?_;refine goL ?_;refine gAp ?_;refine goL ?_;refine noB ?_;refine gB0 0 (fun z4=>?_);refine kS (fun(f:Nat)(y1:List gB)(v2:Nat)=>⟨[(0,.L 2 (gX a0)),(3,.sl 0 v2),(4,.N f)],[.arr 35 3 v2 (jH y1)],Tryz.f166.ntmps⟩) (fun f y1 v2=>gH7 (a0.drop f) y1=some r) (fun f y1 v2=>a0.length - f) 0 [] 0 eJ h ?_;rintro f y1 v2 h;refine goL ?_;refine kX (fun c5=>?_) (fun c5=>?_)
 ·have c:=uR c5;obtain⟨x6,ai,ag⟩:=drop_at c;rw [ag,gH7.eq_2] at h;obtain⟨ak,al⟩:=x6;refine noS ?_;refine jY (jA ?_);refine goL ?_;refine jI (jJ f (uK ai)) ?_;obtain⟨⟨y,aa,ab⟩,aj,h⟩:=gM h;refine qK (gF (gQl _ _ aj)) ?_;refine gAo (u:=(.st [.i .i64 y,.s aa,.sl 3 (jH ab)])) ?_;obtain⟨g8,h⟩:=mY h;refine gBd g8 ?_;refine goL ?_;refine jI (jW f (by omega)) ?_;exact⟨(f+1),(y1++[(gB.mk y aa ab)]),(v2+1),h,by omega,eJ⟩
 ·have c:=uS c5;rw [jC c,gH7.eq_1] at h;refine goX ?_;refine kP 0 rfl rfl ?_;refine jG ?_;cases h;exact qD
def gW2(y:gD→Option (gO7))(f:(List gD)→Option (List kI))(c:gD→Option (kI))(h:gD):Option (gO7):=
(cnd (decide ((h.list.length:Int) < 2)) (
(some (gO7.mk [] [] (kI.mk 0 [] [] 0 (gB.mk 0 [] []) [] [])))) (
gd (0≤(1:Int)∧(1:Int)≤(IntKind.i64.wrap ((h.list.length:Int) - 1))∧(IntKind.i64.wrap ((h.list.length:Int) - 1))≤(h.list.length:Int)) (
bnd (gK7 ((h.list.drop (Int.toNat 1)).take (Int.toNat (IntKind.i64.wrap ((h.list.length:Int) - 1)) - Int.toNat 1))) fun x3=>
bnd (at? h.list 0) fun x4=>
bnd (at? h.list (IntKind.i64.wrap ((h.list.length:Int) - 1))) fun x5=>
bnd (c x5) fun x6=>
(some (gO7.mk x4.atom x3.1 x6)))))
def gRk(c:gD→Option (gO7)):Prop:=∀(f:gD){r:gO7},c f=some r→gY Tryz.prog 203 [.d (pJ f)] [hTi r]
def gMq(c:(List gD)→Option (List kI)):Prop:=∀(f:List gD){r:List kI},c f=some r→gY Tryz.prog 202 [.L 2 (gX f)] [.sl 9 (gCa r)]
def gLz(c:gD→Option (kI)):Prop:=∀(f:gD){r:kI},c f=some r→gY Tryz.prog 168 [.d (pJ f)] [gCy r]
theorem hPl{y}{c}{f}(ac:gRk y)(ab:gMq c)(aa:gLz f)(a0:gD){r:gO7}(h:gW2 y c f a0=some r):gY Tryz.prog 203 [.d (pJ a0)] [hTi r]:=by
 obtain⟨ap,ad⟩:=a0;unfold gW2 at h;refine SpI Tryz.func203 fun A _=>?_;refine goC h ?_ ?_<;>intro c1 h
 ·refine goL ?_;refine zZ (jX TBd.h TZ.h rfl (by repeat constructor)) ?_;exact goR h
 ·refine goS ?_;refine qK (pU) ?_;obtain⟨g2,h⟩:=mY h;refine qK (hQq g2) ?_;obtain⟨⟨aq,ar⟩,an,h⟩:=gM h;refine qK (gF (gRw ((ad.drop (Int.toNat 1)).take (Int.toNat (IntKind.i64.wrap ((ad.length:Int) - 1)) - Int.toNat 1)) an)) ?_;refine gId ?_;refine jK (P:=Tryz.prog) Mix.h [(0,true),(1,true),(2,true),(3,true),(4,true),(5,true),(6,true),(7,true),(8,true),(9,true),(10,true),(11,true),(12,true),(13,true),(14,false)] (by kernel_rfl) ?_;refine goY ?_;obtain⟨x4,ae,h⟩:=gM h;obtain⟨ah,ae⟩:=gDy ae;obtain⟨au,av⟩:=x4;refine jF rfl (qW ah (uK ae)) ?_;refine goY ?_;refine jF rfl (pU) ?_;obtain⟨x5,ag,h⟩:=gM h;obtain⟨ai,ag⟩:=gDy ag;obtain⟨aw,ax⟩:=x5;refine jF rfl (qW ai (uK ag)) ?_;refine goY ?_;obtain⟨⟨ay,a3,a4,a5,⟨aj,ak,al⟩,a6,a7⟩,ao,h⟩:=gM h;refine jF rfl (gF (aa _ ao)) ?_;refine goY ?_;refine kQ ?_;exact goR h
def gEq(c:gD→Option (kI)):List gD→(List kI)→Option (List kI)
 | [],f=>(some f)
 | y::xs,f=>bnd (c y) fun h=>
gd (f.length+[h].length≤4294967296) (
gEq c xs (f++[h]))
def gP7(h:gD→Option (gO7))(f:(List gD)→Option (List kI))(c:gD→Option (kI))(y:List gD):Option (List kI):=
gEq c y []
theorem hF5{y}{f}{c}(ah:gRk y)(ag:gMq f)(aa:gLz c)(a0:List gD){r:List kI}(h:gP7 y f c a0=some r):gY Tryz.prog 202 [.L 2 (gX a0)] [.sl 9 (gCa r)]:=by
 unfold gP7 at h;refine SpI Tryz.func202 fun A _=>?_;refine goL ?_;refine gAp ?_;refine goL ?_;refine noB ?_;refine gB0 0 (fun z4=>?_);refine kS (fun(y3:Nat)(y1:List kI)(v2:Nat)=>⟨[(0,.L 2 (gX a0)),(3,.sl 0 v2),(4,.N y3)],[.arr 203 9 v2 (gCa y1)],Tryz.f202.ntmps⟩) (fun y3 y1 v2=>gEq c (a0.drop y3) y1=some r) (fun y3 y1 v2=>a0.length - y3) 0 [] 0 eJ h ?_;rintro y3 y1 v2 h;refine goL ?_;refine kX (fun c5=>?_) (fun c5=>?_)
 ·have ab:=uR c5;obtain⟨x6,aw,au⟩:=drop_at ab;rw [au,gEq.eq_2] at h;obtain⟨ay,a3⟩:=x6;refine noS ?_;refine jY (jA ?_);refine goL ?_;refine jI (jJ y3 (uK aw)) ?_;obtain⟨⟨aj,ak,al,am,⟨ac,ad,ae⟩,an,ao⟩,ax,h⟩:=gM h;refine qK (gF (aa _ ax)) ?_;refine gAo (u:=(.st [.i .i64 aj,.s ak,.s al,.i .i64 am,.st [.i .i64 ac,.s ad,.sl 3 (jH ae)],.sl 9 (gCa an),.sl 11 (gK1 ao)])) ?_;obtain⟨g8,h⟩:=mY h;refine gBd g8 ?_;refine goL ?_;refine jI (jW y3 (by omega)) ?_;exact⟨(y3+1),(y1++[(kI.mk aj ak al am (gB.mk ac ad ae) an ao)]),(v2+1),h,by omega,eJ⟩
 ·have ab:=uS c5;rw [jC ab,gEq.eq_1] at h;refine goX ?_;refine kP 0 rfl rfl ?_;refine jG ?_;cases h;exact qD
def gF4(c:gD→Option (gO7))(h:List kI):List gD→(List gO7)→Option (kI)
 | [],f=>(some (kI.mk 7 [] [] 0 (gB.mk 0 [] []) h f))
 | aa::xs,f=>bnd (c aa) fun y=>
gd (f.length+[y].length≤4294967296) (
gF4 c h xs (f++[y]))
def gTn(y:gD→Option (gO7))(c:(List gD)→Option (List kI))(ab:gD→Option (kI))(f:gD):Option (kI):=
(cnd (!(f.atom==[])) (
bnd (gNr f.atom) fun x2=>
(cnd x2.2 (
lt_ (gQy x2.1) fun x4=>
(some x4)) (
(cnd (f.atom==[116,114,117,101]) (
(some (kI.mk 2 [] [] 1 (gB.mk 0 [] []) [] []))) (
(cnd (f.atom==[102,97,108,115,101]) (
(some (kI.mk 2 [] [] 0 (gB.mk 0 [] []) [] []))) (
lt_ (gQz f.atom) fun x7=>
(some x7)))))))) (
gd (([]:List gD).length+f.list.length≤4294967296) (
gd (([]++f.list).length+[(gD.mk [] []),(gD.mk [] []),(gD.mk [] [])].length≤4294967296) (
bnd (at? (([]++f.list)++[(gD.mk [] []),(gD.mk [] []),(gD.mk [] [])]) 1) fun aa=>
bnd (at? (([]++f.list)++[(gD.mk [] []),(gD.mk [] []),(gD.mk [] [])]) 0) fun h=>
(cnd (h.atom==[99,97,108,108]) (
gd (0≤(uQ 2 (f.list.length:Int))∧(uQ 2 (f.list.length:Int))≤(f.list.length:Int)) (
bnd (c (f.list.drop (Int.toNat (uQ 2 (f.list.length:Int))))) fun ac=>
(some (kI.mk 4 [] aa.atom 0 (gB.mk 0 [] []) ac [])))) (
(cnd (h.atom==[109,101,116,104,111,100]) (
bnd (at? (([]++f.list)++[(gD.mk [] []),(gD.mk [] []),(gD.mk [] [])]) 2) fun ad=>
gd (0≤(uQ 3 (f.list.length:Int))∧(uQ 3 (f.list.length:Int))≤(f.list.length:Int)) (
bnd (c (f.list.drop (Int.toNat (uQ 3 (f.list.length:Int))))) fun ae=>
(some (kI.mk 5 aa.atom ad.atom 0 (gB.mk 0 [] []) ae [])))) (
(cnd (h.atom==[110,101,119]) (
gd (0≤(uQ 2 (f.list.length:Int))∧(uQ 2 (f.list.length:Int))≤(f.list.length:Int)) (
bnd (c (f.list.drop (Int.toNat (uQ 2 (f.list.length:Int))))) fun ag=>
(some (kI.mk 6 [] aa.atom 0 (gB.mk 0 [] []) ag [])))) (
(cnd (h.atom==[108,101,116]) (
gd (0≤(uQ 2 (f.list.length:Int))∧(uQ 2 (f.list.length:Int))≤(f.list.length:Int)) (
bnd (c (f.list.drop (Int.toNat (uQ 2 (f.list.length:Int))))) fun ah=>
(some (kI.mk 8 [] aa.atom 0 (gB.mk 0 [] []) ah [])))) (
(cnd (h.atom==[105,102]) (
gd (0≤(1:Int)∧1≤(f.list.length:Int)) (
bnd (c (f.list.drop (Int.toNat 1))) fun ai=>
(some (kI.mk 9 [] [] 0 (gB.mk 0 [] []) ai [])))) (
(cnd (h.atom==[112,97,99,107]) (
gd (0≤(uQ 2 (f.list.length:Int))∧(uQ 2 (f.list.length:Int))≤(f.list.length:Int)) (
bnd (c (f.list.drop (Int.toNat (uQ 2 (f.list.length:Int))))) fun aj=>
(some (kI.mk 11 aa.atom [] 0 (gB.mk 0 [] []) aj [])))) (
(cnd (h.atom==[116,104,101]) (
bnd (gM4 5000 aa) fun ak=>
gd (0≤(uQ 2 (f.list.length:Int))∧(uQ 2 (f.list.length:Int))≤(f.list.length:Int)) (
bnd (c (f.list.drop (Int.toNat (uQ 2 (f.list.length:Int))))) fun al=>
(some (kI.mk 12 [] [] 0 ak al [])))) (
(cnd (h.atom==[99,97,115,101]) (
gd (0≤(1:Int)∧(1:Int)≤(uQ 2 (f.list.length:Int))∧(uQ 2 (f.list.length:Int))≤(f.list.length:Int)) (
bnd (c ((f.list.drop (Int.toNat 1)).take (Int.toNat (uQ 2 (f.list.length:Int)) - Int.toNat 1))) fun am=>
gF4 y am (f.list.drop 2) [])) (
gd (0≤(uQ 1 (f.list.length:Int))∧(uQ 1 (f.list.length:Int))≤(f.list.length:Int)) (
bnd (c (f.list.drop (Int.toNat (uQ 1 (f.list.length:Int))))) fun an=>
(some (kI.mk 10 [] h.atom 0 (gB.mk 0 [] []) an [])))))))))))))))))))))))
theorem hMi{y}{aa}{ab}(ag:gRk y)(c:gMq aa)(a4:gLz ab)(a0:gD){r:kI}(h:gTn y aa ab a0=some r):gY Tryz.prog 168 [.d (pJ a0)] [gCy r]:=by
 obtain⟨a5,f⟩:=a0;unfold gTn at h;refine SpI Tryz.func168 fun A _=>?_;refine goC h ?_ ?_<;>intro c1 h
 ·refine goL ?_;obtain⟨⟨a9,co⟩,bv,h⟩:=gM h;refine jI (gF (hBc _ bv)) ?_;refine jY (jA ?_);refine goC h ?_ ?_<;>intro c3 h
  ·refine goL ?_;obtain⟨⟨cp,cq,cr,cs,⟨bn,bo,bp⟩,ct,cu⟩,bw,h⟩:=qA h;have sx4:=hNe a9;rw [bw] at sx4;refine qK (gF (sx4)) ?_;exact goR h
  ·refine goC h ?_ ?_<;>intro c5 h
   ·refine goL ?_;refine zZ (jX TBd.h TZ.h rfl (by repeat constructor)) ?_;exact goR h
   ·refine goC h ?_ ?_<;>intro c6 h
    ·refine goL ?_;refine zZ (jX TBd.h TZ.h rfl (by repeat constructor)) ?_;exact goR h
    ·refine goS ?_;obtain⟨⟨cv,cw,cx,cy,⟨bq,br,bt⟩,cz,c0⟩,bx,h⟩:=qA h;have sx7:=hNg a5;rw [bx] at sx7;refine qK (gF (sx7)) ?_;exact goR h
 ·refine goS ?_;refine gAp ?_;refine goL ?_;obtain⟨g8,h⟩:=mY h;refine gBd g8 ?_;refine zZ (jX TBd.h TZ.h rfl (by repeat constructor)) ?_;refine zZ (jX TBd.h TZ.h rfl (by repeat constructor)) ?_;refine zZ (jX TBd.h TZ.h rfl (by repeat constructor)) ?_;refine gPz (us:=gX [(gD.mk [] []),(gD.mk [] []),(gD.mk [] [])]) ?_;obtain⟨g9,h⟩:=mY h;refine gBd g9 ?_;refine goL ?_;refine uZ 2 rfl rfl ?_;refine hKl ?_;obtain⟨bz,ap,h⟩:=gM h;obtain⟨av,ap⟩:=gDy ap;obtain⟨b0,b1⟩:=bz;refine jI (qW av (uK ap)) ?_;obtain⟨b2,aq,h⟩:=gM h;obtain⟨aw,aq⟩:=gDy aq;obtain⟨b3,b4⟩:=b2;refine jI (qW aw (uK aq)) ?_;refine jA ?_;refine goC h ?_ ?_<;>intro c7 h
  ·refine jK (P:=Tryz.prog) Mix.h [(0,true),(1,true),(2,true),(3,true),(4,true),(5,true),(6,true),(7,true),(8,false)] (by kernel_rfl) ?_;refine goY ?_;refine jF rfl (gF (gJz 2 (f.length:Int))) ?_;obtain⟨b5,h⟩:=mY h;refine jF rfl (gM3 b5) ?_;obtain⟨c8,ba,h⟩:=gM h;refine jF rfl (gF (c _ ba)) ?_;refine goY ?_;refine kQ ?_;exact goR h
  ·refine goC h ?_ ?_<;>intro c9 h
   ·refine jK (P:=Tryz.prog) Mix.h [(0,true),(1,true),(2,true),(3,true),(4,true),(5,true),(6,true),(7,true),(8,true),(9,true),(10,true),(11,true),(12,false)] (by kernel_rfl) ?_;refine goY ?_;obtain⟨b6,ax,h⟩:=gM h;obtain⟨a6,ax⟩:=gDy ax;obtain⟨b7,b8⟩:=b6;refine jF rfl (qW a6 (uK ax)) ?_;refine goY ?_;refine jF rfl (gF (gJz 3 (f.length:Int))) ?_;obtain⟨b9,h⟩:=mY h;refine jF rfl (gM3 b9) ?_;obtain⟨da,bb,h⟩:=gM h;refine jF rfl (gF (c _ bb)) ?_;refine goY ?_;refine kQ ?_;exact goR h
   ·refine goC h ?_ ?_<;>intro db h
    ·refine jK (P:=Tryz.prog) Mix.h [(0,true),(1,true),(2,true),(3,true),(4,true),(5,true),(6,true),(7,true),(8,false)] (by kernel_rfl) ?_;refine goY ?_;refine jF rfl (gF (gJz 2 (f.length:Int))) ?_;obtain⟨ca,h⟩:=mY h;refine jF rfl (gM3 ca) ?_;obtain⟨dc,bc,h⟩:=gM h;refine jF rfl (gF (c _ bc)) ?_;refine goY ?_;refine kQ ?_;exact goR h
    ·refine goC h ?_ ?_<;>intro dd h
     ·refine jK (P:=Tryz.prog) Mix.h [(0,true),(1,true),(2,true),(3,true),(4,true),(5,true),(6,true),(7,true),(8,false)] (by kernel_rfl) ?_;refine goY ?_;refine jF rfl (gF (gJz 2 (f.length:Int))) ?_;obtain⟨cb,h⟩:=mY h;refine jF rfl (gM3 cb) ?_;obtain⟨de,bd,h⟩:=gM h;refine jF rfl (gF (c _ bd)) ?_;refine goY ?_;refine kQ ?_;exact goR h
     ·refine goC h ?_ ?_<;>intro df h
      ·refine goL ?_;obtain⟨cc,h⟩:=mY h;refine qK (gM3 cc) ?_;obtain⟨dg,be,h⟩:=gM h;refine qK (gF (c _ be)) ?_;refine zZ (jX TBd.h TZ.h rfl (by repeat constructor)) ?_;exact goR h
      ·refine goC h ?_ ?_<;>intro dh h
       ·refine jK (P:=Tryz.prog) Mix.h [(0,true),(1,true),(2,true),(3,true),(4,true),(5,true),(6,true),(7,true),(8,false)] (by kernel_rfl) ?_;refine goY ?_;refine jF rfl (gF (gJz 2 (f.length:Int))) ?_;obtain⟨cd,h⟩:=mY h;refine jF rfl (gM3 cd) ?_;obtain⟨di,bf,h⟩:=gM h;refine jF rfl (gF (c _ bf)) ?_;refine goY ?_;refine kQ ?_;exact goR h
       ·refine goC h ?_ ?_<;>intro dj h
        ·refine jK (P:=Tryz.prog) Mix.h [(0,true),(1,true),(2,true),(3,true),(4,true),(5,true),(6,true),(7,true),(8,true),(9,true),(10,true),(11,false)] (by kernel_rfl) ?_;refine goY ?_;refine jF rfl (qW av (uK ap)) ?_;refine goY ?_;obtain⟨⟨ce,cf,cg⟩,bg,h⟩:=gM h;refine jF rfl (gF (gQl _ _ bg)) ?_;refine goY ?_;refine jF rfl (gF (gJz 2 (f.length:Int))) ?_;obtain⟨ch,h⟩:=mY h;refine jF rfl (gM3 ch) ?_;obtain⟨dk,bh,h⟩:=gM h;refine jF rfl (gF (c _ bh)) ?_;refine goY ?_;refine kQ ?_;exact goR h
        ·refine goC h ?_ ?_<;>intro dl h
         ·refine jK (P:=Tryz.prog) Mix.h [(0,true),(1,true),(2,true),(3,true),(4,true),(5,true),(6,true),(7,false),(8,false)] (by kernel_rfl) ?_;refine goY ?_;refine jF rfl (gF (gJz 2 (f.length:Int))) ?_;obtain⟨ci,h⟩:=mY h;refine jF rfl (hQq ci) ?_;obtain⟨bi,bj,h⟩:=gM h;refine jF rfl (gF (c _ bj)) ?_;refine goY ?_;refine kQ ?_;refine goL ?_;refine noB ?_;refine yT 266 11 4 8 rfl rfl (by repeat constructor) (by repeat constructor) (by repeat constructor) (by repeat constructor) ?_;show V _ _ _ _ _;refine gB0 38 (fun dm=>?_);refine kS (fun(ah:Nat)(ar:List gO7)(au:Nat)=>⟨[(1,.ptr 0 0),(2,.ptr 1 0),(6,.I (f.length:Int)),(8,.ptr 4 0),(9,.N ah)],[bSx a5 f,.box [.I 0,.S [],.S [],.I 0,.I 0,.S [],.nilsl,.nilsl,.nilsl],.frz 135 2 ((0+1)+1) (gX (([]++f)++[(gD.mk [] []),(gD.mk [] []),(gD.mk [] [])])),.arr 135 2 0 (gX [(gD.mk [] []),(gD.mk [] []),(gD.mk [] [])]),.box [.I 7,.S [],.S [],.I 0,.I 0,.S [],.nilsl,.L 9 (gCa bi),.sl 5 au],.arr 266 11 au (gK1 ar)],Tryz.f168.ntmps⟩) (fun ah ar au=>gF4 y bi (f.drop ah) ar=some r) (fun ah ar au=>f.length - ah) 2 [] 0 eJ h ?_;rintro ah ar au h;refine goL ?_;refine kX (fun a7=>?_) (fun a7=>?_)
          ·have ai:=uR a7;obtain⟨cj,bk,a8⟩:=drop_at ai;rw [a8,gF4.eq_2] at h;obtain⟨ck,cl⟩:=cj;refine noS ?_;refine jY (jA ?_);refine uM (P:=Tryz.prog) Mix.h [(0,true),(1,true),(2,true),(3,true),(4,true),(5,true),(6,true),(7,true),(8,false),(9,false),(10,true),(11,false)] (by kernel_rfl) ?_;refine goY ?_;refine jF rfl (jJ ah (uK bk)) ?_;refine goY ?_;obtain⟨⟨ay,a3,⟨aj,ak,al,am,⟨ac,ad,ae⟩,an,ao⟩⟩,bl,h⟩:=gM h;refine jF rfl (gF (ag _ bl)) ?_;refine qE (T:=201) (us:=gK1 [(gO7.mk ay a3 (kI.mk aj ak al am (gB.mk ac ad ae) an ao))]) ?_;obtain⟨cm,h⟩:=mY h;refine pW (T:=201) cm ?_;refine goY ?_;refine kQ ?_;refine goL ?_;refine jI (jW ah (by omega)) ?_;exact⟨(ah+1),(ar++[(gO7.mk ay a3 (kI.mk aj ak al am (gB.mk ac ad ae) an ao))]),(au+1),h,by omega,eJ⟩
          ·have ai:=uS a7;rw [jC ai,gF4.eq_1] at h;refine goX ?_;refine kP 5 rfl rfl ?_;refine jG ?_;cases h;exact qD
         ·refine noS ?_;refine jK (P:=Tryz.prog) Mix.h [(0,true),(1,true),(2,true),(3,true),(4,true),(5,true),(6,true),(7,true),(8,true),(9,true),(10,true),(11,false)] (by kernel_rfl) ?_;refine goY ?_;refine jF rfl (qW aw (uK aq)) ?_;refine goY ?_;refine jF rfl (gF (gJz 1 (f.length:Int))) ?_;obtain⟨cn,h⟩:=mY h;refine jF rfl (gM3 cn) ?_;obtain⟨dn,bm,h⟩:=gM h;refine jF rfl (gF (c _ bm)) ?_;refine goY ?_;refine kQ ?_;exact goR h
mutual
def gRl:Nat→gD→Option (gO7)
 | 0,_=>none
 | n+1,c=>gW2 (gRl n) (gMr n) (gF5 n) c
def gMr:Nat→(List gD)→Option (List kI)
 | 0,_=>none
 | n+1,c=>gP7 (gRl n) (gMr n) (gF5 n) c
def gF5:Nat→gD→Option (kI)
 | 0,_=>none
 | n+1,c=>gTn (gRl n) (gMr n) (gF5 n) c
end
theorem hMk:∀(n:Nat),gRk (gRl n)∧gMq (gMr n)∧gLz (gF5 n):=by
 intro n
 induction n with
 | zero=>exact⟨(by intro c r h;cases h),(by intro c r h;cases h),(by intro c r h;cases h)⟩
 | succ n ih=>
   obtain⟨ih0,ih1,ih2⟩:=ih;refine⟨(fun c r h=>hPl ih0 ih1 ih2 c h),(fun c r h=>hF5 ih0 ih1 ih2 c h),(fun c r h=>hMi ih0 ih1 ih2 c h)⟩
theorem gTo:∀(n:Nat),gLz (gF5 n):=fun n=>(hMk n).2.2
def gF6:LS→Bool
 | []=>true
 | c::xs=>(cnd (!(mH c)) (
false) (
gF6 xs ))
def gL0(c:LS):Bool:=
gF6 c
theorem gY7(y:LS):gY Tryz.prog 176 [.L 1 (jL y)] [.b (gL0 y)]:=by
 obtain⟨r,h⟩:∃r,gL0 y=r:=⟨_,rfl⟩
 rw [h];unfold gL0 at h;refine SpI Tryz.func176 fun A _=>?_;refine goL ?_;refine noB ?_;refine gB0 0 (fun z2=>?_);refine mV (fun(f:Nat)=>⟨[(0,.L 1 (jL y)),(3,.N f)],[],Tryz.f176.ntmps⟩) (fun f=>gF6 (y.drop f)  =r) (fun f=>y.length - f) 0 eJ h ?_;rintro f h;refine goL ?_;refine kX (fun c3=>?_) (fun c3=>?_)
 ·have c:=uR c3;obtain⟨x4,ac,aa⟩:=drop_at c;rw [aa,gF6.eq_2] at h;refine noS ?_;refine jY (jA ?_);refine goL ?_;refine jI (jJ f (gQr ac)) ?_;refine jI (gF (qG x4)) ?_;refine kX (fun c5=>?_) (fun c5=>?_)
  ·replace h:=kD c5 h;refine goL ?_;refine jG ?_;subst h;exact qD
  ·replace h:=kE c5 h;refine goS ?_;refine jI (jW f (by omega)) ?_;exact⟨(f+1),h,by omega,eJ⟩
 ·have c:=uS c3;rw [jC c,gF6.eq_1] at h;refine goX ?_;refine jG ?_;subst h;exact qD
def gIx(c:List gD):Option (gD):=
gd (([]:List gD).length+c.length≤4294967296) (
(some (gD.mk [] ([]++c))))
theorem gMs(c:List gD){r:gD}(h:gIx c=some r):gY Tryz.prog 204 [.L 2 (gX c)] [pJ r]:=by
 unfold gIx at h;refine SpI Tryz.func204 fun A _=>?_;refine goL ?_;refine gAp ?_;refine goL ?_;obtain⟨f,h⟩:=mY h;refine gBd f ?_;refine gBn (jX TBd.h TZ.h rfl (by repeat constructor)) ?_;refine kP 1 rfl rfl ?_;refine jG ?_;cases h;exact qD
def gJt(list:List gD):Option (gD):=
gd (([]:List gD).length+list.length≤4294967296) (
(some (gD.mk [] ([]++list))))
theorem vD(list:List gD){r:gD}(h:gJt list=some r):Go.Eng.Spec Tryz.prog 204 [.L 2 (gX list)] [] (fun sv Lo=>sv=.ag [.S r.atom,.sl 0 0]∧Lo=[.arr 135 2 0 (gX r.list)]):=by
 unfold gJt at h;refine kF 0 Tryz.func204 rfl (by kernel_rfl) rfl rfl fun A _=>?_;refine goL ?_;refine gAp ?_;refine goL ?_;obtain⟨c,h⟩:=mY h;refine gBd c ?_;refine gBn (jX TBd.h TZ.h rfl (by repeat constructor)) ?_;refine jDx (fr':=[(2,.ptr 1 0)]) (Lc:=[.arr 135 2 (0+1) (gX ([]++list)),.box [.S [],.sl 0 (0+1)]]) 0 [1,0] ?_;refine jFx (fr':=[(2,.ptr 1 0)]) (L':=[.arr 135 2 0 (gX ([]++list)),.box [.S [],.sl 0 0]]) 0 0 ?_;refine jG ?_;obtain rfl:=Option.some.inj h;exact yK [.ag [.S [],.sl 0 0]] _ ⟨rfl,rfl⟩
end Go.Proofs.YtegahmhnmjnhhaaGreat
