import Derived.Test.YtfpdlnkkcnmebaaGreatB1
import Derived.Test.YtfpdlnkkcnmebaaGreatF1
set_option maxHeartbeats 4000000
set_option linter.unusedVariables false
set_option linter.unusedSimpArgs false
set_option linter.unusedSectionVars false
namespace Go.Proofs.YtfpdlnkkcnmebaaGreat
open Go Go.Eng
attribute [local irreducible] V VO VQ VY Quiet QR jI mK Rng qE qA pX
def wE(f:wC→Option (gF × wC)):Nat→LB→Int→Int→Int→Bool→(List gF)→Option (gF × wC)
 | 0,ab,ac,ad,ae,aa,y=>none
 | ag+1,ab,ac,ad,ae,aa,y=>(cnd (!aa) (
bnd (gOe (wC.mk ab ac ad ae aa)) fun h=>
bnd ((cnd (decide (h.at_ < (h.s.length:Int))) (bnd (at? h.s h.at_) fun ah=>
(some ((ah.toNat:Int)==41))) ((some false)))) fun ai=>
(cnd ai (
(some ((gF.mk [] y),(wC.mk h.s (IntKind.i64.wrap (h.at_+1)) (IntKind.i64.wrap (h.deep - 1)) h.size h.bad)))) (
bnd (f h) fun q=>
gd (y.length+[q.1].length≤4294967296) (
wE f ag q.2.s q.2.at_ q.2.deep q.2.size q.2.bad (y++[q.1]))))) (
(some ((gF.mk [] y),(wC.mk ab ac ad ae aa)))))
def gAi(f:wC→Option (gF × wC))(h:wC)(n0:Nat):Nat→Int→Option (gF × wC)
 | 0,q=>none
 | n6+1,q=>bnd ((cnd (decide (q < (h.s.length:Int))) (bnd (at? h.s q) fun x9=>
(some (gGo (x9.toNat:Int)))) ((some false)))) fun b7=>
(cnd b7 (
gAi f h n0 n6 (IntKind.i64.wrap (q+1))) (
(cnd (decide (q > h.at_)) (
gd (0≤h.at_∧h.at_≤q∧q≤(h.s.length:Int)) (
(some ((gF.mk ((h.s.drop (Int.toNat h.at_)).take (Int.toNat q - Int.toNat h.at_)) []),(wC.mk h.s q h.deep (IntKind.i64.wrap (h.size+1)) h.bad))))) (
bnd (bnd (at? h.s q) fun y=>
(cnd ((y.toNat:Int) != 40) ((some true)) ((some (h.deep==14))))) fun aa=>
(cnd aa (
(some ((gF.mk [] []),(wC.mk h.s q h.deep (IntKind.i64.wrap (h.size+1)) true)))) (
wE f n0 h.s (IntKind.i64.wrap (q+1)) (IntKind.i64.wrap (h.deep+1)) (IntKind.i64.wrap (h.size+1)) h.bad []))))))
def gPj(f:wC→Option (gF × wC))(c:wC)(q:Nat):Option (gF × wC):=
bnd (gOe c) fun h=>
lt_ ((cnd (decide (h.at_≥(h.s.length:Int))) (true) ((decide ((IntKind.i64.wrap (h.size+1)) > 900))))) fun y=>
(cnd y (
(some ((gF.mk [] []),(wC.mk h.s h.at_ h.deep (IntKind.i64.wrap (h.size+1)) true)))) (
gAi f h q q h.at_))
theorem hG9{aa:wC→Option (gF × wC)}(ab:∀(x0:wC){r:gF × wC},aa x0=some r→Go.Eng.Spec Tryz.prog 173 [.ptr 0 0] [bIp x0.s x0.at_ x0.deep x0.size x0.bad] (fun sv Lo=>sv=.d (qJ r.1)∧Lo=[bIp r.2.s r.2.at_ r.2.deep r.2.size r.2.bad]))(c:wC){n0:Nat}{r:gF × wC}(h:gPj aa c n0=some r):Go.Eng.Spec Tryz.prog 173 [.ptr 0 0] [bIp c.s c.at_ c.deep c.size c.bad] (fun sv Lo=>sv=.d (qJ r.1)∧Lo=[bIp r.2.s r.2.at_ r.2.deep r.2.size r.2.bad]):=by
 obtain⟨bl,bm,bn,bo,bp⟩:=c;unfold gPj at h;refine kJ 1 Tryz.func173 rfl (by kernel_rfl) rfl rfl fun A _=>?_;refine goL ?_;obtain⟨⟨ac,ad,am,an,ao⟩,bq,h⟩:=gJ h;refine mI 0 (gTj (wC.mk bl bm bn bo bp) bq) ?_;refine goL ?_;refine uN (pV) ?_;refine gIb ?_;obtain⟨b2,hb2,h⟩:=uK h;refine wG (P:=Tryz.prog) Mix.h ⟨[(0,.ptr 0 0),(2,.ptr 1 0),(31,.B b2)],[.box [.S ac,.I ad,.I am,.d (.i .i64 (IntKind.i64.wrap (an+1))),.B ao],.box [.S [],.nilsl]],Tryz.f173.ntmps⟩ (by kernel_rfl) ?_ ?_
 ·refine goL ?_;refine gAl 25 (fun c3=>?_) (fun c3=>?_)
  ·replace hb2:=kU c3 hb2;refine goL ?_;cases hb2;exact eJ
  ·replace hb2:=kV c3 hb2;refine goL ?_;cases hb2;exact eJ
 refine goC h ?_ ?_<;>intro c4 h
 ·refine goL ?_;refine yT (jN TBd.h TZ.h rfl (by repeat constructor)) ?_;refine jF ?_;obtain rfl:=Option.some.inj h;exact gAg [.d (.st [.s [],.sl 2 []])] _ ⟨rfl,rfl⟩
 ·refine goS ?_;refine kI (jA ?_);show V _ _ _ _ _;refine gFc (fun(n6:Nat)(y5:Int)=>⟨[(0,.ptr 0 0),(2,.ptr 1 0),(3,.I ad)],[.box [.S ac,.I y5,.I am,.d (.i .i64 (IntKind.i64.wrap (an+1))),.B ao],.box [.S [],.nilsl]],Tryz.f173.ntmps⟩) (fun n6 y5=>gAi aa (wC.mk ac ad am an ao) n0 n6 y5=some r) (fun n6 y5=>n6) n0 ad eJ h ?_;rintro n6 y5 h;rcases n6 with _ | n6
  ·cases h
  rw [gAi.eq_2] at h;refine gIb ?_;obtain⟨b7,hb7,h⟩:=gJ h;refine wG (P:=Tryz.prog) Mix.h ⟨[(0,.ptr 0 0),(2,.ptr 1 0),(3,.I ad),(61,.B b7)],[.box [.S ac,.I y5,.I am,.d (.i .i64 (IntKind.i64.wrap (an+1))),.B ao],.box [.S [],.nilsl]],Tryz.f173.ntmps⟩ (by kernel_rfl) ?_ ?_
  ·refine goL ?_;refine gAl 50 (fun c8=>?_) (fun c8=>?_)
   ·replace hb7:=kU c8 hb7;refine goL ?_;obtain⟨x9,bb,hb7⟩:=gJ hb7;obtain⟨bi,bb⟩:=gBm bb;refine gGh (gNs bi bb) ?_;refine gGh (gI (gYm (x9.toNat:Int))) ?_;refine goL ?_;cases hb7;exact eJ
   ·replace hb7:=kV c8 hb7;refine goL ?_;cases hb7;exact eJ
  refine goC h ?_ ?_<;>intro b1 h
  ·refine noS ?_;refine jA ?_;refine goL ?_;refine jP (pV) ?_;exact⟨n6,(IntKind.i64.wrap (y5+1)),h,Nat.lt_succ_self _,eJ⟩
  ·refine goX ?_;refine mR (fun bc=>?_) (fun bc=>?_)
   ·replace h:=kU bc h;refine jS (P:=Tryz.prog) Mix.h [(0,true),(1,true),(2,true),(3,true),(4,true),(5,true),(6,true),(7,true),(8,true),(9,true),(10,true),(11,false)] (by kernel_rfl) ?_;refine goY ?_;obtain⟨bu,h⟩:=pU h;refine jW rfl (hKw bu) ?_;refine goY ?_;refine mJ ?_;refine goL ?_;refine jF ?_;obtain rfl:=Option.some.inj h;exact gAg [.d (.st [.s ((ac.drop (Int.toNat ad)).take (Int.toNat y5 - Int.toNat ad)),.sl 2 []])] _ ⟨rfl,rfl⟩
   ·replace h:=kV bc h;refine noS ?_;refine gIb ?_;obtain⟨bv,hb13,h⟩:=gJ h;refine wG (P:=Tryz.prog) Mix.h ⟨[(0,.ptr 0 0),(2,.ptr 1 0),(103,.B bv)],[.box [.S ac,.I y5,.I am,.d (.i .i64 (IntKind.i64.wrap (an+1))),.B ao],.box [.S [],.nilsl]],Tryz.f173.ntmps⟩ (by kernel_rfl) ?_ ?_
    ·refine goL ?_;obtain⟨b3,a6,hb13⟩:=gJ hb13;obtain⟨bd,a6⟩:=gBm a6;refine gDi (gNs bd a6) ?_;refine goL ?_;refine gAl 97 (fun be=>?_) (fun be=>?_)
     ·replace hb13:=kU be hb13;refine goL ?_;cases hb13;exact eJ
     ·replace hb13:=kV be hb13;refine goL ?_;cases hb13;exact eJ
    refine goC h ?_ ?_<;>intro b4 h
    ·refine goL ?_;refine yT (jN TBd.h TZ.h rfl (by repeat constructor)) ?_;refine jF ?_;obtain rfl:=Option.some.inj h;exact gAg [.d (.st [.s [],.sl 2 []])] _ ⟨rfl,rfl⟩
    ·refine goS ?_;refine jP (pV) ?_;refine jP (pV) ?_;refine yT (jN TBd.h TZ.h rfl (by repeat constructor)) ?_;refine kI (jA ?_);show V _ _ _ _ _;refine qZ 223 2 2 1 rfl rfl (by repeat constructor) (by repeat constructor) (by repeat constructor) (by repeat constructor) ?_;show V _ _ _ _ _;refine hMm (fun(ap:Nat)(ax:LB)(ay:Int)(a0:Int)(a3:Int)(a4:Bool)(ak:List gF)(al:Nat)=>⟨[(0,.ptr 0 0),(2,.ptr 1 0),(4,.ptr 2 0)],[bIp ax ay a0 a3 a4,.box [.S [],.nilsl],.box [.S [],.sl 3 al],.arr 223 2 al (jB ak)],Tryz.f173.ntmps⟩) (fun ap ax ay a0 a3 a4 ak al=>wE aa ap ax ay a0 a3 a4 ak=some r) (fun ap ax ay a0 a3 a4 ak al=>ap) n0 ac (IntKind.i64.wrap (y5+1)) (IntKind.i64.wrap (am+1)) (IntKind.i64.wrap (an+1)) ao [] 0 eJ h ?_;rintro ap ax ay a0 a3 a4 ak al h;rcases ap with _ | ap
     ·cases h
     rw [wE.eq_2] at h;refine goC h ?_ ?_<;>intro b5 h
     ·refine noS ?_;refine jA ?_;refine goL ?_;obtain⟨⟨ae,ag,ah,ai,aj⟩,bj,h⟩:=gJ h;refine mI 0 (gTj (wC.mk ax ay a0 a3 a4) bj) ?_;refine gIb ?_;obtain⟨bw,hb27,h⟩:=gJ h;refine wG (P:=Tryz.prog) Mix.h ⟨[(0,.ptr 0 0),(2,.ptr 1 0),(4,.ptr 2 0),(153,.B bw)],[bIp ae ag ah ai aj,.box [.S [],.nilsl],.box [.S [],.sl 3 al],.arr 223 2 al (jB ak)],Tryz.f173.ntmps⟩ (by kernel_rfl) ?_ ?_
      ·refine goL ?_;refine gAl 142 (fun bf=>?_) (fun bf=>?_)
       ·replace hb27:=kU bf hb27;refine goL ?_;obtain⟨b6,a7,hb27⟩:=gJ hb27;obtain⟨bg,a7⟩:=gBm a7;refine gGh (gNs bg a7) ?_;refine goL ?_;cases hb27;exact eJ
       ·replace hb27:=kV bf hb27;refine goL ?_;cases hb27;exact eJ
      refine goC h ?_ ?_<;>intro b8 h
      ·refine goL ?_;refine jP (pV) ?_;refine jP (pV) ?_;refine gV 3 rfl rfl ?_;refine jF ?_;obtain rfl:=Option.some.inj h;exact gB5 [.d (.st [.s [],.sl 2 (jB ak)])] [.box [.S ae,.d (.i .i64 (IntKind.i64.wrap (ag+1))),.d (.i .i64 (IntKind.i64.wrap (ah - 1))),.I ai,.B aj]] ⟨rfl,rfl⟩
      ·refine noS ?_;obtain⟨⟨⟨f,y⟩,⟨aq,ar,au,av,aw⟩⟩,a8,h⟩:=gJ h;obtain⟨a5,h⟩:=pU h;refine qY (P:=Tryz.prog) Mix.h (.q 2 (.h 0 (.h 1 (hcT 3 (hcT 4 (hcT 5 (.q 6 (hzT 7))))) (hcT 3 (.h 1 (hcT 4 (hcT 5 (.q 6 (hzT 7)))) (hcT 4 (hcT 1 (hcT 5 (.q 6 (hzT 7)))))))) (hcT 3 (.h 0 (.h 1 (hcT 4 (hcT 5 (.q 6 (hzT 7)))) (hcT 4 (hcT 1 (hcT 5 (.q 6 (hzT 7)))))) (hcT 4 (hcT 0 (hcT 1 (hcT 5 (.q 6 (hzT 7)))))))))) ⟨[(0,.ptr 0 0),(2,.ptr 1 0),(4,.ptr 2 0)],[bIp aq ar au av aw,.box [.S [],.nilsl],.box [.S [],.sl 3 (al+1)],.arr 223 2 (al+1) (jB (ak++[(gF.mk f y)])),.arr 223 2 0 (jB [(gF.mk f y)])],Tryz.f173.ntmps⟩ (by kernel_rfl) ?_ ?_
       ·refine goT ?_;refine uD (kF gZ) ?_ ?_
        ·refine uD (kF gZ) ?_ ?_
         ·refine gQ (qU 0 (ab (wC.mk ae ag ah ai aj) a8) gZ) ?_;refine gQ (kT (T:=221) (us:=jB [(gF.mk f y)]) gZ) ?_;refine gQ (kN (T:=221) a5 gZ) ?_;refine goT ?_;refine jL ?_;exact pQ 1 [0,1,2,3,4]
         refine gQ (qU 0 (ab (wC.mk ae ag ah ai aj) a8) gZ) ?_;refine uD (kF gZ) ?_ ?_
         ·refine gQ (kT (T:=221) (us:=jB [(gF.mk f y)]) gZ) ?_;refine gQ (kN (T:=221) a5 gZ) ?_;refine goT ?_;refine jL ?_;exact pQ 1 [0,1,2,3,4]
         refine gQ (kT (T:=221) (us:=jB [(gF.mk f y)]) gZ) ?_;refine gQ (kF gZ) ?_;refine gQ (kN (T:=221) a5 gZ) ?_;refine goT ?_;refine jL ?_;exact pQ 1 [0,1,2,3,4]
        refine gQ (qU 0 (ab (wC.mk ae ag ah ai aj) a8) gZ) ?_;refine uD (kF gZ) ?_ ?_
        ·refine uD (kF gZ) ?_ ?_
         ·refine gQ (kT (T:=221) (us:=jB [(gF.mk f y)]) gZ) ?_;refine gQ (kN (T:=221) a5 gZ) ?_;refine goT ?_;refine jL ?_;exact pQ 1 [0,1,2,3,4]
         refine gQ (kT (T:=221) (us:=jB [(gF.mk f y)]) gZ) ?_;refine gQ (kF gZ) ?_;refine gQ (kN (T:=221) a5 gZ) ?_;refine goT ?_;refine jL ?_;exact pQ 1 [0,1,2,3,4]
        refine gQ (kT (T:=221) (us:=jB [(gF.mk f y)]) gZ) ?_;refine gQ (kF gZ) ?_;refine gQ (kF gZ) ?_;refine gQ (kN (T:=221) a5 gZ) ?_;refine goT ?_;refine jL ?_;exact pQ 1 [0,1,2,3,4]
       refine goL ?_;exact⟨ap,aq,ar,au,av,aw,(ak++[(gF.mk f y)]),(al+1),h,Nat.lt_succ_self _,eJ⟩
     ·refine goX ?_;refine gV 3 rfl rfl ?_;refine jF ?_;obtain rfl:=Option.some.inj h;exact gB5 [.d (.st [.s [],.sl 2 (jB ak)])] [bIp ax ay a0 a3 a4] ⟨rfl,rfl⟩
def gB3:Nat→wC→Option (gF × wC)
 | 0,_=>none
 | n+1,f=>gPj (gB3 n) f n
theorem hHa:∀(n:Nat)(f:wC){r:gF × wC},gB3 n f=some r→Go.Eng.Spec Tryz.prog 173 [.ptr 0 0] [bIp f.s f.at_ f.deep f.size f.bad] (fun sv Lo=>sv=.d (qJ r.1)∧Lo=[bIp r.2.s r.2.at_ r.2.deep r.2.size r.2.bad]):=by
 intro n
 induction n with
 | zero=>intro f r h;cases h
 | succ n ih=>intro f r h;exact hG9 ih f h
def gAs(f:LB):LB→Bool
 | []=>(gH3 (f.length:Int) 1 12)
 | h::xs=>(cnd (!(gGo (h.toNat:Int))) (
false) (
gAs f xs ))
def gFs(f:LB):Bool:=
gAs f f
theorem gSj(y:LB):jI Tryz.prog 196 [.S y] [.b (gFs y)]:=by
 obtain⟨r,h⟩:∃r,gFs y=r:=⟨_,rfl⟩
 rw [h];unfold gFs at h;refine SpI Tryz.func196 fun A _=>?_;refine goL ?_;refine noB ?_;refine hIa 0 (fun z2=>?_);refine pY (fun(q:Nat)=>⟨[(0,.S y),(3,.N q)],[],Tryz.f196.ntmps⟩) (fun q=>gAs y (y.drop q)  =r) (fun q=>y.length - q) 0 eJ h ?_;rintro q h;refine goL ?_;refine mR (fun c3=>?_) (fun c3=>?_)
 ·have f:=hQl c3;obtain⟨x4,ac,aa⟩:=drop_at f;rw [aa,gAs.eq_2] at h;refine noS ?_;refine kI (jA ?_);refine goL ?_;refine uN (gJy q ac) ?_;refine jP (gI (gYm (x4.toNat:Int))) ?_;refine mR (fun c5=>?_) (fun c5=>?_)
  ·replace h:=kU c5 h;refine goL ?_;refine jF ?_;subst h;exact uM
  ·replace h:=kV c5 h;refine goS ?_;refine jP (kD q (by omega)) ?_;exact⟨(q+1),h,by omega,eJ⟩
 ·have f:=hQm c3;rw [jK f,gAs.eq_1] at h;refine goX ?_;refine jP (gI (gM8 (y.length:Int) 1 12)) ?_;refine jF ?_;subst h;exact uM
def gBo(f:gF→Option (Int)):List gF→Int→Option (Int)
 | [],h=>(some (IntKind.i64.wrap (h+1)))
 | q::xs,h=>bnd (f q) fun y=>
gBo f xs (gMt h y)
def gJp(f:gF→Option (Int))(h:gF):Option (Int):=
(cnd (!(h.atom==[])) (
(some 0)) (
gBo f h.list 0))
theorem gTs{f:gF→Option (Int)}(q:∀(x0:gF){r:Int},f x0=some r→jI Tryz.prog 186 [.d (qJ x0)] [.i .i64 r])(a0:gF){r:Int}(h:gJp f a0=some r):jI Tryz.prog 186 [.d (qJ a0)] [.i .i64 r]:=by
 obtain⟨ad,aa⟩:=a0;unfold gJp at h;refine SpI Tryz.func186 fun A _=>?_;refine goC h ?_ ?_<;>intro c1 h
 ·exact goR h
 ·refine goS ?_;refine noB ?_;refine yC 0 1 (fun z4=>?_);refine gFc (fun(y3:Nat)(y2:Int)=>⟨[(1,.ptr 0 0),(3,.I y2),(4,.N y3)],[bSx ad aa],Tryz.f186.ntmps⟩) (fun y3 y2=>gBo f (aa.drop y3) y2=some r) (fun y3 y2=>aa.length - y3) 0 0 eJ h ?_;rintro y3 y2 h;refine goL ?_;refine mR (fun c5=>?_) (fun c5=>?_)
  ·have y:=vR c5;obtain⟨x6,ai,ae⟩:=drop_at y;rw [ae,gBo.eq_2] at h;obtain⟨al,am⟩:=x6;refine noS ?_;refine kI (jA ?_);refine goL ?_;refine jP (jR y3 (vH ai)) ?_;obtain⟨x7,aj,h⟩:=gJ h;refine uN (gI (q _ aj)) ?_;refine jP (gI (hBv y2 x7)) ?_;refine jP (kD y3 (by omega)) ?_;exact⟨(y3+1),(gMt y2 x7),h,by omega,eJ⟩
  ·have y:=vS c5;rw [jK y,gBo.eq_1] at h;refine goX ?_;refine uN (pV) ?_;exact goR h
def gJq:Nat→gF→Option (Int)
 | 0,_=>none
 | n+1,f=>gJp (gJq n) f
theorem gTt:∀(n:Nat)(f:gF){r:Int},gJq n f=some r→jI Tryz.prog 186 [.d (qJ f)] [.i .i64 r]:=by
 intro n
 induction n with
 | zero=>intro f r h;cases h
 | succ n ih=>intro f r h;exact gTs ih f h
def gCy(f:gF):Option LS:=
bnd (gKp f.list) fun h=>
(some h.1)
theorem gE9(f:gF){r:LS}(h:gCy f=some r):jI Tryz.prog 198 [.d (qJ f)] [.sl 1 (gT r)]:=by
 obtain⟨y,aa⟩:=f;unfold gCy at h;refine SpI Tryz.func198 fun A _=>?_;refine goL ?_;obtain⟨⟨ab,ac⟩,q,h⟩:=gJ h;refine uN (gI (gQe _ q)) ?_;exact goR h
def gI7(f:gF)(a1:Int):Option (List gF):=
gd (0≤(vO a1 (f.list.length:Int))∧(vO a1 (f.list.length:Int))≤(f.list.length:Int)) (
(some (f.list.drop (Int.toNat (vO a1 (f.list.length:Int))))))
theorem gNj(q:gF)(a1:Int){r:List gF}(h:gI7 q a1=some r):jI Tryz.prog 199 [.d (qJ q),.I a1] [.sl 2 (jB r)]:=by
 obtain⟨y,f⟩:=q;unfold gI7 at h;refine SpI Tryz.func199 fun A _=>?_;refine goL ?_;refine gDi (gI (gJm a1 (f.length:Int))) ?_;obtain⟨g1,h⟩:=pU h;refine gDi (gMp g1) ?_;exact goR h
def gKy(f:gF→Option (gB))(q:gF)(x8:gF):List gF→(List gB)→Option (gB)
 | [],h=>bnd ((cnd (x8.atom==[97,115,115,111,99]) ((cnd ((h.length:Int)==2) (bnd (at? q.list 1) fun ab=>
(some (!(ab.atom==[])))) ((some false)))) ((some false)))) fun ac=>
(cnd ac (
bnd (at? q.list 1) fun ad=>
gd (0≤(1:Int)∧1≤(h.length:Int)) (
(some (gB.mk 3 ad.atom (h.drop (Int.toNat 1)))))) (
bnd ((cnd (x8.atom==[100,121,110]) ((cnd ((h.length:Int)==1) (bnd (at? q.list 1) fun ae=>
(some (!(ae.atom==[])))) ((some false)))) ((some false)))) fun ag=>
(cnd ag (
bnd (at? q.list 1) fun ah=>
(some (gB.mk 4 ah.atom []))) (
(some (gB.mk 2 x8.atom h))))))
 | ai::xs,h=>bnd (f ai) fun y=>
gd (h.length+[y].length≤4294967296) (
gKy f q x8 xs (h++[y]))
def hCu(f:gF→Option (gB))(h:gF):Option (gB):=
(cnd (!(h.atom==[])) (
bnd (at? h.atom 0) fun q=>
(cnd ((q.toNat:Int)==39) (
gd (0≤(1:Int)∧1≤(h.atom.length:Int)) (
lt_ (vZ (h.atom.drop (Int.toNat 1))) fun y=>
(some y))) (
bnd (gBa h.atom []) fun x6=>
(some x6)))) (
(cnd (decide ((h.list.length:Int) < 2)) (
(some (gB.mk 0 [] []))) (
bnd (at? h.list 0) fun x8=>
gKy f h x8 (h.list.drop 1) []))))
theorem hOk{f:gF→Option (gB)}(ae:∀(x0:gF){r:gB},f x0=some r→jI Tryz.prog 201 [.d (qJ x0)] [mM r])(a0:gF){r:gB}(h:hCu f a0=some r):jI Tryz.prog 201 [.d (qJ a0)] [mM r]:=by
 obtain⟨ac,y⟩:=a0;unfold hCu at h;refine SpI Tryz.func201 fun A _=>?_;refine goC h ?_ ?_<;>intro c1 h
 ·refine goL ?_;obtain⟨x2,ao,h⟩:=gJ h;obtain⟨ad,ao⟩:=gBm ao;refine jP (gNs ad ao) ?_;refine mR (fun c3=>?_) (fun c3=>?_)
  ·replace h:=kU c3 h;refine goL ?_;obtain⟨g4,h⟩:=pU h;refine uN (hKy g4) ?_;obtain⟨⟨b1,b2,b3⟩,bc,h⟩:=uK h;have sx5:=gCl (ac.drop (Int.toNat 1));rw [bc] at sx5;refine uN (gI (sx5)) ?_;exact goR h
  ·replace h:=kV c3 h;refine goS ?_;obtain⟨⟨b4,b5,b6⟩,bd,h⟩:=gJ h;refine uN (gI (gDy _ _ bd)) ?_;exact goR h
 ·refine goS ?_;refine mR (fun c7=>?_) (fun c7=>?_)
  ·replace h:=kU c7 h;refine goL ?_;refine vP (jN TBd.h TZ.h rfl (by repeat constructor)) ?_;exact goR h
  ·replace h:=kV c7 h;refine goS ?_;obtain⟨x8,ap,h⟩:=gJ h;obtain⟨a6,ap⟩:=gBm ap;obtain⟨ag,a7⟩:=x8;refine jP (uL a6 (vH ap)) ?_;refine gAu ?_;refine goL ?_;refine noB ?_;refine gCw 21 (fun b9=>?_);refine mG (fun(aa:Nat)(y9:List gB)(q:Nat)=>⟨[(1,.ptr 0 0),(2,.ptr 1 0),(3,.S ag),(4,.sl 2 q),(5,.N aa)],[bSx ac y,.box [.I 0,.S [],.nilsl],.arr 37 3 q (gN y9)],Tryz.f201.ntmps⟩) (fun aa y9 q=>gKy f (gF.mk ac y) (gF.mk ag a7) (y.drop aa) y9=some r) (fun aa y9 q=>y.length - aa) 1 [] 0 eJ h ?_;rintro aa y9 q h;refine goL ?_;refine mR (fun aq=>?_) (fun aq=>?_)
   ·have ab:=vR aq;obtain⟨bf,a8,ar⟩:=drop_at ab;rw [ar,gKy.eq_2] at h;obtain⟨bg,bh⟩:=bf;refine noS ?_;refine kI (jA ?_);refine goL ?_;refine jP (jR aa (vH a8)) ?_;obtain⟨⟨ah,ai,aj⟩,a9,h⟩:=gJ h;refine uN (gI (ae _ a9)) ?_;refine uO (u:=(.st [.i .i64 ah,.s ai,.sl 3 (gN aj)])) ?_;obtain⟨bi,h⟩:=pU h;refine gAd bi ?_;refine goL ?_;refine jP (kD aa (by omega)) ?_;exact⟨(aa+1),(y9++[(gB.mk ah ai aj)]),(q+1),h,by omega,eJ⟩
   ·have ab:=vS aq;rw [jK ab,gKy.eq_1] at h;refine noX ?_;refine kI (jA ?_);refine goL ?_;obtain⟨bj,hb17,h⟩:=gJ h;refine kH ⟨[(1,.ptr 0 0),(2,.ptr 1 0),(3,.S ag),(4,.sl 2 q),(47,.B bj)],[bSx ac y,.box [.I 0,.S [],.nilsl],.arr 37 3 q (gN y9)],Tryz.f201.ntmps⟩ ?_ ?_
    ·refine wW 50 (fun au=>?_) (fun au=>?_) (by first | rfl | (simp only [kE,jO];rfl))
     ·replace hb17:=kU au hb17;refine goL ?_;refine wW 55 (fun av=>?_) (fun av=>?_) (by first | rfl | (simp only [kE,jO];rfl))
      ·replace hb17:=kU av hb17;refine goL ?_;refine gRd ?_;obtain⟨bk,ad,hb17⟩:=gJ hb17;obtain⟨aw,ad⟩:=gBm ad;obtain⟨bl,bm⟩:=bk;refine jP (uL aw (vH ad)) ?_;cases hb17;exact⟨rfl,⟨⟨rfl,rfl⟩,⟨rfl,rfl⟩,⟨rfl,rfl⟩,⟨rfl,rfl⟩,⟨by first | rfl | (simp only [kE,jO];rfl),rfl⟩,trivial⟩,⟨_,rfl⟩,rfl⟩
      ·replace hb17:=kV av hb17;refine goL ?_;cases hb17;exact⟨rfl,⟨⟨rfl,rfl⟩,⟨rfl,rfl⟩,⟨rfl,rfl⟩,⟨rfl,rfl⟩,⟨by first | rfl | (simp only [kE,jO];rfl),rfl⟩,trivial⟩,⟨_,rfl⟩,rfl⟩
     ·replace hb17:=kV au hb17;refine goL ?_;cases hb17;exact⟨rfl,⟨⟨rfl,rfl⟩,⟨rfl,rfl⟩,⟨rfl,rfl⟩,⟨rfl,rfl⟩,⟨by first | rfl | (simp only [kE,jO];rfl),rfl⟩,trivial⟩,⟨_,rfl⟩,rfl⟩
    refine goC h ?_ ?_<;>intro ca h
    ·refine gV 2 rfl rfl ?_;refine hR8 ?_;refine jS (P:=Tryz.prog) Mix.h [(0,true),(1,true),(2,true),(3,true),(4,true),(5,true),(6,true),(7,true),(8,false)] (by kernel_rfl) ?_;refine goY ?_;obtain⟨bn,ak,h⟩:=gJ h;obtain⟨ax,ak⟩:=gBm ak;obtain⟨bo,bp⟩:=bn;refine jW rfl (uL ax (vH ak)) ?_;refine goY ?_;obtain⟨bq,h⟩:=pU h;refine jW rfl (gMp bq) ?_;refine goY ?_;refine mJ ?_;exact goR h
    ·refine goL ?_;obtain⟨br,hb24,h⟩:=gJ h;refine kH ⟨[(1,.ptr 0 0),(2,.ptr 1 0),(3,.S ag),(4,.sl 2 q),(71,.B br)],[bSx ac y,.box [.I 0,.S [],.nilsl],.arr 37 3 q (gN y9)],Tryz.f201.ntmps⟩ ?_ ?_
     ·refine wW 74 (fun ay=>?_) (fun ay=>?_) (by first | rfl | (simp only [kE,jO];rfl))
      ·replace hb24:=kU ay hb24;refine goL ?_;refine wW 79 (fun a3=>?_) (fun a3=>?_) (by first | rfl | (simp only [kE,jO];rfl))
       ·replace hb24:=kU a3 hb24;refine goL ?_;refine gRd ?_;obtain⟨bt,al,hb24⟩:=gJ hb24;obtain⟨a4,al⟩:=gBm al;obtain⟨bu,bv⟩:=bt;refine jP (uL a4 (vH al)) ?_;cases hb24;exact⟨rfl,⟨⟨rfl,rfl⟩,⟨rfl,rfl⟩,⟨rfl,rfl⟩,⟨rfl,rfl⟩,⟨by first | rfl | (simp only [kE,jO];rfl),rfl⟩,trivial⟩,⟨_,rfl⟩,rfl⟩
       ·replace hb24:=kV a3 hb24;refine goL ?_;cases hb24;exact⟨rfl,⟨⟨rfl,rfl⟩,⟨rfl,rfl⟩,⟨rfl,rfl⟩,⟨rfl,rfl⟩,⟨by first | rfl | (simp only [kE,jO];rfl),rfl⟩,trivial⟩,⟨_,rfl⟩,rfl⟩
      ·replace hb24:=kV ay hb24;refine goL ?_;cases hb24;exact⟨rfl,⟨⟨rfl,rfl⟩,⟨rfl,rfl⟩,⟨rfl,rfl⟩,⟨rfl,rfl⟩,⟨by first | rfl | (simp only [kE,jO];rfl),rfl⟩,trivial⟩,⟨_,rfl⟩,rfl⟩
     refine goC h ?_ ?_<;>intro cb h
     ·refine goL ?_;obtain⟨bw,am,h⟩:=gJ h;obtain⟨a5,am⟩:=gBm am;obtain⟨bx,bz⟩:=bw;refine jP (uL a5 (vH am)) ?_;refine vP (jN TBd.h TZ.h rfl (by repeat constructor)) ?_;exact goR h
     ·refine goS ?_;refine yT (jN TBd.h TZ.h rfl (by repeat constructor)) ?_;refine gV 2 rfl rfl ?_;refine jF ?_;cases h;exact uM
def gMn:Nat→gF→Option (gB)
 | 0,_=>none
 | n+1,f=>hCu (gMn n) f
theorem gO3:∀(n:Nat)(f:gF){r:gB},gMn n f=some r→jI Tryz.prog 201 [.d (qJ f)] [mM r]:=by
 intro n
 induction n with
 | zero=>intro f r h;cases h
 | succ n ih=>intro f r h;exact hOk ih f h
def gMw(h:LB):Option (Int × Bool):=
bnd (gTm h 12) fun f=>
(some (f.1,f.2))
theorem gWy(q:LB){r:Int × Bool}(h:gMw q=some r):jI Tryz.prog 216 [.S q] [.i .i64 r.1,.b r.2]:=by
 unfold gMw at h;refine SpI Tryz.func216 fun A _=>?_;refine goL ?_;obtain⟨⟨y,aa⟩,f,h⟩:=gJ h;refine uN (gI (hG5 _ _ f)) ?_;exact goR h
def gAt:LB→Nat→Bool
 | [],h=>true
 | f::xs,h=>lt_ ((cnd (decide ((f.toNat:Int)≥97)) ((decide ((f.toNat:Int)≤122))) (false))) fun y=>
lt_ ((cnd (!y) ((cnd ((h:Int)==0) (true) ((cnd (decide ((f.toNat:Int) < 48)) (true) ((decide ((f.toNat:Int) > 57))))))) (false))) fun q=>
(cnd q (
false) (
gAt xs (h+1)))
def pF(f:LB):Bool:=
lt_ ((cnd (!(gH3 (f.length:Int) 1 8)) (true) ((gGq f)))) fun h=>
(cnd h (
false) (
gAt f 0))
theorem uH(y:LB):jI Tryz.prog 192 [.S y] [.b (pF y)]:=by
 obtain⟨r,h⟩:∃r,pF y=r:=⟨_,rfl⟩
 rw [h];unfold pF at h;refine SpI Tryz.func192 fun A _=>?_;refine goL ?_;refine jP (gI (gM8 (y.length:Int) 1 8)) ?_;obtain⟨b1,hb1,h⟩:=uK h;refine kH ⟨[(0,.S y),(12,.B b1)],[],Tryz.f192.ntmps⟩ ?_ ?_
 ·refine gqO 9 hb1 (fun c2 hb1=>?_);refine jP (gI (gTo y)) ?_;cases hb1;exact eJ
 refine goC h ?_ ?_<;>intro c3 h
 ·refine goL ?_;refine jF ?_;subst h;exact uM
 ·refine goS ?_;refine noB ?_;refine hIa 0 (fun z5=>?_);refine pY (fun(f:Nat)=>⟨[(0,.S y),(3,.N f)],[],Tryz.f192.ntmps⟩) (fun f=>gAt (y.drop f) f=r) (fun f=>y.length - f) 0 eJ h ?_;rintro f h;refine goL ?_;refine mR (fun c6=>?_) (fun c6=>?_)
  ·have q:=hQl c6;obtain⟨x7,aa,ab⟩:=drop_at q;rw [ab,gAt.eq_2] at h;refine noS ?_;refine kI (jA ?_);refine goL ?_;refine jP (gJy f aa) ?_;obtain⟨b8,hb8,h⟩:=uK h;refine kH ⟨[(0,.S y),(3,.N f),(4,.B b8)],[],Tryz.f192.ntmps⟩ ?_ ?_
   ·refine gqA 23 hb8 (fun c9 hb8=>?_);refine jP (gJy f aa) ?_;cases hb8;exact eJ
   refine goL ?_;obtain⟨ad,hb10,h⟩:=uK h;refine kH ⟨[(0,.S y),(3,.N f),(46,.B ad)],[],Tryz.f192.ntmps⟩ ?_ ?_
   ·refine gqA 31 hb10 (fun ah hb10=>?_);refine gqO 34 hb10 (fun ai hb10=>?_);refine jP (gJy f aa) ?_;refine gqO 40 hb10 (fun aj hb10=>?_);refine jP (gJy f aa) ?_;cases hb10;exact eJ
   refine goC h ?_ ?_<;>intro ak h
   ·refine goL ?_;refine jF ?_;subst h;exact uM
   ·refine goS ?_;refine jP (kD f (by omega)) ?_;exact⟨(f+1),h,by omega,eJ⟩
  ·have q:=hQm c6;rw [jK q,gAt.eq_1] at h;refine goX ?_;refine jF ?_;subst h;exact uM
def gCb(f:gB→Option (Int)):List gB→Int→Option (Int)
 | [],h=>(some h)
 | q::xs,h=>bnd (f q) fun y=>
gCb f xs (gMt h (IntKind.i64.wrap ((1:Int)+y)))
def gKz(f:gB→Option (Int))(h:gB):Option (Int):=
gCb f h.args 0
theorem gU5{f:gB→Option (Int)}(q:∀(x0:gB){r:Int},f x0=some r→jI Tryz.prog 246 [.d (mM x0)] [.i .i64 r])(a0:gB){r:Int}(h:gKz f a0=some r):jI Tryz.prog 246 [.d (mM a0)] [.i .i64 r]:=by
 obtain⟨ad,ae,aa⟩:=a0;unfold gKz at h;refine SpI Tryz.func246 fun A _=>?_;refine goL ?_;refine noB ?_;refine yC 0 2 (fun z3=>?_);refine gFc (fun(y2:Nat)(y1:Int)=>⟨[(1,.ptr 0 0),(3,.I y1),(4,.N y2)],[bTy ad ae aa],Tryz.f246.ntmps⟩) (fun y2 y1=>gCb f (aa.drop y2) y1=some r) (fun y2 y1=>aa.length - y2) 0 0 eJ h ?_;rintro y2 y1 h;refine goL ?_;refine mR (fun c4=>?_) (fun c4=>?_)
 ·have y:=vR c4;obtain⟨x5,aj,ag⟩:=drop_at y;rw [ag,gCb.eq_2] at h;obtain⟨am,an,ao⟩:=x5;refine noS ?_;refine kI (jA ?_);refine goL ?_;refine jP (jR y2 (gDj aj)) ?_;obtain⟨x6,ak,h⟩:=gJ h;refine uN (gI (q _ ak)) ?_;refine uN (pV) ?_;refine jP (gI (hBv y1 (IntKind.i64.wrap ((1:Int)+x6)))) ?_;refine jP (kD y2 (by omega)) ?_;exact⟨(y2+1),(gMt y1 (IntKind.i64.wrap ((1:Int)+x6))),h,by omega,eJ⟩
 ·have y:=vS c4;rw [jK y,gCb.eq_1] at h;refine goX ?_;refine jF ?_;cases h;exact uM
def gK0:Nat→gB→Option (Int)
 | 0,_=>none
 | n+1,f=>gKz (gK0 n) f
theorem gU6:∀(n:Nat)(f:gB){r:Int},gK0 n f=some r→jI Tryz.prog 246 [.d (mM f)] [.i .i64 r]:=by
 intro n
 induction n with
 | zero=>intro f r h;cases h
 | succ n ih=>intro f r h;exact gU5 ih f h
def gGg(f:gY):Option LS:=
bnd (gRq 5000 f [] []) fun h=>
(some h)
theorem gPd(a0:gY){r:LS}(h:gGg a0=some r):jI Tryz.prog 242 [.d (gBp a0)] [.sl 1 (gT r)]:=by
 obtain⟨aa,ab,ac,ad,⟨f,q,y⟩,ae,ag⟩:=a0;unfold gGg at h;refine SpI Tryz.func242 fun A _=>?_;refine goL ?_;refine gC1 ?_;refine gC1 ?_;refine gBv 1 rfl rfl ?_;obtain⟨x1,ai,h⟩:=gJ h;refine gBz [2] (hEz 5000 (gY.mk aa ab ac ad (gB.mk f q y) ae ag) [] [] 0 ai) ?_;rintro _ _ ⟨v2,rfl,rfl⟩;show VO _ _ _ _ ⟨(_,.sl 2 v2)::_,[bEx aa ab ac ad f q y ae ag,.frz 9 1 0 [],.own 9 1 v2 (gT x1)],_⟩ _;refine goL ?_;refine mP 2 rfl rfl ?_;refine jF ?_;cases h;exact uM
end Go.Proofs.YtfpdlnkkcnmebaaGreat
