import Derived.Test.YtegahmhnmjnhhaaGreatB2
set_option maxHeartbeats 4000000
set_option linter.unusedVariables false
set_option linter.unusedSimpArgs false
set_option linter.unusedSectionVars false
namespace Go.Proofs.YtegahmhnmjnhhaaGreat
open Go Go.Eng
attribute [local irreducible] V VO VQ VY Quiet QR jC kT Rng mU mV mI
def vF(c:vB→Option (gD × vB)):Nat→(List UInt8)→Int→Int→Int→Bool→(List gD)→Option (gD × vB)
 | 0,ab,ac,ad,ae,aa,y=>none
 | ag+1,ab,ac,ad,ae,aa,y=>(cnd (!aa) (
bnd (gPm (vB.mk ab ac ad ae aa)) fun f=>
bnd ((cnd (decide (f.at_ < (f.s.length:Int))) (bnd (at? f.s f.at_) fun ah=>
(some ((ah.toNat:Int)==41))) ((some false)))) fun ai=>
(cnd ai (
(some ((gD.mk [] y),(vB.mk f.s (IntKind.i64.wrap (f.at_+1)) (IntKind.i64.wrap (f.deep - 1)) f.size f.bad)))) (
bnd (c f) fun h=>
gd (y.length+[h.1].length≤4294967296) (
vF c ag h.2.s h.2.at_ h.2.deep h.2.size h.2.bad (y++[h.1]))))) (
(some ((gD.mk [] y),(vB.mk ab ac ad ae aa)))))
def zR(c:vB→Option (gD × vB))(f:vB)(n0:Nat):Nat→Int→Option (gD × vB)
 | 0,h=>none
 | n6+1,h=>bnd ((cnd (decide (h < (f.s.length:Int))) (bnd (at? f.s h) fun x9=>
(some (gGp (x9.toNat:Int)))) ((some false)))) fun b7=>
(cnd b7 (
zR c f n0 n6 (IntKind.i64.wrap (h+1))) (
(cnd (decide (h > f.at_)) (
gd (0≤f.at_∧f.at_≤h∧h≤(f.s.length:Int)) (
(some ((gD.mk ((f.s.drop (Int.toNat f.at_)).take (Int.toNat h - Int.toNat f.at_)) []),(vB.mk f.s h f.deep (IntKind.i64.wrap (f.size+1)) f.bad))))) (
bnd (bnd (at? f.s h) fun y=>
(cnd ((y.toNat:Int) != 40) ((some true)) ((some (f.deep==14))))) fun aa=>
(cnd aa (
(some ((gD.mk [] []),(vB.mk f.s h f.deep (IntKind.i64.wrap (f.size+1)) true)))) (
vF c n0 f.s (IntKind.i64.wrap (h+1)) (IntKind.i64.wrap (f.deep+1)) (IntKind.i64.wrap (f.size+1)) f.bad []))))))
def gQg(f:vB→Option (gD × vB))(c:vB)(y:Nat):Option (gD × vB):=
bnd (gPm c) fun h=>
lt_ ((cnd (decide (h.at_≥(h.s.length:Int))) (true) ((decide ((IntKind.i64.wrap (h.size+1)) > 900))))) fun b2=>
(cnd b2 (
(some ((gD.mk [] []),(vB.mk h.s h.at_ h.deep (IntKind.i64.wrap (h.size+1)) true)))) (
zR f h y y h.at_))
theorem hMb{aa:vB→Option (gD × vB)}(ab:∀(x0:vB) {r:gD × vB},aa x0=some r→Go.Eng.Spec Tryz.prog 109 [.ptr 0 0] [bIp x0.s x0.at_ x0.deep x0.size x0.bad] (fun sv Lo=>sv=.d (pF r.1)∧Lo=[bIp r.2.s r.2.at_ r.2.deep r.2.size r.2.bad]))(c:vB){n0:Nat}{r:gD × vB}(h:gQg aa c n0=some r):Go.Eng.Spec Tryz.prog 109 [.ptr 0 0] [bIp c.s c.at_ c.deep c.size c.bad] (fun sv Lo=>sv=.d (pF r.1)∧Lo=[bIp r.2.s r.2.at_ r.2.deep r.2.size r.2.bad]):=by
 obtain⟨bl,bm,bn,bo,bp⟩:=c;unfold gQg at h;refine kM 1 Tryz.func109 rfl (by kernel_rfl) rfl rfl fun A _=>?_;refine goL ?_;obtain⟨⟨ac,ag,ad,ae,ah⟩,bq,h⟩:=gP h;refine gAr 0 (gWi (vB.mk bl bm bn bo bp) bq) ?_;refine goL ?_;refine qI (pR) ?_;refine gH2 ?_;obtain⟨b2,hb2,h⟩:=qB h;refine uJ (P:=Tryz.prog) Mix.h ⟨[(0,.ptr 0 0),(2,.ptr 1 0),(31,.B b2)],[.box [.S ac,.I ag,.I ad,.d (.i .i64 (IntKind.i64.wrap (ae+1))),.B ah],.box [.S [],.nilsl]],Tryz.f109.ntmps⟩ (by kernel_rfl) ?_ ?_
 ·refine goL ?_;refine yQ 25 (fun c3=>?_) (fun c3=>?_)
  ·replace hb2:=kD c3 hb2;refine goL ?_;cases hb2;exact eJ
  ·replace hb2:=kE c3 hb2;refine goL ?_;cases hb2;exact eJ
 refine goC h ?_ ?_<;>intro c4 h
 ·refine goL ?_;refine gBn (jU TBd.h TZ.h rfl (by repeat constructor)) ?_;refine jK ?_;obtain rfl:=Option.some.inj h;exact zB [.d (.st [.s [],.sl 2 []])] [.box [.S ac,.I ag,.I ad,.d (.i .i64 (IntKind.i64.wrap (ae+1))),.B true]] ⟨rfl,rfl⟩
 ·refine goS ?_;refine jW (jE ?_);show V _ _ _ _ _;refine gEe (fun(n6:Nat) (y5:Int)=>⟨[(0,.ptr 0 0),(2,.ptr 1 0),(3,.I ag)],[.box [.S ac,.I y5,.I ad,.d (.i .i64 (IntKind.i64.wrap (ae+1))),.B ah],.box [.S [],.nilsl]],Tryz.f109.ntmps⟩) (fun n6 y5=>zR aa (vB.mk ac ag ad ae ah) n0 n6 y5=some r) (fun n6 y5=>n6) n0 ag eJ h ?_;rintro n6 y5 h;rcases n6 with _ | n6
  ·cases h
  rw [zR.eq_2] at h;refine gH2 ?_;obtain⟨b7,hb7,h⟩:=gP h;refine uJ (P:=Tryz.prog) Mix.h ⟨[(0,.ptr 0 0),(2,.ptr 1 0),(3,.I ag),(61,.B b7)],[.box [.S ac,.I y5,.I ad,.d (.i .i64 (IntKind.i64.wrap (ae+1))),.B ah],.box [.S [],.nilsl]],Tryz.f109.ntmps⟩ (by kernel_rfl) ?_ ?_
  ·refine goL ?_;refine yQ 50 (fun c8=>?_) (fun c8=>?_)
   ·replace hb7:=kD c8 hb7;refine goL ?_;obtain⟨x9,bb,hb7⟩:=gP hb7;obtain⟨bi,bb⟩:=gEd bb;refine gDf (gJd bi bb) ?_;refine gDf (gF (hC7 (x9.toNat:Int))) ?_;refine goL ?_;cases hb7;exact eJ
   ·replace hb7:=kE c8 hb7;refine goL ?_;cases hb7;exact eJ
  refine goC h ?_ ?_<;>intro b1 h
  ·refine noS ?_;refine jE ?_;refine goL ?_;refine jL (pR) ?_;exact⟨n6,(IntKind.i64.wrap (y5+1)),h,Nat.lt_succ_self _,eJ⟩
  ·refine goX ?_;refine kX (fun bc=>?_) (fun bc=>?_)
   ·replace h:=kD bc h;refine jO (P:=Tryz.prog) Mix.h [(0,true),(1,true),(2,true),(3,true),(4,true),(5,true),(6,true),(7,true),(8,true),(9,true),(10,true),(11,false)] (by kernel_rfl) ?_;refine goY ?_;obtain⟨bu,h⟩:=mW h;refine jI rfl (hPf bu) ?_;refine goY ?_;refine kQ ?_;refine goL ?_;refine jK ?_;obtain rfl:=Option.some.inj h;exact zB [.d (.st [.s ((ac.drop (Int.toNat ag)).take (Int.toNat y5 - Int.toNat ag)),.sl 2 []])] [.box [.S ac,.I y5,.I ad,.d (.i .i64 (IntKind.i64.wrap (ae+1))),.B ah]] ⟨rfl,rfl⟩
   ·replace h:=kE bc h;refine noS ?_;refine gH2 ?_;obtain⟨bv,hb13,h⟩:=gP h;refine uJ (P:=Tryz.prog) Mix.h ⟨[(0,.ptr 0 0),(2,.ptr 1 0),(103,.B bv)],[.box [.S ac,.I y5,.I ad,.d (.i .i64 (IntKind.i64.wrap (ae+1))),.B ah],.box [.S [],.nilsl]],Tryz.f109.ntmps⟩ (by kernel_rfl) ?_ ?_
    ·refine goL ?_;obtain⟨b3,a7,hb13⟩:=gP hb13;obtain⟨bd,a7⟩:=gEd a7;refine gE7 (gJd bd a7) ?_;refine goL ?_;refine yQ 97 (fun be=>?_) (fun be=>?_)
     ·replace hb13:=kD be hb13;refine goL ?_;cases hb13;exact eJ
     ·replace hb13:=kE be hb13;refine goL ?_;cases hb13;exact eJ
    refine goC h ?_ ?_<;>intro b4 h
    ·refine goL ?_;refine gBn (jU TBd.h TZ.h rfl (by repeat constructor)) ?_;refine jK ?_;obtain rfl:=Option.some.inj h;exact zB [.d (.st [.s [],.sl 2 []])] [.box [.S ac,.I y5,.I ad,.d (.i .i64 (IntKind.i64.wrap (ae+1))),.B true]] ⟨rfl,rfl⟩
    ·refine goS ?_;refine jL (pR) ?_;refine jL (pR) ?_;refine gBn (jU TBd.h TZ.h rfl (by repeat constructor)) ?_;refine jW (jE ?_);show V _ _ _ _ _;refine wT 135 2 2 1 rfl rfl (by repeat constructor) (by repeat constructor) (by repeat constructor) (by repeat constructor) ?_;show V _ _ _ _ _;refine gZ5 (fun(ap:Nat) (ax:List UInt8) (ay:Int) (a0:Int) (a3:Int) (a4:Bool) (an:List gD) (ao:Nat)=>⟨[(0,.ptr 0 0),(2,.ptr 1 0),(4,.ptr 2 0)],[bIp ax ay a0 a3 a4,.box [.S [],.nilsl],.box [.S [],.sl 3 ao],.arr 135 2 ao (jA an)],Tryz.f109.ntmps⟩) (fun ap ax ay a0 a3 a4 an ao=>vF aa ap ax ay a0 a3 a4 an=some r) (fun ap ax ay a0 a3 a4 an ao=>ap) n0 ac (IntKind.i64.wrap (y5+1)) (IntKind.i64.wrap (ad+1)) (IntKind.i64.wrap (ae+1)) ah [] 0 eJ h ?_;rintro ap ax ay a0 a3 a4 an ao h;rcases ap with _ | ap
     ·cases h
     rw [vF.eq_2] at h;refine goC h ?_ ?_<;>intro b5 h
     ·refine noS ?_;refine jE ?_;refine goL ?_;obtain⟨⟨ai,aj,ak,al,am⟩,bj,h⟩:=gP h;refine gAr 0 (gWi (vB.mk ax ay a0 a3 a4) bj) ?_;refine gH2 ?_;obtain⟨bw,hb27,h⟩:=gP h;refine uJ (P:=Tryz.prog) Mix.h ⟨[(0,.ptr 0 0),(2,.ptr 1 0),(4,.ptr 2 0),(153,.B bw)],[bIp ai aj ak al am,.box [.S [],.nilsl],.box [.S [],.sl 3 ao],.arr 135 2 ao (jA an)],Tryz.f109.ntmps⟩ (by kernel_rfl) ?_ ?_
      ·refine goL ?_;refine yQ 142 (fun bf=>?_) (fun bf=>?_)
       ·replace hb27:=kD bf hb27;refine goL ?_;obtain⟨b6,a8,hb27⟩:=gP hb27;obtain⟨bg,a8⟩:=gEd a8;refine gDf (gJd bg a8) ?_;refine goL ?_;cases hb27;exact eJ
       ·replace hb27:=kE bf hb27;refine goL ?_;cases hb27;exact eJ
      refine goC h ?_ ?_<;>intro b8 h
      ·refine goL ?_;refine jL (pR) ?_;refine jL (pR) ?_;refine kN 3 rfl rfl ?_;refine jK ?_;obtain rfl:=Option.some.inj h;exact hLc [.d (.st [.s [],.sl 2 (jA an)])] [.box [.S ai,.d (.i .i64 (IntKind.i64.wrap (aj+1))),.d (.i .i64 (IntKind.i64.wrap (ak - 1))),.I al,.B am]] ⟨rfl,rfl⟩
      ·refine noS ?_;obtain⟨⟨⟨f,y⟩,⟨aq,ar,au,av,aw⟩⟩,a9,h⟩:=gP h;obtain⟨a5,h⟩:=mW h;refine gV8 (P:=Tryz.prog) Mix.h (.q 2 (.h 0 (.h 1 (.h 3 (.h 4 (.h 5 (.q 6 (.h 7 .nil .nil)) .nil) .nil) .nil) (.h 3 (.h 1 (.h 4 (.h 5 (.q 6 (.h 7 .nil .nil)) .nil) .nil) (.h 4 (.h 1 (.h 5 (.q 6 (.h 7 .nil .nil)) .nil) .nil) .nil)) .nil)) (.h 3 (.h 0 (.h 1 (.h 4 (.h 5 (.q 6 (.h 7 .nil .nil)) .nil) .nil) (.h 4 (.h 1 (.h 5 (.q 6 (.h 7 .nil .nil)) .nil) .nil) .nil)) (.h 4 (.h 0 (.h 1 (.h 5 (.q 6 (.h 7 .nil .nil)) .nil) .nil) .nil) .nil)) .nil))) ⟨[(0,.ptr 0 0),(2,.ptr 1 0),(4,.ptr 2 0)],[bIp aq ar au av aw,.box [.S [],.nilsl],.box [.S [],.sl 3 (ao+1)],.arr 135 2 (ao+1) (jA (an++[(gD.mk f y)])),.arr 135 2 0 (jA [(gD.mk f y)])],Tryz.f109.ntmps⟩ (by kernel_rfl) ?_ ?_
       ·refine goT ?_;refine vW (pJ jX) ?_ ?_
        ·refine vW (pJ jX) ?_ ?_
         ·refine jV (qX 0 (ab (vB.mk ai aj ak al am) a9) jX) ?_;refine jV (qE (T:=133) (us:=jA [(gD.mk f y)]) jX) ?_;refine jV (pV (T:=133) a5 jX) ?_;refine goT ?_;refine jY ?_;exact uK 1 [0,1,2,3,4]
         refine jV (qX 0 (ab (vB.mk ai aj ak al am) a9) jX) ?_;refine vW (pJ jX) ?_ ?_
         ·refine jV (qE (T:=133) (us:=jA [(gD.mk f y)]) jX) ?_;refine jV (pV (T:=133) a5 jX) ?_;refine goT ?_;refine jY ?_;exact uK 1 [0,1,2,3,4]
         refine jV (qE (T:=133) (us:=jA [(gD.mk f y)]) jX) ?_;refine jV (pJ jX) ?_;refine jV (pV (T:=133) a5 jX) ?_;refine goT ?_;refine jY ?_;exact uK 1 [0,1,2,3,4]
        refine jV (qX 0 (ab (vB.mk ai aj ak al am) a9) jX) ?_;refine vW (pJ jX) ?_ ?_
        ·refine vW (pJ jX) ?_ ?_
         ·refine jV (qE (T:=133) (us:=jA [(gD.mk f y)]) jX) ?_;refine jV (pV (T:=133) a5 jX) ?_;refine goT ?_;refine jY ?_;exact uK 1 [0,1,2,3,4]
         refine jV (qE (T:=133) (us:=jA [(gD.mk f y)]) jX) ?_;refine jV (pJ jX) ?_;refine jV (pV (T:=133) a5 jX) ?_;refine goT ?_;refine jY ?_;exact uK 1 [0,1,2,3,4]
        refine jV (qE (T:=133) (us:=jA [(gD.mk f y)]) jX) ?_;refine jV (pJ jX) ?_;refine jV (pJ jX) ?_;refine jV (pV (T:=133) a5 jX) ?_;refine goT ?_;refine jY ?_;exact uK 1 [0,1,2,3,4]
       refine goL ?_;exact⟨ap,aq,ar,au,av,aw,(an++[(gD.mk f y)]),(ao+1),h,Nat.lt_succ_self _,eJ⟩
     ·refine goX ?_;refine kN 3 rfl rfl ?_;refine jK ?_;obtain rfl:=Option.some.inj h;exact hLc [.d (.st [.s [],.sl 2 (jA an)])] [bIp ax ay a0 a3 a4] ⟨rfl,rfl⟩
def gBv:Nat→vB→Option (gD × vB)
 | 0,_=>none
 | n+1,c=>gQg (gBv n) c n
theorem hMc:∀(n:Nat) (c:vB) {r:gD × vB},gBv n c=some r→Go.Eng.Spec Tryz.prog 109 [.ptr 0 0] [bIp c.s c.at_ c.deep c.size c.bad] (fun sv Lo=>sv=.d (pF r.1)∧Lo=[bIp r.2.s r.2.at_ r.2.deep r.2.size r.2.bad]):=by
 intro n
 induction n with
 | zero=>intro c r h;cases h
 | succ n ih=>intro c r h;exact hMb ih c h
def gAd(c:List UInt8):List UInt8→Bool
 | []=>(gHw (c.length:Int) 1 12)
 | f::xs=>(cnd (!(gGp (f.toNat:Int))) (
false) (
gAd c xs ))
def gE6(c:List UInt8):Bool:=
gAd c c
theorem gTp(y:List UInt8):jC Tryz.prog 162 [.S y] [.b (gE6 y)]:=by
 obtain⟨r,h⟩:∃r,gE6 y=r:=⟨_,rfl⟩
 rw [h];unfold gE6 at h;refine SpI Tryz.func162 fun A _=>?_;refine goL ?_;refine noB ?_;refine hId 0 (fun z2=>?_);refine mQ (fun(f:Nat)=>⟨[(0,.S y),(3,.N f)],[],Tryz.f162.ntmps⟩) (fun f=>gAd y (y.drop f)  =r) (fun f=>y.length - f) 0 eJ h ?_;rintro f h;refine goL ?_;refine kX (fun c3=>?_) (fun c3=>?_)
 ·have c:=hS3 c3;obtain⟨x4,ac,aa⟩:=drop_at c;rw [aa,gAd.eq_2] at h;refine noS ?_;refine jW (jE ?_);refine goL ?_;refine qI (gF8 f ac) ?_;refine jL (gF (hC7 (x4.toNat:Int))) ?_;refine kX (fun c5=>?_) (fun c5=>?_)
  ·replace h:=kD c5 h;refine goL ?_;refine jK ?_;subst h;exact qA
  ·replace h:=kE c5 h;refine goS ?_;refine jL (jR f (by omega)) ?_;exact⟨(f+1),h,by omega,eJ⟩
 ·have c:=hS4 c3;rw [jF c,gAd.eq_1] at h;refine goX ?_;refine jL (gF (gP1 (y.length:Int) 1 12)) ?_;refine jK ?_;subst h;exact qA
def gBb(c:gD→Option (Int)):List gD→Int→Option (Int)
 | [],f=>(some (IntKind.i64.wrap (f+1)))
 | h::xs,f=>bnd (c h) fun y=>
gBb c xs (gM1 f y)
def gJu(c:gD→Option (Int))(f:gD):Option (Int):=
(cnd (!(f.atom==[])) (
(some 0)) (
gBb c f.list 0))
theorem gVm{c:gD→Option (Int)}(f:∀(x0:gD) {r:Int},c x0=some r→jC Tryz.prog 131 [.d (pF x0)] [.i .i64 r])(a0:gD){r:Int}(h:gJu c a0=some r):jC Tryz.prog 131 [.d (pF a0)] [.i .i64 r]:=by
 obtain⟨ad,aa⟩:=a0;unfold gJu at h;refine SpI Tryz.func131 fun A _=>?_;refine goC h ?_ ?_<;>intro c1 h
 ·exact goR h
 ·refine goS ?_;refine noB ?_;refine wN 0 1 (fun z4=>?_);refine gEe (fun(y3:Nat) (y2:Int)=>⟨[(1,.ptr 0 0),(3,.I y2),(4,.N y3)],[bSx ad aa],Tryz.f131.ntmps⟩) (fun y3 y2=>gBb c (aa.drop y3) y2=some r) (fun y3 y2=>aa.length - y3) 0 0 eJ h ?_;rintro y3 y2 h;refine goL ?_;refine kX (fun c5=>?_) (fun c5=>?_)
  ·have y:=uR c5;obtain⟨x6,ai,ae⟩:=drop_at y;rw [ae,gBb.eq_2] at h;obtain⟨al,am⟩:=x6;refine noS ?_;refine jW (jE ?_);refine goL ?_;refine jL (jM y3 (uG ai)) ?_;obtain⟨x7,aj,h⟩:=gP h;refine qI (gF (f _ aj)) ?_;refine jL (gF (hGc y2 x7)) ?_;refine jL (jR y3 (by omega)) ?_;exact⟨(y3+1),(gM1 y2 x7),h,by omega,eJ⟩
  ·have y:=uS c5;rw [jF y,gBb.eq_1] at h;refine goX ?_;refine qI (pR) ?_;exact goR h
def gJv:Nat→gD→Option (Int)
 | 0,_=>none
 | n+1,c=>gJu (gJv n) c
theorem gVn:∀(n:Nat) (c:gD) {r:Int},gJv n c=some r→jC Tryz.prog 131 [.d (pF c)] [.i .i64 r]:=by
 intro n
 induction n with
 | zero=>intro c r h;cases h
 | succ n ih=>intro c r h;exact gVm ih c h
def gCn(c:gD):Option (List (List UInt8)):=
bnd (gK3 c.list) fun f=>
(some f.1)
theorem gEr(c:gD){r:List (List UInt8)}(h:gCn c=some r):jC Tryz.prog 164 [.d (pF c)] [.sl 1 (jP r)]:=by
 obtain⟨y,aa⟩:=c;unfold gCn at h;refine SpI Tryz.func164 fun A _=>?_;refine goL ?_;obtain⟨⟨ab,ac⟩,f,h⟩:=gP h;refine qI (gF (gRn _ f)) ?_;exact goR h
def gI7(c:gD)(a1:Int):Option (List gD):=
gd (0≤(uQ a1 (c.list.length:Int))∧(uQ a1 (c.list.length:Int))≤(c.list.length:Int)) (
(some (c.list.drop (Int.toNat (uQ a1 (c.list.length:Int))))))
theorem gNy(f:gD)(a1:Int){r:List gD}(h:gI7 f a1=some r):jC Tryz.prog 165 [.d (pF f),.I a1] [.sl 2 (jA r)]:=by
 obtain⟨y,c⟩:=f;unfold gI7 at h;refine SpI Tryz.func165 fun A _=>?_;refine goL ?_;refine gE7 (gF (gJr a1 (c.length:Int))) ?_;obtain⟨g1,h⟩:=mW h;refine gE7 (gMv g1) ?_;exact goR h
def gK7(c:gD→Option (gB))(h:gD)(x8:gD):List gD→(List gB)→Option (gB)
 | [],f=>bnd ((cnd (x8.atom==[97,115,115,111,99]) ((cnd ((f.length:Int)==2) (bnd (at? h.list 1) fun ab=>
(some (!(ab.atom==[])))) ((some false)))) ((some false)))) fun ac=>
(cnd ac (
bnd (at? h.list 1) fun ad=>
gd (0≤(1:Int)∧1≤(f.length:Int)) (
(some (gB.mk 3 ad.atom (f.drop (Int.toNat 1)))))) (
bnd ((cnd (x8.atom==[100,121,110]) ((cnd ((f.length:Int)==1) (bnd (at? h.list 1) fun ae=>
(some (!(ae.atom==[])))) ((some false)))) ((some false)))) fun ag=>
(cnd ag (
bnd (at? h.list 1) fun ah=>
(some (gB.mk 4 ah.atom []))) (
(some (gB.mk 2 x8.atom f))))))
 | ai::xs,f=>bnd (c ai) fun y=>
gd (f.length+[y].length≤4294967296) (
gK7 c h x8 xs (f++[y]))
def hGh(c:gD→Option (gB))(f:gD):Option (gB):=
(cnd (!(f.atom==[])) (
bnd (at? f.atom 0) fun h=>
(cnd ((h.toNat:Int)==39) (
gd (0≤(1:Int)∧1≤(f.atom.length:Int)) (
lt_ (wG (f.atom.drop (Int.toNat 1))) fun y=>
(some y))) (
bnd (gI0 f.atom []) fun x6=>
(some x6)))) (
(cnd (decide ((f.list.length:Int) < 2)) (
(some (gB.mk 0 [] []))) (
bnd (at? f.list 0) fun x8=>
gK7 c f x8 (f.list.drop 1) []))))
theorem hTo{c:gD→Option (gB)}(ae:∀(x0:gD) {r:gB},c x0=some r→jC Tryz.prog 167 [.d (pF x0)] [jS r])(a0:gD){r:gB}(h:hGh c a0=some r):jC Tryz.prog 167 [.d (pF a0)] [jS r]:=by
 obtain⟨ac,y⟩:=a0;unfold hGh at h;refine SpI Tryz.func167 fun A _=>?_;refine goC h ?_ ?_<;>intro c1 h
 ·refine goL ?_;obtain⟨x2,ao,h⟩:=gP h;obtain⟨ad,ao⟩:=gEd ao;refine jL (gJd ad ao) ?_;refine kX (fun c3=>?_) (fun c3=>?_)
  ·replace h:=kD c3 h;refine goL ?_;obtain⟨g4,h⟩:=mW h;refine qI (hPg g4) ?_;obtain⟨⟨b1,b2,b3⟩,bc,h⟩:=qB h;have sx5:=gM2 (ac.drop (Int.toNat 1));rw [bc] at sx5;refine qI (gF (sx5)) ?_;exact goR h
  ·replace h:=kE c3 h;refine goS ?_;obtain⟨⟨b4,b5,b6⟩,bd,h⟩:=gP h;refine qI (gF (gOy _ _ bd)) ?_;exact goR h
 ·refine goS ?_;refine kX (fun c7=>?_) (fun c7=>?_)
  ·replace h:=kD c7 h;refine goL ?_;refine gAq (jU TBd.h TZ.h rfl (by repeat constructor)) ?_;exact goR h
  ·replace h:=kE c7 h;refine goS ?_;obtain⟨x8,ap,h⟩:=gP h;obtain⟨a6,ap⟩:=gEd ap;obtain⟨ag,a7⟩:=x8;refine jL (qP a6 (uG ap)) ?_;refine gAl ?_;refine goL ?_;refine noB ?_;refine gBx 21 (fun b9=>?_);refine kS (fun(aa:Nat) (y9:List gB) (f:Nat)=>⟨[(1,.ptr 0 0),(2,.ptr 1 0),(3,.S ag),(4,.sl 2 f),(5,.N aa)],[bSx ac y,.box [.I 0,.S [],.nilsl],.arr 35 3 f (jJ y9)],Tryz.f167.ntmps⟩) (fun aa y9 f=>gK7 c (gD.mk ac y) (gD.mk ag a7) (y.drop aa) y9=some r) (fun aa y9 f=>y.length - aa) 1 [] 0 eJ h ?_;rintro aa y9 f h;refine goL ?_;refine kX (fun aq=>?_) (fun aq=>?_)
   ·have ab:=uR aq;obtain⟨bf,a8,ar⟩:=drop_at ab;rw [ar,gK7.eq_2] at h;obtain⟨bg,bh⟩:=bf;refine noS ?_;refine jW (jE ?_);refine goL ?_;refine jL (jM aa (uG a8)) ?_;obtain⟨⟨ah,ai,aj⟩,a9,h⟩:=gP h;refine qI (gF (ae _ a9)) ?_;refine gAk (u:=(.st [.i .i64 ah,.s ai,.sl 3 (jJ aj)])) ?_;obtain⟨bi,h⟩:=mW h;refine gBd bi ?_;refine goL ?_;refine jL (jR aa (by omega)) ?_;exact⟨(aa+1),(y9++[(gB.mk ah ai aj)]),(f+1),h,by omega,eJ⟩
   ·have ab:=uS aq;rw [jF ab,gK7.eq_1] at h;refine noX ?_;refine jW (jE ?_);refine goL ?_;obtain⟨bj,hb17,h⟩:=gP h;refine jT ⟨[(1,.ptr 0 0),(2,.ptr 1 0),(3,.S ag),(4,.sl 2 f),(47,.B bj)],[bSx ac y,.box [.I 0,.S [],.nilsl],.arr 35 3 f (jJ y9)],Tryz.f167.ntmps⟩ ?_ ?_
    ·refine pX 50 (fun au=>?_) (fun au=>?_) (by first | rfl | (simp only [jG,gV];rfl))
     ·replace hb17:=kD au hb17;refine goL ?_;refine pX 55 (fun av=>?_) (fun av=>?_) (by first | rfl | (simp only [jG,gV];rfl))
      ·replace hb17:=kD av hb17;refine goL ?_;refine gQp ?_;obtain⟨bk,ad,hb17⟩:=gP hb17;obtain⟨aw,ad⟩:=gEd ad;obtain⟨bl,bm⟩:=bk;refine jL (qP aw (uG ad)) ?_;cases hb17;exact⟨rfl,⟨⟨rfl,rfl⟩,⟨rfl,rfl⟩,⟨rfl,rfl⟩,⟨rfl,rfl⟩,⟨by first | rfl | (simp only [jG,gV];rfl),rfl⟩,trivial⟩,⟨_,rfl⟩,rfl⟩
      ·replace hb17:=kE av hb17;refine goL ?_;cases hb17;exact⟨rfl,⟨⟨rfl,rfl⟩,⟨rfl,rfl⟩,⟨rfl,rfl⟩,⟨rfl,rfl⟩,⟨by first | rfl | (simp only [jG,gV];rfl),rfl⟩,trivial⟩,⟨_,rfl⟩,rfl⟩
     ·replace hb17:=kE au hb17;refine goL ?_;cases hb17;exact⟨rfl,⟨⟨rfl,rfl⟩,⟨rfl,rfl⟩,⟨rfl,rfl⟩,⟨rfl,rfl⟩,⟨by first | rfl | (simp only [jG,gV];rfl),rfl⟩,trivial⟩,⟨_,rfl⟩,rfl⟩
    refine goC h ?_ ?_<;>intro ca h
    ·refine kN 2 rfl rfl ?_;refine hXx ?_;refine jO (P:=Tryz.prog) Mix.h [(0,true),(1,true),(2,true),(3,true),(4,true),(5,true),(6,true),(7,true),(8,false)] (by kernel_rfl) ?_;refine goY ?_;obtain⟨bn,ak,h⟩:=gP h;obtain⟨ax,ak⟩:=gEd ak;obtain⟨bo,bp⟩:=bn;refine jI rfl (qP ax (uG ak)) ?_;refine goY ?_;obtain⟨bq,h⟩:=mW h;refine jI rfl (gMv bq) ?_;refine goY ?_;refine kQ ?_;exact goR h
    ·refine goL ?_;obtain⟨br,hb24,h⟩:=gP h;refine jT ⟨[(1,.ptr 0 0),(2,.ptr 1 0),(3,.S ag),(4,.sl 2 f),(71,.B br)],[bSx ac y,.box [.I 0,.S [],.nilsl],.arr 35 3 f (jJ y9)],Tryz.f167.ntmps⟩ ?_ ?_
     ·refine pX 74 (fun ay=>?_) (fun ay=>?_) (by first | rfl | (simp only [jG,gV];rfl))
      ·replace hb24:=kD ay hb24;refine goL ?_;refine pX 79 (fun a3=>?_) (fun a3=>?_) (by first | rfl | (simp only [jG,gV];rfl))
       ·replace hb24:=kD a3 hb24;refine goL ?_;refine gQp ?_;obtain⟨bt,al,hb24⟩:=gP hb24;obtain⟨a4,al⟩:=gEd al;obtain⟨bu,bv⟩:=bt;refine jL (qP a4 (uG al)) ?_;cases hb24;exact⟨rfl,⟨⟨rfl,rfl⟩,⟨rfl,rfl⟩,⟨rfl,rfl⟩,⟨rfl,rfl⟩,⟨by first | rfl | (simp only [jG,gV];rfl),rfl⟩,trivial⟩,⟨_,rfl⟩,rfl⟩
       ·replace hb24:=kE a3 hb24;refine goL ?_;cases hb24;exact⟨rfl,⟨⟨rfl,rfl⟩,⟨rfl,rfl⟩,⟨rfl,rfl⟩,⟨rfl,rfl⟩,⟨by first | rfl | (simp only [jG,gV];rfl),rfl⟩,trivial⟩,⟨_,rfl⟩,rfl⟩
      ·replace hb24:=kE ay hb24;refine goL ?_;cases hb24;exact⟨rfl,⟨⟨rfl,rfl⟩,⟨rfl,rfl⟩,⟨rfl,rfl⟩,⟨rfl,rfl⟩,⟨by first | rfl | (simp only [jG,gV];rfl),rfl⟩,trivial⟩,⟨_,rfl⟩,rfl⟩
     refine goC h ?_ ?_<;>intro cb h
     ·refine goL ?_;obtain⟨bw,am,h⟩:=gP h;obtain⟨a5,am⟩:=gEd am;obtain⟨bx,bz⟩:=bw;refine jL (qP a5 (uG am)) ?_;refine gAq (jU TBd.h TZ.h rfl (by repeat constructor)) ?_;exact goR h
     ·refine goS ?_;refine gBn (jU TBd.h TZ.h rfl (by repeat constructor)) ?_;refine kN 2 rfl rfl ?_;refine jK ?_;cases h;exact qA
def gMs:Nat→gD→Option (gB)
 | 0,_=>none
 | n+1,c=>hGh (gMs n) c
theorem gPs:∀(n:Nat) (c:gD) {r:gB},gMs n c=some r→jC Tryz.prog 167 [.d (pF c)] [jS r]:=by
 intro n
 induction n with
 | zero=>intro c r h;cases h
 | succ n ih=>intro c r h;exact hTo ih c h
def gM5(f:List UInt8):Option (Int × Bool):=
bnd (gVg f 12) fun c=>
(some (c.1,c.2))
theorem gZq(f:List UInt8){r:Int × Bool}(h:gM5 f=some r):jC Tryz.prog 199 [.S f] [.i .i64 r.1,.b r.2]:=by
 unfold gM5 at h;refine SpI Tryz.func199 fun A _=>?_;refine goL ?_;obtain⟨⟨y,aa⟩,c,h⟩:=gP h;refine qI (gF (hLx _ _ c)) ?_;exact goR h
def gAe:List UInt8→Nat→Bool
 | [],f=>true
 | c::xs,f=>lt_ ((cnd (decide ((c.toNat:Int)≥97)) ((decide ((c.toNat:Int)≤122))) (false))) fun y=>
lt_ ((cnd (!y) ((cnd ((f:Int)==0) (true) ((cnd (decide ((c.toNat:Int) < 48)) (true) ((decide ((c.toNat:Int) > 57))))))) (false))) fun h=>
(cnd h (
false) (
gAe xs (f+1)))
def mF(c:List UInt8):Bool:=
lt_ ((cnd (!(gHw (c.length:Int) 1 8)) (true) ((gGh c)))) fun f=>
(cnd f (
false) (
gAe c 0))
theorem qD(y:List UInt8):jC Tryz.prog 137 [.S y] [.b (mF y)]:=by
 obtain⟨r,h⟩:∃r,mF y=r:=⟨_,rfl⟩
 rw [h];unfold mF at h;refine SpI Tryz.func137 fun A _=>?_;refine goL ?_;refine jL (gF (gP1 (y.length:Int) 1 8)) ?_;obtain⟨b1,hb1,h⟩:=qB h;refine jT ⟨[(0,.S y),(12,.B b1)],[],Tryz.f137.ntmps⟩ ?_ ?_
 ·refine gqO 9 hb1 (fun c2 hb1=>?_);refine jL (gF (gVi y)) ?_;cases hb1;exact eJ
 refine goC h ?_ ?_<;>intro c3 h
 ·refine goL ?_;refine jK ?_;subst h;exact qA
 ·refine goS ?_;refine noB ?_;refine hId 0 (fun z5=>?_);refine mQ (fun(c:Nat)=>⟨[(0,.S y),(3,.N c)],[],Tryz.f137.ntmps⟩) (fun c=>gAe (y.drop c) c=r) (fun c=>y.length - c) 0 eJ h ?_;rintro c h;refine goL ?_;refine kX (fun c6=>?_) (fun c6=>?_)
  ·have f:=hS3 c6;obtain⟨x7,aa,ab⟩:=drop_at f;rw [ab,gAe.eq_2] at h;refine noS ?_;refine jW (jE ?_);refine goL ?_;refine jL (gF8 c aa) ?_;obtain⟨b8,hb8,h⟩:=qB h;refine jT ⟨[(0,.S y),(3,.N c),(4,.B b8)],[],Tryz.f137.ntmps⟩ ?_ ?_
   ·refine gqA 23 hb8 (fun c9 hb8=>?_);refine jL (gF8 c aa) ?_;cases hb8;exact eJ
   refine goL ?_;obtain⟨ad,hb10,h⟩:=qB h;refine jT ⟨[(0,.S y),(3,.N c),(46,.B ad)],[],Tryz.f137.ntmps⟩ ?_ ?_
   ·refine gqA 31 hb10 (fun ah hb10=>?_);refine gqO 34 hb10 (fun ai hb10=>?_);refine jL (gF8 c aa) ?_;refine gqO 40 hb10 (fun aj hb10=>?_);refine jL (gF8 c aa) ?_;cases hb10;exact eJ
   refine goC h ?_ ?_<;>intro ak h
   ·refine goL ?_;refine jK ?_;subst h;exact qA
   ·refine goS ?_;refine jL (jR c (by omega)) ?_;exact⟨(c+1),h,by omega,eJ⟩
  ·have f:=hS4 c6;rw [jF f,gAe.eq_1] at h;refine goX ?_;refine jK ?_;subst h;exact qA
def gB1(c:gB→Option (Int)):List gB→Int→Option (Int)
 | [],f=>(some f)
 | h::xs,f=>bnd (c h) fun y=>
gB1 c xs (gM1 f (IntKind.i64.wrap ((1:Int)+y)))
def gK8(c:gB→Option (Int))(f:gB):Option (Int):=
gB1 c f.args 0
theorem gW8{c:gB→Option (Int)}(f:∀(x0:gB) {r:Int},c x0=some r→jC Tryz.prog 244 [.d (jS x0)] [.i .i64 r])(a0:gB){r:Int}(h:gK8 c a0=some r):jC Tryz.prog 244 [.d (jS a0)] [.i .i64 r]:=by
 obtain⟨ad,ae,aa⟩:=a0;unfold gK8 at h;refine SpI Tryz.func244 fun A _=>?_;refine goL ?_;refine noB ?_;refine wN 0 2 (fun z3=>?_);refine gEe (fun(y2:Nat) (y1:Int)=>⟨[(1,.ptr 0 0),(3,.I y1),(4,.N y2)],[bTy ad ae aa],Tryz.f244.ntmps⟩) (fun y2 y1=>gB1 c (aa.drop y2) y1=some r) (fun y2 y1=>aa.length - y2) 0 0 eJ h ?_;rintro y2 y1 h;refine goL ?_;refine kX (fun c4=>?_) (fun c4=>?_)
 ·have y:=uR c4;obtain⟨x5,aj,ag⟩:=drop_at y;rw [ag,gB1.eq_2] at h;obtain⟨am,an,ao⟩:=x5;refine noS ?_;refine jW (jE ?_);refine goL ?_;refine jL (jM y2 (zL aj)) ?_;obtain⟨x6,ak,h⟩:=gP h;refine qI (gF (f _ ak)) ?_;refine qI (pR) ?_;refine jL (gF (hGc y1 (IntKind.i64.wrap ((1:Int)+x6)))) ?_;refine jL (jR y2 (by omega)) ?_;exact⟨(y2+1),(gM1 y1 (IntKind.i64.wrap ((1:Int)+x6))),h,by omega,eJ⟩
 ·have y:=uS c4;rw [jF y,gB1.eq_1] at h;refine goX ?_;refine jK ?_;cases h;exact qA
def gK9:Nat→gB→Option (Int)
 | 0,_=>none
 | n+1,c=>gK8 (gK9 n) c
theorem gW9:∀(n:Nat) (c:gB) {r:Int},gK9 n c=some r→jC Tryz.prog 244 [.d (jS c)] [.i .i64 r]:=by
 intro n
 induction n with
 | zero=>intro c r h;cases h
 | succ n ih=>intro c r h;exact gW8 ih c h
def gF6(c:kJ):Option (List (List UInt8)):=
bnd (gRp 5000 c [] []) fun f=>
(some f)
theorem gP9(a0:kJ){r:List (List UInt8)}(h:gF6 a0=some r):jC Tryz.prog 234 [.d (gCx a0)] [.sl 1 (jP r)]:=by
 obtain⟨aa,ab,ac,ad,⟨c,f,y⟩,ae,ag⟩:=a0;unfold gF6 at h;refine SpI Tryz.func234 fun A _=>?_;refine goL ?_;refine gF9 ?_;refine gF9 ?_;refine gMg 1 rfl rfl ?_;obtain⟨x1,ai,h⟩:=gP h;refine yY [2] (hGe 5000 (kJ.mk aa ab ac ad (gB.mk c f y) ae ag) [] [] 0 ai) ?_;rintro _ _ ⟨v2,rfl,rfl⟩;show VO _ _ _ _ ⟨(_,.sl 2 v2)::_,[bEx aa ab ac ad c f y ae ag,.frz 9 1 0 [],.own 9 1 v2 (jP x1)],_⟩ _;refine goL ?_;refine uH 2 rfl rfl ?_;refine jK ?_;cases h;exact qA
end Go.Proofs.YtegahmhnmjnhhaaGreat
