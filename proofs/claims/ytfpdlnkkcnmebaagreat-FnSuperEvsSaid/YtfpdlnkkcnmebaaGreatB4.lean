import Derived.Test.YtfpdlnkkcnmebaaGreatB1
import Derived.Test.YtfpdlnkkcnmebaaGreatF1
set_option maxHeartbeats 4000000
set_option linter.unusedVariables false
set_option linter.unusedSimpArgs false
set_option linter.unusedSectionVars false
namespace Go.Proofs.YtfpdlnkkcnmebaaGreat
open Go Go.Eng
attribute [local irreducible] V VO VQ VY Quiet QR jF mJ Rng qI qJ qB
def vL(c:vJ→Option (gD × vJ)):Nat→LB→Int→Int→Int→Bool→(List gD)→Option (gD × vJ)
 | 0,aa,ab,ac,ad,y,q=>none
 | ae+1,aa,ab,ac,ad,y,q=>(cnd (!y) (
bnd (gM4 (vJ.mk aa ab ac ad y)) fun f=>
bnd ((cnd (decide (f.at_ < (f.s.length:Int))) (bnd (at? f.s f.at_) fun ag=>
(some ((ag.toNat:Int)==41))) ((some false)))) fun ah=>
(cnd ah (
(some ((gD.mk [] q),(vJ.mk f.s (IntKind.i64.wrap (f.at_+1)) (IntKind.i64.wrap (f.deep - 1)) f.size f.bad)))) (
bnd (c f) fun h=>
gd (q.length+[h.1].length≤4294967296) (
vL c ae h.2.s h.2.at_ h.2.deep h.2.size h.2.bad (q++[h.1]))))) (
(some ((gD.mk [] q),(vJ.mk aa ab ac ad y)))))
def zP(c:vJ→Option (gD × vJ))(f:vJ)(n0:Nat):Nat→Int→Option (gD × vJ)
 | 0,h=>none
 | n6+1,h=>bnd ((cnd (decide (h < (f.s.length:Int))) (bnd (at? f.s h) fun x9=>
(some (gF5 (x9.toNat:Int)))) ((some false)))) fun b7=>
(cnd b7 (
zP c f n0 n6 (IntKind.i64.wrap (h+1))) (
(cnd (decide (h > f.at_)) (
gd (0≤f.at_∧f.at_≤h∧h≤(f.s.length:Int)) (
(some ((gD.mk ((f.s.drop (Int.toNat f.at_)).take (Int.toNat h - Int.toNat f.at_)) []),(vJ.mk f.s h f.deep (IntKind.i64.wrap (f.size+1)) f.bad))))) (
bnd (bnd (at? f.s h) fun q=>
(cnd ((q.toNat:Int) != 40) ((some true)) ((some (f.deep==14))))) fun y=>
(cnd y (
(some ((gD.mk [] []),(vJ.mk f.s h f.deep (IntKind.i64.wrap (f.size+1)) true)))) (
vL c n0 f.s (IntKind.i64.wrap (h+1)) (IntKind.i64.wrap (f.deep+1)) (IntKind.i64.wrap (f.size+1)) f.bad []))))))
def gOl(f:vJ→Option (gD × vJ))(c:vJ)(q:Nat):Option (gD × vJ):=
bnd (gM4 c) fun h=>
lt_ ((cnd (decide (h.at_≥(h.s.length:Int))) (true) ((decide ((IntKind.i64.wrap (h.size+1)) > 900))))) fun y=>
(cnd y (
(some ((gD.mk [] []),(vJ.mk h.s h.at_ h.deep (IntKind.i64.wrap (h.size+1)) true)))) (
zP f h q q h.at_))
theorem hEg{aa:vJ→Option (gD × vJ)}(ab:∀(x0:vJ){r:gD × vJ},aa x0=some r→Go.Eng.Spec Tryz.prog 173 [.ptr 0 0] [bIp x0.s x0.at_ x0.deep x0.size x0.bad] (fun sv Lo=>sv=.d (qC r.1)∧Lo=[bIp r.2.s r.2.at_ r.2.deep r.2.size r.2.bad]))(c:vJ){n0:Nat}{r:gD × vJ}(h:gOl aa c n0=some r):Go.Eng.Spec Tryz.prog 173 [.ptr 0 0] [bIp c.s c.at_ c.deep c.size c.bad] (fun sv Lo=>sv=.d (qC r.1)∧Lo=[bIp r.2.s r.2.at_ r.2.deep r.2.size r.2.bad]):=by
 obtain⟨bl,bm,bn,bo,bp⟩:=c;unfold gOl at h;refine kS 1 Tryz.func173 rfl (by kernel_rfl) rfl rfl fun A _=>?_;refine goL ?_;obtain⟨⟨ac,ad,am,an,ao⟩,bq,h⟩:=gJ h;refine mZ 0 (gSf (vJ.mk bl bm bn bo bp) bq) ?_;refine goL ?_;refine qM (pV) ?_;refine gHi ?_;obtain⟨b2,hb2,h⟩:=qW h;refine uT (P:=Tryz.prog) Mix.h ⟨[(0,.ptr 0 0),(2,.ptr 1 0),(31,.B b2)],[.box [.S ac,.I ad,.I am,.d (.i .i64 (IntKind.i64.wrap (an+1))),.B ao],.box [.S [],.nilsl]],Tryz.f173.ntmps⟩ (by kernel_rfl) ?_ ?_
 ·refine goL ?_;refine wN 25 (fun c3=>?_) (fun c3=>?_)
  ·replace hb2:=kT c3 hb2;refine goL ?_;cases hb2;exact eJ
  ·replace hb2:=kU c3 hb2;refine goL ?_;cases hb2;exact eJ
 refine goC h ?_ ?_<;>intro c4 h
 ·refine goL ?_;refine gAc (jU TBd.h TZ.h rfl (by repeat constructor)) ?_;refine jG ?_;obtain rfl:=Option.some.inj h;exact gBa [.d (.st [.s [],.sl 2 []])] _ ⟨rfl,rfl⟩
 ·refine goS ?_;refine kH (jE ?_);show V _ _ _ _ _;refine gEt (fun(n6:Nat)(y5:Int)=>⟨[(0,.ptr 0 0),(2,.ptr 1 0),(3,.I ad)],[.box [.S ac,.I y5,.I am,.d (.i .i64 (IntKind.i64.wrap (an+1))),.B ao],.box [.S [],.nilsl]],Tryz.f173.ntmps⟩) (fun n6 y5=>zP aa (vJ.mk ac ad am an ao) n0 n6 y5=some r) (fun n6 y5=>n6) n0 ad eJ h ?_;rintro n6 y5 h;rcases n6 with _ | n6
  ·cases h
  rw [zP.eq_2] at h;refine gHi ?_;obtain⟨b7,hb7,h⟩:=gJ h;refine uT (P:=Tryz.prog) Mix.h ⟨[(0,.ptr 0 0),(2,.ptr 1 0),(3,.I ad),(61,.B b7)],[.box [.S ac,.I y5,.I am,.d (.i .i64 (IntKind.i64.wrap (an+1))),.B ao],.box [.S [],.nilsl]],Tryz.f173.ntmps⟩ (by kernel_rfl) ?_ ?_
  ·refine goL ?_;refine wN 50 (fun c8=>?_) (fun c8=>?_)
   ·replace hb7:=kT c8 hb7;refine goL ?_;obtain⟨x9,bb,hb7⟩:=gJ hb7;obtain⟨bi,bb⟩:=gAz bb;refine gEa (gMk bi bb) ?_;refine gEa (gG (gW8 (x9.toNat:Int))) ?_;refine goL ?_;cases hb7;exact eJ
   ·replace hb7:=kU c8 hb7;refine goL ?_;cases hb7;exact eJ
  refine goC h ?_ ?_<;>intro b1 h
  ·refine noS ?_;refine jE ?_;refine goL ?_;refine jK (pV) ?_;exact⟨n6,(IntKind.i64.wrap (y5+1)),h,Nat.lt_succ_self _,eJ⟩
  ·refine goX ?_;refine mQ (fun bc=>?_) (fun bc=>?_)
   ·replace h:=kT bc h;refine jL (P:=Tryz.prog) Mix.h [(0,true),(1,true),(2,true),(3,true),(4,true),(5,true),(6,true),(7,true),(8,true),(9,true),(10,true),(11,false)] (by kernel_rfl) ?_;refine goY ?_;obtain⟨bu,h⟩:=pO h;refine jO rfl (hG8 bu) ?_;refine goY ?_;refine kX ?_;refine goL ?_;refine jG ?_;obtain rfl:=Option.some.inj h;exact gBa [.d (.st [.s ((ac.drop (Int.toNat ad)).take (Int.toNat y5 - Int.toNat ad)),.sl 2 []])] _ ⟨rfl,rfl⟩
   ·replace h:=kU bc h;refine noS ?_;refine gHi ?_;obtain⟨bv,hb13,h⟩:=gJ h;refine uT (P:=Tryz.prog) Mix.h ⟨[(0,.ptr 0 0),(2,.ptr 1 0),(103,.B bv)],[.box [.S ac,.I y5,.I am,.d (.i .i64 (IntKind.i64.wrap (an+1))),.B ao],.box [.S [],.nilsl]],Tryz.f173.ntmps⟩ (by kernel_rfl) ?_ ?_
    ·refine goL ?_;obtain⟨b3,a6,hb13⟩:=gJ hb13;obtain⟨bd,a6⟩:=gAz a6;refine gCy (gMk bd a6) ?_;refine goL ?_;refine wN 97 (fun be=>?_) (fun be=>?_)
     ·replace hb13:=kT be hb13;refine goL ?_;cases hb13;exact eJ
     ·replace hb13:=kU be hb13;refine goL ?_;cases hb13;exact eJ
    refine goC h ?_ ?_<;>intro b4 h
    ·refine goL ?_;refine gAc (jU TBd.h TZ.h rfl (by repeat constructor)) ?_;refine jG ?_;obtain rfl:=Option.some.inj h;exact gBa [.d (.st [.s [],.sl 2 []])] _ ⟨rfl,rfl⟩
    ·refine goS ?_;refine jK (pV) ?_;refine jK (pV) ?_;refine gAc (jU TBd.h TZ.h rfl (by repeat constructor)) ?_;refine kH (jE ?_);show V _ _ _ _ _;refine uO 223 2 2 1 rfl rfl (by repeat constructor) (by repeat constructor) (by repeat constructor) (by repeat constructor) ?_;show V _ _ _ _ _;refine hIo (fun(ap:Nat)(ax:LB)(ay:Int)(a0:Int)(a3:Int)(a4:Bool)(ak:List gD)(al:Nat)=>⟨[(0,.ptr 0 0),(2,.ptr 1 0),(4,.ptr 2 0)],[bIp ax ay a0 a3 a4,.box [.S [],.nilsl],.box [.S [],.sl 3 al],.arr 223 2 al (jA ak)],Tryz.f173.ntmps⟩) (fun ap ax ay a0 a3 a4 ak al=>vL aa ap ax ay a0 a3 a4 ak=some r) (fun ap ax ay a0 a3 a4 ak al=>ap) n0 ac (IntKind.i64.wrap (y5+1)) (IntKind.i64.wrap (am+1)) (IntKind.i64.wrap (an+1)) ao [] 0 eJ h ?_;rintro ap ax ay a0 a3 a4 ak al h;rcases ap with _ | ap
     ·cases h
     rw [vL.eq_2] at h;refine goC h ?_ ?_<;>intro b5 h
     ·refine noS ?_;refine jE ?_;refine goL ?_;obtain⟨⟨ae,ag,ah,ai,aj⟩,bj,h⟩:=gJ h;refine mZ 0 (gSf (vJ.mk ax ay a0 a3 a4) bj) ?_;refine gHi ?_;obtain⟨bw,hb27,h⟩:=gJ h;refine uT (P:=Tryz.prog) Mix.h ⟨[(0,.ptr 0 0),(2,.ptr 1 0),(4,.ptr 2 0),(153,.B bw)],[bIp ae ag ah ai aj,.box [.S [],.nilsl],.box [.S [],.sl 3 al],.arr 223 2 al (jA ak)],Tryz.f173.ntmps⟩ (by kernel_rfl) ?_ ?_
      ·refine goL ?_;refine wN 142 (fun bf=>?_) (fun bf=>?_)
       ·replace hb27:=kT bf hb27;refine goL ?_;obtain⟨b6,a7,hb27⟩:=gJ hb27;obtain⟨bg,a7⟩:=gAz a7;refine gEa (gMk bg a7) ?_;refine goL ?_;cases hb27;exact eJ
       ·replace hb27:=kU bf hb27;refine goL ?_;cases hb27;exact eJ
      refine goC h ?_ ?_<;>intro b8 h
      ·refine goL ?_;refine jK (pV) ?_;refine jK (pV) ?_;refine gW 3 rfl rfl ?_;refine jG ?_;obtain rfl:=Option.some.inj h;exact gCo [.d (.st [.s [],.sl 2 (jA ak)])] [.box [.S ae,.d (.i .i64 (IntKind.i64.wrap (ag+1))),.d (.i .i64 (IntKind.i64.wrap (ah - 1))),.I ai,.B aj]] ⟨rfl,rfl⟩
      ·refine noS ?_;obtain⟨⟨⟨f,y⟩,⟨aq,ar,au,av,aw⟩⟩,a8,h⟩:=gJ h;obtain⟨a5,h⟩:=pO h;refine qQ (P:=Tryz.prog) Mix.h (.q 2 (.h 0 (.h 1 (.h 3 (.h 4 (.h 5 (.q 6 (.h 7 .nil .nil)) .nil) .nil) .nil) (.h 3 (.h 1 (.h 4 (.h 5 (.q 6 (.h 7 .nil .nil)) .nil) .nil) (.h 4 (.h 1 (.h 5 (.q 6 (.h 7 .nil .nil)) .nil) .nil) .nil)) .nil)) (.h 3 (.h 0 (.h 1 (.h 4 (.h 5 (.q 6 (.h 7 .nil .nil)) .nil) .nil) (.h 4 (.h 1 (.h 5 (.q 6 (.h 7 .nil .nil)) .nil) .nil) .nil)) (.h 4 (.h 0 (.h 1 (.h 5 (.q 6 (.h 7 .nil .nil)) .nil) .nil) .nil) .nil)) .nil))) ⟨[(0,.ptr 0 0),(2,.ptr 1 0),(4,.ptr 2 0)],[bIp aq ar au av aw,.box [.S [],.nilsl],.box [.S [],.sl 3 (al+1)],.arr 223 2 (al+1) (jA (ak++[(gD.mk f y)])),.arr 223 2 0 (jA [(gD.mk f y)])],Tryz.f173.ntmps⟩ (by kernel_rfl) ?_ ?_
       ·refine goT ?_;refine pR (jJ gQ) ?_ ?_
        ·refine pR (jJ gQ) ?_ ?_
         ·refine gH (mH 0 (ab (vJ.mk ae ag ah ai aj) a8) gQ) ?_;refine gH (jT (T:=221) (us:=jA [(gD.mk f y)]) gQ) ?_;refine gH (jR (T:=221) a5 gQ) ?_;refine goT ?_;refine jB ?_;exact mK 1 [0,1,2,3,4]
         refine gH (mH 0 (ab (vJ.mk ae ag ah ai aj) a8) gQ) ?_;refine pR (jJ gQ) ?_ ?_
         ·refine gH (jT (T:=221) (us:=jA [(gD.mk f y)]) gQ) ?_;refine gH (jR (T:=221) a5 gQ) ?_;refine goT ?_;refine jB ?_;exact mK 1 [0,1,2,3,4]
         refine gH (jT (T:=221) (us:=jA [(gD.mk f y)]) gQ) ?_;refine gH (jJ gQ) ?_;refine gH (jR (T:=221) a5 gQ) ?_;refine goT ?_;refine jB ?_;exact mK 1 [0,1,2,3,4]
        refine gH (mH 0 (ab (vJ.mk ae ag ah ai aj) a8) gQ) ?_;refine pR (jJ gQ) ?_ ?_
        ·refine pR (jJ gQ) ?_ ?_
         ·refine gH (jT (T:=221) (us:=jA [(gD.mk f y)]) gQ) ?_;refine gH (jR (T:=221) a5 gQ) ?_;refine goT ?_;refine jB ?_;exact mK 1 [0,1,2,3,4]
         refine gH (jT (T:=221) (us:=jA [(gD.mk f y)]) gQ) ?_;refine gH (jJ gQ) ?_;refine gH (jR (T:=221) a5 gQ) ?_;refine goT ?_;refine jB ?_;exact mK 1 [0,1,2,3,4]
        refine gH (jT (T:=221) (us:=jA [(gD.mk f y)]) gQ) ?_;refine gH (jJ gQ) ?_;refine gH (jJ gQ) ?_;refine gH (jR (T:=221) a5 gQ) ?_;refine goT ?_;refine jB ?_;exact mK 1 [0,1,2,3,4]
       refine goL ?_;exact⟨ap,aq,ar,au,av,aw,(ak++[(gD.mk f y)]),(al+1),h,Nat.lt_succ_self _,eJ⟩
     ·refine goX ?_;refine gW 3 rfl rfl ?_;refine jG ?_;obtain rfl:=Option.some.inj h;exact gCo [.d (.st [.s [],.sl 2 (jA ak)])] [bIp ax ay a0 a3 a4] ⟨rfl,rfl⟩
def gBg:Nat→vJ→Option (gD × vJ)
 | 0,_=>none
 | n+1,c=>gOl (gBg n) c n
theorem hEh:∀(n:Nat)(c:vJ){r:gD × vJ},gBg n c=some r→Go.Eng.Spec Tryz.prog 173 [.ptr 0 0] [bIp c.s c.at_ c.deep c.size c.bad] (fun sv Lo=>sv=.d (qC r.1)∧Lo=[bIp r.2.s r.2.at_ r.2.deep r.2.size r.2.bad]):=by
 intro n
 induction n with
 | zero=>intro c r h;cases h
 | succ n ih=>intro c r h;exact hEg ih c h
def zV(c:LB):LB→Bool
 | []=>(gH6 (c.length:Int) 1 12)
 | f::xs=>(cnd (!(gF5 (f.toNat:Int))) (
false) (
zV c xs ))
def gE6(c:LB):Bool:=
zV c c
theorem gRd(q:LB):jF Tryz.prog 196 [.S q] [.b (gE6 q)]:=by
 obtain⟨r,h⟩:∃r,gE6 q=r:=⟨_,rfl⟩
 rw [h];unfold gE6 at h;refine SpI Tryz.func196 fun A _=>?_;refine goL ?_;refine noB ?_;refine hE9 0 (fun z2=>?_);refine qD (fun(f:Nat)=>⟨[(0,.S q),(3,.N f)],[],Tryz.f196.ntmps⟩) (fun f=>zV q (q.drop f)  =r) (fun f=>q.length - f) 0 eJ h ?_;rintro f h;refine goL ?_;refine mQ (fun c3=>?_) (fun c3=>?_)
 ·have c:=hNg c3;obtain⟨x4,ab,y⟩:=drop_at c;rw [y,zV.eq_2] at h;refine noS ?_;refine kH (jE ?_);refine goL ?_;refine qM (gIw f ab) ?_;refine jK (gG (gW8 (x4.toNat:Int))) ?_;refine mQ (fun c5=>?_) (fun c5=>?_)
  ·replace h:=kT c5 h;refine goL ?_;refine jG ?_;subst h;exact uA
  ·replace h:=kU c5 h;refine goS ?_;refine jK (kD f (by omega)) ?_;exact⟨(f+1),h,by omega,eJ⟩
 ·have c:=hNh c3;rw [jH c,zV.eq_1] at h;refine goX ?_;refine jK (gG (gN1 (q.length:Int) 1 12)) ?_;refine jG ?_;subst h;exact uA
def gA1(c:gD→Option (Int)):List gD→Int→Option (Int)
 | [],f=>(some (IntKind.i64.wrap (f+1)))
 | h::xs,f=>bnd (c h) fun q=>
gA1 c xs (gLm f q)
def gIr(c:gD→Option (Int))(f:gD):Option (Int):=
(cnd (!(f.atom==[])) (
(some 0)) (
gA1 c f.list 0))
theorem gSp{c:gD→Option (Int)}(f:∀(x0:gD){r:Int},c x0=some r→jF Tryz.prog 186 [.d (qC x0)] [.i .i64 r])(a0:gD){r:Int}(h:gIr c a0=some r):jF Tryz.prog 186 [.d (qC a0)] [.i .i64 r]:=by
 obtain⟨ac,y⟩:=a0;unfold gIr at h;refine SpI Tryz.func186 fun A _=>?_;refine goC h ?_ ?_<;>intro c1 h
 ·exact goR h
 ·refine goS ?_;refine noB ?_;refine yP 0 1 (fun z4=>?_);refine gEt (fun(y3:Nat)(y2:Int)=>⟨[(1,.ptr 0 0),(3,.I y2),(4,.N y3)],[bSx ac y],Tryz.f186.ntmps⟩) (fun y3 y2=>gA1 c (y.drop y3) y2=some r) (fun y3 y2=>y.length - y3) 0 0 eJ h ?_;rintro y3 y2 h;refine goL ?_;refine mQ (fun c5=>?_) (fun c5=>?_)
  ·have q:=vF c5;obtain⟨x6,ah,ad⟩:=drop_at q;rw [ad,gA1.eq_2] at h;obtain⟨ak,al⟩:=x6;refine noS ?_;refine kH (jE ?_);refine goL ?_;refine jK (jM y3 (uM ah)) ?_;obtain⟨x7,ai,h⟩:=gJ h;refine qM (gG (f _ ai)) ?_;refine jK (gG (gZu y2 x7)) ?_;refine jK (kD y3 (by omega)) ?_;exact⟨(y3+1),(gLm y2 x7),h,by omega,eJ⟩
  ·have q:=vG c5;rw [jH q,gA1.eq_1] at h;refine goX ?_;refine qM (pV) ?_;exact goR h
def gIs:Nat→gD→Option (Int)
 | 0,_=>none
 | n+1,c=>gIr (gIs n) c
theorem gSq:∀(n:Nat)(c:gD){r:Int},gIs n c=some r→jF Tryz.prog 186 [.d (qC c)] [.i .i64 r]:=by
 intro n
 induction n with
 | zero=>intro c r h;cases h
 | succ n ih=>intro c r h;exact gSp ih c h
def gB7(c:gD):Option LS:=
bnd (gJq c.list) fun f=>
(some f.1)
theorem gEn(c:gD){r:LS}(h:gB7 c=some r):jF Tryz.prog 198 [.d (qC c)] [.sl 1 (gP r)]:=by
 obtain⟨q,y⟩:=c;unfold gB7 at h;refine SpI Tryz.func198 fun A _=>?_;refine goL ?_;obtain⟨⟨aa,ab⟩,f,h⟩:=gJ h;refine qM (gG (gO8 _ f)) ?_;exact goR h
def gH8(c:gD)(a1:Int):Option (List gD):=
gd (0≤(uV a1 (c.list.length:Int))∧(uV a1 (c.list.length:Int))≤(c.list.length:Int)) (
(some (c.list.drop (Int.toNat (uV a1 (c.list.length:Int))))))
theorem gL8(f:gD)(a1:Int){r:List gD}(h:gH8 f a1=some r):jF Tryz.prog 199 [.d (qC f),.I a1] [.sl 2 (jA r)]:=by
 obtain⟨q,c⟩:=f;unfold gH8 at h;refine SpI Tryz.func199 fun A _=>?_;refine goL ?_;refine gCy (gG (gIo a1 (c.length:Int))) ?_;obtain⟨y,h⟩:=pO h;refine gCy (gLk y) ?_;exact goR h
def gJw(c:gD→Option (gB))(h:gD)(y:gD):List gD→(List gB)→Option (gB)
 | [],f=>bnd ((cnd (y.atom==[97,115,115,111,99]) ((cnd ((f.length:Int)==2) (bnd (at? h.list 1) fun aa=>
(some (!(aa.atom==[])))) ((some false)))) ((some false)))) fun ab=>
(cnd ab (
bnd (at? h.list 1) fun ac=>
gd (0≤(1:Int)∧1≤(f.length:Int)) (
(some (gB.mk 3 ac.atom (f.drop (Int.toNat 1)))))) (
bnd ((cnd (y.atom==[100,121,110]) ((cnd ((f.length:Int)==1) (bnd (at? h.list 1) fun ad=>
(some (!(ad.atom==[])))) ((some false)))) ((some false)))) fun ae=>
(cnd ae (
bnd (at? h.list 1) fun ag=>
(some (gB.mk 4 ag.atom []))) (
(some (gB.mk 2 y.atom f))))))
 | ah::xs,f=>bnd (c ah) fun q=>
gd (f.length+[q].length≤4294967296) (
gJw c h y xs (f++[q]))
def gZ1(c:gD→Option (gB))(f:gD):Option (gB):=
(cnd (!(f.atom==[])) (
bnd (at? f.atom 0) fun h=>
(cnd ((h.toNat:Int)==39) (
gd (0≤(1:Int)∧1≤(f.atom.length:Int)) (
lt_ (wX (f.atom.drop (Int.toNat 1))) fun q=>
(some q))) (
bnd (gCq f.atom []) fun y=>
(some y)))) (
(cnd (decide ((f.list.length:Int) < 2)) (
(some (gB.mk 0 [] []))) (
bnd (at? f.list 0) fun x8=>
gJw c f x8 (f.list.drop 1) []))))
theorem hK5{c:gD→Option (gB)}(ad:∀(x0:gD){r:gB},c x0=some r→jF Tryz.prog 201 [.d (qC x0)] [kZ r])(a0:gD){r:gB}(h:gZ1 c a0=some r):jF Tryz.prog 201 [.d (qC a0)] [kZ r]:=by
 obtain⟨ab,q⟩:=a0;unfold gZ1 at h;refine SpI Tryz.func201 fun A _=>?_;refine goC h ?_ ?_<;>intro c1 h
 ·refine goL ?_;obtain⟨x2,an,h⟩:=gJ h;obtain⟨ac,an⟩:=gAz an;refine jK (gMk ac an) ?_;refine mQ (fun c3=>?_) (fun c3=>?_)
  ·replace h:=kT c3 h;refine goL ?_;obtain⟨g4,h⟩:=pO h;refine qM (hG9 g4) ?_;obtain⟨⟨b0,b1,b2⟩,bb,h⟩:=qW h;have sx5:=gCr (ab.drop (Int.toNat 1));rw [bb] at sx5;refine qM (gG (sx5)) ?_;exact goR h
  ·replace h:=kU c3 h;refine goS ?_;obtain⟨⟨b3,b4,b5⟩,bc,h⟩:=gJ h;refine qM (gG (gF0 _ _ bc)) ?_;exact goR h
 ·refine goS ?_;refine mQ (fun c7=>?_) (fun c7=>?_)
  ·replace h:=kT c7 h;refine goL ?_;refine yS (jU TBd.h TZ.h rfl (by repeat constructor)) ?_;exact goR h
  ·replace h:=kU c7 h;refine goS ?_;obtain⟨x8,ao,h⟩:=gJ h;obtain⟨a5,ao⟩:=gAz ao;obtain⟨ae,a6⟩:=x8;refine jK (qY a5 (uM ao)) ?_;refine zS ?_;refine goL ?_;refine noB ?_;refine gCm 21 (fun b8=>?_);refine kV (fun(y:Nat)(y9:List gB)(f:Nat)=>⟨[(1,.ptr 0 0),(2,.ptr 1 0),(3,.S ae),(4,.sl 2 f),(5,.N y)],[bSx ab q,.box [.I 0,.S [],.nilsl],.arr 37 3 f (gK y9)],Tryz.f201.ntmps⟩) (fun y y9 f=>gJw c (gD.mk ab q) (gD.mk ae a6) (q.drop y) y9=some r) (fun y y9 f=>q.length - y) 1 [] 0 eJ h ?_;rintro y y9 f h;refine goL ?_;refine mQ (fun ap=>?_) (fun ap=>?_)
   ·have aa:=vF ap;obtain⟨be,a7,aq⟩:=drop_at aa;rw [aq,gJw.eq_2] at h;obtain⟨bf,bg⟩:=be;refine noS ?_;refine kH (jE ?_);refine goL ?_;refine jK (jM y (uM a7)) ?_;obtain⟨⟨ag,ah,ai⟩,a8,h⟩:=gJ h;refine qM (gG (ad _ a8)) ?_;refine uQ (u:=(.st [.i .i64 ag,.s ah,.sl 3 (gK ai)])) ?_;obtain⟨bh,h⟩:=pO h;refine gAi bh ?_;refine goL ?_;refine jK (kD y (by omega)) ?_;exact⟨(y+1),(y9++[(gB.mk ag ah ai)]),(f+1),h,by omega,eJ⟩
   ·have aa:=vG ap;rw [jH aa,gJw.eq_1] at h;refine noX ?_;refine kH (jE ?_);refine goL ?_;obtain⟨bi,hb17,h⟩:=gJ h;refine kC ⟨[(1,.ptr 0 0),(2,.ptr 1 0),(3,.S ae),(4,.sl 2 f),(47,.B bi)],[bSx ab q,.box [.I 0,.S [],.nilsl],.arr 37 3 f (gK y9)],Tryz.f201.ntmps⟩ ?_ ?_
    ·refine wW 50 (fun ar=>?_) (fun ar=>?_) (by first | rfl | (simp only [kE,jN];rfl))
     ·replace hb17:=kT ar hb17;refine goL ?_;refine wW 55 (fun au=>?_) (fun au=>?_) (by first | rfl | (simp only [kE,jN];rfl))
      ·replace hb17:=kT au hb17;refine goL ?_;refine gQc ?_;obtain⟨bj,ac,hb17⟩:=gJ hb17;obtain⟨av,ac⟩:=gAz ac;obtain⟨bk,bl⟩:=bj;refine jK (qY av (uM ac)) ?_;cases hb17;exact⟨rfl,⟨⟨rfl,rfl⟩,⟨rfl,rfl⟩,⟨rfl,rfl⟩,⟨rfl,rfl⟩,⟨by first | rfl | (simp only [kE,jN];rfl),rfl⟩,trivial⟩,⟨_,rfl⟩,rfl⟩
      ·replace hb17:=kU au hb17;refine goL ?_;cases hb17;exact⟨rfl,⟨⟨rfl,rfl⟩,⟨rfl,rfl⟩,⟨rfl,rfl⟩,⟨rfl,rfl⟩,⟨by first | rfl | (simp only [kE,jN];rfl),rfl⟩,trivial⟩,⟨_,rfl⟩,rfl⟩
     ·replace hb17:=kU ar hb17;refine goL ?_;cases hb17;exact⟨rfl,⟨⟨rfl,rfl⟩,⟨rfl,rfl⟩,⟨rfl,rfl⟩,⟨rfl,rfl⟩,⟨by first | rfl | (simp only [kE,jN];rfl),rfl⟩,trivial⟩,⟨_,rfl⟩,rfl⟩
    refine goC h ?_ ?_<;>intro b9 h
    ·refine gW 2 rfl rfl ?_;refine hOu ?_;refine jL (P:=Tryz.prog) Mix.h [(0,true),(1,true),(2,true),(3,true),(4,true),(5,true),(6,true),(7,true),(8,false)] (by kernel_rfl) ?_;refine goY ?_;obtain⟨bm,aj,h⟩:=gJ h;obtain⟨aw,aj⟩:=gAz aj;obtain⟨bn,bo⟩:=bm;refine jO rfl (qY aw (uM aj)) ?_;refine goY ?_;obtain⟨bp,h⟩:=pO h;refine jO rfl (gLk bp) ?_;refine goY ?_;refine kX ?_;exact goR h
    ·refine goL ?_;obtain⟨bq,hb24,h⟩:=gJ h;refine kC ⟨[(1,.ptr 0 0),(2,.ptr 1 0),(3,.S ae),(4,.sl 2 f),(71,.B bq)],[bSx ab q,.box [.I 0,.S [],.nilsl],.arr 37 3 f (gK y9)],Tryz.f201.ntmps⟩ ?_ ?_
     ·refine wW 74 (fun ax=>?_) (fun ax=>?_) (by first | rfl | (simp only [kE,jN];rfl))
      ·replace hb24:=kT ax hb24;refine goL ?_;refine wW 79 (fun ay=>?_) (fun ay=>?_) (by first | rfl | (simp only [kE,jN];rfl))
       ·replace hb24:=kT ay hb24;refine goL ?_;refine gQc ?_;obtain⟨br,ak,hb24⟩:=gJ hb24;obtain⟨a3,ak⟩:=gAz ak;obtain⟨bt,bu⟩:=br;refine jK (qY a3 (uM ak)) ?_;cases hb24;exact⟨rfl,⟨⟨rfl,rfl⟩,⟨rfl,rfl⟩,⟨rfl,rfl⟩,⟨rfl,rfl⟩,⟨by first | rfl | (simp only [kE,jN];rfl),rfl⟩,trivial⟩,⟨_,rfl⟩,rfl⟩
       ·replace hb24:=kU ay hb24;refine goL ?_;cases hb24;exact⟨rfl,⟨⟨rfl,rfl⟩,⟨rfl,rfl⟩,⟨rfl,rfl⟩,⟨rfl,rfl⟩,⟨by first | rfl | (simp only [kE,jN];rfl),rfl⟩,trivial⟩,⟨_,rfl⟩,rfl⟩
      ·replace hb24:=kU ax hb24;refine goL ?_;cases hb24;exact⟨rfl,⟨⟨rfl,rfl⟩,⟨rfl,rfl⟩,⟨rfl,rfl⟩,⟨rfl,rfl⟩,⟨by first | rfl | (simp only [kE,jN];rfl),rfl⟩,trivial⟩,⟨_,rfl⟩,rfl⟩
     refine goC h ?_ ?_<;>intro ca h
     ·refine goL ?_;obtain⟨bv,al,h⟩:=gJ h;obtain⟨a4,al⟩:=gAz al;obtain⟨bw,bx⟩:=bv;refine jK (qY a4 (uM al)) ?_;refine yS (jU TBd.h TZ.h rfl (by repeat constructor)) ?_;exact goR h
     ·refine goS ?_;refine gAc (jU TBd.h TZ.h rfl (by repeat constructor)) ?_;refine gW 2 rfl rfl ?_;refine jG ?_;cases h;exact uA
def gLh:Nat→gD→Option (gB)
 | 0,_=>none
 | n+1,c=>gZ1 (gLh n) c
theorem gN2:∀(n:Nat)(c:gD){r:gB},gLh n c=some r→jF Tryz.prog 201 [.d (qC c)] [kZ r]:=by
 intro n
 induction n with
 | zero=>intro c r h;cases h
 | succ n ih=>intro c r h;exact hK5 ih c h
def gLn(f:LB):Option (Int × Bool):=
bnd (gSi f 12) fun c=>
(some (c.1,c.2))
theorem gV0(f:LB){r:Int × Bool}(h:gLn f=some r):jF Tryz.prog 216 [.S f] [.i .i64 r.1,.b r.2]:=by
 unfold gLn at h;refine SpI Tryz.func216 fun A _=>?_;refine goL ?_;obtain⟨⟨q,y⟩,c,h⟩:=gJ h;refine qM (gG (hD9 _ _ c)) ?_;exact goR h
def zW:LB→Nat→Bool
 | [],f=>true
 | c::xs,f=>lt_ ((cnd (decide ((c.toNat:Int)≥97)) ((decide ((c.toNat:Int)≤122))) (false))) fun q=>
lt_ ((cnd (!q) ((cnd ((f:Int)==0) (true) ((cnd (decide ((c.toNat:Int) < 48)) (true) ((decide ((c.toNat:Int) > 57))))))) (false))) fun h=>
(cnd h (
false) (
zW xs (f+1)))
def mO(c:LB):Bool:=
lt_ ((cnd (!(gH6 (c.length:Int) 1 8)) (true) ((gF7 c)))) fun f=>
(cnd f (
false) (
zW c 0))
theorem qR(q:LB):jF Tryz.prog 192 [.S q] [.b (mO q)]:=by
 obtain⟨r,h⟩:∃r,mO q=r:=⟨_,rfl⟩
 rw [h];unfold mO at h;refine SpI Tryz.func192 fun A _=>?_;refine goL ?_;refine jK (gG (gN1 (q.length:Int) 1 8)) ?_;obtain⟨b1,hb1,h⟩:=qW h;refine kC ⟨[(0,.S q),(12,.B b1)],[],Tryz.f192.ntmps⟩ ?_ ?_
 ·refine gqO 9 hb1 (fun c2 hb1=>?_);refine jK (gG (gSk q)) ?_;cases hb1;exact eJ
 refine goC h ?_ ?_<;>intro c3 h
 ·refine goL ?_;refine jG ?_;subst h;exact uA
 ·refine goS ?_;refine noB ?_;refine hE9 0 (fun z5=>?_);refine qD (fun(c:Nat)=>⟨[(0,.S q),(3,.N c)],[],Tryz.f192.ntmps⟩) (fun c=>zW (q.drop c) c=r) (fun c=>q.length - c) 0 eJ h ?_;rintro c h;refine goL ?_;refine mQ (fun c6=>?_) (fun c6=>?_)
  ·have f:=hNg c6;obtain⟨x7,y,aa⟩:=drop_at f;rw [aa,zW.eq_2] at h;refine noS ?_;refine kH (jE ?_);refine goL ?_;refine jK (gIw c y) ?_;obtain⟨b8,hb8,h⟩:=qW h;refine kC ⟨[(0,.S q),(3,.N c),(4,.B b8)],[],Tryz.f192.ntmps⟩ ?_ ?_
   ·refine gqA 23 hb8 (fun c9 hb8=>?_);refine jK (gIw c y) ?_;cases hb8;exact eJ
   refine goL ?_;obtain⟨ac,hb10,h⟩:=qW h;refine kC ⟨[(0,.S q),(3,.N c),(46,.B ac)],[],Tryz.f192.ntmps⟩ ?_ ?_
   ·refine gqA 31 hb10 (fun ag hb10=>?_);refine gqO 34 hb10 (fun ah hb10=>?_);refine jK (gIw c y) ?_;refine gqO 40 hb10 (fun ai hb10=>?_);refine jK (gIw c y) ?_;cases hb10;exact eJ
   refine goC h ?_ ?_<;>intro aj h
   ·refine goL ?_;refine jG ?_;subst h;exact uA
   ·refine goS ?_;refine jK (kD c (by omega)) ?_;exact⟨(c+1),h,by omega,eJ⟩
  ·have f:=hNh c6;rw [jH f,zW.eq_1] at h;refine goX ?_;refine jG ?_;subst h;exact uA
def gBm(c:gB→Option (Int)):List gB→Int→Option (Int)
 | [],f=>(some f)
 | h::xs,f=>bnd (c h) fun q=>
gBm c xs (gLm f (IntKind.i64.wrap ((1:Int)+q)))
def gJx(c:gB→Option (Int))(f:gB):Option (Int):=
gBm c f.args 0
theorem gT6{c:gB→Option (Int)}(f:∀(x0:gB){r:Int},c x0=some r→jF Tryz.prog 246 [.d (kZ x0)] [.i .i64 r])(a0:gB){r:Int}(h:gJx c a0=some r):jF Tryz.prog 246 [.d (kZ a0)] [.i .i64 r]:=by
 obtain⟨ac,ad,y⟩:=a0;unfold gJx at h;refine SpI Tryz.func246 fun A _=>?_;refine goL ?_;refine noB ?_;refine yP 0 2 (fun z3=>?_);refine gEt (fun(y2:Nat)(y1:Int)=>⟨[(1,.ptr 0 0),(3,.I y1),(4,.N y2)],[bTy ac ad y],Tryz.f246.ntmps⟩) (fun y2 y1=>gBm c (y.drop y2) y1=some r) (fun y2 y1=>y.length - y2) 0 0 eJ h ?_;rintro y2 y1 h;refine goL ?_;refine mQ (fun c4=>?_) (fun c4=>?_)
 ·have q:=vF c4;obtain⟨x5,ai,ae⟩:=drop_at q;rw [ae,gBm.eq_2] at h;obtain⟨al,am,an⟩:=x5;refine noS ?_;refine kH (jE ?_);refine goL ?_;refine jK (jM y2 (gEk ai)) ?_;obtain⟨x6,aj,h⟩:=gJ h;refine qM (gG (f _ aj)) ?_;refine qM (pV) ?_;refine jK (gG (gZu y1 (IntKind.i64.wrap ((1:Int)+x6)))) ?_;refine jK (kD y2 (by omega)) ?_;exact⟨(y2+1),(gLm y1 (IntKind.i64.wrap ((1:Int)+x6))),h,by omega,eJ⟩
 ·have q:=vG c4;rw [jH q,gBm.eq_1] at h;refine goX ?_;refine jG ?_;cases h;exact uA
def gJy:Nat→gB→Option (Int)
 | 0,_=>none
 | n+1,c=>gJx (gJy n) c
theorem gT7:∀(n:Nat)(c:gB){r:Int},gJy n c=some r→jF Tryz.prog 246 [.d (kZ c)] [.i .i64 r]:=by
 intro n
 induction n with
 | zero=>intro c r h;cases h
 | succ n ih=>intro c r h;exact gT6 ih c h
def gFy(c:gU):Option LS:=
bnd (gQm 5000 c [] []) fun f=>
(some f)
theorem gOc(a0:gU){r:LS}(h:gFy a0=some r):jF Tryz.prog 242 [.d (zJ a0)] [.sl 1 (gP r)]:=by
 obtain⟨y,aa,ab,ac,⟨c,f,q⟩,ad,ae⟩:=a0;unfold gFy at h;refine SpI Tryz.func242 fun A _=>?_;refine goL ?_;refine gB9 ?_;refine gB9 ?_;refine gA8 1 rfl rfl ?_;obtain⟨x1,ah,h⟩:=gJ h;refine gCl [2] (hB9 5000 (gU.mk y aa ab ac (gB.mk c f q) ad ae) [] [] 0 ah) ?_;rintro _ _ ⟨v2,rfl,rfl⟩;show VO _ _ _ _ ⟨(_,.sl 2 v2)::_,[bEx y aa ab ac c f q ad ae,.frz 9 1 0 [],.own 9 1 v2 (gP x1)],_⟩ _;refine goL ?_;refine mI 2 rfl rfl ?_;refine jG ?_;cases h;exact uA
end Go.Proofs.YtfpdlnkkcnmebaaGreat
