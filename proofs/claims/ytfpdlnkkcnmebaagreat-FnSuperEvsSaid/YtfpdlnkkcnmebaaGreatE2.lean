import Derived.Test.YtfpdlnkkcnmebaaGreatB1
import Derived.Test.YtfpdlnkkcnmebaaGreatF1
import Derived.Test.YtfpdlnkkcnmebaaGreatE1
set_option maxHeartbeats 4000000
set_option linter.unusedVariables false
set_option linter.unusedSimpArgs false
set_option linter.unusedSectionVars false
namespace Go.Proofs.YtfpdlnkkcnmebaaGreat
open Go Go.Eng
attribute [local irreducible] V VO VQ VY Quiet QR jF mJ Rng qI qJ qB
def gAk(c:gM)(a1:gF):Option (gY × Bool):=
bnd ((cnd (!(gH6 a1.package 0 (IntKind.i64.wrap ((c.packages.length:Int) - 1)))) ((some true)) (bnd (at? c.packages a1.package) fun f=>
(some (!(gH6 a1.at_ 0 (IntKind.i64.wrap ((f.instances.length:Int) - 1)))))))) fun h=>
(cnd h (
(some ((gY.mk [] [] (gB.mk 0 [] []) [] false false (gB.mk 0 [] []) []),false))) (
bnd (at? c.packages a1.package) fun q=>
bnd (at? q.instances a1.at_) fun y=>
(some (y,true))))
theorem gPy(a0:gM)(a1:gF){r:gY × Bool}(h:gAk a0 a1=some r):jF Tryz.prog 23 [.d (kW a0),.d (qA a1)] [yX r.1,.b r.2]:=by
 obtain⟨c⟩:=a0;obtain⟨f,q⟩:=a1;unfold gAk at h;refine SpI Tryz.func23 fun A _=>?_;refine gHi ?_;obtain⟨b1,hb1,h⟩:=gJ h;refine uT (P:=Tryz.prog) Mix.h ⟨[(2,.ptr 0 0),(3,.ptr 1 0),(4,.ptr 2 0),(28,.B b1)],[bPr c,.box [.I f,.I q],.box [.S [],.nilsl,.I 0,.S [],.nilsl,.nilsl,.B false,.B false,.I 0,.S [],.nilsl,.nilsl]],Tryz.f23.ntmps⟩ (by kernel_rfl) ?_ ?_
 ·refine goL ?_;refine gCy (pV) ?_;refine gCy (gG (gN1 f 0 (IntKind.i64.wrap ((c.length:Int) - 1)))) ?_;refine goL ?_;refine wN 14 (fun c2=>?_) (fun c2=>?_)
  ·replace hb1:=kT c2 hb1;refine goL ?_;cases hb1;exact eJ
  ·replace hb1:=kU c2 hb1;refine goL ?_;obtain⟨x3,y,hb1⟩:=gJ hb1;obtain⟨ac,y⟩:=gAz y;obtain⟨ap,aq,ar,au,ad,av⟩:=x3;refine gEa (qY ac (gBh y)) ?_;refine goL ?_;refine gEa (pV) ?_;refine gEa (gG (gN1 q 0 (IntKind.i64.wrap ((ad.length:Int) - 1)))) ?_;refine goL ?_;cases hb1;exact eJ
 refine goC h ?_ ?_<;>intro c4 h
 ·refine goL ?_;refine yS (jU TBd.h TZ.h rfl (by repeat constructor)) ?_;exact goR h
 ·refine noS ?_;refine jL (P:=Tryz.prog) Mix.h [(0,true),(1,true),(2,true),(3,true),(4,true),(5,true),(6,true),(7,true),(8,true),(9,true),(10,true),(11,false),(12,true)] (by kernel_rfl) ?_;refine goY ?_;obtain⟨x5,aa,h⟩:=gJ h;obtain⟨ae,aa⟩:=gAz aa;obtain⟨aw,ax,ay,a3,a4,a5⟩:=x5;refine jO rfl (qY ae (gBh aa)) ?_;refine goY ?_;obtain⟨x6,ab,h⟩:=gJ h;obtain⟨ag,ab⟩:=gAz ab;obtain⟨a6,a7,⟨ah,ai,aj⟩,a8,a9,ba,⟨ak,al,am⟩,bb⟩:=x6;refine jO rfl (qY ag (gGz ab)) ?_;refine goY ?_;refine kX ?_;exact goR h
def wT(a1:gT):List jI→Nat→Int
 | [],c=>(-1)
 | f::xs,c=>(cnd (gHd f.goal a1) (
(c:Int)) (
wT a1 xs (c+1)))
def yN(c:List jI)(a1:gT):Int:=
wT a1 c 0
theorem gNg(a0:List jI)(a1:gT):jF Tryz.prog 75 [.L 6 (jW a0),.d (wU a1)] [.i .i64 (yN a0 a1)]:=by
 obtain⟨r,h⟩:∃r,yN a0 a1=r:=⟨_,rfl⟩
 rw [h];obtain⟨ad,⟨c,f,q⟩⟩:=a1;unfold yN at h;refine SpI Tryz.func75 fun A _=>?_;refine goL ?_;refine noB ?_;refine gCm 0 (fun z2=>?_);refine qD (fun(y1:Nat)=>⟨[(0,.L 6 (jW a0)),(3,.ptr 0 0),(5,.N y1)],[bBd ad c f q],Tryz.f75.ntmps⟩) (fun y1=>wT (gT.mk ad (gB.mk c f q)) (a0.drop y1) y1=r) (fun y1=>a0.length - y1) 0 eJ h ?_;rintro y1 h;refine goL ?_;refine mQ (fun c3=>?_) (fun c3=>?_)
 ·have y:=vF c3;obtain⟨x4,ak,ai⟩:=drop_at y;rw [ai,wT.eq_2] at h;obtain⟨⟨ag,⟨aa,ab,ac⟩⟩,al,am⟩:=x4;refine noS ?_;refine kH (jE ?_);refine goL ?_;refine gCy (jM y1 (gG0 ak)) ?_;refine goL ?_;refine gCy (gG (gUg (gT.mk ag (gB.mk aa ab ac)) (gT.mk ad (gB.mk c f q)))) ?_;refine goC h ?_ ?_<;>intro c5 h
  ·refine goL ?_;refine jG ?_;subst h;exact uA
  ·refine goS ?_;refine jK (kD y1 (by omega)) ?_;exact⟨(y1+1),h,by omega,eJ⟩
 ·have y:=vG c3;rw [jH y,wT.eq_1] at h;refine goX ?_;refine jG ?_;subst h;exact uA
def vI:List Int→Int→Int→Int→Int→(List gI)→Option (gI)
 | [],c,f,h,q,y=>(some (gI.mk c f (gF.mk h q) y))
 | aa::xs,c,f,h,q,y=>vI xs 3 aa 0 0 [(gI.mk c f (gF.mk h q) y)]
def gAl(f:gI)(a1:List Int):Option (gI):=
bnd (gKa 5000 f) fun c=>
vI a1 c.kind c.n c.at_.package c.at_.at_ c.args
theorem gGx(a0:gI)(a1:List Int){r:gI}(h:gAl a0 a1=some r):mJ Tryz.prog 76 [.d (mF a0),.L 1 (gId a1)] [51] [mF r]:=by
 obtain⟨ac,ad,⟨f,q⟩,ae⟩:=a0;unfold gAl at h;refine qV Tryz.func76 rfl (by kernel_rfl) rfl (by simp) fun A _=>?_;refine goL ?_;obtain⟨⟨an,ao,⟨y,aa⟩,ap⟩,av,h⟩:=gJ h;refine gIe (hAb 5000 (gI.mk ac ad (gF.mk f q) ae) av) ?_;refine goL ?_;refine noB ?_;refine gCm 1 (fun z9=>?_);refine gXu (fun(y8:Nat)(y2:Int)(y3:Int)(y4:Int)(y5:Int)(y6:List gI)(v7:Nat)=>⟨[(1,.L 1 (gId a1)),(4,.ptr 1 0),(5,.ptr 3 0),(6,.N y8)],[.box [.I ac,.I ad,.I f,.I q,.L 5 (jP ae)],.box [.I 0,.I 0,.I 0,.I 0,.nilsl],.own 51 5 v7 (jP y6),.box [.I y2,.I y3,.I y4,.I y5,.sl 2 v7]],Tryz.f76.ntmps⟩) (fun y8 y2 y3 y4 y5 y6 v7=>vI (a1.drop y8) y2 y3 y4 y5 y6=some r) (fun y8 y2 y3 y4 y5 y6 v7=>a1.length - y8) 0 an ao y aa ap 0 eJ h ?_;rintro y8 y2 y3 y4 y5 y6 v7 h;refine goL ?_;refine mQ (fun al=>?_) (fun al=>?_)
 ·have c:=vF al;obtain⟨aw,ar,am⟩:=drop_at c;rw [am,vI.eq_2] at h;refine noS ?_;refine kH (jE ?_);refine vP (P:=Tryz.prog) Mix.h [(0,true),(1,true),(2,true),(3,true),(4,true),(5,false),(6,true),(7,false)] (by kernel_rfl) ?_;refine goY ?_;refine jO rfl (jM y8 (hTq ar)) ?_;refine goY ?_;refine gG1 (T:=31) (gI.mk y2 y3 (gF.mk y4 y5) y6) ?_;refine goY ?_;refine kX ?_;refine goL ?_;refine jK (kD y8 (by omega)) ?_;exact⟨(y8+1),3,aw,0,0,[(gI.mk y2 y3 (gF.mk y4 y5) y6)],0,h,by omega,mK 0 [0,1,4,3]⟩
 ·have c:=vG al;rw [jH c,vI.eq_1] at h;refine goX ?_;refine jG ?_;obtain rfl:=Option.some.inj h;exact gOs
def gF9(c:gM→LB→LB→Int→Option (List Int × Bool))(a0:gM)(a2:LB)(h:Int)(q:mE × Int × Bool):Nat→Int→Option (List Int × Bool)
 | 0,f=>none
 | n4+1,f=>lt_ ((cnd (decide (f < (q.1.supertraits.length:Int))) ((decide (h > 0))) (false))) fun b5=>
(cnd b5 (
bnd (at? q.1.supertraits f) fun x8=>
bnd (c a0 x8 a2 (IntKind.i64.wrap (h - 1))) fun y=>
(cnd y.2 (
gd ([f].length+y.1.length≤4294967296) (
(some (([f]++y.1),true)))) (
gF9 c a0 a2 h q n4 (IntKind.i64.wrap (f+1))))) (
(some ([],false))))
def gNh(c:gM→LB→LB→Int→Option (List Int × Bool))(f:gM)(a1:LB)(a2:LB)(h:Int)(q:Nat):Option (List Int × Bool):=
(cnd (a1==a2) (
(some ([],true))) (
lt_ (uD f a1) fun y=>
gF9 c f a2 h y q 0))
theorem gYw{c:gM→LB→LB→Int→Option (List Int × Bool)}(f:∀(x0:gM)(x1:LB)(x2:LB)(x3:Int){r:List Int × Bool},c x0 x1 x2 x3=some r→jF Tryz.prog 123 [.d (kW x0),.S x1,.S x2,.I x3] [.sl 1 (gId r.1),.b r.2])(a0:gM)(a1:LB)(a2:LB)(a3:Int){n0:Nat}{r:List Int × Bool}(h:gNh c a0 a1 a2 a3 n0=some r):jF Tryz.prog 123 [.d (kW a0),.S a1,.S a2,.I a3] [.sl 1 (gId r.1),.b r.2]:=by
 obtain⟨ad⟩:=a0;unfold gNh at h;refine SpI Tryz.func123 fun A _=>?_;refine goC h ?_ ?_<;>intro c1 h
 ·refine goL ?_;refine gB9 ?_;refine goL ?_;refine mI 1 rfl rfl ?_;refine jG ?_;cases h;exact uA
 ·refine goS ?_;obtain⟨⟨⟨q,y,aa,ab,ac⟩,aj,ak⟩,an,h⟩:=qW h;have sx2:=gFk (gM.mk ad) a1;rw [an] at sx2;refine jK (gG (sx2)) ?_;refine noB ?_;refine gEt (fun(n4:Nat)(y3:Int)=>⟨[(2,.S a2),(3,.I a3),(4,.ptr 0 0),(10,.ptr 1 0),(13,.I y3)],[bPr ad,bTr q y aa ab ac],Tryz.f123.ntmps⟩) (fun n4 y3=>gF9 c (gM.mk ad) a2 a3 ((mE.mk q y aa ab ac),aj,ak) n4 y3=some r) (fun n4 y3=>n4) n0 0 eJ h ?_;rintro n4 y3 h;rcases n4 with _ | n4
  ·cases h
  rw [gF9.eq_2] at h;refine goL ?_;obtain⟨b5,hb5,h⟩:=qW h;refine kC ⟨[(2,.S a2),(3,.I a3),(4,.ptr 0 0),(10,.ptr 1 0),(13,.I y3),(35,.B b5)],[bPr ad,bTr q y aa ab ac],Tryz.f123.ntmps⟩ ?_ ?_
  ·exact gqZ 32 hb5
  refine goC h ?_ ?_<;>intro c7 h
  ·refine noS ?_;refine kH (jE ?_);refine goL ?_;obtain⟨x8,ah,h⟩:=gJ h;obtain⟨al,ah⟩:=gAz ah;refine gCy (qY al (gNp ah)) ?_;refine goL ?_;refine gCy (pV) ?_;obtain⟨⟨ax,ay⟩,ao,h⟩:=gJ h;refine gCy (gG (f _ _ _ _ ao)) ?_;refine goC h ?_ ?_<;>intro a5 h
   ·refine goL ?_;refine yF y3 ?_;refine goL ?_;obtain⟨ap,h⟩:=pO h;refine gDn ap ?_;refine goL ?_;refine mI 2 rfl rfl ?_;refine jG ?_;cases h;exact uA
   ·refine goS ?_;refine jK (pV) ?_;exact⟨n4,(IntKind.i64.wrap (y3+1)),h,Nat.lt_succ_self _,eJ⟩
  ·refine goX ?_;refine gB9 ?_;refine goL ?_;refine mI 2 rfl rfl ?_;refine jG ?_;cases h;exact uA
def gNi:Nat→gM→LB→LB→Int→Option (List Int × Bool)
 | 0,_,_,_,_=>none
 | n+1,c,f,h,q=>gNh (gNi n) c f h q n
theorem gYx:∀(n:Nat)(c:gM)(f:LB)(q:LB)(y:Int){r:List Int × Bool},gNi n c f q y=some r→jF Tryz.prog 123 [.d (kW c),.S f,.S q,.I y] [.sl 1 (gId r.1),.b r.2]:=by
 intro n
 induction n with
 | zero=>intro c f q y r h;cases h
 | succ n ih=>intro c f q y r h;exact gYw ih c f q y h
def mM(h:gM)(a1:gT):List gF→(List gF)→Option (List gF)
 | [],c=>(some c)
 | f::xs,c=>bnd (at? h.packages f.package) fun x8=>
bnd (at? x8.instances f.at_) fun x9=>
bnd ((cnd (x9.trait==a1.trait) (bnd (gGi x9.head a1.type_) fun q=>
(some q)) ((some false)))) fun y=>
(cnd y (
gd (c.length+[f].length≤4294967296) (
mM h a1 xs (c++[f]))) (
mM h a1 xs c))
def wF(c:gM)(a1:gT):Option (List gF):=
bnd (gBs c) fun f=>
mM c a1 f []
theorem gKc(a0:gM)(a1:gT){r:List gF}(h:wF a0 a1=some r):jF Tryz.prog 155 [.d (kW a0),.d (wU a1)] [.sl 2 (kJ r)]:=by
 obtain⟨ab⟩:=a0;obtain⟨ac,⟨c,f,q⟩⟩:=a1;unfold wF at h;refine SpI Tryz.func155 fun A _=>?_;refine goL ?_;refine zS ?_;refine goL ?_;obtain⟨x1,a9,h⟩:=gJ h;refine jK (gG (gPx _ a9)) ?_;refine noB ?_;refine gCm 6 (fun z5=>?_);refine kV (fun(y4:Nat)(y2:List gF)(v3:Nat)=>⟨[(2,.ptr 0 0),(3,.ptr 1 0),(5,.sl 2 v3),(6,.L 2 (kJ x1)),(7,.N y4)],[bPr ab,bBd ac c f q,.arr 28 2 v3 (kJ y2)],Tryz.f155.ntmps⟩) (fun y4 y2 v3=>mM (gM.mk ab) (gT.mk ac (gB.mk c f q)) (x1.drop y4) y2=some r) (fun y4 y2 v3=>x1.length - y4) 0 [] 0 eJ h ?_;rintro y4 y2 v3 h;refine goL ?_;refine mQ (fun c6=>?_) (fun c6=>?_)
 ·have y:=vF c6;obtain⟨x7,ao,ar⟩:=drop_at y;rw [ar,mM.eq_2] at h;obtain⟨am,an⟩:=x7;refine noS ?_;refine kH (jE ?_);refine jL (P:=Tryz.prog) Mix.h [(0,true),(1,true),(2,true),(3,true),(4,true),(5,true),(6,true),(7,true),(8,true),(9,true),(10,true),(11,true),(12,true),(13,true),(14,true),(15,true),(16,true),(17,false),(18,false)] (by kernel_rfl) ?_;refine goY ?_;refine jO rfl (jM y4 (yD ao)) ?_;refine goY ?_;obtain⟨x8,ap,h⟩:=gJ h;obtain⟨au,ap⟩:=gAz ap;obtain⟨bd,be,bf,bg,bh,bi⟩:=x8;refine jO rfl (qY au (gBh ap)) ?_;refine goY ?_;refine jO rfl (jM y4 (yD ao)) ?_;refine goY ?_;obtain⟨x9,aq,h⟩:=gJ h;obtain⟨av,aq⟩:=gAz aq;obtain⟨aw,ax,⟨ae,ag,ah⟩,ay,a3,a4,⟨ai,aj,ak⟩,a5⟩:=x9;refine jO rfl (qY av (gGz aq)) ?_;refine goY ?_;refine kX ?_;refine goL ?_;obtain⟨bb,hb10,h⟩:=gJ h;refine kC ⟨[(2,.ptr 0 0),(3,.ptr 1 0),(5,.sl 2 v3),(6,.L 2 (kJ x1)),(7,.N y4),(46,.B bb)],[bPr ab,bBd ac c f q,.arr 28 2 v3 (kJ y2),bIn aw ax ae ag ah ay a3 a4 ai aj ak a5],Tryz.f155.ntmps⟩ ?_ ?_
  ·refine gqA 40 hb10 (fun bm hb10=>?_);obtain⟨bn,a6,hb10⟩:=gJ hb10;refine jK (gG (gR7 _ _ a6)) ?_;cases hb10;exact eJ
  refine goC h ?_ ?_<;>intro bo h
  ·refine goL ?_;refine jK (jM y4 (yD ao)) ?_;refine uQ (u:=(.st [.i .i64 am,.i .i64 an])) ?_;obtain⟨bc,h⟩:=pO h;refine gAi bc ?_;refine goL ?_;refine jK (kD y4 (by omega)) ?_;exact⟨(y4+1),(y2++[(gF.mk am an)]),(v3+1),h,by omega,eJ⟩
  ·refine goS ?_;refine jK (kD y4 (by omega)) ?_;exact⟨(y4+1),y2,v3,h,by omega,eJ⟩
 ·have y:=vG c6;rw [jH y,mM.eq_1] at h;refine goX ?_;refine gW 2 rfl rfl ?_;refine jG ?_;cases h;exact uA
def gBv(c:gB)(a1:gB):Option (Bool):=
bnd (wS c a1) fun f=>
bnd ((cnd f (bnd (wS a1 c) fun h=>
(some (!h))) ((some false)))) fun q=>
(some q)
theorem gPz(a0:gB)(a1:gB){r:Bool}(h:gBv a0 a1=some r):jF Tryz.prog 156 [.d (kZ a0),.d (kZ a1)] [.b r]:=by
 obtain⟨c,f,q⟩:=a0;obtain⟨y,aa,ab⟩:=a1;unfold gBv at h;refine SpI Tryz.func156 fun A _=>?_;refine goL ?_;obtain⟨x1,ad,h⟩:=gJ h;refine jK (gG (gF3 _ _ ad)) ?_;obtain⟨b2,hb2,h⟩:=gJ h;refine kC ⟨[(4,.B b2)],[bTy c f q,bTy y aa ab],Tryz.f156.ntmps⟩ ?_ ?_
 ·refine gqA 8 hb2 (fun c3 hb2=>?_);obtain⟨x4,ae,hb2⟩:=gJ hb2;refine jK (gG (gF3 _ _ ae)) ?_;cases hb2;exact eJ
 exact goR h
def gBw(c:gB):Option (Bool):=
bnd (gA4 c) fun f=>
bnd ((cnd ((f.length:Int)==0) (bnd (vD 5000 c) fun h=>
(some (!h))) ((some false)))) fun q=>
(some q)
theorem gV5(y:gB){r:Bool}(h:gBw y=some r):jF Tryz.prog 157 [.d (kZ y)] [.b r]:=by
 obtain⟨c,f,q⟩:=y;unfold gBw at h;refine SpI Tryz.func157 fun A _=>?_;refine goL ?_;obtain⟨x1,aa,h⟩:=gJ h;refine jK (gG (gJl _ aa)) ?_;obtain⟨b2,hb2,h⟩:=gJ h;refine kC ⟨[(2,.B b2)],[bTy c f q],Tryz.f157.ntmps⟩ ?_ ?_
 ·refine gqA 7 hb2 (fun c3 hb2=>?_);obtain⟨x4,ab,hb2⟩:=gJ hb2;refine jK (gG (gFz _ _ ab)) ?_;cases hb2;exact eJ
 exact goR h
def gA7(c:gM→LB→LS→Option LS)(w:gM):LS→LS→Option LS
 | [],f=>(some f)
 | h::xs,f=>(cnd (!(wY f h)) (
gd (f.length+[h].length≤4294967296) (
bnd (c w h (f++[h])) fun q=>
gA7 c w xs q)) (
gA7 c w xs f))
def gLs(c:gM→LB→LS→Option LS)(w:gM)(name:LB)(f:LS):Option LS:=
lt_ (uD w name) fun h=>
gA7 c w h.1.supertraits f
theorem gV6{c:gM→LB→LS→Option LS}(f:∀(x0:gM)(x1:LB)(x2:LS)(w0:Nat){r:LS},c x0 x1 x2=some r→Go.Eng.Spec Tryz.prog 126 [.d (kW x0),.S x1,.sl 0 w0] [.own 9 1 w0 (gP x2)] (fun sv Lo=>∃v'0,sv=.sl 0 v'0∧Lo=[.own 9 1 v'0 (gP r)]))(w:gM)(name:LB)(l0:LS)(v0:Nat){r:LS}(h:gLs c w name l0=some r):Go.Eng.Spec Tryz.prog 126 [.d (kW w),.S name,.sl 0 v0] [.own 9 1 v0 (gP l0)] (fun sv Lo=>∃v'0,sv=.sl 0 v'0∧Lo=[.own 9 1 v'0 (gP r)]):=by
 obtain⟨ag⟩:=w;unfold gLs at h;refine kS 1 Tryz.func126 rfl (by kernel_rfl) rfl rfl fun A _=>?_;refine goL ?_;obtain⟨⟨⟨aa,q,ab,ac,ad⟩,a3,a4⟩,ar,h⟩:=qW h;have sx1:=gFk (gM.mk ag) name;rw [ar] at sx1;refine jK (gG (sx1)) ?_;refine noB ?_;refine yP 2 1 (fun z5=>?_);refine kV (fun(y4:Nat)(y2:LS)(v3:Nat)=>⟨[(2,.sl 0 v3),(3,.ptr 1 0),(7,.ptr 2 0),(10,.N y4)],[.own 9 1 v3 (gP y2),bPr ag,bTr aa q ab ac ad],Tryz.f126.ntmps⟩) (fun y4 y2 v3=>gA7 c (gM.mk ag) (q.drop y4) y2=some r) (fun y4 y2 v3=>q.length - y4) 0 l0 v0 eJ h ?_;rintro y4 y2 v3 h;refine goL ?_;refine mQ (fun c6=>?_) (fun c6=>?_)
 ·have y:=vF c6;obtain⟨x7,aj,al⟩:=drop_at y;rw [al,gA7.eq_2] at h;refine noS ?_;refine kH (jE ?_);refine goL ?_;refine jK (jM y4 (gNp aj)) ?_;refine gAc (gUo (gF2 y2 x7)) ?_;refine mQ (fun c8=>?_) (fun c8=>?_)
  ·replace h:=kT c8 h;refine vP (P:=Tryz.prog) Mix.h [(0,true),(1,true),(2,true),(3,true),(4,true),(5,true),(6,true),(7,true),(8,true),(9,true),(10,true),(11,true),(12,false),(13,false),(14,false),(15,true)] (by kernel_rfl) ?_;refine goY ?_;refine jO rfl (jM y4 (gNp aj)) ?_;refine goY ?_;refine jO rfl (jM y4 (gNp aj)) ?_;refine goY ?_;refine gG1 (T:=34) (x7:LB) ?_;obtain⟨g9,h⟩:=pO h;refine gH1 (T:=34) g9 ?_;obtain⟨am,an,h⟩:=gJ h;refine gU2 [0] (f (gM.mk ag) x7 (y2++[x7]) (v3+1) an) ?_;rintro _ _ ⟨ak,rfl,rfl⟩;refine gRz (sv:=.sl 0 ak) (L':=[.own 9 1 ak (gP am),bPr ag,bTr aa q ab ac ad,.dead 1]) (by repeat(first | exact vE.nil | (apply vE.keep;focus ((repeat constructor);done)) | (apply vE.dep;focus kernel_rfl))) ?_;refine goY ?_;refine kX ?_;refine goL ?_;refine jK (kD y4 (by omega)) ?_;exact⟨(y4+1),am,ak,h,by omega,eJ⟩
  ·replace h:=kU c8 h;refine goS ?_;refine jK (kD y4 (by omega)) ?_;exact⟨(y4+1),y2,v3,h,by omega,eJ⟩
 ·have y:=vG c6;rw [jH y,gA7.eq_1] at h;refine goX ?_;refine jG ?_;obtain rfl:=Option.some.inj h;exact gBa [.sl 0 v3] _ ⟨v3,rfl,rfl⟩
def gLt:Nat→gM→LB→LS→Option LS
 | 0,_,_,_=>none
 | n+1,c,f,h=>gLs (gLt n) c f h
theorem gV7:∀(n:Nat)(c:gM)(f:LB)(q:LS)(y:Nat){r:LS},gLt n c f q=some r→Go.Eng.Spec Tryz.prog 126 [.d (kW c),.S f,.sl 0 y] [.own 9 1 y (gP q)] (fun sv Lo=>∃v'0,sv=.sl 0 v'0∧Lo=[.own 9 1 v'0 (gP r)]):=by
 intro n
 induction n with
 | zero=>intro c f q y r h;cases h
 | succ n ih=>intro c f q y r h;exact gV6 ih c f q y h
def gAh(c:gY):List gX→(List gX)→Option (gY)
 | [],h=>gd (([]:LS).length+c.vars.length≤4294967296) (
gd (tok c.head) (lt_ (idT c.head) fun q=>
bnd (gIu c.where_) fun y=>
gd (tok c.assoc) (lt_ (idT c.assoc) fun aa=>
(some (gY.mk c.trait ([]++c.vars) q y c.default_ c.hasAssoc aa h)))))
 | f::xs,h=>gd (([]:LS).length+f.vars.length≤4294967296) (
bnd (gIa 5000 f.body) fun x8=>
gd (h.length+[(gX.mk f.name ([]++f.vars) x8)].length≤4294967296) (
gAh c xs (h++[(gX.mk f.name ([]++f.vars) x8)])))
def gKd(c:gY):Option (gY):=
gAh c c.methods []
theorem hAd(a0:gY){r:gY}(h:gKd a0=some r):jF Tryz.prog 26 [.d (yX a0)] [yX r]:=by
 obtain⟨aj,ak,⟨c,f,q⟩,al,am,an,⟨y,aa,ab⟩,ad⟩:=a0;unfold gKd at h;refine SpI Tryz.func26 fun A _=>?_;refine goL ?_;refine zS ?_;refine goL ?_;refine noB ?_;refine yP 0 11 (fun z4=>?_);refine kV (fun(y3:Nat)(y1:List gX)(v2:Nat)=>⟨[(1,.ptr 0 0),(2,.ptr 1 0),(3,.sl 2 v2),(4,.N y3)],[bIn aj ak c f q al am an y aa ab ad,.box [.S [],.nilsl,.I 0,.S [],.nilsl,.nilsl,.B false,.B false,.I 0,.S [],.nilsl,.nilsl],.arr 103 11 v2 (kR y1)],Tryz.f26.ntmps⟩) (fun y3 y1 v2=>gAh (gY.mk aj ak (gB.mk c f q) al am an (gB.mk y aa ab) ad) (ad.drop y3) y1=some r) (fun y3 y1 v2=>ad.length - y3) 0 [] 0 eJ h ?_;rintro y3 y1 v2 h;refine goL ?_;refine mQ (fun c5=>?_) (fun c5=>?_)
 ·have ac:=vF c5;obtain⟨x6,bj,a7⟩:=drop_at ac;rw [a7,gAh.eq_2] at h;obtain⟨ao,ap,⟨bb,bc,bd,be,⟨a4,a5,a6⟩,bf,bg⟩⟩:=x6;refine noS ?_;refine kH (jE ?_);refine goL ?_;refine qM (jM y3 (gWe bj)) ?_;refine gHi ?_;refine vP (P:=Tryz.prog) Mix.h [(0,true),(1,true),(2,true),(4,true),(5,true),(7,true),(8,true),(3,false),(6,false),(9,true),(10,true),(11,false),(12,false),(13,true)] (by kernel_rfl) ?_;refine goY ?_;refine hBn ?_;obtain⟨g7,h⟩:=pO h;refine gH1 (T:=34) g7 ?_;obtain⟨⟨aq,ar,au,av,⟨ae,ag,ah⟩,aw,ax⟩,bk,h⟩:=gJ h;refine jO rfl (gG (gUi _ _ bk)) ?_;refine goY ?_;refine gG2 4 rfl rfl ?_;refine jT (T:=39) (us:=kR [(gX.mk ao ([]++ap) (gU.mk aq ar au av (gB.mk ae ag ah) aw ax))]) ?_;obtain⟨g9,h⟩:=pO h;refine jR (T:=39) g9 ?_;refine goY ?_;refine kX ?_;refine goL ?_;refine jK (kD y3 (by omega)) ?_;exact⟨(y3+1),(y1++[(gX.mk ao ([]++ap) (gU.mk aq ar au av (gB.mk ae ag ah) aw ax))]),(v2+1),h,by omega,eJ⟩
 ·have ac:=vG c5;rw [jH ac,gAh.eq_1] at h;refine goX ?_;refine gB9 ?_;refine goL ?_;obtain⟨bl,h⟩:=pO h;refine gDn bl ?_;refine goL ?_;obtain⟨bm,h⟩:=pO h;obtain⟨⟨bn,bo,bp⟩,a8,h⟩:=qW h;have sx12:=(gAp (gB.mk c f q) bm).p;rw [a8] at sx12;refine jK (gG (sx12)) ?_;obtain⟨bz,a9,h⟩:=gJ h;refine jK (gG (gV4 _ a9)) ?_;obtain⟨bq,h⟩:=pO h;obtain⟨⟨br,bt,bu⟩,ba,h⟩:=qW h;have sx15:=(gAp (gB.mk y aa ab) bq).p;rw [ba] at sx15;refine jK (gG (sx15)) ?_;refine mI 3 rfl rfl ?_;refine gW 2 rfl rfl ?_;refine jG ?_;cases h;exact uA
def gSw(c:jD):Option (jD):=
gd (gZn c.params) (gd (tok c.result) (lt_ (idT c.result) fun f=>
gd (([]:LS).length+c.vars.length≤4294967296) (
bnd (gIa 5000 c.body) fun h=>
(some (jD.mk c.name (hGa c.params) f c.hasDefault ([]++c.vars) h)))))
theorem hEv(a0:jD){r:jD}(h:gSw a0=some r):jF Tryz.prog 50 [.d (gDg a0)] [gDg r]:=by
 obtain⟨aq,ac,⟨c,f,q⟩,ar,au,⟨ad,ae,ag,ah,⟨y,aa,ab⟩,ai,aj⟩⟩:=a0;unfold gSw at h;refine SpI Tryz.func50 fun A _=>?_;refine goL ?_;obtain⟨g1,h⟩:=pO h;refine jK (gG ((gOa ac g1).p)) ?_;obtain⟨g2,h⟩:=pO h;obtain⟨⟨av,aw,ax⟩,ao,h⟩:=qW h;have sx3:=(gAp (gB.mk c f q) g2).p;rw [ao] at sx3;refine jK (gG (sx3)) ?_;refine gB9 ?_;refine goL ?_;obtain⟨g4,h⟩:=pO h;refine gDn g4 ?_;refine goL ?_;obtain⟨⟨ay,a3,a4,a5,⟨ak,al,am⟩,a6,a7⟩,ap,h⟩:=gJ h;refine jK (gG (gUi _ _ ap)) ?_;refine mI 2 rfl rfl ?_;refine jG ?_;cases h;exact uA
def kN(c:List gI)(a1:gI→Option Bool):Option (Bool):=
bnd (pW c a1) fun f=>
(some (decide (f≥0)))
theorem pK(c:List gI){a1f:Nat}{a1c:List SV}{a1:gI→Option Bool}(a1_lt:∀n,SV.lts n a1c=true)(ha1:∀(q:gI)(r:Bool),a1 q=some r→jF Tryz.prog a1f ([.d (mF q)]++a1c) [.b r]){r:Bool}(h:kN c a1=some r):jF Tryz.prog 51 [.L 5 (jP c),.fn a1f a1c] [.b r]:=by
 unfold kN at h;refine SpI Tryz.func51 fun A _=>?_;refine goL ?_;obtain⟨y,f,h⟩:=gJ h;refine qM (gG (gBk c (a1:=a1) a1_lt ha1 f)) ?_;exact goR h
def gEq(c:gM→(List gT)→gI→gB→Option (LB × Bool))(h:gM)(a1:List gT)(a2:gI)(q:gB):Option (LB × Bool):=
(cnd (a2.kind==4) (
(some (q.name,(q.kind==4)))) (
(cnd (a2.kind==3) (
(cnd ((a2.args.length:Int)==0) (
(some ([],false))) (
bnd (at? a2.args 0) fun x4=>
bnd (c h a1 x4 q) fun x5=>
(cnd (!x5.2) (
(some ([],false))) (
bnd (zI h x5.1 a2.n) fun x7=>
(some (x7.1,x7.2))))))) (
(cnd (a2.kind==2) (
lt_ ((cnd (decide (a2.n < 0)) (true) ((decide (a2.n≥(a1.length:Int)))))) fun b9=>
(cnd b9 (
(some ([],false))) (
bnd (at? a1 a2.n) fun y=>
(some (y.trait,true))))) (
(cnd (a2.kind==1) (
bnd (gC9 h a2.at_) fun f=>
(some (f.1.trait,f.2))) (
(some ([],false))))))))))
theorem gNj{c:gM→(List gT)→gI→gB→Option (LB × Bool)}(f:∀(x0:gM)(x1:List gT)(x2:gI)(x3:gB){r:LB × Bool},c x0 x1 x2 x3=some r→jF Tryz.prog 55 [.d (kW x0),.L 4 (jQ x1),.d (mF x2),.d (kZ x3)] [.s r.1,.b r.2])(a0:gM)(a1:List gT)(a2:gI)(a3:gB){r:LB × Bool}(h:gEq c a0 a1 a2 a3=some r):jF Tryz.prog 55 [.d (kW a0),.L 4 (jQ a1),.d (mF a2),.d (kZ a3)] [.s r.1,.b r.2]:=by
 obtain⟨ak⟩:=a0;obtain⟨al,am,⟨y,aa⟩,an⟩:=a2;obtain⟨ao,ap,aq⟩:=a3;unfold gEq at h;refine SpI Tryz.func55 fun A _=>?_;refine goL ?_;refine jE ?_;refine goC h ?_ ?_<;>intro c1 h
 ·exact goR h
 ·refine goC h ?_ ?_<;>intro c2 h
  ·refine goC h ?_ ?_<;>intro c3 h
   ·exact goR h
   ·refine goS ?_;obtain⟨x4,ab,h⟩:=gJ h;obtain⟨ar,ab⟩:=gAz ab;obtain⟨bm,bn,⟨a9,ba⟩,bo⟩:=x4;refine gCy (qY ar (gD9 ab)) ?_;refine goL ?_;obtain⟨⟨bp,bq⟩,bd,h⟩:=gJ h;refine gCy (gG (f _ _ _ _ bd)) ?_;refine goC h ?_ ?_<;>intro c6 h
    ·exact goR h
    ·refine goS ?_;obtain⟨⟨br,bt⟩,be,h⟩:=gJ h;refine qM (gG (gFl _ _ _ be)) ?_;exact goR h
  ·refine goC h ?_ ?_<;>intro c8 h
   ·refine goL ?_;obtain⟨b9,hb9,h⟩:=qW h;refine kC ⟨[(1,.L 4 (jQ a1)),(6,.ptr 1 0),(60,.B b9)],[bPr ak,.box [.I al,.I am,.I y,.I aa,.L 5 (jP an)],bTy ao ap aq],Tryz.f55.ntmps⟩ ?_ ?_
    ·exact gqZ 54 hb9
    refine goC h ?_ ?_<;>intro bw h
    ·exact goR h
    ·refine goS ?_;obtain⟨bf,q,h⟩:=gJ h;obtain⟨ac,q⟩:=gAz q;obtain⟨bg,⟨au,av,aw⟩⟩:=bf;refine qM (qY ac (gDi q)) ?_;exact goR h
   ·refine goC h ?_ ?_<;>intro bx h
    ·refine goL ?_;obtain⟨⟨⟨ax,ay,⟨ad,ae,ag⟩,a4,a5,a6,⟨ah,ai,aj⟩,a7⟩,bh⟩,a8,h⟩:=gJ h;refine qM (gG (gKo _ _ a8)) ?_;exact goR h
    ·refine goS ?_;refine jG ?_;cases h;exact uA
def gEr:Nat→gM→(List gT)→gI→gB→Option (LB × Bool)
 | 0,_,_,_,_=>none
 | n+1,c,f,h,q=>gEq (gEr n) c f h q
theorem gNk:∀(n:Nat)(c:gM)(f:List gT)(q:gI)(y:gB){r:LB × Bool},gEr n c f q y=some r→jF Tryz.prog 55 [.d (kW c),.L 4 (jQ f),.d (mF q),.d (kZ y)] [.s r.1,.b r.2]:=by
 intro n
 induction n with
 | zero=>intro c f q y r h;cases h
 | succ n ih=>intro c f q y r h;exact gNj ih c f q y h
end Go.Proofs.YtfpdlnkkcnmebaaGreat
