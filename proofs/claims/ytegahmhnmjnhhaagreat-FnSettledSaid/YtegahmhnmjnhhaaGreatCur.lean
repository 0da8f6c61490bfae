import Derived.Test.YtegahmhnmjnhhaaGreatB4
import Derived.Test.YtegahmhnmjnhhaaGreatB5
set_option maxHeartbeats 4000000
set_option linter.unusedVariables false
set_option linter.unusedSimpArgs false
set_option linter.unusedSectionVars false
namespace Go.Proofs.YtegahmhnmjnhhaaGreat
open Go Go.Eng
attribute [local irreducible] V VO VQ VY Quiet QR jC kT Rng mU mV mI
def gFo(c:gJ)(a1:List UInt8)(a2:gB):Option (gJ):=
bnd (gEq a1 a2) fun f=>
(cnd f (
lt_ (pO c 2) fun h=>
(some h)) (
gd (([]:List gG).length+c.bindings.length≤4294967296) (
gd (([]++c.bindings).length+[(gG.mk a1 a2)].length≤4294967296) (
(some (gJ.mk c.next c.count c.node (([]++c.bindings)++[(gG.mk a1 a2)]) c.equations c.obligations c.code c.at_))))))
theorem gXp(a0:gJ)(a1:List UInt8)(a2:gB){r:gJ}(h:gFo a0 a1 a2=some r):jC Tryz.prog 60 [.d (mD a0),.S a1,.d (jS a2)] [mD r]:=by
 obtain⟨aa,ab,ac,ad,ae,ag,ah,ai⟩:=a0;obtain⟨c,f,y⟩:=a2;unfold gFo at h;refine SpI Tryz.func60 fun A _=>?_;refine goL ?_;obtain⟨x1,ak,h⟩:=gP h;refine jL (gF (gRr _ _ ak)) ?_;refine kX (fun c2=>?_) (fun c2=>?_)
 ·replace h:=kD c2 h;refine goL ?_;obtain⟨⟨ap,aq,ar,au,av,aw,ax,ay⟩,am,h⟩:=qB h;have sx3:=gLs (gJ.mk aa ab ac ad ae ag ah ai) 2;rw [am] at sx3;refine qI (gF (sx3)) ?_;exact goR h
 ·replace h:=kE c2 h;refine noS ?_;obtain⟨g4,h⟩:=mW h;obtain⟨g5,h⟩:=mW h;refine qH (P:=Tryz.prog) Mix.h (.q 1 (.q 2 (.q 4 (.q 5 (.q 6 (.h 0 (.h 3 (.h 7 (.h 8 (.q 9 (.h 10 .nil .nil)) .nil) .nil) (.h 7 (.h 3 (.h 8 (.q 9 (.h 10 .nil .nil)) .nil) .nil) .nil)) (.h 7 (.h 0 (.h 3 (.h 8 (.q 9 (.h 10 .nil .nil)) .nil) .nil) .nil) .nil))))))) ⟨[(3,.ptr 0 0),(6,.ptr 2 0)],[.box [.I aa,.I ab,.I ac,.sl 3 ((0+1)+1),.L 7 (gW ae),.L 5 (gT ag),.I ah,.I ai],bTy c f y,.box [.I 0,.I 0,.I 0,.nilsl,.nilsl,.nilsl,.I 0,.I 0],.arr 101 4 ((0+1)+1) (gN (([]++ad)++[(gG.mk a1 (gB.mk c f y))])),.arr 101 4 0 (gN [(gG.mk a1 (gB.mk c f y))])],Tryz.f60.ntmps⟩ (by kernel_rfl) ?_ ?_
  ·refine goT ?_;refine vW (hCw jX) ?_ ?_
   ·refine vW (pV (T:=28) g4 jX) ?_ ?_
    ·refine jV (qE (T:=28) (us:=gN [(gG.mk a1 (gB.mk c f y))]) jX) ?_;refine jV (pV (T:=28) g5 jX) ?_;refine goT ?_;refine jY ?_;exact uK 0 [0,1,2,3,4]
    refine jV (qE (T:=28) (us:=gN [(gG.mk a1 (gB.mk c f y))]) jX) ?_;refine jV (pV (T:=28) g4 jX) ?_;refine jV (pV (T:=28) g5 jX) ?_;refine goT ?_;refine jY ?_;exact uK 0 [0,1,2,3,4]
   refine jV (qE (T:=28) (us:=gN [(gG.mk a1 (gB.mk c f y))]) jX) ?_;refine jV (hCw jX) ?_;refine jV (pV (T:=28) g4 jX) ?_;refine jV (pV (T:=28) g5 jX) ?_;refine goT ?_;refine jY ?_;exact uK 0 [0,1,2,4,3]
  refine goL ?_;refine kN 3 rfl rfl ?_;refine jK ?_;cases h;exact qA
def yJ(f:gI)(a1:List UInt8)(a2:List UInt8):Option (List Int × Bool):=
bnd (gO2 5000 f a1 a2 8) fun c=>
(some (c.1,c.2))
theorem gJa(c:gI)(a1:List UInt8)(a2:List UInt8){r:List Int × Bool}(h:yJ c a1 a2=some r):jC Tryz.prog 194 [.d (kR c),.S a1,.S a2] [.sl 1 (gJe r.1),.b r.2]:=by
 obtain⟨y⟩:=c;unfold yJ at h;refine SpI Tryz.func194 fun A _=>?_;refine goL ?_;obtain⟨⟨aa,ab⟩,f,h⟩:=gP h;refine qI (gF (hEj _ _ _ _ _ f)) ?_;exact goR h
def uX(a0:gI)(x7:kG)(c:Bool→Option (gH × Int)):List gH→Bool→Option (gH × Int)
 | [],h=>(c h)
 | f::xs,h=>bnd (at? a0.packages f.package) fun y=>
bnd (at? y.instances f.at_) fun aa=>
bnd ((cnd h (bnd (vT aa.head x7.head) fun ab=>
(some (!ab))) ((some false)))) fun ac=>
uX a0 x7 c xs ac
def qF(c:gI)(y:List gH):List gH→Option (gH × Int)
 | []=>(some ((gH.mk 0 0),1))
 | f::xs=>bnd (at? c.packages f.package) fun x6=>
bnd (at? x6.instances f.at_) fun x7=>
uX c x7 (fun y9=>bnd ((cnd y9 ((cnd x7.default_ (none) ((some false)))) ((some false)))) fun h=>
(cnd h (
(some ((gH.mk 0 0),2))) (
(cnd y9 (
(some (f,0))) (
qF c y xs ))))) y true
def gAh(c:gI)(a1:gY):Option (gH × Int):=
bnd (vS c a1) fun f=>
qF c f f
theorem gPa(a0:gI)(a1:gY){r:gH × Int}(h:gAh a0 a1=some r):jC Tryz.prog 224 [.d (kR a0),.d (zY a1)] [qG r.1,.i .i64 r.2]:=by
 obtain⟨ah⟩:=a0;obtain⟨ar,⟨ad,ae,ag⟩⟩:=a1;unfold gAh at h;refine SpI Tryz.func224 fun A _=>?_;refine goL ?_;obtain⟨x1,bz,h⟩:=gP h;refine jL (gF (gK6 _ _ bz)) ?_;refine noB ?_;refine gBx 6 (fun z3=>?_);refine mQ (fun(y2:Nat)=>⟨[(2,.ptr 0 0),(3,.ptr 1 0),(4,.ptr 2 0),(6,.L 2 (kF x1)),(7,.N y2)],[bPr ah,bBd ar ad ae ag,.box [.I 0,.I 0]],Tryz.f224.ntmps⟩) (fun y2=>qF (gI.mk ah) x1 (x1.drop y2)  =some r) (fun y2=>x1.length - y2) 0 eJ h ?_;rintro y2 h;refine goL ?_;refine kX (fun c4=>?_) (fun c4=>?_)
 ·have ap:=uR c4;obtain⟨x5,ba,bp⟩:=drop_at ap;rw [bp,qF.eq_2] at h;obtain⟨bq,br⟩:=x5;refine noS ?_;refine jW (jE ?_);refine jO (P:=Tryz.prog) Mix.h [(0,true),(1,true),(2,true),(3,true),(4,true),(5,true),(6,true),(7,true),(8,true),(9,true),(10,true),(11,true),(12,true),(13,true),(14,true),(15,true),(16,true),(17,false),(18,false)] (by kernel_rfl) ?_;refine goY ?_;refine jI rfl (jM y2 (wZ ba)) ?_;refine goY ?_;obtain⟨x6,bb,h⟩:=gP h;obtain⟨bt,bb⟩:=gEd bb;obtain⟨cc,cd,ce,cf,cg,ch⟩:=x6;refine jI rfl (qP bt (gBw bb)) ?_;refine goY ?_;refine jI rfl (jM y2 (wZ ba)) ?_;refine goY ?_;obtain⟨x7,bc,h⟩:=gP h;obtain⟨bu,bc⟩:=gEd bc;obtain⟨ai,aj,⟨c,f,y⟩,ak,al,am,⟨aa,ab,ac⟩,an⟩:=x7;refine jI rfl (qP bu (gHn bc)) ?_;refine goY ?_;refine kQ ?_;refine goL ?_;refine noB ?_;refine gBx 6 (fun cl=>?_)
  refine gEe (fun(y8:Nat) (y9:Bool)=>⟨[(2,.ptr 0 0),(3,.ptr 1 0),(4,.ptr 2 0),(6,.L 2 (kF x1)),(7,.N y2),(8,.ptr 3 0),(9,.B y9),(10,.N y8)],[bPr ah,bBd ar ad ae ag,.box [.I 0,.I 0],bIn ai aj c f y ak al am aa ab ac an],Tryz.f224.ntmps⟩) (fun y8 y9=>uX (gI.mk ah) (kG.mk ai aj (gB.mk c f y) ak al am (gB.mk aa ab ac) an) (fun y9=>bnd ((cnd y9 ((cnd (kG.mk ai aj (gB.mk c f y) ak al am (gB.mk aa ab ac) an).default_ (none) ((some false)))) ((some false)))) fun bd=>
(cnd bd (
(some ((gH.mk 0 0),2))) (
(cnd y9 (
(some ((gH.mk bq br),0))) (
qF (gI.mk ah) x1 (x1.drop (y2+1)) ))))) (x1.drop y8) y9=some r) (fun y8 y9=>x1.length - y8) 0 true eJ h ?_
  rintro y8 y9 h;refine goL ?_;refine kX (fun be=>?_) (fun be=>?_)
  ·have aq:=uR be;obtain⟨b1,a9,bf⟩:=drop_at aq;rw [bf,uX.eq_2] at h;obtain⟨b2,b3⟩:=b1;refine noS ?_;refine jW (jE ?_);refine jO (P:=Tryz.prog) Mix.h [(0,true),(1,true),(2,true),(3,true),(4,true),(5,true),(6,true),(7,true),(8,true),(9,true),(10,true),(11,true),(12,true),(13,true),(14,true),(15,true),(16,true),(17,false),(18,false)] (by kernel_rfl) ?_;refine goY ?_;refine jI rfl (jM y8 (wZ a9)) ?_;refine goY ?_;obtain⟨b4,aw,h⟩:=gP h;obtain⟨bg,aw⟩:=gEd aw;obtain⟨b5,b6,b7,b8,b9,ca⟩:=b4;refine jI rfl (qP bg (gBw aw)) ?_;refine goY ?_;refine jI rfl (jM y8 (wZ a9)) ?_;refine goY ?_;obtain⟨cb,ax,h⟩:=gP h;obtain⟨bh,ax⟩:=gEd ax;obtain⟨bi,bj,⟨ay,a3,a4⟩,bk,bl,bm,⟨a5,a6,a7⟩,bn⟩:=cb;refine jI rfl (qP bh (gHn ax)) ?_;refine goY ?_;refine kQ ?_;refine goL ?_;obtain⟨bv,hb15,h⟩:=gP h;refine jT ⟨[(2,.ptr 0 0),(3,.ptr 1 0),(4,.ptr 2 0),(6,.L 2 (kF x1)),(7,.N y2),(8,.ptr 3 0),(10,.N y8),(9,.B bv)],[bPr ah,bBd ar ad ae ag,.box [.I 0,.I 0],bIn ai aj c f y ak al am aa ab ac an,bIn bi bj ay a3 a4 bk bl bm a5 a6 a7 bn],Tryz.f224.ntmps⟩ ?_ ?_
   ·refine gqA 62 hb15 (fun cm hb15=>?_);obtain⟨cn,bw,hb15⟩:=gP hb15;refine jL (gF (gRs _ _ bw)) ?_;cases hb15;exact eJ
   refine goL ?_;refine jL (jR y8 (by omega)) ?_;exact⟨(y8+1),bv,h,by omega,eJ⟩
  ·have aq:=uS be;rw [jF aq,uX.eq_1] at h;refine goX ?_;obtain⟨bd,hb18,h⟩:=gP h;refine jT ⟨[(2,.ptr 0 0),(3,.ptr 1 0),(4,.ptr 2 0),(6,.L 2 (kF x1)),(7,.N y2),(9,.B y9),(80,.B bd)],[bPr ah,bBd ar ad ae ag,.box [.I 0,.I 0],bIn ai aj c f y ak al am aa ab ac an],Tryz.f224.ntmps⟩ ?_ ?_
   ·refine gqA 71 hb18 (fun co hb18=>?_);refine gqA 75 hb18 (fun cp hb18=>?_);cases hb18
   refine goC h ?_ ?_<;>intro cq h
   ·refine goL ?_;refine gAq (jU TBd.h TZ.h rfl (by repeat constructor)) ?_;exact goR h
   ·refine goS ?_;refine kX (fun bo=>?_) (fun bo=>?_)
    ·replace h:=kD bo h;refine goL ?_;refine qI (jM y2 (wZ ba)) ?_;exact goR h
    ·replace h:=kE bo h;refine goS ?_;refine jL (jR y2 (by omega)) ?_;exact⟨(y2+1),h,by omega,eJ⟩
 ·have ap:=uS c4;rw [jF ap,qF.eq_1] at h;refine goX ?_;refine gAq (jU TBd.h TZ.h rfl (by repeat constructor)) ?_;exact goR h
def qQ(c:gI)(a1:List UInt8):Option (List (List UInt8)):=
bnd (gM4 5000 c a1 []) fun f=>
(some f)
theorem gPb(f:gI)(a1:List UInt8){r:List (List UInt8)}(h:qQ f a1=some r):jC Tryz.prog 196 [.d (kR f),.S a1] [.sl 1 (jP r)]:=by
 obtain⟨c⟩:=f;unfold qQ at h;refine SpI Tryz.func196 fun A _=>?_;refine goL ?_;refine gF9 ?_;obtain⟨x1,y,h⟩:=gP h;refine yY [1] (gZo 5000 (gI.mk c) a1 [] 0 y) ?_;rintro _ _ ⟨v2,rfl,rfl⟩;show VO _ _ _ _ ⟨(_,.sl 1 v2)::_,[bPr c,.own 9 1 v2 (jP x1)],_⟩ _;refine goL ?_;refine uH 1 rfl rfl ?_;refine jK ?_;cases h;exact qA
def wX(h:gI)(a1:gH)(a2:gB):Option (gB × Bool):=
bnd (gDb h a1) fun c=>
bnd (gFw c.1.head a2) fun f=>
lt_ ((cnd (!c.2) (true) ((cnd (!c.1.hasAssoc) (true) ((!f.2)))))) fun y=>
(cnd y (
(some ((gB.mk 0 [] []),false))) (
gd (bok f.1∧tok c.1.assoc) (lt_ (apT f.1 c.1.assoc) fun x8=>
(some (x8,true)))))
theorem gTr(a0:gI)(a1:gH)(a2:gB){r:gB × Bool}(h:wX a0 a1 a2=some r):jC Tryz.prog 126 [.d (kR a0),.d (qG a1),.d (jS a2)] [jS r.1,.b r.2]:=by
 obtain⟨al⟩:=a0;obtain⟨am,an⟩:=a1;obtain⟨ao,ap,aq⟩:=a2;unfold wX at h;refine SpI Tryz.func126 fun A _=>?_;refine goL ?_;obtain⟨⟨⟨ad,ae,⟨aa,ab,ac⟩,ag,ah,ai,⟨c,f,y⟩,aj⟩,ax⟩,au,h⟩:=gP h;refine jL (gF (gZp _ _ au)) ?_;obtain⟨⟨ak,ay⟩,av,h⟩:=gP h;refine jL (gF (gS8 _ _ av)) ?_;obtain⟨b3,hb3,h⟩:=qB h;refine jT ⟨[(6,.ptr 3 0),(8,.ptr 4 0),(10,.L 4 (gN ak)),(35,.B b3)],[bPr al,.box [.I am,.I an],bTy ao ap aq,.box [.I 0,.S [],.nilsl],bIn ad ae aa ab ac ag ah ai c f y aj],Tryz.f126.ntmps⟩ ?_ ?_
 ·refine gqO 27 hb3 (fun c4 hb3=>?_);exact gqZ 32 hb3
 refine goC h ?_ ?_<;>intro c6 h
 ·refine goL ?_;refine gAq (jU TBd.h TZ.h rfl (by repeat constructor)) ?_;exact goR h
 ·refine goS ?_;obtain⟨g7,h⟩:=mW h;obtain⟨⟨a3,a4,a5⟩,aw,h⟩:=qB h;have sx8:=(gWu ak (gB.mk c f y) g7).p;rw [aw] at sx8;refine qI (gF (sx8)) ?_;exact goR h
def gHj(c:gD→Option (Bool)):List gD→Option (Bool)
 | []=>(some true)
 | f::xs=>bnd (c f) fun h=>
(cnd (!h) (
(some false)) (
gHj c xs ))
def gVv(c:gD→Option (Bool))(f:gD):Option (Bool):=
(cnd (!(f.atom==[])) (
lt_ ((cnd (gE6 f.atom) (((f.list.length:Int)==0)) (false))) fun h=>
(some h)) (
gHj c f.list ))
theorem hMp{c:gD→Option (Bool)}(f:∀(x0:gD) {r:Bool},c x0=some r→jC Tryz.prog 130 [.d (pF x0)] [.b r])(a0:gD){r:Bool}(h:gVv c a0=some r):jC Tryz.prog 130 [.d (pF a0)] [.b r]:=by
 obtain⟨ab,aa⟩:=a0;unfold gVv at h;refine SpI Tryz.func130 fun A _=>?_;refine goC h ?_ ?_<;>intro c1 h
 ·refine goL ?_;refine jL (gF (gTp ab)) ?_;obtain⟨b2,hb2,h⟩:=qB h;refine jT ⟨[(2,.B b2)],[bSx ab aa],Tryz.f130.ntmps⟩ ?_ ?_
  ·exact gqZ 10 hb2
  exact goR h
 ·refine goS ?_;refine noB ?_;refine wN 0 1 (fun z5=>?_);refine mQ (fun(y4:Nat)=>⟨[(1,.ptr 0 0),(3,.N y4)],[bSx ab aa],Tryz.f130.ntmps⟩) (fun y4=>gHj c (aa.drop y4)  =some r) (fun y4=>aa.length - y4) 0 eJ h ?_;rintro y4 h;refine goL ?_;refine kX (fun c6=>?_) (fun c6=>?_)
  ·have y:=uR c6;obtain⟨x7,ah,ad⟩:=drop_at y;rw [ad,gHj.eq_2] at h;obtain⟨al,am⟩:=x7;refine noS ?_;refine jW (jE ?_);refine goL ?_;refine jL (jM y4 (uG ah)) ?_;obtain⟨x8,ai,h⟩:=gP h;refine jL (gF (f _ ai)) ?_;refine kX (fun c9=>?_) (fun c9=>?_)
   ·replace h:=kD c9 h;exact goR h
   ·replace h:=kE c9 h;refine goS ?_;refine jL (jR y4 (by omega)) ?_;exact⟨(y4+1),h,by omega,eJ⟩
  ·have y:=uS c6;rw [jF y,gHj.eq_1] at h;refine goX ?_;refine jK ?_;cases h;exact qA
def gVw:Nat→gD→Option (Bool)
 | 0,_=>none
 | n+1,c=>gVv (gVw n) c
theorem hMq:∀(n:Nat) (c:gD) {r:Bool},gVw n c=some r→jC Tryz.prog 130 [.d (pF c)] [.b r]:=by
 intro n
 induction n with
 | zero=>intro c r h;cases h
 | succ n ih=>intro c r h;exact hMp ih c h
def gHk:List gD→(List gB)→Option (List gB)
 | [],c=>(some c)
 | h::xs,c=>bnd (gMs 5000 h) fun f=>
gd (c.length+[f].length≤4294967296) (
gHk xs (c++[f]))
def gQk(c:List gD):Option (List gB):=
gHk c []
theorem hCa(a0:List gD){r:List gB}(h:gQk a0=some r):jC Tryz.prog 166 [.L 2 (jA a0)] [.sl 3 (jJ r)]:=by
 unfold gQk at h;refine SpI Tryz.func166 fun A _=>?_;refine goL ?_;refine gAl ?_;refine goL ?_;refine noB ?_;refine gBx 0 (fun z4=>?_);refine kS (fun(f:Nat) (y1:List gB) (v2:Nat)=>⟨[(0,.L 2 (jA a0)),(3,.sl 0 v2),(4,.N f)],[.arr 35 3 v2 (jJ y1)],Tryz.f166.ntmps⟩) (fun f y1 v2=>gHk (a0.drop f) y1=some r) (fun f y1 v2=>a0.length - f) 0 [] 0 eJ h ?_;rintro f y1 v2 h;refine goL ?_;refine kX (fun c5=>?_) (fun c5=>?_)
 ·have c:=uR c5;obtain⟨x6,ai,ag⟩:=drop_at c;rw [ag,gHk.eq_2] at h;obtain⟨ak,al⟩:=x6;refine noS ?_;refine jW (jE ?_);refine goL ?_;refine jL (jM f (uG ai)) ?_;obtain⟨⟨y,aa,ab⟩,aj,h⟩:=gP h;refine qI (gF (gPs _ _ aj)) ?_;refine gAk (u:=(.st [.i .i64 y,.s aa,.sl 3 (jJ ab)])) ?_;obtain⟨g8,h⟩:=mW h;refine gBd g8 ?_;refine goL ?_;refine jL (jR f (by omega)) ?_;exact⟨(f+1),(y1++[(gB.mk y aa ab)]),(v2+1),h,by omega,eJ⟩
 ·have c:=uS c5;rw [jF c,gHk.eq_1] at h;refine goX ?_;refine kN 0 rfl rfl ?_;refine jK ?_;cases h;exact qA
def gIe(c:List gD):Option (gD):=
gd (([]:List gD).length+c.length≤4294967296) (
(some (gD.mk [] ([]++c))))
theorem gMd(c:List gD){r:gD}(h:gIe c=some r):jC Tryz.prog 204 [.L 2 (jA c)] [pF r]:=by
 unfold gIe at h;refine SpI Tryz.func204 fun A _=>?_;refine goL ?_;refine gAl ?_;refine goL ?_;obtain⟨f,h⟩:=mW h;refine gBd f ?_;refine gBn (jU TBd.h TZ.h rfl (by repeat constructor)) ?_;refine kN 1 rfl rfl ?_;refine jK ?_;cases h;exact qA
def gGv(code:List UInt8):Nat→Int→Int→Option (jH)
 | 0,f,c=>none
 | h+1,f,c=>lt_ ((cnd (decide (c < (code.length:Int))) ((decide (c < 4000))) (false))) fun y=>
(cnd y (
bnd (at? code c) fun x7=>
gGv code h (hFt (IntKind.i64.wrap ((IntKind.i64.wrap ((IntKind.i64.wrap (f*131))+(IntKind.i64.wrap (x7.toNat:Int))))+7)) 1073741823) (IntKind.i64.wrap (c+1))) (
(some (jH.mk code 0 f))))
def gR5(code:List UInt8)(c:Nat):Option (jH):=
gGv code c (IntKind.i64.wrap ((28803:Int)+(code.length:Int))) 0
theorem hQo(code:List UInt8){n0:Nat}{r:jH}(h:gR5 code n0=some r):Go.Eng.Spec Tryz.prog 17 [.L 1 (gDs code)] [] (fun sv Lo=>sv=.ptr 0 0∧Lo=[bCu r.b r.i r.h]):=by
 unfold gR5 at h;refine kM 0 Tryz.func17 rfl (by kernel_rfl) rfl rfl fun A _=>?_;refine goL ?_;refine jL (hIq) ?_;refine jL (pR) ?_;refine noB ?_;refine kS (fun(c:Nat) (f:Int) (y:Int)=>⟨[(0,.L 1 (gDs code)),(3,.I f),(4,.I y)],[],Tryz.f17.ntmps⟩) (fun c f y=>gGv code c f y=some r) (fun c f y=>c) n0 (IntKind.i64.wrap ((28803:Int)+(code.length:Int))) 0 eJ h ?_;rintro c f y h;rcases c with _ | c
 ·cases h
 rw [gGv.eq_2] at h;refine goL ?_;obtain⟨b4,hb4,h⟩:=qB h;refine jT ⟨[(0,.L 1 (gDs code)),(3,.I f),(4,.I y),(15,.B b4)],[],Tryz.f17.ntmps⟩ ?_ ?_
 ·exact gqZ 12 hb4
 refine goC h ?_ ?_<;>intro c6 h
 ·refine noS ?_;refine jW (jE ?_);refine goL ?_;refine jL (pR) ?_;obtain⟨x7,aa,h⟩:=gP h;obtain⟨ab,aa⟩:=gEd aa;refine jL (qP ab (hQ7 aa)) ?_;refine qI (hQ8 Tryz.underlying5 Tryz.underlying3) ?_;refine qI (pR) ?_;refine qI (pR) ?_;refine jL (hIr) ?_;refine jL (pR) ?_;exact⟨c,(hFt (IntKind.i64.wrap ((IntKind.i64.wrap ((IntKind.i64.wrap (f*131))+(IntKind.i64.wrap (x7.toNat:Int))))+7)) 1073741823),(IntKind.i64.wrap (y+1)),h,Nat.lt_succ_self _,eJ⟩
 ·refine goX ?_;refine gBn (jU TBd.h TZ.h rfl (by repeat constructor)) ?_;refine jK ?_;obtain rfl:=Option.some.inj h;exact zB [.ptr 0 0] [bCu code 0 f] ⟨rfl,rfl⟩
def gLi(code:List UInt8):jH:=(gR5 code 4001).getD ⟨[],0,0⟩
theorem gR6(code:List UInt8):∀(n:Nat) (f c:Int),0≤c→c≤4000→(4001 - c).toNat≤n→∃h,gGv code n f c=some ⟨code,0,h⟩
 | 0,f,c,y,h1,hn=>by omega
 | n+1,f,c,y,h1,hn=>by
   simp only [gGv,lt_];cases hc:decide (c < (code.length:Int))with
   | false=>exact⟨f,rfl⟩
   | true=>
     simp only [gZ];cases hd:decide (c < 4000)with
     | false=>exact⟨f,rfl⟩
     | true=>
       have h3:=of_decide_eq_true hc;have h4:=of_decide_eq_true hd;have hx:at? code c=some (code[c.toNat]'(by omega)):=by unfold at?;rw [if_pos y];exact List.getElem?_eq_getElem _
       simp only [gZ];rw [jQ hx,qR (c+1) (by omega) (by omega)];exact gR6 code n _ (c+1) (by omega) (by omega) (by omega)
theorem hCb(code:List UInt8):gR5 code 4001=some (gLi code)∧(gLi code).b=code∧(gLi code).i=0:=by
 obtain⟨h,e⟩:=gR6 code 4001 (IntKind.i64.wrap ((28803:Int)+(code.length:Int))) 0 (by omega) (by omega) (by omega);have e':gR5 code 4001=some ⟨code,0,h⟩:=e;unfold gLi;rw [e'];exact⟨rfl,rfl,rfl⟩
theorem hQp(code:List UInt8):Go.Eng.Spec Tryz.prog 17 [.L 1 (gDs code)] [] (fun sv Lo=>sv=.ptr 0 0∧Lo=[.box [.d (.sl 1 (gDs (gLi code).b)),.d (.i .i64 (gLi code).i),.d (.i .i64 (gLi code).h)]]):=hQo code (hCb code).1
def gGl(c:jH):Option (Int × jH):=
(cnd (decide (c.i < (c.b.length:Int))) (
bnd (at? c.b c.i) fun f=>
(some ((hFt (IntKind.i64.wrap ((hFt (hUq (hNa (IntKind.i64.wrap ((IntKind.i64.wrap (c.h*6364136223846793005))+1442695040888963407)) 33) (hNa (IntKind.i64.wrap ((IntKind.i64.wrap (c.h*6364136223846793005))+1442695040888963407)) 45)) 255)+(IntKind.i64.wrap (f.toNat:Int)))) 255),(jH.mk c.b (IntKind.i64.wrap (c.i+1)) (IntKind.i64.wrap ((IntKind.i64.wrap (c.h*6364136223846793005))+1442695040888963407)))))) (
(some ((hFt (hUq (hNa (IntKind.i64.wrap ((IntKind.i64.wrap (c.h*6364136223846793005))+1442695040888963407)) 33) (hNa (IntKind.i64.wrap ((IntKind.i64.wrap (c.h*6364136223846793005))+1442695040888963407)) 45)) 255),(jH.mk c.b c.i (IntKind.i64.wrap ((IntKind.i64.wrap (c.h*6364136223846793005))+1442695040888963407)))))))
theorem gN6(c:jH){r:Int × jH}(h:gGl c=some r):Go.Eng.Spec Tryz.prog 75 [.ptr 0 0] [bCu c.b c.i c.h] (fun sv Lo=>sv=.I r.1∧Lo=[bCu r.2.b r.2.i r.2.h]):=by
 obtain⟨aa,ab,f⟩:=c;unfold gGl at h;refine kM 1 Tryz.func75 rfl (by kernel_rfl) rfl rfl fun A _=>?_;refine goL ?_;refine qI (pR) ?_;refine jL (pR) ?_;refine gE7 (hPb) ?_;refine goL ?_;refine gE7 (hPb) ?_;refine gE7 (hUr) ?_;refine gE7 (hIr) ?_;refine goC h ?_ ?_<;>intro c1 h
 ·refine goL ?_;obtain⟨x2,y,h⟩:=gP h;obtain⟨ac,y⟩:=gEd y;refine gE7 (qP ac (hQ7 y)) ?_;refine goL ?_;refine gE7 (hQ8 Tryz.underlying5 Tryz.underlying3) ?_;refine gE7 (pR) ?_;refine gE7 (hIr) ?_;refine goL ?_;refine jL (pR) ?_;refine jK ?_;obtain rfl:=Option.some.inj h;exact zB [.d (.i .i64 (hFt (IntKind.i64.wrap ((hFt (hUq (hNa (IntKind.i64.wrap ((IntKind.i64.wrap (f*6364136223846793005))+1442695040888963407)) 33) (hNa (IntKind.i64.wrap ((IntKind.i64.wrap (f*6364136223846793005))+1442695040888963407)) 45)) 255)+(IntKind.i64.wrap (x2.toNat:Int)))) 255))] [.box [.L 1 (gDs aa),.d (.i .i64 (IntKind.i64.wrap (ab+1))),.d (.i .i64 (IntKind.i64.wrap ((IntKind.i64.wrap (f*6364136223846793005))+1442695040888963407)))]] ⟨rfl,rfl⟩
 ·refine goS ?_;refine jK ?_;obtain rfl:=Option.some.inj h;exact zB [.d (.i .i64 (hFt (hUq (hNa (IntKind.i64.wrap ((IntKind.i64.wrap (f*6364136223846793005))+1442695040888963407)) 33) (hNa (IntKind.i64.wrap ((IntKind.i64.wrap (f*6364136223846793005))+1442695040888963407)) 45)) 255))] [.box [.L 1 (gDs aa),.I ab,.d (.i .i64 (IntKind.i64.wrap ((IntKind.i64.wrap (f*6364136223846793005))+1442695040888963407)))]] ⟨rfl,rfl⟩
def gAi(c:jH)(n:Int):Option (Int × jH):=
(cnd (decide (n≤0)) (
(some (0,c))) (
(cnd (decide (n≤256)) (
bnd (gGl c) fun f=>
gd (n≠0) (
(some ((Int.tmod f.1 n),f.2)))) (
bnd (gGl c) fun h=>
bnd (gGl h.2) fun y=>
bnd (gGl y.2) fun x7=>
bnd (gGl x7.2) fun x8=>
gd (n≠0) (
(some ((Int.tmod (IntKind.i64.wrap ((IntKind.i64.wrap ((IntKind.i64.wrap ((IntKind.i64.wrap (h.1*16777216))+(IntKind.i64.wrap (y.1*65536))))+(IntKind.i64.wrap (x7.1*256))))+x8.1)) n),x8.2)))))))
theorem gEc(c:jH)(n:Int){r:Int × jH}(h:gAi c n=some r):Go.Eng.Spec Tryz.prog 37 [.ptr 0 0,.I n] [bCu c.b c.i c.h] (fun sv Lo=>sv=.I r.1∧Lo=[bCu r.2.b r.2.i r.2.h]):=by
 obtain⟨ao,ap,aq⟩:=c;unfold gAi at h;refine kM 1 Tryz.func37 rfl (by kernel_rfl) rfl rfl fun A _=>?_;refine goC h ?_ ?_<;>intro c1 h
 ·refine goL ?_;refine jK ?_;obtain rfl:=Option.some.inj h;exact zB [.I 0] [bCu ao ap aq] ⟨rfl,rfl⟩
 ·refine goS ?_;refine kX (fun c2=>?_) (fun c2=>?_)
  ·replace h:=kD c2 h;refine goL ?_;obtain⟨⟨ar,⟨f,y,aa⟩⟩,a0,h⟩:=gP h;refine gAr 0 (gN6 (jH.mk ao ap aq) a0) ?_;refine goL ?_;obtain⟨g4,h⟩:=mW h;refine jL (hPc g4) ?_;refine jK ?_;obtain rfl:=Option.some.inj h;exact zB [.I (Int.tmod ar n)] [bCu f y aa] ⟨rfl,rfl⟩
  ·replace h:=kE c2 h;refine goS ?_;obtain⟨⟨au,⟨ab,ac,ad⟩⟩,a3,h⟩:=gP h;refine gAr 0 (gN6 (jH.mk ao ap aq) a3) ?_;refine goL ?_;obtain⟨⟨av,⟨ae,ag,ah⟩⟩,a4,h⟩:=gP h;refine gAr 0 (gN6 (jH.mk ab ac ad) a4) ?_;refine goL ?_;obtain⟨⟨aw,⟨ai,aj,ak⟩⟩,a5,h⟩:=gP h;refine gAr 0 (gN6 (jH.mk ae ag ah) a5) ?_;refine goL ?_;obtain⟨⟨ax,⟨al,am,an⟩⟩,a6,h⟩:=gP h;refine gAr 0 (gN6 (jH.mk ai aj ak) a6) ?_;refine goL ?_;refine jL (pR) ?_;refine qI (pR) ?_;refine jL (pR) ?_;refine qI (pR) ?_;refine jL (pR) ?_;refine jL (pR) ?_;obtain⟨g9,h⟩:=mW h;refine jL (hPc g9) ?_;refine jK ?_;obtain rfl:=Option.some.inj h;exact zB [.d (.i .i64 (Int.tmod (IntKind.i64.wrap ((IntKind.i64.wrap ((IntKind.i64.wrap ((IntKind.i64.wrap (au*16777216))+(IntKind.i64.wrap (av*65536))))+(IntKind.i64.wrap (aw*256))))+ax)) n))] [bCu al am an] ⟨rfl,rfl⟩
def gGm(c:jH)(l:List (List UInt8)):Option (List UInt8 × jH):=
bnd (gAi c (l.length:Int)) fun f=>
bnd (at? l f.1) fun h=>
(some (h,f.2))
theorem gQl(c:jH)(l:List (List UInt8)){r:List UInt8 × jH}(h:gGm c l=some r):Go.Eng.Spec Tryz.prog 38 [.ptr 0 0,.L 1 (jP l)] [bCu c.b c.i c.h] (fun sv Lo=>sv=.S r.1∧Lo=[bCu r.2.b r.2.i r.2.h]):=by
 obtain⟨ad,ae,ag⟩:=c;unfold gGm at h;refine kM 1 Tryz.func38 rfl (by kernel_rfl) rfl rfl fun A _=>?_;refine goL ?_;obtain⟨⟨ai,⟨f,y,aa⟩⟩,ah,h⟩:=gP h;refine gAr 0 (gEc (jH.mk ad ae ag) (l.length:Int) ah) ?_;obtain⟨x2,ab,h⟩:=gP h;obtain⟨ac,ab⟩:=gEd ab;refine jL (qP ac (gQq ab)) ?_;refine jK ?_;obtain rfl:=Option.some.inj h;exact zB [.S x2] [bCu f y aa] ⟨rfl,rfl⟩
end Go.Proofs.YtegahmhnmjnhhaaGreat
