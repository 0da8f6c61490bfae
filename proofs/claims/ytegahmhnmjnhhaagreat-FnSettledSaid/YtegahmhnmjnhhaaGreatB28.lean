import Derived.Test.YtegahmhnmjnhhaaGreatB11
set_option maxHeartbeats 4000000
set_option linter.unusedVariables false
set_option linter.unusedSimpArgs false
set_option linter.unusedSectionVars false
namespace Go.Proofs.YtegahmhnmjnhhaaGreat
open Go Go.Eng
attribute [local irreducible] V VO VQ VY Quiet QR jC kT Rng mU mV mI
def gDo(a1:gI)(a2:List gY)(x2:Int × jH):Nat→(List UInt8)→Int→Int→Int→Int→Int→(List gG)→(List jB)→(List jN)→Int→Int→Int→Option (gJ × jH)
 | 0,y3,y4,y5,y6,y7,y8,y9,ab,ac,ad,ae,y=>none
 | ag+1,y3,y4,y5,y6,y7,y8,y9,ab,ac,ad,ae,y=>(cnd (decide (y < x2.1)) (
bnd (gKz 5000 (jH.mk y3 y4 y5) 2) fun ah=>
bnd (gKz 5000 ah.2 2) fun aa=>
bnd (zQ a1 a2 (gJ.mk y6 y7 y8 y9 ab ac ad ae) ah.1 aa.1) fun c=>
(cnd (c.code==0) (
gDo a1 a2 x2 ag aa.2.b aa.2.i aa.2.h c.next c.count c.node c.bindings c.equations c.obligations c.code c.at_ (IntKind.i64.wrap (y+1))) (
bnd (gC8 aa.2 12) fun f=>
(cnd f.1 (
gDo a1 a2 x2 ag f.2.b f.2.i f.2.h c.next c.count c.node c.bindings c.equations c.obligations c.code c.at_ (IntKind.i64.wrap (y+1))) (
gDo a1 a2 x2 ag f.2.b f.2.i f.2.h y6 y7 y8 y9 ab ac ad ae (IntKind.i64.wrap (y+1))))))) (
(some ((gJ.mk y6 y7 y8 y9 ab ac ad ae),(jH.mk y3 y4 y5)))))
def gVl(c:jH)(a1:gI)(a2:List gY)(n0:Nat):Option (gJ × jH):=
bnd (gAi c 5) fun y=>
bnd (gAi y.2 4) fun f=>
gDo a1 a2 f n0 f.2.b f.2.i f.2.h 4 0 y.1 [] [] [] 0 0 0
theorem hQg(c:jH)(a1:gI)(a2:List gY){n0:Nat}{r:gJ × jH}(h:gVl c a1 a2 n0=some r):Go.Eng.Spec Tryz.prog 20 [.ptr 0 0,.d (kR a1),.L 4 (kV a2)] [bCu c.b c.i c.h] (fun sv Lo=>sv=.d (mD r.1)∧Lo=[bCu r.2.b r.2.i r.2.h]):=by
 obtain⟨br,bt,bu⟩:=c;obtain⟨ba⟩:=a1;unfold gVl at h;refine kM 1 Tryz.func20 rfl (by kernel_rfl) rfl rfl fun A _=>?_;refine goL ?_;obtain⟨⟨bj,⟨bc,bd,be⟩⟩,bv,h⟩:=gP h;refine gAr 0 (gEc (jH.mk br bt bu) 5 bv) ?_;refine gBn (jU TBd.h TZ.h rfl (by repeat constructor)) ?_;obtain⟨⟨bb,⟨a7,a8,a9⟩⟩,bw,h⟩:=gP h;refine gAr 0 (gEc (jH.mk bc bd be) 4 bw) ?_;refine goL ?_;refine noB ?_;refine gUh 4 3 3 rfl rfl (by repeat constructor) (by repeat constructor) ?_;show V _ _ _ _ _;refine gUh 7 3 4 rfl rfl (by repeat constructor) (by repeat constructor) ?_;show V _ _ _ _ _;refine gUh 5 3 5 rfl rfl (by repeat constructor) (by repeat constructor) ?_;show V _ _ _ _ _;refine hNg (fun(al:Nat) (y3:List UInt8) (y4:Int) (y5:Int) (y6:Int) (y7:Int) (y8:Int) (y9:List gG) (an:List jB) (ao:List jN) (ap:Int) (aq:Int) (am:Int)=>⟨[(0,.ptr 0 0),(2,.L 4 (kV a2)),(4,.ptr 1 0),(6,.ptr 2 0),(7,.ptr 3 0),(8,.I bb),(9,.I am)],[bCu y3 y4 y5,bPr ba,.box [.I 0,.I 0,.I 0,.nilsl,.nilsl,.nilsl,.I 0,.I 0],bSt y6 y7 y8 y9 an ao ap aq],Tryz.f20.ntmps⟩) (fun al y3 y4 y5 y6 y7 y8 y9 an ao ap aq am=>gDo (gI.mk ba) a2 (bb,(jH.mk a7 a8 a9)) al y3 y4 y5 y6 y7 y8 y9 an ao ap aq am=some r) (fun al y3 y4 y5 y6 y7 y8 y9 an ao ap aq am=>al) n0 a7 a8 a9 4 0 bj [] [] [] 0 0 0 eJ h ?_;rintro al y3 y4 y5 y6 y7 y8 y9 an ao ap aq am h;rcases al with _ | al
 ·cases h
 rw [gDo.eq_2] at h;refine goC h ?_ ?_<;>intro b0 h
 ·refine noS ?_;refine jW (jE ?_);obtain⟨⟨⟨bk,bl,bm⟩,⟨f,y,aa⟩⟩,ad,h⟩:=gP h;obtain⟨⟨⟨bn,bo,bp⟩,⟨ae,ag,ah⟩⟩,ac,h⟩:=gP h;obtain⟨⟨aw,ax,ay,a0,a3,a4,a5,a6⟩,ab,h⟩:=gP h;refine qH (P:=Tryz.prog) Mix.h (.q 1 (.q 3 (.q 5 (.h 0 (.h 2 (.h 4 (.h 6 (.q 7 (.h 8 (.h 9 .nil .nil) .nil)) (.h 8 (.h 6 (.q 7 (.h 9 .nil .nil)) .nil) .nil)) (.h 8 (.h 4 (.h 6 (.q 7 (.h 9 .nil .nil)) .nil) .nil) .nil)) (.h 4 (.h 2 (.h 6 (.q 7 (.h 8 (.h 9 .nil .nil) .nil)) (.h 8 (.h 6 (.q 7 (.h 9 .nil .nil)) .nil) .nil)) (.h 6 (.h 2 (.q 7 (.h 8 (.h 9 .nil .nil) .nil)) (.h 8 (.h 2 (.q 7 (.h 9 .nil .nil)) .nil) .nil)) (.h 8 (.h 2 (.h 6 (.q 7 (.h 9 .nil .nil)) .nil) (.h 6 (.h 2 (.q 7 (.h 9 .nil .nil)) .nil) .nil)) .nil))) (.h 8 (.h 2 (.h 4 (.h 6 (.q 7 (.h 9 .nil .nil)) .nil) .nil) (.h 4 (.h 2 (.h 6 (.q 7 (.h 9 .nil .nil)) .nil) (.h 6 (.h 2 (.q 7 (.h 9 .nil .nil)) .nil) .nil)) .nil)) .nil))) (.h 2 (.h 0 (.h 4 (.h 6 (.q 7 (.h 8 (.h 9 .nil .nil) .nil)) (.h 8 (.h 6 (.q 7 (.h 9 .nil .nil)) .nil) .nil)) (.h 8 (.h 4 (.h 6 (.q 7 (.h 9 .nil .nil)) .nil) .nil) .nil)) (.h 4 (.h 0 (.h 6 (.q 7 (.h 8 (.h 9 .nil .nil) .nil)) (.h 8 (.h 6 (.q 7 (.h 9 .nil .nil)) .nil) .nil)) (.h 6 (.h 0 (.q 7 (.h 8 (.h 9 .nil .nil) .nil)) (.h 8 (.h 0 (.q 7 (.h 9 .nil .nil)) .nil) .nil)) (.h 8 (.h 0 (.h 6 (.q 7 (.h 9 .nil .nil)) .nil) (.h 6 (.h 0 (.q 7 (.h 9 .nil .nil)) .nil) .nil)) .nil))) (.h 8 (.h 0 (.h 4 (.h 6 (.q 7 (.h 9 .nil .nil)) .nil) .nil) (.h 4 (.h 0 (.h 6 (.q 7 (.h 9 .nil .nil)) .nil) (.h 6 (.h 0 (.q 7 (.h 9 .nil .nil)) .nil) .nil)) .nil)) .nil))) (.h 4 (.h 0 (.h 2 (.h 6 (.q 7 (.h 8 (.h 9 .nil .nil) .nil)) (.h 8 (.h 6 (.q 7 (.h 9 .nil .nil)) .nil) .nil)) (.h 6 (.h 2 (.q 7 (.h 8 (.h 9 .nil .nil) .nil)) (.h 8 (.h 2 (.q 7 (.h 9 .nil .nil)) .nil) .nil)) (.h 8 (.h 2 (.h 6 (.q 7 (.h 9 .nil .nil)) .nil) (.h 6 (.h 2 (.q 7 (.h 9 .nil .nil)) .nil) .nil)) .nil))) (.h 2 (.h 0 (.h 6 (.q 7 (.h 8 (.h 9 .nil .nil) .nil)) (.h 8 (.h 6 (.q 7 (.h 9 .nil .nil)) .nil) .nil)) (.h 6 (.h 0 (.q 7 (.h 8 (.h 9 .nil .nil) .nil)) (.h 8 (.h 0 (.q 7 (.h 9 .nil .nil)) .nil) .nil)) (.h 8 (.h 0 (.h 6 (.q 7 (.h 9 .nil .nil)) .nil) (.h 6 (.h 0 (.q 7 (.h 9 .nil .nil)) .nil) .nil)) .nil))) (.h 6 (.h 0 (.h 2 (.q 7 (.h 8 (.h 9 .nil .nil) .nil)) (.h 8 (.h 2 (.q 7 (.h 9 .nil .nil)) .nil) .nil)) (.h 2 (.h 0 (.q 7 (.h 8 (.h 9 .nil .nil) .nil)) (.h 8 (.h 0 (.q 7 (.h 9 .nil .nil)) .nil) .nil)) (.h 8 (.h 0 (.h 2 (.q 7 (.h 9 .nil .nil)) .nil) (.h 2 (.h 0 (.q 7 (.h 9 .nil .nil)) .nil) .nil)) .nil))) (.h 8 (.h 0 (.h 2 (.h 6 (.q 7 (.h 9 .nil .nil)) .nil) (.h 6 (.h 2 (.q 7 (.h 9 .nil .nil)) .nil) .nil)) (.h 2 (.h 0 (.h 6 (.q 7 (.h 9 .nil .nil)) .nil) (.h 6 (.h 0 (.q 7 (.h 9 .nil .nil)) .nil) .nil)) (.h 6 (.h 0 (.h 2 (.q 7 (.h 9 .nil .nil)) .nil) (.h 2 (.h 0 (.q 7 (.h 9 .nil .nil)) .nil) .nil)) .nil))) .nil)))) (.h 8 (.h 0 (.h 2 (.h 4 (.h 6 (.q 7 (.h 9 .nil .nil)) .nil) .nil) (.h 4 (.h 2 (.h 6 (.q 7 (.h 9 .nil .nil)) .nil) (.h 6 (.h 2 (.q 7 (.h 9 .nil .nil)) .nil) .nil)) .nil)) (.h 2 (.h 0 (.h 4 (.h 6 (.q 7 (.h 9 .nil .nil)) .nil) .nil) (.h 4 (.h 0 (.h 6 (.q 7 (.h 9 .nil .nil)) .nil) (.h 6 (.h 0 (.q 7 (.h 9 .nil .nil)) .nil) .nil)) .nil)) (.h 4 (.h 0 (.h 2 (.h 6 (.q 7 (.h 9 .nil .nil)) .nil) (.h 6 (.h 2 (.q 7 (.h 9 .nil .nil)) .nil) .nil)) (.h 2 (.h 0 (.h 6 (.q 7 (.h 9 .nil .nil)) .nil) (.h 6 (.h 0 (.q 7 (.h 9 .nil .nil)) .nil) .nil)) (.h 6 (.h 0 (.h 2 (.q 7 (.h 9 .nil .nil)) .nil) (.h 2 (.h 0 (.q 7 (.h 9 .nil .nil)) .nil) .nil)) .nil))) .nil))) .nil))))))) ⟨[(0,.ptr 0 0),(2,.L 4 (kV a2)),(4,.ptr 1 0),(6,.ptr 2 0),(7,.ptr 3 0),(8,.I bb),(9,.I am),(10,.ptr 4 0)],[bCu ae ag ah,bPr ba,.box [.I 0,.I 0,.I 0,.nilsl,.nilsl,.nilsl,.I 0,.I 0],bSt y6 y7 y8 y9 an ao ap aq,bSt aw ax ay a0 a3 a4 a5 a6],Tryz.f20.ntmps⟩ (by kernel_rfl) ?_ ?_
  ·refine goT ?_;refine vW (pJ jX) ?_ ?_
   ·refine vW (pJ jX) ?_ ?_
    ·refine vW (qX 0 (kW 5000 (jH.mk y3 y4 y5) 2 ad) jX) ?_ ?_
     ·refine vW (qX 0 (kW 5000 (jH.mk f y aa) 2 ac) jX) ?_ ?_
      ·refine gAt (jI rfl (gF (jD _ _ _ _ _ ab)) jX) ?_;refine goT ?_;refine jY ?_;exact uK 1 [0,1,2,3,4]
      refine goT ?_;refine jV (qX 0 (kW 5000 (jH.mk f y aa) 2 ac) jX) ?_;refine gAt (jI rfl (gF (jD _ _ _ _ _ ab)) jX) ?_;refine goT ?_;refine jY ?_;exact uK 1 [0,1,2,3,4]
     refine goT ?_;refine jV (qX 0 (kW 5000 (jH.mk y3 y4 y5) 2 ad) jX) ?_;refine jV (qX 0 (kW 5000 (jH.mk f y aa) 2 ac) jX) ?_;refine gAt (jI rfl (gF (jD _ _ _ _ _ ab)) jX) ?_;refine goT ?_;refine jY ?_;exact uK 1 [0,1,2,3,4]
    refine vW (qX 0 (kW 5000 (jH.mk y3 y4 y5) 2 ad) jX) ?_ ?_
    ·refine vW (pJ jX) ?_ ?_
     ·refine vW (qX 0 (kW 5000 (jH.mk f y aa) 2 ac) jX) ?_ ?_
      ·refine gAt (jI rfl (gF (jD _ _ _ _ _ ab)) jX) ?_;refine goT ?_;refine jY ?_;exact uK 1 [0,1,2,3,4]
      refine goT ?_;refine jV (qX 0 (kW 5000 (jH.mk f y aa) 2 ac) jX) ?_;refine gAt (jI rfl (gF (jD _ _ _ _ _ ab)) jX) ?_;refine goT ?_;refine jY ?_;exact uK 1 [0,1,2,3,4]
     refine vW (qX 0 (kW 5000 (jH.mk f y aa) 2 ac) jX) ?_ ?_
     ·refine vW (pJ jX) ?_ ?_
      ·refine gAt (jI rfl (gF (jD _ _ _ _ _ ab)) jX) ?_;refine goT ?_;refine jY ?_;exact uK 1 [0,1,2,3,4]
      refine goT ?_;refine jV (pJ jX) ?_;refine gAt (jI rfl (gF (jD _ _ _ _ _ ab)) jX) ?_;refine goT ?_;refine jY ?_;exact uK 1 [0,1,2,3,4]
     refine goT ?_;refine vW (pJ jX) ?_ ?_
     ·refine jV (qX 0 (kW 5000 (jH.mk f y aa) 2 ac) jX) ?_;refine gAt (jI rfl (gF (jD _ _ _ _ _ ab)) jX) ?_;refine goT ?_;refine jY ?_;exact uK 1 [0,1,2,3,4]
     refine jV (qX 0 (kW 5000 (jH.mk f y aa) 2 ac) jX) ?_;refine jV (pJ jX) ?_;refine gAt (jI rfl (gF (jD _ _ _ _ _ ab)) jX) ?_;refine goT ?_;refine jY ?_;exact uK 1 [0,1,2,3,4]
    refine goT ?_;refine vW (pJ jX) ?_ ?_
    ·refine jV (qX 0 (kW 5000 (jH.mk y3 y4 y5) 2 ad) jX) ?_;refine jV (qX 0 (kW 5000 (jH.mk f y aa) 2 ac) jX) ?_;refine gAt (jI rfl (gF (jD _ _ _ _ _ ab)) jX) ?_;refine goT ?_;refine jY ?_;exact uK 1 [0,1,2,3,4]
    refine jV (qX 0 (kW 5000 (jH.mk y3 y4 y5) 2 ad) jX) ?_;refine vW (pJ jX) ?_ ?_
    ·refine jV (qX 0 (kW 5000 (jH.mk f y aa) 2 ac) jX) ?_;refine gAt (jI rfl (gF (jD _ _ _ _ _ ab)) jX) ?_;refine goT ?_;refine jY ?_;exact uK 1 [0,1,2,3,4]
    refine jV (qX 0 (kW 5000 (jH.mk f y aa) 2 ac) jX) ?_;refine jV (pJ jX) ?_;refine gAt (jI rfl (gF (jD _ _ _ _ _ ab)) jX) ?_;refine goT ?_;refine jY ?_;exact uK 1 [0,1,2,3,4]
   refine vW (pJ jX) ?_ ?_
   ·refine vW (pJ jX) ?_ ?_
    ·refine vW (qX 0 (kW 5000 (jH.mk y3 y4 y5) 2 ad) jX) ?_ ?_
     ·refine vW (qX 0 (kW 5000 (jH.mk f y aa) 2 ac) jX) ?_ ?_
      ·refine gAt (jI rfl (gF (jD _ _ _ _ _ ab)) jX) ?_;refine goT ?_;refine jY ?_;exact uK 1 [0,1,2,3,4]
      refine goT ?_;refine jV (qX 0 (kW 5000 (jH.mk f y aa) 2 ac) jX) ?_;refine gAt (jI rfl (gF (jD _ _ _ _ _ ab)) jX) ?_;refine goT ?_;refine jY ?_;exact uK 1 [0,1,2,3,4]
     refine goT ?_;refine jV (qX 0 (kW 5000 (jH.mk y3 y4 y5) 2 ad) jX) ?_;refine jV (qX 0 (kW 5000 (jH.mk f y aa) 2 ac) jX) ?_;refine gAt (jI rfl (gF (jD _ _ _ _ _ ab)) jX) ?_;refine goT ?_;refine jY ?_;exact uK 1 [0,1,2,3,4]
    refine vW (qX 0 (kW 5000 (jH.mk y3 y4 y5) 2 ad) jX) ?_ ?_
    ·refine vW (pJ jX) ?_ ?_
     ·refine vW (qX 0 (kW 5000 (jH.mk f y aa) 2 ac) jX) ?_ ?_
      ·refine gAt (jI rfl (gF (jD _ _ _ _ _ ab)) jX) ?_;refine goT ?_;refine jY ?_;exact uK 1 [0,1,2,3,4]
      refine goT ?_;refine jV (qX 0 (kW 5000 (jH.mk f y aa) 2 ac) jX) ?_;refine gAt (jI rfl (gF (jD _ _ _ _ _ ab)) jX) ?_;refine goT ?_;refine jY ?_;exact uK 1 [0,1,2,3,4]
     refine vW (qX 0 (kW 5000 (jH.mk f y aa) 2 ac) jX) ?_ ?_
     ·refine vW (pJ jX) ?_ ?_
      ·refine gAt (jI rfl (gF (jD _ _ _ _ _ ab)) jX) ?_;refine goT ?_;refine jY ?_;exact uK 1 [0,1,2,3,4]
      refine goT ?_;refine jV (pJ jX) ?_;refine gAt (jI rfl (gF (jD _ _ _ _ _ ab)) jX) ?_;refine goT ?_;refine jY ?_;exact uK 1 [0,1,2,3,4]
     refine goT ?_;refine vW (pJ jX) ?_ ?_
     ·refine jV (qX 0 (kW 5000 (jH.mk f y aa) 2 ac) jX) ?_;refine gAt (jI rfl (gF (jD _ _ _ _ _ ab)) jX) ?_;refine goT ?_;refine jY ?_;exact uK 1 [0,1,2,3,4]
     refine jV (qX 0 (kW 5000 (jH.mk f y aa) 2 ac) jX) ?_;refine jV (pJ jX) ?_;refine gAt (jI rfl (gF (jD _ _ _ _ _ ab)) jX) ?_;refine goT ?_;refine jY ?_;exact uK 1 [0,1,2,3,4]
    refine goT ?_;refine vW (pJ jX) ?_ ?_
    ·refine jV (qX 0 (kW 5000 (jH.mk y3 y4 y5) 2 ad) jX) ?_;refine jV (qX 0 (kW 5000 (jH.mk f y aa) 2 ac) jX) ?_;refine gAt (jI rfl (gF (jD _ _ _ _ _ ab)) jX) ?_;refine goT ?_;refine jY ?_;exact uK 1 [0,1,2,3,4]
    refine jV (qX 0 (kW 5000 (jH.mk y3 y4 y5) 2 ad) jX) ?_;refine vW (pJ jX) ?_ ?_
    ·refine jV (qX 0 (kW 5000 (jH.mk f y aa) 2 ac) jX) ?_;refine gAt (jI rfl (gF (jD _ _ _ _ _ ab)) jX) ?_;refine goT ?_;refine jY ?_;exact uK 1 [0,1,2,3,4]
    refine jV (qX 0 (kW 5000 (jH.mk f y aa) 2 ac) jX) ?_;refine jV (pJ jX) ?_;refine gAt (jI rfl (gF (jD _ _ _ _ _ ab)) jX) ?_;refine goT ?_;refine jY ?_;exact uK 1 [0,1,2,3,4]
   refine vW (qX 0 (kW 5000 (jH.mk y3 y4 y5) 2 ad) jX) ?_ ?_
   ·refine vW (pJ jX) ?_ ?_
    ·refine vW (pJ jX) ?_ ?_
     ·refine vW (qX 0 (kW 5000 (jH.mk f y aa) 2 ac) jX) ?_ ?_
      ·refine gAt (jI rfl (gF (jD _ _ _ _ _ ab)) jX) ?_;refine goT ?_;refine jY ?_;exact uK 1 [0,1,2,3,4]
      refine goT ?_;refine jV (qX 0 (kW 5000 (jH.mk f y aa) 2 ac) jX) ?_;refine gAt (jI rfl (gF (jD _ _ _ _ _ ab)) jX) ?_;refine goT ?_;refine jY ?_;exact uK 1 [0,1,2,3,4]
     refine vW (qX 0 (kW 5000 (jH.mk f y aa) 2 ac) jX) ?_ ?_
     ·refine vW (pJ jX) ?_ ?_
      ·refine gAt (jI rfl (gF (jD _ _ _ _ _ ab)) jX) ?_;refine goT ?_;refine jY ?_;exact uK 1 [0,1,2,3,4]
      refine goT ?_;refine jV (pJ jX) ?_;refine gAt (jI rfl (gF (jD _ _ _ _ _ ab)) jX) ?_;refine goT ?_;refine jY ?_;exact uK 1 [0,1,2,3,4]
     refine goT ?_;refine vW (pJ jX) ?_ ?_
     ·refine jV (qX 0 (kW 5000 (jH.mk f y aa) 2 ac) jX) ?_;refine gAt (jI rfl (gF (jD _ _ _ _ _ ab)) jX) ?_;refine goT ?_;refine jY ?_;exact uK 1 [0,1,2,3,4]
     refine jV (qX 0 (kW 5000 (jH.mk f y aa) 2 ac) jX) ?_;refine jV (pJ jX) ?_;refine gAt (jI rfl (gF (jD _ _ _ _ _ ab)) jX) ?_;refine goT ?_;refine jY ?_;exact uK 1 [0,1,2,3,4]
    refine vW (pJ jX) ?_ ?_
    ·refine vW (pJ jX) ?_ ?_
     ·refine vW (qX 0 (kW 5000 (jH.mk f y aa) 2 ac) jX) ?_ ?_
      ·refine gAt (jI rfl (gF (jD _ _ _ _ _ ab)) jX) ?_;refine goT ?_;refine jY ?_;exact uK 1 [0,1,2,3,4]
      refine goT ?_;refine jV (qX 0 (kW 5000 (jH.mk f y aa) 2 ac) jX) ?_;refine gAt (jI rfl (gF (jD _ _ _ _ _ ab)) jX) ?_;refine goT ?_;refine jY ?_;exact uK 1 [0,1,2,3,4]
     refine vW (qX 0 (kW 5000 (jH.mk f y aa) 2 ac) jX) ?_ ?_
     ·refine vW (pJ jX) ?_ ?_
      ·refine gAt (jI rfl (gF (jD _ _ _ _ _ ab)) jX) ?_;refine goT ?_;refine jY ?_;exact uK 1 [0,1,2,3,4]
      refine goT ?_;refine jV (pJ jX) ?_;refine gAt (jI rfl (gF (jD _ _ _ _ _ ab)) jX) ?_;refine goT ?_;refine jY ?_;exact uK 1 [0,1,2,3,4]
     refine goT ?_;refine vW (pJ jX) ?_ ?_
     ·refine jV (qX 0 (kW 5000 (jH.mk f y aa) 2 ac) jX) ?_;refine gAt (jI rfl (gF (jD _ _ _ _ _ ab)) jX) ?_;refine goT ?_;refine jY ?_;exact uK 1 [0,1,2,3,4]
     refine jV (qX 0 (kW 5000 (jH.mk f y aa) 2 ac) jX) ?_;refine jV (pJ jX) ?_;refine gAt (jI rfl (gF (jD _ _ _ _ _ ab)) jX) ?_;refine goT ?_;refine jY ?_;exact uK 1 [0,1,2,3,4]
    refine vW (qX 0 (kW 5000 (jH.mk f y aa) 2 ac) jX) ?_ ?_
    ·refine vW (pJ jX) ?_ ?_
     ·refine vW (pJ jX) ?_ ?_
      ·refine gAt (jI rfl (gF (jD _ _ _ _ _ ab)) jX) ?_;refine goT ?_;refine jY ?_;exact uK 1 [0,1,2,3,4]
      refine goT ?_;refine jV (pJ jX) ?_;refine gAt (jI rfl (gF (jD _ _ _ _ _ ab)) jX) ?_;refine goT ?_;refine jY ?_;exact uK 1 [0,1,2,3,4]
     refine vW (pJ jX) ?_ ?_
     ·refine vW (pJ jX) ?_ ?_
      ·refine gAt (jI rfl (gF (jD _ _ _ _ _ ab)) jX) ?_;refine goT ?_;refine jY ?_;exact uK 1 [0,1,2,3,4]
      refine goT ?_;refine jV (pJ jX) ?_;refine gAt (jI rfl (gF (jD _ _ _ _ _ ab)) jX) ?_;refine goT ?_;refine jY ?_;exact uK 1 [0,1,2,3,4]
     refine goT ?_;refine vW (pJ jX) ?_ ?_
     ·refine jV (pJ jX) ?_;refine gAt (jI rfl (gF (jD _ _ _ _ _ ab)) jX) ?_;refine goT ?_;refine jY ?_;exact uK 1 [0,1,2,3,4]
     refine jV (pJ jX) ?_;refine jV (pJ jX) ?_;refine gAt (jI rfl (gF (jD _ _ _ _ _ ab)) jX) ?_;refine goT ?_;refine jY ?_;exact uK 1 [0,1,2,3,4]
    refine goT ?_;refine vW (pJ jX) ?_ ?_
    ·refine vW (pJ jX) ?_ ?_
     ·refine jV (qX 0 (kW 5000 (jH.mk f y aa) 2 ac) jX) ?_;refine gAt (jI rfl (gF (jD _ _ _ _ _ ab)) jX) ?_;refine goT ?_;refine jY ?_;exact uK 1 [0,1,2,3,4]
     refine jV (qX 0 (kW 5000 (jH.mk f y aa) 2 ac) jX) ?_;refine jV (pJ jX) ?_;refine gAt (jI rfl (gF (jD _ _ _ _ _ ab)) jX) ?_;refine goT ?_;refine jY ?_;exact uK 1 [0,1,2,3,4]
    refine vW (pJ jX) ?_ ?_
    ·refine vW (pJ jX) ?_ ?_
     ·refine jV (qX 0 (kW 5000 (jH.mk f y aa) 2 ac) jX) ?_;refine gAt (jI rfl (gF (jD _ _ _ _ _ ab)) jX) ?_;refine goT ?_;refine jY ?_;exact uK 1 [0,1,2,3,4]
     refine jV (qX 0 (kW 5000 (jH.mk f y aa) 2 ac) jX) ?_;refine jV (pJ jX) ?_;refine gAt (jI rfl (gF (jD _ _ _ _ _ ab)) jX) ?_;refine goT ?_;refine jY ?_;exact uK 1 [0,1,2,3,4]
    refine jV (qX 0 (kW 5000 (jH.mk f y aa) 2 ac) jX) ?_;refine vW (pJ jX) ?_ ?_
    ·refine jV (pJ jX) ?_;refine gAt (jI rfl (gF (jD _ _ _ _ _ ab)) jX) ?_;refine goT ?_;refine jY ?_;exact uK 1 [0,1,2,3,4]
    refine jV (pJ jX) ?_;refine jV (pJ jX) ?_;refine gAt (jI rfl (gF (jD _ _ _ _ _ ab)) jX) ?_;refine goT ?_;refine jY ?_;exact uK 1 [0,1,2,3,4]
   refine goT ?_;refine vW (pJ jX) ?_ ?_
   ·refine vW (pJ jX) ?_ ?_
    ·refine jV (qX 0 (kW 5000 (jH.mk y3 y4 y5) 2 ad) jX) ?_;refine jV (qX 0 (kW 5000 (jH.mk f y aa) 2 ac) jX) ?_;refine gAt (jI rfl (gF (jD _ _ _ _ _ ab)) jX) ?_;refine goT ?_;refine jY ?_;exact uK 1 [0,1,2,3,4]
    refine jV (qX 0 (kW 5000 (jH.mk y3 y4 y5) 2 ad) jX) ?_;refine vW (pJ jX) ?_ ?_
    ·refine jV (qX 0 (kW 5000 (jH.mk f y aa) 2 ac) jX) ?_;refine gAt (jI rfl (gF (jD _ _ _ _ _ ab)) jX) ?_;refine goT ?_;refine jY ?_;exact uK 1 [0,1,2,3,4]
    refine jV (qX 0 (kW 5000 (jH.mk f y aa) 2 ac) jX) ?_;refine jV (pJ jX) ?_;refine gAt (jI rfl (gF (jD _ _ _ _ _ ab)) jX) ?_;refine goT ?_;refine jY ?_;exact uK 1 [0,1,2,3,4]
   refine vW (pJ jX) ?_ ?_
   ·refine vW (pJ jX) ?_ ?_
    ·refine jV (qX 0 (kW 5000 (jH.mk y3 y4 y5) 2 ad) jX) ?_;refine jV (qX 0 (kW 5000 (jH.mk f y aa) 2 ac) jX) ?_;refine gAt (jI rfl (gF (jD _ _ _ _ _ ab)) jX) ?_;refine goT ?_;refine jY ?_;exact uK 1 [0,1,2,3,4]
    refine jV (qX 0 (kW 5000 (jH.mk y3 y4 y5) 2 ad) jX) ?_;refine vW (pJ jX) ?_ ?_
    ·refine jV (qX 0 (kW 5000 (jH.mk f y aa) 2 ac) jX) ?_;refine gAt (jI rfl (gF (jD _ _ _ _ _ ab)) jX) ?_;refine goT ?_;refine jY ?_;exact uK 1 [0,1,2,3,4]
    refine jV (qX 0 (kW 5000 (jH.mk f y aa) 2 ac) jX) ?_;refine jV (pJ jX) ?_;refine gAt (jI rfl (gF (jD _ _ _ _ _ ab)) jX) ?_;refine goT ?_;refine jY ?_;exact uK 1 [0,1,2,3,4]
   refine jV (qX 0 (kW 5000 (jH.mk y3 y4 y5) 2 ad) jX) ?_;refine vW (pJ jX) ?_ ?_
   ·refine vW (pJ jX) ?_ ?_
    ·refine jV (qX 0 (kW 5000 (jH.mk f y aa) 2 ac) jX) ?_;refine gAt (jI rfl (gF (jD _ _ _ _ _ ab)) jX) ?_;refine goT ?_;refine jY ?_;exact uK 1 [0,1,2,3,4]
    refine jV (qX 0 (kW 5000 (jH.mk f y aa) 2 ac) jX) ?_;refine jV (pJ jX) ?_;refine gAt (jI rfl (gF (jD _ _ _ _ _ ab)) jX) ?_;refine goT ?_;refine jY ?_;exact uK 1 [0,1,2,3,4]
   refine vW (pJ jX) ?_ ?_
   ·refine vW (pJ jX) ?_ ?_
    ·refine jV (qX 0 (kW 5000 (jH.mk f y aa) 2 ac) jX) ?_;refine gAt (jI rfl (gF (jD _ _ _ _ _ ab)) jX) ?_;refine goT ?_;refine jY ?_;exact uK 1 [0,1,2,3,4]
    refine jV (qX 0 (kW 5000 (jH.mk f y aa) 2 ac) jX) ?_;refine jV (pJ jX) ?_;refine gAt (jI rfl (gF (jD _ _ _ _ _ ab)) jX) ?_;refine goT ?_;refine jY ?_;exact uK 1 [0,1,2,3,4]
   refine jV (qX 0 (kW 5000 (jH.mk f y aa) 2 ac) jX) ?_;refine vW (pJ jX) ?_ ?_
   ·refine jV (pJ jX) ?_;refine gAt (jI rfl (gF (jD _ _ _ _ _ ab)) jX) ?_;refine goT ?_;refine jY ?_;exact uK 1 [0,1,2,3,4]
   refine jV (pJ jX) ?_;refine jV (pJ jX) ?_;refine gAt (jI rfl (gF (jD _ _ _ _ _ ab)) jX) ?_;refine goT ?_;refine jY ?_;exact uK 1 [0,1,2,3,4]
  refine goL ?_;refine gqV 32 h ?_ ?_<;>intro b1 h
  ·refine hV3 ?_;refine goL ?_;refine jL (pR) ?_;exact⟨al,ae,ag,ah,aw,ax,ay,a0,a3,a4,a5,a6,(IntKind.i64.wrap (am+1)),h,Nat.lt_succ_self _,eJ⟩
  ·obtain⟨⟨bx,⟨ar,au,av⟩⟩,bq,h⟩:=gP h;refine gAr 0 (gIw (jH.mk ae ag ah) 12 bq) ?_;refine goC h ?_ ?_<;>intro b2 h
   ·refine goL ?_;refine jL (pR) ?_;exact⟨al,ar,au,av,aw,ax,ay,a0,a3,a4,a5,a6,(IntKind.i64.wrap (am+1)),h,Nat.lt_succ_self _,eJ⟩
   ·refine goS ?_;refine jL (pR) ?_;exact⟨al,ar,au,av,y6,y7,y8,y9,an,ao,ap,aq,(IntKind.i64.wrap (am+1)),h,Nat.lt_succ_self _,eJ⟩
 ·refine goX ?_;refine jK ?_;obtain rfl:=Option.some.inj h;exact zB [.d (.st [.i .i64 y6,.i .i64 y7,.i .i64 y8,.sl 4 (gN y9),.sl 7 (gW an),.sl 5 (gT ao),.i .i64 ap,.i .i64 aq])] [bCu y3 y4 y5] ⟨rfl,rfl⟩
def hGf(c:jH)(f:gI)(h:List gY):Option (gJ × jH):=gVl c f h 5000
def gK4(c:jH):Option (gI × jH):=
bnd (gE5 c) fun f=>
bnd (yS f.1) fun h=>
(some (h.1,f.2))
theorem hGg(c:jH){r:gI × jH}(h:gK4 c=some r):Go.Eng.Spec Tryz.prog 18 [.ptr 0 0] [bCu c.b c.i c.h] (fun sv Lo=>sv=.d (kR r.1)∧Lo=[bCu r.2.b r.2.i r.2.h]):=by
 obtain⟨ac,ad,ae⟩:=c;unfold gK4 at h;refine kM 1 Tryz.func18 rfl (by kernel_rfl) rfl rfl fun A _=>?_;refine goL ?_;obtain⟨⟨ai,⟨f,y,aa⟩⟩,ag,h⟩:=gP h;refine gAr 0 (gTo (jH.mk ac ad ae) ag) ?_;obtain⟨⟨⟨ab⟩,aj⟩,ah,h⟩:=gP h;refine jL (gF (gS5 _ ah)) ?_;refine jK ?_;obtain rfl:=Option.some.inj h;exact zB [.d (.st [.sl 6 (gX ab)])] [bCu f y aa] ⟨rfl,rfl⟩
def vR(a0:List UInt8):Option (gI × List gY × gJ):=
lt_ (gLi a0) fun x1=>
bnd (gK4 x1) fun y=>
bnd (gRu y.2) fun x3=>
bnd (hGf x3.2 y.1 x3.1) fun f=>
bnd (gC8 f.2 2) fun x5=>
bnd ((cnd x5.1 (
lt_ (wG [63,49]) fun x8=>
bnd (gJw ) fun x9=>
bnd (zQ y.1 x3.1 f.1 x8 x9) fun c=>
(some (c.next,c.count,c.node,c.bindings,c.equations,c.obligations,c.code,c.at_))) (
(some (f.1.next,f.1.count,f.1.node,f.1.bindings,f.1.equations,f.1.obligations,f.1.code,f.1.at_))))) fun h=>
(some (y.1,x3.1,(gJ.mk h.1 h.2.1 h.2.2.1 h.2.2.2.1 h.2.2.2.2.1 h.2.2.2.2.2.1 h.2.2.2.2.2.2.1 h.2.2.2.2.2.2.2)))
theorem gK5(a0:List UInt8){r:gI × List gY × gJ}(h:vR a0=some r):jC Tryz.prog 14 [.L 1 (gDs a0)] [kR r.1,.sl 4 (kV r.2.1),mD r.2.2]:=by
 unfold vR at h;refine SpI Tryz.func14 fun A _=>?_;refine goL ?_;obtain⟨⟨aw,ax,ay⟩,bd,h⟩:=qB h;have sx1:=hQp a0;rw [bd] at sx1;refine yY [] (sx1) ?_;rintro _ _ ⟨rfl,rfl⟩;show VO _ _ _ _ ⟨(_,.ptr 2 0)::_,[.box [.nilsl],.box [.I 0,.I 0,.I 0,.nilsl,.nilsl,.nilsl,.I 0,.I 0],bCu aw ax ay],_⟩ _;refine goL ?_;obtain⟨⟨⟨c⟩,⟨al,am,an⟩⟩,be,h⟩:=gP h;refine gAr 2 (hGg (jH.mk aw ax ay) be) ?_;refine goL ?_;obtain⟨⟨ab,⟨ao,ap,aq⟩⟩,bf,h⟩:=gP h;refine gAr 2 (hEm (jH.mk al am an) bf) ?_;refine goL ?_;obtain⟨⟨⟨a4,a5,a6,a7,a8,a9,ba,bb⟩,⟨ar,au,av⟩⟩,bg,h⟩:=gP h;refine gAr 2 (hQg (jH.mk ao ap aq) (gI.mk c) ab bg) ?_;refine goL ?_;obtain⟨⟨bu,⟨f,y,aa⟩⟩,bh,h⟩:=gP h;refine gAr 2 (gIw (jH.mk ar au av) 2 bh) ?_;refine goL ?_;obtain⟨⟨ac,ad,ae,ag,ah,ai,aj,ak⟩,hb6,h⟩:=gP h;refine gEf ⟨[(2,.ptr 0 0),(4,.ptr 1 0),(6,.ptr 3 0),(7,.L 4 (kV ab)),(8,.ptr 4 0)],[.box [.nilsl],.box [.I 0,.I 0,.I 0,.nilsl,.nilsl,.nilsl,.I 0,.I 0],bCu f y aa,bPr c,bSt ac ad ae ag ah ai aj ak],Tryz.f14.ntmps⟩ ?_ ?_
 ·refine kX (fun c7=>?_) (fun c7=>?_)
  ·replace hb6:=kD c7 hb6;refine uF (P:=Tryz.prog) Mix.h [(0,true),(1,true),(2,true),(3,true),(4,true),(5,true),(6,false)] (by kernel_rfl) ?_;refine goY ?_;obtain⟨⟨bv,bw,bx⟩,bj,hb6⟩:=qB hb6;have sx8:=gM2 [63,49];rw [bj] at sx8;refine jI rfl (gF (sx8)) ?_;obtain⟨⟨bz,b0,b1⟩,bk,hb6⟩:=gP hb6;refine jI rfl (gF (gZr  bk)) ?_;obtain⟨⟨bl,bm,bn,bo,bp,bq,br,bt⟩,a3,hb6⟩:=gP hb6;refine jI rfl (gF (jD _ _ _ _ _ a3)) ?_;refine goY ?_;refine kQ ?_;refine goL ?_;cases hb6;exact eJ
  ·replace hb6:=kE c7 hb6;refine zA ?_;cases hb6;exact eJ
 refine gH2 ?_;refine qH (P:=Tryz.prog) Mix.h (.q 1 (.h 0 (.h 2 (.h 3 (.q 4 (.h 5 .nil .nil)) .nil) (.h 3 (.q 4 (.h 2 (.h 5 .nil .nil) .nil)) .nil)) (.h 2 (.h 0 (.h 3 (.q 4 (.h 5 .nil .nil)) .nil) .nil) .nil))) ⟨[(2,.ptr 0 0),(3,.L 4 (kV ab)),(4,.ptr 1 0)],[bPr c,bSt ac ad ae ag ah ai aj ak,bCu f y aa,bPr c,bSt ac ad ae ag ah ai aj ak],Tryz.f14.ntmps⟩ (by kernel_rfl) ?_ ?_
 ·refine goT ?_;refine vW (pJ jX) ?_ ?_
  ·refine vW (pJ jX) ?_ ?_
   ·refine goT ?_;refine jY ?_;exact uK 0 [0,1,2,3,4]
   refine goT ?_;refine jV (pJ jX) ?_;refine goT ?_;refine jY ?_;exact uK 0 [0,1,2,3,4]
  refine jV (pJ jX) ?_;refine jV (pJ jX) ?_;refine goT ?_;refine jY ?_;exact uK 0 [0,1,2,3,4]
 exact goR h
end Go.Proofs.YtegahmhnmjnhhaaGreat
