import Derived.Test.YtfaplndgbgoaaaaGreatEng38
import Derived.Test.YtfaplndgbgoaaaaGreatEng67
import Derived.Test.YtfaplndgbgoaaaaGreatCur
import Derived.Test.YtfaplndgbgoaaaaGreatUn1
import Derived.Lib.ItoaLen
import Derived.Lib.AppendIntMem
import Derived.Lib.ItoaNum
set_option maxHeartbeats 4000000
set_option linter.unusedVariables false
set_option linter.unusedSimpArgs false
set_option linter.unusedSectionVars false
namespace Go.Proofs.YtfaplndgbgoaaaaGreat
open Go Go.Eng
attribute [local irreducible] V VO VQ VY Quiet QR jB kR Rng uX vB qY
def gRv (a0 : List UInt8) : Bool :=
(decide ((a0.length : Int) > 1048576))
theorem hHz (a0 : List UInt8) : jB Tryz.prog 4 [.L 1 (kN a0)] [.b (gRv a0)] := by
 obtain ⟨r, h⟩ : ∃ r, gRv a0 = r := ⟨_, rfl⟩
 rw [h]
 unfold gRv at h
 refine SpI Tryz.func4 fun A _ => ?_
 refine goL ?_
 refine jN ?_
 subst h
 exact qH
def gCm (c : jA) (a1 : Int) : Option (Bool × jA) :=
bnd (yM c a1) fun x1 =>
(some ((x1.1 == 0), x1.2))
theorem gG9 (c : jA) (a1 : Int) {r : Bool × jA} (h : gCm c a1 = some r) : Go.Eng.Spec Tryz.prog 28 [.ptr 0 0, .I a1] [.box [.L 1 (kN c.b), .I c.i, .I c.h]] (fun sv Lo => sv = .B r.1 ∧ Lo = [.box [.L 1 (kN r.2.b), .I r.2.i, .I r.2.h]]) := by
 obtain ⟨c_0, c_1, c_2⟩ := c
 unfold gCm at h
 refine kY 1 Tryz.func28 rfl (by kernel_rfl) rfl rfl fun A _ => ?_
 refine goL ?_
 obtain ⟨⟨x1_0, ⟨x1_1_0, x1_1_1, x1_1_2⟩⟩, hx1, h⟩ := gK h
 refine zH 0 (gCk (jA.mk c_0 c_1 c_2) a1 hx1) ?_
 refine goL ?_
 refine jN ?_
 obtain rfl := Option.some.inj h
 exact gEl [.B (x1_0 == 0)] [.box [.L 1 (kN x1_1_0), .I x1_1_1, .I x1_1_2]] ⟨rfl, rfl⟩
def gC0 (a0 : List UInt8) : gD :=
(gD.mk 1 a0 [])
theorem gLe (a0 : List UInt8) : jB Tryz.prog 32 [.S a0] [jQ (gC0 a0)] := by
 obtain ⟨r, h⟩ : ∃ r, gC0 a0 = r := ⟨_, rfl⟩
 rw [h]
 unfold gC0 at h
 refine SpI Tryz.func32 fun A _ => ?_
 refine goL ?_
 refine gFj (kE TBd.h TZ.h rfl (by repeat constructor)) ?_
 refine jN ?_
 subst h
 exact qH
def gGe (a0 : List UInt8) (a1 : List gD) : Option (gD) :=
gd (([] : List gD).length + a1.length ≤ 4294967296) (
(some (gD.mk 2 a0 ([] ++ a1))))
theorem gLf (a0 : List UInt8) (a1 : List gD) {r : gD} (h : gGe a0 a1 = some r) : jB Tryz.prog 34 [.S a0, .L 3 (gJ a1)] [jQ r] := by
 unfold gGe at h
 refine SpI Tryz.func34 fun A _ => ?_
 refine goL ?_
 refine gAc ?_
 refine goL ?_
 obtain ⟨g1, h⟩ := pF h
 refine gBu g1 ?_
 refine gFj (kE TBd.h TZ.h rfl (by repeat constructor)) ?_
 refine kI 1 rfl rfl ?_
 refine jN ?_
 cases h
 exact qH
def gMb (a0 : List UInt8) (a1 : gD) : Option (gD) :=
gd (tok a1) (lt_ (idT a1) fun x2 =>
(some (gD.mk 3 a0 [x2])))
theorem hBy (a0 : List UInt8) (a1 : gD) {r : gD} (h : gMb a0 a1 = some r) : jB Tryz.prog 35 [.S a0, .d (jQ a1)] [jQ r] := by
 obtain ⟨a1_0, a1_1, a1_2⟩ := a1
 unfold gMb at h
 refine SpI Tryz.func35 fun A _ => ?_
 refine goL ?_
 obtain ⟨g1, h⟩ := pF h
 obtain ⟨⟨x2_0, x2_1, x2_2⟩, hx2, h⟩ := qU h
 have sx2 := (yB (gD.mk a1_0 a1_1 a1_2) g1).p
 rw [hx2] at sx2
 refine qQ (gF (sx2)) ?_
 refine gBc (u := (.st [.i .i64 x2_0, .s x2_1, .sl 3 (gJ x2_2)])) ?_
 refine gFj (kE TBd.h TZ.h rfl (by repeat constructor)) ?_
 refine kI 2 rfl rfl ?_
 refine jN ?_
 cases h
 exact qH
def gGp (c : jA) (a1 : List gD) : Option (gD × jA) :=
bnd (yM c (a1.length : Int)) fun x1 =>
bnd (at? a1 x1.1) fun x2 =>
(some (x2, x1.2))
theorem gV8 (c : jA) (a1 : List gD) {r : gD × jA} (h : gGp c a1 = some r) : Go.Eng.Spec Tryz.prog 36 [.ptr 0 0, .L 3 (gJ a1)] [.box [.L 1 (kN c.b), .I c.i, .I c.h]] (fun sv Lo => sv = .d (jQ r.1) ∧ Lo = [.box [.L 1 (kN r.2.b), .I r.2.i, .I r.2.h]]) := by
 obtain ⟨c_0, c_1, c_2⟩ := c
 unfold gGp at h
 refine kY 1 Tryz.func36 rfl (by kernel_rfl) rfl rfl fun A _ => ?_
 refine goL ?_
 obtain ⟨⟨x1_0, ⟨x1_1_0, x1_1_1, x1_1_2⟩⟩, hx1, h⟩ := gK h
 refine zH 0 (gCk (jA.mk c_0 c_1 c_2) (a1.length : Int) hx1) ?_
 obtain ⟨x2, hx2, h⟩ := gK h
 obtain ⟨hx20, hx2⟩ := gD9 hx2
 obtain ⟨x2_0, x2_1, x2_2⟩ := x2
 refine jH (qV hx20 (gA5 hx2)) ?_
 refine jN ?_
 obtain rfl := Option.some.inj h
 exact gEl [.d (.st [.i .i64 x2_0, .s x2_1, .sl 3 (gJ x2_2)])] [.box [.L 1 (kN x1_1_0), .I x1_1_1, .I x1_1_2]] ⟨rfl, rfl⟩
def gAk : List gH → (List gH) → Option (List gH)
 | [], y1 => (some y1)
 | x6 :: xs, y1 => gd (tok x6.type_) (lt_ (idT x6.type_) fun x8 =>
gd (y1.length + [(gH.mk x6.var_ x8)].length ≤ 4294967296) (
gAk xs (y1 ++ [(gH.mk x6.var_ x8)])))
def gMc (a0 : List gH) : Option (List gH) :=
gAk a0 []
theorem hBz (a0 : List gH) {r : List gH} (h : gMc a0 = some r) : jB Tryz.prog 65 [.L 4 (gP a0)] [.sl 4 (gP r)] := by
 unfold gMc at h
 refine SpI Tryz.func65 fun A _ => ?_
 refine goL ?_
 refine gAc ?_
 refine goL ?_
 refine noB ?_
 refine gEk 0 (fun z4 => ?_)
 refine kQ (fun (y3 : Nat) (y1 : List gH) (v2 : Nat) => ⟨[(0, .L 4 (gP a0)), (3, .sl 0 v2), (4, .N y3)], [.arr 76 4 v2 (gP y1)], Tryz.f65.ntmps⟩) (fun y3 y1 v2 => gAk (a0.drop y3) y1 = some r) (fun y3 y1 v2 => a0.length - y3) 0 [] 0 eJ h ?_
 rintro y3 y1 v2 h
 refine goL ?_
 refine mF (fun c5 => ?_) (fun c5 => ?_)
 ·have hky32 := vO c5
  obtain ⟨x6, hx6, hdx6⟩ := drop_at hky32
  rw [hdx6, gAk.eq_2] at h
  obtain ⟨x6_0, ⟨x6_1_0, x6_1_1, x6_1_2⟩⟩ := x6
  refine noS ?_
  refine kD (jC ?_)
  refine vH (P := Tryz.prog) Mix.h [(0, true), (1, true), (2, true), (3, true), (4, true), (5, true), (6, true), (7, true), (8, true), (9, true), (10, true), (11, true), (12, true), (13, false), (14, false), (15, true)] (by kernel_rfl) ?_
  refine goY ?_
  refine jD rfl (jJ y3 (gIv hx6)) ?_
  refine goY ?_
  refine jD rfl (jJ y3 (gIv hx6)) ?_
  refine goY ?_
  obtain ⟨g7, h⟩ := pF h
  obtain ⟨⟨x8_0, x8_1, x8_2⟩, hx8, h⟩ := qU h
  have sx8 := (yB (gD.mk x6_1_0 x6_1_1 x6_1_2) g7).p
  rw [hx8] at sx8
  refine jD rfl (gF (sx8)) ?_
  refine goY ?_
  refine pY (T := 24) (us := gP [(gH.mk x6_0 (gD.mk x8_0 x8_1 x8_2))]) ?_
  obtain ⟨g9, h⟩ := pF h
  refine pV (T := 24) g9 ?_
  refine goY ?_
  refine kP ?_
  refine goL ?_
  refine jH (jT y3 (by omega)) ?_
  exact ⟨(y3 + 1), (y1 ++ [(gH.mk x6_0 (gD.mk x8_0 x8_1 x8_2))]), (v2 + 1), h, by omega, eJ⟩
 ·have hky32 := vP c5
  rw [jE hky32, gAk.eq_1] at h
  refine goX ?_
  refine kI 0 rfl rfl ?_
  refine jN ?_
  cases h
  exact qH
def yP (a0 : gG) (a1 : Int) : gG :=
(cnd (a0.code == 0) (
(gG.mk a0.next a0.count a0.node a0.bindings a0.equations a0.obligations a1 a0.node)) (
a0))
theorem gIg (a0 : gG) (a1 : Int) : jB Tryz.prog 66 [.d (mW a0), .I a1] [mW (yP a0 a1)] := by
 obtain ⟨r, h⟩ : ∃ r, yP a0 a1 = r := ⟨_, rfl⟩
 rw [h]
 obtain ⟨a0_0, a0_1, a0_2, a0_3, a0_4, a0_5, a0_6, a0_7⟩ := a0
 unfold yP at h
 refine SpI Tryz.func66 fun A _ => ?_
 refine goC h ?_ ?_<;>intro c1 h
 ·refine goL ?_
  refine jN ?_
  subst h
  exact qH
 ·refine goS ?_
  refine jN ?_
  subst h
  exact qH
def mJ (rec_sCountTypeVariable : gD → (List UInt8) → Option (Int)) (a1 : List UInt8) : List gD → Int → Option (Int)
 | [], y5 => (some y5)
 | x9 :: xs, y5 => bnd (rec_sCountTypeVariable x9 a1) fun x10 =>
mJ rec_sCountTypeVariable a1 xs (IntKind.i64.wrap (y5 + x10))
def yG (rec_sCountTypeVariable : gD → (List UInt8) → Option (Int)) (a0 : gD) (a1 : List UInt8) : Option (Int) :=
lt_ ((cnd (a0.kind == 1) ((a0.name == a1)) (false))) fun b1 =>
bnd ((cnd b1 (
(some 1)) (
(some 0)))) fun b3 =>
mJ rec_sCountTypeVariable a1 a0.args b3
theorem gI8 {rec_sCountTypeVariable : gD → (List UInt8) → Option (Int)} (hrec_sCountTypeVariable : ∀ (x0 : gD) (x1 : List UInt8) {r : Int}, rec_sCountTypeVariable x0 x1 = some r → jB Tryz.prog 81 [.d (jQ x0), .S x1] [.i .i64 r]) (a0 : gD) (a1 : List UInt8) {r : Int} (h : yG rec_sCountTypeVariable a0 a1 = some r) : jB Tryz.prog 81 [.d (jQ a0), .S a1] [.i .i64 r] := by
 obtain ⟨a0_0, a0_1, a0_2⟩ := a0
 unfold yG at h
 refine SpI Tryz.func81 fun A _ => ?_
 refine goL ?_
 obtain ⟨b1, hb1, h⟩ := qU h
 refine jU ⟨[(1, .S a1), (2, .ptr 0 0), (5, .I 0), (15, .B b1)], [.box [.I a0_0, .S a0_1, .L 3 (gJ a0_2)]], Tryz.f81.ntmps⟩ ?_ ?_
 ·refine gQ 10 (fun c2 => ?_) (fun c2 => ?_)
  ·replace hb1 := gW c2 hb1
   refine goL ?_
   cases hb1
   exact eJ
  ·replace hb1 := gX c2 hb1
   refine goL ?_
   cases hb1
   exact eJ
 refine goL ?_
 obtain ⟨b3, hb3, h⟩ := gK h
 refine gD8 ⟨[(1, .S a1), (2, .ptr 0 0), (5, .I b3)], [.box [.I a0_0, .S a0_1, .L 3 (gJ a0_2)]], Tryz.f81.ntmps⟩ ?_ ?_
 ·refine mF (fun c4 => ?_) (fun c4 => ?_)
  ·replace hb3 := gW c4 hb3
   refine goL ?_
   cases hb3
   exact eJ
  ·replace hb3 := gX c4 hb3
   refine gA6 ?_
   cases hb3
   exact eJ
 refine goL ?_
 refine noB ?_
 refine vJ 0 2 (fun z7 => ?_)
 refine gCx (fun (y6 : Nat) (y5 : Int) => ⟨[(1, .S a1), (2, .ptr 0 0), (5, .I y5), (6, .N y6)], [.box [.I a0_0, .S a0_1, .L 3 (gJ a0_2)]], Tryz.f81.ntmps⟩) (fun y6 y5 => mJ rec_sCountTypeVariable a1 (a0_2.drop y6) y5 = some r) (fun y6 y5 => a0_2.length - y6) 0 b3 eJ h ?_
 rintro y6 y5 h
 refine goL ?_
 refine mF (fun c8 => ?_) (fun c8 => ?_)
 ·have hky62 := vO c8
  obtain ⟨x9, hx9, hdx9⟩ := drop_at hky62
  rw [hdx9, mJ.eq_2] at h
  obtain ⟨x9_0, x9_1, x9_2⟩ := x9
  refine noS ?_
  refine kD (jC ?_)
  refine goL ?_
  refine jH (jJ y6 (gA5 hx9)) ?_
  obtain ⟨x10, hx10, h⟩ := gK h
  refine qQ (gF (hrec_sCountTypeVariable (gD.mk x9_0 x9_1 x9_2) a1 hx10)) ?_
  refine jH (qG) ?_
  refine jH (jT y6 (by omega)) ?_
  exact ⟨(y6 + 1), (IntKind.i64.wrap (y5 + x10)), h, by omega, eJ⟩
 ·have hky62 := vP c8
  rw [jE hky62, mJ.eq_1] at h
  refine goX ?_
  refine jN ?_
  cases h
  exact qH
def qK : Nat → gD → (List UInt8) → Option (Int)
 | 0, _, _ => none
 | n + 1, x0, x1 => yG (qK n) x0 x1
theorem gI9 : ∀ (n : Nat) (x0 : gD) (x1 : List UInt8) {r : Int}, qK n x0 x1 = some r → jB Tryz.prog 81 [.d (jQ x0), .S x1] [.i .i64 r] := by
 intro n
 induction n with
 | zero => intro x0 x1 r h; cases h
 | succ n ih => intro x0 x1 r h; exact gI8 ih x0 x1 h
def gDu (a0 : jF) (a1 : jF) : Bool :=
lt_ ((cnd (a0.trait == a1.trait) ((teq a0.type_ a1.type_)) (false))) fun b1 =>
b1
theorem gRw (a0 : jF) (a1 : jF) : jB Tryz.prog 162 [.d (gAi a0), .d (gAi a1)] [.b (gDu a0 a1)] := by
 obtain ⟨r, h⟩ : ∃ r, gDu a0 a1 = r := ⟨_, rfl⟩
 rw [h]
 obtain ⟨a0_0, ⟨a0_1_0, a0_1_1, a0_1_2⟩⟩ := a0
 obtain ⟨a1_0, ⟨a1_1_0, a1_1_1, a1_1_2⟩⟩ := a1
 unfold gDu at h
 refine SpI Tryz.func162 fun A _ => ?_
 refine goL ?_
 obtain ⟨b1, hb1, h⟩ := qU h
 refine jU ⟨[(4, .B b1)], [.box [.S a0_0, .I a0_1_0, .S a0_1_1, .L 3 (gJ a0_1_2)], .box [.S a1_0, .I a1_1_0, .S a1_1_1, .L 3 (gJ a1_1_2)]], Tryz.f162.ntmps⟩ ?_ ?_
 ·refine gQ 10 (fun c2 => ?_) (fun c2 => ?_)
  ·replace hb1 := gW c2 hb1
   refine goL ?_
   refine uB ?_
   refine jH (gF (yU (gD.mk a0_1_0 a0_1_1 a0_1_2) (gD.mk a1_1_0 a1_1_1 a1_1_2))) ?_
   cases hb1
   exact eJ
  ·replace hb1 := gX c2 hb1
   refine goL ?_
   cases hb1
   exact eJ
 refine goL ?_
 refine jN ?_
 subst h
 exact qH
def gBd (rec_l24Copy : gU → Option (gU)) : List gU → (List gU) → Option (List gU)
 | [], y1 => (some y1)
 | x6 :: xs, y1 => bnd (rec_l24Copy x6) fun x7 =>
gd (y1.length + [x7].length ≤ 4294967296) (
gBd rec_l24Copy xs (y1 ++ [x7]))
def gJs (rec_l24Copies : (List gU) → Option (List gU)) (rec_l24Copy : gU → Option (gU)) (a0 : List gU) : Option (List gU) :=
gBd rec_l24Copy a0 []
theorem gTg {rec_l24Copies : (List gU) → Option (List gU)} {rec_l24Copy : gU → Option (gU)} (hrec_l24Copies : ∀ (x0 : List gU) {r : List gU}, rec_l24Copies x0 = some r → kR Tryz.prog 178 [.L 5 (qE x0)] [171] [.sl 5 (qE r)]) (hrec_l24Copy : ∀ (x0 : gU) {r : gU}, rec_l24Copy x0 = some r → kR Tryz.prog 163 [.d (mV x0)] [171] [mV r]) (a0 : List gU) {r : List gU} (h : gJs rec_l24Copies rec_l24Copy a0 = some r) : kR Tryz.prog 178 [.L 5 (qE a0)] [171] [.sl 5 (qE r)] := by
 unfold gJs at h
 refine qJ Tryz.func178 rfl (by kernel_rfl) rfl (by simp) fun A _ => ?_
 refine goL ?_
 refine gFh ?_
 refine goL ?_
 refine noB ?_
 refine gEk 0 (fun z4 => ?_)
 refine kQ (fun (y3 : Nat) (y1 : List gU) (v2 : Nat) => ⟨[(0, .L 5 (qE a0)), (3, .sl 0 v2), (4, .N y3)], [.own 171 5 v2 (qE y1)], Tryz.f178.ntmps⟩) (fun y3 y1 v2 => gBd rec_l24Copy (a0.drop y3) y1 = some r) (fun y3 y1 v2 => a0.length - y3) 0 [] 0 eJ h ?_
 rintro y3 y1 v2 h
 refine goL ?_
 refine mF (fun c5 => ?_) (fun c5 => ?_)
 ·have hky32 := vO c5
  obtain ⟨x6, hx6, hdx6⟩ := drop_at hky32
  rw [hdx6, gBd.eq_2] at h
  obtain ⟨x6_0, x6_1, ⟨x6_2_0, x6_2_1⟩, x6_3⟩ := x6
  refine noS ?_
  refine kD (jC ?_)
  refine goL ?_
  refine jH (jJ y3 (gYa hx6)) ?_
  obtain ⟨⟨x7_0, x7_1, ⟨x7_2_0, x7_2_1⟩, x7_3⟩, hx7, h⟩ := gK h
  refine gI7 (hrec_l24Copy (gU.mk x6_0 x6_1 (gT.mk x6_2_0 x6_2_1) x6_3) hx7) ?_
  refine gA7 (gU.mk x7_0 x7_1 (gT.mk x7_2_0 x7_2_1) x7_3) ?_
  obtain ⟨g8, h⟩ := pF h
  refine gGo g8 ?_
  refine goL ?_
  refine jH (jT y3 (by omega)) ?_
  exact ⟨(y3 + 1), (y1 ++ [(gU.mk x7_0 x7_1 (gT.mk x7_2_0 x7_2_1) x7_3)]), (v2 + 1), h, by omega, eJ⟩
 ·have hky32 := vP c5
  rw [jE hky32, gBd.eq_1] at h
  refine goX ?_
  refine jN ?_
  obtain rfl := Option.some.inj h
  exact gOf
def gNv (rec_l24Copies : (List gU) → Option (List gU)) (rec_l24Copy : gU → Option (gU)) (a0 : gU) : Option (gU) :=
bnd (rec_l24Copies a0.args) fun x1 =>
(some (gU.mk a0.kind a0.n a0.at_ x1))
theorem gY2 {rec_l24Copies : (List gU) → Option (List gU)} {rec_l24Copy : gU → Option (gU)} (hrec_l24Copies : ∀ (x0 : List gU) {r : List gU}, rec_l24Copies x0 = some r → kR Tryz.prog 178 [.L 5 (qE x0)] [171] [.sl 5 (qE r)]) (hrec_l24Copy : ∀ (x0 : gU) {r : gU}, rec_l24Copy x0 = some r → kR Tryz.prog 163 [.d (mV x0)] [171] [mV r]) (a0 : gU) {r : gU} (h : gNv rec_l24Copies rec_l24Copy a0 = some r) : kR Tryz.prog 163 [.d (mV a0)] [171] [mV r] := by
 obtain ⟨a0_0, a0_1, ⟨a0_2_0, a0_2_1⟩, a0_3⟩ := a0
 unfold gNv at h
 refine qJ Tryz.func163 rfl (by kernel_rfl) rfl (by simp) fun A _ => ?_
 refine goL ?_
 obtain ⟨x1, hx1, h⟩ := gK h
 refine gI7 (hrec_l24Copies a0_3 hx1) ?_
 refine goL ?_
 refine jN ?_
 obtain rfl := Option.some.inj h
 exact gOf
mutual
def gJt : Nat → (List gU) → Option (List gU)
 | 0, _ => none
 | n + 1, x0 => gJs (gJt n) (gGq n) x0
def gGq : Nat → gU → Option (gU)
 | 0, _ => none
 | n + 1, x0 => gNv (gJt n) (gGq n) x0
end
theorem gRx : ∀ (n : Nat), (∀ (x0 : List gU) {r : List gU}, gJt n x0 = some r → kR Tryz.prog 178 [.L 5 (qE x0)] [171] [.sl 5 (qE r)]) ∧ (∀ (x0 : gU) {r : gU}, gGq n x0 = some r → kR Tryz.prog 163 [.d (mV x0)] [171] [mV r]) := by
 intro n
 induction n with
 | zero => exact ⟨(by intro x0 r h; cases h), (by intro x0 r h; cases h)⟩
 | succ n ih =>
   obtain ⟨ih0, ih1⟩ := ih
   refine ⟨(fun x0 r h => gTg ih0 ih1 x0 h), (fun x0 r h => gY2 ih0 ih1 x0 h)⟩
theorem gY3 : ∀ (n : Nat) (x0 : gU) {r : gU}, gGq n x0 = some r → kR Tryz.prog 163 [.d (mV x0)] [171] [mV r] := fun n => (gRx n).2
def gAl (a1 : List UInt8) (y1 : Nat) (k2_0 : qW × Int × Bool) : List qW → qW × Int × Bool
 | [] => k2_0
 | x8 :: xs => (cnd (x8.name == a1) (
(x8, (y1 : Int), true)) (
gAl a1 y1 k2_0 xs ))
def yQ (a1 : List UInt8) : List jY → Nat → qW × Int × Bool
 | [], y1 => ((qW.mk [] [] false false []), 0, false)
 | x4 :: xs, y1 => gAl a1 y1 (yQ a1 xs (y1 + 1)) x4.traits
def vT (a0 : gI) (a1 : List UInt8) : qW × Int × Bool :=
yQ a1 a0.packages 0
theorem gIh (a0 : gI) (a1 : List UInt8) : jB Tryz.prog 147 [.d (kS a0), .S a1] [gKh (vT a0 a1).1, .i .i64 (vT a0 a1).2.1, .b (vT a0 a1).2.2] := by
 obtain ⟨r, h⟩ : ∃ r, vT a0 a1 = r := ⟨_, rfl⟩
 rw [h]
 obtain ⟨a0_0⟩ := a0
 unfold vT at h
 refine SpI Tryz.func147 fun A _ => ?_
 refine goL ?_
 refine noB ?_
 refine vJ 0 0 (fun z2 => ?_)
 refine mY (fun (y1 : Nat) => ⟨[(1, .S a1), (2, .ptr 0 0), (4, .ptr 1 0), (7, .N y1)], [.box [.L 6 (kK a0_0)], .box [.S [], .nilsl, .B false, .B false, .nilsl]], Tryz.f147.ntmps⟩) (fun y1 => yQ a1 (a0_0.drop y1) y1 = r) (fun y1 => a0_0.length - y1) 0 eJ h ?_
 rintro y1 h
 refine goL ?_
 refine mF (fun c3 => ?_) (fun c3 => ?_)
 ·have hky12 := vO c3
  obtain ⟨x4, hx4, hdx4⟩ := drop_at hky12
  rw [hdx4, yQ.eq_2] at h
  obtain ⟨x4_0, x4_1, x4_2, x4_3, x4_4, x4_5⟩ := x4
  refine noS ?_
  refine kD (jC ?_)
  refine goL ?_
  refine noB ?_
  refine mY (fun (y5 : Nat) => ⟨[(1, .S a1), (2, .ptr 0 0), (4, .ptr 1 0), (7, .N y1), (8, .N y5)], [.box [.L 6 (kK a0_0)], .box [.S [], .nilsl, .B false, .B false, .nilsl]], Tryz.f147.ntmps⟩) (fun y5 => gAl a1 y1 (yQ a1 (a0_0.drop (y1 + 1)) (y1 + 1)) (x4_2.drop y5)  = r) (fun y5 => x4_2.length - y5) 0 eJ h ?_
  rintro y5 h
  refine goL ?_
  refine jH (jJ y1 (gDa hx4)) ?_
  refine mF (fun c6 => ?_) (fun c6 => ?_)
  ·have hky52 := vO c6
   refine gEk 22 (fun z7 => ?_)
   obtain ⟨x8, hx8, hdx8⟩ := drop_at hky52
   rw [hdx8, gAl.eq_2] at h
   obtain ⟨x8_0, x8_1, x8_2, x8_3, x8_4⟩ := x8
   refine noS ?_
   refine kD (jC ?_)
   refine goL ?_
   refine jH (jJ y1 (gDa hx4)) ?_
   refine jH (jJ y5 (gUg hx8)) ?_
   refine mF (fun c9 => ?_) (fun c9 => ?_)
   ·replace h := gW c9 h
    refine goL ?_
    refine jH (jJ y1 (gDa hx4)) ?_
    refine jH (jJ y5 (gUg hx8)) ?_
    refine jN ?_
    subst h
    exact qH
   ·replace h := gX c9 h
    refine goS ?_
    refine jH (jT y5 (by omega)) ?_
    exact ⟨(y5 + 1), h, by omega, eJ⟩
  ·have hky52 := vP c6
   rw [jE hky52, gAl.eq_1] at h
   refine goX ?_
   refine jH (jT y1 (by omega)) ?_
   exact ⟨(y1 + 1), h, by omega, eJ⟩
 ·have hky12 := vP c3
  rw [jE hky12, yQ.eq_1] at h
  refine goX ?_
  refine gFj (kE TBd.h TZ.h rfl (by repeat constructor)) ?_
  refine jN ?_
  subst h
  exact qH
def pR (y3 : Nat) (k2_0 : (List gT) → Option (List gT)) : List jZ → Nat → (List gT) → Option (List gT)
 | [], y9, y7 => (k2_0 y7)
 | x12 :: xs, y9, y7 => gd (y7.length + [(gT.mk (y3 : Int) (y9 : Int))].length ≤ 4294967296) (
pR y3 k2_0 xs (y9 + 1) (y7 ++ [(gT.mk (y3 : Int) (y9 : Int))]))
def qM : List jY → Nat → (List gT) → Option (List gT)
 | [], y3, y1 => (some y1)
 | x6 :: xs, y3, y1 => pR y3 (fun y7 => qM xs (y3 + 1) y7) x6.instances 0 y1
def gAm (a0 : gI) : Option (List gT) :=
qM a0.packages 0 []
theorem gNw (a0 : gI) {r : List gT} (h : gAm a0 = some r) : jB Tryz.prog 186 [.d (kS a0)] [.sl 2 (mU r)] := by
 obtain ⟨a0_0⟩ := a0
 unfold gAm at h
 refine SpI Tryz.func186 fun A _ => ?_
 refine goL ?_
 refine gAc ?_
 refine goL ?_
 refine noB ?_
 refine vJ 0 0 (fun z4 => ?_)
 refine kQ (fun (y3 : Nat) (y1 : List gT) (v2 : Nat) => ⟨[(1, .ptr 0 0), (3, .sl 1 v2), (4, .N y3)], [.box [.L 6 (kK a0_0)], .arr 168 2 v2 (mU y1)], Tryz.f186.ntmps⟩) (fun y3 y1 v2 => qM (a0_0.drop y3) y3 y1 = some r) (fun y3 y1 v2 => a0_0.length - y3) 0 [] 0 eJ h ?_
 rintro y3 y1 v2 h
 refine goL ?_
 refine mF (fun c5 => ?_) (fun c5 => ?_)
 ·have hky32 := vO c5
  obtain ⟨x6, hx6, hdx6⟩ := drop_at hky32
  rw [hdx6, qM.eq_2] at h
  obtain ⟨x6_0, x6_1, x6_2, x6_3, x6_4, x6_5⟩ := x6
  refine noS ?_
  refine kD (jC ?_)
  refine goL ?_
  refine noB ?_
  refine kQ (fun (y9 : Nat) (y7 : List gT) (v8 : Nat) => ⟨[(1, .ptr 0 0), (3, .sl 1 v8), (4, .N y3), (5, .N y9)], [.box [.L 6 (kK a0_0)], .arr 168 2 v8 (mU y7)], Tryz.f186.ntmps⟩) (fun y9 y7 v8 => pR y3 (fun y7 => qM (a0_0.drop (y3 + 1)) (y3 + 1) y7) (x6_4.drop y9) y9 y7 = some r) (fun y9 y7 v8 => x6_4.length - y9) 0 y1 v2 eJ h ?_
  rintro y9 y7 v8 h
  refine goL ?_
  refine jH (jJ y3 (gDa hx6)) ?_
  refine mF (fun c10 => ?_) (fun c10 => ?_)
  ·have hky92 := vO c10
   refine gEk 20 (fun z11 => ?_)
   obtain ⟨x12, hx12, hdx12⟩ := drop_at hky92
   rw [hdx12, pR.eq_2] at h
   obtain ⟨x12_0, x12_1, ⟨x12_2_0, x12_2_1, x12_2_2⟩, x12_3, x12_4, x12_5, ⟨x12_6_0, x12_6_1, x12_6_2⟩, x12_7⟩ := x12
   refine noS ?_
   refine kD (jC ?_)
   refine goL ?_
   refine gBm (kE TBd.h TZ.h rfl (by repeat constructor)) ?_
   refine gBc (u := (.st [.i .i64 (y3 : Int), .i .i64 (y9 : Int)])) ?_
   obtain ⟨g13, h⟩ := pF h
   refine gBu g13 ?_
   refine goL ?_
   refine jH (jT y9 (by omega)) ?_
   exact ⟨(y9 + 1), (y7 ++ [(gT.mk (y3 : Int) (y9 : Int))]), (v8 + 1), h, by omega, eJ⟩
  ·have hky92 := vP c10
   rw [jE hky92, pR.eq_1] at h
   refine goX ?_
   refine jH (jT y3 (by omega)) ?_
   exact ⟨(y3 + 1), y7, v8, h, by omega, eJ⟩
 ·have hky32 := vP c5
  rw [jE hky32, qM.eq_1] at h
  refine goX ?_
  refine kI 1 rfl rfl ?_
  refine jN ?_
  cases h
  exact qH
def qZ (a0 : gD) (a1 : gD) : Option (Bool) :=
bnd (zV a1 a0) fun x1 =>
(some x1)
theorem gEb (a0 : gD) (a1 : gD) {r : Bool} (h : qZ a0 a1 = some r) : jB Tryz.prog 188 [.d (jQ a0), .d (jQ a1)] [.b r] := by
 obtain ⟨a0_0, a0_1, a0_2⟩ := a0
 obtain ⟨a1_0, a1_1, a1_2⟩ := a1
 unfold qZ at h
 refine SpI Tryz.func188 fun A _ => ?_
 refine goL ?_
 obtain ⟨x1, hx1, h⟩ := gK h
 refine qQ (gF (gOw (gD.mk a1_0 a1_1 a1_2) (gD.mk a0_0 a0_1 a0_2) hx1)) ?_
 exact goR h
def gFl (a0 : Int) (a1 : Int) (a2 : Int) : Bool :=
lt_ ((cnd (decide (a0 ≥ a1)) ((decide (a0 ≤ a2))) (false))) fun b1 =>
b1
theorem gLr (a0 : Int) (a1 : Int) (a2 : Int) : jB Tryz.prog 113 [.I a0, .I a1, .I a2] [.b (gFl a0 a1 a2)] := by
 obtain ⟨r, h⟩ : ∃ r, gFl a0 a1 a2 = r := ⟨_, rfl⟩
 rw [h]
 unfold gFl at h
 refine SpI Tryz.func113 fun A _ => ?_
 refine goL ?_
 obtain ⟨b1, hb1, h⟩ := qU h
 refine jU ⟨[(6, .B b1)], [], Tryz.f113.ntmps⟩ ?_ ?_
 ·refine gQ 10 (fun c2 => ?_) (fun c2 => ?_)
  ·replace hb1 := gW c2 hb1
   refine goL ?_
   cases hb1
   exact eJ
  ·replace hb1 := gX c2 hb1
   refine goL ?_
   cases hb1
   exact eJ
 refine goL ?_
 refine jN ?_
 subst h
 exact qH
def mO (a0 : List UInt8) (a1 : Int) : Nat → (List (List UInt8)) → Int → Int → Option (List (List UInt8))
 | 0, y1, y3, y4 => none
 | n5 + 1, y1, y3, y4 => (cnd (decide (y4 ≤ (a0.length : Int))) (
bnd ((cnd (y4 == (a0.length : Int)) ((some true)) (bnd (at? a0 y4) fun x9 =>
(some ((x9.toNat : Int) == a1))))) fun b7 =>
(cnd b7 (
gd (0 ≤ y3 ∧ y3 ≤ y4 ∧ y4 ≤ (a0.length : Int)) (
gd (y1.length + [((a0.drop (Int.toNat y3)).take (Int.toNat y4 - Int.toNat y3))].length ≤ 4294967296) (
mO a0 a1 n5 (y1 ++ [((a0.drop (Int.toNat y3)).take (Int.toNat y4 - Int.toNat y3))]) (IntKind.i64.wrap (y4 + 1)) (IntKind.i64.wrap (y4 + 1))))) (
mO a0 a1 n5 y1 y3 (IntKind.i64.wrap (y4 + 1))))) (
(some y1)))
def gDv (a0 : List UInt8) (a1 : Int) (n0 : Nat) : Option (List (List UInt8)) :=
mO a0 a1 n0 [] 0 0
theorem gRy (a0 : List UInt8) (a1 : Int) {n0 : Nat} {r : List (List UInt8)} (h : gDv a0 a1 n0 = some r) : jB Tryz.prog 53 [.S a0, .d (.i .u8 a1)] [.sl 1 (gY r)] := by
 unfold gDv at h
 refine SpI Tryz.func53 fun A _ => ?_
 refine goL ?_
 refine gFh ?_
 refine goL ?_
 refine noB ?_
 refine gS7 (fun (n5 : Nat) (y1 : List (List UInt8)) (y3 : Int) (y4 : Int) (v2 : Nat) => ⟨[(0, .S a0), (1, .d (.i .u8 a1)), (5, .sl 0 v2), (6, .I y3), (7, .I y4)], [.own 9 1 v2 (gY y1)], Tryz.f53.ntmps⟩) (fun n5 y1 y3 y4 v2 => mO a0 a1 n5 y1 y3 y4 = some r) (fun n5 y1 y3 y4 v2 => n5) n0 [] 0 0 0 eJ h ?_
 rintro n5 y1 y3 y4 v2 h
 rcases n5 with _ | n5
 ·cases h
 rw [mO.eq_2] at h
 refine goC h ?_ ?_<;>intro c6 h
 ·refine noS ?_
  refine kD (jC ?_)
  refine goL ?_
  obtain ⟨b7, hb7, h⟩ := gK h
  refine jU ⟨[(0, .S a0), (1, .d (.i .u8 a1)), (5, .sl 0 v2), (6, .I y3), (7, .I y4), (25, .B b7)], [.own 9 1 v2 (gY y1)], Tryz.f53.ntmps⟩ ?_ ?_
  ·refine gQ 19 (fun c8 => ?_) (fun c8 => ?_)
   ·replace hb7 := gW c8 hb7
    refine goL ?_
    cases hb7
    exact eJ
   ·replace hb7 := gX c8 hb7
    refine goL ?_
    refine uB ?_
    obtain ⟨x9, hx9, hb7⟩ := gK hb7
    obtain ⟨hx90, hx9⟩ := gD9 hx9
    refine jH (gGm hx90 hx9) ?_
    cases hb7
    exact eJ
  refine goC h ?_ ?_<;>intro c10 h
  ·refine goL ?_
   obtain ⟨g11, h⟩ := pF h
   refine qQ (hDj g11) ?_
   refine gA7 ((a0.drop (Int.toNat y3)).take (Int.toNat y4 - Int.toNat y3)) ?_
   obtain ⟨g12, h⟩ := pF h
   refine gGo g12 ?_
   refine goL ?_
   refine jH (qG) ?_
   refine jH (qG) ?_
   exact ⟨n5, (y1 ++ [((a0.drop (Int.toNat y3)).take (Int.toNat y4 - Int.toNat y3))]), (IntKind.i64.wrap (y4 + 1)), (IntKind.i64.wrap (y4 + 1)), (v2 + 1), h, Nat.lt_succ_self _, eJ⟩
  ·refine goS ?_
   refine jH (qG) ?_
   exact ⟨n5, y1, y3, (IntKind.i64.wrap (y4 + 1)), v2, h, Nat.lt_succ_self _, eJ⟩
 ·refine goX ?_
  refine wI 0 rfl rfl ?_
  refine jN ?_
  cases h
  exact qH
def gC1 (x0 : List UInt8) (x1 : Int) : Option (List (List UInt8)) := gDv x0 x1 5000
def gCn : List UInt8 → Bool
 | [] => true
 | x4 :: xs => (cnd ((x4.toNat : Int) != 32) (
false) (
gCn xs ))
def gEt (a0 : List UInt8) : Bool :=
gCn a0
theorem gV9 (a0 : List UInt8) : jB Tryz.prog 54 [.S a0] [.b (gEt a0)] := by
 obtain ⟨r, h⟩ : ∃ r, gEt a0 = r := ⟨_, rfl⟩
 rw [h]
 unfold gEt at h
 refine SpI Tryz.func54 fun A _ => ?_
 refine goL ?_
 refine noB ?_
 refine gYb 0 (fun z2 => ?_)
 refine mY (fun (y1 : Nat) => ⟨[(0, .S a0), (3, .N y1)], [], Tryz.f54.ntmps⟩) (fun y1 => gCn (a0.drop y1)  = r) (fun y1 => a0.length - y1) 0 eJ h ?_
 rintro y1 h
 refine goL ?_
 refine mF (fun c3 => ?_) (fun c3 => ?_)
 ·have hky12 := hF6 c3
  obtain ⟨x4, hx4, hdx4⟩ := drop_at hky12
  rw [hdx4, gCn.eq_2] at h
  refine noS ?_
  refine kD (jC ?_)
  refine goL ?_
  refine jH (gD6 y1 hx4) ?_
  refine mF (fun c5 => ?_) (fun c5 => ?_)
  ·replace h := gW c5 h
   refine goL ?_
   refine jN ?_
   subst h
   exact qH
  ·replace h := gX c5 h
   refine goS ?_
   refine jH (jT y1 (by omega)) ?_
   exact ⟨(y1 + 1), h, by omega, eJ⟩
 ·have hky12 := hF7 c3
  rw [jE hky12, gCn.eq_1] at h
  refine goX ?_
  refine jN ?_
  subst h
  exact qH
def yA (c : uE) : Nat → Int → Option (uE)
 | 0, y1 => none
 | n2 + 1, y1 => bnd ((cnd (decide (y1 < (c.s.length : Int))) (bnd (at? c.s y1) fun x5 =>
(cnd ((x5.toNat : Int) == 32) ((some true)) ((some ((x5.toNat : Int) == 10))))) ((some false)))) fun b3 =>
(cnd b3 (
yA c n2 (IntKind.i64.wrap (y1 + 1))) (
(some (uE.mk c.s y1 c.deep c.size c.bad))))
def gQe (c : uE) (n0 : Nat) : Option (uE) :=
yA c n0 c.at_
theorem gQf (c : uE) {n0 : Nat} {r : uE} (h : gQe c n0 = some r) : Go.Eng.Spec Tryz.prog 75 [.ptr 0 0] [.box [.S c.s, .I c.at_, .I c.deep, .I c.size, .B c.bad]] (fun sv Lo => sv = .tup [] ∧ Lo = [.box [.S r.s, .I r.at_, .I r.deep, .I r.size, .B r.bad]]) := by
 obtain ⟨c_0, c_1, c_2, c_3, c_4⟩ := c
 unfold gQe at h
 refine kY 1 Tryz.func75 rfl (by kernel_rfl) rfl rfl fun A _ => ?_
 refine noB ?_
 refine gCx (fun (n2 : Nat) (y1 : Int) => ⟨[(0, .ptr 0 0)], [.box [.S c_0, .I y1, .I c_2, .I c_3, .B c_4]], Tryz.f75.ntmps⟩) (fun n2 y1 => yA (uE.mk c_0 c_1 c_2 c_3 c_4) n2 y1 = some r) (fun n2 y1 => n2) n0 c_1 eJ h ?_
 rintro n2 y1 h
 rcases n2 with _ | n2
 ·cases h
 rw [yA.eq_2] at h
 refine gIx ?_
 obtain ⟨b3, hb3, h⟩ := gK h
 refine qP (P := Tryz.prog) Mix.h ⟨[(0, .ptr 0 0), (35, .B b3)], [.box [.S c_0, .I y1, .I c_2, .I c_3, .B c_4]], Tryz.f75.ntmps⟩ (by kernel_rfl) ?_ ?_
 ·refine goL ?_
  refine wN 12 (fun c4 => ?_) (fun c4 => ?_)
  ·replace hb3 := gW c4 hb3
   refine goL ?_
   obtain ⟨x5, hx5, hb3⟩ := gK hb3
   obtain ⟨hx50, hx5⟩ := gD9 hx5
   refine gBo (gGm hx50 hx5) ?_
   refine goL ?_
   refine wN 23 (fun c6 => ?_) (fun c6 => ?_)
   ·replace hb3 := gW c6 hb3
    refine goL ?_
    cases hb3
    exact eJ
   ·replace hb3 := gX c6 hb3
    refine goL ?_
    refine gBo (gGm hx50 hx5) ?_
    refine goL ?_
    cases hb3
    exact eJ
  ·replace hb3 := gX c4 hb3
   refine goL ?_
   cases hb3
   exact eJ
 refine goC h ?_ ?_<;>intro c7 h
 ·refine noS ?_
  refine jC ?_
  refine goL ?_
  refine jH (qG) ?_
  exact ⟨n2, (IntKind.i64.wrap (y1 + 1)), h, Nat.lt_succ_self _, eJ⟩
 ·refine gRl ?_
  show qY _ _ _ _ _ _
  obtain rfl := Option.some.inj h
  exact hKw [] [.box [.S c_0, .I y1, .I c_2, .I c_3, .B c_4]] ⟨rfl, rfl⟩
def gLg (x0 : uE) : Option (uE) := gQe x0 5000
end Go.Proofs.YtfaplndgbgoaaaaGreat
set_option linter.unusedVariables false
set_option linter.unusedSimpArgs false
namespace Go.Proofs.YtfaplndgbgoaaaaGreat
open Go Go.Eng Go.RowKit
attribute [local irreducible] V VO VQ VY Quiet QR jB kR Rng uX vB qY
instance (n : Int) : Decidable (gD5 n) := inferInstanceAs (Decidable (_ ∧ _))
def dgs (u : Nat) : List UInt8 := if u = 0 then [] else Lib.decDigits u
theorem hB5 {u : Nat} (h : u ≠ 0) : dgs u = dgs (u / 10) ++ [UInt8.ofNat (48 + u % 10)] := by
 unfold dgs
 rw [if_neg h, Lib.decDigits]
 by_cases h1 : u < 10
 ·rw [dif_pos h1, if_pos (by omega), Nat.mod_eq_of_lt h1]; rfl
 ·rw [dif_neg h1, if_neg (by omega)]
theorem hFa {n : Int} (h : gD5 n) : (dgs n.natAbs).length ≤ 21 := by
 unfold dgs
 split
 ·simp
 ·have := Lib.itoa_length_le n h.1 h.2
  unfold Lib.itoa at this
  split at this
  ·simp at this; omega
  ·have e : n.natAbs = n.toNat := by omega
   rw [e]; exact this
theorem itoa_neg {n : Int} (h : n < 0) : Lib.itoa n = 45 :: dgs n.natAbs := by unfold Lib.itoa dgs; rw [if_pos h, if_neg (by omega)]
theorem hB6 {n : Int} (h : 0 < n) : Lib.itoa n = dgs n.natAbs := by unfold Lib.itoa dgs; rw [if_neg (by omega), if_neg (by omega)]; congr 1; omega
theorem gY4 : Lib.itoa 0 = [48] := by unfold Lib.itoa; rw [if_neg (by omega), Lib.decDigits]; rfl
theorem gY5 {m : Int} (h : m.tmod 10 < 0) : IntKind.i64.wrap (0 - m.tmod 10) = ((m.natAbs % 10 : Nat) : Int) := by
 have e : m.tmod 10 = -((m.natAbs % 10 : Nat) : Int) := by
  rcases Int.natAbs_eq m with h1 | h1
  ·rw [h1] at h
   have := Int.tmod_nonneg (a := (m.natAbs : Int)) 10 (by omega)
   omega
  ·conv => lhs; rw [h1]
   rw [Int.neg_tmod]
   have : ((m.natAbs : Int)).tmod 10 = ((m.natAbs % 10 : Nat) : Int) := by rw [show (10 : Int) = ((10 : Nat) : Int) from rfl, ← Int.ofNat_tmod];
   rw [this]
 rw [e, wM _ (by omega) (by omega)]
 omega
theorem gY6 {m : Int} (h : ¬ m.tmod 10 < 0) : m.tmod 10 = ((m.natAbs % 10 : Nat) : Int) := by
 have key : ((m.natAbs : Int)).tmod 10 = ((m.natAbs % 10 : Nat) : Int) := by rw [show (10 : Int) = ((10 : Nat) : Int) from rfl, ← Int.ofNat_tmod]
 rcases Int.natAbs_eq m with h1 | h1
 ·conv => lhs; rw [h1]
  exact key
 ·have e : m.tmod 10 = -((m.natAbs % 10 : Nat) : Int) := by
   conv => lhs; rw [h1]
   rw [Int.neg_tmod, key]
  omega
theorem gQg (m : Int) : (m.tdiv 10).natAbs = m.natAbs / 10 := by simp [Int.natAbs_tdiv]; rfl
theorem gKn {m : Int} (h : gD5 m) : gD5 (m.tdiv 10) ∧ IntKind.i64.wrap (m.tdiv 10) = m.tdiv 10 := by
 have := gQg m
 have hr : gD5 (m.tdiv 10) := by
  obtain ⟨h1, h2⟩ := h
  unfold gD5
  omega
 exact ⟨hr, wM _ hr.1 hr.2⟩
theorem byte_of (u : Nat) : UInt8.ofNat (IntKind.u8.wrap (IntKind.i64.wrap (48 + ((u % 10 : Nat) : Int)))).toNat = UInt8.ofNat (48 + u % 10) := by
 have : u % 10 < 10 := Nat.mod_lt _ (by decide)
 generalize u % 10 = k at this
 match k, this with
 | 0, _ | 1, _ | 2, _ | 3, _ | 4, _ | 5, _ | 6, _ | 7, _ | 8, _ | 9, _ => rfl
theorem round_eq {n m : Int} {out : List UInt8} (hm : m ≠ 0) (h : dgs n.natAbs = dgs m.natAbs ++ out) : dgs n.natAbs = dgs (m.tdiv 10).natAbs ++ ([UInt8.ofNat (48 + m.natAbs % 10)] ++ out) := by
 rw [h, hB5 (u := m.natAbs) (by omega), gQg, List.append_assoc]
set_option maxHeartbeats 4000000 in
theorem gIi (n : Int) (hn : gD5 n) : jB Tryz.prog 33 [.d (.i .i64 n)] [.s (Lib.itoa n)] := by
 refine gNq Tryz.func33 rfl (by kernel_rfl) rfl fun A _ => ?_
 refine goL ?_
 refine mF (fun c1 => ?_) (fun c1 => ?_)
 ·have : n = 0 := by simpa using c1
  subst this
  rw [gY4]
  refine goL ?_
  refine jN ?_
  exact qH
 refine gA6 ?_
 show V _ _ _ _ _
 have hn0 : n ≠ 0 := by simpa using c1
 refine goL ?_
 refine kD (jC ?_)
 refine mY (fun (x : Int × List UInt8) => ⟨[(0, .d (.i .i64 x.1)), (2, .d (.s [])), (3, .d (.b (decide (n < 0)))), (4, .d (.s x.2))], [], Tryz.f33.ntmps⟩) (fun x => gD5 x.1 ∧ dgs n.natAbs = dgs x.1.natAbs ++ x.2) (fun x => x.1.natAbs) (n, []) ⟨rfl, ⟨⟨rfl, rfl⟩, ⟨rfl, rfl⟩, ⟨rfl, rfl⟩, ⟨rfl, rfl⟩, trivial⟩, ⟨_, rfl⟩, rfl⟩ ⟨hn, by simp⟩ ?_
 rintro ⟨m, out⟩ ⟨hr, hd⟩
 have hl := hFa hn
 have hol : out.length ≤ 21 := by rw [hd] at hl; simp at hl; omega
 dsimp only
 refine goL ?_
 refine mF (fun c2 => ?_) (fun c2 => ?_)
 ·have hm : m ≠ 0 := by simpa using c2
  refine gA6 ?_
  show V _ _ _ _ _
  refine jC ?_
  refine goL ?_
  refine gBm hHg ?_
  refine goL ?_
  refine mF (fun c3 => ?_) (fun c3 => ?_)
  ·have hd3 := gY5 (of_decide_eq_true c3)
   refine goL ?_
   refine qQ qG ?_
   rw [hd3]
   refine goL ?_
   refine qQ qG ?_
   refine goL ?_
   refine gBm (gS2 rfl Tryz.underlying3 Tryz.underlying5) ?_
   refine goL ?_
   refine hG7 (u := .i .u8 _) ?_
   refine gBm (gUe rfl rfl Tryz.underlying22 Tryz.underlying5 Tryz.underlying9) ?_
   rw [byte_of]
   refine goL ?_
   refine qQ (vK (a := [_]) (b := out) (by simp; omega)) ?_
   refine goL ?_
   refine gBm (hDf (gKn hr).2) ?_
   refine goL ?_
   exact ⟨(m.tdiv 10, _), ⟨(gKn hr).1, round_eq hm hd⟩, by have := gQg m; simp only; omega, ⟨rfl, ⟨⟨rfl, rfl⟩, ⟨rfl, rfl⟩, ⟨rfl, rfl⟩, ⟨rfl, rfl⟩, trivial⟩, ⟨_, rfl⟩, rfl⟩⟩
  ·have hd3 := gY6 (of_decide_eq_false c3)
   refine gA6 ?_
   show V _ _ _ _ _
   refine goL ?_
   rw [hd3]
   refine qQ qG ?_
   refine goL ?_
   refine gBm (gS2 rfl Tryz.underlying3 Tryz.underlying5) ?_
   refine goL ?_
   refine hG7 (u := .i .u8 _) ?_
   refine gBm (gUe rfl rfl Tryz.underlying22 Tryz.underlying5 Tryz.underlying9) ?_
   rw [byte_of]
   refine goL ?_
   refine qQ (vK (a := [_]) (b := out) (by simp; omega)) ?_
   refine goL ?_
   refine gBm (hDf (gKn hr).2) ?_
   refine goL ?_
   exact ⟨(m.tdiv 10, _), ⟨(gKn hr).1, round_eq hm hd⟩, by have := gQg m; simp only; omega, ⟨rfl, ⟨⟨rfl, rfl⟩, ⟨rfl, rfl⟩, ⟨rfl, rfl⟩, ⟨rfl, rfl⟩, trivial⟩, ⟨_, rfl⟩, rfl⟩⟩
 ·have hm : m = 0 := by simpa using c2
  subst hm
  refine gRl ?_
  show V _ _ _ _ _
  refine goL ?_
  simp [dgs] at hd
  refine mF (fun c3 => ?_) (fun c3 => ?_)
  ·have h0 := of_decide_eq_true c3
   rw [itoa_neg h0, show dgs n.natAbs = out by simp [dgs, hd]]
   refine goL ?_
   refine qQ (vK (a := [45]) (b := out) (by simp; omega)) ?_
   refine goL ?_
   refine jN ?_
   exact qH
  ·have h0 := of_decide_eq_false c3
   rw [hB6 (by omega), show dgs n.natAbs = out by simp [dgs, hd]]
   refine gA6 ?_
   show V _ _ _ _ _
   refine goL ?_
   refine jN ?_
   exact qH
end Go.Proofs.YtfaplndgbgoaaaaGreat
set_option maxHeartbeats 4000000
set_option linter.unusedVariables false
set_option linter.unusedSimpArgs false
set_option linter.unusedSectionVars false
namespace Go.Proofs.YtfaplndgbgoaaaaGreat
open Go Go.Eng
attribute [local irreducible] V VO VQ VY Quiet QR jB kR Rng uX vB qY
end Go.Proofs.YtfaplndgbgoaaaaGreat
