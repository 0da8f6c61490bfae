import Derived.Test.YtfaplndgbgoaaaaGreatEng38
import Derived.Test.YtfaplndgbgoaaaaGreatEng67
set_option maxHeartbeats 4000000
set_option linter.unusedVariables false
set_option linter.unusedSimpArgs false
set_option linter.unusedSectionVars false
namespace Go.Proofs.YtfaplndgbgoaaaaGreat
open Go Go.Eng
attribute [local irreducible] V VO VQ VY Quiet QR jB kR Rng uX vB qY
mutual
def tnd : gD → Nat
 | ⟨_, _, ts⟩ => 1 + gA8 ts
def gA8 : List gD → Nat
 | [] => 0
 | a :: ts => tnd a + gA8 ts
end
mutual
def tok : gD → Prop
 | ⟨_, _, ts⟩ => ts.length ≤ 4294967296 ∧ gQh ts
def gQh : List gD → Prop
 | [] => True
 | a :: ts => tok a ∧ gQh ts
end
def hDt (ts : List gD) : Prop := ts.length ≤ 4294967296 ∧ gQh ts
theorem gF3 : ∀ {ts : List gD}, gQh ts ↔ ∀ t ∈ ts, tok t
 | [] => by simp [gQh]
 | a :: ts => by simp [gQh, gF3 (ts := ts)]
theorem gA9 {x : gD} : ∀ {ts : List gD}, x ∈ ts → tnd x ≤ gA8 ts
 | [], h => by simp at h
 | a :: ts, h => by
   simp only [gA8]
   rcases List.mem_cons.1 h with rfl | h
   ·omega
   ·have := gA9 h
    omega
theorem gCo (t : gD) : 1 ≤ tnd t := by cases t; simp only [tnd]; omega
def idT (t : gD) : gD := t
def hK0 (t : List gD) : List gD := t
mutual
def hPf : gD → Bool
 | ⟨_, _, ts⟩ => decide (ts.length ≤ 4294967296) && gY7 ts
def gY7 : List gD → Bool
 | [] => true
 | a :: ts => hPf a && gY7 ts
end
mutual
theorem gUu : ∀ (t : gD), hPf t = true ↔ tok t
 | ⟨k, n, ts⟩ => by simp only [hPf, tok, Bool.and_eq_true, decide_eq_true_eq, gRz ts]
theorem gRz : ∀ (ts : List gD), gY7 ts = true ↔ gQh ts
 | [] => by simp [gY7, gQh]
 | a :: ts => by simp only [gY7, gQh, Bool.and_eq_true, gUu a, gRz ts]
end
instance (t : gD) : Decidable (tok t) := decidable_of_iff _ (gUu t)
def gHa (rec_iCopyType : gD → Option (gD)) (rec_iCopyTypes : (List gD) → Option (List gD)) (a0 : gD) : Option (gD) :=
bnd (rec_iCopyTypes a0.args) fun x1 =>
(some (gD.mk a0.kind a0.name x1))
theorem gTh {rec_iCopyType : gD → Option (gD)} {rec_iCopyTypes : (List gD) → Option (List gD)} (hrec_iCopyType : ∀ (x0 : gD) {r : gD}, rec_iCopyType x0 = some r → kR Tryz.prog 38 [.d (jQ x0)] [31] [jQ r]) (hrec_iCopyTypes : ∀ (x0 : List gD) {r : List gD}, rec_iCopyTypes x0 = some r → kR Tryz.prog 58 [.L 3 (gJ x0)] [31] [.sl 3 (gJ r)]) (a0 : gD) {r : gD} (h : gHa rec_iCopyType rec_iCopyTypes a0 = some r) : kR Tryz.prog 38 [.d (jQ a0)] [31] [jQ r] := by
 obtain ⟨a0_0, a0_1, a0_2⟩ := a0
 unfold gHa at h
 refine qJ Tryz.func38 rfl (by kernel_rfl) rfl (by simp) fun A _ => ?_
 refine goL ?_
 obtain ⟨x1, hx1, h⟩ := gK h
 refine gI7 (hrec_iCopyTypes a0_2 hx1) ?_
 refine goL ?_
 refine jN ?_
 obtain rfl := Option.some.inj h
 exact gOf
def uY (rec_iCopyType : gD → Option (gD)) : List gD → Nat → (List gD) → Option (List gD)
 | [], y4, y2 => (some y2)
 | x7 :: xs, y4, y2 => bnd (rec_iCopyType x7) fun x8 =>
gd (y4 < y2.length) (
uY rec_iCopyType xs (y4 + 1) (y2.set y4 x8))
def gF4 (rec_iCopyType : gD → Option (gD)) (rec_iCopyTypes : (List gD) → Option (List gD)) (a0 : List gD) : Option (List gD) :=
gd (a0.length ≤ 4294967296) (
uY rec_iCopyType a0 0 (List.replicate a0.length (gD.mk 0 [] [])))
theorem gR0 {rec_iCopyType : gD → Option (gD)} {rec_iCopyTypes : (List gD) → Option (List gD)} (hrec_iCopyType : ∀ (x0 : gD) {r : gD}, rec_iCopyType x0 = some r → kR Tryz.prog 38 [.d (jQ x0)] [31] [jQ r]) (hrec_iCopyTypes : ∀ (x0 : List gD) {r : List gD}, rec_iCopyTypes x0 = some r → kR Tryz.prog 58 [.L 3 (gJ x0)] [31] [.sl 3 (gJ r)]) (a0 : List gD) {r : List gD} (h : gF4 rec_iCopyType rec_iCopyTypes a0 = some r) : kR Tryz.prog 58 [.L 3 (gJ a0)] [31] [.sl 3 (gJ r)] := by
 unfold gF4 at h
 refine qJ Tryz.func58 rfl (by kernel_rfl) rfl (by simp) fun A _ => ?_
 refine goL ?_
 obtain ⟨g1, h⟩ := pF h
 refine hHb (gD.mk 0 [] []) g1 ?_
 refine goL ?_
 refine noB ?_
 refine gEk 9 (fun z5 => ?_)
 refine kQ (fun (y4 : Nat) (y2 : List gD) (v3 : Nat) => ⟨[(3, .sl 0 v3), (9, .L 3 (gJ a0)), (10, .I (a0.length : Int)), (11, .N y4)], [.own 31 3 v3 (gJ y2)], Tryz.f58.ntmps⟩) (fun y4 y2 v3 => uY rec_iCopyType (a0.drop y4) y4 y2 = some r) (fun y4 y2 v3 => a0.length - y4) 0 (List.replicate a0.length (gD.mk 0 [] [])) 0 eJ h ?_
 rintro y4 y2 v3 h
 refine goL ?_
 refine kD (mF (fun c6 => ?_) (fun c6 => ?_))
 ·have hky42 := vO c6
  obtain ⟨x7, hx7, hdx7⟩ := drop_at hky42
  rw [hdx7, uY.eq_2] at h
  obtain ⟨x7_0, x7_1, x7_2⟩ := x7
  refine noS ?_
  refine kD (jC ?_)
  refine goL ?_
  refine jH (jJ y4 (gA5 hx7)) ?_
  obtain ⟨⟨x8_0, x8_1, x8_2⟩, hx8, h⟩ := gK h
  refine gI7 (hrec_iCopyType (gD.mk x7_0 x7_1 x7_2) hx8) ?_
  obtain ⟨g9, h⟩ := pF h
  refine gBm (hHe y4 g9) ?_
  refine hHf (gD.mk x8_0 x8_1 x8_2) g9 ?_
  refine goL ?_
  refine jH (jT y4 (by omega)) ?_
  exact ⟨(y4 + 1), (y2.set y4 (gD.mk x8_0 x8_1 x8_2)), v3, h, by omega, eJ⟩
 ·have hky42 := vP c6
  rw [jE hky42, uY.eq_1] at h
  refine goX ?_
  refine jN ?_
  obtain rfl := Option.some.inj h
  exact gOf
mutual
def gC2 : Nat → gD → Option (gD)
 | 0, _ => none
 | n + 1, x0 => gHa (gC2 n) (gDw n) x0
def gDw : Nat → (List gD) → Option (List gD)
 | 0, _ => none
 | n + 1, x0 => gF4 (gC2 n) (gDw n) x0
end
theorem gR1 : ∀ (n : Nat), (∀ (x0 : gD) {r : gD}, gC2 n x0 = some r → kR Tryz.prog 38 [.d (jQ x0)] [31] [jQ r]) ∧ (∀ (x0 : List gD) {r : List gD}, gDw n x0 = some r → kR Tryz.prog 58 [.L 3 (gJ x0)] [31] [.sl 3 (gJ r)]) := by
 intro n
 induction n with
 | zero => exact ⟨(by intro x0 r h; cases h), (by intro x0 r h; cases h)⟩
 | succ n ih =>
   obtain ⟨ih0, ih1⟩ := ih
   refine ⟨(fun x0 r h => gTh ih0 ih1 x0 h), (fun x0 r h => gR0 ih0 ih1 x0 h)⟩
theorem gTi : ∀ (n : Nat) (x0 : gD) {r : gD}, gC2 n x0 = some r → kR Tryz.prog 38 [.d (jQ x0)] [31] [jQ r] := fun n => (gR1 n).1
def gHb (rec_sCopyType : gD → Option (gD)) (rec_sCopyTypes : (List gD) → Option (List gD)) (a0 : gD) : Option (gD) :=
bnd (rec_sCopyTypes a0.args) fun x1 =>
(some (gD.mk a0.kind a0.name x1))
theorem gTj {rec_sCopyType : gD → Option (gD)} {rec_sCopyTypes : (List gD) → Option (List gD)} (hrec_sCopyType : ∀ (x0 : gD) {r : gD}, rec_sCopyType x0 = some r → kR Tryz.prog 18 [.d (jQ x0)] [31] [jQ r]) (hrec_sCopyTypes : ∀ (x0 : List gD) {r : List gD}, rec_sCopyTypes x0 = some r → kR Tryz.prog 44 [.L 3 (gJ x0)] [31] [.sl 3 (gJ r)]) (a0 : gD) {r : gD} (h : gHb rec_sCopyType rec_sCopyTypes a0 = some r) : kR Tryz.prog 18 [.d (jQ a0)] [31] [jQ r] := by
 obtain ⟨a0_0, a0_1, a0_2⟩ := a0
 unfold gHb at h
 refine qJ Tryz.func18 rfl (by kernel_rfl) rfl (by simp) fun A _ => ?_
 refine gIx ?_
 refine jL (P := Tryz.prog) Mix.h [(0, true), (1, true), (2, true), (3, true), (4, true), (5, true), (6, false), (7, true), (8, false)] (by kernel_rfl) ?_
 refine goY ?_
 obtain ⟨x1, hx1, h⟩ := gK h
 refine gS8 (hrec_sCopyTypes a0_2 hx1) ?_
 refine goY ?_
 refine kP ?_
 refine goL ?_
 refine jN ?_
 obtain rfl := Option.some.inj h
 exact gOf
def uZ (rec_sCopyType : gD → Option (gD)) : List gD → (List gD) → Option (List gD)
 | [], y1 => (some y1)
 | x6 :: xs, y1 => bnd (rec_sCopyType x6) fun x7 =>
gd (y1.length + [x7].length ≤ 4294967296) (
uZ rec_sCopyType xs (y1 ++ [x7]))
def gF5 (rec_sCopyType : gD → Option (gD)) (rec_sCopyTypes : (List gD) → Option (List gD)) (a0 : List gD) : Option (List gD) :=
uZ rec_sCopyType a0 []
theorem gR2 {rec_sCopyType : gD → Option (gD)} {rec_sCopyTypes : (List gD) → Option (List gD)} (hrec_sCopyType : ∀ (x0 : gD) {r : gD}, rec_sCopyType x0 = some r → kR Tryz.prog 18 [.d (jQ x0)] [31] [jQ r]) (hrec_sCopyTypes : ∀ (x0 : List gD) {r : List gD}, rec_sCopyTypes x0 = some r → kR Tryz.prog 44 [.L 3 (gJ x0)] [31] [.sl 3 (gJ r)]) (a0 : List gD) {r : List gD} (h : gF5 rec_sCopyType rec_sCopyTypes a0 = some r) : kR Tryz.prog 44 [.L 3 (gJ a0)] [31] [.sl 3 (gJ r)] := by
 unfold gF5 at h
 refine qJ Tryz.func44 rfl (by kernel_rfl) rfl (by simp) fun A _ => ?_
 refine goL ?_
 refine gFh ?_
 refine goL ?_
 refine noB ?_
 refine gEk 0 (fun z4 => ?_)
 refine kQ (fun (y3 : Nat) (y1 : List gD) (v2 : Nat) => ⟨[(0, .L 3 (gJ a0)), (3, .sl 0 v2), (4, .N y3)], [.own 31 3 v2 (gJ y1)], Tryz.f44.ntmps⟩) (fun y3 y1 v2 => uZ rec_sCopyType (a0.drop y3) y1 = some r) (fun y3 y1 v2 => a0.length - y3) 0 [] 0 eJ h ?_
 rintro y3 y1 v2 h
 refine goL ?_
 refine mF (fun c5 => ?_) (fun c5 => ?_)
 ·have hky32 := vO c5
  obtain ⟨x6, hx6, hdx6⟩ := drop_at hky32
  rw [hdx6, uZ.eq_2] at h
  obtain ⟨x6_0, x6_1, x6_2⟩ := x6
  refine noS ?_
  refine kD (jC ?_)
  refine goL ?_
  refine jH (jJ y3 (gA5 hx6)) ?_
  obtain ⟨⟨x7_0, x7_1, x7_2⟩, hx7, h⟩ := gK h
  refine gI7 (hrec_sCopyType (gD.mk x6_0 x6_1 x6_2) hx7) ?_
  refine gA7 (gD.mk x7_0 x7_1 x7_2) ?_
  obtain ⟨g8, h⟩ := pF h
  refine gGo g8 ?_
  refine goL ?_
  refine jH (jT y3 (by omega)) ?_
  exact ⟨(y3 + 1), (y1 ++ [(gD.mk x7_0 x7_1 x7_2)]), (v2 + 1), h, by omega, eJ⟩
 ·have hky32 := vP c5
  rw [jE hky32, uZ.eq_1] at h
  refine goX ?_
  refine jN ?_
  obtain rfl := Option.some.inj h
  exact gOf
mutual
def gC3 : Nat → gD → Option (gD)
 | 0, _ => none
 | n + 1, x0 => gHb (gC3 n) (gDx n) x0
def gDx : Nat → (List gD) → Option (List gD)
 | 0, _ => none
 | n + 1, x0 => gF5 (gC3 n) (gDx n) x0
end
theorem gR3 : ∀ (n : Nat), (∀ (x0 : gD) {r : gD}, gC3 n x0 = some r → kR Tryz.prog 18 [.d (jQ x0)] [31] [jQ r]) ∧ (∀ (x0 : List gD) {r : List gD}, gDx n x0 = some r → kR Tryz.prog 44 [.L 3 (gJ x0)] [31] [.sl 3 (gJ r)]) := by
 intro n
 induction n with
 | zero => exact ⟨(by intro x0 r h; cases h), (by intro x0 r h; cases h)⟩
 | succ n ih =>
   obtain ⟨ih0, ih1⟩ := ih
   refine ⟨(fun x0 r h => gTj ih0 ih1 x0 h), (fun x0 r h => gR2 ih0 ih1 x0 h)⟩
theorem gTk : ∀ (n : Nat) (x0 : gD) {r : gD}, gC3 n x0 = some r → kR Tryz.prog 18 [.d (jQ x0)] [31] [jQ r] := fun n => (gR3 n).1
theorem gKo {α : Type} {l : List α} {k : Nat} {x : α} (h : k < l.length) : (l.set k x).take (k + 1) = l.take k ++ [x] := by
 apply List.ext_getElem?
 intro i
 rw [List.getElem?_take, List.getElem?_append, List.length_take, List.getElem?_take, List.getElem?_set]
 have hm : min k l.length = k := Nat.min_eq_left (by omega)
 rw [hm]
 by_cases h1 : i < k
 ·rw [if_pos (by omega), if_neg (by omega), if_pos h1, if_pos h1]
 ·rw [if_neg h1]
  by_cases h2 : i = k
  ·subst h2
   rw [if_pos (by omega), if_pos rfl, if_pos h]
   simp
  ·rw [if_neg (by omega), List.getElem?_eq_none (by simp; omega)]
theorem gHr {rec : gD → Option gD} : ∀ (xs : List gD) (k : Nat) (y : List gD), (∀ x ∈ xs, rec x = some x) → y.length = k + xs.length → uY rec xs k y = some (y.take k ++ xs)
 | [], k, y, _, h => by
   simp only [uY, List.append_nil]
   rw [List.take_of_length_le (by simp at h; omega)]
 | x :: xs, k, y, h1, h2 => by
   simp only [uY]
   rw [h1 x (by simp)]
   simp only [bnd, List.length_cons] at h2 ⊢
   rw [pQ (by omega), gHr xs (k + 1) _ (fun z hz => h1 z (by simp [hz])) (by simp; omega), gKo (by omega)]
   simp
theorem gUv : ∀ (n : Nat), (∀ t : gD, 2 * tnd t ≤ n → tok t → gC2 n t = some (idT t)) ∧ (∀ ts : List gD, 2 * gA8 ts + 1 ≤ n → hDt ts → gDw n ts = some (hK0 ts))
 | 0 => ⟨fun t h => by have := gCo t; omega, fun ts h => by omega⟩
 | n + 1 => by
   obtain ⟨h1, h2⟩ := gUv n
   refine ⟨fun t hn ht => ?_, fun ts hn ht => ?_⟩
   ·obtain ⟨k, s, ts⟩ := t
    simp only [tnd] at hn
    simp only [gC2, gHa]
    rw [h2 ts (by omega) (by simpa only [tok, hDt] using ht)]
    rfl
   ·simp only [gDw, gF4]
    rw [pQ ht.1, gHr ts 0 _ (fun x hx => h1 x (by have := gA9 hx; omega) (gF3.1 ht.2 x hx)) (by simp)]
    simp [hK0]
theorem gHs {rec : gD → Option gD} : ∀ (xs : List gD) (y : List gD), (∀ x ∈ xs, rec x = some x) → y.length + xs.length ≤ 4294967296 → uZ rec xs y = some (y ++ xs)
 | [], y, _, h => by simp [uZ]
 | x :: xs, y, h1, h2 => by
   simp only [uZ]
   rw [h1 x (by simp)]
   simp only [bnd, List.length_cons, List.length_nil] at h2 ⊢
   rw [pQ (by omega), gHs xs _ (fun z hz => h1 z (by simp [hz])) (by simp; omega)]
   simp
theorem gUw : ∀ (n : Nat), (∀ t : gD, 2 * tnd t ≤ n → tok t → gC3 n t = some (idT t)) ∧ (∀ ts : List gD, 2 * gA8 ts + 1 ≤ n → hDt ts → gDx n ts = some (hK0 ts))
 | 0 => ⟨fun t h => by have := gCo t; omega, fun ts h => by omega⟩
 | n + 1 => by
   obtain ⟨h1, h2⟩ := gUw n
   refine ⟨fun t hn ht => ?_, fun ts hn ht => ?_⟩
   ·obtain ⟨k, s, ts⟩ := t
    simp only [tnd] at hn
    simp only [gC3, gHb]
    rw [h2 ts (by omega) (by simpa only [tok, hDt] using ht)]
    rfl
   ·simp only [gDx, gF5]
    rw [gHs ts _ (fun x hx => h1 x (by have := gA9 hx; omega) (gF3.1 ht.2 x hx)) (by simpa using ht.1)]
    simp [hK0]
theorem gNx (x0 : gD) (h : tok x0) : kR Tryz.prog 38 [.d (jQ x0)] [31] [jQ (idT x0)] := gTi (2 * tnd x0) x0 ((gUv _).1 _ (Nat.le_refl _) h)
theorem yB (x0 : gD) (h : tok x0) : kR Tryz.prog 18 [.d (jQ x0)] [31] [jQ (idT x0)] := gTk (2 * tnd x0) x0 ((gUw _).1 _ (Nat.le_refl _) h)
def gF6 (rec_sEqualType : gD → gD → Option (Bool)) (rec_sSame : (List gD) → (List gD) → Option (Bool)) (a0 : gD) (a1 : gD) : Option (Bool) :=
bnd ((cnd (a0.kind == a1.kind) ((cnd (a0.name == a1.name) (bnd (rec_sSame a0.args a1.args) fun x4 =>
(some x4)) ((some false)))) ((some false)))) fun b1 =>
(some b1)
theorem gR4 {rec_sEqualType : gD → gD → Option (Bool)} {rec_sSame : (List gD) → (List gD) → Option (Bool)} (hrec_sEqualType : ∀ (x0 : gD) (x1 : gD) {r : Bool}, rec_sEqualType x0 x1 = some r → jB Tryz.prog 7 [.d (jQ x0), .d (jQ x1)] [.b r]) (hrec_sSame : ∀ (x0 : List gD) (x1 : List gD) {r : Bool}, rec_sSame x0 x1 = some r → jB Tryz.prog 17 [.L 3 (gJ x0), .L 3 (gJ x1)] [.b r]) (a0 : gD) (a1 : gD) {r : Bool} (h : gF6 rec_sEqualType rec_sSame a0 a1 = some r) : jB Tryz.prog 7 [.d (jQ a0), .d (jQ a1)] [.b r] := by
 obtain ⟨a0_0, a0_1, a0_2⟩ := a0
 obtain ⟨a1_0, a1_1, a1_2⟩ := a1
 unfold gF6 at h
 refine SpI Tryz.func7 fun A _ => ?_
 refine goL ?_
 obtain ⟨b1, hb1, h⟩ := gK h
 refine jU ⟨[(4, .B b1)], [.box [.I a0_0, .S a0_1, .L 3 (gJ a0_2)], .box [.I a1_0, .S a1_1, .L 3 (gJ a1_2)]], Tryz.f7.ntmps⟩ ?_ ?_
 ·refine gQ 10 (fun c2 => ?_) (fun c2 => ?_)
  ·replace hb1 := gW c2 hb1
   refine goL ?_
   refine gQ 17 (fun c3 => ?_) (fun c3 => ?_)
   ·replace hb1 := gW c3 hb1
    refine goL ?_
    refine uB ?_
    obtain ⟨x4, hx4, hb1⟩ := gK hb1
    refine jH (gF (hrec_sSame a0_2 a1_2 hx4)) ?_
    cases hb1
    exact eJ
   ·replace hb1 := gX c3 hb1
    refine goL ?_
    cases hb1
    exact eJ
  ·replace hb1 := gX c2 hb1
   refine goL ?_
   cases hb1
   exact eJ
 exact goR h
def gC4 (rec_sEqualType : gD → gD → Option (Bool)) (a1 : List gD) : List gD → Nat → Option (Bool)
 | [], y2 => (some true)
 | x5 :: xs, y2 => bnd (at? a1 (y2 : Int)) fun x6 =>
bnd (rec_sEqualType x5 x6) fun x7 =>
(cnd (!x7) (
(some false)) (
gC4 rec_sEqualType a1 xs (y2 + 1)))
def gQi (rec_sEqualType : gD → gD → Option (Bool)) (rec_sSame : (List gD) → (List gD) → Option (Bool)) (a0 : List gD) (a1 : List gD) : Option (Bool) :=
(cnd ((a0.length : Int) != (a1.length : Int)) (
(some false)) (
gC4 rec_sEqualType a1 a0 0))
theorem hFb {rec_sEqualType : gD → gD → Option (Bool)} {rec_sSame : (List gD) → (List gD) → Option (Bool)} (hrec_sEqualType : ∀ (x0 : gD) (x1 : gD) {r : Bool}, rec_sEqualType x0 x1 = some r → jB Tryz.prog 7 [.d (jQ x0), .d (jQ x1)] [.b r]) (hrec_sSame : ∀ (x0 : List gD) (x1 : List gD) {r : Bool}, rec_sSame x0 x1 = some r → jB Tryz.prog 17 [.L 3 (gJ x0), .L 3 (gJ x1)] [.b r]) (a0 : List gD) (a1 : List gD) {r : Bool} (h : gQi rec_sEqualType rec_sSame a0 a1 = some r) : jB Tryz.prog 17 [.L 3 (gJ a0), .L 3 (gJ a1)] [.b r] := by
 unfold gQi at h
 refine SpI Tryz.func17 fun A _ => ?_
 refine goC h ?_ ?_<;>intro c1 h
 ·exact goR h
 ·refine goS ?_
  refine noB ?_
  refine gEk 0 (fun z3 => ?_)
  refine mY (fun (y2 : Nat) => ⟨[(0, .L 3 (gJ a0)), (1, .L 3 (gJ a1)), (5, .N y2)], [], Tryz.f17.ntmps⟩) (fun y2 => gC4 rec_sEqualType a1 (a0.drop y2) y2 = some r) (fun y2 => a0.length - y2) 0 eJ h ?_
  rintro y2 h
  refine goL ?_
  refine mF (fun c4 => ?_) (fun c4 => ?_)
  ·have hky22 := vO c4
   obtain ⟨x5, hx5, hdx5⟩ := drop_at hky22
   rw [hdx5, gC4.eq_2] at h
   obtain ⟨x5_0, x5_1, x5_2⟩ := x5
   refine noS ?_
   refine kD (jC ?_)
   refine goL ?_
   refine gCr (jJ y2 (gA5 hx5)) ?_
   refine goL ?_
   obtain ⟨x6, hx6, h⟩ := gK h
   rw [gEa] at hx6
   obtain ⟨x6_0, x6_1, x6_2⟩ := x6
   refine gCr (jJ y2 (gA5 hx6)) ?_
   refine goL ?_
   obtain ⟨x7, hx7, h⟩ := gK h
   refine gCr (gF (hrec_sEqualType (gD.mk x5_0 x5_1 x5_2) (gD.mk x6_0 x6_1 x6_2) hx7)) ?_
   refine goC h ?_ ?_<;>intro c8 h
   ·exact goR h
   ·refine goS ?_
    refine jH (jT y2 (by omega)) ?_
    exact ⟨(y2 + 1), h, by omega, eJ⟩
  ·have hky22 := vP c4
   rw [jE hky22, gC4.eq_1] at h
   refine goX ?_
   refine jN ?_
   cases h
   exact qH
mutual
def gBw : Nat → gD → gD → Option (Bool)
 | 0, _, _ => none
 | n + 1, x0, x1 => gF6 (gBw n) (gNy n) x0 x1
def gNy : Nat → (List gD) → (List gD) → Option (Bool)
 | 0, _, _ => none
 | n + 1, x0, x1 => gQi (gBw n) (gNy n) x0 x1
end
theorem gQj : ∀ (n : Nat), (∀ (x0 : gD) (x1 : gD) {r : Bool}, gBw n x0 x1 = some r → jB Tryz.prog 7 [.d (jQ x0), .d (jQ x1)] [.b r]) ∧ (∀ (x0 : List gD) (x1 : List gD) {r : Bool}, gNy n x0 x1 = some r → jB Tryz.prog 17 [.L 3 (gJ x0), .L 3 (gJ x1)] [.b r]) := by
 intro n
 induction n with
 | zero => exact ⟨(by intro x0 x1 r h; cases h), (by intro x0 x1 r h; cases h)⟩
 | succ n ih =>
   obtain ⟨ih0, ih1⟩ := ih
   refine ⟨(fun x0 x1 r h => gR4 ih0 ih1 x0 x1 h), (fun x0 x1 r h => hFb ih0 ih1 x0 x1 h)⟩
theorem gR5 : ∀ (n : Nat) (x0 : gD) (x1 : gD) {r : Bool}, gBw n x0 x1 = some r → jB Tryz.prog 7 [.d (jQ x0), .d (jQ x1)] [.b r] := fun n => (gQj n).1
mutual
def teq : gD → gD → Bool
 | ⟨k, n, ts⟩, ⟨k', n', ts'⟩ => (k == k') && ((n == n') && gWa ts ts')
def gWa : List gD → List gD → Bool
 | [], [] => true
 | a :: ts, b :: ts' => teq a b && gWa ts ts'
 | _, _ => false
end
mutual
theorem gNz : ∀ (a b : gD), teq a b = true ↔ a = b
 | ⟨k, n, ts⟩, ⟨k', n', ts'⟩ => by
   simp only [teq, Bool.and_eq_true, beq_iff_eq, gD.mk.injEq]
   rw [gUx ts ts']
theorem gUx : ∀ (a b : List gD), gWa a b = true ↔ a = b
 | [], [] => by simp [gWa]
 | a :: ts, b :: ts' => by
   simp only [gWa, Bool.and_eq_true, List.cons.injEq]
   rw [gNz a b, gUx ts ts']
 | [], _ :: _ => by simp [gWa]
 | _ :: _, [] => by simp [gWa]
end
theorem gUy : ∀ {a b : List gD}, a.length ≠ b.length → gWa a b = false
 | [], [], h => by simp at h
 | a :: ts, b :: ts', h => by
   simp only [gWa]
   rw [gUy (a := ts) (b := ts') (by simpa using h), Bool.and_false]
 | [], _ :: _, _ => rfl
 | _ :: _, [], _ => rfl
theorem gN0 {p : gD → gD → Option Bool} (b : List gD) : ∀ (xs : List gD) (k : Nat), (∀ x ∈ xs, ∀ y, p x y = some (teq x y)) → b.length = k + xs.length → gC4 p b xs k = some (gWa xs (b.drop k))
 | [], k, _, h => by
   rw [List.drop_eq_nil_of_le (by simp at h; omega)]
   rfl
 | x :: xs, k, hp, h => by
   simp only [List.length_cons] at h
   have hk : k < b.length := by omega
   simp only [gC4, gEa]
   rw [List.getElem?_eq_getElem hk, List.drop_eq_getElem_cons hk]
   simp only [bnd, hp x (by simp), gWa]
   cases hq : teq x b[k] with
   | true => simp only [Bool.not_true, gN, Bool.true_and]; exact gN0 b xs (k + 1) (fun z hz => hp z (by simp [hz])) (by omega)
   | false => rfl
theorem gR6 : ∀ (n : Nat), (∀ a b : gD, 2 * tnd a ≤ n → gBw n a b = some (teq a b)) ∧ (∀ a b : List gD, 2 * gA8 a + 1 ≤ n → gNy n a b = some (gWa a b))
 | 0 => ⟨fun t _ h => by have := gCo t; omega, fun ts _ h => by omega⟩
 | n + 1 => by
   obtain ⟨h1, h2⟩ := gR6 n
   refine ⟨fun a b hn => ?_, fun a b hn => ?_⟩
   ·obtain ⟨k, s, ts⟩ := a
    obtain ⟨k', s', ts'⟩ := b
    simp only [tnd] at hn
    simp only [gBw, gF6, teq]
    rw [h2 ts ts' (by omega)]
    cases h1 : k == k' <;> cases h2 : s == s' <;> cases gWa ts ts' <;> rfl
   ·simp only [gNy, gQi]
    by_cases h : a.length = b.length
    ·have : ((a.length : Int) != (b.length : Int)) = false := by simp [h]
     rw [this, gN, gN0 b a 0 (fun x hx y => h1 x y (by have := gA9 hx; omega)) (by omega)]
     rfl
    ·have : ((a.length : Int) != (b.length : Int)) = true := by simp; omega
     rw [this, jI, gUy h]
theorem yU (x0 : gD) (x1 : gD) : jB Tryz.prog 7 [.d (jQ x0), .d (jQ x1)] [.b (teq x0 x1)] := gR5 (2 * tnd x0) x0 x1 ((gR6 _).1 _ _ (Nat.le_refl _))
mutual
def tsz : gD → Int
 | ⟨_, _, ts⟩ => hB7 ts 1
def hB7 : List gD → Int → Int
 | [], y => y
 | a :: ts, y => hB7 ts (IntKind.i64.wrap (y + tsz a))
end
def yC (rec_iTypeSize : gD → Option (Int)) : List gD → Int → Option (Int)
 | [], y1 => (some y1)
 | x5 :: xs, y1 => bnd (rec_iTypeSize x5) fun x6 =>
yC rec_iTypeSize xs (IntKind.i64.wrap (y1 + x6))
def gHc (rec_iTypeSize : gD → Option (Int)) (a0 : gD) : Option (Int) :=
yC rec_iTypeSize a0.args 1
theorem gTl {rec_iTypeSize : gD → Option (Int)} (hrec_iTypeSize : ∀ (x0 : gD) {r : Int}, rec_iTypeSize x0 = some r → jB Tryz.prog 42 [.d (jQ x0)] [.i .i64 r]) (a0 : gD) {r : Int} (h : gHc rec_iTypeSize a0 = some r) : jB Tryz.prog 42 [.d (jQ a0)] [.i .i64 r] := by
 obtain ⟨a0_0, a0_1, a0_2⟩ := a0
 unfold gHc at h
 refine SpI Tryz.func42 fun A _ => ?_
 refine goL ?_
 refine noB ?_
 refine gEk 7 (fun z3 => ?_)
 refine gCx (fun (y2 : Nat) (y1 : Int) => ⟨[(3, .I y1), (7, .L 3 (gJ a0_2)), (8, .I (a0_2.length : Int)), (9, .N y2)], [.box [.I a0_0, .S a0_1, .L 3 (gJ a0_2)]], Tryz.f42.ntmps⟩) (fun y2 y1 => yC rec_iTypeSize (a0_2.drop y2) y1 = some r) (fun y2 y1 => a0_2.length - y2) 0 1 eJ h ?_
 rintro y2 y1 h
 refine goL ?_
 refine kD (mF (fun c4 => ?_) (fun c4 => ?_))
 ·have hky22 := vO c4
  obtain ⟨x5, hx5, hdx5⟩ := drop_at hky22
  rw [hdx5, yC.eq_2] at h
  obtain ⟨x5_0, x5_1, x5_2⟩ := x5
  refine noS ?_
  refine kD (jC ?_)
  refine goL ?_
  refine jH (jJ y2 (gA5 hx5)) ?_
  obtain ⟨x6, hx6, h⟩ := gK h
  refine qQ (gF (hrec_iTypeSize (gD.mk x5_0 x5_1 x5_2) hx6)) ?_
  refine jH (qG) ?_
  refine jH (jT y2 (by omega)) ?_
  exact ⟨(y2 + 1), (IntKind.i64.wrap (y1 + x6)), h, by omega, eJ⟩
 ·have hky22 := vP c4
  rw [jE hky22, yC.eq_1] at h
  refine goX ?_
  refine jN ?_
  cases h
  exact qH
def gHd : Nat → gD → Option (Int)
 | 0, _ => none
 | n + 1, x0 => gHc (gHd n) x0
theorem gTm : ∀ (n : Nat) (x0 : gD) {r : Int}, gHd n x0 = some r → jB Tryz.prog 42 [.d (jQ x0)] [.i .i64 r] := by
 intro n
 induction n with
 | zero => intro x0 r h; cases h
 | succ n ih => intro x0 r h; exact gTl ih x0 h
theorem gIj {rec : gD → Option Int} : ∀ (xs : List gD) (y : Int), (∀ x ∈ xs, rec x = some (tsz x)) → yC rec xs y = some (hB7 xs y)
 | [], y, _ => rfl
 | x :: xs, y, h => by
   simp only [yC, h x (by simp), bnd, hB7]
   exact gIj xs _ (fun z hz => h z (by simp [hz]))
theorem gLs : ∀ (n : Nat) (t : gD), tnd t ≤ n → gHd n t = some (tsz t)
 | 0, t, h => by have := gCo t; omega
 | n + 1, ⟨k, s, ts⟩, h => by
   simp only [tnd] at h
   simp only [gHd, gHc, tsz]
   exact gIj ts 1 (fun x hx => gLs n x (by have := gA9 hx; omega))
theorem gTn (x0 : gD) : jB Tryz.prog 42 [.d (jQ x0)] [.i .i64 (tsz x0)] := gTm (tnd x0) x0 (gLs _ _ (Nat.le_refl _))
def yD (rec_sTypeSize : gD → Option (Int)) : List gD → Int → Option (Int)
 | [], y1 => (some y1)
 | x5 :: xs, y1 => bnd (rec_sTypeSize x5) fun x6 =>
yD rec_sTypeSize xs (IntKind.i64.wrap (y1 + x6))
def gHe (rec_sTypeSize : gD → Option (Int)) (a0 : gD) : Option (Int) :=
yD rec_sTypeSize a0.args 1
theorem gTo {rec_sTypeSize : gD → Option (Int)} (hrec_sTypeSize : ∀ (x0 : gD) {r : Int}, rec_sTypeSize x0 = some r → jB Tryz.prog 20 [.d (jQ x0)] [.i .i64 r]) (a0 : gD) {r : Int} (h : gHe rec_sTypeSize a0 = some r) : jB Tryz.prog 20 [.d (jQ a0)] [.i .i64 r] := by
 obtain ⟨a0_0, a0_1, a0_2⟩ := a0
 unfold gHe at h
 refine SpI Tryz.func20 fun A _ => ?_
 refine goL ?_
 refine noB ?_
 refine vJ 0 2 (fun z3 => ?_)
 refine gCx (fun (y2 : Nat) (y1 : Int) => ⟨[(1, .ptr 0 0), (3, .I y1), (4, .N y2)], [.box [.I a0_0, .S a0_1, .L 3 (gJ a0_2)]], Tryz.f20.ntmps⟩) (fun y2 y1 => yD rec_sTypeSize (a0_2.drop y2) y1 = some r) (fun y2 y1 => a0_2.length - y2) 0 1 eJ h ?_
 rintro y2 y1 h
 refine goL ?_
 refine mF (fun c4 => ?_) (fun c4 => ?_)
 ·have hky22 := vO c4
  obtain ⟨x5, hx5, hdx5⟩ := drop_at hky22
  rw [hdx5, yD.eq_2] at h
  obtain ⟨x5_0, x5_1, x5_2⟩ := x5
  refine noS ?_
  refine kD (jC ?_)
  refine goL ?_
  refine jH (jJ y2 (gA5 hx5)) ?_
  obtain ⟨x6, hx6, h⟩ := gK h
  refine qQ (gF (hrec_sTypeSize (gD.mk x5_0 x5_1 x5_2) hx6)) ?_
  refine jH (qG) ?_
  refine jH (jT y2 (by omega)) ?_
  exact ⟨(y2 + 1), (IntKind.i64.wrap (y1 + x6)), h, by omega, eJ⟩
 ·have hky22 := vP c4
  rw [jE hky22, yD.eq_1] at h
  refine goX ?_
  refine jN ?_
  cases h
  exact qH
def gHf : Nat → gD → Option (Int)
 | 0, _ => none
 | n + 1, x0 => gHe (gHf n) x0
theorem gTp : ∀ (n : Nat) (x0 : gD) {r : Int}, gHf n x0 = some r → jB Tryz.prog 20 [.d (jQ x0)] [.i .i64 r] := by
 intro n
 induction n with
 | zero => intro x0 r h; cases h
 | succ n ih => intro x0 r h; exact gTo ih x0 h
theorem gIk {rec : gD → Option Int} : ∀ (xs : List gD) (y : Int), (∀ x ∈ xs, rec x = some (tsz x)) → yD rec xs y = some (hB7 xs y)
 | [], y, _ => rfl
 | x :: xs, y, h => by
   simp only [yD, h x (by simp), bnd, hB7]
   exact gIk xs _ (fun z hz => h z (by simp [hz]))
theorem gLt : ∀ (n : Nat) (t : gD), tnd t ≤ n → gHf n t = some (tsz t)
 | 0, t, h => by have := gCo t; omega
 | n + 1, ⟨k, s, ts⟩, h => by
   simp only [tnd] at h
   simp only [gHf, gHe, tsz]
   exact gIk ts 1 (fun x hx => gLt n x (by have := gA9 hx; omega))
theorem gHg (x0 : gD) : jB Tryz.prog 20 [.d (jQ x0)] [.i .i64 (tsz x0)] := gTp (tnd x0) x0 (gLt _ _ (Nat.le_refl _))
def gAn (a1 : List UInt8) : List gH → Option (gD × Bool)
 | [] => (some ((gD.mk 0 [] []), false))
 | x4 :: xs => (cnd (x4.var_ == a1) (
gd (tok x4.type_) (lt_ (idT x4.type_) fun x7 =>
(some (x7, true)))) (
gAn a1 xs ))
def gKp (a0 : List gH) (a1 : List UInt8) : Option (gD × Bool) :=
gAn a1 a0
theorem gY8 (a0 : List gH) (a1 : List UInt8) {r : gD × Bool} (h : gKp a0 a1 = some r) : kR Tryz.prog 60 [.L 4 (gP a0), .S a1] [31] [jQ r.1, .b r.2] := by
 unfold gKp at h
 refine qJ Tryz.func60 rfl (by kernel_rfl) rfl (by simp) fun A _ => ?_
 refine goL ?_
 refine noB ?_
 refine gEk 8 (fun z2 => ?_)
 refine mY (fun (y1 : Nat) => ⟨[(1, .S a1), (4, .ptr 0 0), (8, .L 4 (gP a0)), (9, .I (a0.length : Int)), (10, .N y1)], [.box [.I 0, .S [], .nilsl]], Tryz.f60.ntmps⟩) (fun y1 => gAn a1 (a0.drop y1)  = some r) (fun y1 => a0.length - y1) 0 eJ h ?_
 rintro y1 h
 refine goL ?_
 refine kD (mF (fun c3 => ?_) (fun c3 => ?_))
 ·have hky12 := vO c3
  obtain ⟨x4, hx4, hdx4⟩ := drop_at hky12
  rw [hdx4, gAn.eq_2] at h
  obtain ⟨x4_0, ⟨x4_1_0, x4_1_1, x4_1_2⟩⟩ := x4
  refine noS ?_
  refine kD (jC ?_)
  refine goL ?_
  refine jH (jJ y1 (gIv hx4)) ?_
  refine mF (fun c5 => ?_) (fun c5 => ?_)
  ·replace h := gW c5 h
   refine goL ?_
   obtain ⟨g6, h⟩ := pF h
   obtain ⟨⟨x7_0, x7_1, x7_2⟩, hx7, h⟩ := qU h
   have sx7 := gNx (gD.mk x4_1_0 x4_1_1 x4_1_2) g6
   rw [hx7] at sx7
   refine gI7 (sx7) ?_
   refine goL ?_
   refine jN ?_
   obtain rfl := Option.some.inj h
   exact gOf
  ·replace h := gX c5 h
   refine goS ?_
   refine jH (jT y1 (by omega)) ?_
   exact ⟨(y1 + 1), h, by omega, eJ⟩
 ·have hky12 := vP c3
  rw [jE hky12, gAn.eq_1] at h
  refine goX ?_
  refine gFj (kE TBd.h TZ.h rfl (by repeat constructor)) ?_
  refine gXy 31 3 0 2 rfl rfl (by repeat constructor) (by repeat constructor) (by repeat constructor) (by repeat constructor) ?_
  refine jN ?_
  obtain rfl := Option.some.inj h
  exact gOf
def gMd (rec_iApply : (List gH) → gD → Option (gD)) (rec_iApplyAll : (List gH) → (List gD) → Option (List gD)) (a0 : List gH) (a1 : gD) : Option (gD) :=
(cnd (a1.kind == 1) (
bnd (gKp a0 a1.name) fun x2 =>
(cnd x2.2 (
(some x2.1)) (
bnd (rec_iApplyAll a0 a1.args) fun x4 =>
(some (gD.mk a1.kind a1.name x4))))) (
bnd (rec_iApplyAll a0 a1.args) fun x5 =>
(some (gD.mk a1.kind a1.name x5))))
theorem hB8 {rec_iApply : (List gH) → gD → Option (gD)} {rec_iApplyAll : (List gH) → (List gD) → Option (List gD)} (hrec_iApply : ∀ (x0 : List gH) (x1 : gD) {r : gD}, rec_iApply x0 x1 = some r → kR Tryz.prog 43 [.L 4 (gP x0), .d (jQ x1)] [31] [jQ r]) (hrec_iApplyAll : ∀ (x0 : List gH) (x1 : List gD) {r : List gD}, rec_iApplyAll x0 x1 = some r → kR Tryz.prog 61 [.L 4 (gP x0), .L 3 (gJ x1)] [31] [.sl 3 (gJ r)]) (a0 : List gH) (a1 : gD) {r : gD} (h : gMd rec_iApply rec_iApplyAll a0 a1 = some r) : kR Tryz.prog 43 [.L 4 (gP a0), .d (jQ a1)] [31] [jQ r] := by
 obtain ⟨a1_0, a1_1, a1_2⟩ := a1
 unfold gMd at h
 refine qJ Tryz.func43 rfl (by kernel_rfl) rfl (by simp) fun A _ => ?_
 refine goC h ?_ ?_<;>intro c1 h
 ·refine goL ?_
  obtain ⟨⟨⟨x2_0_0, x2_0_1, x2_0_2⟩, x2_1⟩, hx2, h⟩ := gK h
  refine gI7 (gY8 a0 a1_1 hx2) ?_
  refine goC h ?_ ?_<;>intro c3 h
  ·refine goL ?_
   refine jN ?_
   obtain rfl := Option.some.inj h
   exact gOf
  ·refine noS ?_
   refine jL (P := Tryz.prog) Mix.h [(0, true), (1, true), (2, true), (3, true), (4, true), (5, true), (6, true), (7, false), (8, true), (9, false)] (by kernel_rfl) ?_
   refine goY ?_
   obtain ⟨x4, hx4, h⟩ := gK h
   refine gS8 (hrec_iApplyAll a0 a1_2 hx4) ?_
   refine goY ?_
   refine kP ?_
   refine goL ?_
   refine jN ?_
   obtain rfl := Option.some.inj h
   exact gOf
 ·refine noS ?_
  refine jL (P := Tryz.prog) Mix.h [(0, true), (1, true), (2, true), (3, true), (4, true), (5, true), (6, true), (7, false), (8, true), (9, false)] (by kernel_rfl) ?_
  refine goY ?_
  obtain ⟨x5, hx5, h⟩ := gK h
  refine gS8 (hrec_iApplyAll a0 a1_2 hx5) ?_
  refine goY ?_
  refine kP ?_
  refine goL ?_
  refine jN ?_
  obtain rfl := Option.some.inj h
  exact gOf
def vU (rec_iApply : (List gH) → gD → Option (gD)) (a0 : List gH) : List gD → Nat → (List gD) → Option (List gD)
 | [], y4, y2 => (some y2)
 | x7 :: xs, y4, y2 => bnd (rec_iApply a0 x7) fun x8 =>
gd (y4 < y2.length) (
vU rec_iApply a0 xs (y4 + 1) (y2.set y4 x8))
def gHh (rec_iApply : (List gH) → gD → Option (gD)) (rec_iApplyAll : (List gH) → (List gD) → Option (List gD)) (a0 : List gH) (a1 : List gD) : Option (List gD) :=
gd (a1.length ≤ 4294967296) (
vU rec_iApply a0 a1 0 (List.replicate a1.length (gD.mk 0 [] [])))
theorem gTq {rec_iApply : (List gH) → gD → Option (gD)} {rec_iApplyAll : (List gH) → (List gD) → Option (List gD)} (hrec_iApply : ∀ (x0 : List gH) (x1 : gD) {r : gD}, rec_iApply x0 x1 = some r → kR Tryz.prog 43 [.L 4 (gP x0), .d (jQ x1)] [31] [jQ r]) (hrec_iApplyAll : ∀ (x0 : List gH) (x1 : List gD) {r : List gD}, rec_iApplyAll x0 x1 = some r → kR Tryz.prog 61 [.L 4 (gP x0), .L 3 (gJ x1)] [31] [.sl 3 (gJ r)]) (a0 : List gH) (a1 : List gD) {r : List gD} (h : gHh rec_iApply rec_iApplyAll a0 a1 = some r) : kR Tryz.prog 61 [.L 4 (gP a0), .L 3 (gJ a1)] [31] [.sl 3 (gJ r)] := by
 unfold gHh at h
 refine qJ Tryz.func61 rfl (by kernel_rfl) rfl (by simp) fun A _ => ?_
 refine goL ?_
 obtain ⟨g1, h⟩ := pF h
 refine hHb (gD.mk 0 [] []) g1 ?_
 refine goL ?_
 refine noB ?_
 refine gEk 11 (fun z5 => ?_)
 refine kQ (fun (y4 : Nat) (y2 : List gD) (v3 : Nat) => ⟨[(0, .L 4 (gP a0)), (5, .sl 0 v3), (11, .L 3 (gJ a1)), (12, .I (a1.length : Int)), (13, .N y4)], [.own 31 3 v3 (gJ y2)], Tryz.f61.ntmps⟩) (fun y4 y2 v3 => vU rec_iApply a0 (a1.drop y4) y4 y2 = some r) (fun y4 y2 v3 => a1.length - y4) 0 (List.replicate a1.length (gD.mk 0 [] [])) 0 eJ h ?_
 rintro y4 y2 v3 h
 refine goL ?_
 refine kD (mF (fun c6 => ?_) (fun c6 => ?_))
 ·have hky42 := vO c6
  obtain ⟨x7, hx7, hdx7⟩ := drop_at hky42
  rw [hdx7, vU.eq_2] at h
  obtain ⟨x7_0, x7_1, x7_2⟩ := x7
  refine noS ?_
  refine kD (jC ?_)
  refine goL ?_
  refine jH (jJ y4 (gA5 hx7)) ?_
  obtain ⟨⟨x8_0, x8_1, x8_2⟩, hx8, h⟩ := gK h
  refine gI7 (hrec_iApply a0 (gD.mk x7_0 x7_1 x7_2) hx8) ?_
  obtain ⟨g9, h⟩ := pF h
  refine gBm (hHe y4 g9) ?_
  refine hHf (gD.mk x8_0 x8_1 x8_2) g9 ?_
  refine goL ?_
  refine jH (jT y4 (by omega)) ?_
  exact ⟨(y4 + 1), (y2.set y4 (gD.mk x8_0 x8_1 x8_2)), v3, h, by omega, eJ⟩
 ·have hky42 := vP c6
  rw [jE hky42, vU.eq_1] at h
  refine goX ?_
  refine jN ?_
  obtain rfl := Option.some.inj h
  exact gOf
mutual
def gIz : Nat → (List gH) → gD → Option (gD)
 | 0, _, _ => none
 | n + 1, x0, x1 => gMd (gIz n) (gFm n) x0 x1
def gFm : Nat → (List gH) → (List gD) → Option (List gD)
 | 0, _, _ => none
 | n + 1, x0, x1 => gHh (gIz n) (gFm n) x0 x1
end
theorem gY9 : ∀ (n : Nat), (∀ (x0 : List gH) (x1 : gD) {r : gD}, gIz n x0 x1 = some r → kR Tryz.prog 43 [.L 4 (gP x0), .d (jQ x1)] [31] [jQ r]) ∧ (∀ (x0 : List gH) (x1 : List gD) {r : List gD}, gFm n x0 x1 = some r → kR Tryz.prog 61 [.L 4 (gP x0), .L 3 (gJ x1)] [31] [.sl 3 (gJ r)]) := by
 intro n
 induction n with
 | zero => exact ⟨(by intro x0 x1 r h; cases h), (by intro x0 x1 r h; cases h)⟩
 | succ n ih =>
   obtain ⟨ih0, ih1⟩ := ih
   refine ⟨(fun x0 x1 r h => hB8 ih0 ih1 x0 x1 h), (fun x0 x1 r h => gTq ih0 ih1 x0 x1 h)⟩
theorem hB9 : ∀ (n : Nat) (x0 : List gH) (x1 : gD) {r : gD}, gIz n x0 x1 = some r → kR Tryz.prog 43 [.L 4 (gP x0), .d (jQ x1)] [31] [jQ r] := fun n => (gY9 n).1
def gAo (a1 : List UInt8) : List gH → Option (gD × Bool)
 | [] => (some ((gD.mk 0 [] []), false))
 | x4 :: xs => (cnd (x4.var_ == a1) (
gd (tok x4.type_) (lt_ (idT x4.type_) fun x7 =>
(some (x7, true)))) (
gAo a1 xs ))
def gDy (a0 : List gH) (a1 : List UInt8) : Option (gD × Bool) :=
gAo a1 a0
theorem gN1 (a0 : List gH) (a1 : List UInt8) {r : gD × Bool} (h : gDy a0 a1 = some r) : kR Tryz.prog 45 [.L 4 (gP a0), .S a1] [31] [jQ r.1, .b r.2] := by
 unfold gDy at h
 refine qJ Tryz.func45 rfl (by kernel_rfl) rfl (by simp) fun A _ => ?_
 refine goL ?_
 refine noB ?_
 refine gEk 0 (fun z2 => ?_)
 refine mY (fun (y1 : Nat) => ⟨[(0, .L 4 (gP a0)), (1, .S a1), (4, .ptr 0 0), (6, .N y1)], [.box [.I 0, .S [], .nilsl]], Tryz.f45.ntmps⟩) (fun y1 => gAo a1 (a0.drop y1)  = some r) (fun y1 => a0.length - y1) 0 eJ h ?_
 rintro y1 h
 refine goL ?_
 refine mF (fun c3 => ?_) (fun c3 => ?_)
 ·have hky12 := vO c3
  obtain ⟨x4, hx4, hdx4⟩ := drop_at hky12
  rw [hdx4, gAo.eq_2] at h
  obtain ⟨x4_0, ⟨x4_1_0, x4_1_1, x4_1_2⟩⟩ := x4
  refine noS ?_
  refine kD (jC ?_)
  refine goL ?_
  refine jH (jJ y1 (gIv hx4)) ?_
  refine mF (fun c5 => ?_) (fun c5 => ?_)
  ·replace h := gW c5 h
   refine goL ?_
   refine jH (jJ y1 (gIv hx4)) ?_
   obtain ⟨g6, h⟩ := pF h
   obtain ⟨⟨x7_0, x7_1, x7_2⟩, hx7, h⟩ := qU h
   have sx7 := yB (gD.mk x4_1_0 x4_1_1 x4_1_2) g6
   rw [hx7] at sx7
   refine gI7 (sx7) ?_
   refine goL ?_
   refine jN ?_
   obtain rfl := Option.some.inj h
   exact gOf
  ·replace h := gX c5 h
   refine goS ?_
   refine jH (jT y1 (by omega)) ?_
   exact ⟨(y1 + 1), h, by omega, eJ⟩
 ·have hky12 := vP c3
  rw [jE hky12, gAo.eq_1] at h
  refine goX ?_
  refine gFj (kE TBd.h TZ.h rfl (by repeat constructor)) ?_
  refine gXy 31 3 0 2 rfl rfl (by repeat constructor) (by repeat constructor) (by repeat constructor) (by repeat constructor) ?_
  refine jN ?_
  obtain rfl := Option.some.inj h
  exact gOf
def gMe (rec_sApply : (List gH) → gD → Option (gD)) (rec_sApplyAll : (List gH) → (List gD) → Option (List gD)) (a0 : List gH) (a1 : gD) : Option (gD) :=
(cnd (a1.kind == 1) (
bnd (gDy a0 a1.name) fun x2 =>
(cnd x2.2 (
(some x2.1)) (
bnd (rec_sApplyAll a0 a1.args) fun x4 =>
(some (gD.mk a1.kind a1.name x4))))) (
bnd (rec_sApplyAll a0 a1.args) fun x5 =>
(some (gD.mk a1.kind a1.name x5))))
theorem hCa {rec_sApply : (List gH) → gD → Option (gD)} {rec_sApplyAll : (List gH) → (List gD) → Option (List gD)} (hrec_sApply : ∀ (x0 : List gH) (x1 : gD) {r : gD}, rec_sApply x0 x1 = some r → kR Tryz.prog 21 [.L 4 (gP x0), .d (jQ x1)] [31] [jQ r]) (hrec_sApplyAll : ∀ (x0 : List gH) (x1 : List gD) {r : List gD}, rec_sApplyAll x0 x1 = some r → kR Tryz.prog 46 [.L 4 (gP x0), .L 3 (gJ x1)] [31] [.sl 3 (gJ r)]) (a0 : List gH) (a1 : gD) {r : gD} (h : gMe rec_sApply rec_sApplyAll a0 a1 = some r) : kR Tryz.prog 21 [.L 4 (gP a0), .d (jQ a1)] [31] [jQ r] := by
 obtain ⟨a1_0, a1_1, a1_2⟩ := a1
 unfold gMe at h
 refine qJ Tryz.func21 rfl (by kernel_rfl) rfl (by simp) fun A _ => ?_
 refine goC h ?_ ?_<;>intro c1 h
 ·refine goL ?_
  obtain ⟨⟨⟨x2_0_0, x2_0_1, x2_0_2⟩, x2_1⟩, hx2, h⟩ := gK h
  refine gI7 (gN1 a0 a1_1 hx2) ?_
  refine goC h ?_ ?_<;>intro c3 h
  ·refine goL ?_
   refine jN ?_
   obtain rfl := Option.some.inj h
   exact gOf
  ·refine noS ?_
   refine jL (P := Tryz.prog) Mix.h [(0, true), (1, true), (2, true), (3, true), (4, true), (5, true), (6, true), (7, false), (8, true), (9, false)] (by kernel_rfl) ?_
   refine goY ?_
   obtain ⟨x4, hx4, h⟩ := gK h
   refine gS8 (hrec_sApplyAll a0 a1_2 hx4) ?_
   refine goY ?_
   refine kP ?_
   refine goL ?_
   refine jN ?_
   obtain rfl := Option.some.inj h
   exact gOf
 ·refine noS ?_
  refine jL (P := Tryz.prog) Mix.h [(0, true), (1, true), (2, true), (3, true), (4, true), (5, true), (6, true), (7, false), (8, true), (9, false)] (by kernel_rfl) ?_
  refine goY ?_
  obtain ⟨x5, hx5, h⟩ := gK h
  refine gS8 (hrec_sApplyAll a0 a1_2 hx5) ?_
  refine goY ?_
  refine kP ?_
  refine goL ?_
  refine jN ?_
  obtain rfl := Option.some.inj h
  exact gOf
def vV (rec_sApply : (List gH) → gD → Option (gD)) (a0 : List gH) : List gD → (List gD) → Option (List gD)
 | [], y1 => (some y1)
 | x6 :: xs, y1 => bnd (rec_sApply a0 x6) fun x7 =>
gd (y1.length + [x7].length ≤ 4294967296) (
vV rec_sApply a0 xs (y1 ++ [x7]))
def gHi (rec_sApply : (List gH) → gD → Option (gD)) (rec_sApplyAll : (List gH) → (List gD) → Option (List gD)) (a0 : List gH) (a1 : List gD) : Option (List gD) :=
vV rec_sApply a0 a1 []
theorem gTr {rec_sApply : (List gH) → gD → Option (gD)} {rec_sApplyAll : (List gH) → (List gD) → Option (List gD)} (hrec_sApply : ∀ (x0 : List gH) (x1 : gD) {r : gD}, rec_sApply x0 x1 = some r → kR Tryz.prog 21 [.L 4 (gP x0), .d (jQ x1)] [31] [jQ r]) (hrec_sApplyAll : ∀ (x0 : List gH) (x1 : List gD) {r : List gD}, rec_sApplyAll x0 x1 = some r → kR Tryz.prog 46 [.L 4 (gP x0), .L 3 (gJ x1)] [31] [.sl 3 (gJ r)]) (a0 : List gH) (a1 : List gD) {r : List gD} (h : gHi rec_sApply rec_sApplyAll a0 a1 = some r) : kR Tryz.prog 46 [.L 4 (gP a0), .L 3 (gJ a1)] [31] [.sl 3 (gJ r)] := by
 unfold gHi at h
 refine qJ Tryz.func46 rfl (by kernel_rfl) rfl (by simp) fun A _ => ?_
 refine goL ?_
 refine gFh ?_
 refine goL ?_
 refine noB ?_
 refine gEk 1 (fun z4 => ?_)
 refine kQ (fun (y3 : Nat) (y1 : List gD) (v2 : Nat) => ⟨[(0, .L 4 (gP a0)), (1, .L 3 (gJ a1)), (5, .sl 0 v2), (6, .N y3)], [.own 31 3 v2 (gJ y1)], Tryz.f46.ntmps⟩) (fun y3 y1 v2 => vV rec_sApply a0 (a1.drop y3) y1 = some r) (fun y3 y1 v2 => a1.length - y3) 0 [] 0 eJ h ?_
 rintro y3 y1 v2 h
 refine goL ?_
 refine mF (fun c5 => ?_) (fun c5 => ?_)
 ·have hky32 := vO c5
  obtain ⟨x6, hx6, hdx6⟩ := drop_at hky32
  rw [hdx6, vV.eq_2] at h
  obtain ⟨x6_0, x6_1, x6_2⟩ := x6
  refine noS ?_
  refine kD (jC ?_)
  refine goL ?_
  refine jH (jJ y3 (gA5 hx6)) ?_
  obtain ⟨⟨x7_0, x7_1, x7_2⟩, hx7, h⟩ := gK h
  refine gI7 (hrec_sApply a0 (gD.mk x6_0 x6_1 x6_2) hx7) ?_
  refine gA7 (gD.mk x7_0 x7_1 x7_2) ?_
  obtain ⟨g8, h⟩ := pF h
  refine gGo g8 ?_
  refine goL ?_
  refine jH (jT y3 (by omega)) ?_
  exact ⟨(y3 + 1), (y1 ++ [(gD.mk x7_0 x7_1 x7_2)]), (v2 + 1), h, by omega, eJ⟩
 ·have hky32 := vP c5
  rw [jE hky32, vV.eq_1] at h
  refine goX ?_
  refine jN ?_
  obtain rfl := Option.some.inj h
  exact gOf
mutual
def gI0 : Nat → (List gH) → gD → Option (gD)
 | 0, _, _ => none
 | n + 1, x0, x1 => gMe (gI0 n) (gFn n) x0 x1
def gFn : Nat → (List gH) → (List gD) → Option (List gD)
 | 0, _, _ => none
 | n + 1, x0, x1 => gHi (gI0 n) (gFn n) x0 x1
end
theorem gZa : ∀ (n : Nat), (∀ (x0 : List gH) (x1 : gD) {r : gD}, gI0 n x0 x1 = some r → kR Tryz.prog 21 [.L 4 (gP x0), .d (jQ x1)] [31] [jQ r]) ∧ (∀ (x0 : List gH) (x1 : List gD) {r : List gD}, gFn n x0 x1 = some r → kR Tryz.prog 46 [.L 4 (gP x0), .L 3 (gJ x1)] [31] [.sl 3 (gJ r)]) := by
 intro n
 induction n with
 | zero => exact ⟨(by intro x0 x1 r h; cases h), (by intro x0 x1 r h; cases h)⟩
 | succ n ih =>
   obtain ⟨ih0, ih1⟩ := ih
   refine ⟨(fun x0 x1 r h => hCa ih0 ih1 x0 x1 h), (fun x0 x1 r h => gTr ih0 ih1 x0 x1 h)⟩
theorem hCb : ∀ (n : Nat) (x0 : List gH) (x1 : gD) {r : gD}, gI0 n x0 x1 = some r → kR Tryz.prog 21 [.L 4 (gP x0), .d (jQ x1)] [31] [jQ r] := fun n => (gZa n).1
def lkp (v : List UInt8) : List gH → gD × Bool
 | [] => (⟨0, [], []⟩, false)
 | b :: l => cnd (b.var_ == v) (b.type_, true) (lkp v l)
def bok (l : List gH) : Prop := ∀ b ∈ l, tok b.type_
instance (l : List gH) : Decidable (bok l) := inferInstanceAs (Decidable (∀ b ∈ l, tok b.type_))
theorem gJu (k : Int) (n : List UInt8) : tok ⟨k, n, []⟩ := by simp [tok, gQh]
theorem gQk {v : List UInt8} : ∀ {l : List gH}, (lkp v l).2 = true → ∃ b ∈ l, b.var_ = v ∧ (lkp v l).1 = b.type_
 | [], h => by cases h
 | b :: l, h => by
   simp only [lkp] at h ⊢
   cases hb : b.var_ == v with
   | true => exact ⟨b, by simp, by simpa using hb, rfl⟩
   | false =>
     rw [hb] at h
     obtain ⟨c, h1, h2, h3⟩ := gQk (l := l) h
     exact ⟨c, by simp [h1], h2, h3⟩
theorem gZb {v : List UInt8} : ∀ {l : List gH}, (lkp v l).2 = false → (lkp v l).1 = ⟨0, [], []⟩
 | [], h => rfl
 | b :: l, h => by
   simp only [lkp] at h ⊢
   cases hb : b.var_ == v with
   | true => rw [hb] at h; cases h
   | false => rw [hb] at h; exact gZb (l := l) h
theorem hFc {v : List UInt8} {l : List gH} (h : bok l) : tok (lkp v l).1 := by
 cases hb : (lkp v l).2 with
 | true =>
   obtain ⟨b, h1, _, h3⟩ := gQk hb
   rw [h3]
   exact h b h1
 | false => rw [gZb hb]; exact gJu _ _
mutual
def apT (l : List gH) : gD → gD
 | ⟨k, n, ts⟩ => cnd (k == 1) (cnd (lkp n l).2 (lkp n l).1 ⟨k, n, gMf l ts⟩) ⟨k, n, gMf l ts⟩
def gMf (l : List gH) : List gD → List gD
 | [] => []
 | a :: ts => apT l a :: gMf l ts
end
theorem gMg (l : List gH) : ∀ ts : List gD, gMf l ts = ts.map (apT l)
 | [] => rfl
 | a :: ts => by simp only [gMf, List.map_cons, gMg l ts]
theorem gUz (l : List gH) (ts : List gD) : (gMf l ts).length = ts.length := by rw [gMg, List.length_map]
theorem gKq (v : List UInt8) : ∀ (l : List gH), bok l → gAn v l = some (lkp v l)
 | [], _ => rfl
 | b :: l, h => by
   simp only [gAn, lkp]
   rw [pQ (h b (by simp)), gKq v l (fun c hc => h c (by simp [hc]))]
   cases b.var_ == v <;> rfl
theorem gEm (v : List UInt8) : ∀ (l : List gH), bok l → gAo v l = some (lkp v l)
 | [], _ => rfl
 | b :: l, h => by
   simp only [gAo, lkp]
   rw [pQ (h b (by simp)), gEm v l (fun c hc => h c (by simp [hc]))]
   cases b.var_ == v <;> rfl
theorem gIl {rec : List gH → gD → Option gD} (l : List gH) (f : gD → gD) : ∀ (xs : List gD) (k : Nat) (y : List gD), (∀ x ∈ xs, rec l x = some (f x)) → y.length = k + xs.length → vU rec l xs k y = some (y.take k ++ xs.map f)
 | [], k, y, _, h => by
   simp only [vU, List.map_nil, List.append_nil]
   rw [List.take_of_length_le (by simp at h; omega)]
 | x :: xs, k, y, h1, h2 => by
   simp only [vU]
   rw [h1 x (by simp)]
   simp only [bnd, List.length_cons] at h2 ⊢
   rw [pQ (by omega), gIl l f xs (k + 1) _ (fun z hz => h1 z (by simp [hz])) (by simp; omega), gKo (by omega)]
   simp
theorem gR7 : ∀ (n : Nat), (∀ (l : List gH) (t : gD), bok l → tok t → 2 * tnd t ≤ n → gIz n l t = some (apT l t)) ∧ (∀ (l : List gH) (ts : List gD), bok l → hDt ts → 2 * gA8 ts + 1 ≤ n → gFm n l ts = some (gMf l ts))
 | 0 => ⟨fun _ t _ _ h => by have := gCo t; omega, fun _ ts _ _ h => by omega⟩
 | n + 1 => by
   obtain ⟨h1, h2⟩ := gR7 n
   refine ⟨fun l t hl ht hn => ?_, fun l ts hl ht hn => ?_⟩
   ·obtain ⟨k, s, ts⟩ := t
    simp only [tnd] at hn
    simp only [gIz, gMd, gKp, apT]
    rw [h2 l ts hl (by simpa only [tok, hDt] using ht) (by omega), gKq s l hl]
    simp only [bnd]
    cases k == 1 <;> cases (lkp s l).2 <;> rfl
   ·simp only [gFm, gHh]
    rw [pQ ht.1, gIl l (apT l) ts 0 _ (fun x hx => h1 l x hl (gF3.1 ht.2 x hx) (by have := gA9 hx; omega)) (by simp)]
    simp [gMg]
theorem gIm {rec : List gH → gD → Option gD} (l : List gH) (f : gD → gD) : ∀ (xs : List gD) (y : List gD), (∀ x ∈ xs, rec l x = some (f x)) → y.length + xs.length ≤ 4294967296 → vV rec l xs y = some (y ++ xs.map f)
 | [], y, _, h => by simp [vV]
 | x :: xs, y, h1, h2 => by
   simp only [vV]
   rw [h1 x (by simp)]
   simp only [bnd, List.length_cons, List.length_nil] at h2 ⊢
   rw [pQ (by omega), gIm l f xs _ (fun z hz => h1 z (by simp [hz])) (by simp; omega)]
   simp
theorem gR8 : ∀ (n : Nat), (∀ (l : List gH) (t : gD), bok l → tok t → 2 * tnd t ≤ n → gI0 n l t = some (apT l t)) ∧ (∀ (l : List gH) (ts : List gD), bok l → hDt ts → 2 * gA8 ts + 1 ≤ n → gFn n l ts = some (gMf l ts))
 | 0 => ⟨fun _ t _ _ h => by have := gCo t; omega, fun _ ts _ _ h => by omega⟩
 | n + 1 => by
   obtain ⟨h1, h2⟩ := gR8 n
   refine ⟨fun l t hl ht hn => ?_, fun l ts hl ht hn => ?_⟩
   ·obtain ⟨k, s, ts⟩ := t
    simp only [tnd] at hn
    simp only [gI0, gMe, gDy, apT]
    rw [h2 l ts hl (by simpa only [tok, hDt] using ht) (by omega), gEm s l hl]
    simp only [bnd]
    cases k == 1 <;> cases (lkp s l).2 <;> rfl
   ·simp only [gFn, gHi]
    rw [gIm l (apT l) ts _ (fun x hx => h1 l x hl (gF3.1 ht.2 x hx) (by have := gA9 hx; omega)) (by simpa using ht.1)]
    simp [gMg]
mutual
theorem gTs {l : List gH} (hl : bok l) : ∀ (t : gD), tok t → tok (apT l t)
 | ⟨k, n, ts⟩, h => by
   simp only [tok] at h
   have h1 := gU0 hl ts h.2
   have h2 : tok ⟨k, n, gMf l ts⟩ := by simp only [tok, gUz]; exact ⟨h.1, h1⟩
   simp only [apT]
   cases k == 1 with
   | false => exact h2
   | true =>
     simp only [jI]
     cases (lkp n l).2 with
     | false => exact h2
     | true => exact hFc hl
theorem gU0 {l : List gH} (hl : bok l) : ∀ (ts : List gD), gQh ts → gQh (gMf l ts)
 | [], _ => by simp [gMf, gQh]
 | a :: ts, h => by
   simp only [gQh] at h
   simp only [gMf, gQh]
   exact ⟨gTs hl a h.1, gU0 hl ts h.2⟩
end
def gWo (M : Nat) (l : List gH) : Prop := 1 ≤ M ∧ ∀ b ∈ l, tnd b.type_ ≤ M
theorem hFd {M : Nat} {v : List UInt8} {l : List gH} (h : gWo M l) : tnd (lkp v l).1 ≤ M := by
 cases hb : (lkp v l).2 with
 | true =>
   obtain ⟨b, h1, _, h3⟩ := gQk hb
   rw [h3]
   exact h.2 b h1
 | false => rw [gZb hb]; simp only [tnd, gA8]; exact h.1
mutual
theorem gTt {M : Nat} {l : List gH} (hl : gWo M l) : ∀ (t : gD), tnd (apT l t) ≤ M * tnd t
 | ⟨k, n, ts⟩ => by
   have h1 := gU1 hl ts
   have h0 := hl.1
   have h2 : tnd ⟨k, n, gMf l ts⟩ ≤ M * (1 + gA8 ts) := by
    simp only [tnd, Nat.mul_add]
    omega
   have h3 : tnd (lkp n l).1 ≤ M * (1 + gA8 ts) := by
    have := hFd (v := n) hl
    rw [Nat.mul_add]
    omega
   simp only [apT]
   cases k == 1 with
   | false => exact h2
   | true =>
     simp only [jI]
     cases (lkp n l).2 with
     | false => exact h2
     | true => exact h3
theorem gU1 {M : Nat} {l : List gH} (hl : gWo M l) : ∀ (ts : List gD), gA8 (gMf l ts) ≤ M * gA8 ts
 | [] => by simp [gMf, gA8]
 | a :: ts => by
   have h1 := gTt hl a
   have h2 := gU1 hl ts
   simp only [gMf, gA8, Nat.mul_add]
   omega
end
theorem hCc (x0 : List gH) (x1 : gD) (h : bok x0 ∧ tok x1) : kR Tryz.prog 43 [.L 4 (gP x0), .d (jQ x1)] [31] [jQ (apT x0 x1)] := hB9 (2 * tnd x1) x0 x1 ((gR7 _).1 _ _ h.1 h.2 (Nat.le_refl _))
theorem gQl (x0 : List gH) (x1 : gD) (h : bok x0 ∧ tok x1) : kR Tryz.prog 21 [.L 4 (gP x0), .d (jQ x1)] [31] [jQ (apT x0 x1)] := hCb (2 * tnd x1) x0 x1 ((gR8 _).1 _ _ h.1 h.2 (Nat.le_refl _))
end Go.Proofs.YtfaplndgbgoaaaaGreat
