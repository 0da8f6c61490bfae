/- Fs1. Written by a program of mine (aw.py). -/
import Derived.Test.YthojhakapbfbiaaDoorFacts
import Derived.Test.YthojhakapbfbiaaDoorEng51
import Derived.Test.YthojhakapbfbiaaDoorDr1
set_option linter.unusedVariables false
set_option linter.unusedSimpArgs false
set_option linter.unusedSectionVars false
namespace Go.Proofs.YthojhakapbfbiaaDoor
open Go Go.Eng
attribute [local irreducible] V VO VQ VY Quiet QR SpecP SpecO MSpec Rng PostP PostO PostG
/-! ### types, by hand -/
mutual
def tnd : TType → Nat
  | ⟨_, _, ts⟩ => 1 + tnds ts
def tnds : List TType → Nat
  | [] => 0
  | a :: ts => tnd a + tnds ts
end
mutual
/-- No list in it is longer than 2^32. -/
def tok : TType → Prop
  | ⟨_, _, ts⟩ => ts.length ≤ 4294967296 ∧ tall ts
def tall : List TType → Prop
  | [] => True
  | a :: ts => tok a ∧ tall ts
end
def tsok (ts : List TType) : Prop := ts.length ≤ 4294967296 ∧ tall ts
theorem tall_iff : ∀ {ts : List TType}, tall ts ↔ ∀ t ∈ ts, tok t
  | [] => by simp [tall]
  | a :: ts => by simp [tall, tall_iff (ts := ts)]
theorem tnd_mem {x : TType} : ∀ {ts : List TType}, x ∈ ts → tnd x ≤ tnds ts
  | [], h => by simp at h
  | a :: ts, h => by
    simp only [tnds]
    rcases List.mem_cons.1 h with rfl | h
    · omega
    · have := tnd_mem h
      omega
theorem tnd_pos (t : TType) : 1 ≤ tnd t := by cases t; simp only [tnd]; omega
def idT (t : TType) : TType := t
def idTs (t : List TType) : List TType := t
mutual
def tokB : TType → Bool
  | ⟨_, _, ts⟩ => decide (ts.length ≤ 4294967296) && tallB ts
def tallB : List TType → Bool
  | [] => true
  | a :: ts => tokB a && tallB ts
end
mutual
theorem tokB_iff : ∀ (t : TType), tokB t = true ↔ tok t
  | ⟨k, n, ts⟩ => by simp only [tokB, tok, Bool.and_eq_true, decide_eq_true_eq, tallB_iff ts]
theorem tallB_iff : ∀ (ts : List TType), tallB ts = true ↔ tall ts
  | [] => by simp [tallB, tall]
  | a :: ts => by simp only [tallB, tall, Bool.and_eq_true, tokB_iff a, tallB_iff ts]
end
instance (t : TType) : Decidable (tok t) := decidable_of_iff _ (tokB_iff t)
instance (ts : List TType) : Decidable (tall ts) := decidable_of_iff _ (tallB_iff ts)
instance (ts : List TType) : Decidable (tsok ts) := inferInstanceAs (Decidable (_ ∧ _))

def b_iCopyType (rec_iCopyType : TType → Option (TType)) (rec_iCopyTypes : (List TType) → Option (List TType)) (a0 : TType) : Option (TType) :=
bnd (rec_iCopyTypes a0.args) fun x1 =>
(some (TType.mk a0.kind a0.name x1))
set_option maxHeartbeats 4000000 in
theorem w_iCopyType {rec_iCopyType : TType → Option (TType)} {rec_iCopyTypes : (List TType) → Option (List TType)} (hrec_iCopyType : ∀ (x0 : TType) {r : TType}, rec_iCopyType x0 = some r → SpecO Tryd.prog 74 [.d (eType x0)] [35] [eType r]) (hrec_iCopyTypes : ∀ (x0 : List TType) {r : List TType}, rec_iCopyTypes x0 = some r → SpecO Tryd.prog 100 [.d (.sl 3 (eTypes x0))] [35] [.sl 3 (eTypes r)]) (a0 : TType) {r : TType} (h : b_iCopyType rec_iCopyType rec_iCopyTypes a0 = some r) : SpecO Tryd.prog 74 [.d (eType a0)] [35] [eType r] := by
  obtain ⟨a0_0, a0_1, a0_2⟩ := a0
  unfold b_iCopyType at h
  refine SpecO_intro Tryd.func74 rfl (by kernel_rfl) rfl (by simp) fun A _ => ?_
  refine goL ?_
  obtain ⟨x1, hx1, h⟩ := bnd_s h
  refine VO_co (hrec_iCopyTypes a0_2 hx1) ?_
  refine goL ?_
  refine V_ret ?_
  replace h := Option.some.inj h
  subst h
  exact R_rO
def b_iCopyTypes_l1 (rec_iCopyType : TType → Option (TType)) : List TType → Nat → (List TType) → Option (List TType)
  | [], y4, y2 => (some y2)
  | x7 :: xs, y4, y2 => bnd (rec_iCopyType x7) fun x8 =>
gd (y4 < y2.length) (
b_iCopyTypes_l1 rec_iCopyType xs (y4 + 1) (y2.set y4 x8))
def b_iCopyTypes (rec_iCopyType : TType → Option (TType)) (rec_iCopyTypes : (List TType) → Option (List TType)) (a0 : List TType) : Option (List TType) :=
gd (a0.length ≤ 4294967296) (
b_iCopyTypes_l1 rec_iCopyType a0 0 (List.replicate a0.length (TType.mk 0 [] [])))
set_option maxHeartbeats 4000000 in
theorem w_iCopyTypes {rec_iCopyType : TType → Option (TType)} {rec_iCopyTypes : (List TType) → Option (List TType)} (hrec_iCopyType : ∀ (x0 : TType) {r : TType}, rec_iCopyType x0 = some r → SpecO Tryd.prog 74 [.d (eType x0)] [35] [eType r]) (hrec_iCopyTypes : ∀ (x0 : List TType) {r : List TType}, rec_iCopyTypes x0 = some r → SpecO Tryd.prog 100 [.d (.sl 3 (eTypes x0))] [35] [.sl 3 (eTypes r)]) (a0 : List TType) {r : List TType} (h : b_iCopyTypes rec_iCopyType rec_iCopyTypes a0 = some r) : SpecO Tryd.prog 100 [.d (.sl 3 (eTypes a0))] [35] [.sl 3 (eTypes r)] := by
  unfold b_iCopyTypes at h
  refine SpecO_intro Tryd.func100 rfl (by kernel_rfl) rfl (by simp) fun A _ => ?_
  refine goL ?_
  obtain ⟨g1, h⟩ := gd_s h
  refine VO_mk (TType.mk 0 [] []) g1 ?_
  refine goL ?_
  refine V_block ?_
  show V _ _ _ _ _
  refine V_bd 9 (fun z5 => ?_)
  refine V_loop3 (fun (y4 : Nat) (y2 : List TType) (v3 : Nat) => ⟨[(3, .sl 0 v3), (9, .d (.sl 3 (eTypes a0))), (10, .d (.i .i64 (a0.length : Int))), (11, .d (.i .i64 (y4 : Int)))], [.own 35 3 v3 (eTypes y2)], Tryd.f100.ntmps⟩) (fun y4 y2 v3 => b_iCopyTypes_l1 rec_iCopyType (a0.drop y4) y4 y2 = some r) (fun y4 y2 v3 => a0.length - y4) 0 (List.replicate a0.length (TType.mk 0 [] [])) 0 ⟨rfl, ⟨⟨rfl, rfl⟩, ⟨rfl, rfl⟩, ⟨rfl, rfl⟩, ⟨rfl, rfl⟩, trivial⟩, ⟨[], rfl⟩, rfl⟩ h ?_
  rintro y4 y2 v3 h
  refine goL ?_
  refine V_seq (V_cb (fun c6 => ?_) (fun c6 => ?_))
  · have hky42 := kltN c6
    obtain ⟨x7, hx7, hdx7⟩ := drop_at hky42
    rw [hdx7, b_iCopyTypes_l1.eq_2] at h
    obtain ⟨x7_0, x7_1, x7_2⟩ := x7
    refine V_skip ?_
    show V _ _ _ _ _
    refine V_seq (V_block ?_)
    refine goL ?_
    refine VO_r (QR_ixn y4 (gType hx7)) ?_
    refine goL ?_
    obtain ⟨x8, hx8, h⟩ := bnd_s h
    obtain ⟨x8_0, x8_1, x8_2⟩ := x8
    refine VO_co (hrec_iCopyType (TType.mk x7_0 x7_1 x7_2) hx8) ?_
    obtain ⟨g9, h⟩ := gd_s h
    refine VO_k (Q_ixo y4 g9) ?_
    refine VO_st (TType.mk x8_0 x8_1 x8_2) g9 ?_
    refine goL ?_
    refine VO_r (QR_inc y4 (by omega)) ?_
    refine goL ?_
    exact ⟨(y4 + 1), (y2.set y4 (TType.mk x8_0 x8_1 x8_2)), v3, h, by omega, ⟨rfl, ⟨⟨rfl, rfl⟩, ⟨rfl, rfl⟩, ⟨rfl, rfl⟩, ⟨rfl, rfl⟩, trivial⟩, ⟨_, rfl⟩, rfl⟩⟩
  · have hky42 := kgeN c6
    rw [drop_end hky42, b_iCopyTypes_l1.eq_1] at h
    refine V_exit ?_
    show V _ _ _ _ _
    refine goL ?_
    refine V_ret ?_
    replace h := Option.some.inj h
    subst h
    exact R_rO
mutual
def m_iCopyType : Nat → TType → Option (TType)
  | 0, _ => none
  | n + 1, x0 => b_iCopyType (m_iCopyType n) (m_iCopyTypes n) x0
def m_iCopyTypes : Nat → (List TType) → Option (List TType)
  | 0, _ => none
  | n + 1, x0 => b_iCopyTypes (m_iCopyType n) (m_iCopyTypes n) x0
end
theorem ss_iCopyType : ∀ (n : Nat), (∀ (x0 : TType) {r : TType}, m_iCopyType n x0 = some r → SpecO Tryd.prog 74 [.d (eType x0)] [35] [eType r]) ∧ (∀ (x0 : List TType) {r : List TType}, m_iCopyTypes n x0 = some r → SpecO Tryd.prog 100 [.d (.sl 3 (eTypes x0))] [35] [.sl 3 (eTypes r)]) := by
  intro n
  induction n with
  | zero => exact ⟨(by intro x0 r h; cases h), (by intro x0 r h; cases h)⟩
  | succ n ih =>
    obtain ⟨ih0, ih1⟩ := ih
    refine ⟨(fun x0 r h => w_iCopyType ih0 ih1 x0 h), (fun x0 r h => w_iCopyTypes ih0 ih1 x0 h)⟩
theorem s_iCopyType : ∀ (n : Nat) (x0 : TType) {r : TType}, m_iCopyType n x0 = some r → SpecO Tryd.prog 74 [.d (eType x0)] [35] [eType r] := fun n => (ss_iCopyType n).1
theorem s_iCopyTypes : ∀ (n : Nat) (x0 : List TType) {r : List TType}, m_iCopyTypes n x0 = some r → SpecO Tryd.prog 100 [.d (.sl 3 (eTypes x0))] [35] [.sl 3 (eTypes r)] := fun n => (ss_iCopyType n).2
def b_sCopyType (rec_sCopyType : TType → Option (TType)) (rec_sCopyTypes : (List TType) → Option (List TType)) (a0 : TType) : Option (TType) :=
bnd (rec_sCopyTypes a0.args) fun x1 =>
(some (TType.mk a0.kind a0.name x1))
set_option maxHeartbeats 4000000 in
theorem w_sCopyType {rec_sCopyType : TType → Option (TType)} {rec_sCopyTypes : (List TType) → Option (List TType)} (hrec_sCopyType : ∀ (x0 : TType) {r : TType}, rec_sCopyType x0 = some r → SpecO Tryd.prog 69 [.d (eType x0)] [35] [eType r]) (hrec_sCopyTypes : ∀ (x0 : List TType) {r : List TType}, rec_sCopyTypes x0 = some r → SpecO Tryd.prog 96 [.d (.sl 3 (eTypes x0))] [35] [.sl 3 (eTypes r)]) (a0 : TType) {r : TType} (h : b_sCopyType rec_sCopyType rec_sCopyTypes a0 = some r) : SpecO Tryd.prog 69 [.d (eType a0)] [35] [eType r] := by
  obtain ⟨a0_0, a0_1, a0_2⟩ := a0
  unfold b_sCopyType at h
  refine SpecO_intro Tryd.func69 rfl (by kernel_rfl) rfl (by simp) fun A _ => ?_
  refine goNL ?_
  refine V_seq_drawX (P := Tryd.prog) Mix.h [(0, true), (1, true), (2, true), (3, true), (4, true), (5, true), (6, false), (7, true), (8, false)] (by kernel_rfl) ?_
  refine goY ?_
  obtain ⟨x1, hx1, h⟩ := bnd_s h
  refine VY_co (hrec_sCopyTypes a0_2 hx1) ?_
  refine goY ?_
  refine VY_nil ?_
  refine goL ?_
  refine V_ret ?_
  replace h := Option.some.inj h
  subst h
  exact R_rO
def b_sCopyTypes_l1 (rec_sCopyType : TType → Option (TType)) : List TType → (List TType) → Option (List TType)
  | [], y1 => (some y1)
  | x6 :: xs, y1 => bnd (rec_sCopyType x6) fun x7 =>
gd (y1.length + [x7].length ≤ 4294967296) (
b_sCopyTypes_l1 rec_sCopyType xs (y1 ++ [x7]))
def b_sCopyTypes (rec_sCopyType : TType → Option (TType)) (rec_sCopyTypes : (List TType) → Option (List TType)) (a0 : List TType) : Option (List TType) :=
b_sCopyTypes_l1 rec_sCopyType a0 []
set_option maxHeartbeats 4000000 in
theorem w_sCopyTypes {rec_sCopyType : TType → Option (TType)} {rec_sCopyTypes : (List TType) → Option (List TType)} (hrec_sCopyType : ∀ (x0 : TType) {r : TType}, rec_sCopyType x0 = some r → SpecO Tryd.prog 69 [.d (eType x0)] [35] [eType r]) (hrec_sCopyTypes : ∀ (x0 : List TType) {r : List TType}, rec_sCopyTypes x0 = some r → SpecO Tryd.prog 96 [.d (.sl 3 (eTypes x0))] [35] [.sl 3 (eTypes r)]) (a0 : List TType) {r : List TType} (h : b_sCopyTypes rec_sCopyType rec_sCopyTypes a0 = some r) : SpecO Tryd.prog 96 [.d (.sl 3 (eTypes a0))] [35] [.sl 3 (eTypes r)] := by
  unfold b_sCopyTypes at h
  refine SpecO_intro Tryd.func96 rfl (by kernel_rfl) rfl (by simp) fun A _ => ?_
  refine goL ?_
  refine VO_l0 ?_
  refine goL ?_
  refine V_block ?_
  show V _ _ _ _ _
  refine V_bd 0 (fun z4 => ?_)
  refine V_loop3 (fun (y3 : Nat) (y1 : List TType) (v2 : Nat) => ⟨[(0, .d (.sl 3 (eTypes a0))), (3, .sl 0 v2), (4, .d (.i .i64 (y3 : Int)))], [.own 35 3 v2 (eTypes y1)], Tryd.f96.ntmps⟩) (fun y3 y1 v2 => b_sCopyTypes_l1 rec_sCopyType (a0.drop y3) y1 = some r) (fun y3 y1 v2 => a0.length - y3) 0 [] 0 ⟨rfl, ⟨⟨rfl, rfl⟩, ⟨rfl, rfl⟩, ⟨rfl, rfl⟩, trivial⟩, ⟨[], rfl⟩, rfl⟩ h ?_
  rintro y3 y1 v2 h
  refine goL ?_
  refine V_cb (fun c5 => ?_) (fun c5 => ?_)
  · have hky32 := kltN c5
    obtain ⟨x6, hx6, hdx6⟩ := drop_at hky32
    rw [hdx6, b_sCopyTypes_l1.eq_2] at h
    obtain ⟨x6_0, x6_1, x6_2⟩ := x6
    refine V_skip ?_
    show V _ _ _ _ _
    refine V_seq (V_block ?_)
    refine goL ?_
    refine VO_r (QR_ixn y3 (gType hx6)) ?_
    refine goL ?_
    obtain ⟨x7, hx7, h⟩ := bnd_s h
    obtain ⟨x7_0, x7_1, x7_2⟩ := x7
    refine VO_co (hrec_sCopyType (TType.mk x6_0 x6_1 x6_2) hx7) ?_
    refine VO_l1t (TType.mk x7_0 x7_1 x7_2) ?_
    obtain ⟨g8, h⟩ := gd_s h
    refine VO_ap g8 ?_
    refine goL ?_
    refine VO_r (QR_inc y3 (by omega)) ?_
    refine goL ?_
    exact ⟨(y3 + 1), (y1 ++ [(TType.mk x7_0 x7_1 x7_2)]), (v2 + 1), h, by omega, ⟨rfl, ⟨⟨rfl, rfl⟩, ⟨rfl, rfl⟩, ⟨rfl, rfl⟩, trivial⟩, ⟨_, rfl⟩, rfl⟩⟩
  · have hky32 := kgeN c5
    rw [drop_end hky32, b_sCopyTypes_l1.eq_1] at h
    refine V_exit ?_
    show V _ _ _ _ _
    refine goL ?_
    refine V_ret ?_
    replace h := Option.some.inj h
    subst h
    exact R_rO
mutual
def m_sCopyType : Nat → TType → Option (TType)
  | 0, _ => none
  | n + 1, x0 => b_sCopyType (m_sCopyType n) (m_sCopyTypes n) x0
def m_sCopyTypes : Nat → (List TType) → Option (List TType)
  | 0, _ => none
  | n + 1, x0 => b_sCopyTypes (m_sCopyType n) (m_sCopyTypes n) x0
end
theorem ss_sCopyType : ∀ (n : Nat), (∀ (x0 : TType) {r : TType}, m_sCopyType n x0 = some r → SpecO Tryd.prog 69 [.d (eType x0)] [35] [eType r]) ∧ (∀ (x0 : List TType) {r : List TType}, m_sCopyTypes n x0 = some r → SpecO Tryd.prog 96 [.d (.sl 3 (eTypes x0))] [35] [.sl 3 (eTypes r)]) := by
  intro n
  induction n with
  | zero => exact ⟨(by intro x0 r h; cases h), (by intro x0 r h; cases h)⟩
  | succ n ih =>
    obtain ⟨ih0, ih1⟩ := ih
    refine ⟨(fun x0 r h => w_sCopyType ih0 ih1 x0 h), (fun x0 r h => w_sCopyTypes ih0 ih1 x0 h)⟩
theorem s_sCopyType : ∀ (n : Nat) (x0 : TType) {r : TType}, m_sCopyType n x0 = some r → SpecO Tryd.prog 69 [.d (eType x0)] [35] [eType r] := fun n => (ss_sCopyType n).1
theorem s_sCopyTypes : ∀ (n : Nat) (x0 : List TType) {r : List TType}, m_sCopyTypes n x0 = some r → SpecO Tryd.prog 96 [.d (.sl 3 (eTypes x0))] [35] [.sl 3 (eTypes r)] := fun n => (ss_sCopyType n).2
/-! ### copies, by hand -/
theorem take_set_succ {α : Type} {l : List α} {k : Nat} {x : α} (h : k < l.length) : (l.set k x).take (k + 1) = l.take k ++ [x] := by
  apply List.ext_getElem?
  intro i
  rw [List.getElem?_take, List.getElem?_append, List.length_take, List.getElem?_take, List.getElem?_set]
  have hm : min k l.length = k := Nat.min_eq_left (by omega)
  rw [hm]
  by_cases h1 : i < k
  · rw [if_pos (by omega), if_neg (by omega), if_pos h1, if_pos h1]
  · rw [if_neg h1]
    by_cases h2 : i = k
    · subst h2
      rw [if_pos (by omega), if_pos rfl, if_pos h]
      simp
    · rw [if_neg (by omega), List.getElem?_eq_none (by simp; omega)]
theorem iCopyTypes_l1_eq {rec : TType → Option TType} : ∀ (xs : List TType) (k : Nat) (y : List TType), (∀ x ∈ xs, rec x = some x) → y.length = k + xs.length → b_iCopyTypes_l1 rec xs k y = some (y.take k ++ xs)
  | [], k, y, _, h => by
    simp only [b_iCopyTypes_l1, List.append_nil]
    rw [List.take_of_length_le (by simp at h; omega)]
  | x :: xs, k, y, h1, h2 => by
    simp only [b_iCopyTypes_l1]
    rw [h1 x (by simp)]
    simp only [bnd, List.length_cons] at h2 ⊢
    rw [gd_eq (by omega), iCopyTypes_l1_eq xs (k + 1) _ (fun z hz => h1 z (by simp [hz])) (by simp; omega), take_set_succ (by omega)]
    simp
theorem iCopy_eq : ∀ (n : Nat), (∀ t : TType, 2 * tnd t ≤ n → tok t → m_iCopyType n t = some (idT t)) ∧ (∀ ts : List TType, 2 * tnds ts + 1 ≤ n → tsok ts → m_iCopyTypes n ts = some (idTs ts))
  | 0 => ⟨fun t h => by have := tnd_pos t; omega, fun ts h => by omega⟩
  | n + 1 => by
    obtain ⟨h1, h2⟩ := iCopy_eq n
    refine ⟨fun t hn ht => ?_, fun ts hn ht => ?_⟩
    · obtain ⟨k, s, ts⟩ := t
      simp only [tnd] at hn
      simp only [m_iCopyType, b_iCopyType]
      rw [h2 ts (by omega) (by simpa only [tok, tsok] using ht)]
      rfl
    · simp only [m_iCopyTypes, b_iCopyTypes]
      rw [gd_eq ht.1, iCopyTypes_l1_eq ts 0 _ (fun x hx => h1 x (by have := tnd_mem hx; omega) (tall_iff.1 ht.2 x hx)) (by simp)]
      simp [idTs]
theorem sCopyTypes_l1_eq {rec : TType → Option TType} : ∀ (xs : List TType) (y : List TType), (∀ x ∈ xs, rec x = some x) → y.length + xs.length ≤ 4294967296 → b_sCopyTypes_l1 rec xs y = some (y ++ xs)
  | [], y, _, h => by simp [b_sCopyTypes_l1]
  | x :: xs, y, h1, h2 => by
    simp only [b_sCopyTypes_l1]
    rw [h1 x (by simp)]
    simp only [bnd, List.length_cons, List.length_nil] at h2 ⊢
    rw [gd_eq (by omega), sCopyTypes_l1_eq xs _ (fun z hz => h1 z (by simp [hz])) (by simp; omega)]
    simp
theorem sCopy_eq : ∀ (n : Nat), (∀ t : TType, 2 * tnd t ≤ n → tok t → m_sCopyType n t = some (idT t)) ∧ (∀ ts : List TType, 2 * tnds ts + 1 ≤ n → tsok ts → m_sCopyTypes n ts = some (idTs ts))
  | 0 => ⟨fun t h => by have := tnd_pos t; omega, fun ts h => by omega⟩
  | n + 1 => by
    obtain ⟨h1, h2⟩ := sCopy_eq n
    refine ⟨fun t hn ht => ?_, fun ts hn ht => ?_⟩
    · obtain ⟨k, s, ts⟩ := t
      simp only [tnd] at hn
      simp only [m_sCopyType, b_sCopyType]
      rw [h2 ts (by omega) (by simpa only [tok, tsok] using ht)]
      rfl
    · simp only [m_sCopyTypes, b_sCopyTypes]
      rw [sCopyTypes_l1_eq ts _ (fun x hx => h1 x (by have := tnd_mem hx; omega) (tall_iff.1 ht.2 x hx)) (by simpa using ht.1)]
      simp [idTs]

theorem t_iCopyType (x0 : TType) (h : tok x0) : SpecO Tryd.prog 74 [.d (eType x0)] [35] [eType (idT x0)] := s_iCopyType (2 * tnd x0) x0 ((iCopy_eq _).1 _ (Nat.le_refl _) h)
theorem t_iCopyTypes (x0 : List TType) (h : tsok x0) : SpecO Tryd.prog 100 [.d (.sl 3 (eTypes x0))] [35] [.sl 3 (eTypes (idTs x0))] := s_iCopyTypes (2 * tnds x0 + 1) x0 ((iCopy_eq _).2 _ (Nat.le_refl _) h)
theorem t_sCopyType (x0 : TType) (h : tok x0) : SpecO Tryd.prog 69 [.d (eType x0)] [35] [eType (idT x0)] := s_sCopyType (2 * tnd x0) x0 ((sCopy_eq _).1 _ (Nat.le_refl _) h)
theorem t_sCopyTypes (x0 : List TType) (h : tsok x0) : SpecO Tryd.prog 96 [.d (.sl 3 (eTypes x0))] [35] [.sl 3 (eTypes (idTs x0))] := s_sCopyTypes (2 * tnds x0 + 1) x0 ((sCopy_eq _).2 _ (Nat.le_refl _) h)
/-! ### copies of bindings, by hand -/
def bsok (l : List TBinding) : Prop := l.length ≤ 4294967296 ∧ ∀ b ∈ l, tok b.type_
instance (l : List TBinding) : Decidable (bsok l) := inferInstanceAs (Decidable (_ ∧ _))
def idBs (l : List TBinding) : List TBinding := l
theorem t_Clone (l : List TBinding) (hl : l.length ≤ 4294967296) : Go.Eng.Spec Tryd.prog 99 [.d (.sl 4 (eBindings l))] [] (fun sv Lo => ∃ v, sv = .sl 0 v ∧ Lo = [.mix 118 4 v [] (eBindings l)]) := by
  refine Spec_intro 0 Tryd.func99 rfl (by kernel_rfl) rfl rfl fun A _ => ?_
  refine goL ?_
  refine VO_eqnil (fun b hb => ?_)
  refine goL ?_
  cases b with
  | true =>
    have h0 : l = [] := by
      cases l with
      | nil => rfl
      | cons a l => cases hb rfl
    subst h0
    refine V_ct ?_
    refine goL ?_
    refine V_adT 118 4 2 ?_
    refine V_ownMix 0 ?_
    refine V_ret ?_
    exact R_rH [.sl 0 0] [.mix 118 4 0 [] []] ⟨0, rfl, rfl⟩
  | false =>
    refine V_cf ?_
    refine V_skip ?_
    refine goL ?_
    refine VO_l0a ?_
    refine goL ?_
    refine VO_apa (l := []) (r := l) (by simpa using hl) ?_
    refine goL ?_
    refine V_toMix 0 ?_
    refine V_ret ?_
    exact R_rH [.sl 0 (0 + 1)] [.mix 118 4 (0 + 1) [] (eBindings l)] ⟨_, rfl, rfl⟩
theorem eBs_app (a b : List TBinding) : eBindings (a ++ b) = eBindings a ++ eBindings b := by
  induction a with
  | nil => rfl
  | cons x a ih => simp only [List.cons_append, eBindings, ih]
set_option maxHeartbeats 4000000 in
theorem t_iCopyBinds (l : List TBinding) (h : bsok l) : SpecO Tryd.prog 73 [.d (.sl 4 (eBindings l))] [118] [.sl 4 (eBindings (idBs l))] := by
  have hlen : ∀ l : List TBinding, (eBindings l).length = l.length := fun l => Enc.len l
  refine SpecO_intro Tryd.func73 rfl (by kernel_rfl) rfl (by simp) fun A _ => ?_
  refine goL ?_
  refine VO_cG [] (t_Clone l h.1) ?_
  rintro _ _ ⟨v, rfl, rfl⟩
  show VO _ _ _ _ ⟨(_, .sl 0 v) :: _, [.mix 118 4 v [] (eBindings l)], _⟩ _
  refine goL ?_
  refine VO_q (Q_len_mix rfl rfl) rfl ?_
  refine goL ?_
  refine V_block ?_
  show V _ _ _ _ _
  refine V_loop1 (fun (k : Nat) => ⟨[(3, .sl 0 v), (8, .d (.i .i64 (l.length : Int))), (9, .d (.i .i64 (k : Int)))], [.mix 118 4 v (eBindings (l.take k)) (eBindings (l.drop k))], Tryd.f73.ntmps⟩) (fun k => k ≤ l.length) (fun k => l.length - k) 0 ⟨rfl, ⟨⟨rfl, rfl⟩, ⟨by simp only [List.nil_append, hlen]; rfl, rfl⟩, ⟨rfl, rfl⟩, trivial⟩, ⟨[], rfl⟩, rfl⟩ (Nat.zero_le _) ?_
  rintro k hk
  refine goL ?_
  refine V_seq (V_cb (fun c6 => ?_) (fun c6 => ?_))
  · have hk2 : k < l.length := by have := of_decide_eq_true c6; omega
    obtain ⟨x, hx, hdx⟩ := drop_at hk2
    rw [hdx]
    obtain ⟨x0, x1_0, x1_1, x1_2⟩ := x
    have hok : tok (TType.mk x1_0 x1_1 x1_2) := h.2 _ (List.mem_of_getElem? hx)
    have hc := t_iCopyType (TType.mk x1_0 x1_1 x1_2) hok
    change SpecO _ _ _ _ [eType (TType.mk x1_0 x1_1 x1_2)] at hc
    have hkl : (eBindings (l.take k)).length = k := by rw [hlen, List.length_take]; omega
    have hin : k < (eBindings (l.take k) ++ eBindings (TBinding.mk x0 (TType.mk x1_0 x1_1 x1_2) :: l.drop (k + 1))).length := by rw [List.length_append, hkl, hlen]; simp
    have e1 : eBindings (l.take (k + 1)) = eBindings (l.take k) ++ [.st ([.s x0] ++ [eType (TType.mk x1_0 x1_1 x1_2)])] := by
      rw [List.take_add_one, hx, eBs_app]
      rfl
    refine V_skip ?_
    show V _ _ _ _ _
    refine V_seq (V_block ?_)
    refine goL ?_
    refine VO_k (Q_ixm k hin) ?_
    refine VO_k (Q_field_mix rfl rfl TF.h) ?_
    refine VO_k (Q_load_mix (pre := [.s x0]) (u := eType (TType.mk x1_0 x1_1 x1_2)) rfl rfl hkl rfl TI.h rfl rfl) ?_
    refine VO_co hc ?_
    refine VO_k (Q_ixm k hin) ?_
    refine VO_k (Q_field_mix rfl rfl TF.h) ?_
    refine VO_storeM (pre := [.s x0]) (old := eType (TType.mk x1_0 x1_1 x1_2)) (u := eType (TType.mk x1_0 x1_1 x1_2)) (js := [1]) (L' := [.mix 118 4 v (eBindings (l.take (k + 1))) (eBindings (l.drop (k + 1))), .dead 1]) rfl rfl hkl rfl rfl (by (repeat constructor); first | done | fail) rfl TI.h rfl rfl (by rw [e1]; rfl) ?_
    refine goL ?_
    refine VO_r (QR_inc k (by have := h.1; omega)) ?_
    refine goL ?_
    exact ⟨(k + 1), by omega, by omega, ⟨rfl, ⟨⟨rfl, rfl⟩, ⟨rfl, rfl⟩, ⟨rfl, rfl⟩, trivial⟩, ⟨_, rfl⟩, rfl⟩⟩
  · have hk3 : l.length ≤ k := by have := of_decide_eq_false c6; omega
    rw [List.drop_of_length_le hk3, List.take_of_length_le hk3]
    refine V_exit ?_
    show V _ _ _ _ _
    refine goL ?_
    refine V_ofMix 0 ?_
    refine V_ret ?_
    exact R_rO

end Go.Proofs.YthojhakapbfbiaaDoor

namespace Go.Proofs.YthojhakapbfbiaaDoor
open Go Go.Eng
attribute [local irreducible] V VO VQ VY Quiet QR SpecP SpecO MSpec Rng PostP PostO PostG
def b_iCopyState_l2 (a0 : TInferState) (x2 : List TBinding) (y4 : List TEquation) : List TObligation → Nat → (List TObligation) → Option (TInferState)
  | [], y18, y16 => (some (TInferState.mk a0.next a0.count a0.node x2 y4 y16 a0.code a0.at_))
  | x21 :: xs, y18, y16 => gd (tok x21.goal.type_) (lt_ (idT x21.goal.type_) fun x23 =>
gd (y18 < y16.length) (
b_iCopyState_l2 a0 x2 y4 xs (y18 + 1) (y16.set y18 (TObligation.mk (TBound.mk x21.goal.trait x23) x21.node))))
def b_iCopyState_l1 (a0 : TInferState) (x2 : List TBinding) : List TEquation → Nat → (List TEquation) → Option (TInferState)
  | [], y6, y4 => gd (a0.obligations.length ≤ 4294967296) (
b_iCopyState_l2 a0 x2 y4 a0.obligations 0 (List.replicate a0.obligations.length (TObligation.mk (TBound.mk [] (TType.mk 0 [] [])) 0)))
  | x9 :: xs, y6, y4 => gd (tok x9.a) (lt_ (idT x9.a) fun x11 =>
gd (tok x9.b) (lt_ (idT x9.b) fun x13 =>
gd (y6 < y4.length) (
b_iCopyState_l1 a0 x2 xs (y6 + 1) (y4.set y6 (TEquation.mk x11 x13 x9.node)))))
def b_iCopyState (a0 : TInferState) : Option (TInferState) :=
gd (bsok a0.bindings) (lt_ (idBs a0.bindings) fun x2 =>
gd (a0.equations.length ≤ 4294967296) (
b_iCopyState_l1 a0 x2 a0.equations 0 (List.replicate a0.equations.length (TEquation.mk (TType.mk 0 [] []) (TType.mk 0 [] []) 0))))
set_option maxHeartbeats 4000000 in
theorem w_iCopyState (a0 : TInferState) {r : TInferState} (h : b_iCopyState a0 = some r) : SpecO Tryd.prog 36 [.d (eInferState a0)] [118, 121, 125] [eInferState r] := by
  obtain ⟨a0_0, a0_1, a0_2, a0_3, a0_4, a0_5, a0_6, a0_7⟩ := a0
  unfold b_iCopyState at h
  refine SpecO_intro Tryd.func36 rfl (by kernel_rfl) rfl (by simp) fun A _ => ?_
  refine goL ?_
  obtain ⟨g1, h⟩ := gd_s h
  obtain ⟨x2, hx2, h⟩ := lt_x h
  have sx2 := t_iCopyBinds a0_3 g1
  rw [hx2] at sx2
  refine VO_co (sx2) ?_
  refine goL ?_
  obtain ⟨g3, h⟩ := gd_s h
  refine VO_mk (TEquation.mk (TType.mk 0 [] []) (TType.mk 0 [] []) 0) g3 ?_
  refine goL ?_
  refine V_block ?_
  show V _ _ _ _ _
  refine V_bd 18 (fun z7 => ?_)
  refine V_loop3 (fun (y6 : Nat) (y4 : List TEquation) (v5 : Nat) => ⟨[(1, .ptr 0 0), (2, .ptr 1 0), (3, .sl 3 v5), (18, .d (.sl 7 (eEquations a0_4))), (19, .d (.i .i64 (a0_4.length : Int))), (20, .d (.i .i64 (y6 : Int)))], [.box [.d (.i .i64 a0_0), .d (.i .i64 a0_1), .d (.i .i64 a0_2), .sl 2 0, .d (.sl 7 (eEquations a0_4)), .d (.sl 5 (eObligations a0_5)), .d (.i .i64 a0_6), .d (.i .i64 a0_7)], .box [.d (.i .i64 0), .d (.i .i64 0), .d (.i .i64 0), .nilsl, .nilsl, .nilsl, .d (.i .i64 0), .d (.i .i64 0)], .own 118 4 0 (eBindings x2), .own 121 7 v5 (eEquations y4)], Tryd.f36.ntmps⟩) (fun y6 y4 v5 => b_iCopyState_l1 (TInferState.mk a0_0 a0_1 a0_2 a0_3 a0_4 a0_5 a0_6 a0_7) x2 (a0_4.drop y6) y6 y4 = some r) (fun y6 y4 v5 => a0_4.length - y6) 0 (List.replicate a0_4.length (TEquation.mk (TType.mk 0 [] []) (TType.mk 0 [] []) 0)) 0 ⟨rfl, ⟨⟨rfl, rfl⟩, ⟨rfl, rfl⟩, ⟨rfl, rfl⟩, ⟨rfl, rfl⟩, ⟨rfl, rfl⟩, ⟨rfl, rfl⟩, trivial⟩, ⟨[], rfl⟩, rfl⟩ h ?_
  rintro y6 y4 v5 h
  refine goL ?_
  refine V_seq (V_cb (fun c8 => ?_) (fun c8 => ?_))
  · have hky62 := kltN c8
    obtain ⟨x9, hx9, hdx9⟩ := drop_at hky62
    rw [hdx9, b_iCopyState_l1.eq_2] at h
    obtain ⟨⟨x9_0_0, x9_0_1, x9_0_2⟩, ⟨x9_1_0, x9_1_1, x9_1_2⟩, x9_2⟩ := x9
    refine V_skip ?_
    show V _ _ _ _ _
    refine V_seq (V_block ?_)
    refine goL ?_
    refine VO_r (QR_ixn y6 (gEquation hx9)) ?_
    refine goNL ?_
    refine V_drawX (P := Tryd.prog) Mix.h [(0, true), (1, true), (2, true), (3, true), (5, true), (6, true), (8, true), (9, true), (4, false), (7, false), (10, true), (11, false), (12, false)] (by kernel_rfl) ?_
    refine goY ?_
    obtain ⟨g10, h⟩ := gd_s h
    obtain ⟨x11, hx11, h⟩ := lt_x h
    obtain ⟨x11_0, x11_1, x11_2⟩ := x11
    have sx11 := t_iCopyType (TType.mk x9_0_0 x9_0_1 x9_0_2) g10
    rw [hx11] at sx11
    refine VY_co (sx11) ?_
    obtain ⟨g12, h⟩ := gd_s h
    obtain ⟨x13, hx13, h⟩ := lt_x h
    obtain ⟨x13_0, x13_1, x13_2⟩ := x13
    have sx13 := t_iCopyType (TType.mk x9_1_0 x9_1_1 x9_1_2) g12
    rw [hx13] at sx13
    refine VY_co (sx13) ?_
    refine goY ?_
    obtain ⟨g14, h⟩ := gd_s h
    refine VY_ixo y6 g14 ?_
    refine VY_st (TEquation.mk (TType.mk x11_0 x11_1 x11_2) (TType.mk x13_0 x13_1 x13_2) x9_2) g14 ?_
    refine VY_nil ?_
    refine goL ?_
    refine VO_r (QR_inc y6 (by omega)) ?_
    refine goL ?_
    exact ⟨(y6 + 1), (y4.set y6 (TEquation.mk (TType.mk x11_0 x11_1 x11_2) (TType.mk x13_0 x13_1 x13_2) x9_2)), v5, h, by omega, ⟨rfl, ⟨⟨rfl, rfl⟩, ⟨rfl, rfl⟩, ⟨rfl, rfl⟩, ⟨rfl, rfl⟩, ⟨rfl, rfl⟩, ⟨rfl, rfl⟩, trivial⟩, ⟨_, rfl⟩, rfl⟩⟩
  · have hky62 := kgeN c8
    rw [drop_end hky62, b_iCopyState_l1.eq_1] at h
    refine V_exit ?_
    show V _ _ _ _ _
    refine goL ?_
    obtain ⟨g15, h⟩ := gd_s h
    refine VO_mk (TObligation.mk (TBound.mk [] (TType.mk 0 [] [])) 0) g15 ?_
    refine goL ?_
    refine V_block ?_
    show V _ _ _ _ _
    refine V_bd 45 (fun z19 => ?_)
    refine V_loop3 (fun (y18 : Nat) (y16 : List TObligation) (v17 : Nat) => ⟨[(1, .ptr 0 0), (2, .ptr 1 0), (6, .sl 4 v17), (45, .d (.sl 5 (eObligations a0_5))), (46, .d (.i .i64 (a0_5.length : Int))), (47, .d (.i .i64 (y18 : Int)))], [.box [.d (.i .i64 a0_0), .d (.i .i64 a0_1), .d (.i .i64 a0_2), .sl 2 0, .sl 3 v5, .d (.sl 5 (eObligations a0_5)), .d (.i .i64 a0_6), .d (.i .i64 a0_7)], .box [.d (.i .i64 0), .d (.i .i64 0), .d (.i .i64 0), .nilsl, .nilsl, .nilsl, .d (.i .i64 0), .d (.i .i64 0)], .own 118 4 0 (eBindings x2), .own 121 7 v5 (eEquations y4), .own 125 5 v17 (eObligations y16)], Tryd.f36.ntmps⟩) (fun y18 y16 v17 => b_iCopyState_l2 (TInferState.mk a0_0 a0_1 a0_2 a0_3 a0_4 a0_5 a0_6 a0_7) x2 y4 (a0_5.drop y18) y18 y16 = some r) (fun y18 y16 v17 => a0_5.length - y18) 0 (List.replicate a0_5.length (TObligation.mk (TBound.mk [] (TType.mk 0 [] [])) 0)) 0 ⟨rfl, ⟨⟨rfl, rfl⟩, ⟨rfl, rfl⟩, ⟨rfl, rfl⟩, ⟨rfl, rfl⟩, ⟨rfl, rfl⟩, ⟨rfl, rfl⟩, trivial⟩, ⟨[], rfl⟩, rfl⟩ h ?_
    rintro y18 y16 v17 h
    refine goL ?_
    refine V_seq (V_cb (fun c20 => ?_) (fun c20 => ?_))
    · have hky182 := kltN c20
      obtain ⟨x21, hx21, hdx21⟩ := drop_at hky182
      rw [hdx21, b_iCopyState_l2.eq_2] at h
      obtain ⟨⟨x21_0_0, ⟨x21_0_1_0, x21_0_1_1, x21_0_1_2⟩⟩, x21_1⟩ := x21
      refine V_skip ?_
      show V _ _ _ _ _
      refine V_seq (V_block ?_)
      refine goL ?_
      refine VO_r (QR_ixn y18 (gObligation hx21)) ?_
      refine goNL ?_
      refine V_drawX (P := Tryd.prog) Mix.h [(0, true), (1, true), (2, true), (3, true), (4, true), (5, true), (6, true), (7, true), (10, true), (11, true), (8, false), (9, true), (12, true), (13, false), (14, false)] (by kernel_rfl) ?_
      refine goY ?_
      obtain ⟨g22, h⟩ := gd_s h
      obtain ⟨x23, hx23, h⟩ := lt_x h
      obtain ⟨x23_0, x23_1, x23_2⟩ := x23
      have sx23 := t_iCopyType (TType.mk x21_0_1_0 x21_0_1_1 x21_0_1_2) g22
      rw [hx23] at sx23
      refine VY_co (sx23) ?_
      refine goY ?_
      obtain ⟨g24, h⟩ := gd_s h
      refine VY_ixo y18 g24 ?_
      refine VY_st (TObligation.mk (TBound.mk x21_0_0 (TType.mk x23_0 x23_1 x23_2)) x21_1) g24 ?_
      refine VY_nil ?_
      refine goL ?_
      refine VO_r (QR_inc y18 (by omega)) ?_
      refine goL ?_
      exact ⟨(y18 + 1), (y16.set y18 (TObligation.mk (TBound.mk x21_0_0 (TType.mk x23_0 x23_1 x23_2)) x21_1)), v17, h, by omega, ⟨rfl, ⟨⟨rfl, rfl⟩, ⟨rfl, rfl⟩, ⟨rfl, rfl⟩, ⟨rfl, rfl⟩, ⟨rfl, rfl⟩, ⟨rfl, rfl⟩, trivial⟩, ⟨_, rfl⟩, rfl⟩⟩
    · have hky182 := kgeN c20
      rw [drop_end hky182, b_iCopyState_l2.eq_1] at h
      refine V_exit ?_
      show V _ _ _ _ _
      refine goL ?_
      refine V_ret ?_
      replace h := Option.some.inj h
      subst h
      exact R_rO
def b_sCopyState_l3 (a0 : TInferState) (y1 : List TBinding) (y10 : List TEquation) : List TObligation → (List TObligation) → Option (TInferState)
  | [], y21 => (some (TInferState.mk a0.next a0.count a0.node y1 y10 y21 a0.code a0.at_))
  | x26 :: xs, y21 => gd (tok x26.goal.type_) (lt_ (idT x26.goal.type_) fun x28 =>
gd (y21.length + [(TObligation.mk (TBound.mk x26.goal.trait x28) x26.node)].length ≤ 4294967296) (
b_sCopyState_l3 a0 y1 y10 xs (y21 ++ [(TObligation.mk (TBound.mk x26.goal.trait x28) x26.node)])))
def b_sCopyState_l2 (a0 : TInferState) (y1 : List TBinding) : List TEquation → (List TEquation) → Option (TInferState)
  | [], y10 => b_sCopyState_l3 a0 y1 y10 a0.obligations []
  | x15 :: xs, y10 => gd (tok x15.a) (lt_ (idT x15.a) fun x17 =>
gd (tok x15.b) (lt_ (idT x15.b) fun x19 =>
gd (y10.length + [(TEquation.mk x17 x19 x15.node)].length ≤ 4294967296) (
b_sCopyState_l2 a0 y1 xs (y10 ++ [(TEquation.mk x17 x19 x15.node)]))))
def b_sCopyState_l1 (a0 : TInferState) : List TBinding → (List TBinding) → Option (TInferState)
  | [], y1 => b_sCopyState_l2 a0 y1 a0.equations []
  | x6 :: xs, y1 => gd (tok x6.type_) (lt_ (idT x6.type_) fun x8 =>
gd (y1.length + [(TBinding.mk x6.var_ x8)].length ≤ 4294967296) (
b_sCopyState_l1 a0 xs (y1 ++ [(TBinding.mk x6.var_ x8)])))
def b_sCopyState (a0 : TInferState) : Option (TInferState) :=
b_sCopyState_l1 a0 a0.bindings []
set_option maxHeartbeats 4000000 in
theorem w_sCopyState (a0 : TInferState) {r : TInferState} (h : b_sCopyState a0 = some r) : SpecO Tryd.prog 30 [.d (eInferState a0)] [118, 121, 125] [eInferState r] := by
  obtain ⟨a0_0, a0_1, a0_2, a0_3, a0_4, a0_5, a0_6, a0_7⟩ := a0
  unfold b_sCopyState at h
  refine SpecO_intro Tryd.func30 rfl (by kernel_rfl) rfl (by simp) fun A _ => ?_
  refine goL ?_
  refine VO_k (Q_build TBd.h TZ.h rfl (by repeat constructor)) ?_
  refine goL ?_
  refine V_block ?_
  show V _ _ _ _ _
  refine V_adopt 118 4 2 3 rfl rfl (by repeat constructor) (by repeat constructor) (by repeat constructor) (by repeat constructor) ?_
  show V _ _ _ _ _
  refine V_bdc 0 3 (fun z4 => ?_)
  refine V_loop3 (fun (y3 : Nat) (y1 : List TBinding) (v2 : Nat) => ⟨[(1, .ptr 0 0), (2, .ptr 1 0), (3, .ptr 2 0), (4, .d (.i .i64 (y3 : Int)))], [.box [.d (.i .i64 a0_0), .d (.i .i64 a0_1), .d (.i .i64 a0_2), .d (.sl 4 (eBindings a0_3)), .d (.sl 7 (eEquations a0_4)), .d (.sl 5 (eObligations a0_5)), .d (.i .i64 a0_6), .d (.i .i64 a0_7)], .box [.d (.i .i64 0), .d (.i .i64 0), .d (.i .i64 0), .nilsl, .nilsl, .nilsl, .d (.i .i64 0), .d (.i .i64 0)], .box [.d (.i .i64 a0_0), .d (.i .i64 a0_1), .d (.i .i64 a0_2), .sl 3 v2, .nilsl, .nilsl, .d (.i .i64 a0_6), .d (.i .i64 a0_7)], .own 118 4 v2 (eBindings y1)], Tryd.f30.ntmps⟩) (fun y3 y1 v2 => b_sCopyState_l1 (TInferState.mk a0_0 a0_1 a0_2 a0_3 a0_4 a0_5 a0_6 a0_7) (a0_3.drop y3) y1 = some r) (fun y3 y1 v2 => a0_3.length - y3) 0 [] 0 ⟨rfl, ⟨⟨rfl, rfl⟩, ⟨rfl, rfl⟩, ⟨rfl, rfl⟩, ⟨rfl, rfl⟩, trivial⟩, ⟨[], rfl⟩, rfl⟩ h ?_
  rintro y3 y1 v2 h
  refine goL ?_
  refine V_cb (fun c5 => ?_) (fun c5 => ?_)
  · have hky32 := kltN c5
    obtain ⟨x6, hx6, hdx6⟩ := drop_at hky32
    rw [hdx6, b_sCopyState_l1.eq_2] at h
    obtain ⟨x6_0, ⟨x6_1_0, x6_1_1, x6_1_2⟩⟩ := x6
    refine V_skip ?_
    show V _ _ _ _ _
    refine V_seq (V_block ?_)
    refine V_drawX (P := Tryd.prog) Mix.h [(0, true), (1, true), (2, true), (3, true), (4, true), (5, true), (6, true), (7, true), (8, true), (9, true), (10, true), (11, true), (12, true), (13, true), (14, false), (15, true), (16, false), (17, false), (18, true), (19, false)] (by kernel_rfl) ?_
    refine goY ?_
    refine VY_ri rfl (QR_ixn y3 (gBinding hx6)) ?_
    refine goY ?_
    refine VY_ri rfl (QR_ixn y3 (gBinding hx6)) ?_
    refine goY ?_
    obtain ⟨g7, h⟩ := gd_s h
    obtain ⟨x8, hx8, h⟩ := lt_x h
    obtain ⟨x8_0, x8_1, x8_2⟩ := x8
    have sx8 := t_sCopyType (TType.mk x6_1_0 x6_1_1 x6_1_2) g7
    rw [hx8] at sx8
    refine VY_co (sx8) ?_
    refine goY ?_
    refine VY_l1t (T := 28) (TBinding.mk x6_0 (TType.mk x8_0 x8_1 x8_2)) ?_
    obtain ⟨g9, h⟩ := gd_s h
    refine VY_ap (T := 28) g9 ?_
    refine goY ?_
    refine VY_nil ?_
    refine goL ?_
    refine VO_r (QR_inc y3 (by omega)) ?_
    refine goL ?_
    exact ⟨(y3 + 1), (y1 ++ [(TBinding.mk x6_0 (TType.mk x8_0 x8_1 x8_2))]), (v2 + 1), h, by omega, ⟨rfl, ⟨⟨rfl, rfl⟩, ⟨rfl, rfl⟩, ⟨rfl, rfl⟩, ⟨rfl, rfl⟩, trivial⟩, ⟨_, rfl⟩, rfl⟩⟩
  · have hky32 := kgeN c5
    rw [drop_end hky32, b_sCopyState_l1.eq_1] at h
    refine V_exit ?_
    show V _ _ _ _ _
    refine goL ?_
    refine V_block ?_
    show V _ _ _ _ _
    refine V_adopt 121 7 2 4 rfl rfl (by repeat constructor) (by repeat constructor) (by repeat constructor) (by repeat constructor) ?_
    show V _ _ _ _ _
    refine V_bdc 0 4 (fun z13 => ?_)
    refine V_loop3 (fun (y12 : Nat) (y10 : List TEquation) (v11 : Nat) => ⟨[(1, .ptr 0 0), (2, .ptr 1 0), (3, .ptr 2 0), (5, .d (.i .i64 (y12 : Int)))], [.box [.d (.i .i64 a0_0), .d (.i .i64 a0_1), .d (.i .i64 a0_2), .d (.sl 4 (eBindings a0_3)), .d (.sl 7 (eEquations a0_4)), .d (.sl 5 (eObligations a0_5)), .d (.i .i64 a0_6), .d (.i .i64 a0_7)], .box [.d (.i .i64 0), .d (.i .i64 0), .d (.i .i64 0), .nilsl, .nilsl, .nilsl, .d (.i .i64 0), .d (.i .i64 0)], .box [.d (.i .i64 a0_0), .d (.i .i64 a0_1), .d (.i .i64 a0_2), .sl 3 v2, .sl 4 v11, .nilsl, .d (.i .i64 a0_6), .d (.i .i64 a0_7)], .own 118 4 v2 (eBindings y1), .own 121 7 v11 (eEquations y10)], Tryd.f30.ntmps⟩) (fun y12 y10 v11 => b_sCopyState_l2 (TInferState.mk a0_0 a0_1 a0_2 a0_3 a0_4 a0_5 a0_6 a0_7) y1 (a0_4.drop y12) y10 = some r) (fun y12 y10 v11 => a0_4.length - y12) 0 [] 0 ⟨rfl, ⟨⟨rfl, rfl⟩, ⟨rfl, rfl⟩, ⟨rfl, rfl⟩, ⟨rfl, rfl⟩, trivial⟩, ⟨[], rfl⟩, rfl⟩ h ?_
    rintro y12 y10 v11 h
    refine goL ?_
    refine V_cb (fun c14 => ?_) (fun c14 => ?_)
    · have hky122 := kltN c14
      obtain ⟨x15, hx15, hdx15⟩ := drop_at hky122
      rw [hdx15, b_sCopyState_l2.eq_2] at h
      obtain ⟨⟨x15_0_0, x15_0_1, x15_0_2⟩, ⟨x15_1_0, x15_1_1, x15_1_2⟩, x15_2⟩ := x15
      refine V_skip ?_
      show V _ _ _ _ _
      refine V_seq (V_block ?_)
      refine goL ?_
      refine VO_r (QR_ixn y12 (gEquation hx15)) ?_
      refine goNL ?_
      refine V_drawX (P := Tryd.prog) Mix.h [(0, true), (1, true), (2, true), (3, true), (5, true), (6, true), (8, true), (9, true), (4, false), (7, false), (10, true), (11, false), (12, false), (13, true), (14, false)] (by kernel_rfl) ?_
      refine goY ?_
      obtain ⟨g16, h⟩ := gd_s h
      obtain ⟨x17, hx17, h⟩ := lt_x h
      obtain ⟨x17_0, x17_1, x17_2⟩ := x17
      have sx17 := t_sCopyType (TType.mk x15_0_0 x15_0_1 x15_0_2) g16
      rw [hx17] at sx17
      refine VY_co (sx17) ?_
      obtain ⟨g18, h⟩ := gd_s h
      obtain ⟨x19, hx19, h⟩ := lt_x h
      obtain ⟨x19_0, x19_1, x19_2⟩ := x19
      have sx19 := t_sCopyType (TType.mk x15_1_0 x15_1_1 x15_1_2) g18
      rw [hx19] at sx19
      refine VY_co (sx19) ?_
      refine goY ?_
      refine VY_l1t (T := 29) (TEquation.mk (TType.mk x17_0 x17_1 x17_2) (TType.mk x19_0 x19_1 x19_2) x15_2) ?_
      obtain ⟨g20, h⟩ := gd_s h
      refine VY_ap (T := 29) g20 ?_
      refine goY ?_
      refine VY_nil ?_
      refine goL ?_
      refine VO_r (QR_inc y12 (by omega)) ?_
      refine goL ?_
      exact ⟨(y12 + 1), (y10 ++ [(TEquation.mk (TType.mk x17_0 x17_1 x17_2) (TType.mk x19_0 x19_1 x19_2) x15_2)]), (v11 + 1), h, by omega, ⟨rfl, ⟨⟨rfl, rfl⟩, ⟨rfl, rfl⟩, ⟨rfl, rfl⟩, ⟨rfl, rfl⟩, trivial⟩, ⟨_, rfl⟩, rfl⟩⟩
    · have hky122 := kgeN c14
      rw [drop_end hky122, b_sCopyState_l2.eq_1] at h
      refine V_exit ?_
      show V _ _ _ _ _
      refine goL ?_
      refine V_block ?_
      show V _ _ _ _ _
      refine V_adopt 125 5 2 5 rfl rfl (by repeat constructor) (by repeat constructor) (by repeat constructor) (by repeat constructor) ?_
      show V _ _ _ _ _
      refine V_bdc 0 5 (fun z24 => ?_)
      refine V_loop3 (fun (y23 : Nat) (y21 : List TObligation) (v22 : Nat) => ⟨[(1, .ptr 0 0), (2, .ptr 1 0), (3, .ptr 2 0), (7, .d (.i .i64 (y23 : Int)))], [.box [.d (.i .i64 a0_0), .d (.i .i64 a0_1), .d (.i .i64 a0_2), .d (.sl 4 (eBindings a0_3)), .d (.sl 7 (eEquations a0_4)), .d (.sl 5 (eObligations a0_5)), .d (.i .i64 a0_6), .d (.i .i64 a0_7)], .box [.d (.i .i64 0), .d (.i .i64 0), .d (.i .i64 0), .nilsl, .nilsl, .nilsl, .d (.i .i64 0), .d (.i .i64 0)], .box [.d (.i .i64 a0_0), .d (.i .i64 a0_1), .d (.i .i64 a0_2), .sl 3 v2, .sl 4 v11, .sl 5 v22, .d (.i .i64 a0_6), .d (.i .i64 a0_7)], .own 118 4 v2 (eBindings y1), .own 121 7 v11 (eEquations y10), .own 125 5 v22 (eObligations y21)], Tryd.f30.ntmps⟩) (fun y23 y21 v22 => b_sCopyState_l3 (TInferState.mk a0_0 a0_1 a0_2 a0_3 a0_4 a0_5 a0_6 a0_7) y1 y10 (a0_5.drop y23) y21 = some r) (fun y23 y21 v22 => a0_5.length - y23) 0 [] 0 ⟨rfl, ⟨⟨rfl, rfl⟩, ⟨rfl, rfl⟩, ⟨rfl, rfl⟩, ⟨rfl, rfl⟩, trivial⟩, ⟨[], rfl⟩, rfl⟩ h ?_
      rintro y23 y21 v22 h
      refine goL ?_
      refine V_cb (fun c25 => ?_) (fun c25 => ?_)
      · have hky232 := kltN c25
        obtain ⟨x26, hx26, hdx26⟩ := drop_at hky232
        rw [hdx26, b_sCopyState_l3.eq_2] at h
        obtain ⟨⟨x26_0_0, ⟨x26_0_1_0, x26_0_1_1, x26_0_1_2⟩⟩, x26_1⟩ := x26
        refine V_skip ?_
        show V _ _ _ _ _
        refine V_seq (V_block ?_)
        refine goL ?_
        refine VO_r (QR_ixn y23 (gObligation hx26)) ?_
        refine goNL ?_
        refine V_drawX (P := Tryd.prog) Mix.h [(0, true), (1, true), (2, true), (3, true), (4, true), (5, true), (6, true), (7, true), (10, true), (11, true), (8, false), (9, true), (12, true), (13, false), (14, false), (15, true), (16, false)] (by kernel_rfl) ?_
        refine goY ?_
        obtain ⟨g27, h⟩ := gd_s h
        obtain ⟨x28, hx28, h⟩ := lt_x h
        obtain ⟨x28_0, x28_1, x28_2⟩ := x28
        have sx28 := t_sCopyType (TType.mk x26_0_1_0 x26_0_1_1 x26_0_1_2) g27
        rw [hx28] at sx28
        refine VY_co (sx28) ?_
        refine goY ?_
        refine VY_l1t (T := 30) (TObligation.mk (TBound.mk x26_0_0 (TType.mk x28_0 x28_1 x28_2)) x26_1) ?_
        obtain ⟨g29, h⟩ := gd_s h
        refine VY_ap (T := 30) g29 ?_
        refine goY ?_
        refine VY_nil ?_
        refine goL ?_
        refine VO_r (QR_inc y23 (by omega)) ?_
        refine goL ?_
        exact ⟨(y23 + 1), (y21 ++ [(TObligation.mk (TBound.mk x26_0_0 (TType.mk x28_0 x28_1 x28_2)) x26_1)]), (v22 + 1), h, by omega, ⟨rfl, ⟨⟨rfl, rfl⟩, ⟨rfl, rfl⟩, ⟨rfl, rfl⟩, ⟨rfl, rfl⟩, trivial⟩, ⟨_, rfl⟩, rfl⟩⟩
      · have hky232 := kgeN c25
        rw [drop_end hky232, b_sCopyState_l3.eq_1] at h
        refine V_exit ?_
        show V _ _ _ _ _
        refine goL ?_
        refine V_ret ?_
        replace h := Option.some.inj h
        subst h
        exact R_rO
/-! ### copies of states, by hand -/
def isok (s : TInferState) : Prop := bsok s.bindings ∧ (s.equations.length ≤ 4294967296 ∧ ∀ q ∈ s.equations, tok q.a ∧ tok q.b) ∧ s.obligations.length ≤ 4294967296 ∧ ∀ o ∈ s.obligations, tok o.goal.type_
instance (s : TInferState) : Decidable (isok s) := inferInstanceAs (Decidable (_ ∧ _))
def idS (s : TInferState) : TInferState := s
theorem iS_l2 (s : TInferState) (x2 : List TBinding) (y4 : List TEquation) : ∀ (xs : List TObligation) (k : Nat) (y : List TObligation), (∀ o ∈ xs, tok o.goal.type_) → y.length = k + xs.length → b_iCopyState_l2 s x2 y4 xs k y = some (TInferState.mk s.next s.count s.node x2 y4 (y.take k ++ xs) s.code s.at_)
  | [], k, y, _, h => by
    simp only [b_iCopyState_l2, List.append_nil]
    rw [List.take_of_length_le (by simp at h; omega)]
  | x :: xs, k, y, h1, h2 => by
    simp only [List.length_cons] at h2
    simp only [b_iCopyState_l2, lt_, idT]
    rw [gd_eq (h1 x (by simp)), gd_eq (by omega), iS_l2 s x2 y4 xs (k + 1) _ (fun z hz => h1 z (by simp [hz])) (by simp; omega), take_set_succ (by omega)]
    simp
theorem iS_l1 (s : TInferState) (x2 : List TBinding) (ho : s.obligations.length ≤ 4294967296 ∧ ∀ o ∈ s.obligations, tok o.goal.type_) : ∀ (xs : List TEquation) (k : Nat) (y : List TEquation), (∀ q ∈ xs, tok q.a ∧ tok q.b) → y.length = k + xs.length → b_iCopyState_l1 s x2 xs k y = some (TInferState.mk s.next s.count s.node x2 (y.take k ++ xs) s.obligations s.code s.at_)
  | [], k, y, _, h => by
    simp only [b_iCopyState_l1, List.append_nil]
    rw [List.take_of_length_le (by simp at h; omega), gd_eq ho.1, iS_l2 s x2 y s.obligations 0 _ ho.2 (by simp)]
    simp
  | x :: xs, k, y, h1, h2 => by
    simp only [List.length_cons] at h2
    simp only [b_iCopyState_l1, lt_, idT]
    rw [gd_eq (h1 x (by simp)).1, gd_eq (h1 x (by simp)).2, gd_eq (by omega), iS_l1 s x2 ho xs (k + 1) _ (fun z hz => h1 z (by simp [hz])) (by simp; omega), take_set_succ (by omega)]
    simp
theorem iCopyState_eq (s : TInferState) (h : isok s) : b_iCopyState s = some (idS s) := by
  simp only [b_iCopyState, lt_, idBs, idS]
  rw [gd_eq h.1, gd_eq h.2.1.1, iS_l1 s s.bindings h.2.2 s.equations 0 _ h.2.1.2 (by simp)]
  simp
theorem sS_l3 (s : TInferState) (x2 : List TBinding) (y4 : List TEquation) : ∀ (xs y : List TObligation), (∀ o ∈ xs, tok o.goal.type_) → y.length + xs.length ≤ 4294967296 → b_sCopyState_l3 s x2 y4 xs y = some (TInferState.mk s.next s.count s.node x2 y4 (y ++ xs) s.code s.at_)
  | [], y, _, _ => by simp only [b_sCopyState_l3, List.append_nil]
  | x :: xs, y, h1, h2 => by
    simp only [List.length_cons] at h2
    simp only [b_sCopyState_l3, lt_, idT]
    rw [gd_eq (h1 x (by simp)), gd_eq (by simp; omega), sS_l3 s x2 y4 xs _ (fun z hz => h1 z (by simp [hz])) (by simp; omega)]
    simp
theorem sS_l2 (s : TInferState) (x2 : List TBinding) (ho : s.obligations.length ≤ 4294967296 ∧ ∀ o ∈ s.obligations, tok o.goal.type_) : ∀ (xs y : List TEquation), (∀ q ∈ xs, tok q.a ∧ tok q.b) → y.length + xs.length ≤ 4294967296 → b_sCopyState_l2 s x2 xs y = some (TInferState.mk s.next s.count s.node x2 (y ++ xs) s.obligations s.code s.at_)
  | [], y, _, _ => by
    simp only [b_sCopyState_l2, List.append_nil]
    rw [sS_l3 s x2 y s.obligations [] ho.2 (by simpa using ho.1)]
    simp
  | x :: xs, y, h1, h2 => by
    simp only [List.length_cons] at h2
    simp only [b_sCopyState_l2, lt_, idT]
    rw [gd_eq (h1 x (by simp)).1, gd_eq (h1 x (by simp)).2, gd_eq (by simp; omega), sS_l2 s x2 ho xs _ (fun z hz => h1 z (by simp [hz])) (by simp; omega)]
    simp
theorem sS_l1 (s : TInferState) (he : s.equations.length ≤ 4294967296 ∧ ∀ q ∈ s.equations, tok q.a ∧ tok q.b) (ho : s.obligations.length ≤ 4294967296 ∧ ∀ o ∈ s.obligations, tok o.goal.type_) : ∀ (xs y : List TBinding), (∀ q ∈ xs, tok q.type_) → y.length + xs.length ≤ 4294967296 → b_sCopyState_l1 s xs y = some (TInferState.mk s.next s.count s.node (y ++ xs) s.equations s.obligations s.code s.at_)
  | [], y, _, _ => by
    simp only [b_sCopyState_l1, List.append_nil]
    rw [sS_l2 s y ho s.equations [] he.2 (by simpa using he.1)]
    simp
  | x :: xs, y, h1, h2 => by
    simp only [List.length_cons] at h2
    simp only [b_sCopyState_l1, lt_, idT]
    rw [gd_eq (h1 x (by simp)), gd_eq (by simp; omega), sS_l1 s he ho xs _ (fun z hz => h1 z (by simp [hz])) (by simp; omega)]
    simp
theorem sCopyState_eq (s : TInferState) (h : isok s) : b_sCopyState s = some (idS s) := by
  simp only [b_sCopyState, idS]
  rw [sS_l1 s h.2.1 h.2.2 s.bindings [] h.1.2 (by simpa using h.1.1)]
  simp

theorem t_iCopyState (s : TInferState) (h : isok s) : SpecO Tryd.prog 36 [.d (eInferState s)] [118, 121, 125] [eInferState (idS s)] := w_iCopyState s (iCopyState_eq s h)
theorem t_sCopyState (s : TInferState) (h : isok s) : SpecO Tryd.prog 30 [.d (eInferState s)] [118, 121, 125] [eInferState (idS s)] := w_sCopyState s (sCopyState_eq s h)
end Go.Proofs.YthojhakapbfbiaaDoor

namespace Go.Proofs.YthojhakapbfbiaaDoor
open Go Go.Eng
attribute [local irreducible] V VO VQ VY Quiet QR SpecP SpecO MSpec Rng PostP PostO PostG
def b_iFormatInt (a0 : Int) : Option (List UInt8) :=
gd (inRange a0) ((some (Lib.itoa a0)))
set_option maxHeartbeats 4000000 in
theorem w_iFormatInt (a0 : Int) {r : List UInt8} (h : b_iFormatInt a0 = some r) : SpecP Tryd.prog 54 [.d (.i .i64 a0)] [.s r] := by
  unfold b_iFormatInt at h
  refine SpecP_intro Tryd.func54 rfl (by kernel_rfl) rfl fun A _ => ?_
  refine goL ?_
  obtain ⟨g1, h⟩ := gd_s h
  refine VO_r (QR_call (t_Itoa a0 g1)) ?_
  refine goL ?_
  refine V_ret ?_
  replace h := Option.some.inj h
  subst h
  exact R_rP
def b_iVarType (a0 : List UInt8) : TType :=
(TType.mk 1 a0 [])
set_option maxHeartbeats 4000000 in
theorem w_iVarType (a0 : List UInt8) : SpecO Tryd.prog 75 [.d (.s a0)] [35] [eType (b_iVarType a0)] := by
  obtain ⟨r, h⟩ : ∃ r, b_iVarType a0 = r := ⟨_, rfl⟩
  rw [h]
  unfold b_iVarType at h
  refine SpecO_intro Tryd.func75 rfl (by kernel_rfl) rfl (by simp) fun A _ => ?_
  refine goL ?_
  refine VO_k (Q_build TBd.h TZ.h rfl (by repeat constructor)) ?_
  refine goL ?_
  refine V_adopt 35 3 0 2 rfl rfl (by repeat constructor) (by repeat constructor) (by repeat constructor) (by repeat constructor) ?_
  refine V_ret ?_
  subst h
  exact R_rO
def b_sVar (a0 : List UInt8) : TType :=
(TType.mk 1 a0 [])
set_option maxHeartbeats 4000000 in
theorem w_sVar (a0 : List UInt8) : SpecO Tryd.prog 31 [.d (.s a0)] [35] [eType (b_sVar a0)] := by
  obtain ⟨r, h⟩ : ∃ r, b_sVar a0 = r := ⟨_, rfl⟩
  rw [h]
  unfold b_sVar at h
  refine SpecO_intro Tryd.func31 rfl (by kernel_rfl) rfl (by simp) fun A _ => ?_
  refine goL ?_
  refine VO_k (Q_build TBd.h TZ.h rfl (by repeat constructor)) ?_
  refine goL ?_
  refine V_adopt 35 3 0 2 rfl rfl (by repeat constructor) (by repeat constructor) (by repeat constructor) (by repeat constructor) ?_
  refine V_ret ?_
  subst h
  exact R_rO
def b_ifresh (next : Int) (count : Int) (node : Int) (l1 : List TBinding) (l2 : List TEquation) (l3 : List TObligation) (code : Int) (att : Int) : Option (TType × Int × List TBinding × List TEquation × List TObligation) :=
bnd (b_iFormatInt next) fun x1 =>
gd (([63] : List UInt8).length + x1.length ≤ 4294967296) (
lt_ (b_iVarType (([63] : List UInt8) ++ x1)) fun x3 =>
(some (x3, (IntKind.i64.wrap (next + 1)), l1, l2, l3)))
set_option maxHeartbeats 4000000 in
theorem w_ifresh (next : Int) (count : Int) (node : Int) (l1 : List TBinding) (l2 : List TEquation) (l3 : List TObligation) (code : Int) (att : Int) (v1 : Nat) (v2 : Nat) (v3 : Nat) {r : TType × Int × List TBinding × List TEquation × List TObligation} (h : b_ifresh next count node l1 l2 l3 code att = some r) : Go.Eng.Spec Tryd.prog 37 [.ptr 0 0] [.box [.d (.i .i64 next), .d (.i .i64 count), .d (.i .i64 node), .sl 1 v1, .sl 2 v2, .sl 3 v3, .d (.i .i64 code), .d (.i .i64 att)], .own 118 4 v1 (eBindings l1), .own 121 7 v2 (eEquations l2), .own 125 5 v3 (eObligations l3)] (fun sv Lo => ∃ v'1 v'2 v'3, sv = .ag [.d (.i .i64 r.1.kind), .d (.s r.1.name), .sl 4 0] ∧ Lo = [.box [.d (.i .i64 r.2.1), .d (.i .i64 count), .d (.i .i64 node), .sl 1 v'1, .sl 2 v'2, .sl 3 v'3, .d (.i .i64 code), .d (.i .i64 att)], .own 118 4 v'1 (eBindings r.2.2.1), .own 121 7 v'2 (eEquations r.2.2.2.1), .own 125 5 v'3 (eObligations r.2.2.2.2), .own 35 3 0 (eTypes r.1.args)]) := by
  unfold b_ifresh at h
  refine Spec_intro 4 Tryd.func37 rfl (by kernel_rfl) rfl rfl fun A _ => ?_
  refine goL ?_
  refine VO_r (QR_nc) ?_
  refine goL ?_
  obtain ⟨x1, hx1, h⟩ := bnd_s h
  refine VO_r (QR_call (w_iFormatInt next hx1)) ?_
  obtain ⟨g2, h⟩ := gd_s h
  refine VO_r (QR_cat g2) ?_
  obtain ⟨x3, hx3, h⟩ := lt_x h
  obtain ⟨x3_0, x3_1, x3_2⟩ := x3
  have sx3 := w_iVarType (([63] : List UInt8) ++ x1)
  rw [hx3] at sx3
  refine VO_co (sx3) ?_
  refine goL ?_
  refine VO_r (QR_nc) ?_
  refine goL ?_
  refine VO_r (QR_ar) ?_
  refine VO_r (QR_nc) ?_
  refine goL ?_
  refine V_pk (fr' := [(2, .ptr 5 0)]) (Lc := [.box [.d (.i .i64 (IntKind.i64.wrap (next + 1))), .d (.i .i64 count), .d (.i .i64 node), .sl 1 v1, .sl 2 v2, .sl 3 v3, .d (.i .i64 code), .d (.i .i64 att)], .own 118 4 v1 (eBindings l1), .own 121 7 v2 (eEquations l2), .own 125 5 v3 (eObligations l3), .own 35 3 0 (eTypes x3_2), .box [.d (.i .i64 x3_0), .d (.s x3_1), .sl 4 0]]) 4 [0, 1, 2, 3, 5, 4] ?_
  refine V_ret ?_
  replace h := Option.some.inj h
  subst h
  exact R_rH [.ag [.d (.i .i64 x3_0), .d (.s x3_1), .sl 4 0]] [.box [.d (.i .i64 (IntKind.i64.wrap (next + 1))), .d (.i .i64 count), .d (.i .i64 node), .sl 1 v1, .sl 2 v2, .sl 3 v3, .d (.i .i64 code), .d (.i .i64 att)], .own 118 4 v1 (eBindings l1), .own 121 7 v2 (eEquations l2), .own 125 5 v3 (eObligations l3), .own 35 3 0 (eTypes x3_2)] ⟨v1, v2, v3, rfl, rfl⟩
def b_iFresh (a0 : TInferState) : Option (TInferState × TType) :=
gd (isok a0) (lt_ (idS a0) fun x2 =>
bnd (b_ifresh x2.next x2.count x2.node x2.bindings x2.equations x2.obligations x2.code x2.at_) fun x3 =>
(some ((TInferState.mk x3.2.1 x2.count x2.node x3.2.2.1 x3.2.2.2.1 x3.2.2.2.2 x2.code x2.at_), x3.1)))
set_option maxHeartbeats 4000000 in
theorem w_iFresh (a0 : TInferState) {r : TInferState × TType} (h : b_iFresh a0 = some r) : SpecO Tryd.prog 9 [.d (eInferState a0)] [118, 121, 125, 35] [eInferState r.1, eType r.2] := by
  obtain ⟨a0_0, a0_1, a0_2, a0_3, a0_4, a0_5, a0_6, a0_7⟩ := a0
  unfold b_iFresh at h
  refine SpecO_intro Tryd.func9 rfl (by kernel_rfl) rfl (by simp) fun A _ => ?_
  refine goL ?_
  obtain ⟨g1, h⟩ := gd_s h
  obtain ⟨x2, hx2, h⟩ := lt_x h
  obtain ⟨x2_0, x2_1, x2_2, x2_3, x2_4, x2_5, x2_6, x2_7⟩ := x2
  have sx2 := t_iCopyState (TInferState.mk a0_0 a0_1 a0_2 a0_3 a0_4 a0_5 a0_6 a0_7) g1
  rw [hx2] at sx2
  refine VO_co (sx2) ?_
  refine goL ?_
  obtain ⟨x3, hx3, h⟩ := bnd_s h
  obtain ⟨⟨x3_0_0, x3_0_1, x3_0_2⟩, x3_1, x3_2, x3_3, x3_4⟩ := x3
  refine VO_cG [6, 3, 4, 5] (w_ifresh x2_0 x2_1 x2_2 x2_3 x2_4 x2_5 x2_6 x2_7 0 0 0 hx3) ?_
  rintro _ _ ⟨v4, v5, v6, rfl, rfl⟩
  show VO _ _ _ _ ⟨(_, .ag [.d (.i .i64 x3_0_0), .d (.s x3_0_1), .sl 7 0]) :: _, [.box [.d (.i .i64 a0_0), .d (.i .i64 a0_1), .d (.i .i64 a0_2), .d (.sl 4 (eBindings a0_3)), .d (.sl 7 (eEquations a0_4)), .d (.sl 5 (eObligations a0_5)), .d (.i .i64 a0_6), .d (.i .i64 a0_7)], .box [.d (.i .i64 0), .d (.i .i64 0), .d (.i .i64 0), .nilsl, .nilsl, .nilsl, .d (.i .i64 0), .d (.i .i64 0)], .box [.d (.i .i64 0), .d (.s []), .nilsl], .own 118 4 v4 (eBindings x3_2), .own 121 7 v5 (eEquations x3_3), .own 125 5 v6 (eObligations x3_4), .box [.d (.i .i64 x3_1), .d (.i .i64 x2_1), .d (.i .i64 x2_2), .sl 3 v4, .sl 4 v5, .sl 5 v6, .d (.i .i64 x2_6), .d (.i .i64 x2_7)], .own 35 3 0 (eTypes x3_0_2)], _⟩ _
  refine goNL ?_
  refine V_seq_drawTJ (P := Tryd.prog) Mix.h (.h 0 (.h 1 (.h 2 (.h 3 .nil .nil) .nil) (.h 2 (.h 1 (.h 3 .nil .nil) .nil) .nil)) (.h 1 (.h 0 (.h 2 (.h 3 .nil .nil) .nil) .nil) .nil)) ⟨[(2, .ptr 1 0), (3, .ptr 2 0)], [.box [.d (.i .i64 a0_0), .d (.i .i64 a0_1), .d (.i .i64 a0_2), .d (.sl 4 (eBindings a0_3)), .d (.sl 7 (eEquations a0_4)), .d (.sl 5 (eObligations a0_5)), .d (.i .i64 a0_6), .d (.i .i64 a0_7)], .box [.d (.i .i64 x3_1), .d (.i .i64 x2_1), .d (.i .i64 x2_2), .sl 3 v4, .sl 4 v5, .sl 5 v6, .d (.i .i64 x2_6), .d (.i .i64 x2_7)], .box [.d (.i .i64 x3_0_0), .d (.s x3_0_1), .sl 7 0], .own 118 4 v4 (eBindings x3_2), .own 121 7 v5 (eEquations x3_3), .own 125 5 v6 (eObligations x3_4), .box [.d (.i .i64 x3_1), .d (.i .i64 x2_1), .d (.i .i64 x2_2), .sl 3 v4, .sl 4 v5, .sl 5 v6, .d (.i .i64 x2_6), .d (.i .i64 x2_7)], .own 35 3 0 (eTypes x3_0_2), .box [.d (.i .i64 x3_0_0), .d (.s x3_0_1), .sl 7 0]], Tryd.f9.ntmps⟩ (by kernel_rfl) ?_ ?_
  · refine VT_h (VY_dh VY_e) ?_ ?_
    · refine VT_h (VY_dh VY_e) ?_ ?_
      · refine goT ?_
        refine VT_nil ?_
        exact R_pk 0 [0, 1, 2, 3, 4, 5, 6, 7, 8]
      refine goT ?_
      refine VT_h1 (VY_dh VY_e) ?_
      refine goT ?_
      refine VT_nil ?_
      exact R_pk 0 [0, 1, 2, 3, 4, 5, 6, 7, 8]
    refine VT_h1 (VY_dh VY_e) ?_
    refine VT_h1 (VY_dh VY_e) ?_
    refine goT ?_
    refine VT_nil ?_
    exact R_pk 0 [0, 1, 2, 3, 4, 5, 6, 7, 8]
  refine goL ?_
  refine V_ret ?_
  replace h := Option.some.inj h
  subst h
  exact R_rO
def b_sFresh (a0 : TInferState) : Option (TInferState × TType) :=
gd (isok a0) (lt_ (idS a0) fun x2 =>
gd (inRange a0.next) (gd (([63] : List UInt8).length + (Lib.itoa a0.next).length ≤ 4294967296) (
lt_ (b_sVar (([63] : List UInt8) ++ (Lib.itoa a0.next))) fun x5 =>
(some ((TInferState.mk (IntKind.i64.wrap (a0.next + 1)) x2.count x2.node x2.bindings x2.equations x2.obligations x2.code x2.at_), x5)))))
set_option maxHeartbeats 4000000 in
theorem w_sFresh (a0 : TInferState) {r : TInferState × TType} (h : b_sFresh a0 = some r) : SpecO Tryd.prog 7 [.d (eInferState a0)] [118, 121, 125, 35] [eInferState r.1, eType r.2] := by
  obtain ⟨a0_0, a0_1, a0_2, a0_3, a0_4, a0_5, a0_6, a0_7⟩ := a0
  unfold b_sFresh at h
  refine SpecO_intro Tryd.func7 rfl (by kernel_rfl) rfl (by simp) fun A _ => ?_
  refine goL ?_
  obtain ⟨g1, h⟩ := gd_s h
  obtain ⟨x2, hx2, h⟩ := lt_x h
  obtain ⟨x2_0, x2_1, x2_2, x2_3, x2_4, x2_5, x2_6, x2_7⟩ := x2
  have sx2 := t_sCopyState (TInferState.mk a0_0 a0_1 a0_2 a0_3 a0_4 a0_5 a0_6 a0_7) g1
  rw [hx2] at sx2
  refine VO_co (sx2) ?_
  refine goL ?_
  refine VO_r (QR_ar) ?_
  refine goNL ?_
  refine V_seq_drawX (P := Tryd.prog) Mix.h [(0, true), (1, true), (2, true), (3, true), (4, true), (5, false), (6, false), (7, false)] (by kernel_rfl) ?_
  refine goY ?_
  obtain ⟨g3, h⟩ := gd_s h
  refine VY_ri rfl (QR_call (t_sFormatInt a0_0 g3)) ?_
  obtain ⟨g4, h⟩ := gd_s h
  refine VY_ri rfl (QR_cat g4) ?_
  obtain ⟨x5, hx5, h⟩ := lt_x h
  obtain ⟨x5_0, x5_1, x5_2⟩ := x5
  have sx5 := w_sVar (([63] : List UInt8) ++ (Lib.itoa a0_0))
  rw [hx5] at sx5
  refine VY_co (sx5) ?_
  refine goY ?_
  refine VY_nil ?_
  refine goL ?_
  refine V_ret ?_
  replace h := Option.some.inj h
  subst h
  exact R_rO
/-! ### weights and shapes of types, by hand -/
mutual
theorem tnd_W : ∀ (t : TType), tnd t ≤ 1 + W (eType t)
  | ⟨k, n, ts⟩ => by
    simp only [tnd, eType, W, Ws]
    have h1 := tnds_W ts
    have h2 : (eTypes ts).length = ts.length := Enc.len ts
    omega
theorem tnds_W : ∀ (ts : List TType), tnds ts ≤ ts.length + Ws (eTypes ts)
  | [] => by simp [tnds]
  | a :: ts => by
    simp only [tnds, eTypes, Ws, List.length_cons]
    have h1 := tnd_W a
    have h2 := tnds_W ts
    omega
end
mutual
theorem tok_W : ∀ (t : TType), W (eType t) ≤ 4294967296 → tok t
  | ⟨k, n, ts⟩, h => by
    simp only [eType, W, Ws] at h
    have h2 : (eTypes ts).length = ts.length := Enc.len ts
    simp only [tok]
    exact ⟨by omega, tall_W ts (by omega)⟩
theorem tall_W : ∀ (ts : List TType), Ws (eTypes ts) ≤ 4294967296 → tall ts
  | [], _ => by simp [tall]
  | a :: ts, h => by
    simp only [eTypes, Ws] at h
    simp only [tall]
    exact ⟨tok_W a (by omega), tall_W ts (by omega)⟩
end

/-! ### FreshVariable, by hand -/
def nxS (s : TInferState) : TInferState := TInferState.mk (IntKind.i64.wrap (s.next + 1)) s.count s.node s.bindings s.equations s.obligations s.code s.at_
def nxT (s : TInferState) : TType := TType.mk 1 (([63] : List UInt8) ++ Lib.itoa s.next) []
theorem ifresh_eq (s : TInferState) (hr : inRange s.next) : b_ifresh s.next s.count s.node s.bindings s.equations s.obligations s.code s.at_ = some (nxT s, IntKind.i64.wrap (s.next + 1), s.bindings, s.equations, s.obligations) := by
  have hl := Lib.itoa_length_le s.next hr.1 hr.2
  simp only [b_ifresh, b_iFormatInt]
  rw [gd_eq hr]
  simp only [bnd, lt_]
  rw [gd_eq (by simp; omega)]
  rfl
theorem iFresh_eq (s : TInferState) (h : isok s) (hr : inRange s.next) : b_iFresh s = some (nxS s, nxT s) := by
  unfold b_iFresh
  rw [gd_eq h]
  show bnd (b_ifresh s.next s.count s.node s.bindings s.equations s.obligations s.code s.at_) _ = _
  rw [ifresh_eq s hr]
  rfl
theorem sFresh_eq (s : TInferState) (h : isok s) (hr : inRange s.next) : b_sFresh s = some (nxS s, nxT s) := by
  have hl := Lib.itoa_length_le s.next hr.1 hr.2
  unfold b_sFresh
  rw [gd_eq h]
  simp only [lt_]
  rw [gd_eq hr, gd_eq (by simp; omega)]
  rfl
theorem wrap_inR (n : Int) : inRange (IntKind.i64.wrap n) := by
  rw [IntWalk.i64_left n]
  unfold inRange RowKit.wrap64
  omega
theorem bothFs {u : U} (h : wt (.st 24) u) : ∃ r0 r1, wt (.st 24) r0 ∧ wt (.st 1) r1 ∧ (W u ≤ 1048576 → SpecP Tryd.prog 7 [.d u] [r0, r1] ∧ SpecO Tryd.prog 9 [.d u] [118, 121, 125, 35] [r0, r1] ∧ W r0 ≤ 1048576 ∧ W r1 ≤ 1048576) := by
  obtain ⟨s, rfl⟩ := ofInferState u h
  obtain ⟨f0, f1, f2, bs, es_, obs, f6, f7⟩ := s
  have h' := h
  simp only [eInferState, wt] at h'
  have hfl : flds 24 = [.int, .int, .int, .sl (.st 2), .sl (.st 22), .sl (.st 23), .int, .int] := rfl
  rw [hfl] at h'
  simp only [wts] at h'
  obtain ⟨p0, p1⟩ := h'
  have hr : inRange f0 := by simpa [wt] using p0
  have hl := Lib.itoa_length_le f0 hr.1 hr.2
  refine ⟨eInferState (nxS ⟨f0, f1, f2, bs, es_, obs, f6, f7⟩), eType (nxT ⟨f0, f1, f2, bs, es_, obs, f6, f7⟩), ?_, ?_, fun hw => ?_⟩
  · simp only [nxS, eInferState, wt]
    rw [hfl]
    simp only [wts]
    exact ⟨by simp only [wt, true_and]; exact wrap_inR _, p1⟩
  · simp only [nxT, eType, wt]
    have : flds 1 = [.int, .str, .sl (.st 1)] := rfl
    rw [this]
    simp only [wts, wt]
    refine ⟨by simp [inRange], by simp only [List.length_append, List.length_singleton]; rw [big_eq]; omega, ⟨rfl, by simp [eTypes, big_eq], by simp [eTypes, wta]⟩, trivial⟩
  · have hok : isok ⟨f0, f1, f2, bs, es_, obs, f6, f7⟩ := by
      simp only [eInferState, W, Ws] at hw
      have l1 : (eBindings bs).length = bs.length := Enc.len bs
      have l2 : (eEquations es_).length = es_.length := Enc.len es_
      have l3 : (eObligations obs).length = obs.length := Enc.len obs
      refine ⟨⟨by show bs.length ≤ _; omega, fun b hb => ?_⟩, ⟨by show es_.length ≤ _; omega, fun q hq => ?_⟩, by show obs.length ≤ _; omega, fun o ho => ?_⟩
      · have h1 : eBinding b ∈ eBindings bs := by
          rw [show eBindings bs = bs.map eBinding from Enc.h bs]
          exact List.mem_map_of_mem hb
        have h2 := W_le_of_mem h1
        obtain ⟨v, t⟩ := b
        simp only [eBinding, W, Ws] at h2
        exact tok_W t (by omega)
      · have h1 : eEquation q ∈ eEquations es_ := by
          rw [show eEquations es_ = es_.map eEquation from Enc.h es_]
          exact List.mem_map_of_mem hq
        have h2 := W_le_of_mem h1
        obtain ⟨a, b, n⟩ := q
        simp only [eEquation, W, Ws] at h2
        exact ⟨tok_W a (by omega), tok_W b (by omega)⟩
      · have h1 : eObligation o ∈ eObligations obs := by
          rw [show eObligations obs = obs.map eObligation from Enc.h obs]
          exact List.mem_map_of_mem ho
        have h2 := W_le_of_mem h1
        obtain ⟨⟨g, t⟩, n⟩ := o
        simp only [eObligation, eBound, W, Ws] at h2
        exact tok_W t (by omega)
    refine ⟨(w_sFresh _ (sFresh_eq _ hok hr)).p, w_iFresh _ (iFresh_eq _ hok hr), ?_, ?_⟩
    · simp only [nxS, eInferState, W, Ws] at hw ⊢
      omega
    · simp only [nxT, eType, W, Ws, List.length_append, List.length_singleton, eTypes, List.length_nil]
      omega

end Go.Proofs.YthojhakapbfbiaaDoor

