/- Un1. Written by a program of mine (aw.py). -/
import Derived.Test.YtgmlpaaklnkghaaGreatEng39
import Derived.Test.YtgmlpaaklnkghaaGreatEng60
import Derived.Test.YtgmlpaaklnkghaaGreatEng61
set_option linter.unusedVariables false
set_option linter.unusedSimpArgs false
set_option linter.unusedSectionVars false
namespace Go.Proofs.YtgmlpaaklnkghaaGreat
open Go Go.Eng
attribute [local irreducible] V VO VQ VY Quiet QR SpecP SpecO Rng PostP PostO PostG
/-! ### types, by hand -/
mutual
def tnd : TType → Nat
  | ⟨_, _, ts⟩ => 1 + tnds ts
def tnds : List TType → Nat
  | [] => 0
  | a :: ts => tnd a + tnds ts
end
mutual
/-- No list in it is longer than 2^32. -/
def tok : TType → Prop
  | ⟨_, _, ts⟩ => ts.length ≤ 4294967296 ∧ tall ts
def tall : List TType → Prop
  | [] => True
  | a :: ts => tok a ∧ tall ts
end
def tsok (ts : List TType) : Prop := ts.length ≤ 4294967296 ∧ tall ts
theorem tall_iff : ∀ {ts : List TType}, tall ts ↔ ∀ t ∈ ts, tok t
  | [] => by simp [tall]
  | a :: ts => by simp [tall, tall_iff (ts := ts)]
theorem tnd_mem {x : TType} : ∀ {ts : List TType}, x ∈ ts → tnd x ≤ tnds ts
  | [], h => by simp at h
  | a :: ts, h => by
    simp only [tnds]
    rcases List.mem_cons.1 h with rfl | h
    · omega
    · have := tnd_mem h
      omega
theorem tnd_pos (t : TType) : 1 ≤ tnd t := by cases t; simp only [tnd]; omega
def idT (t : TType) : TType := t
def idTs (t : List TType) : List TType := t
mutual
def tokB : TType → Bool
  | ⟨_, _, ts⟩ => decide (ts.length ≤ 4294967296) && tallB ts
def tallB : List TType → Bool
  | [] => true
  | a :: ts => tokB a && tallB ts
end
mutual
theorem tokB_iff : ∀ (t : TType), tokB t = true ↔ tok t
  | ⟨k, n, ts⟩ => by simp only [tokB, tok, Bool.and_eq_true, decide_eq_true_eq, tallB_iff ts]
theorem tallB_iff : ∀ (ts : List TType), tallB ts = true ↔ tall ts
  | [] => by simp [tallB, tall]
  | a :: ts => by simp only [tallB, tall, Bool.and_eq_true, tokB_iff a, tallB_iff ts]
end
instance (t : TType) : Decidable (tok t) := decidable_of_iff _ (tokB_iff t)
def b_iCopyType (rec_iCopyType : TType → Option (TType)) (rec_iCopyTypes : (List TType) → Option (List TType)) (a0 : TType) : Option (TType) :=
bnd (rec_iCopyTypes a0.args) fun x1 =>
(some (TType.mk a0.kind a0.name x1))
set_option maxHeartbeats 4000000 in
theorem w_iCopyType {rec_iCopyType : TType → Option (TType)} {rec_iCopyTypes : (List TType) → Option (List TType)} (hrec_iCopyType : ∀ (x0 : TType) {r : TType}, rec_iCopyType x0 = some r → SpecO Tryz.prog 52 [.d (eType x0)] [27] [eType r]) (hrec_iCopyTypes : ∀ (x0 : List TType) {r : List TType}, rec_iCopyTypes x0 = some r → SpecO Tryz.prog 81 [.d (.sl 3 (eTypes x0))] [27] [.sl 3 (eTypes r)]) (a0 : TType) {r : TType} (h : b_iCopyType rec_iCopyType rec_iCopyTypes a0 = some r) : SpecO Tryz.prog 52 [.d (eType a0)] [27] [eType r] := by
  obtain ⟨a0_0, a0_1, a0_2⟩ := a0
  unfold b_iCopyType at h
  refine SpecO_intro Tryz.func52 rfl (by kernel_rfl) rfl (by simp) fun A _ => ?_
  refine goL ?_
  obtain ⟨x1, hx1, h⟩ := bnd_s h
  refine VO_co (hrec_iCopyTypes a0_2 hx1) ?_
  refine goL ?_
  refine V_ret ?_
  replace h := Option.some.inj h
  subst h
  exact R_rO
def b_iCopyTypes_l1 (rec_iCopyType : TType → Option (TType)) : List TType → Nat → (List TType) → Option (List TType)
  | [], y4, y2 => (some y2)
  | x7 :: xs, y4, y2 => bnd (rec_iCopyType x7) fun x8 =>
gd (y4 < y2.length) (
b_iCopyTypes_l1 rec_iCopyType xs (y4 + 1) (y2.set y4 x8))
def b_iCopyTypes (rec_iCopyType : TType → Option (TType)) (rec_iCopyTypes : (List TType) → Option (List TType)) (a0 : List TType) : Option (List TType) :=
gd (a0.length ≤ 4294967296) (
b_iCopyTypes_l1 rec_iCopyType a0 0 (List.replicate a0.length (TType.mk 0 [] [])))
set_option maxHeartbeats 4000000 in
theorem w_iCopyTypes {rec_iCopyType : TType → Option (TType)} {rec_iCopyTypes : (List TType) → Option (List TType)} (hrec_iCopyType : ∀ (x0 : TType) {r : TType}, rec_iCopyType x0 = some r → SpecO Tryz.prog 52 [.d (eType x0)] [27] [eType r]) (hrec_iCopyTypes : ∀ (x0 : List TType) {r : List TType}, rec_iCopyTypes x0 = some r → SpecO Tryz.prog 81 [.d (.sl 3 (eTypes x0))] [27] [.sl 3 (eTypes r)]) (a0 : List TType) {r : List TType} (h : b_iCopyTypes rec_iCopyType rec_iCopyTypes a0 = some r) : SpecO Tryz.prog 81 [.d (.sl 3 (eTypes a0))] [27] [.sl 3 (eTypes r)] := by
  unfold b_iCopyTypes at h
  refine SpecO_intro Tryz.func81 rfl (by kernel_rfl) rfl (by simp) fun A _ => ?_
  refine goL ?_
  obtain ⟨g1, h⟩ := gd_s h
  refine VO_mk (TType.mk 0 [] []) g1 ?_
  refine goL ?_
  refine V_block ?_
  show V _ _ _ _ _
  refine V_bd 9 (fun z5 => ?_)
  refine V_loop3 (fun (y4 : Nat) (y2 : List TType) (v3 : Nat) => ⟨[(3, .sl 0 v3), (9, .d (.sl 3 (eTypes a0))), (10, .d (.i .i64 (a0.length : Int))), (11, .d (.i .i64 (y4 : Int)))], [.own 27 3 v3 (eTypes y2)], Tryz.f81.ntmps⟩) (fun y4 y2 v3 => b_iCopyTypes_l1 rec_iCopyType (a0.drop y4) y4 y2 = some r) (fun y4 y2 v3 => a0.length - y4) 0 (List.replicate a0.length (TType.mk 0 [] [])) 0 ⟨rfl, ⟨⟨rfl, rfl⟩, ⟨rfl, rfl⟩, ⟨rfl, rfl⟩, ⟨rfl, rfl⟩, trivial⟩, ⟨[], rfl⟩, rfl⟩ h ?_
  rintro y4 y2 v3 h
  refine goL ?_
  refine V_seq (V_cb (fun c6 => ?_) (fun c6 => ?_))
  · have hky42 := kltN c6
    obtain ⟨x7, hx7, hdx7⟩ := drop_at hky42
    rw [hdx7, b_iCopyTypes_l1.eq_2] at h
    obtain ⟨x7_0, x7_1, x7_2⟩ := x7
    refine V_skip ?_
    show V _ _ _ _ _
    refine V_seq (V_block ?_)
    refine goL ?_
    refine VO_r (QR_ixn y4 (gType hx7)) ?_
    refine goL ?_
    obtain ⟨x8, hx8, h⟩ := bnd_s h
    obtain ⟨x8_0, x8_1, x8_2⟩ := x8
    refine VO_co (hrec_iCopyType (TType.mk x7_0 x7_1 x7_2) hx8) ?_
    obtain ⟨g9, h⟩ := gd_s h
    refine VO_k (Q_ixo y4 g9) ?_
    refine VO_st (TType.mk x8_0 x8_1 x8_2) g9 ?_
    refine goL ?_
    refine VO_r (QR_inc y4 (by omega)) ?_
    refine goL ?_
    exact ⟨(y4 + 1), (y2.set y4 (TType.mk x8_0 x8_1 x8_2)), v3, h, by omega, ⟨rfl, ⟨⟨rfl, rfl⟩, ⟨rfl, rfl⟩, ⟨rfl, rfl⟩, ⟨rfl, rfl⟩, trivial⟩, ⟨_, rfl⟩, rfl⟩⟩
  · have hky42 := kgeN c6
    rw [drop_end hky42, b_iCopyTypes_l1.eq_1] at h
    refine V_exit ?_
    show V _ _ _ _ _
    refine goL ?_
    refine V_ret ?_
    replace h := Option.some.inj h
    subst h
    exact R_rO
mutual
def m_iCopyType : Nat → TType → Option (TType)
  | 0, _ => none
  | n + 1, x0 => b_iCopyType (m_iCopyType n) (m_iCopyTypes n) x0
def m_iCopyTypes : Nat → (List TType) → Option (List TType)
  | 0, _ => none
  | n + 1, x0 => b_iCopyTypes (m_iCopyType n) (m_iCopyTypes n) x0
end
theorem ss_iCopyType : ∀ (n : Nat), (∀ (x0 : TType) {r : TType}, m_iCopyType n x0 = some r → SpecO Tryz.prog 52 [.d (eType x0)] [27] [eType r]) ∧ (∀ (x0 : List TType) {r : List TType}, m_iCopyTypes n x0 = some r → SpecO Tryz.prog 81 [.d (.sl 3 (eTypes x0))] [27] [.sl 3 (eTypes r)]) := by
  intro n
  induction n with
  | zero => exact ⟨(by intro x0 r h; cases h), (by intro x0 r h; cases h)⟩
  | succ n ih =>
    obtain ⟨ih0, ih1⟩ := ih
    refine ⟨(fun x0 r h => w_iCopyType ih0 ih1 x0 h), (fun x0 r h => w_iCopyTypes ih0 ih1 x0 h)⟩
theorem s_iCopyType : ∀ (n : Nat) (x0 : TType) {r : TType}, m_iCopyType n x0 = some r → SpecO Tryz.prog 52 [.d (eType x0)] [27] [eType r] := fun n => (ss_iCopyType n).1
def b_sCopyType (rec_sCopyType : TType → Option (TType)) (rec_sCopyTypes : (List TType) → Option (List TType)) (a0 : TType) : Option (TType) :=
bnd (rec_sCopyTypes a0.args) fun x1 =>
(some (TType.mk a0.kind a0.name x1))
set_option maxHeartbeats 4000000 in
theorem w_sCopyType {rec_sCopyType : TType → Option (TType)} {rec_sCopyTypes : (List TType) → Option (List TType)} (hrec_sCopyType : ∀ (x0 : TType) {r : TType}, rec_sCopyType x0 = some r → SpecO Tryz.prog 69 [.d (eType x0)] [27] [eType r]) (hrec_sCopyTypes : ∀ (x0 : List TType) {r : List TType}, rec_sCopyTypes x0 = some r → SpecO Tryz.prog 92 [.d (.sl 3 (eTypes x0))] [27] [.sl 3 (eTypes r)]) (a0 : TType) {r : TType} (h : b_sCopyType rec_sCopyType rec_sCopyTypes a0 = some r) : SpecO Tryz.prog 69 [.d (eType a0)] [27] [eType r] := by
  obtain ⟨a0_0, a0_1, a0_2⟩ := a0
  unfold b_sCopyType at h
  refine SpecO_intro Tryz.func69 rfl (by kernel_rfl) rfl (by simp) fun A _ => ?_
  refine goNL ?_
  refine V_seq_drawX (P := Tryz.prog) Mix.h [(0, true), (1, true), (2, true), (3, true), (4, true), (5, true), (6, false), (7, true), (8, false)] (by kernel_rfl) ?_
  refine goY ?_
  obtain ⟨x1, hx1, h⟩ := bnd_s h
  refine VY_co (hrec_sCopyTypes a0_2 hx1) ?_
  refine goY ?_
  refine VY_nil ?_
  refine goL ?_
  refine V_ret ?_
  replace h := Option.some.inj h
  subst h
  exact R_rO
def b_sCopyTypes_l1 (rec_sCopyType : TType → Option (TType)) : List TType → (List TType) → Option (List TType)
  | [], y1 => (some y1)
  | x6 :: xs, y1 => bnd (rec_sCopyType x6) fun x7 =>
gd (y1.length + [x7].length ≤ 4294967296) (
b_sCopyTypes_l1 rec_sCopyType xs (y1 ++ [x7]))
def b_sCopyTypes (rec_sCopyType : TType → Option (TType)) (rec_sCopyTypes : (List TType) → Option (List TType)) (a0 : List TType) : Option (List TType) :=
b_sCopyTypes_l1 rec_sCopyType a0 []
set_option maxHeartbeats 4000000 in
theorem w_sCopyTypes {rec_sCopyType : TType → Option (TType)} {rec_sCopyTypes : (List TType) → Option (List TType)} (hrec_sCopyType : ∀ (x0 : TType) {r : TType}, rec_sCopyType x0 = some r → SpecO Tryz.prog 69 [.d (eType x0)] [27] [eType r]) (hrec_sCopyTypes : ∀ (x0 : List TType) {r : List TType}, rec_sCopyTypes x0 = some r → SpecO Tryz.prog 92 [.d (.sl 3 (eTypes x0))] [27] [.sl 3 (eTypes r)]) (a0 : List TType) {r : List TType} (h : b_sCopyTypes rec_sCopyType rec_sCopyTypes a0 = some r) : SpecO Tryz.prog 92 [.d (.sl 3 (eTypes a0))] [27] [.sl 3 (eTypes r)] := by
  unfold b_sCopyTypes at h
  refine SpecO_intro Tryz.func92 rfl (by kernel_rfl) rfl (by simp) fun A _ => ?_
  refine goL ?_
  refine VO_l0 ?_
  refine goL ?_
  refine V_block ?_
  show V _ _ _ _ _
  refine V_bd 0 (fun z4 => ?_)
  refine V_loop3 (fun (y3 : Nat) (y1 : List TType) (v2 : Nat) => ⟨[(0, .d (.sl 3 (eTypes a0))), (3, .sl 0 v2), (4, .d (.i .i64 (y3 : Int)))], [.own 27 3 v2 (eTypes y1)], Tryz.f92.ntmps⟩) (fun y3 y1 v2 => b_sCopyTypes_l1 rec_sCopyType (a0.drop y3) y1 = some r) (fun y3 y1 v2 => a0.length - y3) 0 [] 0 ⟨rfl, ⟨⟨rfl, rfl⟩, ⟨rfl, rfl⟩, ⟨rfl, rfl⟩, trivial⟩, ⟨[], rfl⟩, rfl⟩ h ?_
  rintro y3 y1 v2 h
  refine goL ?_
  refine V_cb (fun c5 => ?_) (fun c5 => ?_)
  · have hky32 := kltN c5
    obtain ⟨x6, hx6, hdx6⟩ := drop_at hky32
    rw [hdx6, b_sCopyTypes_l1.eq_2] at h
    obtain ⟨x6_0, x6_1, x6_2⟩ := x6
    refine V_skip ?_
    show V _ _ _ _ _
    refine V_seq (V_block ?_)
    refine goL ?_
    refine VO_r (QR_ixn y3 (gType hx6)) ?_
    refine goL ?_
    obtain ⟨x7, hx7, h⟩ := bnd_s h
    obtain ⟨x7_0, x7_1, x7_2⟩ := x7
    refine VO_co (hrec_sCopyType (TType.mk x6_0 x6_1 x6_2) hx7) ?_
    refine VO_l1t (TType.mk x7_0 x7_1 x7_2) ?_
    obtain ⟨g8, h⟩ := gd_s h
    refine VO_ap g8 ?_
    refine goL ?_
    refine VO_r (QR_inc y3 (by omega)) ?_
    refine goL ?_
    exact ⟨(y3 + 1), (y1 ++ [(TType.mk x7_0 x7_1 x7_2)]), (v2 + 1), h, by omega, ⟨rfl, ⟨⟨rfl, rfl⟩, ⟨rfl, rfl⟩, ⟨rfl, rfl⟩, trivial⟩, ⟨_, rfl⟩, rfl⟩⟩
  · have hky32 := kgeN c5
    rw [drop_end hky32, b_sCopyTypes_l1.eq_1] at h
    refine V_exit ?_
    show V _ _ _ _ _
    refine goL ?_
    refine V_ret ?_
    replace h := Option.some.inj h
    subst h
    exact R_rO
mutual
def m_sCopyType : Nat → TType → Option (TType)
  | 0, _ => none
  | n + 1, x0 => b_sCopyType (m_sCopyType n) (m_sCopyTypes n) x0
def m_sCopyTypes : Nat → (List TType) → Option (List TType)
  | 0, _ => none
  | n + 1, x0 => b_sCopyTypes (m_sCopyType n) (m_sCopyTypes n) x0
end
theorem ss_sCopyType : ∀ (n : Nat), (∀ (x0 : TType) {r : TType}, m_sCopyType n x0 = some r → SpecO Tryz.prog 69 [.d (eType x0)] [27] [eType r]) ∧ (∀ (x0 : List TType) {r : List TType}, m_sCopyTypes n x0 = some r → SpecO Tryz.prog 92 [.d (.sl 3 (eTypes x0))] [27] [.sl 3 (eTypes r)]) := by
  intro n
  induction n with
  | zero => exact ⟨(by intro x0 r h; cases h), (by intro x0 r h; cases h)⟩
  | succ n ih =>
    obtain ⟨ih0, ih1⟩ := ih
    refine ⟨(fun x0 r h => w_sCopyType ih0 ih1 x0 h), (fun x0 r h => w_sCopyTypes ih0 ih1 x0 h)⟩
theorem s_sCopyType : ∀ (n : Nat) (x0 : TType) {r : TType}, m_sCopyType n x0 = some r → SpecO Tryz.prog 69 [.d (eType x0)] [27] [eType r] := fun n => (ss_sCopyType n).1
/-! ### copies, by hand -/
theorem take_set_succ {α : Type} {l : List α} {k : Nat} {x : α} (h : k < l.length) : (l.set k x).take (k + 1) = l.take k ++ [x] := by
  apply List.ext_getElem?
  intro i
  rw [List.getElem?_take, List.getElem?_append, List.length_take, List.getElem?_take, List.getElem?_set]
  have hm : min k l.length = k := Nat.min_eq_left (by omega)
  rw [hm]
  by_cases h1 : i < k
  · rw [if_pos (by omega), if_neg (by omega), if_pos h1, if_pos h1]
  · rw [if_neg h1]
    by_cases h2 : i = k
    · subst h2
      rw [if_pos (by omega), if_pos rfl, if_pos h]
      simp
    · rw [if_neg (by omega), List.getElem?_eq_none (by simp; omega)]
theorem iCopyTypes_l1_eq {rec : TType → Option TType} : ∀ (xs : List TType) (k : Nat) (y : List TType), (∀ x ∈ xs, rec x = some x) → y.length = k + xs.length → b_iCopyTypes_l1 rec xs k y = some (y.take k ++ xs)
  | [], k, y, _, h => by
    simp only [b_iCopyTypes_l1, List.append_nil]
    rw [List.take_of_length_le (by simp at h; omega)]
  | x :: xs, k, y, h1, h2 => by
    simp only [b_iCopyTypes_l1]
    rw [h1 x (by simp)]
    simp only [bnd, List.length_cons] at h2 ⊢
    rw [gd_eq (by omega), iCopyTypes_l1_eq xs (k + 1) _ (fun z hz => h1 z (by simp [hz])) (by simp; omega), take_set_succ (by omega)]
    simp
theorem iCopy_eq : ∀ (n : Nat), (∀ t : TType, 2 * tnd t ≤ n → tok t → m_iCopyType n t = some (idT t)) ∧ (∀ ts : List TType, 2 * tnds ts + 1 ≤ n → tsok ts → m_iCopyTypes n ts = some (idTs ts))
  | 0 => ⟨fun t h => by have := tnd_pos t; omega, fun ts h => by omega⟩
  | n + 1 => by
    obtain ⟨h1, h2⟩ := iCopy_eq n
    refine ⟨fun t hn ht => ?_, fun ts hn ht => ?_⟩
    · obtain ⟨k, s, ts⟩ := t
      simp only [tnd] at hn
      simp only [m_iCopyType, b_iCopyType]
      rw [h2 ts (by omega) (by simpa only [tok, tsok] using ht)]
      rfl
    · simp only [m_iCopyTypes, b_iCopyTypes]
      rw [gd_eq ht.1, iCopyTypes_l1_eq ts 0 _ (fun x hx => h1 x (by have := tnd_mem hx; omega) (tall_iff.1 ht.2 x hx)) (by simp)]
      simp [idTs]
theorem sCopyTypes_l1_eq {rec : TType → Option TType} : ∀ (xs : List TType) (y : List TType), (∀ x ∈ xs, rec x = some x) → y.length + xs.length ≤ 4294967296 → b_sCopyTypes_l1 rec xs y = some (y ++ xs)
  | [], y, _, h => by simp [b_sCopyTypes_l1]
  | x :: xs, y, h1, h2 => by
    simp only [b_sCopyTypes_l1]
    rw [h1 x (by simp)]
    simp only [bnd, List.length_cons, List.length_nil] at h2 ⊢
    rw [gd_eq (by omega), sCopyTypes_l1_eq xs _ (fun z hz => h1 z (by simp [hz])) (by simp; omega)]
    simp
theorem sCopy_eq : ∀ (n : Nat), (∀ t : TType, 2 * tnd t ≤ n → tok t → m_sCopyType n t = some (idT t)) ∧ (∀ ts : List TType, 2 * tnds ts + 1 ≤ n → tsok ts → m_sCopyTypes n ts = some (idTs ts))
  | 0 => ⟨fun t h => by have := tnd_pos t; omega, fun ts h => by omega⟩
  | n + 1 => by
    obtain ⟨h1, h2⟩ := sCopy_eq n
    refine ⟨fun t hn ht => ?_, fun ts hn ht => ?_⟩
    · obtain ⟨k, s, ts⟩ := t
      simp only [tnd] at hn
      simp only [m_sCopyType, b_sCopyType]
      rw [h2 ts (by omega) (by simpa only [tok, tsok] using ht)]
      rfl
    · simp only [m_sCopyTypes, b_sCopyTypes]
      rw [sCopyTypes_l1_eq ts _ (fun x hx => h1 x (by have := tnd_mem hx; omega) (tall_iff.1 ht.2 x hx)) (by simpa using ht.1)]
      simp [idTs]
theorem t_iCopyType (x0 : TType) (h : tok x0) : SpecO Tryz.prog 52 [.d (eType x0)] [27] [eType (idT x0)] := s_iCopyType (2 * tnd x0) x0 ((iCopy_eq _).1 _ (Nat.le_refl _) h)
theorem t_sCopyType (x0 : TType) (h : tok x0) : SpecO Tryz.prog 69 [.d (eType x0)] [27] [eType (idT x0)] := s_sCopyType (2 * tnd x0) x0 ((sCopy_eq _).1 _ (Nat.le_refl _) h)
def b_EqualFuncT_l1 (a1 : List TType) (a2 : TType → TType → Option Bool) : List TType → Nat → Option (Bool)
  | [], y2 => (some true)
  | x5 :: xs, y2 => bnd (at? a1 (y2 : Int)) fun x6 =>
bnd (a2 x5 x6) fun x7 =>
(cnd (!x7) (
(some false)) (
b_EqualFuncT_l1 a1 a2 xs (y2 + 1)))
def b_EqualFuncT (a0 : List TType) (a1 : List TType) (a2 : TType → TType → Option Bool) : Option (Bool) :=
(cnd ((a0.length : Int) != (a1.length : Int)) (
(some false)) (
b_EqualFuncT_l1 a1 a2 a0 0))
set_option maxHeartbeats 4000000 in
theorem w_EqualFuncT (a0 : List TType) (a1 : List TType) {a2f : Nat} {a2c : List SV} {a2 : TType → TType → Option Bool} (a2_lt : ∀ n, SV.lts n a2c = true) (ha2 : ∀ (x0 : TType) (x1 : TType) (r : Bool), a2 x0 x1 = some r → SpecP Tryz.prog a2f ([.d (eType x0), .d (eType x1)] ++ a2c) [.b r]) {r : Bool} (h : b_EqualFuncT a0 a1 a2 = some r) : SpecP Tryz.prog 101 [.d (.sl 3 (eTypes a0)), .d (.sl 3 (eTypes a1)), .fn a2f a2c] [.b r] := by
  unfold b_EqualFuncT at h
  refine SpecP_intro Tryz.func101 rfl (by kernel_rfl) rfl fun A _ => ?_
  refine goL ?_
  refine V_cb (fun c1 => ?_) (fun c1 => ?_)
  · replace h := cnd_t c1 h
    refine goL ?_
    refine V_ret ?_
    replace h := Option.some.inj h
    subst h
    exact R_rP
  · replace h := cnd_f c1 h
    refine V_skip ?_
    show V _ _ _ _ _
    refine goL ?_
    refine V_block ?_
    show V _ _ _ _ _
    refine V_bd 15 (fun z3 => ?_)
    refine V_loop1 (fun (y2 : Nat) => ⟨[(1, .d (.sl 3 (eTypes a1))), (2, .fn a2f a2c), (15, .d (.sl 3 (eTypes a0))), (16, .d (.i .i64 (a0.length : Int))), (17, .d (.i .i64 (y2 : Int)))], [], Tryz.f101.ntmps⟩) (fun y2 => b_EqualFuncT_l1 a1 a2 (a0.drop y2) y2 = some r) (fun y2 => a0.length - y2) 0 ⟨rfl, ⟨⟨rfl, rfl⟩, ⟨rfl, a2_lt _⟩, ⟨rfl, rfl⟩, ⟨rfl, rfl⟩, ⟨rfl, rfl⟩, trivial⟩, ⟨[], rfl⟩, rfl⟩ h ?_
    rintro y2 h
    refine goL ?_
    refine V_seq (V_cb (fun c4 => ?_) (fun c4 => ?_))
    · have hky22 := kltN c4
      obtain ⟨x5, hx5, hdx5⟩ := drop_at hky22
      rw [hdx5, b_EqualFuncT_l1.eq_2] at h
      obtain ⟨x5_0, x5_1, x5_2⟩ := x5
      refine V_skip ?_
      show V _ _ _ _ _
      refine V_seq (V_block ?_)
      refine goL ?_
      refine VO_r (QR_ixn y2 (gType hx5)) ?_
      refine goL ?_
      obtain ⟨x6, hx6, h⟩ := bnd_s h
      rw [at_nat] at hx6
      obtain ⟨x6_0, x6_1, x6_2⟩ := x6
      refine VO_r (QR_ixn y2 (gType hx6)) ?_
      refine goL ?_
      obtain ⟨x7, hx7, h⟩ := bnd_s h
      refine VO_r (QR_callf (ha2 _ _ _ hx7) (a2_lt 0)) ?_
      refine goL ?_
      refine V_cb (fun c8 => ?_) (fun c8 => ?_)
      · replace h := cnd_t c8 h
        refine goL ?_
        refine V_ret ?_
        replace h := Option.some.inj h
        subst h
        exact R_rP
      · replace h := cnd_f c8 h
        refine V_skip ?_
        show V _ _ _ _ _
        refine goL ?_
        refine VO_r (QR_inc y2 (by omega)) ?_
        refine goL ?_
        exact ⟨(y2 + 1), h, by omega, ⟨rfl, ⟨⟨rfl, rfl⟩, ⟨rfl, a2_lt _⟩, ⟨rfl, rfl⟩, ⟨rfl, rfl⟩, ⟨rfl, rfl⟩, trivial⟩, ⟨_, rfl⟩, rfl⟩⟩
    · have hky22 := kgeN c4
      rw [drop_end hky22, b_EqualFuncT_l1.eq_1] at h
      refine V_exit ?_
      show V _ _ _ _ _
      refine goL ?_
      refine V_ret ?_
      replace h := Option.some.inj h
      subst h
      exact R_rP
def b_iEqualType (rec_iEqualType : TType → TType → Option (Bool)) (a0 : TType) (a1 : TType) : Option (Bool) :=
bnd ((cnd (a0.kind == a1.kind) ((cnd (a0.name == a1.name) (bnd (b_EqualFuncT a0.args a1.args rec_iEqualType) fun x4 =>
(some x4)) ((some false)))) ((some false)))) fun b1 =>
(some b1)
set_option maxHeartbeats 4000000 in
theorem w_iEqualType {rec_iEqualType : TType → TType → Option (Bool)} (hrec_iEqualType : ∀ (x0 : TType) (x1 : TType) {r : Bool}, rec_iEqualType x0 x1 = some r → SpecP Tryz.prog 82 [.d (eType x0), .d (eType x1)] [.b r]) (a0 : TType) (a1 : TType) {r : Bool} (h : b_iEqualType rec_iEqualType a0 a1 = some r) : SpecP Tryz.prog 82 [.d (eType a0), .d (eType a1)] [.b r] := by
  obtain ⟨a0_0, a0_1, a0_2⟩ := a0
  obtain ⟨a1_0, a1_1, a1_2⟩ := a1
  unfold b_iEqualType at h
  refine SpecP_intro Tryz.func82 rfl (by kernel_rfl) rfl fun A _ => ?_
  refine goL ?_
  obtain ⟨b1, hb1, h⟩ := bnd_s h
  refine VO_join ⟨[(4, .d (.b b1))], [.box [.d (.i .i64 a0_0), .d (.s a0_1), .d (.sl 3 (eTypes a0_2))], .box [.d (.i .i64 a1_0), .d (.s a1_1), .d (.sl 3 (eTypes a1_2))]], Tryz.f82.ntmps⟩ ?_ ?_
  · refine VO_case 10 (fun c2 => ?_) (fun c2 => ?_)
    · replace hb1 := cnd_t c2 hb1
      refine goL ?_
      refine VO_case 17 (fun c3 => ?_) (fun c3 => ?_)
      · replace hb1 := cnd_t c3 hb1
        refine goL ?_
        refine VO_b ?_
        obtain ⟨x4, hx4, hb1⟩ := bnd_s hb1
        refine VO_r (QR_call (w_EqualFuncT a0_2 a1_2 (a2 := rec_iEqualType) (fun _ => rfl) (fun x0 x1 r hr => hrec_iEqualType x0 x1 hr) hx4)) ?_
        refine goL ?_
        cases hb1
        exact ⟨rfl, ⟨⟨rfl, rfl⟩, trivial⟩, ⟨[], rfl⟩, rfl⟩
      · replace hb1 := cnd_f c3 hb1
        refine goL ?_
        cases hb1
        exact ⟨rfl, ⟨⟨rfl, rfl⟩, trivial⟩, ⟨[], rfl⟩, rfl⟩
    · replace hb1 := cnd_f c2 hb1
      refine goL ?_
      cases hb1
      exact ⟨rfl, ⟨⟨rfl, rfl⟩, trivial⟩, ⟨[], rfl⟩, rfl⟩
  refine goL ?_
  refine V_ret ?_
  replace h := Option.some.inj h
  subst h
  exact R_rP
def m_iEqualType : Nat → TType → TType → Option (Bool)
  | 0, _, _ => none
  | n + 1, x0, x1 => b_iEqualType (m_iEqualType n) x0 x1
theorem s_iEqualType : ∀ (n : Nat) (x0 : TType) (x1 : TType) {r : Bool}, m_iEqualType n x0 x1 = some r → SpecP Tryz.prog 82 [.d (eType x0), .d (eType x1)] [.b r] := by
  intro n
  induction n with
  | zero => intro x0 x1 r h; cases h
  | succ n ih => intro x0 x1 r h; exact w_iEqualType ih x0 x1 h
def b_sEqualType (rec_sEqualType : TType → TType → Option (Bool)) (rec_sSame : (List TType) → (List TType) → Option (Bool)) (a0 : TType) (a1 : TType) : Option (Bool) :=
bnd ((cnd (a0.kind == a1.kind) ((cnd (a0.name == a1.name) (bnd (rec_sSame a0.args a1.args) fun x4 =>
(some x4)) ((some false)))) ((some false)))) fun b1 =>
(some b1)
set_option maxHeartbeats 4000000 in
theorem w_sEqualType {rec_sEqualType : TType → TType → Option (Bool)} {rec_sSame : (List TType) → (List TType) → Option (Bool)} (hrec_sEqualType : ∀ (x0 : TType) (x1 : TType) {r : Bool}, rec_sEqualType x0 x1 = some r → SpecP Tryz.prog 103 [.d (eType x0), .d (eType x1)] [.b r]) (hrec_sSame : ∀ (x0 : List TType) (x1 : List TType) {r : Bool}, rec_sSame x0 x1 = some r → SpecP Tryz.prog 116 [.d (.sl 3 (eTypes x0)), .d (.sl 3 (eTypes x1))] [.b r]) (a0 : TType) (a1 : TType) {r : Bool} (h : b_sEqualType rec_sEqualType rec_sSame a0 a1 = some r) : SpecP Tryz.prog 103 [.d (eType a0), .d (eType a1)] [.b r] := by
  obtain ⟨a0_0, a0_1, a0_2⟩ := a0
  obtain ⟨a1_0, a1_1, a1_2⟩ := a1
  unfold b_sEqualType at h
  refine SpecP_intro Tryz.func103 rfl (by kernel_rfl) rfl fun A _ => ?_
  refine goL ?_
  obtain ⟨b1, hb1, h⟩ := bnd_s h
  refine VO_join ⟨[(4, .d (.b b1))], [.box [.d (.i .i64 a0_0), .d (.s a0_1), .d (.sl 3 (eTypes a0_2))], .box [.d (.i .i64 a1_0), .d (.s a1_1), .d (.sl 3 (eTypes a1_2))]], Tryz.f103.ntmps⟩ ?_ ?_
  · refine VO_case 10 (fun c2 => ?_) (fun c2 => ?_)
    · replace hb1 := cnd_t c2 hb1
      refine goL ?_
      refine VO_case 17 (fun c3 => ?_) (fun c3 => ?_)
      · replace hb1 := cnd_t c3 hb1
        refine goL ?_
        refine VO_b ?_
        obtain ⟨x4, hx4, hb1⟩ := bnd_s hb1
        refine VO_r (QR_call (hrec_sSame a0_2 a1_2 hx4)) ?_
        refine goL ?_
        cases hb1
        exact ⟨rfl, ⟨⟨rfl, rfl⟩, trivial⟩, ⟨[], rfl⟩, rfl⟩
      · replace hb1 := cnd_f c3 hb1
        refine goL ?_
        cases hb1
        exact ⟨rfl, ⟨⟨rfl, rfl⟩, trivial⟩, ⟨[], rfl⟩, rfl⟩
    · replace hb1 := cnd_f c2 hb1
      refine goL ?_
      cases hb1
      exact ⟨rfl, ⟨⟨rfl, rfl⟩, trivial⟩, ⟨[], rfl⟩, rfl⟩
  refine goL ?_
  refine V_ret ?_
  replace h := Option.some.inj h
  subst h
  exact R_rP
def b_sSame_l1 (rec_sEqualType : TType → TType → Option (Bool)) (a1 : List TType) : List TType → Nat → Option (Bool)
  | [], y2 => (some true)
  | x5 :: xs, y2 => bnd (at? a1 (y2 : Int)) fun x6 =>
bnd (rec_sEqualType x5 x6) fun x7 =>
(cnd (!x7) (
(some false)) (
b_sSame_l1 rec_sEqualType a1 xs (y2 + 1)))
def b_sSame (rec_sEqualType : TType → TType → Option (Bool)) (rec_sSame : (List TType) → (List TType) → Option (Bool)) (a0 : List TType) (a1 : List TType) : Option (Bool) :=
(cnd ((a0.length : Int) != (a1.length : Int)) (
(some false)) (
b_sSame_l1 rec_sEqualType a1 a0 0))
set_option maxHeartbeats 4000000 in
theorem w_sSame {rec_sEqualType : TType → TType → Option (Bool)} {rec_sSame : (List TType) → (List TType) → Option (Bool)} (hrec_sEqualType : ∀ (x0 : TType) (x1 : TType) {r : Bool}, rec_sEqualType x0 x1 = some r → SpecP Tryz.prog 103 [.d (eType x0), .d (eType x1)] [.b r]) (hrec_sSame : ∀ (x0 : List TType) (x1 : List TType) {r : Bool}, rec_sSame x0 x1 = some r → SpecP Tryz.prog 116 [.d (.sl 3 (eTypes x0)), .d (.sl 3 (eTypes x1))] [.b r]) (a0 : List TType) (a1 : List TType) {r : Bool} (h : b_sSame rec_sEqualType rec_sSame a0 a1 = some r) : SpecP Tryz.prog 116 [.d (.sl 3 (eTypes a0)), .d (.sl 3 (eTypes a1))] [.b r] := by
  unfold b_sSame at h
  refine SpecP_intro Tryz.func116 rfl (by kernel_rfl) rfl fun A _ => ?_
  refine goL ?_
  refine V_cb (fun c1 => ?_) (fun c1 => ?_)
  · replace h := cnd_t c1 h
    refine goL ?_
    refine V_ret ?_
    replace h := Option.some.inj h
    subst h
    exact R_rP
  · replace h := cnd_f c1 h
    refine V_skip ?_
    show V _ _ _ _ _
    refine goL ?_
    refine V_block ?_
    show V _ _ _ _ _
    refine V_bd 0 (fun z3 => ?_)
    refine V_loop1 (fun (y2 : Nat) => ⟨[(0, .d (.sl 3 (eTypes a0))), (1, .d (.sl 3 (eTypes a1))), (5, .d (.i .i64 (y2 : Int)))], [], Tryz.f116.ntmps⟩) (fun y2 => b_sSame_l1 rec_sEqualType a1 (a0.drop y2) y2 = some r) (fun y2 => a0.length - y2) 0 ⟨rfl, ⟨⟨rfl, rfl⟩, ⟨rfl, rfl⟩, ⟨rfl, rfl⟩, trivial⟩, ⟨[], rfl⟩, rfl⟩ h ?_
    rintro y2 h
    refine goL ?_
    refine V_cb (fun c4 => ?_) (fun c4 => ?_)
    · have hky22 := kltN c4
      obtain ⟨x5, hx5, hdx5⟩ := drop_at hky22
      rw [hdx5, b_sSame_l1.eq_2] at h
      obtain ⟨x5_0, x5_1, x5_2⟩ := x5
      refine V_skip ?_
      show V _ _ _ _ _
      refine V_seq (V_block ?_)
      refine goL ?_
      refine VQ_r (QR_ixn y2 (gType hx5)) ?_
      refine goL ?_
      obtain ⟨x6, hx6, h⟩ := bnd_s h
      rw [at_nat] at hx6
      obtain ⟨x6_0, x6_1, x6_2⟩ := x6
      refine VQ_r (QR_ixn y2 (gType hx6)) ?_
      refine goL ?_
      obtain ⟨x7, hx7, h⟩ := bnd_s h
      refine VQ_r (QR_call (hrec_sEqualType (TType.mk x5_0 x5_1 x5_2) (TType.mk x6_0 x6_1 x6_2) hx7)) ?_
      refine goL ?_
      refine V_cb (fun c8 => ?_) (fun c8 => ?_)
      · replace h := cnd_t c8 h
        refine goL ?_
        refine V_ret ?_
        replace h := Option.some.inj h
        subst h
        exact R_rP
      · replace h := cnd_f c8 h
        refine V_skip ?_
        show V _ _ _ _ _
        refine goL ?_
        refine VO_r (QR_inc y2 (by omega)) ?_
        refine goL ?_
        exact ⟨(y2 + 1), h, by omega, ⟨rfl, ⟨⟨rfl, rfl⟩, ⟨rfl, rfl⟩, ⟨rfl, rfl⟩, trivial⟩, ⟨_, rfl⟩, rfl⟩⟩
    · have hky22 := kgeN c4
      rw [drop_end hky22, b_sSame_l1.eq_1] at h
      refine V_exit ?_
      show V _ _ _ _ _
      refine goL ?_
      refine V_ret ?_
      replace h := Option.some.inj h
      subst h
      exact R_rP
mutual
def m_sEqualType : Nat → TType → TType → Option (Bool)
  | 0, _, _ => none
  | n + 1, x0, x1 => b_sEqualType (m_sEqualType n) (m_sSame n) x0 x1
def m_sSame : Nat → (List TType) → (List TType) → Option (Bool)
  | 0, _, _ => none
  | n + 1, x0, x1 => b_sSame (m_sEqualType n) (m_sSame n) x0 x1
end
theorem ss_sEqualType : ∀ (n : Nat), (∀ (x0 : TType) (x1 : TType) {r : Bool}, m_sEqualType n x0 x1 = some r → SpecP Tryz.prog 103 [.d (eType x0), .d (eType x1)] [.b r]) ∧ (∀ (x0 : List TType) (x1 : List TType) {r : Bool}, m_sSame n x0 x1 = some r → SpecP Tryz.prog 116 [.d (.sl 3 (eTypes x0)), .d (.sl 3 (eTypes x1))] [.b r]) := by
  intro n
  induction n with
  | zero => exact ⟨(by intro x0 x1 r h; cases h), (by intro x0 x1 r h; cases h)⟩
  | succ n ih =>
    obtain ⟨ih0, ih1⟩ := ih
    refine ⟨(fun x0 x1 r h => w_sEqualType ih0 ih1 x0 x1 h), (fun x0 x1 r h => w_sSame ih0 ih1 x0 x1 h)⟩
theorem s_sEqualType : ∀ (n : Nat) (x0 : TType) (x1 : TType) {r : Bool}, m_sEqualType n x0 x1 = some r → SpecP Tryz.prog 103 [.d (eType x0), .d (eType x1)] [.b r] := fun n => (ss_sEqualType n).1
/-! ### equality, by hand -/
mutual
def teq : TType → TType → Bool
  | ⟨k, n, ts⟩, ⟨k', n', ts'⟩ => (k == k') && ((n == n') && tseq ts ts')
def tseq : List TType → List TType → Bool
  | [], [] => true
  | a :: ts, b :: ts' => teq a b && tseq ts ts'
  | _, _ => false
end
mutual
theorem teq_iff : ∀ (a b : TType), teq a b = true ↔ a = b
  | ⟨k, n, ts⟩, ⟨k', n', ts'⟩ => by
    simp only [teq, Bool.and_eq_true, beq_iff_eq, TType.mk.injEq]
    rw [tseq_iff ts ts']
theorem tseq_iff : ∀ (a b : List TType), tseq a b = true ↔ a = b
  | [], [] => by simp [tseq]
  | a :: ts, b :: ts' => by
    simp only [tseq, Bool.and_eq_true, List.cons.injEq]
    rw [teq_iff a b, tseq_iff ts ts']
  | [], _ :: _ => by simp [tseq]
  | _ :: _, [] => by simp [tseq]
end
theorem tseq_len : ∀ {a b : List TType}, a.length ≠ b.length → tseq a b = false
  | [], [], h => by simp at h
  | a :: ts, b :: ts', h => by
    simp only [tseq]
    rw [tseq_len (a := ts) (b := ts') (by simpa using h), Bool.and_false]
  | [], _ :: _, _ => rfl
  | _ :: _, [], _ => rfl
theorem EqualFuncT_l1_eq {p : TType → TType → Option Bool} (b : List TType) : ∀ (xs : List TType) (k : Nat), (∀ x ∈ xs, ∀ y, p x y = some (teq x y)) → b.length = k + xs.length → b_EqualFuncT_l1 b p xs k = some (tseq xs (b.drop k))
  | [], k, _, h => by
    rw [List.drop_eq_nil_of_le (by simp at h; omega)]
    rfl
  | x :: xs, k, hp, h => by
    simp only [List.length_cons] at h
    have hk : k < b.length := by omega
    simp only [b_EqualFuncT_l1, at_nat]
    rw [List.getElem?_eq_getElem hk, List.drop_eq_getElem_cons hk]
    simp only [bnd, hp x (by simp), tseq]
    cases hq : teq x b[k] with
    | true => simp only [Bool.not_true, cnd_false, Bool.true_and]; exact EqualFuncT_l1_eq b xs (k + 1) (fun z hz => hp z (by simp [hz])) (by omega)
    | false => rfl
theorem EqualFuncT_eq {p : TType → TType → Option Bool} (a b : List TType) (hp : ∀ x ∈ a, ∀ y, p x y = some (teq x y)) : b_EqualFuncT a b p = some (tseq a b) := by
  unfold b_EqualFuncT
  by_cases h : a.length = b.length
  · have : ((a.length : Int) != (b.length : Int)) = false := by simp [h]
    rw [this, cnd_false, EqualFuncT_l1_eq b a 0 hp (by omega)]
    rfl
  · have : ((a.length : Int) != (b.length : Int)) = true := by simp; omega
    rw [this, cnd_true, tseq_len h]
theorem iEqualType_eq : ∀ (n : Nat) (a b : TType), tnd a ≤ n → m_iEqualType n a b = some (teq a b)
  | 0, a, b, h => by have := tnd_pos a; omega
  | n + 1, ⟨k, s, ts⟩, ⟨k', s', ts'⟩, h => by
    simp only [tnd] at h
    simp only [m_iEqualType, b_iEqualType, teq]
    rw [EqualFuncT_eq ts ts' (fun x hx y => iEqualType_eq n x y (by have := tnd_mem hx; omega))]
    cases h1 : k == k' <;> cases h2 : s == s' <;> cases tseq ts ts' <;> rfl
theorem sSame_l1_eq {p : TType → TType → Option Bool} (b : List TType) : ∀ (xs : List TType) (k : Nat), (∀ x ∈ xs, ∀ y, p x y = some (teq x y)) → b.length = k + xs.length → b_sSame_l1 p b xs k = some (tseq xs (b.drop k))
  | [], k, _, h => by
    rw [List.drop_eq_nil_of_le (by simp at h; omega)]
    rfl
  | x :: xs, k, hp, h => by
    simp only [List.length_cons] at h
    have hk : k < b.length := by omega
    simp only [b_sSame_l1, at_nat]
    rw [List.getElem?_eq_getElem hk, List.drop_eq_getElem_cons hk]
    simp only [bnd, hp x (by simp), tseq]
    cases hq : teq x b[k] with
    | true => simp only [Bool.not_true, cnd_false, Bool.true_and]; exact sSame_l1_eq b xs (k + 1) (fun z hz => hp z (by simp [hz])) (by omega)
    | false => rfl
theorem sEqual_eq : ∀ (n : Nat), (∀ a b : TType, 2 * tnd a ≤ n → m_sEqualType n a b = some (teq a b)) ∧ (∀ a b : List TType, 2 * tnds a + 1 ≤ n → m_sSame n a b = some (tseq a b))
  | 0 => ⟨fun t _ h => by have := tnd_pos t; omega, fun ts _ h => by omega⟩
  | n + 1 => by
    obtain ⟨h1, h2⟩ := sEqual_eq n
    refine ⟨fun a b hn => ?_, fun a b hn => ?_⟩
    · obtain ⟨k, s, ts⟩ := a
      obtain ⟨k', s', ts'⟩ := b
      simp only [tnd] at hn
      simp only [m_sEqualType, b_sEqualType, teq]
      rw [h2 ts ts' (by omega)]
      cases h1 : k == k' <;> cases h2 : s == s' <;> cases tseq ts ts' <;> rfl
    · simp only [m_sSame, b_sSame]
      by_cases h : a.length = b.length
      · have : ((a.length : Int) != (b.length : Int)) = false := by simp [h]
        rw [this, cnd_false, sSame_l1_eq b a 0 (fun x hx y => h1 x y (by have := tnd_mem hx; omega)) (by omega)]
        rfl
      · have : ((a.length : Int) != (b.length : Int)) = true := by simp; omega
        rw [this, cnd_true, tseq_len h]
theorem t_iEqualType (x0 : TType) (x1 : TType) : SpecP Tryz.prog 82 [.d (eType x0), .d (eType x1)] [.b (teq x0 x1)] := s_iEqualType (tnd x0) x0 x1 (iEqualType_eq _ _ _ (Nat.le_refl _))
theorem t_sEqualType (x0 : TType) (x1 : TType) : SpecP Tryz.prog 103 [.d (eType x0), .d (eType x1)] [.b (teq x0 x1)] := s_sEqualType (2 * tnd x0) x0 x1 ((sEqual_eq _).1 _ _ (Nat.le_refl _))
/-! ### sizes, by hand -/
mutual
def tsz : TType → Int
  | ⟨_, _, ts⟩ => tszs ts 1
def tszs : List TType → Int → Int
  | [], y => y
  | a :: ts, y => tszs ts (IntKind.i64.wrap (y + tsz a))
end
def b_iTypeSize_l1 (rec_iTypeSize : TType → Option (Int)) : List TType → Int → Option (Int)
  | [], y1 => (some y1)
  | x5 :: xs, y1 => bnd (rec_iTypeSize x5) fun x6 =>
b_iTypeSize_l1 rec_iTypeSize xs (IntKind.i64.wrap (y1 + x6))
def b_iTypeSize (rec_iTypeSize : TType → Option (Int)) (a0 : TType) : Option (Int) :=
b_iTypeSize_l1 rec_iTypeSize a0.args 1
set_option maxHeartbeats 4000000 in
theorem w_iTypeSize {rec_iTypeSize : TType → Option (Int)} (hrec_iTypeSize : ∀ (x0 : TType) {r : Int}, rec_iTypeSize x0 = some r → SpecP Tryz.prog 45 [.d (eType x0)] [.i .i64 r]) (a0 : TType) {r : Int} (h : b_iTypeSize rec_iTypeSize a0 = some r) : SpecP Tryz.prog 45 [.d (eType a0)] [.i .i64 r] := by
  obtain ⟨a0_0, a0_1, a0_2⟩ := a0
  unfold b_iTypeSize at h
  refine SpecP_intro Tryz.func45 rfl (by kernel_rfl) rfl fun A _ => ?_
  refine goL ?_
  refine V_block ?_
  show V _ _ _ _ _
  refine V_bd 7 (fun z3 => ?_)
  refine V_loop2 (fun (y2 : Nat) (y1 : Int) => ⟨[(3, .d (.i .i64 y1)), (7, .d (.sl 3 (eTypes a0_2))), (8, .d (.i .i64 (a0_2.length : Int))), (9, .d (.i .i64 (y2 : Int)))], [.box [.d (.i .i64 a0_0), .d (.s a0_1), .d (.sl 3 (eTypes a0_2))]], Tryz.f45.ntmps⟩) (fun y2 y1 => b_iTypeSize_l1 rec_iTypeSize (a0_2.drop y2) y1 = some r) (fun y2 y1 => a0_2.length - y2) 0 1 ⟨rfl, ⟨⟨rfl, rfl⟩, ⟨rfl, rfl⟩, ⟨rfl, rfl⟩, ⟨rfl, rfl⟩, trivial⟩, ⟨[], rfl⟩, rfl⟩ h ?_
  rintro y2 y1 h
  refine goL ?_
  refine V_seq (V_cb (fun c4 => ?_) (fun c4 => ?_))
  · have hky22 := kltN c4
    obtain ⟨x5, hx5, hdx5⟩ := drop_at hky22
    rw [hdx5, b_iTypeSize_l1.eq_2] at h
    obtain ⟨x5_0, x5_1, x5_2⟩ := x5
    refine V_skip ?_
    show V _ _ _ _ _
    refine V_seq (V_block ?_)
    refine goL ?_
    refine VO_r (QR_ixn y2 (gType hx5)) ?_
    refine goL ?_
    obtain ⟨x6, hx6, h⟩ := bnd_s h
    refine VO_r (QR_call (hrec_iTypeSize (TType.mk x5_0 x5_1 x5_2) hx6)) ?_
    refine VO_r (QR_ar) ?_
    refine goL ?_
    refine VO_r (QR_inc y2 (by omega)) ?_
    refine goL ?_
    exact ⟨(y2 + 1), (IntKind.i64.wrap (y1 + x6)), h, by omega, ⟨rfl, ⟨⟨rfl, rfl⟩, ⟨rfl, rfl⟩, ⟨rfl, rfl⟩, ⟨rfl, rfl⟩, trivial⟩, ⟨_, rfl⟩, rfl⟩⟩
  · have hky22 := kgeN c4
    rw [drop_end hky22, b_iTypeSize_l1.eq_1] at h
    refine V_exit ?_
    show V _ _ _ _ _
    refine goL ?_
    refine V_ret ?_
    replace h := Option.some.inj h
    subst h
    exact R_rP
def m_iTypeSize : Nat → TType → Option (Int)
  | 0, _ => none
  | n + 1, x0 => b_iTypeSize (m_iTypeSize n) x0
theorem s_iTypeSize : ∀ (n : Nat) (x0 : TType) {r : Int}, m_iTypeSize n x0 = some r → SpecP Tryz.prog 45 [.d (eType x0)] [.i .i64 r] := by
  intro n
  induction n with
  | zero => intro x0 r h; cases h
  | succ n ih => intro x0 r h; exact w_iTypeSize ih x0 h
theorem iTypeSize_l1_eq {rec : TType → Option Int} : ∀ (xs : List TType) (y : Int), (∀ x ∈ xs, rec x = some (tsz x)) → b_iTypeSize_l1 rec xs y = some (tszs xs y)
  | [], y, _ => rfl
  | x :: xs, y, h => by
    simp only [b_iTypeSize_l1, h x (by simp), bnd, tszs]
    exact iTypeSize_l1_eq xs _ (fun z hz => h z (by simp [hz]))
theorem iTypeSize_eq : ∀ (n : Nat) (t : TType), tnd t ≤ n → m_iTypeSize n t = some (tsz t)
  | 0, t, h => by have := tnd_pos t; omega
  | n + 1, ⟨k, s, ts⟩, h => by
    simp only [tnd] at h
    simp only [m_iTypeSize, b_iTypeSize, tsz]
    exact iTypeSize_l1_eq ts 1 (fun x hx => iTypeSize_eq n x (by have := tnd_mem hx; omega))
theorem t_iTypeSize (x0 : TType) : SpecP Tryz.prog 45 [.d (eType x0)] [.i .i64 (tsz x0)] := s_iTypeSize (tnd x0) x0 (iTypeSize_eq _ _ (Nat.le_refl _))
def b_sTypeSize_l1 (rec_sTypeSize : TType → Option (Int)) : List TType → Int → Option (Int)
  | [], y1 => (some y1)
  | x5 :: xs, y1 => bnd (rec_sTypeSize x5) fun x6 =>
b_sTypeSize_l1 rec_sTypeSize xs (IntKind.i64.wrap (y1 + x6))
def b_sTypeSize (rec_sTypeSize : TType → Option (Int)) (a0 : TType) : Option (Int) :=
b_sTypeSize_l1 rec_sTypeSize a0.args 1
set_option maxHeartbeats 4000000 in
theorem w_sTypeSize {rec_sTypeSize : TType → Option (Int)} (hrec_sTypeSize : ∀ (x0 : TType) {r : Int}, rec_sTypeSize x0 = some r → SpecP Tryz.prog 104 [.d (eType x0)] [.i .i64 r]) (a0 : TType) {r : Int} (h : b_sTypeSize rec_sTypeSize a0 = some r) : SpecP Tryz.prog 104 [.d (eType a0)] [.i .i64 r] := by
  obtain ⟨a0_0, a0_1, a0_2⟩ := a0
  unfold b_sTypeSize at h
  refine SpecP_intro Tryz.func104 rfl (by kernel_rfl) rfl fun A _ => ?_
  refine goL ?_
  refine V_block ?_
  show V _ _ _ _ _
  refine V_bdc 0 2 (fun z3 => ?_)
  refine V_loop2 (fun (y2 : Nat) (y1 : Int) => ⟨[(1, .ptr 0 0), (3, .d (.i .i64 y1)), (4, .d (.i .i64 (y2 : Int)))], [.box [.d (.i .i64 a0_0), .d (.s a0_1), .d (.sl 3 (eTypes a0_2))]], Tryz.f104.ntmps⟩) (fun y2 y1 => b_sTypeSize_l1 rec_sTypeSize (a0_2.drop y2) y1 = some r) (fun y2 y1 => a0_2.length - y2) 0 1 ⟨rfl, ⟨⟨rfl, rfl⟩, ⟨rfl, rfl⟩, ⟨rfl, rfl⟩, trivial⟩, ⟨[], rfl⟩, rfl⟩ h ?_
  rintro y2 y1 h
  refine goL ?_
  refine V_cb (fun c4 => ?_) (fun c4 => ?_)
  · have hky22 := kltN c4
    obtain ⟨x5, hx5, hdx5⟩ := drop_at hky22
    rw [hdx5, b_sTypeSize_l1.eq_2] at h
    obtain ⟨x5_0, x5_1, x5_2⟩ := x5
    refine V_skip ?_
    show V _ _ _ _ _
    refine V_seq (V_block ?_)
    refine goL ?_
    refine VO_r (QR_ixn y2 (gType hx5)) ?_
    refine goL ?_
    obtain ⟨x6, hx6, h⟩ := bnd_s h
    refine VO_r (QR_call (hrec_sTypeSize (TType.mk x5_0 x5_1 x5_2) hx6)) ?_
    refine VO_r (QR_ar) ?_
    refine goL ?_
    refine VO_r (QR_inc y2 (by omega)) ?_
    refine goL ?_
    exact ⟨(y2 + 1), (IntKind.i64.wrap (y1 + x6)), h, by omega, ⟨rfl, ⟨⟨rfl, rfl⟩, ⟨rfl, rfl⟩, ⟨rfl, rfl⟩, trivial⟩, ⟨_, rfl⟩, rfl⟩⟩
  · have hky22 := kgeN c4
    rw [drop_end hky22, b_sTypeSize_l1.eq_1] at h
    refine V_exit ?_
    show V _ _ _ _ _
    refine goL ?_
    refine V_ret ?_
    replace h := Option.some.inj h
    subst h
    exact R_rP
def m_sTypeSize : Nat → TType → Option (Int)
  | 0, _ => none
  | n + 1, x0 => b_sTypeSize (m_sTypeSize n) x0
theorem s_sTypeSize : ∀ (n : Nat) (x0 : TType) {r : Int}, m_sTypeSize n x0 = some r → SpecP Tryz.prog 104 [.d (eType x0)] [.i .i64 r] := by
  intro n
  induction n with
  | zero => intro x0 r h; cases h
  | succ n ih => intro x0 r h; exact w_sTypeSize ih x0 h
theorem sTypeSize_l1_eq {rec : TType → Option Int} : ∀ (xs : List TType) (y : Int), (∀ x ∈ xs, rec x = some (tsz x)) → b_sTypeSize_l1 rec xs y = some (tszs xs y)
  | [], y, _ => rfl
  | x :: xs, y, h => by
    simp only [b_sTypeSize_l1, h x (by simp), bnd, tszs]
    exact sTypeSize_l1_eq xs _ (fun z hz => h z (by simp [hz]))
theorem sTypeSize_eq : ∀ (n : Nat) (t : TType), tnd t ≤ n → m_sTypeSize n t = some (tsz t)
  | 0, t, h => by have := tnd_pos t; omega
  | n + 1, ⟨k, s, ts⟩, h => by
    simp only [tnd] at h
    simp only [m_sTypeSize, b_sTypeSize, tsz]
    exact sTypeSize_l1_eq ts 1 (fun x hx => sTypeSize_eq n x (by have := tnd_mem hx; omega))
theorem t_sTypeSize (x0 : TType) : SpecP Tryz.prog 104 [.d (eType x0)] [.i .i64 (tsz x0)] := s_sTypeSize (tnd x0) x0 (sTypeSize_eq _ _ (Nat.le_refl _))
def b_iLookup_l1 (a1 : List UInt8) : List TBinding → Option (TType × Bool)
  | [] => (some ((TType.mk 0 [] []), false))
  | x4 :: xs => (cnd (x4.var_ == a1) (
gd (tok x4.type_) (lt_ (idT x4.type_) fun x7 =>
(some (x7, true)))) (
b_iLookup_l1 a1 xs ))
def b_iLookup (a0 : List TBinding) (a1 : List UInt8) : Option (TType × Bool) :=
b_iLookup_l1 a1 a0 
set_option maxHeartbeats 4000000 in
theorem w_iLookup (a0 : List TBinding) (a1 : List UInt8) {r : TType × Bool} (h : b_iLookup a0 a1 = some r) : SpecO Tryz.prog 22 [.d (.sl 4 (eBindings a0)), .d (.s a1)] [27] [eType r.1, .b r.2] := by
  unfold b_iLookup at h
  refine SpecO_intro Tryz.func22 rfl (by kernel_rfl) rfl (by simp) fun A _ => ?_
  refine goL ?_
  refine V_block ?_
  show V _ _ _ _ _
  refine V_bd 8 (fun z2 => ?_)
  refine V_loop1 (fun (y1 : Nat) => ⟨[(1, .d (.s a1)), (4, .ptr 0 0), (8, .d (.sl 4 (eBindings a0))), (9, .d (.i .i64 (a0.length : Int))), (10, .d (.i .i64 (y1 : Int)))], [.box [.d (.i .i64 0), .d (.s []), .nilsl]], Tryz.f22.ntmps⟩) (fun y1 => b_iLookup_l1 a1 (a0.drop y1)  = some r) (fun y1 => a0.length - y1) 0 ⟨rfl, ⟨⟨rfl, rfl⟩, ⟨rfl, rfl⟩, ⟨rfl, rfl⟩, ⟨rfl, rfl⟩, ⟨rfl, rfl⟩, trivial⟩, ⟨[], rfl⟩, rfl⟩ h ?_
  rintro y1 h
  refine goL ?_
  refine V_seq (V_cb (fun c3 => ?_) (fun c3 => ?_))
  · have hky12 := kltN c3
    obtain ⟨x4, hx4, hdx4⟩ := drop_at hky12
    rw [hdx4, b_iLookup_l1.eq_2] at h
    obtain ⟨x4_0, ⟨x4_1_0, x4_1_1, x4_1_2⟩⟩ := x4
    refine V_skip ?_
    show V _ _ _ _ _
    refine V_seq (V_block ?_)
    refine goL ?_
    refine VO_r (QR_ixn y1 (gBinding hx4)) ?_
    refine goL ?_
    refine V_cb (fun c5 => ?_) (fun c5 => ?_)
    · replace h := cnd_t c5 h
      refine goL ?_
      obtain ⟨g6, h⟩ := gd_s h
      obtain ⟨x7, hx7, h⟩ := lt_x h
      obtain ⟨x7_0, x7_1, x7_2⟩ := x7
      have sx7 := t_iCopyType (TType.mk x4_1_0 x4_1_1 x4_1_2) g6
      rw [hx7] at sx7
      refine VO_co (sx7) ?_
      refine goL ?_
      refine V_ret ?_
      replace h := Option.some.inj h
      subst h
      exact R_rO
    · replace h := cnd_f c5 h
      refine V_skip ?_
      show V _ _ _ _ _
      refine goL ?_
      refine VO_r (QR_inc y1 (by omega)) ?_
      refine goL ?_
      exact ⟨(y1 + 1), h, by omega, ⟨rfl, ⟨⟨rfl, rfl⟩, ⟨rfl, rfl⟩, ⟨rfl, rfl⟩, ⟨rfl, rfl⟩, ⟨rfl, rfl⟩, trivial⟩, ⟨_, rfl⟩, rfl⟩⟩
  · have hky12 := kgeN c3
    rw [drop_end hky12, b_iLookup_l1.eq_1] at h
    refine V_exit ?_
    show V _ _ _ _ _
    refine goL ?_
    refine VO_k (Q_build TBd.h TZ.h rfl (by repeat constructor)) ?_
    refine goL ?_
    refine V_adopt 27 3 0 2 rfl rfl (by repeat constructor) (by repeat constructor) (by repeat constructor) (by repeat constructor) ?_
    refine V_ret ?_
    replace h := Option.some.inj h
    subst h
    exact R_rO
def b_iApply (rec_iApply : (List TBinding) → TType → Option (TType)) (rec_iApplyAll : (List TBinding) → (List TType) → Option (List TType)) (a0 : List TBinding) (a1 : TType) : Option (TType) :=
(cnd (a1.kind == 1) (
bnd (b_iLookup a0 a1.name) fun x2 =>
(cnd x2.2 (
(some x2.1)) (
bnd (rec_iApplyAll a0 a1.args) fun x4 =>
(some (TType.mk a1.kind a1.name x4))))) (
bnd (rec_iApplyAll a0 a1.args) fun x5 =>
(some (TType.mk a1.kind a1.name x5))))
set_option maxHeartbeats 4000000 in
theorem w_iApply {rec_iApply : (List TBinding) → TType → Option (TType)} {rec_iApplyAll : (List TBinding) → (List TType) → Option (List TType)} (hrec_iApply : ∀ (x0 : List TBinding) (x1 : TType) {r : TType}, rec_iApply x0 x1 = some r → SpecO Tryz.prog 8 [.d (.sl 4 (eBindings x0)), .d (eType x1)] [27] [eType r]) (hrec_iApplyAll : ∀ (x0 : List TBinding) (x1 : List TType) {r : List TType}, rec_iApplyAll x0 x1 = some r → SpecO Tryz.prog 23 [.d (.sl 4 (eBindings x0)), .d (.sl 3 (eTypes x1))] [27] [.sl 3 (eTypes r)]) (a0 : List TBinding) (a1 : TType) {r : TType} (h : b_iApply rec_iApply rec_iApplyAll a0 a1 = some r) : SpecO Tryz.prog 8 [.d (.sl 4 (eBindings a0)), .d (eType a1)] [27] [eType r] := by
  obtain ⟨a1_0, a1_1, a1_2⟩ := a1
  unfold b_iApply at h
  refine SpecO_intro Tryz.func8 rfl (by kernel_rfl) rfl (by simp) fun A _ => ?_
  refine goL ?_
  refine V_cb (fun c1 => ?_) (fun c1 => ?_)
  · replace h := cnd_t c1 h
    refine goL ?_
    obtain ⟨x2, hx2, h⟩ := bnd_s h
    obtain ⟨⟨x2_0_0, x2_0_1, x2_0_2⟩, x2_1⟩ := x2
    refine VO_co (w_iLookup a0 a1_1 hx2) ?_
    refine goL ?_
    refine V_cb (fun c3 => ?_) (fun c3 => ?_)
    · replace h := cnd_t c3 h
      refine goL ?_
      refine V_ret ?_
      replace h := Option.some.inj h
      subst h
      exact R_rO
    · replace h := cnd_f c3 h
      refine V_skip ?_
      show V _ _ _ _ _
      refine V_seq_drawX (P := Tryz.prog) Mix.h [(0, true), (1, true), (2, true), (3, true), (4, true), (5, true), (6, true), (7, false), (8, true), (9, false)] (by kernel_rfl) ?_
      refine goY ?_
      obtain ⟨x4, hx4, h⟩ := bnd_s h
      refine VY_co (hrec_iApplyAll a0 a1_2 hx4) ?_
      refine goY ?_
      refine VY_nil ?_
      refine goL ?_
      refine V_ret ?_
      replace h := Option.some.inj h
      subst h
      exact R_rO
  · replace h := cnd_f c1 h
    refine V_skip ?_
    show V _ _ _ _ _
    refine V_seq_drawX (P := Tryz.prog) Mix.h [(0, true), (1, true), (2, true), (3, true), (4, true), (5, true), (6, true), (7, false), (8, true), (9, false)] (by kernel_rfl) ?_
    refine goY ?_
    obtain ⟨x5, hx5, h⟩ := bnd_s h
    refine VY_co (hrec_iApplyAll a0 a1_2 hx5) ?_
    refine goY ?_
    refine VY_nil ?_
    refine goL ?_
    refine V_ret ?_
    replace h := Option.some.inj h
    subst h
    exact R_rO
def b_iApplyAll_l1 (rec_iApply : (List TBinding) → TType → Option (TType)) (a0 : List TBinding) : List TType → Nat → (List TType) → Option (List TType)
  | [], y4, y2 => (some y2)
  | x7 :: xs, y4, y2 => bnd (rec_iApply a0 x7) fun x8 =>
gd (y4 < y2.length) (
b_iApplyAll_l1 rec_iApply a0 xs (y4 + 1) (y2.set y4 x8))
def b_iApplyAll (rec_iApply : (List TBinding) → TType → Option (TType)) (rec_iApplyAll : (List TBinding) → (List TType) → Option (List TType)) (a0 : List TBinding) (a1 : List TType) : Option (List TType) :=
gd (a1.length ≤ 4294967296) (
b_iApplyAll_l1 rec_iApply a0 a1 0 (List.replicate a1.length (TType.mk 0 [] [])))
set_option maxHeartbeats 4000000 in
theorem w_iApplyAll {rec_iApply : (List TBinding) → TType → Option (TType)} {rec_iApplyAll : (List TBinding) → (List TType) → Option (List TType)} (hrec_iApply : ∀ (x0 : List TBinding) (x1 : TType) {r : TType}, rec_iApply x0 x1 = some r → SpecO Tryz.prog 8 [.d (.sl 4 (eBindings x0)), .d (eType x1)] [27] [eType r]) (hrec_iApplyAll : ∀ (x0 : List TBinding) (x1 : List TType) {r : List TType}, rec_iApplyAll x0 x1 = some r → SpecO Tryz.prog 23 [.d (.sl 4 (eBindings x0)), .d (.sl 3 (eTypes x1))] [27] [.sl 3 (eTypes r)]) (a0 : List TBinding) (a1 : List TType) {r : List TType} (h : b_iApplyAll rec_iApply rec_iApplyAll a0 a1 = some r) : SpecO Tryz.prog 23 [.d (.sl 4 (eBindings a0)), .d (.sl 3 (eTypes a1))] [27] [.sl 3 (eTypes r)] := by
  unfold b_iApplyAll at h
  refine SpecO_intro Tryz.func23 rfl (by kernel_rfl) rfl (by simp) fun A _ => ?_
  refine goL ?_
  obtain ⟨g1, h⟩ := gd_s h
  refine VO_mk (TType.mk 0 [] []) g1 ?_
  refine goL ?_
  refine V_block ?_
  show V _ _ _ _ _
  refine V_bd 11 (fun z5 => ?_)
  refine V_loop3 (fun (y4 : Nat) (y2 : List TType) (v3 : Nat) => ⟨[(0, .d (.sl 4 (eBindings a0))), (5, .sl 0 v3), (11, .d (.sl 3 (eTypes a1))), (12, .d (.i .i64 (a1.length : Int))), (13, .d (.i .i64 (y4 : Int)))], [.own 27 3 v3 (eTypes y2)], Tryz.f23.ntmps⟩) (fun y4 y2 v3 => b_iApplyAll_l1 rec_iApply a0 (a1.drop y4) y4 y2 = some r) (fun y4 y2 v3 => a1.length - y4) 0 (List.replicate a1.length (TType.mk 0 [] [])) 0 ⟨rfl, ⟨⟨rfl, rfl⟩, ⟨rfl, rfl⟩, ⟨rfl, rfl⟩, ⟨rfl, rfl⟩, ⟨rfl, rfl⟩, trivial⟩, ⟨[], rfl⟩, rfl⟩ h ?_
  rintro y4 y2 v3 h
  refine goL ?_
  refine V_seq (V_cb (fun c6 => ?_) (fun c6 => ?_))
  · have hky42 := kltN c6
    obtain ⟨x7, hx7, hdx7⟩ := drop_at hky42
    rw [hdx7, b_iApplyAll_l1.eq_2] at h
    obtain ⟨x7_0, x7_1, x7_2⟩ := x7
    refine V_skip ?_
    show V _ _ _ _ _
    refine V_seq (V_block ?_)
    refine goL ?_
    refine VO_r (QR_ixn y4 (gType hx7)) ?_
    refine goL ?_
    obtain ⟨x8, hx8, h⟩ := bnd_s h
    obtain ⟨x8_0, x8_1, x8_2⟩ := x8
    refine VO_co (hrec_iApply a0 (TType.mk x7_0 x7_1 x7_2) hx8) ?_
    obtain ⟨g9, h⟩ := gd_s h
    refine VO_k (Q_ixo y4 g9) ?_
    refine VO_st (TType.mk x8_0 x8_1 x8_2) g9 ?_
    refine goL ?_
    refine VO_r (QR_inc y4 (by omega)) ?_
    refine goL ?_
    exact ⟨(y4 + 1), (y2.set y4 (TType.mk x8_0 x8_1 x8_2)), v3, h, by omega, ⟨rfl, ⟨⟨rfl, rfl⟩, ⟨rfl, rfl⟩, ⟨rfl, rfl⟩, ⟨rfl, rfl⟩, ⟨rfl, rfl⟩, trivial⟩, ⟨_, rfl⟩, rfl⟩⟩
  · have hky42 := kgeN c6
    rw [drop_end hky42, b_iApplyAll_l1.eq_1] at h
    refine V_exit ?_
    show V _ _ _ _ _
    refine goL ?_
    refine V_ret ?_
    replace h := Option.some.inj h
    subst h
    exact R_rO
mutual
def m_iApply : Nat → (List TBinding) → TType → Option (TType)
  | 0, _, _ => none
  | n + 1, x0, x1 => b_iApply (m_iApply n) (m_iApplyAll n) x0 x1
def m_iApplyAll : Nat → (List TBinding) → (List TType) → Option (List TType)
  | 0, _, _ => none
  | n + 1, x0, x1 => b_iApplyAll (m_iApply n) (m_iApplyAll n) x0 x1
end
theorem ss_iApply : ∀ (n : Nat), (∀ (x0 : List TBinding) (x1 : TType) {r : TType}, m_iApply n x0 x1 = some r → SpecO Tryz.prog 8 [.d (.sl 4 (eBindings x0)), .d (eType x1)] [27] [eType r]) ∧ (∀ (x0 : List TBinding) (x1 : List TType) {r : List TType}, m_iApplyAll n x0 x1 = some r → SpecO Tryz.prog 23 [.d (.sl 4 (eBindings x0)), .d (.sl 3 (eTypes x1))] [27] [.sl 3 (eTypes r)]) := by
  intro n
  induction n with
  | zero => exact ⟨(by intro x0 x1 r h; cases h), (by intro x0 x1 r h; cases h)⟩
  | succ n ih =>
    obtain ⟨ih0, ih1⟩ := ih
    refine ⟨(fun x0 x1 r h => w_iApply ih0 ih1 x0 x1 h), (fun x0 x1 r h => w_iApplyAll ih0 ih1 x0 x1 h)⟩
theorem s_iApply : ∀ (n : Nat) (x0 : List TBinding) (x1 : TType) {r : TType}, m_iApply n x0 x1 = some r → SpecO Tryz.prog 8 [.d (.sl 4 (eBindings x0)), .d (eType x1)] [27] [eType r] := fun n => (ss_iApply n).1
def b_sLookup_l1 (a1 : List UInt8) : List TBinding → Option (TType × Bool)
  | [] => (some ((TType.mk 0 [] []), false))
  | x4 :: xs => (cnd (x4.var_ == a1) (
gd (tok x4.type_) (lt_ (idT x4.type_) fun x7 =>
(some (x7, true)))) (
b_sLookup_l1 a1 xs ))
def b_sLookup (a0 : List TBinding) (a1 : List UInt8) : Option (TType × Bool) :=
b_sLookup_l1 a1 a0 
set_option maxHeartbeats 4000000 in
theorem w_sLookup (a0 : List TBinding) (a1 : List UInt8) {r : TType × Bool} (h : b_sLookup a0 a1 = some r) : SpecO Tryz.prog 36 [.d (.sl 4 (eBindings a0)), .d (.s a1)] [27] [eType r.1, .b r.2] := by
  unfold b_sLookup at h
  refine SpecO_intro Tryz.func36 rfl (by kernel_rfl) rfl (by simp) fun A _ => ?_
  refine goL ?_
  refine V_block ?_
  show V _ _ _ _ _
  refine V_bd 0 (fun z2 => ?_)
  refine V_loop1 (fun (y1 : Nat) => ⟨[(0, .d (.sl 4 (eBindings a0))), (1, .d (.s a1)), (4, .ptr 0 0), (6, .d (.i .i64 (y1 : Int)))], [.box [.d (.i .i64 0), .d (.s []), .nilsl]], Tryz.f36.ntmps⟩) (fun y1 => b_sLookup_l1 a1 (a0.drop y1)  = some r) (fun y1 => a0.length - y1) 0 ⟨rfl, ⟨⟨rfl, rfl⟩, ⟨rfl, rfl⟩, ⟨rfl, rfl⟩, ⟨rfl, rfl⟩, trivial⟩, ⟨[], rfl⟩, rfl⟩ h ?_
  rintro y1 h
  refine goL ?_
  refine V_cb (fun c3 => ?_) (fun c3 => ?_)
  · have hky12 := kltN c3
    obtain ⟨x4, hx4, hdx4⟩ := drop_at hky12
    rw [hdx4, b_sLookup_l1.eq_2] at h
    obtain ⟨x4_0, ⟨x4_1_0, x4_1_1, x4_1_2⟩⟩ := x4
    refine V_skip ?_
    show V _ _ _ _ _
    refine V_seq (V_block ?_)
    refine goL ?_
    refine VO_r (QR_ixn y1 (gBinding hx4)) ?_
    refine goL ?_
    refine V_cb (fun c5 => ?_) (fun c5 => ?_)
    · replace h := cnd_t c5 h
      refine goL ?_
      refine VO_r (QR_ixn y1 (gBinding hx4)) ?_
      refine goL ?_
      obtain ⟨g6, h⟩ := gd_s h
      obtain ⟨x7, hx7, h⟩ := lt_x h
      obtain ⟨x7_0, x7_1, x7_2⟩ := x7
      have sx7 := t_sCopyType (TType.mk x4_1_0 x4_1_1 x4_1_2) g6
      rw [hx7] at sx7
      refine VO_co (sx7) ?_
      refine goL ?_
      refine V_ret ?_
      replace h := Option.some.inj h
      subst h
      exact R_rO
    · replace h := cnd_f c5 h
      refine V_skip ?_
      show V _ _ _ _ _
      refine goL ?_
      refine VO_r (QR_inc y1 (by omega)) ?_
      refine goL ?_
      exact ⟨(y1 + 1), h, by omega, ⟨rfl, ⟨⟨rfl, rfl⟩, ⟨rfl, rfl⟩, ⟨rfl, rfl⟩, ⟨rfl, rfl⟩, trivial⟩, ⟨_, rfl⟩, rfl⟩⟩
  · have hky12 := kgeN c3
    rw [drop_end hky12, b_sLookup_l1.eq_1] at h
    refine V_exit ?_
    show V _ _ _ _ _
    refine goL ?_
    refine VO_k (Q_build TBd.h TZ.h rfl (by repeat constructor)) ?_
    refine goL ?_
    refine V_adopt 27 3 0 2 rfl rfl (by repeat constructor) (by repeat constructor) (by repeat constructor) (by repeat constructor) ?_
    refine V_ret ?_
    replace h := Option.some.inj h
    subst h
    exact R_rO
def b_sApply (rec_sApply : (List TBinding) → TType → Option (TType)) (rec_sApplyAll : (List TBinding) → (List TType) → Option (List TType)) (a0 : List TBinding) (a1 : TType) : Option (TType) :=
(cnd (a1.kind == 1) (
bnd (b_sLookup a0 a1.name) fun x2 =>
(cnd x2.2 (
(some x2.1)) (
bnd (rec_sApplyAll a0 a1.args) fun x4 =>
(some (TType.mk a1.kind a1.name x4))))) (
bnd (rec_sApplyAll a0 a1.args) fun x5 =>
(some (TType.mk a1.kind a1.name x5))))
set_option maxHeartbeats 4000000 in
theorem w_sApply {rec_sApply : (List TBinding) → TType → Option (TType)} {rec_sApplyAll : (List TBinding) → (List TType) → Option (List TType)} (hrec_sApply : ∀ (x0 : List TBinding) (x1 : TType) {r : TType}, rec_sApply x0 x1 = some r → SpecO Tryz.prog 41 [.d (.sl 4 (eBindings x0)), .d (eType x1)] [27] [eType r]) (hrec_sApplyAll : ∀ (x0 : List TBinding) (x1 : List TType) {r : List TType}, rec_sApplyAll x0 x1 = some r → SpecO Tryz.prog 70 [.d (.sl 4 (eBindings x0)), .d (.sl 3 (eTypes x1))] [27] [.sl 3 (eTypes r)]) (a0 : List TBinding) (a1 : TType) {r : TType} (h : b_sApply rec_sApply rec_sApplyAll a0 a1 = some r) : SpecO Tryz.prog 41 [.d (.sl 4 (eBindings a0)), .d (eType a1)] [27] [eType r] := by
  obtain ⟨a1_0, a1_1, a1_2⟩ := a1
  unfold b_sApply at h
  refine SpecO_intro Tryz.func41 rfl (by kernel_rfl) rfl (by simp) fun A _ => ?_
  refine goL ?_
  refine V_cb (fun c1 => ?_) (fun c1 => ?_)
  · replace h := cnd_t c1 h
    refine goL ?_
    obtain ⟨x2, hx2, h⟩ := bnd_s h
    obtain ⟨⟨x2_0_0, x2_0_1, x2_0_2⟩, x2_1⟩ := x2
    refine VO_co (w_sLookup a0 a1_1 hx2) ?_
    refine goL ?_
    refine V_cb (fun c3 => ?_) (fun c3 => ?_)
    · replace h := cnd_t c3 h
      refine goL ?_
      refine V_ret ?_
      replace h := Option.some.inj h
      subst h
      exact R_rO
    · replace h := cnd_f c3 h
      refine V_skip ?_
      show V _ _ _ _ _
      refine V_seq_drawX (P := Tryz.prog) Mix.h [(0, true), (1, true), (2, true), (3, true), (4, true), (5, true), (6, true), (7, false), (8, true), (9, false)] (by kernel_rfl) ?_
      refine goY ?_
      obtain ⟨x4, hx4, h⟩ := bnd_s h
      refine VY_co (hrec_sApplyAll a0 a1_2 hx4) ?_
      refine goY ?_
      refine VY_nil ?_
      refine goL ?_
      refine V_ret ?_
      replace h := Option.some.inj h
      subst h
      exact R_rO
  · replace h := cnd_f c1 h
    refine V_skip ?_
    show V _ _ _ _ _
    refine V_seq_drawX (P := Tryz.prog) Mix.h [(0, true), (1, true), (2, true), (3, true), (4, true), (5, true), (6, true), (7, false), (8, true), (9, false)] (by kernel_rfl) ?_
    refine goY ?_
    obtain ⟨x5, hx5, h⟩ := bnd_s h
    refine VY_co (hrec_sApplyAll a0 a1_2 hx5) ?_
    refine goY ?_
    refine VY_nil ?_
    refine goL ?_
    refine V_ret ?_
    replace h := Option.some.inj h
    subst h
    exact R_rO
def b_sApplyAll_l1 (rec_sApply : (List TBinding) → TType → Option (TType)) (a0 : List TBinding) : List TType → (List TType) → Option (List TType)
  | [], y1 => (some y1)
  | x6 :: xs, y1 => bnd (rec_sApply a0 x6) fun x7 =>
gd (y1.length + [x7].length ≤ 4294967296) (
b_sApplyAll_l1 rec_sApply a0 xs (y1 ++ [x7]))
def b_sApplyAll (rec_sApply : (List TBinding) → TType → Option (TType)) (rec_sApplyAll : (List TBinding) → (List TType) → Option (List TType)) (a0 : List TBinding) (a1 : List TType) : Option (List TType) :=
b_sApplyAll_l1 rec_sApply a0 a1 []
set_option maxHeartbeats 4000000 in
theorem w_sApplyAll {rec_sApply : (List TBinding) → TType → Option (TType)} {rec_sApplyAll : (List TBinding) → (List TType) → Option (List TType)} (hrec_sApply : ∀ (x0 : List TBinding) (x1 : TType) {r : TType}, rec_sApply x0 x1 = some r → SpecO Tryz.prog 41 [.d (.sl 4 (eBindings x0)), .d (eType x1)] [27] [eType r]) (hrec_sApplyAll : ∀ (x0 : List TBinding) (x1 : List TType) {r : List TType}, rec_sApplyAll x0 x1 = some r → SpecO Tryz.prog 70 [.d (.sl 4 (eBindings x0)), .d (.sl 3 (eTypes x1))] [27] [.sl 3 (eTypes r)]) (a0 : List TBinding) (a1 : List TType) {r : List TType} (h : b_sApplyAll rec_sApply rec_sApplyAll a0 a1 = some r) : SpecO Tryz.prog 70 [.d (.sl 4 (eBindings a0)), .d (.sl 3 (eTypes a1))] [27] [.sl 3 (eTypes r)] := by
  unfold b_sApplyAll at h
  refine SpecO_intro Tryz.func70 rfl (by kernel_rfl) rfl (by simp) fun A _ => ?_
  refine goL ?_
  refine VO_l0 ?_
  refine goL ?_
  refine V_block ?_
  show V _ _ _ _ _
  refine V_bd 1 (fun z4 => ?_)
  refine V_loop3 (fun (y3 : Nat) (y1 : List TType) (v2 : Nat) => ⟨[(0, .d (.sl 4 (eBindings a0))), (1, .d (.sl 3 (eTypes a1))), (5, .sl 0 v2), (6, .d (.i .i64 (y3 : Int)))], [.own 27 3 v2 (eTypes y1)], Tryz.f70.ntmps⟩) (fun y3 y1 v2 => b_sApplyAll_l1 rec_sApply a0 (a1.drop y3) y1 = some r) (fun y3 y1 v2 => a1.length - y3) 0 [] 0 ⟨rfl, ⟨⟨rfl, rfl⟩, ⟨rfl, rfl⟩, ⟨rfl, rfl⟩, ⟨rfl, rfl⟩, trivial⟩, ⟨[], rfl⟩, rfl⟩ h ?_
  rintro y3 y1 v2 h
  refine goL ?_
  refine V_cb (fun c5 => ?_) (fun c5 => ?_)
  · have hky32 := kltN c5
    obtain ⟨x6, hx6, hdx6⟩ := drop_at hky32
    rw [hdx6, b_sApplyAll_l1.eq_2] at h
    obtain ⟨x6_0, x6_1, x6_2⟩ := x6
    refine V_skip ?_
    show V _ _ _ _ _
    refine V_seq (V_block ?_)
    refine goL ?_
    refine VO_r (QR_ixn y3 (gType hx6)) ?_
    refine goL ?_
    obtain ⟨x7, hx7, h⟩ := bnd_s h
    obtain ⟨x7_0, x7_1, x7_2⟩ := x7
    refine VO_co (hrec_sApply a0 (TType.mk x6_0 x6_1 x6_2) hx7) ?_
    refine VO_l1t (TType.mk x7_0 x7_1 x7_2) ?_
    obtain ⟨g8, h⟩ := gd_s h
    refine VO_ap g8 ?_
    refine goL ?_
    refine VO_r (QR_inc y3 (by omega)) ?_
    refine goL ?_
    exact ⟨(y3 + 1), (y1 ++ [(TType.mk x7_0 x7_1 x7_2)]), (v2 + 1), h, by omega, ⟨rfl, ⟨⟨rfl, rfl⟩, ⟨rfl, rfl⟩, ⟨rfl, rfl⟩, ⟨rfl, rfl⟩, trivial⟩, ⟨_, rfl⟩, rfl⟩⟩
  · have hky32 := kgeN c5
    rw [drop_end hky32, b_sApplyAll_l1.eq_1] at h
    refine V_exit ?_
    show V _ _ _ _ _
    refine goL ?_
    refine V_ret ?_
    replace h := Option.some.inj h
    subst h
    exact R_rO
mutual
def m_sApply : Nat → (List TBinding) → TType → Option (TType)
  | 0, _, _ => none
  | n + 1, x0, x1 => b_sApply (m_sApply n) (m_sApplyAll n) x0 x1
def m_sApplyAll : Nat → (List TBinding) → (List TType) → Option (List TType)
  | 0, _, _ => none
  | n + 1, x0, x1 => b_sApplyAll (m_sApply n) (m_sApplyAll n) x0 x1
end
theorem ss_sApply : ∀ (n : Nat), (∀ (x0 : List TBinding) (x1 : TType) {r : TType}, m_sApply n x0 x1 = some r → SpecO Tryz.prog 41 [.d (.sl 4 (eBindings x0)), .d (eType x1)] [27] [eType r]) ∧ (∀ (x0 : List TBinding) (x1 : List TType) {r : List TType}, m_sApplyAll n x0 x1 = some r → SpecO Tryz.prog 70 [.d (.sl 4 (eBindings x0)), .d (.sl 3 (eTypes x1))] [27] [.sl 3 (eTypes r)]) := by
  intro n
  induction n with
  | zero => exact ⟨(by intro x0 x1 r h; cases h), (by intro x0 x1 r h; cases h)⟩
  | succ n ih =>
    obtain ⟨ih0, ih1⟩ := ih
    refine ⟨(fun x0 x1 r h => w_sApply ih0 ih1 x0 x1 h), (fun x0 x1 r h => w_sApplyAll ih0 ih1 x0 x1 h)⟩
theorem s_sApply : ∀ (n : Nat) (x0 : List TBinding) (x1 : TType) {r : TType}, m_sApply n x0 x1 = some r → SpecO Tryz.prog 41 [.d (.sl 4 (eBindings x0)), .d (eType x1)] [27] [eType r] := fun n => (ss_sApply n).1
/-! ### substitution, by hand -/
def lkp (v : List UInt8) : List TBinding → TType × Bool
  | [] => (⟨0, [], []⟩, false)
  | b :: l => cnd (b.var_ == v) (b.type_, true) (lkp v l)
def bok (l : List TBinding) : Prop := ∀ b ∈ l, tok b.type_
instance (l : List TBinding) : Decidable (bok l) := inferInstanceAs (Decidable (∀ b ∈ l, tok b.type_))
theorem tok_nil (k : Int) (n : List UInt8) : tok ⟨k, n, []⟩ := by simp [tok, tall]
theorem lkp_mem {v : List UInt8} : ∀ {l : List TBinding}, (lkp v l).2 = true → ∃ b ∈ l, b.var_ = v ∧ (lkp v l).1 = b.type_
  | [], h => by cases h
  | b :: l, h => by
    simp only [lkp] at h ⊢
    cases hb : b.var_ == v with
    | true => exact ⟨b, by simp, by simpa using hb, rfl⟩
    | false =>
      rw [hb] at h
      obtain ⟨c, h1, h2, h3⟩ := lkp_mem (l := l) h
      exact ⟨c, by simp [h1], h2, h3⟩
theorem lkp_no {v : List UInt8} : ∀ {l : List TBinding}, (lkp v l).2 = false → (lkp v l).1 = ⟨0, [], []⟩
  | [], h => rfl
  | b :: l, h => by
    simp only [lkp] at h ⊢
    cases hb : b.var_ == v with
    | true => rw [hb] at h; cases h
    | false => rw [hb] at h; exact lkp_no (l := l) h
theorem lkp_tok {v : List UInt8} {l : List TBinding} (h : bok l) : tok (lkp v l).1 := by
  cases hb : (lkp v l).2 with
  | true =>
    obtain ⟨b, h1, _, h3⟩ := lkp_mem hb
    rw [h3]
    exact h b h1
  | false => rw [lkp_no hb]; exact tok_nil _ _
mutual
def apT (l : List TBinding) : TType → TType
  | ⟨k, n, ts⟩ => cnd (k == 1) (cnd (lkp n l).2 (lkp n l).1 ⟨k, n, apTs l ts⟩) ⟨k, n, apTs l ts⟩
def apTs (l : List TBinding) : List TType → List TType
  | [] => []
  | a :: ts => apT l a :: apTs l ts
end
theorem apTs_map (l : List TBinding) : ∀ ts : List TType, apTs l ts = ts.map (apT l)
  | [] => rfl
  | a :: ts => by simp only [apTs, List.map_cons, apTs_map l ts]
theorem apTs_len (l : List TBinding) (ts : List TType) : (apTs l ts).length = ts.length := by rw [apTs_map, List.length_map]
theorem iLookup_l1_eq (v : List UInt8) : ∀ (l : List TBinding), bok l → b_iLookup_l1 v l = some (lkp v l)
  | [], _ => rfl
  | b :: l, h => by
    simp only [b_iLookup_l1, lkp]
    rw [gd_eq (h b (by simp)), iLookup_l1_eq v l (fun c hc => h c (by simp [hc]))]
    cases b.var_ == v <;> rfl
theorem sLookup_l1_eq (v : List UInt8) : ∀ (l : List TBinding), bok l → b_sLookup_l1 v l = some (lkp v l)
  | [], _ => rfl
  | b :: l, h => by
    simp only [b_sLookup_l1, lkp]
    rw [gd_eq (h b (by simp)), sLookup_l1_eq v l (fun c hc => h c (by simp [hc]))]
    cases b.var_ == v <;> rfl
theorem iApplyAll_l1_eq {rec : List TBinding → TType → Option TType} (l : List TBinding) (f : TType → TType) : ∀ (xs : List TType) (k : Nat) (y : List TType), (∀ x ∈ xs, rec l x = some (f x)) → y.length = k + xs.length → b_iApplyAll_l1 rec l xs k y = some (y.take k ++ xs.map f)
  | [], k, y, _, h => by
    simp only [b_iApplyAll_l1, List.map_nil, List.append_nil]
    rw [List.take_of_length_le (by simp at h; omega)]
  | x :: xs, k, y, h1, h2 => by
    simp only [b_iApplyAll_l1]
    rw [h1 x (by simp)]
    simp only [bnd, List.length_cons] at h2 ⊢
    rw [gd_eq (by omega), iApplyAll_l1_eq l f xs (k + 1) _ (fun z hz => h1 z (by simp [hz])) (by simp; omega), take_set_succ (by omega)]
    simp
theorem iApply_eq : ∀ (n : Nat), (∀ (l : List TBinding) (t : TType), bok l → tok t → 2 * tnd t ≤ n → m_iApply n l t = some (apT l t)) ∧ (∀ (l : List TBinding) (ts : List TType), bok l → tsok ts → 2 * tnds ts + 1 ≤ n → m_iApplyAll n l ts = some (apTs l ts))
  | 0 => ⟨fun _ t _ _ h => by have := tnd_pos t; omega, fun _ ts _ _ h => by omega⟩
  | n + 1 => by
    obtain ⟨h1, h2⟩ := iApply_eq n
    refine ⟨fun l t hl ht hn => ?_, fun l ts hl ht hn => ?_⟩
    · obtain ⟨k, s, ts⟩ := t
      simp only [tnd] at hn
      simp only [m_iApply, b_iApply, b_iLookup, apT]
      rw [h2 l ts hl (by simpa only [tok, tsok] using ht) (by omega), iLookup_l1_eq s l hl]
      simp only [bnd]
      cases k == 1 <;> cases (lkp s l).2 <;> rfl
    · simp only [m_iApplyAll, b_iApplyAll]
      rw [gd_eq ht.1, iApplyAll_l1_eq l (apT l) ts 0 _ (fun x hx => h1 l x hl (tall_iff.1 ht.2 x hx) (by have := tnd_mem hx; omega)) (by simp)]
      simp [apTs_map]
theorem sApplyAll_l1_eq {rec : List TBinding → TType → Option TType} (l : List TBinding) (f : TType → TType) : ∀ (xs : List TType) (y : List TType), (∀ x ∈ xs, rec l x = some (f x)) → y.length + xs.length ≤ 4294967296 → b_sApplyAll_l1 rec l xs y = some (y ++ xs.map f)
  | [], y, _, h => by simp [b_sApplyAll_l1]
  | x :: xs, y, h1, h2 => by
    simp only [b_sApplyAll_l1]
    rw [h1 x (by simp)]
    simp only [bnd, List.length_cons, List.length_nil] at h2 ⊢
    rw [gd_eq (by omega), sApplyAll_l1_eq l f xs _ (fun z hz => h1 z (by simp [hz])) (by simp; omega)]
    simp
theorem sApply_eq : ∀ (n : Nat), (∀ (l : List TBinding) (t : TType), bok l → tok t → 2 * tnd t ≤ n → m_sApply n l t = some (apT l t)) ∧ (∀ (l : List TBinding) (ts : List TType), bok l → tsok ts → 2 * tnds ts + 1 ≤ n → m_sApplyAll n l ts = some (apTs l ts))
  | 0 => ⟨fun _ t _ _ h => by have := tnd_pos t; omega, fun _ ts _ _ h => by omega⟩
  | n + 1 => by
    obtain ⟨h1, h2⟩ := sApply_eq n
    refine ⟨fun l t hl ht hn => ?_, fun l ts hl ht hn => ?_⟩
    · obtain ⟨k, s, ts⟩ := t
      simp only [tnd] at hn
      simp only [m_sApply, b_sApply, b_sLookup, apT]
      rw [h2 l ts hl (by simpa only [tok, tsok] using ht) (by omega), sLookup_l1_eq s l hl]
      simp only [bnd]
      cases k == 1 <;> cases (lkp s l).2 <;> rfl
    · simp only [m_sApplyAll, b_sApplyAll]
      rw [sApplyAll_l1_eq l (apT l) ts _ (fun x hx => h1 l x hl (tall_iff.1 ht.2 x hx) (by have := tnd_mem hx; omega)) (by simpa using ht.1)]
      simp [apTs_map]
mutual
theorem apT_tok {l : List TBinding} (hl : bok l) : ∀ (t : TType), tok t → tok (apT l t)
  | ⟨k, n, ts⟩, h => by
    simp only [tok] at h
    have h1 := apTs_tok hl ts h.2
    have h2 : tok ⟨k, n, apTs l ts⟩ := by simp only [tok, apTs_len]; exact ⟨h.1, h1⟩
    simp only [apT]
    cases k == 1 with
    | false => exact h2
    | true =>
      simp only [cnd_true]
      cases (lkp n l).2 with
      | false => exact h2
      | true => exact lkp_tok hl
theorem apTs_tok {l : List TBinding} (hl : bok l) : ∀ (ts : List TType), tall ts → tall (apTs l ts)
  | [], _ => by simp [apTs, tall]
  | a :: ts, h => by
    simp only [tall] at h
    simp only [apTs, tall]
    exact ⟨apT_tok hl a h.1, apTs_tok hl ts h.2⟩
end
/-- No type in it has more than M nodes. -/
def bnds (M : Nat) (l : List TBinding) : Prop := 1 ≤ M ∧ ∀ b ∈ l, tnd b.type_ ≤ M
theorem lkp_tnd {M : Nat} {v : List UInt8} {l : List TBinding} (h : bnds M l) : tnd (lkp v l).1 ≤ M := by
  cases hb : (lkp v l).2 with
  | true =>
    obtain ⟨b, h1, _, h3⟩ := lkp_mem hb
    rw [h3]
    exact h.2 b h1
  | false => rw [lkp_no hb]; simp only [tnd, tnds]; exact h.1
mutual
theorem apT_tnd {M : Nat} {l : List TBinding} (hl : bnds M l) : ∀ (t : TType), tnd (apT l t) ≤ M * tnd t
  | ⟨k, n, ts⟩ => by
    have h1 := apTs_tnd hl ts
    have h0 := hl.1
    have h2 : tnd ⟨k, n, apTs l ts⟩ ≤ M * (1 + tnds ts) := by
      simp only [tnd, Nat.mul_add]
      omega
    have h3 : tnd (lkp n l).1 ≤ M * (1 + tnds ts) := by
      have := lkp_tnd (v := n) hl
      rw [Nat.mul_add]
      omega
    simp only [apT]
    cases k == 1 with
    | false => exact h2
    | true =>
      simp only [cnd_true]
      cases (lkp n l).2 with
      | false => exact h2
      | true => exact h3
theorem apTs_tnd {M : Nat} {l : List TBinding} (hl : bnds M l) : ∀ (ts : List TType), tnds (apTs l ts) ≤ M * tnds ts
  | [] => by simp [apTs, tnds]
  | a :: ts => by
    have h1 := apT_tnd hl a
    have h2 := apTs_tnd hl ts
    simp only [apTs, tnds, Nat.mul_add]
    omega
end
theorem t_iApply (x0 : List TBinding) (x1 : TType) (h : bok x0 ∧ tok x1) : SpecO Tryz.prog 8 [.d (.sl 4 (eBindings x0)), .d (eType x1)] [27] [eType (apT x0 x1)] := s_iApply (2 * tnd x1) x0 x1 ((iApply_eq _).1 _ _ h.1 h.2 (Nat.le_refl _))
theorem t_sApply (x0 : List TBinding) (x1 : TType) (h : bok x0 ∧ tok x1) : SpecO Tryz.prog 41 [.d (.sl 4 (eBindings x0)), .d (eType x1)] [27] [eType (apT x0 x1)] := s_sApply (2 * tnd x1) x0 x1 ((sApply_eq _).1 _ _ h.1 h.2 (Nat.le_refl _))
end Go.Proofs.YtgmlpaaklnkghaaGreat
