/- Gk5. Written by a program of mine (aw.py). -/
import Derived.Test.YtihihldpcgiibaaGreatFacts
import Derived.Test.YtihihldpcgiibaaGreatGk4
import Derived.Test.YtihihldpcgiibaaGreatEng46
set_option linter.unusedVariables false
set_option linter.unusedSimpArgs false
set_option linter.unusedSectionVars false
namespace Go.Proofs.YtihihldpcgiibaaGreat
open Go Go.Eng
attribute [local irreducible] V VO VQ VY Quiet QR SpecP SpecO MSpec Rng PostP PostO PostG
def b_iCopyType (rec_iCopyType : TType → Option (TType)) (rec_iCopyTypes : (List TType) → Option (List TType)) (a0 : TType) : Option (TType) :=
bnd (rec_iCopyTypes a0.args) fun x1 =>
(some (TType.mk a0.kind a0.name x1))
set_option maxHeartbeats 4000000 in
theorem w_iCopyType {rec_iCopyType : TType → Option (TType)} {rec_iCopyTypes : (List TType) → Option (List TType)} (hrec_iCopyType : ∀ (x0 : TType) {r : TType}, rec_iCopyType x0 = some r → SpecO Tryz.prog 106 [.d (eType x0)] [39] [eType r]) (hrec_iCopyTypes : ∀ (x0 : List TType) {r : List TType}, rec_iCopyTypes x0 = some r → SpecO Tryz.prog 165 [.d (.sl 3 (eTypes x0))] [39] [.sl 3 (eTypes r)]) (a0 : TType) {r : TType} (h : b_iCopyType rec_iCopyType rec_iCopyTypes a0 = some r) : SpecO Tryz.prog 106 [.d (eType a0)] [39] [eType r] := by
  obtain ⟨a0_0, a0_1, a0_2⟩ := a0
  unfold b_iCopyType at h
  refine SpecO_intro Tryz.func106 rfl (by kernel_rfl) rfl (by simp) fun A _ => ?_
  refine goL ?_
  obtain ⟨x1, hx1, h⟩ := bnd_s h
  refine VO_co (hrec_iCopyTypes a0_2 hx1) ?_
  refine goL ?_
  refine V_ret ?_
  replace h := Option.some.inj h
  subst h
  exact R_rO
def b_iCopyTypes_l1 (rec_iCopyType : TType → Option (TType)) : List TType → Nat → (List TType) → Option (List TType)
  | [], y4, y2 => (some y2)
  | x7 :: xs, y4, y2 => bnd (rec_iCopyType x7) fun x8 =>
gd (y4 < y2.length) (
b_iCopyTypes_l1 rec_iCopyType xs (y4 + 1) (y2.set y4 x8))
def b_iCopyTypes (rec_iCopyType : TType → Option (TType)) (rec_iCopyTypes : (List TType) → Option (List TType)) (a0 : List TType) : Option (List TType) :=
gd (a0.length ≤ 4294967296) (
b_iCopyTypes_l1 rec_iCopyType a0 0 (List.replicate a0.length (TType.mk 0 [] [])))
set_option maxHeartbeats 4000000 in
theorem w_iCopyTypes {rec_iCopyType : TType → Option (TType)} {rec_iCopyTypes : (List TType) → Option (List TType)} (hrec_iCopyType : ∀ (x0 : TType) {r : TType}, rec_iCopyType x0 = some r → SpecO Tryz.prog 106 [.d (eType x0)] [39] [eType r]) (hrec_iCopyTypes : ∀ (x0 : List TType) {r : List TType}, rec_iCopyTypes x0 = some r → SpecO Tryz.prog 165 [.d (.sl 3 (eTypes x0))] [39] [.sl 3 (eTypes r)]) (a0 : List TType) {r : List TType} (h : b_iCopyTypes rec_iCopyType rec_iCopyTypes a0 = some r) : SpecO Tryz.prog 165 [.d (.sl 3 (eTypes a0))] [39] [.sl 3 (eTypes r)] := by
  unfold b_iCopyTypes at h
  refine SpecO_intro Tryz.func165 rfl (by kernel_rfl) rfl (by simp) fun A _ => ?_
  refine goL ?_
  obtain ⟨g1, h⟩ := gd_s h
  refine VO_mk (TType.mk 0 [] []) g1 ?_
  refine goL ?_
  refine V_block ?_
  show V _ _ _ _ _
  refine V_bd 9 (fun z5 => ?_)
  refine V_loop3 (fun (y4 : Nat) (y2 : List TType) (v3 : Nat) => ⟨[(3, .sl 0 v3), (9, .d (.sl 3 (eTypes a0))), (10, .d (.i .i64 (a0.length : Int))), (11, .d (.i .i64 (y4 : Int)))], [.own 39 3 v3 (eTypes y2)], Tryz.f165.ntmps⟩) (fun y4 y2 v3 => b_iCopyTypes_l1 rec_iCopyType (a0.drop y4) y4 y2 = some r) (fun y4 y2 v3 => a0.length - y4) 0 (List.replicate a0.length (TType.mk 0 [] [])) 0 ⟨rfl, ⟨⟨rfl, rfl⟩, ⟨rfl, rfl⟩, ⟨rfl, rfl⟩, ⟨rfl, rfl⟩, trivial⟩, ⟨[], rfl⟩, rfl⟩ h ?_
  rintro y4 y2 v3 h
  refine goL ?_
  refine V_seq (V_cb (fun c6 => ?_) (fun c6 => ?_))
  · have hky42 := kltN c6
    obtain ⟨x7, hx7, hdx7⟩ := drop_at hky42
    rw [hdx7, b_iCopyTypes_l1.eq_2] at h
    obtain ⟨x7_0, x7_1, x7_2⟩ := x7
    refine V_skip ?_
    show V _ _ _ _ _
    refine V_seq (V_block ?_)
    refine goL ?_
    refine VO_r (QR_ixn y4 (gType hx7)) ?_
    refine goL ?_
    obtain ⟨x8, hx8, h⟩ := bnd_s h
    obtain ⟨x8_0, x8_1, x8_2⟩ := x8
    refine VO_co (hrec_iCopyType (TType.mk x7_0 x7_1 x7_2) hx8) ?_
    obtain ⟨g9, h⟩ := gd_s h
    refine VO_k (Q_ixo y4 g9) ?_
    refine VO_st (TType.mk x8_0 x8_1 x8_2) g9 ?_
    refine goL ?_
    refine VO_r (QR_inc y4 (by omega)) ?_
    refine goL ?_
    exact ⟨(y4 + 1), (y2.set y4 (TType.mk x8_0 x8_1 x8_2)), v3, h, by omega, ⟨rfl, ⟨⟨rfl, rfl⟩, ⟨rfl, rfl⟩, ⟨rfl, rfl⟩, ⟨rfl, rfl⟩, trivial⟩, ⟨_, rfl⟩, rfl⟩⟩
  · have hky42 := kgeN c6
    rw [drop_end hky42, b_iCopyTypes_l1.eq_1] at h
    refine V_exit ?_
    show V _ _ _ _ _
    refine goL ?_
    refine V_ret ?_
    replace h := Option.some.inj h
    subst h
    exact R_rO
mutual
def m_iCopyType : Nat → TType → Option (TType)
  | 0, _ => none
  | n + 1, x0 => b_iCopyType (m_iCopyType n) (m_iCopyTypes n) x0
def m_iCopyTypes : Nat → (List TType) → Option (List TType)
  | 0, _ => none
  | n + 1, x0 => b_iCopyTypes (m_iCopyType n) (m_iCopyTypes n) x0
end
theorem ss_iCopyType : ∀ (n : Nat), (∀ (x0 : TType) {r : TType}, m_iCopyType n x0 = some r → SpecO Tryz.prog 106 [.d (eType x0)] [39] [eType r]) ∧ (∀ (x0 : List TType) {r : List TType}, m_iCopyTypes n x0 = some r → SpecO Tryz.prog 165 [.d (.sl 3 (eTypes x0))] [39] [.sl 3 (eTypes r)]) := by
  intro n
  induction n with
  | zero => exact ⟨(by intro x0 r h; cases h), (by intro x0 r h; cases h)⟩
  | succ n ih =>
    obtain ⟨ih0, ih1⟩ := ih
    refine ⟨(fun x0 r h => w_iCopyType ih0 ih1 x0 h), (fun x0 r h => w_iCopyTypes ih0 ih1 x0 h)⟩
theorem s_iCopyType : ∀ (n : Nat) (x0 : TType) {r : TType}, m_iCopyType n x0 = some r → SpecO Tryz.prog 106 [.d (eType x0)] [39] [eType r] := fun n => (ss_iCopyType n).1
theorem s_iCopyTypes : ∀ (n : Nat) (x0 : List TType) {r : List TType}, m_iCopyTypes n x0 = some r → SpecO Tryz.prog 165 [.d (.sl 3 (eTypes x0))] [39] [.sl 3 (eTypes r)] := fun n => (ss_iCopyType n).2
def b_sCopyType (rec_sCopyType : TType → Option (TType)) (rec_sCopyTypes : (List TType) → Option (List TType)) (a0 : TType) : Option (TType) :=
bnd (rec_sCopyTypes a0.args) fun x1 =>
(some (TType.mk a0.kind a0.name x1))
set_option maxHeartbeats 4000000 in
theorem w_sCopyType {rec_sCopyType : TType → Option (TType)} {rec_sCopyTypes : (List TType) → Option (List TType)} (hrec_sCopyType : ∀ (x0 : TType) {r : TType}, rec_sCopyType x0 = some r → SpecO Tryz.prog 147 [.d (eType x0)] [39] [eType r]) (hrec_sCopyTypes : ∀ (x0 : List TType) {r : List TType}, rec_sCopyTypes x0 = some r → SpecO Tryz.prog 210 [.d (.sl 3 (eTypes x0))] [39] [.sl 3 (eTypes r)]) (a0 : TType) {r : TType} (h : b_sCopyType rec_sCopyType rec_sCopyTypes a0 = some r) : SpecO Tryz.prog 147 [.d (eType a0)] [39] [eType r] := by
  obtain ⟨a0_0, a0_1, a0_2⟩ := a0
  unfold b_sCopyType at h
  refine SpecO_intro Tryz.func147 rfl (by kernel_rfl) rfl (by simp) fun A _ => ?_
  refine goNL ?_
  refine V_seq_drawX (P := Tryz.prog) Mix.h [(0, true), (1, true), (2, true), (3, true), (4, true), (5, true), (6, false), (7, true), (8, false)] (by kernel_rfl) ?_
  refine goY ?_
  obtain ⟨x1, hx1, h⟩ := bnd_s h
  refine VY_co (hrec_sCopyTypes a0_2 hx1) ?_
  refine goY ?_
  refine VY_nil ?_
  refine goL ?_
  refine V_ret ?_
  replace h := Option.some.inj h
  subst h
  exact R_rO
def b_sCopyTypes_l1 (rec_sCopyType : TType → Option (TType)) : List TType → (List TType) → Option (List TType)
  | [], y1 => (some y1)
  | x6 :: xs, y1 => bnd (rec_sCopyType x6) fun x7 =>
gd (y1.length + [x7].length ≤ 4294967296) (
b_sCopyTypes_l1 rec_sCopyType xs (y1 ++ [x7]))
def b_sCopyTypes (rec_sCopyType : TType → Option (TType)) (rec_sCopyTypes : (List TType) → Option (List TType)) (a0 : List TType) : Option (List TType) :=
b_sCopyTypes_l1 rec_sCopyType a0 []
set_option maxHeartbeats 4000000 in
theorem w_sCopyTypes {rec_sCopyType : TType → Option (TType)} {rec_sCopyTypes : (List TType) → Option (List TType)} (hrec_sCopyType : ∀ (x0 : TType) {r : TType}, rec_sCopyType x0 = some r → SpecO Tryz.prog 147 [.d (eType x0)] [39] [eType r]) (hrec_sCopyTypes : ∀ (x0 : List TType) {r : List TType}, rec_sCopyTypes x0 = some r → SpecO Tryz.prog 210 [.d (.sl 3 (eTypes x0))] [39] [.sl 3 (eTypes r)]) (a0 : List TType) {r : List TType} (h : b_sCopyTypes rec_sCopyType rec_sCopyTypes a0 = some r) : SpecO Tryz.prog 210 [.d (.sl 3 (eTypes a0))] [39] [.sl 3 (eTypes r)] := by
  unfold b_sCopyTypes at h
  refine SpecO_intro Tryz.func210 rfl (by kernel_rfl) rfl (by simp) fun A _ => ?_
  refine goL ?_
  refine VO_l0 ?_
  refine goL ?_
  refine V_block ?_
  show V _ _ _ _ _
  refine V_bd 0 (fun z4 => ?_)
  refine V_loop3 (fun (y3 : Nat) (y1 : List TType) (v2 : Nat) => ⟨[(0, .d (.sl 3 (eTypes a0))), (3, .sl 0 v2), (4, .d (.i .i64 (y3 : Int)))], [.own 39 3 v2 (eTypes y1)], Tryz.f210.ntmps⟩) (fun y3 y1 v2 => b_sCopyTypes_l1 rec_sCopyType (a0.drop y3) y1 = some r) (fun y3 y1 v2 => a0.length - y3) 0 [] 0 ⟨rfl, ⟨⟨rfl, rfl⟩, ⟨rfl, rfl⟩, ⟨rfl, rfl⟩, trivial⟩, ⟨[], rfl⟩, rfl⟩ h ?_
  rintro y3 y1 v2 h
  refine goL ?_
  refine V_cb (fun c5 => ?_) (fun c5 => ?_)
  · have hky32 := kltN c5
    obtain ⟨x6, hx6, hdx6⟩ := drop_at hky32
    rw [hdx6, b_sCopyTypes_l1.eq_2] at h
    obtain ⟨x6_0, x6_1, x6_2⟩ := x6
    refine V_skip ?_
    show V _ _ _ _ _
    refine V_seq (V_block ?_)
    refine goL ?_
    refine VO_r (QR_ixn y3 (gType hx6)) ?_
    refine goL ?_
    obtain ⟨x7, hx7, h⟩ := bnd_s h
    obtain ⟨x7_0, x7_1, x7_2⟩ := x7
    refine VO_co (hrec_sCopyType (TType.mk x6_0 x6_1 x6_2) hx7) ?_
    refine VO_l1t (TType.mk x7_0 x7_1 x7_2) ?_
    obtain ⟨g8, h⟩ := gd_s h
    refine VO_ap g8 ?_
    refine goL ?_
    refine VO_r (QR_inc y3 (by omega)) ?_
    refine goL ?_
    exact ⟨(y3 + 1), (y1 ++ [(TType.mk x7_0 x7_1 x7_2)]), (v2 + 1), h, by omega, ⟨rfl, ⟨⟨rfl, rfl⟩, ⟨rfl, rfl⟩, ⟨rfl, rfl⟩, trivial⟩, ⟨_, rfl⟩, rfl⟩⟩
  · have hky32 := kgeN c5
    rw [drop_end hky32, b_sCopyTypes_l1.eq_1] at h
    refine V_exit ?_
    show V _ _ _ _ _
    refine goL ?_
    refine V_ret ?_
    replace h := Option.some.inj h
    subst h
    exact R_rO
mutual
def m_sCopyType : Nat → TType → Option (TType)
  | 0, _ => none
  | n + 1, x0 => b_sCopyType (m_sCopyType n) (m_sCopyTypes n) x0
def m_sCopyTypes : Nat → (List TType) → Option (List TType)
  | 0, _ => none
  | n + 1, x0 => b_sCopyTypes (m_sCopyType n) (m_sCopyTypes n) x0
end
theorem ss_sCopyType : ∀ (n : Nat), (∀ (x0 : TType) {r : TType}, m_sCopyType n x0 = some r → SpecO Tryz.prog 147 [.d (eType x0)] [39] [eType r]) ∧ (∀ (x0 : List TType) {r : List TType}, m_sCopyTypes n x0 = some r → SpecO Tryz.prog 210 [.d (.sl 3 (eTypes x0))] [39] [.sl 3 (eTypes r)]) := by
  intro n
  induction n with
  | zero => exact ⟨(by intro x0 r h; cases h), (by intro x0 r h; cases h)⟩
  | succ n ih =>
    obtain ⟨ih0, ih1⟩ := ih
    refine ⟨(fun x0 r h => w_sCopyType ih0 ih1 x0 h), (fun x0 r h => w_sCopyTypes ih0 ih1 x0 h)⟩
theorem s_sCopyType : ∀ (n : Nat) (x0 : TType) {r : TType}, m_sCopyType n x0 = some r → SpecO Tryz.prog 147 [.d (eType x0)] [39] [eType r] := fun n => (ss_sCopyType n).1
theorem s_sCopyTypes : ∀ (n : Nat) (x0 : List TType) {r : List TType}, m_sCopyTypes n x0 = some r → SpecO Tryz.prog 210 [.d (.sl 3 (eTypes x0))] [39] [.sl 3 (eTypes r)] := fun n => (ss_sCopyType n).2
/-! ### copies, by hand -/
theorem take_set_succ {α : Type} {l : List α} {k : Nat} {x : α} (h : k < l.length) : (l.set k x).take (k + 1) = l.take k ++ [x] := by
  apply List.ext_getElem?
  intro i
  rw [List.getElem?_take, List.getElem?_append, List.length_take, List.getElem?_take, List.getElem?_set]
  have hm : min k l.length = k := Nat.min_eq_left (by omega)
  rw [hm]
  by_cases h1 : i < k
  · rw [if_pos (by omega), if_neg (by omega), if_pos h1, if_pos h1]
  · rw [if_neg h1]
    by_cases h2 : i = k
    · subst h2
      rw [if_pos (by omega), if_pos rfl, if_pos h]
      simp
    · rw [if_neg (by omega), List.getElem?_eq_none (by simp; omega)]
theorem iCopyTypes_l1_eq {rec : TType → Option TType} : ∀ (xs : List TType) (k : Nat) (y : List TType), (∀ x ∈ xs, rec x = some x) → y.length = k + xs.length → b_iCopyTypes_l1 rec xs k y = some (y.take k ++ xs)
  | [], k, y, _, h => by
    simp only [b_iCopyTypes_l1, List.append_nil]
    rw [List.take_of_length_le (by simp at h; omega)]
  | x :: xs, k, y, h1, h2 => by
    simp only [b_iCopyTypes_l1]
    rw [h1 x (by simp)]
    simp only [bnd, List.length_cons] at h2 ⊢
    rw [gd_eq (by omega), iCopyTypes_l1_eq xs (k + 1) _ (fun z hz => h1 z (by simp [hz])) (by simp; omega), take_set_succ (by omega)]
    simp
theorem iCopy_eq : ∀ (n : Nat), (∀ t : TType, 2 * tnd t ≤ n → tok t → m_iCopyType n t = some (idT t)) ∧ (∀ ts : List TType, 2 * tnds ts + 1 ≤ n → tsok ts → m_iCopyTypes n ts = some (idTs ts))
  | 0 => ⟨fun t h => by have := tnd_pos t; omega, fun ts h => by omega⟩
  | n + 1 => by
    obtain ⟨h1, h2⟩ := iCopy_eq n
    refine ⟨fun t hn ht => ?_, fun ts hn ht => ?_⟩
    · obtain ⟨k, s, ts⟩ := t
      simp only [tnd] at hn
      simp only [m_iCopyType, b_iCopyType]
      rw [h2 ts (by omega) (by simpa only [tok, tsok] using ht)]
      rfl
    · simp only [m_iCopyTypes, b_iCopyTypes]
      rw [gd_eq ht.1, iCopyTypes_l1_eq ts 0 _ (fun x hx => h1 x (by have := tnd_mem hx; omega) (tall_iff.1 ht.2 x hx)) (by simp)]
      simp [idTs]
theorem sCopyTypes_l1_eq {rec : TType → Option TType} : ∀ (xs : List TType) (y : List TType), (∀ x ∈ xs, rec x = some x) → y.length + xs.length ≤ 4294967296 → b_sCopyTypes_l1 rec xs y = some (y ++ xs)
  | [], y, _, h => by simp [b_sCopyTypes_l1]
  | x :: xs, y, h1, h2 => by
    simp only [b_sCopyTypes_l1]
    rw [h1 x (by simp)]
    simp only [bnd, List.length_cons, List.length_nil] at h2 ⊢
    rw [gd_eq (by omega), sCopyTypes_l1_eq xs _ (fun z hz => h1 z (by simp [hz])) (by simp; omega)]
    simp
theorem sCopy_eq : ∀ (n : Nat), (∀ t : TType, 2 * tnd t ≤ n → tok t → m_sCopyType n t = some (idT t)) ∧ (∀ ts : List TType, 2 * tnds ts + 1 ≤ n → tsok ts → m_sCopyTypes n ts = some (idTs ts))
  | 0 => ⟨fun t h => by have := tnd_pos t; omega, fun ts h => by omega⟩
  | n + 1 => by
    obtain ⟨h1, h2⟩ := sCopy_eq n
    refine ⟨fun t hn ht => ?_, fun ts hn ht => ?_⟩
    · obtain ⟨k, s, ts⟩ := t
      simp only [tnd] at hn
      simp only [m_sCopyType, b_sCopyType]
      rw [h2 ts (by omega) (by simpa only [tok, tsok] using ht)]
      rfl
    · simp only [m_sCopyTypes, b_sCopyTypes]
      rw [sCopyTypes_l1_eq ts _ (fun x hx => h1 x (by have := tnd_mem hx; omega) (tall_iff.1 ht.2 x hx)) (by simpa using ht.1)]
      simp [idTs]

theorem t_iCopyType (x0 : TType) (h : tok x0) : SpecO Tryz.prog 106 [.d (eType x0)] [39] [eType (idT x0)] := s_iCopyType (2 * tnd x0) x0 ((iCopy_eq _).1 _ (Nat.le_refl _) h)
theorem t_iCopyTypes (x0 : List TType) (h : tsok x0) : SpecO Tryz.prog 165 [.d (.sl 3 (eTypes x0))] [39] [.sl 3 (eTypes (idTs x0))] := s_iCopyTypes (2 * tnds x0 + 1) x0 ((iCopy_eq _).2 _ (Nat.le_refl _) h)
theorem t_sCopyType (x0 : TType) (h : tok x0) : SpecO Tryz.prog 147 [.d (eType x0)] [39] [eType (idT x0)] := s_sCopyType (2 * tnd x0) x0 ((sCopy_eq _).1 _ (Nat.le_refl _) h)
theorem t_sCopyTypes (x0 : List TType) (h : tsok x0) : SpecO Tryz.prog 210 [.d (.sl 3 (eTypes x0))] [39] [.sl 3 (eTypes (idTs x0))] := s_sCopyTypes (2 * tnds x0 + 1) x0 ((sCopy_eq _).2 _ (Nat.le_refl _) h)
def b_EqualFuncT_l1 (a1 : List TType) (a2 : TType → TType → Option Bool) : List TType → Nat → Option (Bool)
  | [], y2 => (some true)
  | x5 :: xs, y2 => bnd (at? a1 (y2 : Int)) fun x6 =>
bnd (a2 x5 x6) fun x7 =>
(cnd (!x7) (
(some false)) (
b_EqualFuncT_l1 a1 a2 xs (y2 + 1)))
def b_EqualFuncT (a0 : List TType) (a1 : List TType) (a2 : TType → TType → Option Bool) : Option (Bool) :=
(cnd ((a0.length : Int) != (a1.length : Int)) (
(some false)) (
b_EqualFuncT_l1 a1 a2 a0 0))
set_option maxHeartbeats 4000000 in
theorem w_EqualFuncT (a0 : List TType) (a1 : List TType) {a2f : Nat} {a2c : List SV} {a2 : TType → TType → Option Bool} (a2_lt : ∀ n, SV.lts n a2c = true) (ha2 : ∀ (x0 : TType) (x1 : TType) (r : Bool), a2 x0 x1 = some r → SpecP Tryz.prog a2f ([.d (eType x0), .d (eType x1)] ++ a2c) [.b r]) {r : Bool} (h : b_EqualFuncT a0 a1 a2 = some r) : SpecP Tryz.prog 264 [.d (.sl 3 (eTypes a0)), .d (.sl 3 (eTypes a1)), .fn a2f a2c] [.b r] := by
  unfold b_EqualFuncT at h
  refine SpecP_intro Tryz.func264 rfl (by kernel_rfl) rfl fun A _ => ?_
  refine goL ?_
  refine V_cb (fun c1 => ?_) (fun c1 => ?_)
  · replace h := cnd_t c1 h
    refine goL ?_
    refine V_ret ?_
    replace h := Option.some.inj h
    subst h
    exact R_rP
  · replace h := cnd_f c1 h
    refine V_skip ?_
    show V _ _ _ _ _
    refine goL ?_
    refine V_block ?_
    show V _ _ _ _ _
    refine V_bd 15 (fun z3 => ?_)
    refine V_loop1 (fun (y2 : Nat) => ⟨[(1, .d (.sl 3 (eTypes a1))), (2, .fn a2f a2c), (15, .d (.sl 3 (eTypes a0))), (16, .d (.i .i64 (a0.length : Int))), (17, .d (.i .i64 (y2 : Int)))], [], Tryz.f264.ntmps⟩) (fun y2 => b_EqualFuncT_l1 a1 a2 (a0.drop y2) y2 = some r) (fun y2 => a0.length - y2) 0 ⟨rfl, ⟨⟨rfl, rfl⟩, ⟨rfl, a2_lt _⟩, ⟨rfl, rfl⟩, ⟨rfl, rfl⟩, ⟨rfl, rfl⟩, trivial⟩, ⟨[], rfl⟩, rfl⟩ h ?_
    rintro y2 h
    refine goL ?_
    refine V_seq (V_cb (fun c4 => ?_) (fun c4 => ?_))
    · have hky22 := kltN c4
      obtain ⟨x5, hx5, hdx5⟩ := drop_at hky22
      rw [hdx5, b_EqualFuncT_l1.eq_2] at h
      obtain ⟨x5_0, x5_1, x5_2⟩ := x5
      refine V_skip ?_
      show V _ _ _ _ _
      refine V_seq (V_block ?_)
      refine goL ?_
      refine VO_r (QR_ixn y2 (gType hx5)) ?_
      refine goL ?_
      obtain ⟨x6, hx6, h⟩ := bnd_s h
      rw [at_nat] at hx6
      obtain ⟨x6_0, x6_1, x6_2⟩ := x6
      refine VO_r (QR_ixn y2 (gType hx6)) ?_
      refine goL ?_
      obtain ⟨x7, hx7, h⟩ := bnd_s h
      refine VO_r (QR_callf (ha2 _ _ _ hx7) (a2_lt 0)) ?_
      refine goL ?_
      refine V_cb (fun c8 => ?_) (fun c8 => ?_)
      · replace h := cnd_t c8 h
        refine goL ?_
        refine V_ret ?_
        replace h := Option.some.inj h
        subst h
        exact R_rP
      · replace h := cnd_f c8 h
        refine V_skip ?_
        show V _ _ _ _ _
        refine goL ?_
        refine VO_r (QR_inc y2 (by omega)) ?_
        refine goL ?_
        exact ⟨(y2 + 1), h, by omega, ⟨rfl, ⟨⟨rfl, rfl⟩, ⟨rfl, a2_lt _⟩, ⟨rfl, rfl⟩, ⟨rfl, rfl⟩, ⟨rfl, rfl⟩, trivial⟩, ⟨_, rfl⟩, rfl⟩⟩
    · have hky22 := kgeN c4
      rw [drop_end hky22, b_EqualFuncT_l1.eq_1] at h
      refine V_exit ?_
      show V _ _ _ _ _
      refine goL ?_
      refine V_ret ?_
      replace h := Option.some.inj h
      subst h
      exact R_rP
def b_iEqualType (rec_iEqualType : TType → TType → Option (Bool)) (a0 : TType) (a1 : TType) : Option (Bool) :=
bnd ((cnd (a0.kind == a1.kind) ((cnd (a0.name == a1.name) (bnd (b_EqualFuncT a0.args a1.args rec_iEqualType) fun x4 =>
(some x4)) ((some false)))) ((some false)))) fun b1 =>
(some b1)
set_option maxHeartbeats 4000000 in
theorem w_iEqualType {rec_iEqualType : TType → TType → Option (Bool)} (hrec_iEqualType : ∀ (x0 : TType) (x1 : TType) {r : Bool}, rec_iEqualType x0 x1 = some r → SpecP Tryz.prog 219 [.d (eType x0), .d (eType x1)] [.b r]) (a0 : TType) (a1 : TType) {r : Bool} (h : b_iEqualType rec_iEqualType a0 a1 = some r) : SpecP Tryz.prog 219 [.d (eType a0), .d (eType a1)] [.b r] := by
  obtain ⟨a0_0, a0_1, a0_2⟩ := a0
  obtain ⟨a1_0, a1_1, a1_2⟩ := a1
  unfold b_iEqualType at h
  refine SpecP_intro Tryz.func219 rfl (by kernel_rfl) rfl fun A _ => ?_
  refine goL ?_
  obtain ⟨b1, hb1, h⟩ := bnd_s h
  refine VO_join ⟨[(4, .d (.b b1))], [.box [.d (.i .i64 a0_0), .d (.s a0_1), .d (.sl 3 (eTypes a0_2))], .box [.d (.i .i64 a1_0), .d (.s a1_1), .d (.sl 3 (eTypes a1_2))]], Tryz.f219.ntmps⟩ ?_ ?_
  · refine VO_case 10 (fun c2 => ?_) (fun c2 => ?_)
    · replace hb1 := cnd_t c2 hb1
      refine goL ?_
      refine VO_case 17 (fun c3 => ?_) (fun c3 => ?_)
      · replace hb1 := cnd_t c3 hb1
        refine goL ?_
        refine VO_b ?_
        obtain ⟨x4, hx4, hb1⟩ := bnd_s hb1
        refine VO_r (QR_call (w_EqualFuncT a0_2 a1_2 (a2 := rec_iEqualType) (fun _ => rfl) (fun x0 x1 r hr => hrec_iEqualType x0 x1 hr) hx4)) ?_
        refine goL ?_
        cases hb1
        exact ⟨rfl, ⟨⟨rfl, rfl⟩, trivial⟩, ⟨[], rfl⟩, rfl⟩
      · replace hb1 := cnd_f c3 hb1
        refine goL ?_
        cases hb1
        exact ⟨rfl, ⟨⟨rfl, rfl⟩, trivial⟩, ⟨[], rfl⟩, rfl⟩
    · replace hb1 := cnd_f c2 hb1
      refine goL ?_
      cases hb1
      exact ⟨rfl, ⟨⟨rfl, rfl⟩, trivial⟩, ⟨[], rfl⟩, rfl⟩
  refine goL ?_
  refine V_ret ?_
  replace h := Option.some.inj h
  subst h
  exact R_rP
def m_iEqualType : Nat → TType → TType → Option (Bool)
  | 0, _, _ => none
  | n + 1, x0, x1 => b_iEqualType (m_iEqualType n) x0 x1
theorem s_iEqualType : ∀ (n : Nat) (x0 : TType) (x1 : TType) {r : Bool}, m_iEqualType n x0 x1 = some r → SpecP Tryz.prog 219 [.d (eType x0), .d (eType x1)] [.b r] := by
  intro n
  induction n with
  | zero => intro x0 x1 r h; cases h
  | succ n ih => intro x0 x1 r h; exact w_iEqualType ih x0 x1 h
def b_sEqualType (rec_sEqualType : TType → TType → Option (Bool)) (rec_sSame : (List TType) → (List TType) → Option (Bool)) (a0 : TType) (a1 : TType) : Option (Bool) :=
bnd ((cnd (a0.kind == a1.kind) ((cnd (a0.name == a1.name) (bnd (rec_sSame a0.args a1.args) fun x4 =>
(some x4)) ((some false)))) ((some false)))) fun b1 =>
(some b1)
set_option maxHeartbeats 4000000 in
theorem w_sEqualType {rec_sEqualType : TType → TType → Option (Bool)} {rec_sSame : (List TType) → (List TType) → Option (Bool)} (hrec_sEqualType : ∀ (x0 : TType) (x1 : TType) {r : Bool}, rec_sEqualType x0 x1 = some r → SpecP Tryz.prog 211 [.d (eType x0), .d (eType x1)] [.b r]) (hrec_sSame : ∀ (x0 : List TType) (x1 : List TType) {r : Bool}, rec_sSame x0 x1 = some r → SpecP Tryz.prog 257 [.d (.sl 3 (eTypes x0)), .d (.sl 3 (eTypes x1))] [.b r]) (a0 : TType) (a1 : TType) {r : Bool} (h : b_sEqualType rec_sEqualType rec_sSame a0 a1 = some r) : SpecP Tryz.prog 211 [.d (eType a0), .d (eType a1)] [.b r] := by
  obtain ⟨a0_0, a0_1, a0_2⟩ := a0
  obtain ⟨a1_0, a1_1, a1_2⟩ := a1
  unfold b_sEqualType at h
  refine SpecP_intro Tryz.func211 rfl (by kernel_rfl) rfl fun A _ => ?_
  refine goL ?_
  obtain ⟨b1, hb1, h⟩ := bnd_s h
  refine VO_join ⟨[(4, .d (.b b1))], [.box [.d (.i .i64 a0_0), .d (.s a0_1), .d (.sl 3 (eTypes a0_2))], .box [.d (.i .i64 a1_0), .d (.s a1_1), .d (.sl 3 (eTypes a1_2))]], Tryz.f211.ntmps⟩ ?_ ?_
  · refine VO_case 10 (fun c2 => ?_) (fun c2 => ?_)
    · replace hb1 := cnd_t c2 hb1
      refine goL ?_
      refine VO_case 17 (fun c3 => ?_) (fun c3 => ?_)
      · replace hb1 := cnd_t c3 hb1
        refine goL ?_
        refine VO_b ?_
        obtain ⟨x4, hx4, hb1⟩ := bnd_s hb1
        refine VO_r (QR_call (hrec_sSame a0_2 a1_2 hx4)) ?_
        refine goL ?_
        cases hb1
        exact ⟨rfl, ⟨⟨rfl, rfl⟩, trivial⟩, ⟨[], rfl⟩, rfl⟩
      · replace hb1 := cnd_f c3 hb1
        refine goL ?_
        cases hb1
        exact ⟨rfl, ⟨⟨rfl, rfl⟩, trivial⟩, ⟨[], rfl⟩, rfl⟩
    · replace hb1 := cnd_f c2 hb1
      refine goL ?_
      cases hb1
      exact ⟨rfl, ⟨⟨rfl, rfl⟩, trivial⟩, ⟨[], rfl⟩, rfl⟩
  refine goL ?_
  refine V_ret ?_
  replace h := Option.some.inj h
  subst h
  exact R_rP
def b_sSame_l1 (rec_sEqualType : TType → TType → Option (Bool)) (a1 : List TType) : List TType → Nat → Option (Bool)
  | [], y2 => (some true)
  | x5 :: xs, y2 => bnd (at? a1 (y2 : Int)) fun x6 =>
bnd (rec_sEqualType x5 x6) fun x7 =>
(cnd (!x7) (
(some false)) (
b_sSame_l1 rec_sEqualType a1 xs (y2 + 1)))
def b_sSame (rec_sEqualType : TType → TType → Option (Bool)) (rec_sSame : (List TType) → (List TType) → Option (Bool)) (a0 : List TType) (a1 : List TType) : Option (Bool) :=
(cnd ((a0.length : Int) != (a1.length : Int)) (
(some false)) (
b_sSame_l1 rec_sEqualType a1 a0 0))
set_option maxHeartbeats 4000000 in
theorem w_sSame {rec_sEqualType : TType → TType → Option (Bool)} {rec_sSame : (List TType) → (List TType) → Option (Bool)} (hrec_sEqualType : ∀ (x0 : TType) (x1 : TType) {r : Bool}, rec_sEqualType x0 x1 = some r → SpecP Tryz.prog 211 [.d (eType x0), .d (eType x1)] [.b r]) (hrec_sSame : ∀ (x0 : List TType) (x1 : List TType) {r : Bool}, rec_sSame x0 x1 = some r → SpecP Tryz.prog 257 [.d (.sl 3 (eTypes x0)), .d (.sl 3 (eTypes x1))] [.b r]) (a0 : List TType) (a1 : List TType) {r : Bool} (h : b_sSame rec_sEqualType rec_sSame a0 a1 = some r) : SpecP Tryz.prog 257 [.d (.sl 3 (eTypes a0)), .d (.sl 3 (eTypes a1))] [.b r] := by
  unfold b_sSame at h
  refine SpecP_intro Tryz.func257 rfl (by kernel_rfl) rfl fun A _ => ?_
  refine goL ?_
  refine V_cb (fun c1 => ?_) (fun c1 => ?_)
  · replace h := cnd_t c1 h
    refine goL ?_
    refine V_ret ?_
    replace h := Option.some.inj h
    subst h
    exact R_rP
  · replace h := cnd_f c1 h
    refine V_skip ?_
    show V _ _ _ _ _
    refine goL ?_
    refine V_block ?_
    show V _ _ _ _ _
    refine V_bd 0 (fun z3 => ?_)
    refine V_loop1 (fun (y2 : Nat) => ⟨[(0, .d (.sl 3 (eTypes a0))), (1, .d (.sl 3 (eTypes a1))), (5, .d (.i .i64 (y2 : Int)))], [], Tryz.f257.ntmps⟩) (fun y2 => b_sSame_l1 rec_sEqualType a1 (a0.drop y2) y2 = some r) (fun y2 => a0.length - y2) 0 ⟨rfl, ⟨⟨rfl, rfl⟩, ⟨rfl, rfl⟩, ⟨rfl, rfl⟩, trivial⟩, ⟨[], rfl⟩, rfl⟩ h ?_
    rintro y2 h
    refine goL ?_
    refine V_cb (fun c4 => ?_) (fun c4 => ?_)
    · have hky22 := kltN c4
      obtain ⟨x5, hx5, hdx5⟩ := drop_at hky22
      rw [hdx5, b_sSame_l1.eq_2] at h
      obtain ⟨x5_0, x5_1, x5_2⟩ := x5
      refine V_skip ?_
      show V _ _ _ _ _
      refine V_seq (V_block ?_)
      refine goL ?_
      refine VQ_r (QR_ixn y2 (gType hx5)) ?_
      refine goL ?_
      obtain ⟨x6, hx6, h⟩ := bnd_s h
      rw [at_nat] at hx6
      obtain ⟨x6_0, x6_1, x6_2⟩ := x6
      refine VQ_r (QR_ixn y2 (gType hx6)) ?_
      refine goL ?_
      obtain ⟨x7, hx7, h⟩ := bnd_s h
      refine VQ_r (QR_call (hrec_sEqualType (TType.mk x5_0 x5_1 x5_2) (TType.mk x6_0 x6_1 x6_2) hx7)) ?_
      refine goL ?_
      refine V_cb (fun c8 => ?_) (fun c8 => ?_)
      · replace h := cnd_t c8 h
        refine goL ?_
        refine V_ret ?_
        replace h := Option.some.inj h
        subst h
        exact R_rP
      · replace h := cnd_f c8 h
        refine V_skip ?_
        show V _ _ _ _ _
        refine goL ?_
        refine VO_r (QR_inc y2 (by omega)) ?_
        refine goL ?_
        exact ⟨(y2 + 1), h, by omega, ⟨rfl, ⟨⟨rfl, rfl⟩, ⟨rfl, rfl⟩, ⟨rfl, rfl⟩, trivial⟩, ⟨_, rfl⟩, rfl⟩⟩
    · have hky22 := kgeN c4
      rw [drop_end hky22, b_sSame_l1.eq_1] at h
      refine V_exit ?_
      show V _ _ _ _ _
      refine goL ?_
      refine V_ret ?_
      replace h := Option.some.inj h
      subst h
      exact R_rP
mutual
def m_sEqualType : Nat → TType → TType → Option (Bool)
  | 0, _, _ => none
  | n + 1, x0, x1 => b_sEqualType (m_sEqualType n) (m_sSame n) x0 x1
def m_sSame : Nat → (List TType) → (List TType) → Option (Bool)
  | 0, _, _ => none
  | n + 1, x0, x1 => b_sSame (m_sEqualType n) (m_sSame n) x0 x1
end
theorem ss_sEqualType : ∀ (n : Nat), (∀ (x0 : TType) (x1 : TType) {r : Bool}, m_sEqualType n x0 x1 = some r → SpecP Tryz.prog 211 [.d (eType x0), .d (eType x1)] [.b r]) ∧ (∀ (x0 : List TType) (x1 : List TType) {r : Bool}, m_sSame n x0 x1 = some r → SpecP Tryz.prog 257 [.d (.sl 3 (eTypes x0)), .d (.sl 3 (eTypes x1))] [.b r]) := by
  intro n
  induction n with
  | zero => exact ⟨(by intro x0 x1 r h; cases h), (by intro x0 x1 r h; cases h)⟩
  | succ n ih =>
    obtain ⟨ih0, ih1⟩ := ih
    refine ⟨(fun x0 x1 r h => w_sEqualType ih0 ih1 x0 x1 h), (fun x0 x1 r h => w_sSame ih0 ih1 x0 x1 h)⟩
theorem s_sEqualType : ∀ (n : Nat) (x0 : TType) (x1 : TType) {r : Bool}, m_sEqualType n x0 x1 = some r → SpecP Tryz.prog 211 [.d (eType x0), .d (eType x1)] [.b r] := fun n => (ss_sEqualType n).1
theorem s_sSame : ∀ (n : Nat) (x0 : List TType) (x1 : List TType) {r : Bool}, m_sSame n x0 x1 = some r → SpecP Tryz.prog 257 [.d (.sl 3 (eTypes x0)), .d (.sl 3 (eTypes x1))] [.b r] := fun n => (ss_sEqualType n).2
/-! ### equality, by hand -/
mutual
def teq : TType → TType → Bool
  | ⟨k, n, ts⟩, ⟨k', n', ts'⟩ => (k == k') && ((n == n') && tseq ts ts')
def tseq : List TType → List TType → Bool
  | [], [] => true
  | a :: ts, b :: ts' => teq a b && tseq ts ts'
  | _, _ => false
end
mutual
theorem teq_iff : ∀ (a b : TType), teq a b = true ↔ a = b
  | ⟨k, n, ts⟩, ⟨k', n', ts'⟩ => by
    simp only [teq, Bool.and_eq_true, beq_iff_eq, TType.mk.injEq]
    rw [tseq_iff ts ts']
theorem tseq_iff : ∀ (a b : List TType), tseq a b = true ↔ a = b
  | [], [] => by simp [tseq]
  | a :: ts, b :: ts' => by
    simp only [tseq, Bool.and_eq_true, List.cons.injEq]
    rw [teq_iff a b, tseq_iff ts ts']
  | [], _ :: _ => by simp [tseq]
  | _ :: _, [] => by simp [tseq]
end
theorem tseq_len : ∀ {a b : List TType}, a.length ≠ b.length → tseq a b = false
  | [], [], h => by simp at h
  | a :: ts, b :: ts', h => by
    simp only [tseq]
    rw [tseq_len (a := ts) (b := ts') (by simpa using h), Bool.and_false]
  | [], _ :: _, _ => rfl
  | _ :: _, [], _ => rfl
theorem EqualFuncT_l1_eq {p : TType → TType → Option Bool} (b : List TType) : ∀ (xs : List TType) (k : Nat), (∀ x ∈ xs, ∀ y, p x y = some (teq x y)) → b.length = k + xs.length → b_EqualFuncT_l1 b p xs k = some (tseq xs (b.drop k))
  | [], k, _, h => by
    rw [List.drop_eq_nil_of_le (by simp at h; omega)]
    rfl
  | x :: xs, k, hp, h => by
    simp only [List.length_cons] at h
    have hk : k < b.length := by omega
    simp only [b_EqualFuncT_l1, at_nat]
    rw [List.getElem?_eq_getElem hk, List.drop_eq_getElem_cons hk]
    simp only [bnd, hp x (by simp), tseq]
    cases hq : teq x b[k] with
    | true => simp only [Bool.not_true, cnd_false, Bool.true_and]; exact EqualFuncT_l1_eq b xs (k + 1) (fun z hz => hp z (by simp [hz])) (by omega)
    | false => rfl
theorem EqualFuncT_eq {p : TType → TType → Option Bool} (a b : List TType) (hp : ∀ x ∈ a, ∀ y, p x y = some (teq x y)) : b_EqualFuncT a b p = some (tseq a b) := by
  unfold b_EqualFuncT
  by_cases h : a.length = b.length
  · have : ((a.length : Int) != (b.length : Int)) = false := by simp [h]
    rw [this, cnd_false, EqualFuncT_l1_eq b a 0 hp (by omega)]
    rfl
  · have : ((a.length : Int) != (b.length : Int)) = true := by simp; omega
    rw [this, cnd_true, tseq_len h]
theorem iEqualType_eq : ∀ (n : Nat) (a b : TType), tnd a ≤ n → m_iEqualType n a b = some (teq a b)
  | 0, a, b, h => by have := tnd_pos a; omega
  | n + 1, ⟨k, s, ts⟩, ⟨k', s', ts'⟩, h => by
    simp only [tnd] at h
    simp only [m_iEqualType, b_iEqualType, teq]
    rw [EqualFuncT_eq ts ts' (fun x hx y => iEqualType_eq n x y (by have := tnd_mem hx; omega))]
    cases h1 : k == k' <;> cases h2 : s == s' <;> cases tseq ts ts' <;> rfl
theorem sSame_l1_eq {p : TType → TType → Option Bool} (b : List TType) : ∀ (xs : List TType) (k : Nat), (∀ x ∈ xs, ∀ y, p x y = some (teq x y)) → b.length = k + xs.length → b_sSame_l1 p b xs k = some (tseq xs (b.drop k))
  | [], k, _, h => by
    rw [List.drop_eq_nil_of_le (by simp at h; omega)]
    rfl
  | x :: xs, k, hp, h => by
    simp only [List.length_cons] at h
    have hk : k < b.length := by omega
    simp only [b_sSame_l1, at_nat]
    rw [List.getElem?_eq_getElem hk, List.drop_eq_getElem_cons hk]
    simp only [bnd, hp x (by simp), tseq]
    cases hq : teq x b[k] with
    | true => simp only [Bool.not_true, cnd_false, Bool.true_and]; exact sSame_l1_eq b xs (k + 1) (fun z hz => hp z (by simp [hz])) (by omega)
    | false => rfl
theorem sEqual_eq : ∀ (n : Nat), (∀ a b : TType, 2 * tnd a ≤ n → m_sEqualType n a b = some (teq a b)) ∧ (∀ a b : List TType, 2 * tnds a + 1 ≤ n → m_sSame n a b = some (tseq a b))
  | 0 => ⟨fun t _ h => by have := tnd_pos t; omega, fun ts _ h => by omega⟩
  | n + 1 => by
    obtain ⟨h1, h2⟩ := sEqual_eq n
    refine ⟨fun a b hn => ?_, fun a b hn => ?_⟩
    · obtain ⟨k, s, ts⟩ := a
      obtain ⟨k', s', ts'⟩ := b
      simp only [tnd] at hn
      simp only [m_sEqualType, b_sEqualType, teq]
      rw [h2 ts ts' (by omega)]
      cases h1 : k == k' <;> cases h2 : s == s' <;> cases tseq ts ts' <;> rfl
    · simp only [m_sSame, b_sSame]
      by_cases h : a.length = b.length
      · have : ((a.length : Int) != (b.length : Int)) = false := by simp [h]
        rw [this, cnd_false, sSame_l1_eq b a 0 (fun x hx y => h1 x y (by have := tnd_mem hx; omega)) (by omega)]
        rfl
      · have : ((a.length : Int) != (b.length : Int)) = true := by simp; omega
        rw [this, cnd_true, tseq_len h]

theorem t_iEqualType (x0 : TType) (x1 : TType) : SpecP Tryz.prog 219 [.d (eType x0), .d (eType x1)] [.b (teq x0 x1)] := s_iEqualType (tnd x0) x0 x1 (iEqualType_eq _ _ _ (Nat.le_refl _))
theorem t_sEqualType (x0 : TType) (x1 : TType) : SpecP Tryz.prog 211 [.d (eType x0), .d (eType x1)] [.b (teq x0 x1)] := s_sEqualType (2 * tnd x0) x0 x1 ((sEqual_eq _).1 _ _ (Nat.le_refl _))
theorem t_sSame (x0 : List TType) (x1 : List TType) : SpecP Tryz.prog 257 [.d (.sl 3 (eTypes x0)), .d (.sl 3 (eTypes x1))] [.b (tseq x0 x1)] := s_sSame (2 * tnds x0 + 1) x0 x1 ((sEqual_eq _).2 _ _ (Nat.le_refl _))
/-! ### sizes, by hand -/
mutual
def tsz : TType → Int
  | ⟨_, _, ts⟩ => tszs ts 1
def tszs : List TType → Int → Int
  | [], y => y
  | a :: ts, y => tszs ts (IntKind.i64.wrap (y + tsz a))
end

def b_iTypeSize_l1 (rec_iTypeSize : TType → Option (Int)) : List TType → Int → Option (Int)
  | [], y1 => (some y1)
  | x5 :: xs, y1 => bnd (rec_iTypeSize x5) fun x6 =>
b_iTypeSize_l1 rec_iTypeSize xs (IntKind.i64.wrap (y1 + x6))
def b_iTypeSize (rec_iTypeSize : TType → Option (Int)) (a0 : TType) : Option (Int) :=
b_iTypeSize_l1 rec_iTypeSize a0.args 1
set_option maxHeartbeats 4000000 in
theorem w_iTypeSize {rec_iTypeSize : TType → Option (Int)} (hrec_iTypeSize : ∀ (x0 : TType) {r : Int}, rec_iTypeSize x0 = some r → SpecP Tryz.prog 163 [.d (eType x0)] [.i .i64 r]) (a0 : TType) {r : Int} (h : b_iTypeSize rec_iTypeSize a0 = some r) : SpecP Tryz.prog 163 [.d (eType a0)] [.i .i64 r] := by
  obtain ⟨a0_0, a0_1, a0_2⟩ := a0
  unfold b_iTypeSize at h
  refine SpecP_intro Tryz.func163 rfl (by kernel_rfl) rfl fun A _ => ?_
  refine goL ?_
  refine V_block ?_
  show V _ _ _ _ _
  refine V_bd 7 (fun z3 => ?_)
  refine V_loop2 (fun (y2 : Nat) (y1 : Int) => ⟨[(3, .d (.i .i64 y1)), (7, .d (.sl 3 (eTypes a0_2))), (8, .d (.i .i64 (a0_2.length : Int))), (9, .d (.i .i64 (y2 : Int)))], [.box [.d (.i .i64 a0_0), .d (.s a0_1), .d (.sl 3 (eTypes a0_2))]], Tryz.f163.ntmps⟩) (fun y2 y1 => b_iTypeSize_l1 rec_iTypeSize (a0_2.drop y2) y1 = some r) (fun y2 y1 => a0_2.length - y2) 0 1 ⟨rfl, ⟨⟨rfl, rfl⟩, ⟨rfl, rfl⟩, ⟨rfl, rfl⟩, ⟨rfl, rfl⟩, trivial⟩, ⟨[], rfl⟩, rfl⟩ h ?_
  rintro y2 y1 h
  refine goL ?_
  refine V_seq (V_cb (fun c4 => ?_) (fun c4 => ?_))
  · have hky22 := kltN c4
    obtain ⟨x5, hx5, hdx5⟩ := drop_at hky22
    rw [hdx5, b_iTypeSize_l1.eq_2] at h
    obtain ⟨x5_0, x5_1, x5_2⟩ := x5
    refine V_skip ?_
    show V _ _ _ _ _
    refine V_seq (V_block ?_)
    refine goL ?_
    refine VO_r (QR_ixn y2 (gType hx5)) ?_
    refine goL ?_
    obtain ⟨x6, hx6, h⟩ := bnd_s h
    refine VO_r (QR_call (hrec_iTypeSize (TType.mk x5_0 x5_1 x5_2) hx6)) ?_
    refine VO_r (QR_ar) ?_
    refine goL ?_
    refine VO_r (QR_inc y2 (by omega)) ?_
    refine goL ?_
    exact ⟨(y2 + 1), (IntKind.i64.wrap (y1 + x6)), h, by omega, ⟨rfl, ⟨⟨rfl, rfl⟩, ⟨rfl, rfl⟩, ⟨rfl, rfl⟩, ⟨rfl, rfl⟩, trivial⟩, ⟨_, rfl⟩, rfl⟩⟩
  · have hky22 := kgeN c4
    rw [drop_end hky22, b_iTypeSize_l1.eq_1] at h
    refine V_exit ?_
    show V _ _ _ _ _
    refine goL ?_
    refine V_ret ?_
    replace h := Option.some.inj h
    subst h
    exact R_rP
def m_iTypeSize : Nat → TType → Option (Int)
  | 0, _ => none
  | n + 1, x0 => b_iTypeSize (m_iTypeSize n) x0
theorem s_iTypeSize : ∀ (n : Nat) (x0 : TType) {r : Int}, m_iTypeSize n x0 = some r → SpecP Tryz.prog 163 [.d (eType x0)] [.i .i64 r] := by
  intro n
  induction n with
  | zero => intro x0 r h; cases h
  | succ n ih => intro x0 r h; exact w_iTypeSize ih x0 h
theorem iTypeSize_l1_eq {rec : TType → Option Int} : ∀ (xs : List TType) (y : Int), (∀ x ∈ xs, rec x = some (tsz x)) → b_iTypeSize_l1 rec xs y = some (tszs xs y)
  | [], y, _ => rfl
  | x :: xs, y, h => by
    simp only [b_iTypeSize_l1, h x (by simp), bnd, tszs]
    exact iTypeSize_l1_eq xs _ (fun z hz => h z (by simp [hz]))
theorem iTypeSize_eq : ∀ (n : Nat) (t : TType), tnd t ≤ n → m_iTypeSize n t = some (tsz t)
  | 0, t, h => by have := tnd_pos t; omega
  | n + 1, ⟨k, s, ts⟩, h => by
    simp only [tnd] at h
    simp only [m_iTypeSize, b_iTypeSize, tsz]
    exact iTypeSize_l1_eq ts 1 (fun x hx => iTypeSize_eq n x (by have := tnd_mem hx; omega))

theorem t_iTypeSize (x0 : TType) : SpecP Tryz.prog 163 [.d (eType x0)] [.i .i64 (tsz x0)] := s_iTypeSize (tnd x0) x0 (iTypeSize_eq _ _ (Nat.le_refl _))
def b_iEqualGoal (a0 : TBound) (a1 : TBound) : Bool :=
lt_ ((cnd (a0.trait == a1.trait) ((teq a0.type_ a1.type_)) (false))) fun b1 =>
b1
set_option maxHeartbeats 4000000 in
theorem w_iEqualGoal (a0 : TBound) (a1 : TBound) : SpecP Tryz.prog 167 [.d (eBound a0), .d (eBound a1)] [.b (b_iEqualGoal a0 a1)] := by
  obtain ⟨r, h⟩ : ∃ r, b_iEqualGoal a0 a1 = r := ⟨_, rfl⟩
  rw [h]
  obtain ⟨a0_0, ⟨a0_1_0, a0_1_1, a0_1_2⟩⟩ := a0
  obtain ⟨a1_0, ⟨a1_1_0, a1_1_1, a1_1_2⟩⟩ := a1
  unfold b_iEqualGoal at h
  refine SpecP_intro Tryz.func167 rfl (by kernel_rfl) rfl fun A _ => ?_
  refine goL ?_
  obtain ⟨b1, hb1, h⟩ := lt_x h
  refine VO_join ⟨[(4, .d (.b b1))], [.box [.d (.s a0_0), .d (.i .i64 a0_1_0), .d (.s a0_1_1), .d (.sl 3 (eTypes a0_1_2))], .box [.d (.s a1_0), .d (.i .i64 a1_1_0), .d (.s a1_1_1), .d (.sl 3 (eTypes a1_1_2))]], Tryz.f167.ntmps⟩ ?_ ?_
  · refine VO_case 10 (fun c2 => ?_) (fun c2 => ?_)
    · replace hb1 := cnd_t c2 hb1
      refine goL ?_
      refine VO_b ?_
      refine VO_r (QR_call (t_iEqualType (TType.mk a0_1_0 a0_1_1 a0_1_2) (TType.mk a1_1_0 a1_1_1 a1_1_2))) ?_
      refine goL ?_
      cases hb1
      exact ⟨rfl, ⟨⟨rfl, rfl⟩, trivial⟩, ⟨[], rfl⟩, rfl⟩
    · replace hb1 := cnd_f c2 hb1
      refine goL ?_
      cases hb1
      exact ⟨rfl, ⟨⟨rfl, rfl⟩, trivial⟩, ⟨[], rfl⟩, rfl⟩
  refine goL ?_
  refine V_ret ?_
  subst h
  exact R_rP
def b_sEqualGoal (a0 : TBound) (a1 : TBound) : Bool :=
lt_ ((cnd (a0.trait == a1.trait) ((teq a0.type_ a1.type_)) (false))) fun b1 =>
b1
set_option maxHeartbeats 4000000 in
theorem w_sEqualGoal (a0 : TBound) (a1 : TBound) : SpecP Tryz.prog 148 [.d (eBound a0), .d (eBound a1)] [.b (b_sEqualGoal a0 a1)] := by
  obtain ⟨r, h⟩ : ∃ r, b_sEqualGoal a0 a1 = r := ⟨_, rfl⟩
  rw [h]
  obtain ⟨a0_0, ⟨a0_1_0, a0_1_1, a0_1_2⟩⟩ := a0
  obtain ⟨a1_0, ⟨a1_1_0, a1_1_1, a1_1_2⟩⟩ := a1
  unfold b_sEqualGoal at h
  refine SpecP_intro Tryz.func148 rfl (by kernel_rfl) rfl fun A _ => ?_
  refine goL ?_
  obtain ⟨b1, hb1, h⟩ := lt_x h
  refine VO_join ⟨[(4, .d (.b b1))], [.box [.d (.s a0_0), .d (.i .i64 a0_1_0), .d (.s a0_1_1), .d (.sl 3 (eTypes a0_1_2))], .box [.d (.s a1_0), .d (.i .i64 a1_1_0), .d (.s a1_1_1), .d (.sl 3 (eTypes a1_1_2))]], Tryz.f148.ntmps⟩ ?_ ?_
  · refine VO_case 10 (fun c2 => ?_) (fun c2 => ?_)
    · replace hb1 := cnd_t c2 hb1
      refine goL ?_
      refine VO_b ?_
      refine VO_r (QR_call (t_sEqualType (TType.mk a0_1_0 a0_1_1 a0_1_2) (TType.mk a1_1_0 a1_1_1 a1_1_2))) ?_
      refine goL ?_
      cases hb1
      exact ⟨rfl, ⟨⟨rfl, rfl⟩, trivial⟩, ⟨[], rfl⟩, rfl⟩
    · replace hb1 := cnd_f c2 hb1
      refine goL ?_
      cases hb1
      exact ⟨rfl, ⟨⟨rfl, rfl⟩, trivial⟩, ⟨[], rfl⟩, rfl⟩
  refine goL ?_
  refine V_ret ?_
  subst h
  exact R_rP
def b_IndexFuncB_l1 (a1 : TBound → Option Bool) : List TBound → Nat → Option (Int)
  | [], y1 => (some (-1))
  | x4 :: xs, y1 => bnd (a1 x4) fun x5 =>
(cnd x5 (
(some (y1 : Int))) (
b_IndexFuncB_l1 a1 xs (y1 + 1)))
def b_IndexFuncB (a0 : List TBound) (a1 : TBound → Option Bool) : Option (Int) :=
b_IndexFuncB_l1 a1 a0 0
set_option maxHeartbeats 4000000 in
theorem w_IndexFuncB (a0 : List TBound) {a1f : Nat} {a1c : List SV} {a1 : TBound → Option Bool} (a1_lt : ∀ n, SV.lts n a1c = true) (ha1 : ∀ (x0 : TBound) (r : Bool), a1 x0 = some r → SpecP Tryz.prog a1f ([.d (eBound x0)] ++ a1c) [.b r]) {r : Int} (h : b_IndexFuncB a0 a1 = some r) : SpecP Tryz.prog 104 [.d (.sl 4 (eBounds a0)), .fn a1f a1c] [.i .i64 r] := by
  unfold b_IndexFuncB at h
  refine SpecP_intro Tryz.func104 rfl (by kernel_rfl) rfl fun A _ => ?_
  refine goL ?_
  refine V_block ?_
  show V _ _ _ _ _
  refine V_bd 0 (fun z2 => ?_)
  refine V_loop1 (fun (y1 : Nat) => ⟨[(0, .d (.sl 4 (eBounds a0))), (1, .fn a1f a1c), (7, .d (.i .i64 (a0.length : Int))), (8, .d (.i .i64 (y1 : Int)))], [], Tryz.f104.ntmps⟩) (fun y1 => b_IndexFuncB_l1 a1 (a0.drop y1) y1 = some r) (fun y1 => a0.length - y1) 0 ⟨rfl, ⟨⟨rfl, rfl⟩, ⟨rfl, a1_lt _⟩, ⟨rfl, rfl⟩, ⟨rfl, rfl⟩, trivial⟩, ⟨[], rfl⟩, rfl⟩ h ?_
  rintro y1 h
  refine goL ?_
  refine V_seq (V_cb (fun c3 => ?_) (fun c3 => ?_))
  · have hky12 := kltN c3
    obtain ⟨x4, hx4, hdx4⟩ := drop_at hky12
    rw [hdx4, b_IndexFuncB_l1.eq_2] at h
    obtain ⟨x4_0, ⟨x4_1_0, x4_1_1, x4_1_2⟩⟩ := x4
    refine V_skip ?_
    show V _ _ _ _ _
    refine V_seq (V_block ?_)
    refine goL ?_
    refine VO_r (QR_ixn y1 (gBound hx4)) ?_
    refine goL ?_
    obtain ⟨x5, hx5, h⟩ := bnd_s h
    refine VO_r (QR_callf (ha1 _ _ hx5) (a1_lt 0)) ?_
    refine goL ?_
    refine V_cb (fun c6 => ?_) (fun c6 => ?_)
    · replace h := cnd_t c6 h
      refine goL ?_
      refine V_ret ?_
      replace h := Option.some.inj h
      subst h
      exact R_rP
    · replace h := cnd_f c6 h
      refine V_skip ?_
      show V _ _ _ _ _
      refine goL ?_
      refine VO_r (QR_inc y1 (by omega)) ?_
      refine goL ?_
      exact ⟨(y1 + 1), h, by omega, ⟨rfl, ⟨⟨rfl, rfl⟩, ⟨rfl, a1_lt _⟩, ⟨rfl, rfl⟩, ⟨rfl, rfl⟩, trivial⟩, ⟨_, rfl⟩, rfl⟩⟩
  · have hky12 := kgeN c3
    rw [drop_end hky12, b_IndexFuncB_l1.eq_1] at h
    refine V_exit ?_
    show V _ _ _ _ _
    refine goL ?_
    refine V_ret ?_
    replace h := Option.some.inj h
    subst h
    exact R_rP
def b_ContainsFuncB (a0 : List TBound) (a1 : TBound → Option Bool) : Option (Bool) :=
bnd (b_IndexFuncB a0 a1) fun x1 =>
(some (decide (x1 ≥ 0)))
set_option maxHeartbeats 4000000 in
theorem w_ContainsFuncB (a0 : List TBound) {a1f : Nat} {a1c : List SV} {a1 : TBound → Option Bool} (a1_lt : ∀ n, SV.lts n a1c = true) (ha1 : ∀ (x0 : TBound) (r : Bool), a1 x0 = some r → SpecP Tryz.prog a1f ([.d (eBound x0)] ++ a1c) [.b r]) {r : Bool} (h : b_ContainsFuncB a0 a1 = some r) : SpecP Tryz.prog 58 [.d (.sl 4 (eBounds a0)), .fn a1f a1c] [.b r] := by
  unfold b_ContainsFuncB at h
  refine SpecP_intro Tryz.func58 rfl (by kernel_rfl) rfl fun A _ => ?_
  refine goL ?_
  obtain ⟨x1, hx1, h⟩ := bnd_s h
  refine VO_r (QR_call (w_IndexFuncB a0 (a1 := a1) a1_lt ha1 hx1)) ?_
  refine goL ?_
  refine V_ret ?_
  replace h := Option.some.inj h
  subst h
  exact R_rP
def b_hasGoal1 (a0 : TBound) (a1 : TBound) : Bool :=
(b_iEqualGoal a0 a1)
set_option maxHeartbeats 4000000 in
theorem w_hasGoal1 (a0 : TBound) (a1 : TBound) : SpecP Tryz.prog 166 [.d (eBound a0), .dp (eBound a1)] [.b (b_hasGoal1 a0 a1)] := by
  obtain ⟨r, h⟩ : ∃ r, b_hasGoal1 a0 a1 = r := ⟨_, rfl⟩
  rw [h]
  obtain ⟨a0_0, ⟨a0_1_0, a0_1_1, a0_1_2⟩⟩ := a0
  obtain ⟨a1_0, ⟨a1_1_0, a1_1_1, a1_1_2⟩⟩ := a1
  unfold b_hasGoal1 at h
  refine SpecP_intro Tryz.func166 rfl (by kernel_rfl) rfl fun A _ => ?_
  refine goL ?_
  refine VO_r (QR_call (w_iEqualGoal (TBound.mk a0_0 (TType.mk a0_1_0 a0_1_1 a0_1_2)) (TBound.mk a1_0 (TType.mk a1_1_0 a1_1_1 a1_1_2)))) ?_
  refine goL ?_
  refine V_ret ?_
  subst h
  exact R_rP
def b_hasGoal (a0 : List TBound) (a1 : TBound) : Option (Bool) :=
bnd (b_ContainsFuncB a0 (fun z0 => some (b_hasGoal1 z0 a1))) fun x1 =>
(some x1)
set_option maxHeartbeats 4000000 in
theorem w_hasGoal (a0 : List TBound) (a1 : TBound) {r : Bool} (h : b_hasGoal a0 a1 = some r) : SpecP Tryz.prog 107 [.d (.sl 4 (eBounds a0)), .d (eBound a1)] [.b r] := by
  obtain ⟨a1_0, ⟨a1_1_0, a1_1_1, a1_1_2⟩⟩ := a1
  unfold b_hasGoal at h
  refine SpecP_intro Tryz.func107 rfl (by kernel_rfl) rfl fun A _ => ?_
  refine goL ?_
  refine VO_r (QR_fn) ?_
  obtain ⟨x1, hx1, h⟩ := bnd_s h
  refine VO_k (Q_cc (w_ContainsFuncB a0 (a1 := (fun z0 => some (b_hasGoal1 z0 (TBound.mk a1_0 (TType.mk a1_1_0 a1_1_1 a1_1_2))))) (fun _ => rfl) (fun z0 r hr => by cases hr; exact w_hasGoal1 z0 (TBound.mk a1_0 (TType.mk a1_1_0 a1_1_1 a1_1_2))) hx1)) ?_
  refine goL ?_
  refine V_ret ?_
  replace h := Option.some.inj h
  subst h
  exact R_rP
end Go.Proofs.YtihihldpcgiibaaGreat
