/- Fp1. Written by a program of mine (aw.py). -/
import Derived.Test.YthojhakapbfbiaaGreatFacts
import Derived.Test.YthojhakapbfbiaaGreatEng53
set_option linter.unusedVariables false
set_option linter.unusedSimpArgs false
set_option linter.unusedSectionVars false
namespace Go.Proofs.YthojhakapbfbiaaGreat
open Go Go.Eng
attribute [local irreducible] V VO VQ VY Quiet QR SpecP SpecO MSpec Rng PostP PostO
/-! ### types, by hand -/
mutual
def tnd : TType → Nat
  | ⟨_, _, ts⟩ => 1 + tnds ts
def tnds : List TType → Nat
  | [] => 0
  | a :: ts => tnd a + tnds ts
end
mutual
/-- No list in it is longer than 2^32. -/
def tok : TType → Prop
  | ⟨_, _, ts⟩ => ts.length ≤ 4294967296 ∧ tall ts
def tall : List TType → Prop
  | [] => True
  | a :: ts => tok a ∧ tall ts
end
def tsok (ts : List TType) : Prop := ts.length ≤ 4294967296 ∧ tall ts
theorem tall_iff : ∀ {ts : List TType}, tall ts ↔ ∀ t ∈ ts, tok t
  | [] => by simp [tall]
  | a :: ts => by simp [tall, tall_iff (ts := ts)]
theorem tnd_mem {x : TType} : ∀ {ts : List TType}, x ∈ ts → tnd x ≤ tnds ts
  | [], h => by simp at h
  | a :: ts, h => by
    simp only [tnds]
    rcases List.mem_cons.1 h with rfl | h
    · omega
    · have := tnd_mem h
      omega
theorem tnd_pos (t : TType) : 1 ≤ tnd t := by cases t; simp only [tnd]; omega
def idT (t : TType) : TType := t
def idTs (t : List TType) : List TType := t
def b_iCopyType (rec_iCopyType : TType → Option (TType)) (rec_iCopyTypes : (List TType) → Option (List TType)) (a0 : TType) : Option (TType) :=
bnd (rec_iCopyTypes a0.args) fun x1 =>
(some (TType.mk a0.kind a0.name x1))
set_option maxHeartbeats 4000000 in
theorem w_iCopyType {rec_iCopyType : TType → Option (TType)} {rec_iCopyTypes : (List TType) → Option (List TType)} (hrec_iCopyType : ∀ (x0 : TType) {r : TType}, rec_iCopyType x0 = some r → SpecO Tryz.prog 171 [.d (eType x0)] [84] [eType r]) (hrec_iCopyTypes : ∀ (x0 : List TType) {r : List TType}, rec_iCopyTypes x0 = some r → SpecO Tryz.prog 170 [.d (.sl 3 (eTypes x0))] [84] [.sl 3 (eTypes r)]) (a0 : TType) {r : TType} (h : b_iCopyType rec_iCopyType rec_iCopyTypes a0 = some r) : SpecO Tryz.prog 171 [.d (eType a0)] [84] [eType r] := by
  obtain ⟨a0_0, a0_1, a0_2⟩ := a0
  unfold b_iCopyType at h
  refine SpecO_intro Tryz.func171 rfl (by kernel_rfl) rfl (by simp) fun A _ => ?_
  refine goL ?_
  obtain ⟨x1, hx1, h⟩ := bnd_s h
  refine VO_co (hrec_iCopyTypes a0_2 hx1) ?_
  refine goL ?_
  refine V_ret ?_
  replace h := Option.some.inj h
  subst h
  exact R_rO
def b_iCopyTypes_l1 (rec_iCopyType : TType → Option (TType)) : List TType → Nat → (List TType) → Option (List TType)
  | [], y4, y2 => (some y2)
  | x7 :: xs, y4, y2 => bnd (rec_iCopyType x7) fun x8 =>
gd (y4 < y2.length) (
b_iCopyTypes_l1 rec_iCopyType xs (y4 + 1) (y2.set y4 x8))
def b_iCopyTypes (rec_iCopyType : TType → Option (TType)) (rec_iCopyTypes : (List TType) → Option (List TType)) (a0 : List TType) : Option (List TType) :=
gd (a0.length ≤ 4294967296) (
b_iCopyTypes_l1 rec_iCopyType a0 0 (List.replicate a0.length (TType.mk 0 [] [])))
set_option maxHeartbeats 4000000 in
theorem w_iCopyTypes {rec_iCopyType : TType → Option (TType)} {rec_iCopyTypes : (List TType) → Option (List TType)} (hrec_iCopyType : ∀ (x0 : TType) {r : TType}, rec_iCopyType x0 = some r → SpecO Tryz.prog 171 [.d (eType x0)] [84] [eType r]) (hrec_iCopyTypes : ∀ (x0 : List TType) {r : List TType}, rec_iCopyTypes x0 = some r → SpecO Tryz.prog 170 [.d (.sl 3 (eTypes x0))] [84] [.sl 3 (eTypes r)]) (a0 : List TType) {r : List TType} (h : b_iCopyTypes rec_iCopyType rec_iCopyTypes a0 = some r) : SpecO Tryz.prog 170 [.d (.sl 3 (eTypes a0))] [84] [.sl 3 (eTypes r)] := by
  unfold b_iCopyTypes at h
  refine SpecO_intro Tryz.func170 rfl (by kernel_rfl) rfl (by simp) fun A _ => ?_
  refine goL ?_
  obtain ⟨g1, h⟩ := gd_s h
  refine VO_mk (TType.mk 0 [] []) g1 ?_
  refine goL ?_
  refine V_block ?_
  show V _ _ _ _ _
  refine V_bd 9 (fun z5 => ?_)
  refine V_loop3 (fun (y4 : Nat) (y2 : List TType) (v3 : Nat) => ⟨[(3, .sl 0 v3), (9, .d (.sl 3 (eTypes a0))), (10, .d (.i .i64 (a0.length : Int))), (11, .d (.i .i64 (y4 : Int)))], [.own 84 3 v3 (eTypes y2)], Tryz.f170.ntmps⟩) (fun y4 y2 v3 => b_iCopyTypes_l1 rec_iCopyType (a0.drop y4) y4 y2 = some r) (fun y4 y2 v3 => a0.length - y4) 0 (List.replicate a0.length (TType.mk 0 [] [])) 0 ⟨rfl, ⟨⟨rfl, rfl⟩, ⟨rfl, rfl⟩, ⟨rfl, rfl⟩, ⟨rfl, rfl⟩, trivial⟩, ⟨[], rfl⟩, rfl⟩ h ?_
  rintro y4 y2 v3 h
  refine goL ?_
  refine V_seq (V_cb (fun c6 => ?_) (fun c6 => ?_))
  · have hky42 := kltN c6
    obtain ⟨x7, hx7, hdx7⟩ := drop_at hky42
    rw [hdx7, b_iCopyTypes_l1.eq_2] at h
    obtain ⟨x7_0, x7_1, x7_2⟩ := x7
    refine V_skip ?_
    show V _ _ _ _ _
    refine V_seq (V_block ?_)
    refine goL ?_
    refine VO_r (QR_ixn y4 (gType hx7)) ?_
    refine goL ?_
    obtain ⟨x8, hx8, h⟩ := bnd_s h
    obtain ⟨x8_0, x8_1, x8_2⟩ := x8
    refine VO_co (hrec_iCopyType (TType.mk x7_0 x7_1 x7_2) hx8) ?_
    obtain ⟨g9, h⟩ := gd_s h
    refine VO_k (Q_ixo y4 g9) ?_
    refine VO_st (TType.mk x8_0 x8_1 x8_2) g9 ?_
    refine goL ?_
    refine VO_r (QR_inc y4 (by omega)) ?_
    refine goL ?_
    exact ⟨(y4 + 1), (y2.set y4 (TType.mk x8_0 x8_1 x8_2)), v3, h, by omega, ⟨rfl, ⟨⟨rfl, rfl⟩, ⟨rfl, rfl⟩, ⟨rfl, rfl⟩, ⟨rfl, rfl⟩, trivial⟩, ⟨_, rfl⟩, rfl⟩⟩
  · have hky42 := kgeN c6
    rw [drop_end hky42, b_iCopyTypes_l1.eq_1] at h
    refine V_exit ?_
    show V _ _ _ _ _
    refine goL ?_
    refine V_ret ?_
    replace h := Option.some.inj h
    subst h
    exact R_rO
mutual
def m_iCopyType : Nat → TType → Option (TType)
  | 0, _ => none
  | n + 1, x0 => b_iCopyType (m_iCopyType n) (m_iCopyTypes n) x0
def m_iCopyTypes : Nat → (List TType) → Option (List TType)
  | 0, _ => none
  | n + 1, x0 => b_iCopyTypes (m_iCopyType n) (m_iCopyTypes n) x0
end
theorem ss_iCopyType : ∀ (n : Nat), (∀ (x0 : TType) {r : TType}, m_iCopyType n x0 = some r → SpecO Tryz.prog 171 [.d (eType x0)] [84] [eType r]) ∧ (∀ (x0 : List TType) {r : List TType}, m_iCopyTypes n x0 = some r → SpecO Tryz.prog 170 [.d (.sl 3 (eTypes x0))] [84] [.sl 3 (eTypes r)]) := by
  intro n
  induction n with
  | zero => exact ⟨(by intro x0 r h; cases h), (by intro x0 r h; cases h)⟩
  | succ n ih =>
    obtain ⟨ih0, ih1⟩ := ih
    refine ⟨(fun x0 r h => w_iCopyType ih0 ih1 x0 h), (fun x0 r h => w_iCopyTypes ih0 ih1 x0 h)⟩
theorem s_iCopyType : ∀ (n : Nat) (x0 : TType) {r : TType}, m_iCopyType n x0 = some r → SpecO Tryz.prog 171 [.d (eType x0)] [84] [eType r] := fun n => (ss_iCopyType n).1
theorem s_iCopyTypes : ∀ (n : Nat) (x0 : List TType) {r : List TType}, m_iCopyTypes n x0 = some r → SpecO Tryz.prog 170 [.d (.sl 3 (eTypes x0))] [84] [.sl 3 (eTypes r)] := fun n => (ss_iCopyType n).2
def b_sCopyType (rec_sCopyType : TType → Option (TType)) (rec_sCopyTypes : (List TType) → Option (List TType)) (a0 : TType) : Option (TType) :=
bnd (rec_sCopyTypes a0.args) fun x1 =>
(some (TType.mk a0.kind a0.name x1))
set_option maxHeartbeats 4000000 in
theorem w_sCopyType {rec_sCopyType : TType → Option (TType)} {rec_sCopyTypes : (List TType) → Option (List TType)} (hrec_sCopyType : ∀ (x0 : TType) {r : TType}, rec_sCopyType x0 = some r → SpecO Tryz.prog 164 [.d (eType x0)] [84] [eType r]) (hrec_sCopyTypes : ∀ (x0 : List TType) {r : List TType}, rec_sCopyTypes x0 = some r → SpecO Tryz.prog 162 [.d (.sl 3 (eTypes x0))] [84] [.sl 3 (eTypes r)]) (a0 : TType) {r : TType} (h : b_sCopyType rec_sCopyType rec_sCopyTypes a0 = some r) : SpecO Tryz.prog 164 [.d (eType a0)] [84] [eType r] := by
  obtain ⟨a0_0, a0_1, a0_2⟩ := a0
  unfold b_sCopyType at h
  refine SpecO_intro Tryz.func164 rfl (by kernel_rfl) rfl (by simp) fun A _ => ?_
  refine goNL ?_
  refine V_seq_drawX (P := Tryz.prog) Mix.h [(0, true), (1, true), (2, true), (3, true), (4, true), (5, true), (6, false), (7, true), (8, false)] (by kernel_rfl) ?_
  refine goY ?_
  obtain ⟨x1, hx1, h⟩ := bnd_s h
  refine VY_co (hrec_sCopyTypes a0_2 hx1) ?_
  refine goY ?_
  refine VY_nil ?_
  refine goL ?_
  refine V_ret ?_
  replace h := Option.some.inj h
  subst h
  exact R_rO
def b_sCopyTypes_l1 (rec_sCopyType : TType → Option (TType)) : List TType → (List TType) → Option (List TType)
  | [], y1 => (some y1)
  | x6 :: xs, y1 => bnd (rec_sCopyType x6) fun x7 =>
gd (y1.length + [x7].length ≤ 4294967296) (
b_sCopyTypes_l1 rec_sCopyType xs (y1 ++ [x7]))
def b_sCopyTypes (rec_sCopyType : TType → Option (TType)) (rec_sCopyTypes : (List TType) → Option (List TType)) (a0 : List TType) : Option (List TType) :=
b_sCopyTypes_l1 rec_sCopyType a0 []
set_option maxHeartbeats 4000000 in
theorem w_sCopyTypes {rec_sCopyType : TType → Option (TType)} {rec_sCopyTypes : (List TType) → Option (List TType)} (hrec_sCopyType : ∀ (x0 : TType) {r : TType}, rec_sCopyType x0 = some r → SpecO Tryz.prog 164 [.d (eType x0)] [84] [eType r]) (hrec_sCopyTypes : ∀ (x0 : List TType) {r : List TType}, rec_sCopyTypes x0 = some r → SpecO Tryz.prog 162 [.d (.sl 3 (eTypes x0))] [84] [.sl 3 (eTypes r)]) (a0 : List TType) {r : List TType} (h : b_sCopyTypes rec_sCopyType rec_sCopyTypes a0 = some r) : SpecO Tryz.prog 162 [.d (.sl 3 (eTypes a0))] [84] [.sl 3 (eTypes r)] := by
  unfold b_sCopyTypes at h
  refine SpecO_intro Tryz.func162 rfl (by kernel_rfl) rfl (by simp) fun A _ => ?_
  refine goL ?_
  refine VO_l0 ?_
  refine goL ?_
  refine V_block ?_
  show V _ _ _ _ _
  refine V_bd 0 (fun z4 => ?_)
  refine V_loop3 (fun (y3 : Nat) (y1 : List TType) (v2 : Nat) => ⟨[(0, .d (.sl 3 (eTypes a0))), (3, .sl 0 v2), (4, .d (.i .i64 (y3 : Int)))], [.own 84 3 v2 (eTypes y1)], Tryz.f162.ntmps⟩) (fun y3 y1 v2 => b_sCopyTypes_l1 rec_sCopyType (a0.drop y3) y1 = some r) (fun y3 y1 v2 => a0.length - y3) 0 [] 0 ⟨rfl, ⟨⟨rfl, rfl⟩, ⟨rfl, rfl⟩, ⟨rfl, rfl⟩, trivial⟩, ⟨[], rfl⟩, rfl⟩ h ?_
  rintro y3 y1 v2 h
  refine goL ?_
  refine V_cb (fun c5 => ?_) (fun c5 => ?_)
  · have hky32 := kltN c5
    obtain ⟨x6, hx6, hdx6⟩ := drop_at hky32
    rw [hdx6, b_sCopyTypes_l1.eq_2] at h
    obtain ⟨x6_0, x6_1, x6_2⟩ := x6
    refine V_skip ?_
    show V _ _ _ _ _
    refine V_seq (V_block ?_)
    refine goL ?_
    refine VO_r (QR_ixn y3 (gType hx6)) ?_
    refine goL ?_
    obtain ⟨x7, hx7, h⟩ := bnd_s h
    obtain ⟨x7_0, x7_1, x7_2⟩ := x7
    refine VO_co (hrec_sCopyType (TType.mk x6_0 x6_1 x6_2) hx7) ?_
    refine VO_l1t (TType.mk x7_0 x7_1 x7_2) ?_
    obtain ⟨g8, h⟩ := gd_s h
    refine VO_ap g8 ?_
    refine goL ?_
    refine VO_r (QR_inc y3 (by omega)) ?_
    refine goL ?_
    exact ⟨(y3 + 1), (y1 ++ [(TType.mk x7_0 x7_1 x7_2)]), (v2 + 1), h, by omega, ⟨rfl, ⟨⟨rfl, rfl⟩, ⟨rfl, rfl⟩, ⟨rfl, rfl⟩, trivial⟩, ⟨_, rfl⟩, rfl⟩⟩
  · have hky32 := kgeN c5
    rw [drop_end hky32, b_sCopyTypes_l1.eq_1] at h
    refine V_exit ?_
    show V _ _ _ _ _
    refine goL ?_
    refine V_ret ?_
    replace h := Option.some.inj h
    subst h
    exact R_rO
mutual
def m_sCopyType : Nat → TType → Option (TType)
  | 0, _ => none
  | n + 1, x0 => b_sCopyType (m_sCopyType n) (m_sCopyTypes n) x0
def m_sCopyTypes : Nat → (List TType) → Option (List TType)
  | 0, _ => none
  | n + 1, x0 => b_sCopyTypes (m_sCopyType n) (m_sCopyTypes n) x0
end
theorem ss_sCopyType : ∀ (n : Nat), (∀ (x0 : TType) {r : TType}, m_sCopyType n x0 = some r → SpecO Tryz.prog 164 [.d (eType x0)] [84] [eType r]) ∧ (∀ (x0 : List TType) {r : List TType}, m_sCopyTypes n x0 = some r → SpecO Tryz.prog 162 [.d (.sl 3 (eTypes x0))] [84] [.sl 3 (eTypes r)]) := by
  intro n
  induction n with
  | zero => exact ⟨(by intro x0 r h; cases h), (by intro x0 r h; cases h)⟩
  | succ n ih =>
    obtain ⟨ih0, ih1⟩ := ih
    refine ⟨(fun x0 r h => w_sCopyType ih0 ih1 x0 h), (fun x0 r h => w_sCopyTypes ih0 ih1 x0 h)⟩
theorem s_sCopyType : ∀ (n : Nat) (x0 : TType) {r : TType}, m_sCopyType n x0 = some r → SpecO Tryz.prog 164 [.d (eType x0)] [84] [eType r] := fun n => (ss_sCopyType n).1
theorem s_sCopyTypes : ∀ (n : Nat) (x0 : List TType) {r : List TType}, m_sCopyTypes n x0 = some r → SpecO Tryz.prog 162 [.d (.sl 3 (eTypes x0))] [84] [.sl 3 (eTypes r)] := fun n => (ss_sCopyType n).2
/-! ### copies, by hand -/
theorem take_set_succ {α : Type} {l : List α} {k : Nat} {x : α} (h : k < l.length) : (l.set k x).take (k + 1) = l.take k ++ [x] := by
  apply List.ext_getElem?
  intro i
  rw [List.getElem?_take, List.getElem?_append, List.length_take, List.getElem?_take, List.getElem?_set]
  have hm : min k l.length = k := Nat.min_eq_left (by omega)
  rw [hm]
  by_cases h1 : i < k
  · rw [if_pos (by omega), if_neg (by omega), if_pos h1, if_pos h1]
  · rw [if_neg h1]
    by_cases h2 : i = k
    · subst h2
      rw [if_pos (by omega), if_pos rfl, if_pos h]
      simp
    · rw [if_neg (by omega), List.getElem?_eq_none (by simp; omega)]
theorem iCopyTypes_l1_eq {rec : TType → Option TType} : ∀ (xs : List TType) (k : Nat) (y : List TType), (∀ x ∈ xs, rec x = some x) → y.length = k + xs.length → b_iCopyTypes_l1 rec xs k y = some (y.take k ++ xs)
  | [], k, y, _, h => by
    simp only [b_iCopyTypes_l1, List.append_nil]
    rw [List.take_of_length_le (by simp at h; omega)]
  | x :: xs, k, y, h1, h2 => by
    simp only [b_iCopyTypes_l1]
    rw [h1 x (by simp)]
    simp only [bnd, List.length_cons] at h2 ⊢
    rw [gd_eq (by omega), iCopyTypes_l1_eq xs (k + 1) _ (fun z hz => h1 z (by simp [hz])) (by simp; omega), take_set_succ (by omega)]
    simp
theorem iCopy_eq : ∀ (n : Nat), (∀ t : TType, 2 * tnd t ≤ n → tok t → m_iCopyType n t = some (idT t)) ∧ (∀ ts : List TType, 2 * tnds ts + 1 ≤ n → tsok ts → m_iCopyTypes n ts = some (idTs ts))
  | 0 => ⟨fun t h => by have := tnd_pos t; omega, fun ts h => by omega⟩
  | n + 1 => by
    obtain ⟨h1, h2⟩ := iCopy_eq n
    refine ⟨fun t hn ht => ?_, fun ts hn ht => ?_⟩
    · obtain ⟨k, s, ts⟩ := t
      simp only [tnd] at hn
      simp only [m_iCopyType, b_iCopyType]
      rw [h2 ts (by omega) (by simpa only [tok, tsok] using ht)]
      rfl
    · simp only [m_iCopyTypes, b_iCopyTypes]
      rw [gd_eq ht.1, iCopyTypes_l1_eq ts 0 _ (fun x hx => h1 x (by have := tnd_mem hx; omega) (tall_iff.1 ht.2 x hx)) (by simp)]
      simp [idTs]
theorem sCopyTypes_l1_eq {rec : TType → Option TType} : ∀ (xs : List TType) (y : List TType), (∀ x ∈ xs, rec x = some x) → y.length + xs.length ≤ 4294967296 → b_sCopyTypes_l1 rec xs y = some (y ++ xs)
  | [], y, _, h => by simp [b_sCopyTypes_l1]
  | x :: xs, y, h1, h2 => by
    simp only [b_sCopyTypes_l1]
    rw [h1 x (by simp)]
    simp only [bnd, List.length_cons, List.length_nil] at h2 ⊢
    rw [gd_eq (by omega), sCopyTypes_l1_eq xs _ (fun z hz => h1 z (by simp [hz])) (by simp; omega)]
    simp
theorem sCopy_eq : ∀ (n : Nat), (∀ t : TType, 2 * tnd t ≤ n → tok t → m_sCopyType n t = some (idT t)) ∧ (∀ ts : List TType, 2 * tnds ts + 1 ≤ n → tsok ts → m_sCopyTypes n ts = some (idTs ts))
  | 0 => ⟨fun t h => by have := tnd_pos t; omega, fun ts h => by omega⟩
  | n + 1 => by
    obtain ⟨h1, h2⟩ := sCopy_eq n
    refine ⟨fun t hn ht => ?_, fun ts hn ht => ?_⟩
    · obtain ⟨k, s, ts⟩ := t
      simp only [tnd] at hn
      simp only [m_sCopyType, b_sCopyType]
      rw [h2 ts (by omega) (by simpa only [tok, tsok] using ht)]
      rfl
    · simp only [m_sCopyTypes, b_sCopyTypes]
      rw [sCopyTypes_l1_eq ts _ (fun x hx => h1 x (by have := tnd_mem hx; omega) (tall_iff.1 ht.2 x hx)) (by simpa using ht.1)]
      simp [idTs]
theorem t_iCopyType (x0 : TType) (h : tok x0) : SpecO Tryz.prog 171 [.d (eType x0)] [84] [eType (idT x0)] := s_iCopyType (2 * tnd x0) x0 ((iCopy_eq _).1 _ (Nat.le_refl _) h)
theorem t_iCopyTypes (x0 : List TType) (h : tsok x0) : SpecO Tryz.prog 170 [.d (.sl 3 (eTypes x0))] [84] [.sl 3 (eTypes (idTs x0))] := s_iCopyTypes (2 * tnds x0 + 1) x0 ((iCopy_eq _).2 _ (Nat.le_refl _) h)
theorem t_sCopyType (x0 : TType) (h : tok x0) : SpecO Tryz.prog 164 [.d (eType x0)] [84] [eType (idT x0)] := s_sCopyType (2 * tnd x0) x0 ((sCopy_eq _).1 _ (Nat.le_refl _) h)
theorem t_sCopyTypes (x0 : List TType) (h : tsok x0) : SpecO Tryz.prog 162 [.d (.sl 3 (eTypes x0))] [84] [.sl 3 (eTypes (idTs x0))] := s_sCopyTypes (2 * tnds x0 + 1) x0 ((sCopy_eq _).2 _ (Nat.le_refl _) h)
/-! ### weights and shapes of types, by hand -/
mutual
theorem tok_W : ∀ (t : TType), W (eType t) ≤ 4294967296 → tok t
  | ⟨k, n, ts⟩, h => by
    simp only [eType, W, Ws] at h
    have h2 : (eTypes ts).length = ts.length := Enc.len ts
    simp only [tok]
    exact ⟨by omega, tall_W ts (by omega)⟩
theorem tall_W : ∀ (ts : List TType), Ws (eTypes ts) ≤ 4294967296 → tall ts
  | [], _ => by simp [tall]
  | a :: ts, h => by
    simp only [eTypes, Ws] at h
    simp only [tall]
    exact ⟨tok_W a (by omega), tall_W ts (by omega)⟩
end
/-! ### what is copied is what was there, by hand -/
def idX {α : Type} (x : α) : α := x
theorem tsok_W (ts : List TType) (h : W (.sl 3 (eTypes ts)) ≤ 4294967296) : tsok ts := by
  have h2 : (eTypes ts).length = ts.length := Enc.len ts
  simp only [W] at h
  exact ⟨by omega, tall_W ts (by omega)⟩
theorem eTypes_ln (l : List TType) : (eTypes l).length = l.length := Enc.len l
theorem eStrs_ln (l : List (List UInt8)) : (eStrs l).length = l.length := Enc.len l
theorem eExprs_ln (l : List TExpr) : (eExprs l).length = l.length := Enc.len l
theorem eArms_ln (l : List TArm) : (eArms l).length = l.length := Enc.len l
theorem eBounds_ln (l : List TBound) : (eBounds l).length = l.length := Enc.len l
theorem eSignatures_ln (l : List TSignature) : (eSignatures l).length = l.length := Enc.len l
theorem eConstructors_ln (l : List TConstructor) : (eConstructors l).length = l.length := Enc.len l
theorem eMethods_ln (l : List TMethod) : (eMethods l).length = l.length := Enc.len l
theorem eParams_ln (l : List TParam) : (eParams l).length = l.length := Enc.len l
theorem eTraits_ln (l : List TTrait) : (eTraits l).length = l.length := Enc.len l
theorem eDataTypes_ln (l : List TDataType) : (eDataTypes l).length = l.length := Enc.len l
theorem eInstances_ln (l : List TInstance) : (eInstances l).length = l.length := Enc.len l
theorem eFunctions_ln (l : List TFunction) : (eFunctions l).length = l.length := Enc.len l
theorem ePackages_ln (l : List TPackage) : (ePackages l).length = l.length := Enc.len l
theorem u_iCopyType (x : TType) (h : W (eType x) ≤ 4294967296) : SpecO Tryz.prog 171 [.d (eType x)] [84] [eType (idX x)] := t_iCopyType x (tok_W x h)
theorem u_iCopyTypes (x : List TType) (h : W (.sl 3 (eTypes x)) ≤ 4294967296) : SpecO Tryz.prog 170 [.d (.sl 3 (eTypes x))] [84] [.sl 3 (eTypes (idX x))] := t_iCopyTypes x (tsok_W x h)
theorem u_sCopyType (x : TType) (h : W (eType x) ≤ 4294967296) : SpecO Tryz.prog 164 [.d (eType x)] [84] [eType (idX x)] := t_sCopyType x (tok_W x h)
theorem u_sCopyTypes (x : List TType) (h : W (.sl 3 (eTypes x)) ≤ 4294967296) : SpecO Tryz.prog 162 [.d (.sl 3 (eTypes x))] [84] [.sl 3 (eTypes (idX x))] := t_sCopyTypes x (tsok_W x h)
end Go.Proofs.YthojhakapbfbiaaGreat
set_option linter.unusedVariables false
set_option linter.unusedSimpArgs false
set_option linter.unusedSectionVars false
namespace Go.Proofs.YthojhakapbfbiaaGreat
open Go Go.Eng
attribute [local irreducible] V VO VQ VY Quiet QR SpecP SpecO MSpec Rng PostP PostO
def b_copyNames (a0 : List (List UInt8)) : Option (List (List UInt8)) :=
gd (a0.length ≤ 4294967296) (
(some a0))
set_option maxHeartbeats 4000000 in
theorem w_copyNames (a0 : List (List UInt8)) {r : List (List UInt8)} (h : b_copyNames a0 = some r) : SpecO Tryz.prog 117 [.d (.sl 1 (eStrs a0))] [9] [.sl 1 (eStrs r)] := by
  unfold b_copyNames at h
  refine SpecO_intro Tryz.func117 rfl (by kernel_rfl) rfl (by simp) fun A _ => ?_
  refine goL ?_
  obtain ⟨g1, h⟩ := gd_s h
  refine VO_ap0 g1 ?_
  refine goL ?_
  refine V_ret ?_
  replace h := Option.some.inj h
  subst h
  exact R_rO
theorem copyNames_eq (x : List (List UInt8)) (h : W (.sl 1 (eStrs x)) ≤ 4294967296) : b_copyNames x = some (idX x) := by
  simp only [W, eStrs_ln] at h
  unfold b_copyNames
  rw [gd_eq (by omega)]
  rfl
theorem t_copyNames (x : List (List UInt8)) (h : W (.sl 1 (eStrs x)) ≤ 4294967296) : SpecO Tryz.prog 117 [.d (.sl 1 (eStrs x))] [9] [.sl 1 (eStrs (idX x))] := w_copyNames x (copyNames_eq x h)
def b_iCopyEx_l1 (rec_iCopyEx : TExpr → Option (TExpr)) (a0 : TExpr) (x2 : TType) (x3 : List TExpr) : List TArm → Nat → (List TArm) → Option (TExpr)
  | [], y7, y5 => (some (TExpr.mk a0.kind a0.trait a0.name a0.n x2 x3 y5))
  | x10 :: xs, y7, y5 => gd (x10.vars.length ≤ 4294967296) (
bnd (rec_iCopyEx x10.body) fun x12 =>
gd (y7 < y5.length) (
b_iCopyEx_l1 rec_iCopyEx a0 x2 x3 xs (y7 + 1) (y5.set y7 (TArm.mk x10.constructor x10.vars x12))))
def b_iCopyEx (rec_iCopyEx : TExpr → Option (TExpr)) (rec_iCopyExs : (List TExpr) → Option (List TExpr)) (a0 : TExpr) : Option (TExpr) :=
gd (W (eType a0.type_) ≤ 4294967296) (lt_ (idX a0.type_) fun x2 =>
bnd (rec_iCopyExs a0.args) fun x3 =>
gd (a0.arms.length ≤ 4294967296) (
b_iCopyEx_l1 rec_iCopyEx a0 x2 x3 a0.arms 0 (List.replicate a0.arms.length (TArm.mk [] [] (TExpr.mk 0 [] [] 0 (TType.mk 0 [] []) [] [])))))
set_option maxHeartbeats 4000000 in
theorem w_iCopyEx {rec_iCopyEx : TExpr → Option (TExpr)} {rec_iCopyExs : (List TExpr) → Option (List TExpr)} (hrec_iCopyEx : ∀ (x0 : TExpr) {r : TExpr}, rec_iCopyEx x0 = some r → SpecO Tryz.prog 172 [.d (eExpr x0)] [84, 118, 271] [eExpr r]) (hrec_iCopyExs : ∀ (x0 : List TExpr) {r : List TExpr}, rec_iCopyExs x0 = some r → SpecO Tryz.prog 192 [.d (.sl 9 (eExprs x0))] [118] [.sl 9 (eExprs r)]) (a0 : TExpr) {r : TExpr} (h : b_iCopyEx rec_iCopyEx rec_iCopyExs a0 = some r) : SpecO Tryz.prog 172 [.d (eExpr a0)] [84, 118, 271] [eExpr r] := by
  obtain ⟨a0_0, a0_1, a0_2, a0_3, ⟨a0_4_0, a0_4_1, a0_4_2⟩, a0_5, a0_6⟩ := a0
  unfold b_iCopyEx at h
  refine SpecO_intro Tryz.func172 rfl (by kernel_rfl) rfl (by simp) fun A _ => ?_
  refine goL ?_
  obtain ⟨g1, h⟩ := gd_s h
  obtain ⟨x2, hx2, h⟩ := lt_x h
  obtain ⟨x2_0, x2_1, x2_2⟩ := x2
  have sx2 := u_iCopyType (TType.mk a0_4_0 a0_4_1 a0_4_2) g1
  rw [hx2] at sx2
  refine VO_co (sx2) ?_
  refine goL ?_
  obtain ⟨x3, hx3, h⟩ := bnd_s h
  refine VO_co (hrec_iCopyExs a0_5 hx3) ?_
  refine goL ?_
  obtain ⟨g4, h⟩ := gd_s h
  refine VO_mk (TArm.mk [] [] (TExpr.mk 0 [] [] 0 (TType.mk 0 [] []) [] [])) g4 ?_
  refine goL ?_
  refine V_block ?_
  show V _ _ _ _ _
  refine V_bd 19 (fun z8 => ?_)
  refine V_loop3 (fun (y7 : Nat) (y5 : List TArm) (v6 : Nat) => ⟨[(1, .ptr 0 0), (2, .ptr 1 0), (3, .sl 4 v6), (19, .d (.sl 11 (eArms a0_6))), (20, .d (.i .i64 (a0_6.length : Int))), (21, .d (.i .i64 (y7 : Int)))], [.box [.d (.i .i64 a0_0), .d (.s a0_1), .d (.s a0_2), .d (.i .i64 a0_3), .d (.i .i64 x2_0), .d (.s x2_1), .sl 2 0, .sl 3 0, .d (.sl 11 (eArms a0_6))], .box [.d (.i .i64 0), .d (.s []), .d (.s []), .d (.i .i64 0), .d (.i .i64 0), .d (.s []), .nilsl, .nilsl, .nilsl], .own 84 3 0 (eTypes x2_2), .own 118 9 0 (eExprs x3), .own 271 11 v6 (eArms y5)], Tryz.f172.ntmps⟩) (fun y7 y5 v6 => b_iCopyEx_l1 rec_iCopyEx (TExpr.mk a0_0 a0_1 a0_2 a0_3 (TType.mk a0_4_0 a0_4_1 a0_4_2) a0_5 a0_6) (TType.mk x2_0 x2_1 x2_2) x3 (a0_6.drop y7) y7 y5 = some r) (fun y7 y5 v6 => a0_6.length - y7) 0 (List.replicate a0_6.length (TArm.mk [] [] (TExpr.mk 0 [] [] 0 (TType.mk 0 [] []) [] []))) 0 ⟨rfl, ⟨⟨rfl, rfl⟩, ⟨rfl, rfl⟩, ⟨rfl, rfl⟩, ⟨rfl, rfl⟩, ⟨rfl, rfl⟩, ⟨rfl, rfl⟩, trivial⟩, ⟨[], rfl⟩, rfl⟩ h ?_
  rintro y7 y5 v6 h
  refine goL ?_
  refine V_seq (V_cb (fun c9 => ?_) (fun c9 => ?_))
  · have hky72 := kltN c9
    obtain ⟨x10, hx10, hdx10⟩ := drop_at hky72
    rw [hdx10, b_iCopyEx_l1.eq_2] at h
    obtain ⟨x10_0, x10_1, ⟨x10_2_0, x10_2_1, x10_2_2, x10_2_3, ⟨x10_2_4_0, x10_2_4_1, x10_2_4_2⟩, x10_2_5, x10_2_6⟩⟩ := x10
    refine V_skip ?_
    show V _ _ _ _ _
    refine V_seq (V_block ?_)
    refine goL ?_
    refine VO_r (QR_ixn y7 (gArm hx10)) ?_
    refine goNL ?_
    refine V_drawX (P := Tryz.prog) Mix.h [(0, true), (1, true), (2, true), (3, true), (4, true), (5, true), (7, true), (8, true), (6, false), (9, false), (10, true), (11, false), (12, false)] (by kernel_rfl) ?_
    refine goY ?_
    obtain ⟨g11, h⟩ := gd_s h
    refine VY_ap0 (T := 67) g11 ?_
    obtain ⟨x12, hx12, h⟩ := bnd_s h
    obtain ⟨x12_0, x12_1, x12_2, x12_3, ⟨x12_4_0, x12_4_1, x12_4_2⟩, x12_5, x12_6⟩ := x12
    refine VY_co (hrec_iCopyEx (TExpr.mk x10_2_0 x10_2_1 x10_2_2 x10_2_3 (TType.mk x10_2_4_0 x10_2_4_1 x10_2_4_2) x10_2_5 x10_2_6) hx12) ?_
    refine goY ?_
    obtain ⟨g13, h⟩ := gd_s h
    refine VY_ixo y7 g13 ?_
    refine VY_st (TArm.mk x10_0 x10_1 (TExpr.mk x12_0 x12_1 x12_2 x12_3 (TType.mk x12_4_0 x12_4_1 x12_4_2) x12_5 x12_6)) g13 ?_
    refine VY_nil ?_
    refine goL ?_
    refine VO_r (QR_inc y7 (by omega)) ?_
    refine goL ?_
    exact ⟨(y7 + 1), (y5.set y7 (TArm.mk x10_0 x10_1 (TExpr.mk x12_0 x12_1 x12_2 x12_3 (TType.mk x12_4_0 x12_4_1 x12_4_2) x12_5 x12_6))), v6, h, by omega, ⟨rfl, ⟨⟨rfl, rfl⟩, ⟨rfl, rfl⟩, ⟨rfl, rfl⟩, ⟨rfl, rfl⟩, ⟨rfl, rfl⟩, ⟨rfl, rfl⟩, trivial⟩, ⟨_, rfl⟩, rfl⟩⟩
  · have hky72 := kgeN c9
    rw [drop_end hky72, b_iCopyEx_l1.eq_1] at h
    refine V_exit ?_
    show V _ _ _ _ _
    refine goL ?_
    refine V_ret ?_
    replace h := Option.some.inj h
    subst h
    exact R_rO
def b_iCopyExs_l1 (rec_iCopyEx : TExpr → Option (TExpr)) : List TExpr → Nat → (List TExpr) → Option (List TExpr)
  | [], y4, y2 => (some y2)
  | x7 :: xs, y4, y2 => bnd (rec_iCopyEx x7) fun x8 =>
gd (y4 < y2.length) (
b_iCopyExs_l1 rec_iCopyEx xs (y4 + 1) (y2.set y4 x8))
def b_iCopyExs (rec_iCopyEx : TExpr → Option (TExpr)) (rec_iCopyExs : (List TExpr) → Option (List TExpr)) (a0 : List TExpr) : Option (List TExpr) :=
gd (a0.length ≤ 4294967296) (
b_iCopyExs_l1 rec_iCopyEx a0 0 (List.replicate a0.length (TExpr.mk 0 [] [] 0 (TType.mk 0 [] []) [] [])))
set_option maxHeartbeats 4000000 in
theorem w_iCopyExs {rec_iCopyEx : TExpr → Option (TExpr)} {rec_iCopyExs : (List TExpr) → Option (List TExpr)} (hrec_iCopyEx : ∀ (x0 : TExpr) {r : TExpr}, rec_iCopyEx x0 = some r → SpecO Tryz.prog 172 [.d (eExpr x0)] [84, 118, 271] [eExpr r]) (hrec_iCopyExs : ∀ (x0 : List TExpr) {r : List TExpr}, rec_iCopyExs x0 = some r → SpecO Tryz.prog 192 [.d (.sl 9 (eExprs x0))] [118] [.sl 9 (eExprs r)]) (a0 : List TExpr) {r : List TExpr} (h : b_iCopyExs rec_iCopyEx rec_iCopyExs a0 = some r) : SpecO Tryz.prog 192 [.d (.sl 9 (eExprs a0))] [118] [.sl 9 (eExprs r)] := by
  unfold b_iCopyExs at h
  refine SpecO_intro Tryz.func192 rfl (by kernel_rfl) rfl (by simp) fun A _ => ?_
  refine goL ?_
  obtain ⟨g1, h⟩ := gd_s h
  refine VO_mk (TExpr.mk 0 [] [] 0 (TType.mk 0 [] []) [] []) g1 ?_
  refine goL ?_
  refine V_block ?_
  show V _ _ _ _ _
  refine V_bd 9 (fun z5 => ?_)
  refine V_loop3 (fun (y4 : Nat) (y2 : List TExpr) (v3 : Nat) => ⟨[(3, .sl 0 v3), (9, .d (.sl 9 (eExprs a0))), (10, .d (.i .i64 (a0.length : Int))), (11, .d (.i .i64 (y4 : Int)))], [.own 118 9 v3 (eExprs y2)], Tryz.f192.ntmps⟩) (fun y4 y2 v3 => b_iCopyExs_l1 rec_iCopyEx (a0.drop y4) y4 y2 = some r) (fun y4 y2 v3 => a0.length - y4) 0 (List.replicate a0.length (TExpr.mk 0 [] [] 0 (TType.mk 0 [] []) [] [])) 0 ⟨rfl, ⟨⟨rfl, rfl⟩, ⟨rfl, rfl⟩, ⟨rfl, rfl⟩, ⟨rfl, rfl⟩, trivial⟩, ⟨[], rfl⟩, rfl⟩ h ?_
  rintro y4 y2 v3 h
  refine goL ?_
  refine V_seq (V_cb (fun c6 => ?_) (fun c6 => ?_))
  · have hky42 := kltN c6
    obtain ⟨x7, hx7, hdx7⟩ := drop_at hky42
    rw [hdx7, b_iCopyExs_l1.eq_2] at h
    obtain ⟨x7_0, x7_1, x7_2, x7_3, ⟨x7_4_0, x7_4_1, x7_4_2⟩, x7_5, x7_6⟩ := x7
    refine V_skip ?_
    show V _ _ _ _ _
    refine V_seq (V_block ?_)
    refine goL ?_
    refine VO_r (QR_ixn y4 (gExpr hx7)) ?_
    refine goL ?_
    obtain ⟨x8, hx8, h⟩ := bnd_s h
    obtain ⟨x8_0, x8_1, x8_2, x8_3, ⟨x8_4_0, x8_4_1, x8_4_2⟩, x8_5, x8_6⟩ := x8
    refine VO_co (hrec_iCopyEx (TExpr.mk x7_0 x7_1 x7_2 x7_3 (TType.mk x7_4_0 x7_4_1 x7_4_2) x7_5 x7_6) hx8) ?_
    obtain ⟨g9, h⟩ := gd_s h
    refine VO_k (Q_ixo y4 g9) ?_
    refine VO_st (TExpr.mk x8_0 x8_1 x8_2 x8_3 (TType.mk x8_4_0 x8_4_1 x8_4_2) x8_5 x8_6) g9 ?_
    refine goL ?_
    refine VO_r (QR_inc y4 (by omega)) ?_
    refine goL ?_
    exact ⟨(y4 + 1), (y2.set y4 (TExpr.mk x8_0 x8_1 x8_2 x8_3 (TType.mk x8_4_0 x8_4_1 x8_4_2) x8_5 x8_6)), v3, h, by omega, ⟨rfl, ⟨⟨rfl, rfl⟩, ⟨rfl, rfl⟩, ⟨rfl, rfl⟩, ⟨rfl, rfl⟩, trivial⟩, ⟨_, rfl⟩, rfl⟩⟩
  · have hky42 := kgeN c6
    rw [drop_end hky42, b_iCopyExs_l1.eq_1] at h
    refine V_exit ?_
    show V _ _ _ _ _
    refine goL ?_
    refine V_ret ?_
    replace h := Option.some.inj h
    subst h
    exact R_rO
mutual
def m_iCopyEx : Nat → TExpr → Option (TExpr)
  | 0, _ => none
  | n + 1, x0 => b_iCopyEx (m_iCopyEx n) (m_iCopyExs n) x0
def m_iCopyExs : Nat → (List TExpr) → Option (List TExpr)
  | 0, _ => none
  | n + 1, x0 => b_iCopyExs (m_iCopyEx n) (m_iCopyExs n) x0
end
theorem ss_iCopyEx : ∀ (n : Nat), (∀ (x0 : TExpr) {r : TExpr}, m_iCopyEx n x0 = some r → SpecO Tryz.prog 172 [.d (eExpr x0)] [84, 118, 271] [eExpr r]) ∧ (∀ (x0 : List TExpr) {r : List TExpr}, m_iCopyExs n x0 = some r → SpecO Tryz.prog 192 [.d (.sl 9 (eExprs x0))] [118] [.sl 9 (eExprs r)]) := by
  intro n
  induction n with
  | zero => exact ⟨(by intro x0 r h; cases h), (by intro x0 r h; cases h)⟩
  | succ n ih =>
    obtain ⟨ih0, ih1⟩ := ih
    refine ⟨(fun x0 r h => w_iCopyEx ih0 ih1 x0 h), (fun x0 r h => w_iCopyExs ih0 ih1 x0 h)⟩
theorem s_iCopyEx : ∀ (n : Nat) (x0 : TExpr) {r : TExpr}, m_iCopyEx n x0 = some r → SpecO Tryz.prog 172 [.d (eExpr x0)] [84, 118, 271] [eExpr r] := fun n => (ss_iCopyEx n).1
def b_sCopyEx_l2 (rec_sCopyEx : TExpr → Option (TExpr)) (a0 : TExpr) (x2 : List TType) (y3 : List TExpr) : List TArm → (List TArm) → Option (TExpr)
  | [], y11 => (some (TExpr.mk a0.kind a0.trait a0.name a0.n (TType.mk a0.type_.kind a0.type_.name x2) y3 y11))
  | x16 :: xs, y11 => gd (([] : List (List UInt8)).length + x16.vars.length ≤ 4294967296) (
bnd (rec_sCopyEx x16.body) fun x18 =>
gd (y11.length + [(TArm.mk x16.constructor ([] ++ x16.vars) x18)].length ≤ 4294967296) (
b_sCopyEx_l2 rec_sCopyEx a0 x2 y3 xs (y11 ++ [(TArm.mk x16.constructor ([] ++ x16.vars) x18)])))
def b_sCopyEx_l1 (rec_sCopyEx : TExpr → Option (TExpr)) (a0 : TExpr) (x2 : List TType) : List TExpr → (List TExpr) → Option (TExpr)
  | [], y3 => b_sCopyEx_l2 rec_sCopyEx a0 x2 y3 a0.arms []
  | x8 :: xs, y3 => bnd (rec_sCopyEx x8) fun x9 =>
gd (y3.length + [x9].length ≤ 4294967296) (
b_sCopyEx_l1 rec_sCopyEx a0 x2 xs (y3 ++ [x9]))
def b_sCopyEx (rec_sCopyEx : TExpr → Option (TExpr)) (a0 : TExpr) : Option (TExpr) :=
gd (W (.sl 3 (eTypes a0.type_.args)) ≤ 4294967296) (lt_ (idX a0.type_.args) fun x2 =>
b_sCopyEx_l1 rec_sCopyEx a0 x2 a0.args [])
set_option maxHeartbeats 4000000 in
theorem w_sCopyEx {rec_sCopyEx : TExpr → Option (TExpr)} (hrec_sCopyEx : ∀ (x0 : TExpr) {r : TExpr}, rec_sCopyEx x0 = some r → SpecO Tryz.prog 163 [.d (eExpr x0)] [84, 118, 271] [eExpr r]) (a0 : TExpr) {r : TExpr} (h : b_sCopyEx rec_sCopyEx a0 = some r) : SpecO Tryz.prog 163 [.d (eExpr a0)] [84, 118, 271] [eExpr r] := by
  obtain ⟨a0_0, a0_1, a0_2, a0_3, ⟨a0_4_0, a0_4_1, a0_4_2⟩, a0_5, a0_6⟩ := a0
  unfold b_sCopyEx at h
  refine SpecO_intro Tryz.func163 rfl (by kernel_rfl) rfl (by simp) fun A _ => ?_
  refine goNL ?_
  refine V_seq_drawX (P := Tryz.prog) Mix.h [(0, true), (1, true), (2, true), (3, true), (4, true), (5, true), (6, true), (7, true), (8, true), (9, false), (10, true), (11, true), (12, false)] (by kernel_rfl) ?_
  refine goY ?_
  obtain ⟨g1, h⟩ := gd_s h
  obtain ⟨x2, hx2, h⟩ := lt_x h
  have sx2 := u_sCopyTypes a0_4_2 g1
  rw [hx2] at sx2
  refine VY_co (sx2) ?_
  refine goY ?_
  refine VY_nil ?_
  refine goL ?_
  refine VO_l0 ?_
  refine goL ?_
  refine V_block ?_
  show V _ _ _ _ _
  refine V_bdc 0 7 (fun z6 => ?_)
  refine V_loop3 (fun (y5 : Nat) (y3 : List TExpr) (v4 : Nat) => ⟨[(1, .ptr 0 0), (2, .ptr 1 0), (3, .sl 3 v4), (4, .d (.i .i64 (y5 : Int)))], [.box [.d (.i .i64 a0_0), .d (.s a0_1), .d (.s a0_2), .d (.i .i64 a0_3), .d (.i .i64 a0_4_0), .d (.s a0_4_1), .sl 2 0, .d (.sl 9 (eExprs a0_5)), .d (.sl 11 (eArms a0_6))], .box [.d (.i .i64 0), .d (.s []), .d (.s []), .d (.i .i64 0), .d (.i .i64 0), .d (.s []), .nilsl, .nilsl, .nilsl], .own 84 3 0 (eTypes x2), .own 118 9 v4 (eExprs y3)], Tryz.f163.ntmps⟩) (fun y5 y3 v4 => b_sCopyEx_l1 rec_sCopyEx (TExpr.mk a0_0 a0_1 a0_2 a0_3 (TType.mk a0_4_0 a0_4_1 a0_4_2) a0_5 a0_6) x2 (a0_5.drop y5) y3 = some r) (fun y5 y3 v4 => a0_5.length - y5) 0 [] 0 ⟨rfl, ⟨⟨rfl, rfl⟩, ⟨rfl, rfl⟩, ⟨rfl, rfl⟩, ⟨rfl, rfl⟩, trivial⟩, ⟨[], rfl⟩, rfl⟩ h ?_
  rintro y5 y3 v4 h
  refine goL ?_
  refine V_cb (fun c7 => ?_) (fun c7 => ?_)
  · have hky52 := kltN c7
    obtain ⟨x8, hx8, hdx8⟩ := drop_at hky52
    rw [hdx8, b_sCopyEx_l1.eq_2] at h
    obtain ⟨x8_0, x8_1, x8_2, x8_3, ⟨x8_4_0, x8_4_1, x8_4_2⟩, x8_5, x8_6⟩ := x8
    refine V_skip ?_
    show V _ _ _ _ _
    refine V_seq (V_block ?_)
    refine goL ?_
    refine VO_r (QR_ixn y5 (gExpr hx8)) ?_
    refine goL ?_
    obtain ⟨x9, hx9, h⟩ := bnd_s h
    obtain ⟨x9_0, x9_1, x9_2, x9_3, ⟨x9_4_0, x9_4_1, x9_4_2⟩, x9_5, x9_6⟩ := x9
    refine VO_co (hrec_sCopyEx (TExpr.mk x8_0 x8_1 x8_2 x8_3 (TType.mk x8_4_0 x8_4_1 x8_4_2) x8_5 x8_6) hx9) ?_
    refine VO_l1t (TExpr.mk x9_0 x9_1 x9_2 x9_3 (TType.mk x9_4_0 x9_4_1 x9_4_2) x9_5 x9_6) ?_
    obtain ⟨g10, h⟩ := gd_s h
    refine VO_ap g10 ?_
    refine goL ?_
    refine VO_r (QR_inc y5 (by omega)) ?_
    refine goL ?_
    exact ⟨(y5 + 1), (y3 ++ [(TExpr.mk x9_0 x9_1 x9_2 x9_3 (TType.mk x9_4_0 x9_4_1 x9_4_2) x9_5 x9_6)]), (v4 + 1), h, by omega, ⟨rfl, ⟨⟨rfl, rfl⟩, ⟨rfl, rfl⟩, ⟨rfl, rfl⟩, ⟨rfl, rfl⟩, trivial⟩, ⟨_, rfl⟩, rfl⟩⟩
  · have hky52 := kgeN c7
    rw [drop_end hky52, b_sCopyEx_l1.eq_1] at h
    refine V_exit ?_
    show V _ _ _ _ _
    refine goL ?_
    refine VO_l0 ?_
    refine goL ?_
    refine V_block ?_
    show V _ _ _ _ _
    refine V_bdc 0 8 (fun z14 => ?_)
    refine V_loop3 (fun (y13 : Nat) (y11 : List TArm) (v12 : Nat) => ⟨[(1, .ptr 0 0), (2, .ptr 1 0), (3, .sl 3 v4), (5, .sl 4 v12), (6, .d (.i .i64 (y13 : Int)))], [.box [.d (.i .i64 a0_0), .d (.s a0_1), .d (.s a0_2), .d (.i .i64 a0_3), .d (.i .i64 a0_4_0), .d (.s a0_4_1), .sl 2 0, .d (.sl 9 (eExprs a0_5)), .d (.sl 11 (eArms a0_6))], .box [.d (.i .i64 0), .d (.s []), .d (.s []), .d (.i .i64 0), .d (.i .i64 0), .d (.s []), .nilsl, .nilsl, .nilsl], .own 84 3 0 (eTypes x2), .own 118 9 v4 (eExprs y3), .own 271 11 v12 (eArms y11)], Tryz.f163.ntmps⟩) (fun y13 y11 v12 => b_sCopyEx_l2 rec_sCopyEx (TExpr.mk a0_0 a0_1 a0_2 a0_3 (TType.mk a0_4_0 a0_4_1 a0_4_2) a0_5 a0_6) x2 y3 (a0_6.drop y13) y11 = some r) (fun y13 y11 v12 => a0_6.length - y13) 0 [] 0 ⟨rfl, ⟨⟨rfl, rfl⟩, ⟨rfl, rfl⟩, ⟨rfl, rfl⟩, ⟨rfl, rfl⟩, ⟨rfl, rfl⟩, trivial⟩, ⟨[], rfl⟩, rfl⟩ h ?_
    rintro y13 y11 v12 h
    refine goL ?_
    refine V_cb (fun c15 => ?_) (fun c15 => ?_)
    · have hky132 := kltN c15
      obtain ⟨x16, hx16, hdx16⟩ := drop_at hky132
      rw [hdx16, b_sCopyEx_l2.eq_2] at h
      obtain ⟨x16_0, x16_1, ⟨x16_2_0, x16_2_1, x16_2_2, x16_2_3, ⟨x16_2_4_0, x16_2_4_1, x16_2_4_2⟩, x16_2_5, x16_2_6⟩⟩ := x16
      refine V_skip ?_
      show V _ _ _ _ _
      refine V_seq (V_block ?_)
      refine V_drawX (P := Tryz.prog) Mix.h [(0, true), (1, true), (2, true), (3, true), (4, true), (5, true), (6, true), (8, true), (9, true), (10, true), (11, true), (12, true), (13, true), (15, true), (16, true), (17, true), (18, true), (19, true), (20, true), (7, false), (14, false), (21, false), (22, true), (23, false), (24, false), (25, true)] (by kernel_rfl) ?_
      refine goY ?_
      refine VY_ri rfl (QR_ixn y13 (gArm hx16)) ?_
      refine goY ?_
      refine VY_ri rfl (QR_ixn y13 (gArm hx16)) ?_
      refine goY ?_
      refine VY_ri rfl (QR_ixn y13 (gArm hx16)) ?_
      refine goY ?_
      refine VY_l0 ?_
      obtain ⟨g17, h⟩ := gd_s h
      refine VY_ap (T := 67) g17 ?_
      obtain ⟨x18, hx18, h⟩ := bnd_s h
      obtain ⟨x18_0, x18_1, x18_2, x18_3, ⟨x18_4_0, x18_4_1, x18_4_2⟩, x18_5, x18_6⟩ := x18
      refine VY_co (hrec_sCopyEx (TExpr.mk x16_2_0 x16_2_1 x16_2_2 x16_2_3 (TType.mk x16_2_4_0 x16_2_4_1 x16_2_4_2) x16_2_5 x16_2_6) hx18) ?_
      refine goY ?_
      refine VY_l1t (T := 116) (TArm.mk x16_0 ([] ++ x16_1) (TExpr.mk x18_0 x18_1 x18_2 x18_3 (TType.mk x18_4_0 x18_4_1 x18_4_2) x18_5 x18_6)) ?_
      obtain ⟨g19, h⟩ := gd_s h
      refine VY_ap (T := 116) g19 ?_
      refine goY ?_
      refine VY_nil ?_
      refine goL ?_
      refine VO_r (QR_inc y13 (by omega)) ?_
      refine goL ?_
      exact ⟨(y13 + 1), (y11 ++ [(TArm.mk x16_0 ([] ++ x16_1) (TExpr.mk x18_0 x18_1 x18_2 x18_3 (TType.mk x18_4_0 x18_4_1 x18_4_2) x18_5 x18_6))]), (v12 + 1), h, by omega, ⟨rfl, ⟨⟨rfl, rfl⟩, ⟨rfl, rfl⟩, ⟨rfl, rfl⟩, ⟨rfl, rfl⟩, ⟨rfl, rfl⟩, trivial⟩, ⟨_, rfl⟩, rfl⟩⟩
    · have hky132 := kgeN c15
      rw [drop_end hky132, b_sCopyEx_l2.eq_1] at h
      refine V_exit ?_
      show V _ _ _ _ _
      refine goL ?_
      refine V_ret ?_
      replace h := Option.some.inj h
      subst h
      exact R_rO
def m_sCopyEx : Nat → TExpr → Option (TExpr)
  | 0, _ => none
  | n + 1, x0 => b_sCopyEx (m_sCopyEx n) x0
theorem s_sCopyEx : ∀ (n : Nat) (x0 : TExpr) {r : TExpr}, m_sCopyEx n x0 = some r → SpecO Tryz.prog 163 [.d (eExpr x0)] [84, 118, 271] [eExpr r] := by
  intro n
  induction n with
  | zero => intro x0 r h; cases h
  | succ n ih => intro x0 r h; exact w_sCopyEx ih x0 h
/-! ### expressions, by hand -/
theorem eEx_mem {a : TExpr} {l : List TExpr} (h : a ∈ l) : W (eExpr a) ≤ Ws (eExprs l) := W_le_of_mem (by rw [show eExprs l = l.map eExpr from Enc.h l]; exact List.mem_map_of_mem h)
theorem eArm_mem {a : TArm} {l : List TArm} (h : a ∈ l) : W (eArm a) ≤ Ws (eArms l) := W_le_of_mem (by rw [show eArms l = l.map eArm from Enc.h l]; exact List.mem_map_of_mem h)
theorem iCopyEx_l1_eq {rec : TExpr → Option TExpr} (a0 : TExpr) (x2 : TType) (x3 : List TExpr) : ∀ (xs : List TArm) (k : Nat) (y : List TArm), (∀ a ∈ xs, rec a.body = some a.body ∧ a.vars.length ≤ 4294967296) → y.length = k + xs.length → b_iCopyEx_l1 rec a0 x2 x3 xs k y = some (TExpr.mk a0.kind a0.trait a0.name a0.n x2 x3 (y.take k ++ xs))
  | [], k, y, _, h => by
    rw [b_iCopyEx_l1.eq_1, List.take_of_length_le (by simp at h; omega), List.append_nil]
  | x :: xs, k, y, h, h2 => by
    obtain ⟨z0, z1, z2⟩ := x
    obtain ⟨h3, h4⟩ := h ⟨z0, z1, z2⟩ (by simp)
    simp only [List.length_cons] at h2
    rw [b_iCopyEx_l1.eq_2, gd_eq h4, h3]
    simp only [bnd]
    rw [gd_eq (by omega), iCopyEx_l1_eq a0 x2 x3 xs (k + 1) _ (fun a ha => h a (by simp [ha])) (by simp; omega), take_set_succ (by omega)]
    simp
theorem iCopyExs_l1_eq {rec : TExpr → Option TExpr} : ∀ (xs : List TExpr) (k : Nat) (y : List TExpr), (∀ a ∈ xs, rec a = some a) → y.length = k + xs.length → b_iCopyExs_l1 rec xs k y = some (y.take k ++ xs)
  | [], k, y, _, h => by
    rw [b_iCopyExs_l1.eq_1, List.take_of_length_le (by simp at h; omega), List.append_nil]
  | x :: xs, k, y, h, h2 => by
    simp only [List.length_cons] at h2
    rw [b_iCopyExs_l1.eq_2, h x (by simp)]
    simp only [bnd]
    rw [gd_eq (by omega), iCopyExs_l1_eq xs (k + 1) _ (fun a ha => h a (by simp [ha])) (by simp; omega), take_set_succ (by omega)]
    simp
theorem arm_body {z0 : List UInt8} {z1 : List (List UInt8)} {z2 : TExpr} {l : List TArm} (h : ⟨z0, z1, z2⟩ ∈ l) : W (eExpr z2) + z1.length ≤ Ws (eArms l) := by
  have := eArm_mem h
  simp only [eArm, W, Ws, eStrs_ln] at this
  omega
theorem iEx_eq : ∀ (n : Nat), (∀ e : TExpr, 2 * W (eExpr e) + 2 ≤ n → W (eExpr e) ≤ 4294967296 → m_iCopyEx n e = some (idX e)) ∧ (∀ es : List TExpr, 2 * W (.sl 9 (eExprs es)) + 1 ≤ n → W (.sl 9 (eExprs es)) ≤ 4294967296 → m_iCopyExs n es = some (idX es))
  | 0 => ⟨fun _ h => by omega, fun _ h => by omega⟩
  | n + 1 => by
    obtain ⟨h1, h2⟩ := iEx_eq n
    refine ⟨fun e hn hw => ?_, fun es hn hw => ?_⟩
    · obtain ⟨a0, a1, a2, a3, a4, a5, a6⟩ := e
      simp only [eExpr, W, Ws, eExprs_ln, eArms_ln] at hn hw
      rw [m_iCopyEx.eq_2]
      unfold b_iCopyEx
      rw [gd_eq (by show W (eType a4) ≤ _; omega)]
      simp only [lt_, idX]
      rw [h2 a5 (by simp only [W, eExprs_ln]; omega) (by simp only [W, eExprs_ln]; omega)]
      simp only [bnd, idX]
      rw [gd_eq (by show a6.length ≤ _; omega), iCopyEx_l1_eq _ _ _ _ 0 _ (fun a ha => ?_) (by simp)]
      · simp
      · obtain ⟨z0, z1, z2⟩ := a
        have := arm_body (l := a6) ha
        exact ⟨h1 z2 (by
          have hl : 1 ≤ a6.length := List.length_pos_of_mem ha
          omega) (by omega), by show z1.length ≤ _; omega⟩
    · simp only [W, eExprs_ln] at hn hw
      rw [m_iCopyExs.eq_2]
      unfold b_iCopyExs
      rw [gd_eq (by omega), iCopyExs_l1_eq _ 0 _ (fun a ha => ?_) (by simp)]
      · simp [idX]
      · have := eEx_mem ha
        have hl : 1 ≤ es.length := List.length_pos_of_mem ha
        exact h1 a (by omega) (by omega)
theorem sCopyEx_l2_eq {rec : TExpr → Option TExpr} (a0 : TExpr) (x2 : List TType) (x3 : List TExpr) : ∀ (xs : List TArm) (y : List TArm), (∀ a ∈ xs, rec a.body = some a.body ∧ a.vars.length ≤ 4294967296) → y.length + xs.length ≤ 4294967296 → b_sCopyEx_l2 rec a0 x2 x3 xs y = some (TExpr.mk a0.kind a0.trait a0.name a0.n (TType.mk a0.type_.kind a0.type_.name x2) x3 (y ++ xs))
  | [], y, _, h => by rw [b_sCopyEx_l2.eq_1, List.append_nil]
  | x :: xs, y, h, h2 => by
    obtain ⟨z0, z1, z2⟩ := x
    obtain ⟨h3, h4⟩ := h ⟨z0, z1, z2⟩ (by simp)
    simp only [List.length_cons] at h2
    rw [b_sCopyEx_l2.eq_2, gd_eq (by simpa using h4), h3]
    simp only [bnd, List.nil_append]
    rw [gd_eq (by simp; omega), sCopyEx_l2_eq a0 x2 x3 xs _ (fun a ha => h a (by simp [ha])) (by simp; omega)]
    simp
theorem sCopyEx_l1_eq {rec : TExpr → Option TExpr} (a0 : TExpr) (x2 : List TType) : ∀ (xs y : List TExpr), (∀ a ∈ xs, rec a = some a) → y.length + xs.length ≤ 4294967296 → b_sCopyEx_l1 rec a0 x2 xs y = b_sCopyEx_l2 rec a0 x2 (y ++ xs) a0.arms []
  | [], y, _, h => by rw [b_sCopyEx_l1.eq_1, List.append_nil]
  | x :: xs, y, h, h2 => by
    simp only [List.length_cons] at h2
    rw [b_sCopyEx_l1.eq_2, h x (by simp)]
    simp only [bnd]
    rw [gd_eq (by simp; omega), sCopyEx_l1_eq a0 x2 xs _ (fun a ha => h a (by simp [ha])) (by simp; omega)]
    simp
theorem sEx_eq : ∀ (n : Nat) (e : TExpr), W (eExpr e) + 1 ≤ n → W (eExpr e) ≤ 4294967296 → m_sCopyEx n e = some (idX e)
  | 0, _, h, _ => by omega
  | n + 1, ⟨a0, a1, a2, a3, ⟨t0, t1, t2⟩, a5, a6⟩, hn, hw => by
    simp only [eExpr, eType, W, Ws, eExprs_ln, eArms_ln, eTypes_ln] at hn hw
    rw [m_sCopyEx.eq_2]
    unfold b_sCopyEx
    rw [gd_eq (by show W (.sl 3 (eTypes t2)) ≤ _; simp only [W, eTypes_ln]; omega)]
    simp only [lt_, idX]
    rw [sCopyEx_l1_eq _ _ _ [] (fun a ha => ?_) (by simp; omega), sCopyEx_l2_eq _ _ _ _ [] (fun a ha => ?_) (by simp; omega)]
    · simp
    · obtain ⟨z0, z1, z2⟩ := a
      have := arm_body (l := a6) ha
      have hl : 1 ≤ a6.length := List.length_pos_of_mem ha
      exact ⟨sEx_eq n z2 (by omega) (by omega), by show z1.length ≤ _; omega⟩
    · have := eEx_mem (l := a5) ha
      have hl : 1 ≤ a5.length := List.length_pos_of_mem ha
      exact sEx_eq n a (by omega) (by omega)
theorem u_iCopyEx (x : TExpr) (h : W (eExpr x) ≤ 4294967296) : SpecO Tryz.prog 172 [.d (eExpr x)] [84, 118, 271] [eExpr (idX x)] := s_iCopyEx (2 * W (eExpr x) + 2) x ((iEx_eq (2 * W (eExpr x) + 2)).1 x (Nat.le_refl _) h)
theorem u_sCopyEx (x : TExpr) (h : W (eExpr x) ≤ 4294967296) : SpecO Tryz.prog 163 [.d (eExpr x)] [84, 118, 271] [eExpr (idX x)] := s_sCopyEx (W (eExpr x) + 1) x (sEx_eq (W (eExpr x) + 1) x (Nat.le_refl _) h)
end Go.Proofs.YthojhakapbfbiaaGreat
