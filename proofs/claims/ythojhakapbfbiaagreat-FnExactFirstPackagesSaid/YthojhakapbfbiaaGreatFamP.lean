/- The contracts of the laws' own helpers (size checks, copies, comparisons). Written by a program of mine (fam.py). -/
import Derived.Test.YthojhakapbfbiaaGreatFacts
import Derived.Test.YthojhakapbfbiaaGreatEng53
set_option linter.unusedVariables false
set_option linter.unusedSimpArgs false
namespace Go.Proofs.YthojhakapbfbiaaGreat
open Go Go.Eng
attribute [local irreducible] V VO VQ Quiet SpecP
abbrev PSz (f : Nat) (u : U) : Prop := ∀ l : Int, 0 ≤ l → l ≤ 4611686018427387904 → SpecP Tryz.prog f [.d u, .d (.i .i64 l)] [.i .i64 (if (W u : Int) ≤ l then l - W u else -1)]
abbrev PEq (f : Nat) (u v : U) : Prop := SpecP Tryz.prog f [.d u, .d v] [.b (deq u v)]
/-- What a copy holds after k rounds. -/
def fillU (us : List U) (zu : U) (k : Nat) : List U := us.take k ++ List.replicate (us.length - k) zu
theorem fillU_zero (us : List U) (zu : U) : List.replicate us.length zu = fillU us zu 0 := by simp [fillU]
theorem fillU_all (us : List U) (zu : U) : fillU us zu us.length = us := by simp [fillU]
theorem fillU_length {us : List U} {zu : U} {k : Nat} (h : k ≤ us.length) : (fillU us zu k).length = us.length := by simp [fillU]; omega
theorem fillU_set {us : List U} {zu u : U} {k : Nat} (h : us[k]? = some u) : (fillU us zu k).set k u = fillU us zu (k + 1) := by
  obtain ⟨hk, rfl⟩ := List.getElem?_eq_some_iff.1 h
  unfold fillU
  have hl : (us.take k).length = k := by simp; omega
  rw [List.set_append_right _ _ (by omega), hl, Nat.sub_self]
  rw [show us.length - k = (us.length - (k + 1)) + 1 by omega, List.replicate_succ, List.set_cons_zero, List.take_succ_eq_append_getElem hk, List.append_assoc]
  rfl
theorem szType_step {f0 : Int} {f1 : List UInt8} {f2 : List U} (h1 : f1.length ≤ big) (h2 : PSz 141 (.sl 3 f2)) : PSz 84 (.st [.i .i64 f0, .s f1, .sl 3 f2]) := by
  intro left hl0 hl1
  have hW : W (.st [.i .i64 f0, .s f1, .sl 3 f2]) = 0 + (f1.length + (W (U.sl 3 f2) + 0)) := rfl
  have hb1 : f1.length ≤ 140737488355328 := by rw [big_eq] at h1; exact h1
  refine SpecP_intro Tryz.func84 rfl (by kernel_rfl) rfl fun A _ => ?_
  refine gGO ?_
  refine V_cond rfl (fun hc => ?_) (fun hc => ?_)
  · refine V_seq_region ?_
    refine gGO ?_
    refine V_ret ?_
    simp only [decide_eq_true_eq] at hc
    exact ⟨trivial, ⟨_, rfl, congrArg (U.i .i64) (by rw [if_neg (by omega)])⟩, trivial⟩
  refine V_skip ?_
  simp only [decide_eq_false_iff_not] at hc
  refine gGO ?_
  refine VO_q (Q_call rfl (h2 (left - (f1.length : Int)) (by omega) (by omega)) vA) rfl ?_
  refine gGO ?_
  refine V_cond rfl (fun hc => ?_) (fun hc => ?_)
  · refine V_seq_region ?_
    refine gGO ?_
    refine V_ret ?_
    simp only [decide_eq_true_eq] at hc
    exact ⟨trivial, ⟨_, rfl, congrArg (U.i .i64) (by split at hc <;> (rw [if_neg (by omega)]))⟩, trivial⟩
  refine V_skip ?_
  simp only [decide_eq_false_iff_not] at hc
  have hpos2 := hc
  have heq : ∀ (c : Prop) [Decidable c] (a : Int), ¬ (if c then a else -1) < 0 → (if c then a else -1) = a ∧ c := by
    intro c _ a h
    split at h
    · rename_i hc; exact ⟨if_pos hc, hc⟩
    · omega
  obtain ⟨e2, c2⟩ := heq _ _ hc
  rw [e2]
  clear heq hc
  refine gGO ?_
  refine V_ret ?_
  exact ⟨trivial, ⟨_, rfl, congrArg (U.i .i64) (by rw [if_pos (by omega)]; omega)⟩, trivial⟩
theorem szTypeS_step {us : List U} (hl : us.length ≤ big) (hz : ∀ a ∈ us, a.isSt = true ∧ a.sz = 3) (ih : ∀ a ∈ us, PSz 84 a) : PSz 141 (.sl 3 us) := by
  intro left hl0 hl1
  have hW : W (.sl 3 us) = us.length + Ws us := rfl
  have hb : (us.length : Int) ≤ 140737488355328 := by rw [big_eq] at hl; omega
  refine SpecP_intro Tryz.func141 rfl (by kernel_rfl) rfl fun A _ => ?_
  refine gGO ?_
  refine V_cond rfl (fun hc => ?_) (fun hc => ?_)
  · refine V_seq_region ?_
    refine gGO ?_
    refine V_ret ?_
    simp only [decide_eq_true_eq] at hc
    exact ⟨trivial, ⟨_, rfl, congrArg (U.i .i64) (by rw [if_neg (by omega)])⟩, trivial⟩
  refine V_skip ?_
  simp only [decide_eq_false_iff_not] at hc
  refine gGO ?_
  refine V_block ?_
  refine V_loop (α := Nat × Int)
    (fun x => ⟨[(0, .d (.sl 3 us)), (5, .d (.i .i64 x.1)), (1, .d (.i .i64 x.2))], [], Tryz.f141.ntmps⟩)
    (fun x => x.1 ≤ us.length ∧ 0 ≤ x.2 ∧ x.2 = left - us.length - Ws (us.take x.1))
    (fun x => us.length - x.1) (0, left - us.length) ⟨rfl, ⟨⟨rfl, rfl⟩, ⟨rfl, rfl⟩, ⟨rfl, rfl⟩, trivial⟩, ⟨[], rfl⟩, rfl⟩ ⟨by simp, by simp only; omega, by simp [Ws]⟩ ?_
  rintro ⟨k, l⟩ ⟨hk, hq0, hq1⟩
  simp only at hk hq0 hq1
  refine gGO ?_
  refine V_cond rfl (fun hc2 => ?_) (fun hc2 => ?_)
  · refine V_skip ?_
    simp only [decide_eq_true_eq] at hc2
    have hkl : k < us.length := by omega
    have hget : us[k]? = some us[k] := List.getElem?_eq_getElem hkl
    have hmem : us[k] ∈ us := List.getElem_mem hkl
    have htk := Ws_take_succ hget
    have hle := Ws_take_le us (k + 1)
    obtain ⟨hst, hsz⟩ := hz _ hmem
    refine V_seq (V_block (V_seq_region ?_))
    refine gGO ?_
    refine VO_q (Q_index rfl rfl TE.h TI.h (by omega) hget) rfl ?_
    refine VO_q (Q_load rfl TI.h hst hsz) rfl ?_
    refine gGO ?_
    refine VO_q (Q_call rfl (ih _ hmem l (by omega) (by omega)) vA) rfl ?_
    refine gGO ?_
    refine V_cond rfl (fun hc3 => ?_) (fun hc3 => ?_)
    · refine V_seq_region ?_
      refine gGO ?_
      refine V_ret ?_
      simp only [decide_eq_true_eq] at hc3
      exact ⟨trivial, ⟨_, rfl, congrArg (U.i .i64) (by
        rw [if_neg (by intro hle2; rw [if_pos (by omega)] at hc3; omega)])⟩, trivial⟩
    refine V_skip ?_
    simp only [decide_eq_false_iff_not] at hc3
    refine gGO ?_
    refine ⟨(k + 1, (if (W us[k] : Int) ≤ l then l - W us[k] else -1)), ?_, ?_, ⟨rfl, ⟨⟨rfl, rfl⟩, ⟨rfl, rfl⟩, ⟨rfl, rfl⟩, trivial⟩, ⟨[], rfl⟩, rfl⟩⟩
    · simp only
      refine ⟨by omega, by omega, ?_⟩
      rw [if_pos (by apply Classical.byContradiction; intro hn; rw [if_neg hn] at hc3; omega)]
      omega
    · simp only
      omega
  · refine V_exit ?_
    simp only [decide_eq_false_iff_not] at hc2
    have hkl : k = us.length := by omega
    subst hkl
    rw [List.take_length] at hq1
    show V _ _ _ _ _
    refine gGO ?_
    refine V_ret ?_
    exact ⟨trivial, ⟨_, rfl, congrArg (U.i .i64) (by rw [if_pos (by omega)]; omega)⟩, trivial⟩
theorem szType_grp (u : U) : (wt (.st 1) u → PSz 84 u) := by
  refine U.ind (M := fun u => (wt (.st 1) u → PSz 84 u)) (fun u ih => ?_) u
  refine ?_
  · intro h
    obtain ⟨f0, f1, f2, rfl, p0, p1, p2⟩ := inv_Type h
    exact szType_step p1 (szTypeS_step p2.1 (fun a ha => ⟨wt_isSt (p2.2 a ha), by rw [wt_sz a _ (p2.2 a ha)]; rfl⟩) (fun a ha => (ih a (by have := nn_of_mem ha; simp only [U.nn, U.nns]; omega)) (p2.2 a ha)))
theorem szType_all {u : U} (h : wt (.st 1) u) : PSz 84 u := (szType_grp u) h
theorem szTypeS_all {us : List U} (h : us.length ≤ big ∧ ∀ x ∈ us, wt (.st 1) x) : PSz 141 (.sl 3 us) := szTypeS_step h.1 (fun a ha => ⟨wt_isSt (h.2 a ha), by rw [wt_sz a _ (h.2 a ha)]; rfl⟩) (fun a ha => szType_all (h.2 a ha))
theorem szStringS_step {us : List U} (hl : us.length ≤ big) (hz : ∀ a ∈ us, ∃ l : List UInt8, a = .s l ∧ l.length ≤ big) : PSz 81 (.sl 1 us) := by
  intro left hl0 hl1
  have hW : W (.sl 1 us) = us.length + Ws us := rfl
  have hb : (us.length : Int) ≤ 140737488355328 := by rw [big_eq] at hl; omega
  refine SpecP_intro Tryz.func81 rfl (by kernel_rfl) rfl fun A _ => ?_
  refine gGO ?_
  refine V_cond rfl (fun hc => ?_) (fun hc => ?_)
  · refine V_seq_region ?_
    refine gGO ?_
    refine V_ret ?_
    simp only [decide_eq_true_eq] at hc
    exact ⟨trivial, ⟨_, rfl, congrArg (U.i .i64) (by rw [if_neg (by omega)])⟩, trivial⟩
  refine V_skip ?_
  simp only [decide_eq_false_iff_not] at hc
  refine gGO ?_
  refine V_block ?_
  refine V_loop (α := Nat × Int)
    (fun x => ⟨[(0, .d (.sl 1 us)), (5, .d (.i .i64 x.1)), (1, .d (.i .i64 x.2))], [], Tryz.f81.ntmps⟩)
    (fun x => x.1 ≤ us.length ∧ 0 ≤ x.2 ∧ x.2 = left - us.length - Ws (us.take x.1))
    (fun x => us.length - x.1) (0, left - us.length) ⟨rfl, ⟨⟨rfl, rfl⟩, ⟨rfl, rfl⟩, ⟨rfl, rfl⟩, trivial⟩, ⟨[], rfl⟩, rfl⟩ ⟨by simp, by simp only; omega, by simp [Ws]⟩ ?_
  rintro ⟨k, l⟩ ⟨hk, hq0, hq1⟩
  simp only at hk hq0 hq1
  refine gGO ?_
  refine V_cond rfl (fun hc2 => ?_) (fun hc2 => ?_)
  · refine V_skip ?_
    simp only [decide_eq_true_eq] at hc2
    have hkl : k < us.length := by omega
    have hget : us[k]? = some us[k] := List.getElem?_eq_getElem hkl
    have hmem : us[k] ∈ us := List.getElem_mem hkl
    have htk := Ws_take_succ hget
    have hle := Ws_take_le us (k + 1)
    obtain ⟨sl, hsl, hsb⟩ := hz _ hmem
    have hget' : us[k]? = some (.s sl) := by rw [hget, hsl]
    have hW : W us[k] = sl.length := by rw [hsl]; rfl
    have hsb' : sl.length ≤ 140737488355328 := by rw [big_eq] at hsb; exact hsb
    refine V_seq (V_block (V_seq_region ?_))
    refine gGO ?_
    refine VO_q (Q_index rfl rfl TE.h TI.h (by omega) hget') rfl ?_
    refine gGO ?_
    refine V_cond rfl (fun hc3 => ?_) (fun hc3 => ?_)
    · refine V_seq_region ?_
      refine gGO ?_
      refine V_ret ?_
      simp only [decide_eq_true_eq] at hc3
      exact ⟨trivial, ⟨_, rfl, congrArg (U.i .i64) (by
        rw [if_neg (by omega)])⟩, trivial⟩
    refine V_skip ?_
    simp only [decide_eq_false_iff_not] at hc3
    refine gGO ?_
    refine ⟨(k + 1, (l - sl.length)), ?_, ?_, ⟨rfl, ⟨⟨rfl, rfl⟩, ⟨rfl, rfl⟩, ⟨rfl, rfl⟩, trivial⟩, ⟨[], rfl⟩, rfl⟩⟩
    · simp only
      refine ⟨by omega, by omega, ?_⟩
      skip
      omega
    · simp only
      omega
  · refine V_exit ?_
    simp only [decide_eq_false_iff_not] at hc2
    have hkl : k = us.length := by omega
    subst hkl
    rw [List.take_length] at hq1
    show V _ _ _ _ _
    refine gGO ?_
    refine V_ret ?_
    exact ⟨trivial, ⟨_, rfl, congrArg (U.i .i64) (by rw [if_pos (by omega)]; omega)⟩, trivial⟩
theorem szStringS_all {us : List U} (h : us.length ≤ big ∧ ∀ x ∈ us, wt .str x) : PSz 81 (.sl 1 us) := szStringS_step h.1 (fun a ha => inv_str (h.2 a ha))
theorem szArm_step {f0 : List UInt8} {f1 : List U} {f2 : U} (h0 : f0.length ≤ big) (h1 : PSz 81 (.sl 1 f1)) (g2 : wt (.st 4) f2) (h2 : PSz 187 f2) : PSz 212 (.st [.s f0, .sl 1 f1, f2]) := by
  intro left hl0 hl1
  have hW : W (.st [.s f0, .sl 1 f1, f2]) = f0.length + (W (U.sl 1 f1) + (W f2 + 0)) := rfl
  have hb0 : f0.length ≤ 140737488355328 := by rw [big_eq] at h0; exact h0
  obtain ⟨m2, hm2⟩ : ∃ m, W f2 = m := ⟨_, rfl⟩
  rw [hm2] at hW
  have h2 : ∀ l : Int, 0 ≤ l → l ≤ 4611686018427387904 → SpecP Tryz.prog 187 [.d f2, .d (.i .i64 l)] [.i .i64 (if (m2 : Int) ≤ l then l - m2 else -1)] := by rw [← hm2]; exact h2
  obtain ⟨e1_0, e1_1, e1_2, e1_3, e1_4, e1_5, e1_6, rfl, g1_0, g1_1, g1_2, g1_3, g1_4, g1_5, g1_6⟩ := inv_Expr g2
  obtain ⟨e2_0, e2_1, e2_2, rfl, g2_0, g2_1, g2_2⟩ := inv_Type g1_4
  refine SpecP_intro Tryz.func212 rfl (by kernel_rfl) rfl fun A _ => ?_
  refine gGO ?_
  refine V_cond rfl (fun hc => ?_) (fun hc => ?_)
  · refine V_seq_region ?_
    refine gGO ?_
    refine V_ret ?_
    simp only [decide_eq_true_eq] at hc
    exact ⟨trivial, ⟨_, rfl, congrArg (U.i .i64) (by rw [if_neg (by omega)])⟩, trivial⟩
  refine V_skip ?_
  simp only [decide_eq_false_iff_not] at hc
  refine gGO ?_
  refine VO_q (Q_call rfl (h1 (left - (f0.length : Int)) (by omega) (by omega)) vA) rfl ?_
  refine gGO ?_
  refine V_cond rfl (fun hc => ?_) (fun hc => ?_)
  · refine V_seq_region ?_
    refine gGO ?_
    refine V_ret ?_
    simp only [decide_eq_true_eq] at hc
    exact ⟨trivial, ⟨_, rfl, congrArg (U.i .i64) (by split at hc <;> (rw [if_neg (by omega)]))⟩, trivial⟩
  refine V_skip ?_
  simp only [decide_eq_false_iff_not] at hc
  have hpos1 := hc
  have heq : ∀ (c : Prop) [Decidable c] (a : Int), ¬ (if c then a else -1) < 0 → (if c then a else -1) = a ∧ c := by
    intro c _ a h
    split at h
    · rename_i hc; exact ⟨if_pos hc, hc⟩
    · omega
  obtain ⟨e1, c1⟩ := heq _ _ hc
  rw [e1]
  clear heq hc
  refine gGO ?_
  refine VO_q (Q_call rfl (h2 ((left - (f0.length : Int)) - (W (U.sl 1 f1) : Int)) (by omega) (by omega)) vA) rfl ?_
  refine gGO ?_
  refine V_cond rfl (fun hc => ?_) (fun hc => ?_)
  · refine V_seq_region ?_
    refine gGO ?_
    refine V_ret ?_
    simp only [decide_eq_true_eq] at hc
    exact ⟨trivial, ⟨_, rfl, congrArg (U.i .i64) (by split at hc <;> (rw [if_neg (by omega)]))⟩, trivial⟩
  refine V_skip ?_
  simp only [decide_eq_false_iff_not] at hc
  have hpos2 := hc
  have heq : ∀ (c : Prop) [Decidable c] (a : Int), ¬ (if c then a else -1) < 0 → (if c then a else -1) = a ∧ c := by
    intro c _ a h
    split at h
    · rename_i hc; exact ⟨if_pos hc, hc⟩
    · omega
  obtain ⟨e2, c2⟩ := heq _ _ hc
  rw [e2]
  clear heq hc
  refine gGO ?_
  refine V_ret ?_
  exact ⟨trivial, ⟨_, rfl, congrArg (U.i .i64) (by rw [if_pos (by omega)]; omega)⟩, trivial⟩
theorem szArmS_step {us : List U} (hl : us.length ≤ big) (hz : ∀ a ∈ us, a.isSt = true ∧ a.sz = 11) (ih : ∀ a ∈ us, PSz 212 a) : PSz 201 (.sl 11 us) := by
  intro left hl0 hl1
  have hW : W (.sl 11 us) = us.length + Ws us := rfl
  have hb : (us.length : Int) ≤ 140737488355328 := by rw [big_eq] at hl; omega
  refine SpecP_intro Tryz.func201 rfl (by kernel_rfl) rfl fun A _ => ?_
  refine gGO ?_
  refine V_cond rfl (fun hc => ?_) (fun hc => ?_)
  · refine V_seq_region ?_
    refine gGO ?_
    refine V_ret ?_
    simp only [decide_eq_true_eq] at hc
    exact ⟨trivial, ⟨_, rfl, congrArg (U.i .i64) (by rw [if_neg (by omega)])⟩, trivial⟩
  refine V_skip ?_
  simp only [decide_eq_false_iff_not] at hc
  refine gGO ?_
  refine V_block ?_
  refine V_loop (α := Nat × Int)
    (fun x => ⟨[(0, .d (.sl 11 us)), (5, .d (.i .i64 x.1)), (1, .d (.i .i64 x.2))], [], Tryz.f201.ntmps⟩)
    (fun x => x.1 ≤ us.length ∧ 0 ≤ x.2 ∧ x.2 = left - us.length - Ws (us.take x.1))
    (fun x => us.length - x.1) (0, left - us.length) ⟨rfl, ⟨⟨rfl, rfl⟩, ⟨rfl, rfl⟩, ⟨rfl, rfl⟩, trivial⟩, ⟨[], rfl⟩, rfl⟩ ⟨by simp, by simp only; omega, by simp [Ws]⟩ ?_
  rintro ⟨k, l⟩ ⟨hk, hq0, hq1⟩
  simp only at hk hq0 hq1
  refine gGO ?_
  refine V_cond rfl (fun hc2 => ?_) (fun hc2 => ?_)
  · refine V_skip ?_
    simp only [decide_eq_true_eq] at hc2
    have hkl : k < us.length := by omega
    have hget : us[k]? = some us[k] := List.getElem?_eq_getElem hkl
    have hmem : us[k] ∈ us := List.getElem_mem hkl
    have htk := Ws_take_succ hget
    have hle := Ws_take_le us (k + 1)
    obtain ⟨hst, hsz⟩ := hz _ hmem
    refine V_seq (V_block (V_seq_region ?_))
    refine gGO ?_
    refine VO_q (Q_index rfl rfl TE.h TI.h (by omega) hget) rfl ?_
    refine VO_q (Q_load rfl TI.h hst hsz) rfl ?_
    refine gGO ?_
    refine VO_q (Q_call rfl (ih _ hmem l (by omega) (by omega)) vA) rfl ?_
    refine gGO ?_
    refine V_cond rfl (fun hc3 => ?_) (fun hc3 => ?_)
    · refine V_seq_region ?_
      refine gGO ?_
      refine V_ret ?_
      simp only [decide_eq_true_eq] at hc3
      exact ⟨trivial, ⟨_, rfl, congrArg (U.i .i64) (by
        rw [if_neg (by intro hle2; rw [if_pos (by omega)] at hc3; omega)])⟩, trivial⟩
    refine V_skip ?_
    simp only [decide_eq_false_iff_not] at hc3
    refine gGO ?_
    refine ⟨(k + 1, (if (W us[k] : Int) ≤ l then l - W us[k] else -1)), ?_, ?_, ⟨rfl, ⟨⟨rfl, rfl⟩, ⟨rfl, rfl⟩, ⟨rfl, rfl⟩, trivial⟩, ⟨[], rfl⟩, rfl⟩⟩
    · simp only
      refine ⟨by omega, by omega, ?_⟩
      rw [if_pos (by apply Classical.byContradiction; intro hn; rw [if_neg hn] at hc3; omega)]
      omega
    · simp only
      omega
  · refine V_exit ?_
    simp only [decide_eq_false_iff_not] at hc2
    have hkl : k = us.length := by omega
    subst hkl
    rw [List.take_length] at hq1
    show V _ _ _ _ _
    refine gGO ?_
    refine V_ret ?_
    exact ⟨trivial, ⟨_, rfl, congrArg (U.i .i64) (by rw [if_pos (by omega)]; omega)⟩, trivial⟩
theorem szExpr_step {f0 : Int} {f1 : List UInt8} {f2 : List UInt8} {f3 : Int} {f4 : U} {f5 : List U} {f6 : List U} (h1 : f1.length ≤ big) (h2 : f2.length ≤ big) (g4 : wt (.st 1) f4) (h4 : PSz 84 f4) (h5 : PSz 200 (.sl 9 f5)) (h6 : PSz 201 (.sl 11 f6)) : PSz 187 (.st [.i .i64 f0, .s f1, .s f2, .i .i64 f3, f4, .sl 9 f5, .sl 11 f6]) := by
  intro left hl0 hl1
  have hW : W (.st [.i .i64 f0, .s f1, .s f2, .i .i64 f3, f4, .sl 9 f5, .sl 11 f6]) = 0 + (f1.length + (f2.length + (0 + (W f4 + (W (U.sl 9 f5) + (W (U.sl 11 f6) + 0)))))) := rfl
  have hb1 : f1.length ≤ 140737488355328 := by rw [big_eq] at h1; exact h1
  have hb2 : f2.length ≤ 140737488355328 := by rw [big_eq] at h2; exact h2
  obtain ⟨m4, hm4⟩ : ∃ m, W f4 = m := ⟨_, rfl⟩
  rw [hm4] at hW
  have h4 : ∀ l : Int, 0 ≤ l → l ≤ 4611686018427387904 → SpecP Tryz.prog 84 [.d f4, .d (.i .i64 l)] [.i .i64 (if (m4 : Int) ≤ l then l - m4 else -1)] := by rw [← hm4]; exact h4
  obtain ⟨e3_0, e3_1, e3_2, rfl, g3_0, g3_1, g3_2⟩ := inv_Type g4
  refine SpecP_intro Tryz.func187 rfl (by kernel_rfl) rfl fun A _ => ?_
  refine gGO ?_
  refine V_cond rfl (fun hc => ?_) (fun hc => ?_)
  · refine V_seq_region ?_
    refine gGO ?_
    refine V_ret ?_
    simp only [decide_eq_true_eq] at hc
    exact ⟨trivial, ⟨_, rfl, congrArg (U.i .i64) (by rw [if_neg (by omega)])⟩, trivial⟩
  refine V_skip ?_
  simp only [decide_eq_false_iff_not] at hc
  refine gGO ?_
  refine V_cond rfl (fun hc => ?_) (fun hc => ?_)
  · refine V_seq_region ?_
    refine gGO ?_
    refine V_ret ?_
    simp only [decide_eq_true_eq] at hc
    exact ⟨trivial, ⟨_, rfl, congrArg (U.i .i64) (by rw [if_neg (by omega)])⟩, trivial⟩
  refine V_skip ?_
  simp only [decide_eq_false_iff_not] at hc
  refine gGO ?_
  refine VO_q (Q_call rfl (h4 ((left - (f1.length : Int)) - (f2.length : Int)) (by omega) (by omega)) vA) rfl ?_
  refine gGO ?_
  refine V_cond rfl (fun hc => ?_) (fun hc => ?_)
  · refine V_seq_region ?_
    refine gGO ?_
    refine V_ret ?_
    simp only [decide_eq_true_eq] at hc
    exact ⟨trivial, ⟨_, rfl, congrArg (U.i .i64) (by split at hc <;> (rw [if_neg (by omega)]))⟩, trivial⟩
  refine V_skip ?_
  simp only [decide_eq_false_iff_not] at hc
  have hpos4 := hc
  have heq : ∀ (c : Prop) [Decidable c] (a : Int), ¬ (if c then a else -1) < 0 → (if c then a else -1) = a ∧ c := by
    intro c _ a h
    split at h
    · rename_i hc; exact ⟨if_pos hc, hc⟩
    · omega
  obtain ⟨e4, c4⟩ := heq _ _ hc
  rw [e4]
  clear heq hc
  refine gGO ?_
  refine VO_q (Q_call rfl (h5 (((left - (f1.length : Int)) - (f2.length : Int)) - (m4 : Int)) (by omega) (by omega)) vA) rfl ?_
  refine gGO ?_
  refine V_cond rfl (fun hc => ?_) (fun hc => ?_)
  · refine V_seq_region ?_
    refine gGO ?_
    refine V_ret ?_
    simp only [decide_eq_true_eq] at hc
    exact ⟨trivial, ⟨_, rfl, congrArg (U.i .i64) (by split at hc <;> (rw [if_neg (by omega)]))⟩, trivial⟩
  refine V_skip ?_
  simp only [decide_eq_false_iff_not] at hc
  have hpos5 := hc
  have heq : ∀ (c : Prop) [Decidable c] (a : Int), ¬ (if c then a else -1) < 0 → (if c then a else -1) = a ∧ c := by
    intro c _ a h
    split at h
    · rename_i hc; exact ⟨if_pos hc, hc⟩
    · omega
  obtain ⟨e5, c5⟩ := heq _ _ hc
  rw [e5]
  clear heq hc
  refine gGO ?_
  refine VO_q (Q_call rfl (h6 ((((left - (f1.length : Int)) - (f2.length : Int)) - (m4 : Int)) - (W (U.sl 9 f5) : Int)) (by omega) (by omega)) vA) rfl ?_
  refine gGO ?_
  refine V_cond rfl (fun hc => ?_) (fun hc => ?_)
  · refine V_seq_region ?_
    refine gGO ?_
    refine V_ret ?_
    simp only [decide_eq_true_eq] at hc
    exact ⟨trivial, ⟨_, rfl, congrArg (U.i .i64) (by split at hc <;> (rw [if_neg (by omega)]))⟩, trivial⟩
  refine V_skip ?_
  simp only [decide_eq_false_iff_not] at hc
  have hpos6 := hc
  have heq : ∀ (c : Prop) [Decidable c] (a : Int), ¬ (if c then a else -1) < 0 → (if c then a else -1) = a ∧ c := by
    intro c _ a h
    split at h
    · rename_i hc; exact ⟨if_pos hc, hc⟩
    · omega
  obtain ⟨e6, c6⟩ := heq _ _ hc
  rw [e6]
  clear heq hc
  refine gGO ?_
  refine V_ret ?_
  exact ⟨trivial, ⟨_, rfl, congrArg (U.i .i64) (by rw [if_pos (by omega)]; omega)⟩, trivial⟩
theorem szExprS_step {us : List U} (hl : us.length ≤ big) (hz : ∀ a ∈ us, a.isSt = true ∧ a.sz = 9) (ih : ∀ a ∈ us, PSz 187 a) : PSz 200 (.sl 9 us) := by
  intro left hl0 hl1
  have hW : W (.sl 9 us) = us.length + Ws us := rfl
  have hb : (us.length : Int) ≤ 140737488355328 := by rw [big_eq] at hl; omega
  refine SpecP_intro Tryz.func200 rfl (by kernel_rfl) rfl fun A _ => ?_
  refine gGO ?_
  refine V_cond rfl (fun hc => ?_) (fun hc => ?_)
  · refine V_seq_region ?_
    refine gGO ?_
    refine V_ret ?_
    simp only [decide_eq_true_eq] at hc
    exact ⟨trivial, ⟨_, rfl, congrArg (U.i .i64) (by rw [if_neg (by omega)])⟩, trivial⟩
  refine V_skip ?_
  simp only [decide_eq_false_iff_not] at hc
  refine gGO ?_
  refine V_block ?_
  refine V_loop (α := Nat × Int)
    (fun x => ⟨[(0, .d (.sl 9 us)), (5, .d (.i .i64 x.1)), (1, .d (.i .i64 x.2))], [], Tryz.f200.ntmps⟩)
    (fun x => x.1 ≤ us.length ∧ 0 ≤ x.2 ∧ x.2 = left - us.length - Ws (us.take x.1))
    (fun x => us.length - x.1) (0, left - us.length) ⟨rfl, ⟨⟨rfl, rfl⟩, ⟨rfl, rfl⟩, ⟨rfl, rfl⟩, trivial⟩, ⟨[], rfl⟩, rfl⟩ ⟨by simp, by simp only; omega, by simp [Ws]⟩ ?_
  rintro ⟨k, l⟩ ⟨hk, hq0, hq1⟩
  simp only at hk hq0 hq1
  refine gGO ?_
  refine V_cond rfl (fun hc2 => ?_) (fun hc2 => ?_)
  · refine V_skip ?_
    simp only [decide_eq_true_eq] at hc2
    have hkl : k < us.length := by omega
    have hget : us[k]? = some us[k] := List.getElem?_eq_getElem hkl
    have hmem : us[k] ∈ us := List.getElem_mem hkl
    have htk := Ws_take_succ hget
    have hle := Ws_take_le us (k + 1)
    obtain ⟨hst, hsz⟩ := hz _ hmem
    refine V_seq (V_block (V_seq_region ?_))
    refine gGO ?_
    refine VO_q (Q_index rfl rfl TE.h TI.h (by omega) hget) rfl ?_
    refine VO_q (Q_load rfl TI.h hst hsz) rfl ?_
    refine gGO ?_
    refine VO_q (Q_call rfl (ih _ hmem l (by omega) (by omega)) vA) rfl ?_
    refine gGO ?_
    refine V_cond rfl (fun hc3 => ?_) (fun hc3 => ?_)
    · refine V_seq_region ?_
      refine gGO ?_
      refine V_ret ?_
      simp only [decide_eq_true_eq] at hc3
      exact ⟨trivial, ⟨_, rfl, congrArg (U.i .i64) (by
        rw [if_neg (by intro hle2; rw [if_pos (by omega)] at hc3; omega)])⟩, trivial⟩
    refine V_skip ?_
    simp only [decide_eq_false_iff_not] at hc3
    refine gGO ?_
    refine ⟨(k + 1, (if (W us[k] : Int) ≤ l then l - W us[k] else -1)), ?_, ?_, ⟨rfl, ⟨⟨rfl, rfl⟩, ⟨rfl, rfl⟩, ⟨rfl, rfl⟩, trivial⟩, ⟨[], rfl⟩, rfl⟩⟩
    · simp only
      refine ⟨by omega, by omega, ?_⟩
      rw [if_pos (by apply Classical.byContradiction; intro hn; rw [if_neg hn] at hc3; omega)]
      omega
    · simp only
      omega
  · refine V_exit ?_
    simp only [decide_eq_false_iff_not] at hc2
    have hkl : k = us.length := by omega
    subst hkl
    rw [List.take_length] at hq1
    show V _ _ _ _ _
    refine gGO ?_
    refine V_ret ?_
    exact ⟨trivial, ⟨_, rfl, congrArg (U.i .i64) (by rw [if_pos (by omega)]; omega)⟩, trivial⟩
theorem szArmExpr_grp (u : U) : (wt (.st 3) u → PSz 212 u) ∧ (wt (.st 4) u → PSz 187 u) := by
  refine U.ind (M := fun u => (wt (.st 3) u → PSz 212 u) ∧ (wt (.st 4) u → PSz 187 u)) (fun u ih => ?_) u
  refine ⟨?_, ?_⟩
  · intro h
    obtain ⟨f0, f1, f2, rfl, p0, p1, p2⟩ := inv_Arm h
    exact szArm_step p0 (szStringS_all p1) p2 ((ih f2 (by simp only [U.nn, U.nns]; omega)).2 p2)
  · intro h
    obtain ⟨f0, f1, f2, f3, f4, f5, f6, rfl, p0, p1, p2, p3, p4, p5, p6⟩ := inv_Expr h
    exact szExpr_step p1 p2 p4 (szType_all p4) (szExprS_step p5.1 (fun a ha => ⟨wt_isSt (p5.2 a ha), by rw [wt_sz a _ (p5.2 a ha)]; rfl⟩) (fun a ha => (ih a (by have := nn_of_mem ha; simp only [U.nn, U.nns]; omega)).2 (p5.2 a ha))) (szArmS_step p6.1 (fun a ha => ⟨wt_isSt (p6.2 a ha), by rw [wt_sz a _ (p6.2 a ha)]; rfl⟩) (fun a ha => (ih a (by have := nn_of_mem ha; simp only [U.nn, U.nns]; omega)).1 (p6.2 a ha)))
theorem szExpr_all {u : U} (h : wt (.st 4) u) : PSz 187 u := (szArmExpr_grp u).2 h
theorem szSignature_step {f0 : List UInt8} {f1 : List U} {f2 : U} {f3 : Bool} {f4 : List U} {f5 : U} (h0 : f0.length ≤ big) (h1 : PSz 141 (.sl 3 f1)) (g2 : wt (.st 1) f2) (h2 : PSz 84 f2) (h4 : PSz 81 (.sl 1 f4)) (g5 : wt (.st 4) f5) (h5 : PSz 187 f5) : PSz 197 (.st [.s f0, .sl 3 f1, f2, .b f3, .sl 1 f4, f5]) := by
  intro left hl0 hl1
  have hW : W (.st [.s f0, .sl 3 f1, f2, .b f3, .sl 1 f4, f5]) = f0.length + (W (U.sl 3 f1) + (W f2 + (0 + (W (U.sl 1 f4) + (W f5 + 0))))) := rfl
  have hb0 : f0.length ≤ 140737488355328 := by rw [big_eq] at h0; exact h0
  obtain ⟨m2, hm2⟩ : ∃ m, W f2 = m := ⟨_, rfl⟩
  rw [hm2] at hW
  have h2 : ∀ l : Int, 0 ≤ l → l ≤ 4611686018427387904 → SpecP Tryz.prog 84 [.d f2, .d (.i .i64 l)] [.i .i64 (if (m2 : Int) ≤ l then l - m2 else -1)] := by rw [← hm2]; exact h2
  obtain ⟨e4_0, e4_1, e4_2, rfl, g4_0, g4_1, g4_2⟩ := inv_Type g2
  obtain ⟨m5, hm5⟩ : ∃ m, W f5 = m := ⟨_, rfl⟩
  rw [hm5] at hW
  have h5 : ∀ l : Int, 0 ≤ l → l ≤ 4611686018427387904 → SpecP Tryz.prog 187 [.d f5, .d (.i .i64 l)] [.i .i64 (if (m5 : Int) ≤ l then l - m5 else -1)] := by rw [← hm5]; exact h5
  obtain ⟨e5_0, e5_1, e5_2, e5_3, e5_4, e5_5, e5_6, rfl, g5_0, g5_1, g5_2, g5_3, g5_4, g5_5, g5_6⟩ := inv_Expr g5
  obtain ⟨e6_0, e6_1, e6_2, rfl, g6_0, g6_1, g6_2⟩ := inv_Type g5_4
  refine SpecP_intro Tryz.func197 rfl (by kernel_rfl) rfl fun A _ => ?_
  refine gGO ?_
  refine V_cond rfl (fun hc => ?_) (fun hc => ?_)
  · refine V_seq_region ?_
    refine gGO ?_
    refine V_ret ?_
    simp only [decide_eq_true_eq] at hc
    exact ⟨trivial, ⟨_, rfl, congrArg (U.i .i64) (by rw [if_neg (by omega)])⟩, trivial⟩
  refine V_skip ?_
  simp only [decide_eq_false_iff_not] at hc
  refine gGO ?_
  refine VO_q (Q_call rfl (h1 (left - (f0.length : Int)) (by omega) (by omega)) vA) rfl ?_
  refine gGO ?_
  refine V_cond rfl (fun hc => ?_) (fun hc => ?_)
  · refine V_seq_region ?_
    refine gGO ?_
    refine V_ret ?_
    simp only [decide_eq_true_eq] at hc
    exact ⟨trivial, ⟨_, rfl, congrArg (U.i .i64) (by split at hc <;> (rw [if_neg (by omega)]))⟩, trivial⟩
  refine V_skip ?_
  simp only [decide_eq_false_iff_not] at hc
  have hpos1 := hc
  have heq : ∀ (c : Prop) [Decidable c] (a : Int), ¬ (if c then a else -1) < 0 → (if c then a else -1) = a ∧ c := by
    intro c _ a h
    split at h
    · rename_i hc; exact ⟨if_pos hc, hc⟩
    · omega
  obtain ⟨e1, c1⟩ := heq _ _ hc
  rw [e1]
  clear heq hc
  refine gGO ?_
  refine VO_q (Q_call rfl (h2 ((left - (f0.length : Int)) - (W (U.sl 3 f1) : Int)) (by omega) (by omega)) vA) rfl ?_
  refine gGO ?_
  refine V_cond rfl (fun hc => ?_) (fun hc => ?_)
  · refine V_seq_region ?_
    refine gGO ?_
    refine V_ret ?_
    simp only [decide_eq_true_eq] at hc
    exact ⟨trivial, ⟨_, rfl, congrArg (U.i .i64) (by split at hc <;> (rw [if_neg (by omega)]))⟩, trivial⟩
  refine V_skip ?_
  simp only [decide_eq_false_iff_not] at hc
  have hpos2 := hc
  have heq : ∀ (c : Prop) [Decidable c] (a : Int), ¬ (if c then a else -1) < 0 → (if c then a else -1) = a ∧ c := by
    intro c _ a h
    split at h
    · rename_i hc; exact ⟨if_pos hc, hc⟩
    · omega
  obtain ⟨e2, c2⟩ := heq _ _ hc
  rw [e2]
  clear heq hc
  refine gGO ?_
  refine VO_q (Q_call rfl (h4 (((left - (f0.length : Int)) - (W (U.sl 3 f1) : Int)) - (m2 : Int)) (by omega) (by omega)) vA) rfl ?_
  refine gGO ?_
  refine V_cond rfl (fun hc => ?_) (fun hc => ?_)
  · refine V_seq_region ?_
    refine gGO ?_
    refine V_ret ?_
    simp only [decide_eq_true_eq] at hc
    exact ⟨trivial, ⟨_, rfl, congrArg (U.i .i64) (by split at hc <;> (rw [if_neg (by omega)]))⟩, trivial⟩
  refine V_skip ?_
  simp only [decide_eq_false_iff_not] at hc
  have hpos4 := hc
  have heq : ∀ (c : Prop) [Decidable c] (a : Int), ¬ (if c then a else -1) < 0 → (if c then a else -1) = a ∧ c := by
    intro c _ a h
    split at h
    · rename_i hc; exact ⟨if_pos hc, hc⟩
    · omega
  obtain ⟨e4, c4⟩ := heq _ _ hc
  rw [e4]
  clear heq hc
  refine gGO ?_
  refine VO_q (Q_call rfl (h5 ((((left - (f0.length : Int)) - (W (U.sl 3 f1) : Int)) - (m2 : Int)) - (W (U.sl 1 f4) : Int)) (by omega) (by omega)) vA) rfl ?_
  refine gGO ?_
  refine V_cond rfl (fun hc => ?_) (fun hc => ?_)
  · refine V_seq_region ?_
    refine gGO ?_
    refine V_ret ?_
    simp only [decide_eq_true_eq] at hc
    exact ⟨trivial, ⟨_, rfl, congrArg (U.i .i64) (by split at hc <;> (rw [if_neg (by omega)]))⟩, trivial⟩
  refine V_skip ?_
  simp only [decide_eq_false_iff_not] at hc
  have hpos5 := hc
  have heq : ∀ (c : Prop) [Decidable c] (a : Int), ¬ (if c then a else -1) < 0 → (if c then a else -1) = a ∧ c := by
    intro c _ a h
    split at h
    · rename_i hc; exact ⟨if_pos hc, hc⟩
    · omega
  obtain ⟨e5, c5⟩ := heq _ _ hc
  rw [e5]
  clear heq hc
  refine gGO ?_
  refine V_ret ?_
  exact ⟨trivial, ⟨_, rfl, congrArg (U.i .i64) (by rw [if_pos (by omega)]; omega)⟩, trivial⟩
theorem szSignatureS_step {us : List U} (hl : us.length ≤ big) (hz : ∀ a ∈ us, a.isSt = true ∧ a.sz = 16) (ih : ∀ a ∈ us, PSz 197 a) : PSz 184 (.sl 16 us) := by
  intro left hl0 hl1
  have hW : W (.sl 16 us) = us.length + Ws us := rfl
  have hb : (us.length : Int) ≤ 140737488355328 := by rw [big_eq] at hl; omega
  refine SpecP_intro Tryz.func184 rfl (by kernel_rfl) rfl fun A _ => ?_
  refine gGO ?_
  refine V_cond rfl (fun hc => ?_) (fun hc => ?_)
  · refine V_seq_region ?_
    refine gGO ?_
    refine V_ret ?_
    simp only [decide_eq_true_eq] at hc
    exact ⟨trivial, ⟨_, rfl, congrArg (U.i .i64) (by rw [if_neg (by omega)])⟩, trivial⟩
  refine V_skip ?_
  simp only [decide_eq_false_iff_not] at hc
  refine gGO ?_
  refine V_block ?_
  refine V_loop (α := Nat × Int)
    (fun x => ⟨[(0, .d (.sl 16 us)), (5, .d (.i .i64 x.1)), (1, .d (.i .i64 x.2))], [], Tryz.f184.ntmps⟩)
    (fun x => x.1 ≤ us.length ∧ 0 ≤ x.2 ∧ x.2 = left - us.length - Ws (us.take x.1))
    (fun x => us.length - x.1) (0, left - us.length) ⟨rfl, ⟨⟨rfl, rfl⟩, ⟨rfl, rfl⟩, ⟨rfl, rfl⟩, trivial⟩, ⟨[], rfl⟩, rfl⟩ ⟨by simp, by simp only; omega, by simp [Ws]⟩ ?_
  rintro ⟨k, l⟩ ⟨hk, hq0, hq1⟩
  simp only at hk hq0 hq1
  refine gGO ?_
  refine V_cond rfl (fun hc2 => ?_) (fun hc2 => ?_)
  · refine V_skip ?_
    simp only [decide_eq_true_eq] at hc2
    have hkl : k < us.length := by omega
    have hget : us[k]? = some us[k] := List.getElem?_eq_getElem hkl
    have hmem : us[k] ∈ us := List.getElem_mem hkl
    have htk := Ws_take_succ hget
    have hle := Ws_take_le us (k + 1)
    obtain ⟨hst, hsz⟩ := hz _ hmem
    refine V_seq (V_block (V_seq_region ?_))
    refine gGO ?_
    refine VO_q (Q_index rfl rfl TE.h TI.h (by omega) hget) rfl ?_
    refine VO_q (Q_load rfl TI.h hst hsz) rfl ?_
    refine gGO ?_
    refine VO_q (Q_call rfl (ih _ hmem l (by omega) (by omega)) vA) rfl ?_
    refine gGO ?_
    refine V_cond rfl (fun hc3 => ?_) (fun hc3 => ?_)
    · refine V_seq_region ?_
      refine gGO ?_
      refine V_ret ?_
      simp only [decide_eq_true_eq] at hc3
      exact ⟨trivial, ⟨_, rfl, congrArg (U.i .i64) (by
        rw [if_neg (by intro hle2; rw [if_pos (by omega)] at hc3; omega)])⟩, trivial⟩
    refine V_skip ?_
    simp only [decide_eq_false_iff_not] at hc3
    refine gGO ?_
    refine ⟨(k + 1, (if (W us[k] : Int) ≤ l then l - W us[k] else -1)), ?_, ?_, ⟨rfl, ⟨⟨rfl, rfl⟩, ⟨rfl, rfl⟩, ⟨rfl, rfl⟩, trivial⟩, ⟨[], rfl⟩, rfl⟩⟩
    · simp only
      refine ⟨by omega, by omega, ?_⟩
      rw [if_pos (by apply Classical.byContradiction; intro hn; rw [if_neg hn] at hc3; omega)]
      omega
    · simp only
      omega
  · refine V_exit ?_
    simp only [decide_eq_false_iff_not] at hc2
    have hkl : k = us.length := by omega
    subst hkl
    rw [List.take_length] at hq1
    show V _ _ _ _ _
    refine gGO ?_
    refine V_ret ?_
    exact ⟨trivial, ⟨_, rfl, congrArg (U.i .i64) (by rw [if_pos (by omega)]; omega)⟩, trivial⟩
theorem szSignature_grp (u : U) : (wt (.st 5) u → PSz 197 u) := by
  refine U.ind (M := fun u => (wt (.st 5) u → PSz 197 u)) (fun u ih => ?_) u
  refine ?_
  · intro h
    obtain ⟨f0, f1, f2, f3, f4, f5, rfl, p0, p1, p2, p4, p5⟩ := inv_Signature h
    exact szSignature_step p0 (szTypeS_all p1) p2 (szType_all p2) (szStringS_all p4) p5 (szExpr_all p5)
theorem szSignature_all {u : U} (h : wt (.st 5) u) : PSz 197 u := (szSignature_grp u) h
theorem szSignatureS_all {us : List U} (h : us.length ≤ big ∧ ∀ x ∈ us, wt (.st 5) x) : PSz 184 (.sl 16 us) := szSignatureS_step h.1 (fun a ha => ⟨wt_isSt (h.2 a ha), by rw [wt_sz a _ (h.2 a ha)]; rfl⟩) (fun a ha => szSignature_all (h.2 a ha))
theorem szTrait_step {f0 : List UInt8} {f1 : List U} {f2 : Bool} {f3 : Bool} {f4 : List U} (h0 : f0.length ≤ big) (h1 : PSz 81 (.sl 1 f1)) (h4 : PSz 184 (.sl 16 f4)) : PSz 157 (.st [.s f0, .sl 1 f1, .b f2, .b f3, .sl 16 f4]) := by
  intro left hl0 hl1
  have hW : W (.st [.s f0, .sl 1 f1, .b f2, .b f3, .sl 16 f4]) = f0.length + (W (U.sl 1 f1) + (0 + (0 + (W (U.sl 16 f4) + 0)))) := rfl
  have hb0 : f0.length ≤ 140737488355328 := by rw [big_eq] at h0; exact h0
  refine SpecP_intro Tryz.func157 rfl (by kernel_rfl) rfl fun A _ => ?_
  refine gGO ?_
  refine V_cond rfl (fun hc => ?_) (fun hc => ?_)
  · refine V_seq_region ?_
    refine gGO ?_
    refine V_ret ?_
    simp only [decide_eq_true_eq] at hc
    exact ⟨trivial, ⟨_, rfl, congrArg (U.i .i64) (by rw [if_neg (by omega)])⟩, trivial⟩
  refine V_skip ?_
  simp only [decide_eq_false_iff_not] at hc
  refine gGO ?_
  refine VO_q (Q_call rfl (h1 (left - (f0.length : Int)) (by omega) (by omega)) vA) rfl ?_
  refine gGO ?_
  refine V_cond rfl (fun hc => ?_) (fun hc => ?_)
  · refine V_seq_region ?_
    refine gGO ?_
    refine V_ret ?_
    simp only [decide_eq_true_eq] at hc
    exact ⟨trivial, ⟨_, rfl, congrArg (U.i .i64) (by split at hc <;> (rw [if_neg (by omega)]))⟩, trivial⟩
  refine V_skip ?_
  simp only [decide_eq_false_iff_not] at hc
  have hpos1 := hc
  have heq : ∀ (c : Prop) [Decidable c] (a : Int), ¬ (if c then a else -1) < 0 → (if c then a else -1) = a ∧ c := by
    intro c _ a h
    split at h
    · rename_i hc; exact ⟨if_pos hc, hc⟩
    · omega
  obtain ⟨e1, c1⟩ := heq _ _ hc
  rw [e1]
  clear heq hc
  refine gGO ?_
  refine VO_q (Q_call rfl (h4 ((left - (f0.length : Int)) - (W (U.sl 1 f1) : Int)) (by omega) (by omega)) vA) rfl ?_
  refine gGO ?_
  refine V_cond rfl (fun hc => ?_) (fun hc => ?_)
  · refine V_seq_region ?_
    refine gGO ?_
    refine V_ret ?_
    simp only [decide_eq_true_eq] at hc
    exact ⟨trivial, ⟨_, rfl, congrArg (U.i .i64) (by split at hc <;> (rw [if_neg (by omega)]))⟩, trivial⟩
  refine V_skip ?_
  simp only [decide_eq_false_iff_not] at hc
  have hpos4 := hc
  have heq : ∀ (c : Prop) [Decidable c] (a : Int), ¬ (if c then a else -1) < 0 → (if c then a else -1) = a ∧ c := by
    intro c _ a h
    split at h
    · rename_i hc; exact ⟨if_pos hc, hc⟩
    · omega
  obtain ⟨e4, c4⟩ := heq _ _ hc
  rw [e4]
  clear heq hc
  refine gGO ?_
  refine V_ret ?_
  exact ⟨trivial, ⟨_, rfl, congrArg (U.i .i64) (by rw [if_pos (by omega)]; omega)⟩, trivial⟩
theorem szTraitS_step {us : List U} (hl : us.length ≤ big) (hz : ∀ a ∈ us, a.isSt = true ∧ a.sz = 5) (ih : ∀ a ∈ us, PSz 157 a) : PSz 105 (.sl 5 us) := by
  intro left hl0 hl1
  have hW : W (.sl 5 us) = us.length + Ws us := rfl
  have hb : (us.length : Int) ≤ 140737488355328 := by rw [big_eq] at hl; omega
  refine SpecP_intro Tryz.func105 rfl (by kernel_rfl) rfl fun A _ => ?_
  refine gGO ?_
  refine V_cond rfl (fun hc => ?_) (fun hc => ?_)
  · refine V_seq_region ?_
    refine gGO ?_
    refine V_ret ?_
    simp only [decide_eq_true_eq] at hc
    exact ⟨trivial, ⟨_, rfl, congrArg (U.i .i64) (by rw [if_neg (by omega)])⟩, trivial⟩
  refine V_skip ?_
  simp only [decide_eq_false_iff_not] at hc
  refine gGO ?_
  refine V_block ?_
  refine V_loop (α := Nat × Int)
    (fun x => ⟨[(0, .d (.sl 5 us)), (5, .d (.i .i64 x.1)), (1, .d (.i .i64 x.2))], [], Tryz.f105.ntmps⟩)
    (fun x => x.1 ≤ us.length ∧ 0 ≤ x.2 ∧ x.2 = left - us.length - Ws (us.take x.1))
    (fun x => us.length - x.1) (0, left - us.length) ⟨rfl, ⟨⟨rfl, rfl⟩, ⟨rfl, rfl⟩, ⟨rfl, rfl⟩, trivial⟩, ⟨[], rfl⟩, rfl⟩ ⟨by simp, by simp only; omega, by simp [Ws]⟩ ?_
  rintro ⟨k, l⟩ ⟨hk, hq0, hq1⟩
  simp only at hk hq0 hq1
  refine gGO ?_
  refine V_cond rfl (fun hc2 => ?_) (fun hc2 => ?_)
  · refine V_skip ?_
    simp only [decide_eq_true_eq] at hc2
    have hkl : k < us.length := by omega
    have hget : us[k]? = some us[k] := List.getElem?_eq_getElem hkl
    have hmem : us[k] ∈ us := List.getElem_mem hkl
    have htk := Ws_take_succ hget
    have hle := Ws_take_le us (k + 1)
    obtain ⟨hst, hsz⟩ := hz _ hmem
    refine V_seq (V_block (V_seq_region ?_))
    refine gGO ?_
    refine VO_q (Q_index rfl rfl TE.h TI.h (by omega) hget) rfl ?_
    refine VO_q (Q_load rfl TI.h hst hsz) rfl ?_
    refine gGO ?_
    refine VO_q (Q_call rfl (ih _ hmem l (by omega) (by omega)) vA) rfl ?_
    refine gGO ?_
    refine V_cond rfl (fun hc3 => ?_) (fun hc3 => ?_)
    · refine V_seq_region ?_
      refine gGO ?_
      refine V_ret ?_
      simp only [decide_eq_true_eq] at hc3
      exact ⟨trivial, ⟨_, rfl, congrArg (U.i .i64) (by
        rw [if_neg (by intro hle2; rw [if_pos (by omega)] at hc3; omega)])⟩, trivial⟩
    refine V_skip ?_
    simp only [decide_eq_false_iff_not] at hc3
    refine gGO ?_
    refine ⟨(k + 1, (if (W us[k] : Int) ≤ l then l - W us[k] else -1)), ?_, ?_, ⟨rfl, ⟨⟨rfl, rfl⟩, ⟨rfl, rfl⟩, ⟨rfl, rfl⟩, trivial⟩, ⟨[], rfl⟩, rfl⟩⟩
    · simp only
      refine ⟨by omega, by omega, ?_⟩
      rw [if_pos (by apply Classical.byContradiction; intro hn; rw [if_neg hn] at hc3; omega)]
      omega
    · simp only
      omega
  · refine V_exit ?_
    simp only [decide_eq_false_iff_not] at hc2
    have hkl : k = us.length := by omega
    subst hkl
    rw [List.take_length] at hq1
    show V _ _ _ _ _
    refine gGO ?_
    refine V_ret ?_
    exact ⟨trivial, ⟨_, rfl, congrArg (U.i .i64) (by rw [if_pos (by omega)]; omega)⟩, trivial⟩
theorem szTrait_grp (u : U) : (wt (.st 6) u → PSz 157 u) := by
  refine U.ind (M := fun u => (wt (.st 6) u → PSz 157 u)) (fun u ih => ?_) u
  refine ?_
  · intro h
    obtain ⟨f0, f1, f2, f3, f4, rfl, p0, p1, p4⟩ := inv_Trait h
    exact szTrait_step p0 (szStringS_all p1) (szSignatureS_all p4)
theorem szTrait_all {u : U} (h : wt (.st 6) u) : PSz 157 u := (szTrait_grp u) h
theorem szTraitS_all {us : List U} (h : us.length ≤ big ∧ ∀ x ∈ us, wt (.st 6) x) : PSz 105 (.sl 5 us) := szTraitS_step h.1 (fun a ha => ⟨wt_isSt (h.2 a ha), by rw [wt_sz a _ (h.2 a ha)]; rfl⟩) (fun a ha => szTrait_all (h.2 a ha))
theorem szConstructor_step {f0 : List UInt8} {f1 : List U} (h0 : f0.length ≤ big) (h1 : PSz 141 (.sl 3 f1)) : PSz 198 (.st [.s f0, .sl 3 f1]) := by
  intro left hl0 hl1
  have hW : W (.st [.s f0, .sl 3 f1]) = f0.length + (W (U.sl 3 f1) + 0) := rfl
  have hb0 : f0.length ≤ 140737488355328 := by rw [big_eq] at h0; exact h0
  refine SpecP_intro Tryz.func198 rfl (by kernel_rfl) rfl fun A _ => ?_
  refine gGO ?_
  refine V_cond rfl (fun hc => ?_) (fun hc => ?_)
  · refine V_seq_region ?_
    refine gGO ?_
    refine V_ret ?_
    simp only [decide_eq_true_eq] at hc
    exact ⟨trivial, ⟨_, rfl, congrArg (U.i .i64) (by rw [if_neg (by omega)])⟩, trivial⟩
  refine V_skip ?_
  simp only [decide_eq_false_iff_not] at hc
  refine gGO ?_
  refine VO_q (Q_call rfl (h1 (left - (f0.length : Int)) (by omega) (by omega)) vA) rfl ?_
  refine gGO ?_
  refine V_cond rfl (fun hc => ?_) (fun hc => ?_)
  · refine V_seq_region ?_
    refine gGO ?_
    refine V_ret ?_
    simp only [decide_eq_true_eq] at hc
    exact ⟨trivial, ⟨_, rfl, congrArg (U.i .i64) (by split at hc <;> (rw [if_neg (by omega)]))⟩, trivial⟩
  refine V_skip ?_
  simp only [decide_eq_false_iff_not] at hc
  have hpos1 := hc
  have heq : ∀ (c : Prop) [Decidable c] (a : Int), ¬ (if c then a else -1) < 0 → (if c then a else -1) = a ∧ c := by
    intro c _ a h
    split at h
    · rename_i hc; exact ⟨if_pos hc, hc⟩
    · omega
  obtain ⟨e1, c1⟩ := heq _ _ hc
  rw [e1]
  clear heq hc
  refine gGO ?_
  refine V_ret ?_
  exact ⟨trivial, ⟨_, rfl, congrArg (U.i .i64) (by rw [if_pos (by omega)]; omega)⟩, trivial⟩
theorem szConstructorS_step {us : List U} (hl : us.length ≤ big) (hz : ∀ a ∈ us, a.isSt = true ∧ a.sz = 2) (ih : ∀ a ∈ us, PSz 198 a) : PSz 185 (.sl 2 us) := by
  intro left hl0 hl1
  have hW : W (.sl 2 us) = us.length + Ws us := rfl
  have hb : (us.length : Int) ≤ 140737488355328 := by rw [big_eq] at hl; omega
  refine SpecP_intro Tryz.func185 rfl (by kernel_rfl) rfl fun A _ => ?_
  refine gGO ?_
  refine V_cond rfl (fun hc => ?_) (fun hc => ?_)
  · refine V_seq_region ?_
    refine gGO ?_
    refine V_ret ?_
    simp only [decide_eq_true_eq] at hc
    exact ⟨trivial, ⟨_, rfl, congrArg (U.i .i64) (by rw [if_neg (by omega)])⟩, trivial⟩
  refine V_skip ?_
  simp only [decide_eq_false_iff_not] at hc
  refine gGO ?_
  refine V_block ?_
  refine V_loop (α := Nat × Int)
    (fun x => ⟨[(0, .d (.sl 2 us)), (5, .d (.i .i64 x.1)), (1, .d (.i .i64 x.2))], [], Tryz.f185.ntmps⟩)
    (fun x => x.1 ≤ us.length ∧ 0 ≤ x.2 ∧ x.2 = left - us.length - Ws (us.take x.1))
    (fun x => us.length - x.1) (0, left - us.length) ⟨rfl, ⟨⟨rfl, rfl⟩, ⟨rfl, rfl⟩, ⟨rfl, rfl⟩, trivial⟩, ⟨[], rfl⟩, rfl⟩ ⟨by simp, by simp only; omega, by simp [Ws]⟩ ?_
  rintro ⟨k, l⟩ ⟨hk, hq0, hq1⟩
  simp only at hk hq0 hq1
  refine gGO ?_
  refine V_cond rfl (fun hc2 => ?_) (fun hc2 => ?_)
  · refine V_skip ?_
    simp only [decide_eq_true_eq] at hc2
    have hkl : k < us.length := by omega
    have hget : us[k]? = some us[k] := List.getElem?_eq_getElem hkl
    have hmem : us[k] ∈ us := List.getElem_mem hkl
    have htk := Ws_take_succ hget
    have hle := Ws_take_le us (k + 1)
    obtain ⟨hst, hsz⟩ := hz _ hmem
    refine V_seq (V_block (V_seq_region ?_))
    refine gGO ?_
    refine VO_q (Q_index rfl rfl TE.h TI.h (by omega) hget) rfl ?_
    refine VO_q (Q_load rfl TI.h hst hsz) rfl ?_
    refine gGO ?_
    refine VO_q (Q_call rfl (ih _ hmem l (by omega) (by omega)) vA) rfl ?_
    refine gGO ?_
    refine V_cond rfl (fun hc3 => ?_) (fun hc3 => ?_)
    · refine V_seq_region ?_
      refine gGO ?_
      refine V_ret ?_
      simp only [decide_eq_true_eq] at hc3
      exact ⟨trivial, ⟨_, rfl, congrArg (U.i .i64) (by
        rw [if_neg (by intro hle2; rw [if_pos (by omega)] at hc3; omega)])⟩, trivial⟩
    refine V_skip ?_
    simp only [decide_eq_false_iff_not] at hc3
    refine gGO ?_
    refine ⟨(k + 1, (if (W us[k] : Int) ≤ l then l - W us[k] else -1)), ?_, ?_, ⟨rfl, ⟨⟨rfl, rfl⟩, ⟨rfl, rfl⟩, ⟨rfl, rfl⟩, trivial⟩, ⟨[], rfl⟩, rfl⟩⟩
    · simp only
      refine ⟨by omega, by omega, ?_⟩
      rw [if_pos (by apply Classical.byContradiction; intro hn; rw [if_neg hn] at hc3; omega)]
      omega
    · simp only
      omega
  · refine V_exit ?_
    simp only [decide_eq_false_iff_not] at hc2
    have hkl : k = us.length := by omega
    subst hkl
    rw [List.take_length] at hq1
    show V _ _ _ _ _
    refine gGO ?_
    refine V_ret ?_
    exact ⟨trivial, ⟨_, rfl, congrArg (U.i .i64) (by rw [if_pos (by omega)]; omega)⟩, trivial⟩
theorem szConstructor_grp (u : U) : (wt (.st 7) u → PSz 198 u) := by
  refine U.ind (M := fun u => (wt (.st 7) u → PSz 198 u)) (fun u ih => ?_) u
  refine ?_
  · intro h
    obtain ⟨f0, f1, rfl, p0, p1⟩ := inv_Constructor h
    exact szConstructor_step p0 (szTypeS_all p1)
theorem szConstructor_all {u : U} (h : wt (.st 7) u) : PSz 198 u := (szConstructor_grp u) h
theorem szConstructorS_all {us : List U} (h : us.length ≤ big ∧ ∀ x ∈ us, wt (.st 7) x) : PSz 185 (.sl 2 us) := szConstructorS_step h.1 (fun a ha => ⟨wt_isSt (h.2 a ha), by rw [wt_sz a _ (h.2 a ha)]; rfl⟩) (fun a ha => szConstructor_all (h.2 a ha))
theorem szDataType_step {f0 : List UInt8} {f1 : List U} {f2 : List U} (h0 : f0.length ≤ big) (h1 : PSz 81 (.sl 1 f1)) (h2 : PSz 185 (.sl 2 f2)) : PSz 158 (.st [.s f0, .sl 1 f1, .sl 2 f2]) := by
  intro left hl0 hl1
  have hW : W (.st [.s f0, .sl 1 f1, .sl 2 f2]) = f0.length + (W (U.sl 1 f1) + (W (U.sl 2 f2) + 0)) := rfl
  have hb0 : f0.length ≤ 140737488355328 := by rw [big_eq] at h0; exact h0
  refine SpecP_intro Tryz.func158 rfl (by kernel_rfl) rfl fun A _ => ?_
  refine gGO ?_
  refine V_cond rfl (fun hc => ?_) (fun hc => ?_)
  · refine V_seq_region ?_
    refine gGO ?_
    refine V_ret ?_
    simp only [decide_eq_true_eq] at hc
    exact ⟨trivial, ⟨_, rfl, congrArg (U.i .i64) (by rw [if_neg (by omega)])⟩, trivial⟩
  refine V_skip ?_
  simp only [decide_eq_false_iff_not] at hc
  refine gGO ?_
  refine VO_q (Q_call rfl (h1 (left - (f0.length : Int)) (by omega) (by omega)) vA) rfl ?_
  refine gGO ?_
  refine V_cond rfl (fun hc => ?_) (fun hc => ?_)
  · refine V_seq_region ?_
    refine gGO ?_
    refine V_ret ?_
    simp only [decide_eq_true_eq] at hc
    exact ⟨trivial, ⟨_, rfl, congrArg (U.i .i64) (by split at hc <;> (rw [if_neg (by omega)]))⟩, trivial⟩
  refine V_skip ?_
  simp only [decide_eq_false_iff_not] at hc
  have hpos1 := hc
  have heq : ∀ (c : Prop) [Decidable c] (a : Int), ¬ (if c then a else -1) < 0 → (if c then a else -1) = a ∧ c := by
    intro c _ a h
    split at h
    · rename_i hc; exact ⟨if_pos hc, hc⟩
    · omega
  obtain ⟨e1, c1⟩ := heq _ _ hc
  rw [e1]
  clear heq hc
  refine gGO ?_
  refine VO_q (Q_call rfl (h2 ((left - (f0.length : Int)) - (W (U.sl 1 f1) : Int)) (by omega) (by omega)) vA) rfl ?_
  refine gGO ?_
  refine V_cond rfl (fun hc => ?_) (fun hc => ?_)
  · refine V_seq_region ?_
    refine gGO ?_
    refine V_ret ?_
    simp only [decide_eq_true_eq] at hc
    exact ⟨trivial, ⟨_, rfl, congrArg (U.i .i64) (by split at hc <;> (rw [if_neg (by omega)]))⟩, trivial⟩
  refine V_skip ?_
  simp only [decide_eq_false_iff_not] at hc
  have hpos2 := hc
  have heq : ∀ (c : Prop) [Decidable c] (a : Int), ¬ (if c then a else -1) < 0 → (if c then a else -1) = a ∧ c := by
    intro c _ a h
    split at h
    · rename_i hc; exact ⟨if_pos hc, hc⟩
    · omega
  obtain ⟨e2, c2⟩ := heq _ _ hc
  rw [e2]
  clear heq hc
  refine gGO ?_
  refine V_ret ?_
  exact ⟨trivial, ⟨_, rfl, congrArg (U.i .i64) (by rw [if_pos (by omega)]; omega)⟩, trivial⟩
theorem szDataTypeS_step {us : List U} (hl : us.length ≤ big) (hz : ∀ a ∈ us, a.isSt = true ∧ a.sz = 3) (ih : ∀ a ∈ us, PSz 158 a) : PSz 106 (.sl 3 us) := by
  intro left hl0 hl1
  have hW : W (.sl 3 us) = us.length + Ws us := rfl
  have hb : (us.length : Int) ≤ 140737488355328 := by rw [big_eq] at hl; omega
  refine SpecP_intro Tryz.func106 rfl (by kernel_rfl) rfl fun A _ => ?_
  refine gGO ?_
  refine V_cond rfl (fun hc => ?_) (fun hc => ?_)
  · refine V_seq_region ?_
    refine gGO ?_
    refine V_ret ?_
    simp only [decide_eq_true_eq] at hc
    exact ⟨trivial, ⟨_, rfl, congrArg (U.i .i64) (by rw [if_neg (by omega)])⟩, trivial⟩
  refine V_skip ?_
  simp only [decide_eq_false_iff_not] at hc
  refine gGO ?_
  refine V_block ?_
  refine V_loop (α := Nat × Int)
    (fun x => ⟨[(0, .d (.sl 3 us)), (5, .d (.i .i64 x.1)), (1, .d (.i .i64 x.2))], [], Tryz.f106.ntmps⟩)
    (fun x => x.1 ≤ us.length ∧ 0 ≤ x.2 ∧ x.2 = left - us.length - Ws (us.take x.1))
    (fun x => us.length - x.1) (0, left - us.length) ⟨rfl, ⟨⟨rfl, rfl⟩, ⟨rfl, rfl⟩, ⟨rfl, rfl⟩, trivial⟩, ⟨[], rfl⟩, rfl⟩ ⟨by simp, by simp only; omega, by simp [Ws]⟩ ?_
  rintro ⟨k, l⟩ ⟨hk, hq0, hq1⟩
  simp only at hk hq0 hq1
  refine gGO ?_
  refine V_cond rfl (fun hc2 => ?_) (fun hc2 => ?_)
  · refine V_skip ?_
    simp only [decide_eq_true_eq] at hc2
    have hkl : k < us.length := by omega
    have hget : us[k]? = some us[k] := List.getElem?_eq_getElem hkl
    have hmem : us[k] ∈ us := List.getElem_mem hkl
    have htk := Ws_take_succ hget
    have hle := Ws_take_le us (k + 1)
    obtain ⟨hst, hsz⟩ := hz _ hmem
    refine V_seq (V_block (V_seq_region ?_))
    refine gGO ?_
    refine VO_q (Q_index rfl rfl TE.h TI.h (by omega) hget) rfl ?_
    refine VO_q (Q_load rfl TI.h hst hsz) rfl ?_
    refine gGO ?_
    refine VO_q (Q_call rfl (ih _ hmem l (by omega) (by omega)) vA) rfl ?_
    refine gGO ?_
    refine V_cond rfl (fun hc3 => ?_) (fun hc3 => ?_)
    · refine V_seq_region ?_
      refine gGO ?_
      refine V_ret ?_
      simp only [decide_eq_true_eq] at hc3
      exact ⟨trivial, ⟨_, rfl, congrArg (U.i .i64) (by
        rw [if_neg (by intro hle2; rw [if_pos (by omega)] at hc3; omega)])⟩, trivial⟩
    refine V_skip ?_
    simp only [decide_eq_false_iff_not] at hc3
    refine gGO ?_
    refine ⟨(k + 1, (if (W us[k] : Int) ≤ l then l - W us[k] else -1)), ?_, ?_, ⟨rfl, ⟨⟨rfl, rfl⟩, ⟨rfl, rfl⟩, ⟨rfl, rfl⟩, trivial⟩, ⟨[], rfl⟩, rfl⟩⟩
    · simp only
      refine ⟨by omega, by omega, ?_⟩
      rw [if_pos (by apply Classical.byContradiction; intro hn; rw [if_neg hn] at hc3; omega)]
      omega
    · simp only
      omega
  · refine V_exit ?_
    simp only [decide_eq_false_iff_not] at hc2
    have hkl : k = us.length := by omega
    subst hkl
    rw [List.take_length] at hq1
    show V _ _ _ _ _
    refine gGO ?_
    refine V_ret ?_
    exact ⟨trivial, ⟨_, rfl, congrArg (U.i .i64) (by rw [if_pos (by omega)]; omega)⟩, trivial⟩
theorem szDataType_grp (u : U) : (wt (.st 8) u → PSz 158 u) := by
  refine U.ind (M := fun u => (wt (.st 8) u → PSz 158 u)) (fun u ih => ?_) u
  refine ?_
  · intro h
    obtain ⟨f0, f1, f2, rfl, p0, p1, p2⟩ := inv_DataType h
    exact szDataType_step p0 (szStringS_all p1) (szConstructorS_all p2)
theorem szDataType_all {u : U} (h : wt (.st 8) u) : PSz 158 u := (szDataType_grp u) h
theorem szDataTypeS_all {us : List U} (h : us.length ≤ big ∧ ∀ x ∈ us, wt (.st 8) x) : PSz 106 (.sl 3 us) := szDataTypeS_step h.1 (fun a ha => ⟨wt_isSt (h.2 a ha), by rw [wt_sz a _ (h.2 a ha)]; rfl⟩) (fun a ha => szDataType_all (h.2 a ha))
theorem szBound_step {f0 : List UInt8} {f1 : U} (h0 : f0.length ≤ big) (g1 : wt (.st 1) f1) (h1 : PSz 84 f1) : PSz 139 (.st [.s f0, f1]) := by
  intro left hl0 hl1
  have hW : W (.st [.s f0, f1]) = f0.length + (W f1 + 0) := rfl
  have hb0 : f0.length ≤ 140737488355328 := by rw [big_eq] at h0; exact h0
  obtain ⟨m1, hm1⟩ : ∃ m, W f1 = m := ⟨_, rfl⟩
  rw [hm1] at hW
  have h1 : ∀ l : Int, 0 ≤ l → l ≤ 4611686018427387904 → SpecP Tryz.prog 84 [.d f1, .d (.i .i64 l)] [.i .i64 (if (m1 : Int) ≤ l then l - m1 else -1)] := by rw [← hm1]; exact h1
  obtain ⟨e7_0, e7_1, e7_2, rfl, g7_0, g7_1, g7_2⟩ := inv_Type g1
  refine SpecP_intro Tryz.func139 rfl (by kernel_rfl) rfl fun A _ => ?_
  refine gGO ?_
  refine V_cond rfl (fun hc => ?_) (fun hc => ?_)
  · refine V_seq_region ?_
    refine gGO ?_
    refine V_ret ?_
    simp only [decide_eq_true_eq] at hc
    exact ⟨trivial, ⟨_, rfl, congrArg (U.i .i64) (by rw [if_neg (by omega)])⟩, trivial⟩
  refine V_skip ?_
  simp only [decide_eq_false_iff_not] at hc
  refine gGO ?_
  refine VO_q (Q_call rfl (h1 (left - (f0.length : Int)) (by omega) (by omega)) vA) rfl ?_
  refine gGO ?_
  refine V_cond rfl (fun hc => ?_) (fun hc => ?_)
  · refine V_seq_region ?_
    refine gGO ?_
    refine V_ret ?_
    simp only [decide_eq_true_eq] at hc
    exact ⟨trivial, ⟨_, rfl, congrArg (U.i .i64) (by split at hc <;> (rw [if_neg (by omega)]))⟩, trivial⟩
  refine V_skip ?_
  simp only [decide_eq_false_iff_not] at hc
  have hpos1 := hc
  have heq : ∀ (c : Prop) [Decidable c] (a : Int), ¬ (if c then a else -1) < 0 → (if c then a else -1) = a ∧ c := by
    intro c _ a h
    split at h
    · rename_i hc; exact ⟨if_pos hc, hc⟩
    · omega
  obtain ⟨e1, c1⟩ := heq _ _ hc
  rw [e1]
  clear heq hc
  refine gGO ?_
  refine V_ret ?_
  exact ⟨trivial, ⟨_, rfl, congrArg (U.i .i64) (by rw [if_pos (by omega)]; omega)⟩, trivial⟩
theorem szBoundS_step {us : List U} (hl : us.length ≤ big) (hz : ∀ a ∈ us, a.isSt = true ∧ a.sz = 4) (ih : ∀ a ∈ us, PSz 139 a) : PSz 82 (.sl 4 us) := by
  intro left hl0 hl1
  have hW : W (.sl 4 us) = us.length + Ws us := rfl
  have hb : (us.length : Int) ≤ 140737488355328 := by rw [big_eq] at hl; omega
  refine SpecP_intro Tryz.func82 rfl (by kernel_rfl) rfl fun A _ => ?_
  refine gGO ?_
  refine V_cond rfl (fun hc => ?_) (fun hc => ?_)
  · refine V_seq_region ?_
    refine gGO ?_
    refine V_ret ?_
    simp only [decide_eq_true_eq] at hc
    exact ⟨trivial, ⟨_, rfl, congrArg (U.i .i64) (by rw [if_neg (by omega)])⟩, trivial⟩
  refine V_skip ?_
  simp only [decide_eq_false_iff_not] at hc
  refine gGO ?_
  refine V_block ?_
  refine V_loop (α := Nat × Int)
    (fun x => ⟨[(0, .d (.sl 4 us)), (5, .d (.i .i64 x.1)), (1, .d (.i .i64 x.2))], [], Tryz.f82.ntmps⟩)
    (fun x => x.1 ≤ us.length ∧ 0 ≤ x.2 ∧ x.2 = left - us.length - Ws (us.take x.1))
    (fun x => us.length - x.1) (0, left - us.length) ⟨rfl, ⟨⟨rfl, rfl⟩, ⟨rfl, rfl⟩, ⟨rfl, rfl⟩, trivial⟩, ⟨[], rfl⟩, rfl⟩ ⟨by simp, by simp only; omega, by simp [Ws]⟩ ?_
  rintro ⟨k, l⟩ ⟨hk, hq0, hq1⟩
  simp only at hk hq0 hq1
  refine gGO ?_
  refine V_cond rfl (fun hc2 => ?_) (fun hc2 => ?_)
  · refine V_skip ?_
    simp only [decide_eq_true_eq] at hc2
    have hkl : k < us.length := by omega
    have hget : us[k]? = some us[k] := List.getElem?_eq_getElem hkl
    have hmem : us[k] ∈ us := List.getElem_mem hkl
    have htk := Ws_take_succ hget
    have hle := Ws_take_le us (k + 1)
    obtain ⟨hst, hsz⟩ := hz _ hmem
    refine V_seq (V_block (V_seq_region ?_))
    refine gGO ?_
    refine VO_q (Q_index rfl rfl TE.h TI.h (by omega) hget) rfl ?_
    refine VO_q (Q_load rfl TI.h hst hsz) rfl ?_
    refine gGO ?_
    refine VO_q (Q_call rfl (ih _ hmem l (by omega) (by omega)) vA) rfl ?_
    refine gGO ?_
    refine V_cond rfl (fun hc3 => ?_) (fun hc3 => ?_)
    · refine V_seq_region ?_
      refine gGO ?_
      refine V_ret ?_
      simp only [decide_eq_true_eq] at hc3
      exact ⟨trivial, ⟨_, rfl, congrArg (U.i .i64) (by
        rw [if_neg (by intro hle2; rw [if_pos (by omega)] at hc3; omega)])⟩, trivial⟩
    refine V_skip ?_
    simp only [decide_eq_false_iff_not] at hc3
    refine gGO ?_
    refine ⟨(k + 1, (if (W us[k] : Int) ≤ l then l - W us[k] else -1)), ?_, ?_, ⟨rfl, ⟨⟨rfl, rfl⟩, ⟨rfl, rfl⟩, ⟨rfl, rfl⟩, trivial⟩, ⟨[], rfl⟩, rfl⟩⟩
    · simp only
      refine ⟨by omega, by omega, ?_⟩
      rw [if_pos (by apply Classical.byContradiction; intro hn; rw [if_neg hn] at hc3; omega)]
      omega
    · simp only
      omega
  · refine V_exit ?_
    simp only [decide_eq_false_iff_not] at hc2
    have hkl : k = us.length := by omega
    subst hkl
    rw [List.take_length] at hq1
    show V _ _ _ _ _
    refine gGO ?_
    refine V_ret ?_
    exact ⟨trivial, ⟨_, rfl, congrArg (U.i .i64) (by rw [if_pos (by omega)]; omega)⟩, trivial⟩
theorem szBound_grp (u : U) : (wt (.st 9) u → PSz 139 u) := by
  refine U.ind (M := fun u => (wt (.st 9) u → PSz 139 u)) (fun u ih => ?_) u
  refine ?_
  · intro h
    obtain ⟨f0, f1, rfl, p0, p1⟩ := inv_Bound h
    exact szBound_step p0 p1 (szType_all p1)
theorem szBound_all {u : U} (h : wt (.st 9) u) : PSz 139 u := (szBound_grp u) h
theorem szBoundS_all {us : List U} (h : us.length ≤ big ∧ ∀ x ∈ us, wt (.st 9) x) : PSz 82 (.sl 4 us) := szBoundS_step h.1 (fun a ha => ⟨wt_isSt (h.2 a ha), by rw [wt_sz a _ (h.2 a ha)]; rfl⟩) (fun a ha => szBound_all (h.2 a ha))
theorem szMethod_step {f0 : List UInt8} {f1 : List U} {f2 : U} (h0 : f0.length ≤ big) (h1 : PSz 81 (.sl 1 f1)) (g2 : wt (.st 4) f2) (h2 : PSz 187 f2) : PSz 199 (.st [.s f0, .sl 1 f1, f2]) := by
  intro left hl0 hl1
  have hW : W (.st [.s f0, .sl 1 f1, f2]) = f0.length + (W (U.sl 1 f1) + (W f2 + 0)) := rfl
  have hb0 : f0.length ≤ 140737488355328 := by rw [big_eq] at h0; exact h0
  obtain ⟨m2, hm2⟩ : ∃ m, W f2 = m := ⟨_, rfl⟩
  rw [hm2] at hW
  have h2 : ∀ l : Int, 0 ≤ l → l ≤ 4611686018427387904 → SpecP Tryz.prog 187 [.d f2, .d (.i .i64 l)] [.i .i64 (if (m2 : Int) ≤ l then l - m2 else -1)] := by rw [← hm2]; exact h2
  obtain ⟨e8_0, e8_1, e8_2, e8_3, e8_4, e8_5, e8_6, rfl, g8_0, g8_1, g8_2, g8_3, g8_4, g8_5, g8_6⟩ := inv_Expr g2
  obtain ⟨e9_0, e9_1, e9_2, rfl, g9_0, g9_1, g9_2⟩ := inv_Type g8_4
  refine SpecP_intro Tryz.func199 rfl (by kernel_rfl) rfl fun A _ => ?_
  refine gGO ?_
  refine V_cond rfl (fun hc => ?_) (fun hc => ?_)
  · refine V_seq_region ?_
    refine gGO ?_
    refine V_ret ?_
    simp only [decide_eq_true_eq] at hc
    exact ⟨trivial, ⟨_, rfl, congrArg (U.i .i64) (by rw [if_neg (by omega)])⟩, trivial⟩
  refine V_skip ?_
  simp only [decide_eq_false_iff_not] at hc
  refine gGO ?_
  refine VO_q (Q_call rfl (h1 (left - (f0.length : Int)) (by omega) (by omega)) vA) rfl ?_
  refine gGO ?_
  refine V_cond rfl (fun hc => ?_) (fun hc => ?_)
  · refine V_seq_region ?_
    refine gGO ?_
    refine V_ret ?_
    simp only [decide_eq_true_eq] at hc
    exact ⟨trivial, ⟨_, rfl, congrArg (U.i .i64) (by split at hc <;> (rw [if_neg (by omega)]))⟩, trivial⟩
  refine V_skip ?_
  simp only [decide_eq_false_iff_not] at hc
  have hpos1 := hc
  have heq : ∀ (c : Prop) [Decidable c] (a : Int), ¬ (if c then a else -1) < 0 → (if c then a else -1) = a ∧ c := by
    intro c _ a h
    split at h
    · rename_i hc; exact ⟨if_pos hc, hc⟩
    · omega
  obtain ⟨e1, c1⟩ := heq _ _ hc
  rw [e1]
  clear heq hc
  refine gGO ?_
  refine VO_q (Q_call rfl (h2 ((left - (f0.length : Int)) - (W (U.sl 1 f1) : Int)) (by omega) (by omega)) vA) rfl ?_
  refine gGO ?_
  refine V_cond rfl (fun hc => ?_) (fun hc => ?_)
  · refine V_seq_region ?_
    refine gGO ?_
    refine V_ret ?_
    simp only [decide_eq_true_eq] at hc
    exact ⟨trivial, ⟨_, rfl, congrArg (U.i .i64) (by split at hc <;> (rw [if_neg (by omega)]))⟩, trivial⟩
  refine V_skip ?_
  simp only [decide_eq_false_iff_not] at hc
  have hpos2 := hc
  have heq : ∀ (c : Prop) [Decidable c] (a : Int), ¬ (if c then a else -1) < 0 → (if c then a else -1) = a ∧ c := by
    intro c _ a h
    split at h
    · rename_i hc; exact ⟨if_pos hc, hc⟩
    · omega
  obtain ⟨e2, c2⟩ := heq _ _ hc
  rw [e2]
  clear heq hc
  refine gGO ?_
  refine V_ret ?_
  exact ⟨trivial, ⟨_, rfl, congrArg (U.i .i64) (by rw [if_pos (by omega)]; omega)⟩, trivial⟩
theorem szMethodS_step {us : List U} (hl : us.length ≤ big) (hz : ∀ a ∈ us, a.isSt = true ∧ a.sz = 11) (ih : ∀ a ∈ us, PSz 199 a) : PSz 186 (.sl 11 us) := by
  intro left hl0 hl1
  have hW : W (.sl 11 us) = us.length + Ws us := rfl
  have hb : (us.length : Int) ≤ 140737488355328 := by rw [big_eq] at hl; omega
  refine SpecP_intro Tryz.func186 rfl (by kernel_rfl) rfl fun A _ => ?_
  refine gGO ?_
  refine V_cond rfl (fun hc => ?_) (fun hc => ?_)
  · refine V_seq_region ?_
    refine gGO ?_
    refine V_ret ?_
    simp only [decide_eq_true_eq] at hc
    exact ⟨trivial, ⟨_, rfl, congrArg (U.i .i64) (by rw [if_neg (by omega)])⟩, trivial⟩
  refine V_skip ?_
  simp only [decide_eq_false_iff_not] at hc
  refine gGO ?_
  refine V_block ?_
  refine V_loop (α := Nat × Int)
    (fun x => ⟨[(0, .d (.sl 11 us)), (5, .d (.i .i64 x.1)), (1, .d (.i .i64 x.2))], [], Tryz.f186.ntmps⟩)
    (fun x => x.1 ≤ us.length ∧ 0 ≤ x.2 ∧ x.2 = left - us.length - Ws (us.take x.1))
    (fun x => us.length - x.1) (0, left - us.length) ⟨rfl, ⟨⟨rfl, rfl⟩, ⟨rfl, rfl⟩, ⟨rfl, rfl⟩, trivial⟩, ⟨[], rfl⟩, rfl⟩ ⟨by simp, by simp only; omega, by simp [Ws]⟩ ?_
  rintro ⟨k, l⟩ ⟨hk, hq0, hq1⟩
  simp only at hk hq0 hq1
  refine gGO ?_
  refine V_cond rfl (fun hc2 => ?_) (fun hc2 => ?_)
  · refine V_skip ?_
    simp only [decide_eq_true_eq] at hc2
    have hkl : k < us.length := by omega
    have hget : us[k]? = some us[k] := List.getElem?_eq_getElem hkl
    have hmem : us[k] ∈ us := List.getElem_mem hkl
    have htk := Ws_take_succ hget
    have hle := Ws_take_le us (k + 1)
    obtain ⟨hst, hsz⟩ := hz _ hmem
    refine V_seq (V_block (V_seq_region ?_))
    refine gGO ?_
    refine VO_q (Q_index rfl rfl TE.h TI.h (by omega) hget) rfl ?_
    refine VO_q (Q_load rfl TI.h hst hsz) rfl ?_
    refine gGO ?_
    refine VO_q (Q_call rfl (ih _ hmem l (by omega) (by omega)) vA) rfl ?_
    refine gGO ?_
    refine V_cond rfl (fun hc3 => ?_) (fun hc3 => ?_)
    · refine V_seq_region ?_
      refine gGO ?_
      refine V_ret ?_
      simp only [decide_eq_true_eq] at hc3
      exact ⟨trivial, ⟨_, rfl, congrArg (U.i .i64) (by
        rw [if_neg (by intro hle2; rw [if_pos (by omega)] at hc3; omega)])⟩, trivial⟩
    refine V_skip ?_
    simp only [decide_eq_false_iff_not] at hc3
    refine gGO ?_
    refine ⟨(k + 1, (if (W us[k] : Int) ≤ l then l - W us[k] else -1)), ?_, ?_, ⟨rfl, ⟨⟨rfl, rfl⟩, ⟨rfl, rfl⟩, ⟨rfl, rfl⟩, trivial⟩, ⟨[], rfl⟩, rfl⟩⟩
    · simp only
      refine ⟨by omega, by omega, ?_⟩
      rw [if_pos (by apply Classical.byContradiction; intro hn; rw [if_neg hn] at hc3; omega)]
      omega
    · simp only
      omega
  · refine V_exit ?_
    simp only [decide_eq_false_iff_not] at hc2
    have hkl : k = us.length := by omega
    subst hkl
    rw [List.take_length] at hq1
    show V _ _ _ _ _
    refine gGO ?_
    refine V_ret ?_
    exact ⟨trivial, ⟨_, rfl, congrArg (U.i .i64) (by rw [if_pos (by omega)]; omega)⟩, trivial⟩
theorem szMethod_grp (u : U) : (wt (.st 10) u → PSz 199 u) := by
  refine U.ind (M := fun u => (wt (.st 10) u → PSz 199 u)) (fun u ih => ?_) u
  refine ?_
  · intro h
    obtain ⟨f0, f1, f2, rfl, p0, p1, p2⟩ := inv_Method h
    exact szMethod_step p0 (szStringS_all p1) p2 (szExpr_all p2)
theorem szMethod_all {u : U} (h : wt (.st 10) u) : PSz 199 u := (szMethod_grp u) h
theorem szMethodS_all {us : List U} (h : us.length ≤ big ∧ ∀ x ∈ us, wt (.st 10) x) : PSz 186 (.sl 11 us) := szMethodS_step h.1 (fun a ha => ⟨wt_isSt (h.2 a ha), by rw [wt_sz a _ (h.2 a ha)]; rfl⟩) (fun a ha => szMethod_all (h.2 a ha))
theorem szInstance_step {f0 : List UInt8} {f1 : List U} {f2 : U} {f3 : List U} {f4 : Bool} {f5 : Bool} {f6 : U} {f7 : List U} (h0 : f0.length ≤ big) (h1 : PSz 81 (.sl 1 f1)) (g2 : wt (.st 1) f2) (h2 : PSz 84 f2) (h3 : PSz 82 (.sl 4 f3)) (g6 : wt (.st 1) f6) (h6 : PSz 84 f6) (h7 : PSz 186 (.sl 11 f7)) : PSz 159 (.st [.s f0, .sl 1 f1, f2, .sl 4 f3, .b f4, .b f5, f6, .sl 11 f7]) := by
  intro left hl0 hl1
  have hW : W (.st [.s f0, .sl 1 f1, f2, .sl 4 f3, .b f4, .b f5, f6, .sl 11 f7]) = f0.length + (W (U.sl 1 f1) + (W f2 + (W (U.sl 4 f3) + (0 + (0 + (W f6 + (W (U.sl 11 f7) + 0))))))) := rfl
  have hb0 : f0.length ≤ 140737488355328 := by rw [big_eq] at h0; exact h0
  obtain ⟨m2, hm2⟩ : ∃ m, W f2 = m := ⟨_, rfl⟩
  rw [hm2] at hW
  have h2 : ∀ l : Int, 0 ≤ l → l ≤ 4611686018427387904 → SpecP Tryz.prog 84 [.d f2, .d (.i .i64 l)] [.i .i64 (if (m2 : Int) ≤ l then l - m2 else -1)] := by rw [← hm2]; exact h2
  obtain ⟨e10_0, e10_1, e10_2, rfl, g10_0, g10_1, g10_2⟩ := inv_Type g2
  obtain ⟨m6, hm6⟩ : ∃ m, W f6 = m := ⟨_, rfl⟩
  rw [hm6] at hW
  have h6 : ∀ l : Int, 0 ≤ l → l ≤ 4611686018427387904 → SpecP Tryz.prog 84 [.d f6, .d (.i .i64 l)] [.i .i64 (if (m6 : Int) ≤ l then l - m6 else -1)] := by rw [← hm6]; exact h6
  obtain ⟨e11_0, e11_1, e11_2, rfl, g11_0, g11_1, g11_2⟩ := inv_Type g6
  refine SpecP_intro Tryz.func159 rfl (by kernel_rfl) rfl fun A _ => ?_
  refine gGO ?_
  refine V_cond rfl (fun hc => ?_) (fun hc => ?_)
  · refine V_seq_region ?_
    refine gGO ?_
    refine V_ret ?_
    simp only [decide_eq_true_eq] at hc
    exact ⟨trivial, ⟨_, rfl, congrArg (U.i .i64) (by rw [if_neg (by omega)])⟩, trivial⟩
  refine V_skip ?_
  simp only [decide_eq_false_iff_not] at hc
  refine gGO ?_
  refine VO_q (Q_call rfl (h1 (left - (f0.length : Int)) (by omega) (by omega)) vA) rfl ?_
  refine gGO ?_
  refine V_cond rfl (fun hc => ?_) (fun hc => ?_)
  · refine V_seq_region ?_
    refine gGO ?_
    refine V_ret ?_
    simp only [decide_eq_true_eq] at hc
    exact ⟨trivial, ⟨_, rfl, congrArg (U.i .i64) (by split at hc <;> (rw [if_neg (by omega)]))⟩, trivial⟩
  refine V_skip ?_
  simp only [decide_eq_false_iff_not] at hc
  have hpos1 := hc
  have heq : ∀ (c : Prop) [Decidable c] (a : Int), ¬ (if c then a else -1) < 0 → (if c then a else -1) = a ∧ c := by
    intro c _ a h
    split at h
    · rename_i hc; exact ⟨if_pos hc, hc⟩
    · omega
  obtain ⟨e1, c1⟩ := heq _ _ hc
  rw [e1]
  clear heq hc
  refine gGO ?_
  refine VO_q (Q_call rfl (h2 ((left - (f0.length : Int)) - (W (U.sl 1 f1) : Int)) (by omega) (by omega)) vA) rfl ?_
  refine gGO ?_
  refine V_cond rfl (fun hc => ?_) (fun hc => ?_)
  · refine V_seq_region ?_
    refine gGO ?_
    refine V_ret ?_
    simp only [decide_eq_true_eq] at hc
    exact ⟨trivial, ⟨_, rfl, congrArg (U.i .i64) (by split at hc <;> (rw [if_neg (by omega)]))⟩, trivial⟩
  refine V_skip ?_
  simp only [decide_eq_false_iff_not] at hc
  have hpos2 := hc
  have heq : ∀ (c : Prop) [Decidable c] (a : Int), ¬ (if c then a else -1) < 0 → (if c then a else -1) = a ∧ c := by
    intro c _ a h
    split at h
    · rename_i hc; exact ⟨if_pos hc, hc⟩
    · omega
  obtain ⟨e2, c2⟩ := heq _ _ hc
  rw [e2]
  clear heq hc
  refine gGO ?_
  refine VO_q (Q_call rfl (h3 (((left - (f0.length : Int)) - (W (U.sl 1 f1) : Int)) - (m2 : Int)) (by omega) (by omega)) vA) rfl ?_
  refine gGO ?_
  refine V_cond rfl (fun hc => ?_) (fun hc => ?_)
  · refine V_seq_region ?_
    refine gGO ?_
    refine V_ret ?_
    simp only [decide_eq_true_eq] at hc
    exact ⟨trivial, ⟨_, rfl, congrArg (U.i .i64) (by split at hc <;> (rw [if_neg (by omega)]))⟩, trivial⟩
  refine V_skip ?_
  simp only [decide_eq_false_iff_not] at hc
  have hpos3 := hc
  have heq : ∀ (c : Prop) [Decidable c] (a : Int), ¬ (if c then a else -1) < 0 → (if c then a else -1) = a ∧ c := by
    intro c _ a h
    split at h
    · rename_i hc; exact ⟨if_pos hc, hc⟩
    · omega
  obtain ⟨e3, c3⟩ := heq _ _ hc
  rw [e3]
  clear heq hc
  refine gGO ?_
  refine VO_q (Q_call rfl (h6 ((((left - (f0.length : Int)) - (W (U.sl 1 f1) : Int)) - (m2 : Int)) - (W (U.sl 4 f3) : Int)) (by omega) (by omega)) vA) rfl ?_
  refine gGO ?_
  refine V_cond rfl (fun hc => ?_) (fun hc => ?_)
  · refine V_seq_region ?_
    refine gGO ?_
    refine V_ret ?_
    simp only [decide_eq_true_eq] at hc
    exact ⟨trivial, ⟨_, rfl, congrArg (U.i .i64) (by split at hc <;> (rw [if_neg (by omega)]))⟩, trivial⟩
  refine V_skip ?_
  simp only [decide_eq_false_iff_not] at hc
  have hpos6 := hc
  have heq : ∀ (c : Prop) [Decidable c] (a : Int), ¬ (if c then a else -1) < 0 → (if c then a else -1) = a ∧ c := by
    intro c _ a h
    split at h
    · rename_i hc; exact ⟨if_pos hc, hc⟩
    · omega
  obtain ⟨e6, c6⟩ := heq _ _ hc
  rw [e6]
  clear heq hc
  refine gGO ?_
  refine VO_q (Q_call rfl (h7 (((((left - (f0.length : Int)) - (W (U.sl 1 f1) : Int)) - (m2 : Int)) - (W (U.sl 4 f3) : Int)) - (m6 : Int)) (by omega) (by omega)) vA) rfl ?_
  refine gGO ?_
  refine V_cond rfl (fun hc => ?_) (fun hc => ?_)
  · refine V_seq_region ?_
    refine gGO ?_
    refine V_ret ?_
    simp only [decide_eq_true_eq] at hc
    exact ⟨trivial, ⟨_, rfl, congrArg (U.i .i64) (by split at hc <;> (rw [if_neg (by omega)]))⟩, trivial⟩
  refine V_skip ?_
  simp only [decide_eq_false_iff_not] at hc
  have hpos7 := hc
  have heq : ∀ (c : Prop) [Decidable c] (a : Int), ¬ (if c then a else -1) < 0 → (if c then a else -1) = a ∧ c := by
    intro c _ a h
    split at h
    · rename_i hc; exact ⟨if_pos hc, hc⟩
    · omega
  obtain ⟨e7, c7⟩ := heq _ _ hc
  rw [e7]
  clear heq hc
  refine gGO ?_
  refine V_ret ?_
  exact ⟨trivial, ⟨_, rfl, congrArg (U.i .i64) (by rw [if_pos (by omega)]; omega)⟩, trivial⟩
theorem szInstanceS_step {us : List U} (hl : us.length ≤ big) (hz : ∀ a ∈ us, a.isSt = true ∧ a.sz = 12) (ih : ∀ a ∈ us, PSz 159 a) : PSz 107 (.sl 12 us) := by
  intro left hl0 hl1
  have hW : W (.sl 12 us) = us.length + Ws us := rfl
  have hb : (us.length : Int) ≤ 140737488355328 := by rw [big_eq] at hl; omega
  refine SpecP_intro Tryz.func107 rfl (by kernel_rfl) rfl fun A _ => ?_
  refine gGO ?_
  refine V_cond rfl (fun hc => ?_) (fun hc => ?_)
  · refine V_seq_region ?_
    refine gGO ?_
    refine V_ret ?_
    simp only [decide_eq_true_eq] at hc
    exact ⟨trivial, ⟨_, rfl, congrArg (U.i .i64) (by rw [if_neg (by omega)])⟩, trivial⟩
  refine V_skip ?_
  simp only [decide_eq_false_iff_not] at hc
  refine gGO ?_
  refine V_block ?_
  refine V_loop (α := Nat × Int)
    (fun x => ⟨[(0, .d (.sl 12 us)), (5, .d (.i .i64 x.1)), (1, .d (.i .i64 x.2))], [], Tryz.f107.ntmps⟩)
    (fun x => x.1 ≤ us.length ∧ 0 ≤ x.2 ∧ x.2 = left - us.length - Ws (us.take x.1))
    (fun x => us.length - x.1) (0, left - us.length) ⟨rfl, ⟨⟨rfl, rfl⟩, ⟨rfl, rfl⟩, ⟨rfl, rfl⟩, trivial⟩, ⟨[], rfl⟩, rfl⟩ ⟨by simp, by simp only; omega, by simp [Ws]⟩ ?_
  rintro ⟨k, l⟩ ⟨hk, hq0, hq1⟩
  simp only at hk hq0 hq1
  refine gGO ?_
  refine V_cond rfl (fun hc2 => ?_) (fun hc2 => ?_)
  · refine V_skip ?_
    simp only [decide_eq_true_eq] at hc2
    have hkl : k < us.length := by omega
    have hget : us[k]? = some us[k] := List.getElem?_eq_getElem hkl
    have hmem : us[k] ∈ us := List.getElem_mem hkl
    have htk := Ws_take_succ hget
    have hle := Ws_take_le us (k + 1)
    obtain ⟨hst, hsz⟩ := hz _ hmem
    refine V_seq (V_block (V_seq_region ?_))
    refine gGO ?_
    refine VO_q (Q_index rfl rfl TE.h TI.h (by omega) hget) rfl ?_
    refine VO_q (Q_load rfl TI.h hst hsz) rfl ?_
    refine gGO ?_
    refine VO_q (Q_call rfl (ih _ hmem l (by omega) (by omega)) vA) rfl ?_
    refine gGO ?_
    refine V_cond rfl (fun hc3 => ?_) (fun hc3 => ?_)
    · refine V_seq_region ?_
      refine gGO ?_
      refine V_ret ?_
      simp only [decide_eq_true_eq] at hc3
      exact ⟨trivial, ⟨_, rfl, congrArg (U.i .i64) (by
        rw [if_neg (by intro hle2; rw [if_pos (by omega)] at hc3; omega)])⟩, trivial⟩
    refine V_skip ?_
    simp only [decide_eq_false_iff_not] at hc3
    refine gGO ?_
    refine ⟨(k + 1, (if (W us[k] : Int) ≤ l then l - W us[k] else -1)), ?_, ?_, ⟨rfl, ⟨⟨rfl, rfl⟩, ⟨rfl, rfl⟩, ⟨rfl, rfl⟩, trivial⟩, ⟨[], rfl⟩, rfl⟩⟩
    · simp only
      refine ⟨by omega, by omega, ?_⟩
      rw [if_pos (by apply Classical.byContradiction; intro hn; rw [if_neg hn] at hc3; omega)]
      omega
    · simp only
      omega
  · refine V_exit ?_
    simp only [decide_eq_false_iff_not] at hc2
    have hkl : k = us.length := by omega
    subst hkl
    rw [List.take_length] at hq1
    show V _ _ _ _ _
    refine gGO ?_
    refine V_ret ?_
    exact ⟨trivial, ⟨_, rfl, congrArg (U.i .i64) (by rw [if_pos (by omega)]; omega)⟩, trivial⟩
theorem szInstance_grp (u : U) : (wt (.st 11) u → PSz 159 u) := by
  refine U.ind (M := fun u => (wt (.st 11) u → PSz 159 u)) (fun u ih => ?_) u
  refine ?_
  · intro h
    obtain ⟨f0, f1, f2, f3, f4, f5, f6, f7, rfl, p0, p1, p2, p3, p6, p7⟩ := inv_Instance h
    exact szInstance_step p0 (szStringS_all p1) p2 (szType_all p2) (szBoundS_all p3) p6 (szType_all p6) (szMethodS_all p7)
theorem szInstance_all {u : U} (h : wt (.st 11) u) : PSz 159 u := (szInstance_grp u) h
theorem szInstanceS_all {us : List U} (h : us.length ≤ big ∧ ∀ x ∈ us, wt (.st 11) x) : PSz 107 (.sl 12 us) := szInstanceS_step h.1 (fun a ha => ⟨wt_isSt (h.2 a ha), by rw [wt_sz a _ (h.2 a ha)]; rfl⟩) (fun a ha => szInstance_all (h.2 a ha))
theorem szParam_step {f0 : List UInt8} {f1 : U} (h0 : f0.length ≤ big) (g1 : wt (.st 1) f1) (h1 : PSz 84 f1) : PSz 140 (.st [.s f0, f1]) := by
  intro left hl0 hl1
  have hW : W (.st [.s f0, f1]) = f0.length + (W f1 + 0) := rfl
  have hb0 : f0.length ≤ 140737488355328 := by rw [big_eq] at h0; exact h0
  obtain ⟨m1, hm1⟩ : ∃ m, W f1 = m := ⟨_, rfl⟩
  rw [hm1] at hW
  have h1 : ∀ l : Int, 0 ≤ l → l ≤ 4611686018427387904 → SpecP Tryz.prog 84 [.d f1, .d (.i .i64 l)] [.i .i64 (if (m1 : Int) ≤ l then l - m1 else -1)] := by rw [← hm1]; exact h1
  obtain ⟨e12_0, e12_1, e12_2, rfl, g12_0, g12_1, g12_2⟩ := inv_Type g1
  refine SpecP_intro Tryz.func140 rfl (by kernel_rfl) rfl fun A _ => ?_
  refine gGO ?_
  refine V_cond rfl (fun hc => ?_) (fun hc => ?_)
  · refine V_seq_region ?_
    refine gGO ?_
    refine V_ret ?_
    simp only [decide_eq_true_eq] at hc
    exact ⟨trivial, ⟨_, rfl, congrArg (U.i .i64) (by rw [if_neg (by omega)])⟩, trivial⟩
  refine V_skip ?_
  simp only [decide_eq_false_iff_not] at hc
  refine gGO ?_
  refine VO_q (Q_call rfl (h1 (left - (f0.length : Int)) (by omega) (by omega)) vA) rfl ?_
  refine gGO ?_
  refine V_cond rfl (fun hc => ?_) (fun hc => ?_)
  · refine V_seq_region ?_
    refine gGO ?_
    refine V_ret ?_
    simp only [decide_eq_true_eq] at hc
    exact ⟨trivial, ⟨_, rfl, congrArg (U.i .i64) (by split at hc <;> (rw [if_neg (by omega)]))⟩, trivial⟩
  refine V_skip ?_
  simp only [decide_eq_false_iff_not] at hc
  have hpos1 := hc
  have heq : ∀ (c : Prop) [Decidable c] (a : Int), ¬ (if c then a else -1) < 0 → (if c then a else -1) = a ∧ c := by
    intro c _ a h
    split at h
    · rename_i hc; exact ⟨if_pos hc, hc⟩
    · omega
  obtain ⟨e1, c1⟩ := heq _ _ hc
  rw [e1]
  clear heq hc
  refine gGO ?_
  refine V_ret ?_
  exact ⟨trivial, ⟨_, rfl, congrArg (U.i .i64) (by rw [if_pos (by omega)]; omega)⟩, trivial⟩
theorem szParamS_step {us : List U} (hl : us.length ≤ big) (hz : ∀ a ∈ us, a.isSt = true ∧ a.sz = 4) (ih : ∀ a ∈ us, PSz 140 a) : PSz 83 (.sl 4 us) := by
  intro left hl0 hl1
  have hW : W (.sl 4 us) = us.length + Ws us := rfl
  have hb : (us.length : Int) ≤ 140737488355328 := by rw [big_eq] at hl; omega
  refine SpecP_intro Tryz.func83 rfl (by kernel_rfl) rfl fun A _ => ?_
  refine gGO ?_
  refine V_cond rfl (fun hc => ?_) (fun hc => ?_)
  · refine V_seq_region ?_
    refine gGO ?_
    refine V_ret ?_
    simp only [decide_eq_true_eq] at hc
    exact ⟨trivial, ⟨_, rfl, congrArg (U.i .i64) (by rw [if_neg (by omega)])⟩, trivial⟩
  refine V_skip ?_
  simp only [decide_eq_false_iff_not] at hc
  refine gGO ?_
  refine V_block ?_
  refine V_loop (α := Nat × Int)
    (fun x => ⟨[(0, .d (.sl 4 us)), (5, .d (.i .i64 x.1)), (1, .d (.i .i64 x.2))], [], Tryz.f83.ntmps⟩)
    (fun x => x.1 ≤ us.length ∧ 0 ≤ x.2 ∧ x.2 = left - us.length - Ws (us.take x.1))
    (fun x => us.length - x.1) (0, left - us.length) ⟨rfl, ⟨⟨rfl, rfl⟩, ⟨rfl, rfl⟩, ⟨rfl, rfl⟩, trivial⟩, ⟨[], rfl⟩, rfl⟩ ⟨by simp, by simp only; omega, by simp [Ws]⟩ ?_
  rintro ⟨k, l⟩ ⟨hk, hq0, hq1⟩
  simp only at hk hq0 hq1
  refine gGO ?_
  refine V_cond rfl (fun hc2 => ?_) (fun hc2 => ?_)
  · refine V_skip ?_
    simp only [decide_eq_true_eq] at hc2
    have hkl : k < us.length := by omega
    have hget : us[k]? = some us[k] := List.getElem?_eq_getElem hkl
    have hmem : us[k] ∈ us := List.getElem_mem hkl
    have htk := Ws_take_succ hget
    have hle := Ws_take_le us (k + 1)
    obtain ⟨hst, hsz⟩ := hz _ hmem
    refine V_seq (V_block (V_seq_region ?_))
    refine gGO ?_
    refine VO_q (Q_index rfl rfl TE.h TI.h (by omega) hget) rfl ?_
    refine VO_q (Q_load rfl TI.h hst hsz) rfl ?_
    refine gGO ?_
    refine VO_q (Q_call rfl (ih _ hmem l (by omega) (by omega)) vA) rfl ?_
    refine gGO ?_
    refine V_cond rfl (fun hc3 => ?_) (fun hc3 => ?_)
    · refine V_seq_region ?_
      refine gGO ?_
      refine V_ret ?_
      simp only [decide_eq_true_eq] at hc3
      exact ⟨trivial, ⟨_, rfl, congrArg (U.i .i64) (by
        rw [if_neg (by intro hle2; rw [if_pos (by omega)] at hc3; omega)])⟩, trivial⟩
    refine V_skip ?_
    simp only [decide_eq_false_iff_not] at hc3
    refine gGO ?_
    refine ⟨(k + 1, (if (W us[k] : Int) ≤ l then l - W us[k] else -1)), ?_, ?_, ⟨rfl, ⟨⟨rfl, rfl⟩, ⟨rfl, rfl⟩, ⟨rfl, rfl⟩, trivial⟩, ⟨[], rfl⟩, rfl⟩⟩
    · simp only
      refine ⟨by omega, by omega, ?_⟩
      rw [if_pos (by apply Classical.byContradiction; intro hn; rw [if_neg hn] at hc3; omega)]
      omega
    · simp only
      omega
  · refine V_exit ?_
    simp only [decide_eq_false_iff_not] at hc2
    have hkl : k = us.length := by omega
    subst hkl
    rw [List.take_length] at hq1
    show V _ _ _ _ _
    refine gGO ?_
    refine V_ret ?_
    exact ⟨trivial, ⟨_, rfl, congrArg (U.i .i64) (by rw [if_pos (by omega)]; omega)⟩, trivial⟩
theorem szParam_grp (u : U) : (wt (.st 12) u → PSz 140 u) := by
  refine U.ind (M := fun u => (wt (.st 12) u → PSz 140 u)) (fun u ih => ?_) u
  refine ?_
  · intro h
    obtain ⟨f0, f1, rfl, p0, p1⟩ := inv_Param h
    exact szParam_step p0 p1 (szType_all p1)
theorem szParam_all {u : U} (h : wt (.st 12) u) : PSz 140 u := (szParam_grp u) h
theorem szParamS_all {us : List U} (h : us.length ≤ big ∧ ∀ x ∈ us, wt (.st 12) x) : PSz 83 (.sl 4 us) := szParamS_step h.1 (fun a ha => ⟨wt_isSt (h.2 a ha), by rw [wt_sz a _ (h.2 a ha)]; rfl⟩) (fun a ha => szParam_all (h.2 a ha))
theorem szFunction_step {f0 : List UInt8} {f1 : List U} {f2 : List U} {f3 : List U} {f4 : U} {f5 : U} (h0 : f0.length ≤ big) (h1 : PSz 81 (.sl 1 f1)) (h2 : PSz 82 (.sl 4 f2)) (h3 : PSz 83 (.sl 4 f3)) (g4 : wt (.st 1) f4) (h4 : PSz 84 f4) (g5 : wt (.st 4) f5) (h5 : PSz 187 f5) : PSz 160 (.st [.s f0, .sl 1 f1, .sl 4 f2, .sl 4 f3, f4, f5]) := by
  intro left hl0 hl1
  have hW : W (.st [.s f0, .sl 1 f1, .sl 4 f2, .sl 4 f3, f4, f5]) = f0.length + (W (U.sl 1 f1) + (W (U.sl 4 f2) + (W (U.sl 4 f3) + (W f4 + (W f5 + 0))))) := rfl
  have hb0 : f0.length ≤ 140737488355328 := by rw [big_eq] at h0; exact h0
  obtain ⟨m4, hm4⟩ : ∃ m, W f4 = m := ⟨_, rfl⟩
  rw [hm4] at hW
  have h4 : ∀ l : Int, 0 ≤ l → l ≤ 4611686018427387904 → SpecP Tryz.prog 84 [.d f4, .d (.i .i64 l)] [.i .i64 (if (m4 : Int) ≤ l then l - m4 else -1)] := by rw [← hm4]; exact h4
  obtain ⟨e13_0, e13_1, e13_2, rfl, g13_0, g13_1, g13_2⟩ := inv_Type g4
  obtain ⟨m5, hm5⟩ : ∃ m, W f5 = m := ⟨_, rfl⟩
  rw [hm5] at hW
  have h5 : ∀ l : Int, 0 ≤ l → l ≤ 4611686018427387904 → SpecP Tryz.prog 187 [.d f5, .d (.i .i64 l)] [.i .i64 (if (m5 : Int) ≤ l then l - m5 else -1)] := by rw [← hm5]; exact h5
  obtain ⟨e14_0, e14_1, e14_2, e14_3, e14_4, e14_5, e14_6, rfl, g14_0, g14_1, g14_2, g14_3, g14_4, g14_5, g14_6⟩ := inv_Expr g5
  obtain ⟨e15_0, e15_1, e15_2, rfl, g15_0, g15_1, g15_2⟩ := inv_Type g14_4
  refine SpecP_intro Tryz.func160 rfl (by kernel_rfl) rfl fun A _ => ?_
  refine gGO ?_
  refine V_cond rfl (fun hc => ?_) (fun hc => ?_)
  · refine V_seq_region ?_
    refine gGO ?_
    refine V_ret ?_
    simp only [decide_eq_true_eq] at hc
    exact ⟨trivial, ⟨_, rfl, congrArg (U.i .i64) (by rw [if_neg (by omega)])⟩, trivial⟩
  refine V_skip ?_
  simp only [decide_eq_false_iff_not] at hc
  refine gGO ?_
  refine VO_q (Q_call rfl (h1 (left - (f0.length : Int)) (by omega) (by omega)) vA) rfl ?_
  refine gGO ?_
  refine V_cond rfl (fun hc => ?_) (fun hc => ?_)
  · refine V_seq_region ?_
    refine gGO ?_
    refine V_ret ?_
    simp only [decide_eq_true_eq] at hc
    exact ⟨trivial, ⟨_, rfl, congrArg (U.i .i64) (by split at hc <;> (rw [if_neg (by omega)]))⟩, trivial⟩
  refine V_skip ?_
  simp only [decide_eq_false_iff_not] at hc
  have hpos1 := hc
  have heq : ∀ (c : Prop) [Decidable c] (a : Int), ¬ (if c then a else -1) < 0 → (if c then a else -1) = a ∧ c := by
    intro c _ a h
    split at h
    · rename_i hc; exact ⟨if_pos hc, hc⟩
    · omega
  obtain ⟨e1, c1⟩ := heq _ _ hc
  rw [e1]
  clear heq hc
  refine gGO ?_
  refine VO_q (Q_call rfl (h2 ((left - (f0.length : Int)) - (W (U.sl 1 f1) : Int)) (by omega) (by omega)) vA) rfl ?_
  refine gGO ?_
  refine V_cond rfl (fun hc => ?_) (fun hc => ?_)
  · refine V_seq_region ?_
    refine gGO ?_
    refine V_ret ?_
    simp only [decide_eq_true_eq] at hc
    exact ⟨trivial, ⟨_, rfl, congrArg (U.i .i64) (by split at hc <;> (rw [if_neg (by omega)]))⟩, trivial⟩
  refine V_skip ?_
  simp only [decide_eq_false_iff_not] at hc
  have hpos2 := hc
  have heq : ∀ (c : Prop) [Decidable c] (a : Int), ¬ (if c then a else -1) < 0 → (if c then a else -1) = a ∧ c := by
    intro c _ a h
    split at h
    · rename_i hc; exact ⟨if_pos hc, hc⟩
    · omega
  obtain ⟨e2, c2⟩ := heq _ _ hc
  rw [e2]
  clear heq hc
  refine gGO ?_
  refine VO_q (Q_call rfl (h3 (((left - (f0.length : Int)) - (W (U.sl 1 f1) : Int)) - (W (U.sl 4 f2) : Int)) (by omega) (by omega)) vA) rfl ?_
  refine gGO ?_
  refine V_cond rfl (fun hc => ?_) (fun hc => ?_)
  · refine V_seq_region ?_
    refine gGO ?_
    refine V_ret ?_
    simp only [decide_eq_true_eq] at hc
    exact ⟨trivial, ⟨_, rfl, congrArg (U.i .i64) (by split at hc <;> (rw [if_neg (by omega)]))⟩, trivial⟩
  refine V_skip ?_
  simp only [decide_eq_false_iff_not] at hc
  have hpos3 := hc
  have heq : ∀ (c : Prop) [Decidable c] (a : Int), ¬ (if c then a else -1) < 0 → (if c then a else -1) = a ∧ c := by
    intro c _ a h
    split at h
    · rename_i hc; exact ⟨if_pos hc, hc⟩
    · omega
  obtain ⟨e3, c3⟩ := heq _ _ hc
  rw [e3]
  clear heq hc
  refine gGO ?_
  refine VO_q (Q_call rfl (h4 ((((left - (f0.length : Int)) - (W (U.sl 1 f1) : Int)) - (W (U.sl 4 f2) : Int)) - (W (U.sl 4 f3) : Int)) (by omega) (by omega)) vA) rfl ?_
  refine gGO ?_
  refine V_cond rfl (fun hc => ?_) (fun hc => ?_)
  · refine V_seq_region ?_
    refine gGO ?_
    refine V_ret ?_
    simp only [decide_eq_true_eq] at hc
    exact ⟨trivial, ⟨_, rfl, congrArg (U.i .i64) (by split at hc <;> (rw [if_neg (by omega)]))⟩, trivial⟩
  refine V_skip ?_
  simp only [decide_eq_false_iff_not] at hc
  have hpos4 := hc
  have heq : ∀ (c : Prop) [Decidable c] (a : Int), ¬ (if c then a else -1) < 0 → (if c then a else -1) = a ∧ c := by
    intro c _ a h
    split at h
    · rename_i hc; exact ⟨if_pos hc, hc⟩
    · omega
  obtain ⟨e4, c4⟩ := heq _ _ hc
  rw [e4]
  clear heq hc
  refine gGO ?_
  refine VO_q (Q_call rfl (h5 (((((left - (f0.length : Int)) - (W (U.sl 1 f1) : Int)) - (W (U.sl 4 f2) : Int)) - (W (U.sl 4 f3) : Int)) - (m4 : Int)) (by omega) (by omega)) vA) rfl ?_
  refine gGO ?_
  refine V_cond rfl (fun hc => ?_) (fun hc => ?_)
  · refine V_seq_region ?_
    refine gGO ?_
    refine V_ret ?_
    simp only [decide_eq_true_eq] at hc
    exact ⟨trivial, ⟨_, rfl, congrArg (U.i .i64) (by split at hc <;> (rw [if_neg (by omega)]))⟩, trivial⟩
  refine V_skip ?_
  simp only [decide_eq_false_iff_not] at hc
  have hpos5 := hc
  have heq : ∀ (c : Prop) [Decidable c] (a : Int), ¬ (if c then a else -1) < 0 → (if c then a else -1) = a ∧ c := by
    intro c _ a h
    split at h
    · rename_i hc; exact ⟨if_pos hc, hc⟩
    · omega
  obtain ⟨e5, c5⟩ := heq _ _ hc
  rw [e5]
  clear heq hc
  refine gGO ?_
  refine V_ret ?_
  exact ⟨trivial, ⟨_, rfl, congrArg (U.i .i64) (by rw [if_pos (by omega)]; omega)⟩, trivial⟩
theorem szFunctionS_step {us : List U} (hl : us.length ≤ big) (hz : ∀ a ∈ us, a.isSt = true ∧ a.sz = 16) (ih : ∀ a ∈ us, PSz 160 a) : PSz 108 (.sl 16 us) := by
  intro left hl0 hl1
  have hW : W (.sl 16 us) = us.length + Ws us := rfl
  have hb : (us.length : Int) ≤ 140737488355328 := by rw [big_eq] at hl; omega
  refine SpecP_intro Tryz.func108 rfl (by kernel_rfl) rfl fun A _ => ?_
  refine gGO ?_
  refine V_cond rfl (fun hc => ?_) (fun hc => ?_)
  · refine V_seq_region ?_
    refine gGO ?_
    refine V_ret ?_
    simp only [decide_eq_true_eq] at hc
    exact ⟨trivial, ⟨_, rfl, congrArg (U.i .i64) (by rw [if_neg (by omega)])⟩, trivial⟩
  refine V_skip ?_
  simp only [decide_eq_false_iff_not] at hc
  refine gGO ?_
  refine V_block ?_
  refine V_loop (α := Nat × Int)
    (fun x => ⟨[(0, .d (.sl 16 us)), (5, .d (.i .i64 x.1)), (1, .d (.i .i64 x.2))], [], Tryz.f108.ntmps⟩)
    (fun x => x.1 ≤ us.length ∧ 0 ≤ x.2 ∧ x.2 = left - us.length - Ws (us.take x.1))
    (fun x => us.length - x.1) (0, left - us.length) ⟨rfl, ⟨⟨rfl, rfl⟩, ⟨rfl, rfl⟩, ⟨rfl, rfl⟩, trivial⟩, ⟨[], rfl⟩, rfl⟩ ⟨by simp, by simp only; omega, by simp [Ws]⟩ ?_
  rintro ⟨k, l⟩ ⟨hk, hq0, hq1⟩
  simp only at hk hq0 hq1
  refine gGO ?_
  refine V_cond rfl (fun hc2 => ?_) (fun hc2 => ?_)
  · refine V_skip ?_
    simp only [decide_eq_true_eq] at hc2
    have hkl : k < us.length := by omega
    have hget : us[k]? = some us[k] := List.getElem?_eq_getElem hkl
    have hmem : us[k] ∈ us := List.getElem_mem hkl
    have htk := Ws_take_succ hget
    have hle := Ws_take_le us (k + 1)
    obtain ⟨hst, hsz⟩ := hz _ hmem
    refine V_seq (V_block (V_seq_region ?_))
    refine gGO ?_
    refine VO_q (Q_index rfl rfl TE.h TI.h (by omega) hget) rfl ?_
    refine VO_q (Q_load rfl TI.h hst hsz) rfl ?_
    refine gGO ?_
    refine VO_q (Q_call rfl (ih _ hmem l (by omega) (by omega)) vA) rfl ?_
    refine gGO ?_
    refine V_cond rfl (fun hc3 => ?_) (fun hc3 => ?_)
    · refine V_seq_region ?_
      refine gGO ?_
      refine V_ret ?_
      simp only [decide_eq_true_eq] at hc3
      exact ⟨trivial, ⟨_, rfl, congrArg (U.i .i64) (by
        rw [if_neg (by intro hle2; rw [if_pos (by omega)] at hc3; omega)])⟩, trivial⟩
    refine V_skip ?_
    simp only [decide_eq_false_iff_not] at hc3
    refine gGO ?_
    refine ⟨(k + 1, (if (W us[k] : Int) ≤ l then l - W us[k] else -1)), ?_, ?_, ⟨rfl, ⟨⟨rfl, rfl⟩, ⟨rfl, rfl⟩, ⟨rfl, rfl⟩, trivial⟩, ⟨[], rfl⟩, rfl⟩⟩
    · simp only
      refine ⟨by omega, by omega, ?_⟩
      rw [if_pos (by apply Classical.byContradiction; intro hn; rw [if_neg hn] at hc3; omega)]
      omega
    · simp only
      omega
  · refine V_exit ?_
    simp only [decide_eq_false_iff_not] at hc2
    have hkl : k = us.length := by omega
    subst hkl
    rw [List.take_length] at hq1
    show V _ _ _ _ _
    refine gGO ?_
    refine V_ret ?_
    exact ⟨trivial, ⟨_, rfl, congrArg (U.i .i64) (by rw [if_pos (by omega)]; omega)⟩, trivial⟩
theorem szFunction_grp (u : U) : (wt (.st 13) u → PSz 160 u) := by
  refine U.ind (M := fun u => (wt (.st 13) u → PSz 160 u)) (fun u ih => ?_) u
  refine ?_
  · intro h
    obtain ⟨f0, f1, f2, f3, f4, f5, rfl, p0, p1, p2, p3, p4, p5⟩ := inv_Function h
    exact szFunction_step p0 (szStringS_all p1) (szBoundS_all p2) (szParamS_all p3) p4 (szType_all p4) p5 (szExpr_all p5)
theorem szFunction_all {u : U} (h : wt (.st 13) u) : PSz 160 u := (szFunction_grp u) h
theorem szFunctionS_all {us : List U} (h : us.length ≤ big ∧ ∀ x ∈ us, wt (.st 13) x) : PSz 108 (.sl 16 us) := szFunctionS_step h.1 (fun a ha => ⟨wt_isSt (h.2 a ha), by rw [wt_sz a _ (h.2 a ha)]; rfl⟩) (fun a ha => szFunction_all (h.2 a ha))
theorem szPackage_step {f0 : List UInt8} {f1 : List U} {f2 : List U} {f3 : List U} {f4 : List U} {f5 : List U} (h0 : f0.length ≤ big) (h1 : PSz 81 (.sl 1 f1)) (h2 : PSz 105 (.sl 5 f2)) (h3 : PSz 106 (.sl 3 f3)) (h4 : PSz 107 (.sl 12 f4)) (h5 : PSz 108 (.sl 16 f5)) : PSz 67 (.st [.s f0, .sl 1 f1, .sl 5 f2, .sl 3 f3, .sl 12 f4, .sl 16 f5]) := by
  intro left hl0 hl1
  have hW : W (.st [.s f0, .sl 1 f1, .sl 5 f2, .sl 3 f3, .sl 12 f4, .sl 16 f5]) = f0.length + (W (U.sl 1 f1) + (W (U.sl 5 f2) + (W (U.sl 3 f3) + (W (U.sl 12 f4) + (W (U.sl 16 f5) + 0))))) := rfl
  have hb0 : f0.length ≤ 140737488355328 := by rw [big_eq] at h0; exact h0
  refine SpecP_intro Tryz.func67 rfl (by kernel_rfl) rfl fun A _ => ?_
  refine gGO ?_
  refine V_cond rfl (fun hc => ?_) (fun hc => ?_)
  · refine V_seq_region ?_
    refine gGO ?_
    refine V_ret ?_
    simp only [decide_eq_true_eq] at hc
    exact ⟨trivial, ⟨_, rfl, congrArg (U.i .i64) (by rw [if_neg (by omega)])⟩, trivial⟩
  refine V_skip ?_
  simp only [decide_eq_false_iff_not] at hc
  refine gGO ?_
  refine VO_q (Q_call rfl (h1 (left - (f0.length : Int)) (by omega) (by omega)) vA) rfl ?_
  refine gGO ?_
  refine V_cond rfl (fun hc => ?_) (fun hc => ?_)
  · refine V_seq_region ?_
    refine gGO ?_
    refine V_ret ?_
    simp only [decide_eq_true_eq] at hc
    exact ⟨trivial, ⟨_, rfl, congrArg (U.i .i64) (by split at hc <;> (rw [if_neg (by omega)]))⟩, trivial⟩
  refine V_skip ?_
  simp only [decide_eq_false_iff_not] at hc
  have hpos1 := hc
  have heq : ∀ (c : Prop) [Decidable c] (a : Int), ¬ (if c then a else -1) < 0 → (if c then a else -1) = a ∧ c := by
    intro c _ a h
    split at h
    · rename_i hc; exact ⟨if_pos hc, hc⟩
    · omega
  obtain ⟨e1, c1⟩ := heq _ _ hc
  rw [e1]
  clear heq hc
  refine gGO ?_
  refine VO_q (Q_call rfl (h2 ((left - (f0.length : Int)) - (W (U.sl 1 f1) : Int)) (by omega) (by omega)) vA) rfl ?_
  refine gGO ?_
  refine V_cond rfl (fun hc => ?_) (fun hc => ?_)
  · refine V_seq_region ?_
    refine gGO ?_
    refine V_ret ?_
    simp only [decide_eq_true_eq] at hc
    exact ⟨trivial, ⟨_, rfl, congrArg (U.i .i64) (by split at hc <;> (rw [if_neg (by omega)]))⟩, trivial⟩
  refine V_skip ?_
  simp only [decide_eq_false_iff_not] at hc
  have hpos2 := hc
  have heq : ∀ (c : Prop) [Decidable c] (a : Int), ¬ (if c then a else -1) < 0 → (if c then a else -1) = a ∧ c := by
    intro c _ a h
    split at h
    · rename_i hc; exact ⟨if_pos hc, hc⟩
    · omega
  obtain ⟨e2, c2⟩ := heq _ _ hc
  rw [e2]
  clear heq hc
  refine gGO ?_
  refine VO_q (Q_call rfl (h3 (((left - (f0.length : Int)) - (W (U.sl 1 f1) : Int)) - (W (U.sl 5 f2) : Int)) (by omega) (by omega)) vA) rfl ?_
  refine gGO ?_
  refine V_cond rfl (fun hc => ?_) (fun hc => ?_)
  · refine V_seq_region ?_
    refine gGO ?_
    refine V_ret ?_
    simp only [decide_eq_true_eq] at hc
    exact ⟨trivial, ⟨_, rfl, congrArg (U.i .i64) (by split at hc <;> (rw [if_neg (by omega)]))⟩, trivial⟩
  refine V_skip ?_
  simp only [decide_eq_false_iff_not] at hc
  have hpos3 := hc
  have heq : ∀ (c : Prop) [Decidable c] (a : Int), ¬ (if c then a else -1) < 0 → (if c then a else -1) = a ∧ c := by
    intro c _ a h
    split at h
    · rename_i hc; exact ⟨if_pos hc, hc⟩
    · omega
  obtain ⟨e3, c3⟩ := heq _ _ hc
  rw [e3]
  clear heq hc
  refine gGO ?_
  refine VO_q (Q_call rfl (h4 ((((left - (f0.length : Int)) - (W (U.sl 1 f1) : Int)) - (W (U.sl 5 f2) : Int)) - (W (U.sl 3 f3) : Int)) (by omega) (by omega)) vA) rfl ?_
  refine gGO ?_
  refine V_cond rfl (fun hc => ?_) (fun hc => ?_)
  · refine V_seq_region ?_
    refine gGO ?_
    refine V_ret ?_
    simp only [decide_eq_true_eq] at hc
    exact ⟨trivial, ⟨_, rfl, congrArg (U.i .i64) (by split at hc <;> (rw [if_neg (by omega)]))⟩, trivial⟩
  refine V_skip ?_
  simp only [decide_eq_false_iff_not] at hc
  have hpos4 := hc
  have heq : ∀ (c : Prop) [Decidable c] (a : Int), ¬ (if c then a else -1) < 0 → (if c then a else -1) = a ∧ c := by
    intro c _ a h
    split at h
    · rename_i hc; exact ⟨if_pos hc, hc⟩
    · omega
  obtain ⟨e4, c4⟩ := heq _ _ hc
  rw [e4]
  clear heq hc
  refine gGO ?_
  refine VO_q (Q_call rfl (h5 (((((left - (f0.length : Int)) - (W (U.sl 1 f1) : Int)) - (W (U.sl 5 f2) : Int)) - (W (U.sl 3 f3) : Int)) - (W (U.sl 12 f4) : Int)) (by omega) (by omega)) vA) rfl ?_
  refine gGO ?_
  refine V_cond rfl (fun hc => ?_) (fun hc => ?_)
  · refine V_seq_region ?_
    refine gGO ?_
    refine V_ret ?_
    simp only [decide_eq_true_eq] at hc
    exact ⟨trivial, ⟨_, rfl, congrArg (U.i .i64) (by split at hc <;> (rw [if_neg (by omega)]))⟩, trivial⟩
  refine V_skip ?_
  simp only [decide_eq_false_iff_not] at hc
  have hpos5 := hc
  have heq : ∀ (c : Prop) [Decidable c] (a : Int), ¬ (if c then a else -1) < 0 → (if c then a else -1) = a ∧ c := by
    intro c _ a h
    split at h
    · rename_i hc; exact ⟨if_pos hc, hc⟩
    · omega
  obtain ⟨e5, c5⟩ := heq _ _ hc
  rw [e5]
  clear heq hc
  refine gGO ?_
  refine V_ret ?_
  exact ⟨trivial, ⟨_, rfl, congrArg (U.i .i64) (by rw [if_pos (by omega)]; omega)⟩, trivial⟩
theorem szPackageS_step {us : List U} (hl : us.length ≤ big) (hz : ∀ a ∈ us, a.isSt = true ∧ a.sz = 6) (ih : ∀ a ∈ us, PSz 67 a) : PSz 25 (.sl 6 us) := by
  intro left hl0 hl1
  have hW : W (.sl 6 us) = us.length + Ws us := rfl
  have hb : (us.length : Int) ≤ 140737488355328 := by rw [big_eq] at hl; omega
  refine SpecP_intro Tryz.func25 rfl (by kernel_rfl) rfl fun A _ => ?_
  refine gGO ?_
  refine V_cond rfl (fun hc => ?_) (fun hc => ?_)
  · refine V_seq_region ?_
    refine gGO ?_
    refine V_ret ?_
    simp only [decide_eq_true_eq] at hc
    exact ⟨trivial, ⟨_, rfl, congrArg (U.i .i64) (by rw [if_neg (by omega)])⟩, trivial⟩
  refine V_skip ?_
  simp only [decide_eq_false_iff_not] at hc
  refine gGO ?_
  refine V_block ?_
  refine V_loop (α := Nat × Int)
    (fun x => ⟨[(0, .d (.sl 6 us)), (5, .d (.i .i64 x.1)), (1, .d (.i .i64 x.2))], [], Tryz.f25.ntmps⟩)
    (fun x => x.1 ≤ us.length ∧ 0 ≤ x.2 ∧ x.2 = left - us.length - Ws (us.take x.1))
    (fun x => us.length - x.1) (0, left - us.length) ⟨rfl, ⟨⟨rfl, rfl⟩, ⟨rfl, rfl⟩, ⟨rfl, rfl⟩, trivial⟩, ⟨[], rfl⟩, rfl⟩ ⟨by simp, by simp only; omega, by simp [Ws]⟩ ?_
  rintro ⟨k, l⟩ ⟨hk, hq0, hq1⟩
  simp only at hk hq0 hq1
  refine gGO ?_
  refine V_cond rfl (fun hc2 => ?_) (fun hc2 => ?_)
  · refine V_skip ?_
    simp only [decide_eq_true_eq] at hc2
    have hkl : k < us.length := by omega
    have hget : us[k]? = some us[k] := List.getElem?_eq_getElem hkl
    have hmem : us[k] ∈ us := List.getElem_mem hkl
    have htk := Ws_take_succ hget
    have hle := Ws_take_le us (k + 1)
    obtain ⟨hst, hsz⟩ := hz _ hmem
    refine V_seq (V_block (V_seq_region ?_))
    refine gGO ?_
    refine VO_q (Q_index rfl rfl TE.h TI.h (by omega) hget) rfl ?_
    refine VO_q (Q_load rfl TI.h hst hsz) rfl ?_
    refine gGO ?_
    refine VO_q (Q_call rfl (ih _ hmem l (by omega) (by omega)) vA) rfl ?_
    refine gGO ?_
    refine V_cond rfl (fun hc3 => ?_) (fun hc3 => ?_)
    · refine V_seq_region ?_
      refine gGO ?_
      refine V_ret ?_
      simp only [decide_eq_true_eq] at hc3
      exact ⟨trivial, ⟨_, rfl, congrArg (U.i .i64) (by
        rw [if_neg (by intro hle2; rw [if_pos (by omega)] at hc3; omega)])⟩, trivial⟩
    refine V_skip ?_
    simp only [decide_eq_false_iff_not] at hc3
    refine gGO ?_
    refine ⟨(k + 1, (if (W us[k] : Int) ≤ l then l - W us[k] else -1)), ?_, ?_, ⟨rfl, ⟨⟨rfl, rfl⟩, ⟨rfl, rfl⟩, ⟨rfl, rfl⟩, trivial⟩, ⟨[], rfl⟩, rfl⟩⟩
    · simp only
      refine ⟨by omega, by omega, ?_⟩
      rw [if_pos (by apply Classical.byContradiction; intro hn; rw [if_neg hn] at hc3; omega)]
      omega
    · simp only
      omega
  · refine V_exit ?_
    simp only [decide_eq_false_iff_not] at hc2
    have hkl : k = us.length := by omega
    subst hkl
    rw [List.take_length] at hq1
    show V _ _ _ _ _
    refine gGO ?_
    refine V_ret ?_
    exact ⟨trivial, ⟨_, rfl, congrArg (U.i .i64) (by rw [if_pos (by omega)]; omega)⟩, trivial⟩
theorem szPackage_grp (u : U) : (wt (.st 14) u → PSz 67 u) := by
  refine U.ind (M := fun u => (wt (.st 14) u → PSz 67 u)) (fun u ih => ?_) u
  refine ?_
  · intro h
    obtain ⟨f0, f1, f2, f3, f4, f5, rfl, p0, p1, p2, p3, p4, p5⟩ := inv_Package h
    exact szPackage_step p0 (szStringS_all p1) (szTraitS_all p2) (szDataTypeS_all p3) (szInstanceS_all p4) (szFunctionS_all p5)
theorem szPackage_all {u : U} (h : wt (.st 14) u) : PSz 67 u := (szPackage_grp u) h
theorem szPackageS_all {us : List U} (h : us.length ≤ big ∧ ∀ x ∈ us, wt (.st 14) x) : PSz 25 (.sl 6 us) := szPackageS_step h.1 (fun a ha => ⟨wt_isSt (h.2 a ha), by rw [wt_sz a _ (h.2 a ha)]; rfl⟩) (fun a ha => szPackage_all (h.2 a ha))
theorem szProgram_step {f0 : List U} (h0 : PSz 25 (.sl 6 f0)) : PSz 5 (.st [.sl 6 f0]) := by
  intro left hl0 hl1
  have hW : W (.st [.sl 6 f0]) = W (U.sl 6 f0) + 0 := rfl
  refine SpecP_intro Tryz.func5 rfl (by kernel_rfl) rfl fun A _ => ?_
  refine gGO ?_
  refine VO_q (Q_call rfl (h0 left (by omega) (by omega)) vA) rfl ?_
  refine gGO ?_
  refine V_cond rfl (fun hc => ?_) (fun hc => ?_)
  · refine V_seq_region ?_
    refine gGO ?_
    refine V_ret ?_
    simp only [decide_eq_true_eq] at hc
    exact ⟨trivial, ⟨_, rfl, congrArg (U.i .i64) (by split at hc <;> (rw [if_neg (by omega)]))⟩, trivial⟩
  refine V_skip ?_
  simp only [decide_eq_false_iff_not] at hc
  have hpos0 := hc
  have heq : ∀ (c : Prop) [Decidable c] (a : Int), ¬ (if c then a else -1) < 0 → (if c then a else -1) = a ∧ c := by
    intro c _ a h
    split at h
    · rename_i hc; exact ⟨if_pos hc, hc⟩
    · omega
  obtain ⟨e0, c0⟩ := heq _ _ hc
  rw [e0]
  clear heq hc
  refine gGO ?_
  refine V_ret ?_
  exact ⟨trivial, ⟨_, rfl, congrArg (U.i .i64) (by rw [if_pos (by omega)]; omega)⟩, trivial⟩
theorem szProgram_grp (u : U) : (wt (.st 15) u → PSz 5 u) := by
  refine U.ind (M := fun u => (wt (.st 15) u → PSz 5 u)) (fun u ih => ?_) u
  refine ?_
  · intro h
    obtain ⟨f0, rfl, p0⟩ := inv_Program h
    exact szProgram_step (szPackageS_all p0)
theorem szProgram_all {u : U} (h : wt (.st 15) u) : PSz 5 u := (szProgram_grp u) h
theorem eqType_step {f0 : Int} {f1 : List UInt8} {f2 : List U} {d0 : Int} {d1 : List UInt8} {d2 : List U} (h1 : f1.length ≤ big) (k1 : d1.length ≤ big) (h2 : PEq 153 (.sl 3 f2) (.sl 3 d2)) : PEq 103 (.st [.i .i64 f0, .s f1, .sl 3 f2]) (.st [.i .i64 d0, .s d1, .sl 3 d2]) := by
  refine SpecP_intro Tryz.func103 rfl (by kernel_rfl) rfl fun A _ => ?_
  refine gGO ?_
  refine V_cond rfl (fun hc => ?_) (fun hc => ?_)
  · refine gREG ?_
    refine gGO ?_
    refine V_ret ?_
    exact ⟨trivial, ⟨_, rfl, congrArg U.b (deq_false.2 (by intro h; injection h with h; injection h with q0 h; injection q0 with _ hk; simp [hk] at hc)).symm⟩, trivial⟩
  refine V_skip ?_
  have e0 := (by simpa using hc : f0 = d0)
  clear hc
  refine gGO ?_
  refine V_cond rfl (fun hc => ?_) (fun hc => ?_)
  · refine gREG ?_
    refine gGO ?_
    refine V_ret ?_
    exact ⟨trivial, ⟨_, rfl, congrArg U.b (deq_false.2 (by intro h; injection h with h; injection h with q0 h; injection h with q1 h; injection q1 with hk; simp [hk] at hc)).symm⟩, trivial⟩
  refine V_skip ?_
  have e1 := (by simpa using hc : f1 = d1)
  clear hc
  refine gGO ?_
  (first | refine VO_q (Q_call rfl h2 vA) rfl ?_ | refine VQ_q (Q_call rfl h2 vA) rfl ?_ | (refine VO_bare rfl rfl rfl rfl ?_; refine VO_q (Q_call rfl h2 vA) rfl ?_) | refine VQ_run rfl rfl rfl rfl (Q_call rfl h2 vA) rfl ?_)
  refine gGO ?_
  refine V_cond rfl (fun hc => ?_) (fun hc => ?_)
  · refine gREG ?_
    refine gGO ?_
    refine V_ret ?_
    exact ⟨trivial, ⟨_, rfl, congrArg U.b (deq_false.2 (by intro h; injection h with h; injection h with q0 h; injection h with q1 h; injection h with q2 h; rw [q2, deq_self] at hc; cases hc)).symm⟩, trivial⟩
  refine V_skip ?_
  have e2 := deq_true.1 (by simpa using hc : deq _ _ = true)
  clear hc
  refine gGO ?_
  refine V_ret ?_
  exact ⟨trivial, ⟨_, rfl, congrArg U.b (deq_true.2 (by rw [e0, e1, e2])).symm⟩, trivial⟩
theorem eqTypeS_step {us vs : List U} (hb1 : us.length ≤ big) (hb2 : vs.length ≤ big) (hz : ∀ a ∈ us, a.isSt = true ∧ a.sz = 3) (hz2 : ∀ a ∈ vs, a.isSt = true ∧ a.sz = 3) (ih : ∀ a ∈ us, ∀ b ∈ vs, PEq 103 a b) : PEq 153 (.sl 3 us) (.sl 3 vs) := by
  rw [big_eq] at hb1 hb2
  refine SpecP_intro Tryz.func153 rfl (by kernel_rfl) rfl fun A _ => ?_
  refine gGO ?_
  refine V_cond rfl (fun hc => ?_) (fun hc => ?_)
  · refine gREG ?_
    refine gGO ?_
    refine V_ret ?_
    exact ⟨trivial, ⟨_, rfl, congrArg U.b (deq_false.2 (by intro h; injection h with _ h; subst h; simp at hc)).symm⟩, trivial⟩
  refine V_skip ?_
  have hll : us.length = vs.length := by simp at hc; omega
  refine gGO ?_
  refine V_block ?_
  refine V_loop (α := Nat)
    (fun k => ⟨[(0, .d (.sl 3 us)), (1, .d (.sl 3 vs)), (5, .d (.i .i64 k))], [], Tryz.f153.ntmps⟩)
    (fun k => k ≤ us.length ∧ ∀ j, j < k → us[j]? = vs[j]?)
    (fun k => us.length - k) 0 ⟨rfl, ⟨⟨rfl, rfl⟩, ⟨rfl, rfl⟩, ⟨rfl, rfl⟩, trivial⟩, ⟨[], rfl⟩, rfl⟩ ⟨by simp, by simp⟩ ?_
  rintro k ⟨hk, hsame⟩
  refine gGO ?_
  refine V_cond rfl (fun hc2 => ?_) (fun hc2 => ?_)
  · refine V_skip ?_
    simp only [decide_eq_true_eq] at hc2
    have hkl : k < us.length := by omega
    have hkv : k < vs.length := by omega
    have hget : us[k]? = some us[k] := List.getElem?_eq_getElem hkl
    have hgev : vs[k]? = some vs[k] := List.getElem?_eq_getElem hkv
    have hmem : us[k] ∈ us := List.getElem_mem hkl
    have hmev : vs[k] ∈ vs := List.getElem_mem hkv
    obtain ⟨hst, hsz⟩ := hz _ hmem
    obtain ⟨hst2, hsz2⟩ := hz2 _ hmev
    refine V_seq (V_block ?_)
    refine gGO ?_
    (first | refine VO_q (Q_index rfl rfl TE.h TI.h (by omega) hget) rfl ?_ | refine VQ_q (Q_index rfl rfl TE.h TI.h (by omega) hget) rfl ?_ | (refine VO_bare rfl rfl rfl rfl ?_; refine VO_q (Q_index rfl rfl TE.h TI.h (by omega) hget) rfl ?_) | refine VQ_run rfl rfl rfl rfl (Q_index rfl rfl TE.h TI.h (by omega) hget) rfl ?_)
    (first | refine VO_q (Q_load rfl TI.h hst hsz) rfl ?_ | refine VQ_q (Q_load rfl TI.h hst hsz) rfl ?_ | (refine VO_bare rfl rfl rfl rfl ?_; refine VO_q (Q_load rfl TI.h hst hsz) rfl ?_) | refine VQ_run rfl rfl rfl rfl (Q_load rfl TI.h hst hsz) rfl ?_)
    refine gGO ?_
    (first | refine VO_q (Q_index rfl rfl TE.h TI.h (by omega) hgev) rfl ?_ | refine VQ_q (Q_index rfl rfl TE.h TI.h (by omega) hgev) rfl ?_ | (refine VO_bare rfl rfl rfl rfl ?_; refine VO_q (Q_index rfl rfl TE.h TI.h (by omega) hgev) rfl ?_) | refine VQ_run rfl rfl rfl rfl (Q_index rfl rfl TE.h TI.h (by omega) hgev) rfl ?_)
    (first | refine VO_q (Q_load rfl TI.h hst2 hsz2) rfl ?_ | refine VQ_q (Q_load rfl TI.h hst2 hsz2) rfl ?_ | (refine VO_bare rfl rfl rfl rfl ?_; refine VO_q (Q_load rfl TI.h hst2 hsz2) rfl ?_) | refine VQ_run rfl rfl rfl rfl (Q_load rfl TI.h hst2 hsz2) rfl ?_)
    (first | refine VO_q (Q_call rfl (ih _ hmem _ hmev) vA) rfl ?_ | refine VQ_q (Q_call rfl (ih _ hmem _ hmev) vA) rfl ?_ | (refine VO_bare rfl rfl rfl rfl ?_; refine VO_q (Q_call rfl (ih _ hmem _ hmev) vA) rfl ?_) | refine VQ_run rfl rfl rfl rfl (Q_call rfl (ih _ hmem _ hmev) vA) rfl ?_)
    refine gGO ?_
    refine V_cond rfl (fun hc3 => ?_) (fun hc3 => ?_)
    · refine gREG ?_
      refine gGO ?_
      refine V_ret ?_
      exact ⟨trivial, ⟨_, rfl, congrArg U.b (deq_false.2 (by intro h; injection h with _ h; subst h; rw [deq_self] at hc3; cases hc3)).symm⟩, trivial⟩
    refine V_skip ?_
    have heq : us[k] = vs[k] := deq_true.1 (by simpa using hc3)
    refine gGO ?_
    refine ⟨k + 1, ⟨by omega, fun j hj => ?_⟩, by omega, ⟨rfl, ⟨⟨rfl, rfl⟩, ⟨rfl, rfl⟩, ⟨rfl, rfl⟩, trivial⟩, ⟨[], rfl⟩, rfl⟩⟩
    by_cases hjk : j = k
    · subst hjk; rw [hget, hgev, heq]
    · exact hsame j (by omega)
  · refine V_exit ?_
    simp only [decide_eq_false_iff_not] at hc2
    have hkl : k = us.length := by omega
    subst hkl
    have hall : us = vs := by
      apply List.ext_getElem?
      intro j
      by_cases hj : j < us.length
      · exact hsame j hj
      · rw [List.getElem?_eq_none (by omega), List.getElem?_eq_none (by omega)]
    show V _ _ _ _ _
    refine gGO ?_
    refine V_ret ?_
    exact ⟨trivial, ⟨_, rfl, congrArg U.b (deq_true.2 (by rw [hall])).symm⟩, trivial⟩
theorem eqType_grp (u : U) : (∀ v, wt (.st 1) u → wt (.st 1) v → PEq 103 u v) := by
  refine U.ind (M := fun u => (∀ v, wt (.st 1) u → wt (.st 1) v → PEq 103 u v)) (fun u ih => ?_) u
  refine ?_
  · intro v h h2
    obtain ⟨f0, f1, f2, rfl, p0, p1, p2⟩ := inv_Type h
    obtain ⟨d0, d1, d2, rfl, q0, q1, q2⟩ := inv_Type h2
    exact eqType_step p1 q1 (eqTypeS_step p2.1 q2.1 (fun a ha => ⟨wt_isSt (p2.2 a ha), by rw [wt_sz a _ (p2.2 a ha)]; rfl⟩) (fun a ha => ⟨wt_isSt (q2.2 a ha), by rw [wt_sz a _ (q2.2 a ha)]; rfl⟩) (fun a ha b hb => (ih a (by have := nn_of_mem ha; simp only [U.nn, U.nns]; omega)) b (p2.2 a ha) (q2.2 b hb)))
theorem eqType_all {u v : U} (h : wt (.st 1) u) (h2 : wt (.st 1) v) : PEq 103 u v := (eqType_grp u) v h h2
theorem eqTypeS_all {us vs : List U} (h : us.length ≤ big ∧ ∀ x ∈ us, wt (.st 1) x) (h2 : vs.length ≤ big ∧ ∀ x ∈ vs, wt (.st 1) x) : PEq 153 (.sl 3 us) (.sl 3 vs) := eqTypeS_step h.1 h2.1 (fun a ha => ⟨wt_isSt (h.2 a ha), by rw [wt_sz a _ (h.2 a ha)]; rfl⟩) (fun a ha => ⟨wt_isSt (h2.2 a ha), by rw [wt_sz a _ (h2.2 a ha)]; rfl⟩) (fun a ha b hb => eqType_all (h.2 a ha) (h2.2 b hb))
theorem eqStringS_step {us vs : List U} (hb1 : us.length ≤ big) (hb2 : vs.length ≤ big) (hz : ∀ a ∈ us, ∃ l : List UInt8, a = .s l ∧ l.length ≤ big) (hz2 : ∀ a ∈ vs, ∃ l : List UInt8, a = .s l ∧ l.length ≤ big) : PEq 100 (.sl 1 us) (.sl 1 vs) := by
  rw [big_eq] at hb1 hb2
  refine SpecP_intro Tryz.func100 rfl (by kernel_rfl) rfl fun A _ => ?_
  refine gGO ?_
  refine V_cond rfl (fun hc => ?_) (fun hc => ?_)
  · refine gREG ?_
    refine gGO ?_
    refine V_ret ?_
    exact ⟨trivial, ⟨_, rfl, congrArg U.b (deq_false.2 (by intro h; injection h with _ h; subst h; simp at hc)).symm⟩, trivial⟩
  refine V_skip ?_
  have hll : us.length = vs.length := by simp at hc; omega
  refine gGO ?_
  refine V_block ?_
  refine V_loop (α := Nat)
    (fun k => ⟨[(0, .d (.sl 1 us)), (1, .d (.sl 1 vs)), (5, .d (.i .i64 k))], [], Tryz.f100.ntmps⟩)
    (fun k => k ≤ us.length ∧ ∀ j, j < k → us[j]? = vs[j]?)
    (fun k => us.length - k) 0 ⟨rfl, ⟨⟨rfl, rfl⟩, ⟨rfl, rfl⟩, ⟨rfl, rfl⟩, trivial⟩, ⟨[], rfl⟩, rfl⟩ ⟨by simp, by simp⟩ ?_
  rintro k ⟨hk, hsame⟩
  refine gGO ?_
  refine V_cond rfl (fun hc2 => ?_) (fun hc2 => ?_)
  · refine V_skip ?_
    simp only [decide_eq_true_eq] at hc2
    have hkl : k < us.length := by omega
    have hkv : k < vs.length := by omega
    have hget : us[k]? = some us[k] := List.getElem?_eq_getElem hkl
    have hgev : vs[k]? = some vs[k] := List.getElem?_eq_getElem hkv
    have hmem : us[k] ∈ us := List.getElem_mem hkl
    have hmev : vs[k] ∈ vs := List.getElem_mem hkv
    obtain ⟨l1, h1, _⟩ := hz _ hmem
    obtain ⟨l2, h2, _⟩ := hz2 _ hmev
    have hg1 : us[k]? = some (.s l1) := by rw [hget, h1]
    have hg2 : vs[k]? = some (.s l2) := by rw [hgev, h2]
    refine V_seq (V_block ?_)
    refine gGO ?_
    (first | refine VO_q (Q_index rfl rfl TE.h TI.h (by omega) hg1) rfl ?_ | refine VQ_q (Q_index rfl rfl TE.h TI.h (by omega) hg1) rfl ?_ | (refine VO_bare rfl rfl rfl rfl ?_; refine VO_q (Q_index rfl rfl TE.h TI.h (by omega) hg1) rfl ?_) | refine VQ_run rfl rfl rfl rfl (Q_index rfl rfl TE.h TI.h (by omega) hg1) rfl ?_)
    refine gGO ?_
    (first | refine VO_q (Q_index rfl rfl TE.h TI.h (by omega) hg2) rfl ?_ | refine VQ_q (Q_index rfl rfl TE.h TI.h (by omega) hg2) rfl ?_ | (refine VO_bare rfl rfl rfl rfl ?_; refine VO_q (Q_index rfl rfl TE.h TI.h (by omega) hg2) rfl ?_) | refine VQ_run rfl rfl rfl rfl (Q_index rfl rfl TE.h TI.h (by omega) hg2) rfl ?_)
    refine gGO ?_
    refine V_cond rfl (fun hc3 => ?_) (fun hc3 => ?_)
    · refine gREG ?_
      refine gGO ?_
      refine V_ret ?_
      exact ⟨trivial, ⟨_, rfl, congrArg U.b (deq_false.2 (by intro h; injection h with _ h; subst h; rw [hg1] at hg2; injection hg2 with hg2; injection hg2; simp_all)).symm⟩, trivial⟩
    refine V_skip ?_
    have heq : us[k] = vs[k] := by rw [h1, h2]; simp at hc3; rw [hc3]
    refine gGO ?_
    refine ⟨k + 1, ⟨by omega, fun j hj => ?_⟩, by omega, ⟨rfl, ⟨⟨rfl, rfl⟩, ⟨rfl, rfl⟩, ⟨rfl, rfl⟩, trivial⟩, ⟨[], rfl⟩, rfl⟩⟩
    by_cases hjk : j = k
    · subst hjk; rw [hget, hgev, heq]
    · exact hsame j (by omega)
  · refine V_exit ?_
    simp only [decide_eq_false_iff_not] at hc2
    have hkl : k = us.length := by omega
    subst hkl
    have hall : us = vs := by
      apply List.ext_getElem?
      intro j
      by_cases hj : j < us.length
      · exact hsame j hj
      · rw [List.getElem?_eq_none (by omega), List.getElem?_eq_none (by omega)]
    show V _ _ _ _ _
    refine gGO ?_
    refine V_ret ?_
    exact ⟨trivial, ⟨_, rfl, congrArg U.b (deq_true.2 (by rw [hall])).symm⟩, trivial⟩
theorem eqStringS_all {us vs : List U} (h : us.length ≤ big ∧ ∀ x ∈ us, wt .str x) (h2 : vs.length ≤ big ∧ ∀ x ∈ vs, wt .str x) : PEq 100 (.sl 1 us) (.sl 1 vs) := eqStringS_step h.1 h2.1 (fun a ha => inv_str (h.2 a ha)) (fun a ha => inv_str (h2.2 a ha))
theorem eqArm_step {f0 : List UInt8} {f1 : List U} {f2 : U} {d0 : List UInt8} {d1 : List U} {d2 : U} (h0 : f0.length ≤ big) (k0 : d0.length ≤ big) (h1 : PEq 100 (.sl 1 f1) (.sl 1 d1)) (g2 : wt (.st 4) f2) (j2 : wt (.st 4) d2) (h2 : PEq 196 f2 d2) : PEq 214 (.st [.s f0, .sl 1 f1, f2]) (.st [.s d0, .sl 1 d1, d2]) := by
  obtain ⟨e31_0, e31_1, e31_2, e31_3, e31_4, e31_5, e31_6, rfl, g31_0, g31_1, g31_2, g31_3, g31_4, g31_5, g31_6⟩ := inv_Expr g2
  obtain ⟨e32_0, e32_1, e32_2, rfl, g32_0, g32_1, g32_2⟩ := inv_Type g31_4
  obtain ⟨e33_0, e33_1, e33_2, e33_3, e33_4, e33_5, e33_6, rfl, g33_0, g33_1, g33_2, g33_3, g33_4, g33_5, g33_6⟩ := inv_Expr j2
  obtain ⟨e34_0, e34_1, e34_2, rfl, g34_0, g34_1, g34_2⟩ := inv_Type g33_4
  refine SpecP_intro Tryz.func214 rfl (by kernel_rfl) rfl fun A _ => ?_
  refine gGO ?_
  refine V_cond rfl (fun hc => ?_) (fun hc => ?_)
  · refine gREG ?_
    refine gGO ?_
    refine V_ret ?_
    exact ⟨trivial, ⟨_, rfl, congrArg U.b (deq_false.2 (by intro h; injection h with h; injection h with q0 h; injection q0 with hk; simp [hk] at hc)).symm⟩, trivial⟩
  refine V_skip ?_
  have e0 := (by simpa using hc : f0 = d0)
  clear hc
  refine gGO ?_
  (first | refine VO_q (Q_call rfl h1 vA) rfl ?_ | refine VQ_q (Q_call rfl h1 vA) rfl ?_ | (refine VO_bare rfl rfl rfl rfl ?_; refine VO_q (Q_call rfl h1 vA) rfl ?_) | refine VQ_run rfl rfl rfl rfl (Q_call rfl h1 vA) rfl ?_)
  refine gGO ?_
  refine V_cond rfl (fun hc => ?_) (fun hc => ?_)
  · refine gREG ?_
    refine gGO ?_
    refine V_ret ?_
    exact ⟨trivial, ⟨_, rfl, congrArg U.b (deq_false.2 (by intro h; injection h with h; injection h with q0 h; injection h with q1 h; rw [q1, deq_self] at hc; cases hc)).symm⟩, trivial⟩
  refine V_skip ?_
  have e1 := deq_true.1 (by simpa using hc : deq _ _ = true)
  clear hc
  refine gGO ?_
  (first | refine VO_q (Q_call rfl h2 vA) rfl ?_ | refine VQ_q (Q_call rfl h2 vA) rfl ?_ | (refine VO_bare rfl rfl rfl rfl ?_; refine VO_q (Q_call rfl h2 vA) rfl ?_) | refine VQ_run rfl rfl rfl rfl (Q_call rfl h2 vA) rfl ?_)
  refine gGO ?_
  refine V_cond rfl (fun hc => ?_) (fun hc => ?_)
  · refine gREG ?_
    refine gGO ?_
    refine V_ret ?_
    exact ⟨trivial, ⟨_, rfl, congrArg U.b (deq_false.2 (by intro h; injection h with h; injection h with q0 h; injection h with q1 h; injection h with q2 h; rw [q2, deq_self] at hc; cases hc)).symm⟩, trivial⟩
  refine V_skip ?_
  have e2 := deq_true.1 (by simpa using hc : deq _ _ = true)
  clear hc
  refine gGO ?_
  refine V_ret ?_
  exact ⟨trivial, ⟨_, rfl, congrArg U.b (deq_true.2 (by rw [e0, e1, e2])).symm⟩, trivial⟩
theorem eqArmS_step {us vs : List U} (hb1 : us.length ≤ big) (hb2 : vs.length ≤ big) (hz : ∀ a ∈ us, a.isSt = true ∧ a.sz = 11) (hz2 : ∀ a ∈ vs, a.isSt = true ∧ a.sz = 11) (ih : ∀ a ∈ us, ∀ b ∈ vs, PEq 214 a b) : PEq 211 (.sl 11 us) (.sl 11 vs) := by
  rw [big_eq] at hb1 hb2
  refine SpecP_intro Tryz.func211 rfl (by kernel_rfl) rfl fun A _ => ?_
  refine gGO ?_
  refine V_cond rfl (fun hc => ?_) (fun hc => ?_)
  · refine gREG ?_
    refine gGO ?_
    refine V_ret ?_
    exact ⟨trivial, ⟨_, rfl, congrArg U.b (deq_false.2 (by intro h; injection h with _ h; subst h; simp at hc)).symm⟩, trivial⟩
  refine V_skip ?_
  have hll : us.length = vs.length := by simp at hc; omega
  refine gGO ?_
  refine V_block ?_
  refine V_loop (α := Nat)
    (fun k => ⟨[(0, .d (.sl 11 us)), (1, .d (.sl 11 vs)), (5, .d (.i .i64 k))], [], Tryz.f211.ntmps⟩)
    (fun k => k ≤ us.length ∧ ∀ j, j < k → us[j]? = vs[j]?)
    (fun k => us.length - k) 0 ⟨rfl, ⟨⟨rfl, rfl⟩, ⟨rfl, rfl⟩, ⟨rfl, rfl⟩, trivial⟩, ⟨[], rfl⟩, rfl⟩ ⟨by simp, by simp⟩ ?_
  rintro k ⟨hk, hsame⟩
  refine gGO ?_
  refine V_cond rfl (fun hc2 => ?_) (fun hc2 => ?_)
  · refine V_skip ?_
    simp only [decide_eq_true_eq] at hc2
    have hkl : k < us.length := by omega
    have hkv : k < vs.length := by omega
    have hget : us[k]? = some us[k] := List.getElem?_eq_getElem hkl
    have hgev : vs[k]? = some vs[k] := List.getElem?_eq_getElem hkv
    have hmem : us[k] ∈ us := List.getElem_mem hkl
    have hmev : vs[k] ∈ vs := List.getElem_mem hkv
    obtain ⟨hst, hsz⟩ := hz _ hmem
    obtain ⟨hst2, hsz2⟩ := hz2 _ hmev
    refine V_seq (V_block ?_)
    refine gGO ?_
    (first | refine VO_q (Q_index rfl rfl TE.h TI.h (by omega) hget) rfl ?_ | refine VQ_q (Q_index rfl rfl TE.h TI.h (by omega) hget) rfl ?_ | (refine VO_bare rfl rfl rfl rfl ?_; refine VO_q (Q_index rfl rfl TE.h TI.h (by omega) hget) rfl ?_) | refine VQ_run rfl rfl rfl rfl (Q_index rfl rfl TE.h TI.h (by omega) hget) rfl ?_)
    (first | refine VO_q (Q_load rfl TI.h hst hsz) rfl ?_ | refine VQ_q (Q_load rfl TI.h hst hsz) rfl ?_ | (refine VO_bare rfl rfl rfl rfl ?_; refine VO_q (Q_load rfl TI.h hst hsz) rfl ?_) | refine VQ_run rfl rfl rfl rfl (Q_load rfl TI.h hst hsz) rfl ?_)
    refine gGO ?_
    (first | refine VO_q (Q_index rfl rfl TE.h TI.h (by omega) hgev) rfl ?_ | refine VQ_q (Q_index rfl rfl TE.h TI.h (by omega) hgev) rfl ?_ | (refine VO_bare rfl rfl rfl rfl ?_; refine VO_q (Q_index rfl rfl TE.h TI.h (by omega) hgev) rfl ?_) | refine VQ_run rfl rfl rfl rfl (Q_index rfl rfl TE.h TI.h (by omega) hgev) rfl ?_)
    (first | refine VO_q (Q_load rfl TI.h hst2 hsz2) rfl ?_ | refine VQ_q (Q_load rfl TI.h hst2 hsz2) rfl ?_ | (refine VO_bare rfl rfl rfl rfl ?_; refine VO_q (Q_load rfl TI.h hst2 hsz2) rfl ?_) | refine VQ_run rfl rfl rfl rfl (Q_load rfl TI.h hst2 hsz2) rfl ?_)
    (first | refine VO_q (Q_call rfl (ih _ hmem _ hmev) vA) rfl ?_ | refine VQ_q (Q_call rfl (ih _ hmem _ hmev) vA) rfl ?_ | (refine VO_bare rfl rfl rfl rfl ?_; refine VO_q (Q_call rfl (ih _ hmem _ hmev) vA) rfl ?_) | refine VQ_run rfl rfl rfl rfl (Q_call rfl (ih _ hmem _ hmev) vA) rfl ?_)
    refine gGO ?_
    refine V_cond rfl (fun hc3 => ?_) (fun hc3 => ?_)
    · refine gREG ?_
      refine gGO ?_
      refine V_ret ?_
      exact ⟨trivial, ⟨_, rfl, congrArg U.b (deq_false.2 (by intro h; injection h with _ h; subst h; rw [deq_self] at hc3; cases hc3)).symm⟩, trivial⟩
    refine V_skip ?_
    have heq : us[k] = vs[k] := deq_true.1 (by simpa using hc3)
    refine gGO ?_
    refine ⟨k + 1, ⟨by omega, fun j hj => ?_⟩, by omega, ⟨rfl, ⟨⟨rfl, rfl⟩, ⟨rfl, rfl⟩, ⟨rfl, rfl⟩, trivial⟩, ⟨[], rfl⟩, rfl⟩⟩
    by_cases hjk : j = k
    · subst hjk; rw [hget, hgev, heq]
    · exact hsame j (by omega)
  · refine V_exit ?_
    simp only [decide_eq_false_iff_not] at hc2
    have hkl : k = us.length := by omega
    subst hkl
    have hall : us = vs := by
      apply List.ext_getElem?
      intro j
      by_cases hj : j < us.length
      · exact hsame j hj
      · rw [List.getElem?_eq_none (by omega), List.getElem?_eq_none (by omega)]
    show V _ _ _ _ _
    refine gGO ?_
    refine V_ret ?_
    exact ⟨trivial, ⟨_, rfl, congrArg U.b (deq_true.2 (by rw [hall])).symm⟩, trivial⟩
theorem eqExpr_step {f0 : Int} {f1 : List UInt8} {f2 : List UInt8} {f3 : Int} {f4 : U} {f5 : List U} {f6 : List U} {d0 : Int} {d1 : List UInt8} {d2 : List UInt8} {d3 : Int} {d4 : U} {d5 : List U} {d6 : List U} (h1 : f1.length ≤ big) (k1 : d1.length ≤ big) (h2 : f2.length ≤ big) (k2 : d2.length ≤ big) (g4 : wt (.st 1) f4) (j4 : wt (.st 1) d4) (h4 : PEq 103 f4 d4) (h5 : PEq 210 (.sl 9 f5) (.sl 9 d5)) (h6 : PEq 211 (.sl 11 f6) (.sl 11 d6)) : PEq 196 (.st [.i .i64 f0, .s f1, .s f2, .i .i64 f3, f4, .sl 9 f5, .sl 11 f6]) (.st [.i .i64 d0, .s d1, .s d2, .i .i64 d3, d4, .sl 9 d5, .sl 11 d6]) := by
  obtain ⟨e35_0, e35_1, e35_2, rfl, g35_0, g35_1, g35_2⟩ := inv_Type g4
  obtain ⟨e36_0, e36_1, e36_2, rfl, g36_0, g36_1, g36_2⟩ := inv_Type j4
  refine SpecP_intro Tryz.func196 rfl (by kernel_rfl) rfl fun A _ => ?_
  refine gGO ?_
  refine V_cond rfl (fun hc => ?_) (fun hc => ?_)
  · refine gREG ?_
    refine gGO ?_
    refine V_ret ?_
    exact ⟨trivial, ⟨_, rfl, congrArg U.b (deq_false.2 (by intro h; injection h with h; injection h with q0 h; injection q0 with _ hk; simp [hk] at hc)).symm⟩, trivial⟩
  refine V_skip ?_
  have e0 := (by simpa using hc : f0 = d0)
  clear hc
  refine gGO ?_
  refine V_cond rfl (fun hc => ?_) (fun hc => ?_)
  · refine gREG ?_
    refine gGO ?_
    refine V_ret ?_
    exact ⟨trivial, ⟨_, rfl, congrArg U.b (deq_false.2 (by intro h; injection h with h; injection h with q0 h; injection h with q1 h; injection q1 with hk; simp [hk] at hc)).symm⟩, trivial⟩
  refine V_skip ?_
  have e1 := (by simpa using hc : f1 = d1)
  clear hc
  refine gGO ?_
  refine V_cond rfl (fun hc => ?_) (fun hc => ?_)
  · refine gREG ?_
    refine gGO ?_
    refine V_ret ?_
    exact ⟨trivial, ⟨_, rfl, congrArg U.b (deq_false.2 (by intro h; injection h with h; injection h with q0 h; injection h with q1 h; injection h with q2 h; injection q2 with hk; simp [hk] at hc)).symm⟩, trivial⟩
  refine V_skip ?_
  have e2 := (by simpa using hc : f2 = d2)
  clear hc
  refine gGO ?_
  refine V_cond rfl (fun hc => ?_) (fun hc => ?_)
  · refine gREG ?_
    refine gGO ?_
    refine V_ret ?_
    exact ⟨trivial, ⟨_, rfl, congrArg U.b (deq_false.2 (by intro h; injection h with h; injection h with q0 h; injection h with q1 h; injection h with q2 h; injection h with q3 h; injection q3 with _ hk; simp [hk] at hc)).symm⟩, trivial⟩
  refine V_skip ?_
  have e3 := (by simpa using hc : f3 = d3)
  clear hc
  refine gGO ?_
  (first | refine VO_q (Q_call rfl h4 vA) rfl ?_ | refine VQ_q (Q_call rfl h4 vA) rfl ?_ | (refine VO_bare rfl rfl rfl rfl ?_; refine VO_q (Q_call rfl h4 vA) rfl ?_) | refine VQ_run rfl rfl rfl rfl (Q_call rfl h4 vA) rfl ?_)
  refine gGO ?_
  refine V_cond rfl (fun hc => ?_) (fun hc => ?_)
  · refine gREG ?_
    refine gGO ?_
    refine V_ret ?_
    exact ⟨trivial, ⟨_, rfl, congrArg U.b (deq_false.2 (by intro h; injection h with h; injection h with q0 h; injection h with q1 h; injection h with q2 h; injection h with q3 h; injection h with q4 h; rw [q4, deq_self] at hc; cases hc)).symm⟩, trivial⟩
  refine V_skip ?_
  have e4 := deq_true.1 (by simpa using hc : deq _ _ = true)
  clear hc
  refine gGO ?_
  (first | refine VO_q (Q_call rfl h5 vA) rfl ?_ | refine VQ_q (Q_call rfl h5 vA) rfl ?_ | (refine VO_bare rfl rfl rfl rfl ?_; refine VO_q (Q_call rfl h5 vA) rfl ?_) | refine VQ_run rfl rfl rfl rfl (Q_call rfl h5 vA) rfl ?_)
  refine gGO ?_
  refine V_cond rfl (fun hc => ?_) (fun hc => ?_)
  · refine gREG ?_
    refine gGO ?_
    refine V_ret ?_
    exact ⟨trivial, ⟨_, rfl, congrArg U.b (deq_false.2 (by intro h; injection h with h; injection h with q0 h; injection h with q1 h; injection h with q2 h; injection h with q3 h; injection h with q4 h; injection h with q5 h; rw [q5, deq_self] at hc; cases hc)).symm⟩, trivial⟩
  refine V_skip ?_
  have e5 := deq_true.1 (by simpa using hc : deq _ _ = true)
  clear hc
  refine gGO ?_
  (first | refine VO_q (Q_call rfl h6 vA) rfl ?_ | refine VQ_q (Q_call rfl h6 vA) rfl ?_ | (refine VO_bare rfl rfl rfl rfl ?_; refine VO_q (Q_call rfl h6 vA) rfl ?_) | refine VQ_run rfl rfl rfl rfl (Q_call rfl h6 vA) rfl ?_)
  refine gGO ?_
  refine V_cond rfl (fun hc => ?_) (fun hc => ?_)
  · refine gREG ?_
    refine gGO ?_
    refine V_ret ?_
    exact ⟨trivial, ⟨_, rfl, congrArg U.b (deq_false.2 (by intro h; injection h with h; injection h with q0 h; injection h with q1 h; injection h with q2 h; injection h with q3 h; injection h with q4 h; injection h with q5 h; injection h with q6 h; rw [q6, deq_self] at hc; cases hc)).symm⟩, trivial⟩
  refine V_skip ?_
  have e6 := deq_true.1 (by simpa using hc : deq _ _ = true)
  clear hc
  refine gGO ?_
  refine V_ret ?_
  exact ⟨trivial, ⟨_, rfl, congrArg U.b (deq_true.2 (by rw [e0, e1, e2, e3, e4, e5, e6])).symm⟩, trivial⟩
theorem eqExprS_step {us vs : List U} (hb1 : us.length ≤ big) (hb2 : vs.length ≤ big) (hz : ∀ a ∈ us, a.isSt = true ∧ a.sz = 9) (hz2 : ∀ a ∈ vs, a.isSt = true ∧ a.sz = 9) (ih : ∀ a ∈ us, ∀ b ∈ vs, PEq 196 a b) : PEq 210 (.sl 9 us) (.sl 9 vs) := by
  rw [big_eq] at hb1 hb2
  refine SpecP_intro Tryz.func210 rfl (by kernel_rfl) rfl fun A _ => ?_
  refine gGO ?_
  refine V_cond rfl (fun hc => ?_) (fun hc => ?_)
  · refine gREG ?_
    refine gGO ?_
    refine V_ret ?_
    exact ⟨trivial, ⟨_, rfl, congrArg U.b (deq_false.2 (by intro h; injection h with _ h; subst h; simp at hc)).symm⟩, trivial⟩
  refine V_skip ?_
  have hll : us.length = vs.length := by simp at hc; omega
  refine gGO ?_
  refine V_block ?_
  refine V_loop (α := Nat)
    (fun k => ⟨[(0, .d (.sl 9 us)), (1, .d (.sl 9 vs)), (5, .d (.i .i64 k))], [], Tryz.f210.ntmps⟩)
    (fun k => k ≤ us.length ∧ ∀ j, j < k → us[j]? = vs[j]?)
    (fun k => us.length - k) 0 ⟨rfl, ⟨⟨rfl, rfl⟩, ⟨rfl, rfl⟩, ⟨rfl, rfl⟩, trivial⟩, ⟨[], rfl⟩, rfl⟩ ⟨by simp, by simp⟩ ?_
  rintro k ⟨hk, hsame⟩
  refine gGO ?_
  refine V_cond rfl (fun hc2 => ?_) (fun hc2 => ?_)
  · refine V_skip ?_
    simp only [decide_eq_true_eq] at hc2
    have hkl : k < us.length := by omega
    have hkv : k < vs.length := by omega
    have hget : us[k]? = some us[k] := List.getElem?_eq_getElem hkl
    have hgev : vs[k]? = some vs[k] := List.getElem?_eq_getElem hkv
    have hmem : us[k] ∈ us := List.getElem_mem hkl
    have hmev : vs[k] ∈ vs := List.getElem_mem hkv
    obtain ⟨hst, hsz⟩ := hz _ hmem
    obtain ⟨hst2, hsz2⟩ := hz2 _ hmev
    refine V_seq (V_block ?_)
    refine gGO ?_
    (first | refine VO_q (Q_index rfl rfl TE.h TI.h (by omega) hget) rfl ?_ | refine VQ_q (Q_index rfl rfl TE.h TI.h (by omega) hget) rfl ?_ | (refine VO_bare rfl rfl rfl rfl ?_; refine VO_q (Q_index rfl rfl TE.h TI.h (by omega) hget) rfl ?_) | refine VQ_run rfl rfl rfl rfl (Q_index rfl rfl TE.h TI.h (by omega) hget) rfl ?_)
    (first | refine VO_q (Q_load rfl TI.h hst hsz) rfl ?_ | refine VQ_q (Q_load rfl TI.h hst hsz) rfl ?_ | (refine VO_bare rfl rfl rfl rfl ?_; refine VO_q (Q_load rfl TI.h hst hsz) rfl ?_) | refine VQ_run rfl rfl rfl rfl (Q_load rfl TI.h hst hsz) rfl ?_)
    refine gGO ?_
    (first | refine VO_q (Q_index rfl rfl TE.h TI.h (by omega) hgev) rfl ?_ | refine VQ_q (Q_index rfl rfl TE.h TI.h (by omega) hgev) rfl ?_ | (refine VO_bare rfl rfl rfl rfl ?_; refine VO_q (Q_index rfl rfl TE.h TI.h (by omega) hgev) rfl ?_) | refine VQ_run rfl rfl rfl rfl (Q_index rfl rfl TE.h TI.h (by omega) hgev) rfl ?_)
    (first | refine VO_q (Q_load rfl TI.h hst2 hsz2) rfl ?_ | refine VQ_q (Q_load rfl TI.h hst2 hsz2) rfl ?_ | (refine VO_bare rfl rfl rfl rfl ?_; refine VO_q (Q_load rfl TI.h hst2 hsz2) rfl ?_) | refine VQ_run rfl rfl rfl rfl (Q_load rfl TI.h hst2 hsz2) rfl ?_)
    (first | refine VO_q (Q_call rfl (ih _ hmem _ hmev) vA) rfl ?_ | refine VQ_q (Q_call rfl (ih _ hmem _ hmev) vA) rfl ?_ | (refine VO_bare rfl rfl rfl rfl ?_; refine VO_q (Q_call rfl (ih _ hmem _ hmev) vA) rfl ?_) | refine VQ_run rfl rfl rfl rfl (Q_call rfl (ih _ hmem _ hmev) vA) rfl ?_)
    refine gGO ?_
    refine V_cond rfl (fun hc3 => ?_) (fun hc3 => ?_)
    · refine gREG ?_
      refine gGO ?_
      refine V_ret ?_
      exact ⟨trivial, ⟨_, rfl, congrArg U.b (deq_false.2 (by intro h; injection h with _ h; subst h; rw [deq_self] at hc3; cases hc3)).symm⟩, trivial⟩
    refine V_skip ?_
    have heq : us[k] = vs[k] := deq_true.1 (by simpa using hc3)
    refine gGO ?_
    refine ⟨k + 1, ⟨by omega, fun j hj => ?_⟩, by omega, ⟨rfl, ⟨⟨rfl, rfl⟩, ⟨rfl, rfl⟩, ⟨rfl, rfl⟩, trivial⟩, ⟨[], rfl⟩, rfl⟩⟩
    by_cases hjk : j = k
    · subst hjk; rw [hget, hgev, heq]
    · exact hsame j (by omega)
  · refine V_exit ?_
    simp only [decide_eq_false_iff_not] at hc2
    have hkl : k = us.length := by omega
    subst hkl
    have hall : us = vs := by
      apply List.ext_getElem?
      intro j
      by_cases hj : j < us.length
      · exact hsame j hj
      · rw [List.getElem?_eq_none (by omega), List.getElem?_eq_none (by omega)]
    show V _ _ _ _ _
    refine gGO ?_
    refine V_ret ?_
    exact ⟨trivial, ⟨_, rfl, congrArg U.b (deq_true.2 (by rw [hall])).symm⟩, trivial⟩
theorem eqArmExpr_grp (u : U) : (∀ v, wt (.st 3) u → wt (.st 3) v → PEq 214 u v) ∧ (∀ v, wt (.st 4) u → wt (.st 4) v → PEq 196 u v) := by
  refine U.ind (M := fun u => (∀ v, wt (.st 3) u → wt (.st 3) v → PEq 214 u v) ∧ (∀ v, wt (.st 4) u → wt (.st 4) v → PEq 196 u v)) (fun u ih => ?_) u
  refine ⟨?_, ?_⟩
  · intro v h h2
    obtain ⟨f0, f1, f2, rfl, p0, p1, p2⟩ := inv_Arm h
    obtain ⟨d0, d1, d2, rfl, q0, q1, q2⟩ := inv_Arm h2
    exact eqArm_step p0 q0 (eqStringS_all p1 q1) p2 q2 ((ih f2 (by simp only [U.nn, U.nns]; omega)).2 _ p2 q2)
  · intro v h h2
    obtain ⟨f0, f1, f2, f3, f4, f5, f6, rfl, p0, p1, p2, p3, p4, p5, p6⟩ := inv_Expr h
    obtain ⟨d0, d1, d2, d3, d4, d5, d6, rfl, q0, q1, q2, q3, q4, q5, q6⟩ := inv_Expr h2
    exact eqExpr_step p1 q1 p2 q2 p4 q4 (eqType_all p4 q4) (eqExprS_step p5.1 q5.1 (fun a ha => ⟨wt_isSt (p5.2 a ha), by rw [wt_sz a _ (p5.2 a ha)]; rfl⟩) (fun a ha => ⟨wt_isSt (q5.2 a ha), by rw [wt_sz a _ (q5.2 a ha)]; rfl⟩) (fun a ha b hb => (ih a (by have := nn_of_mem ha; simp only [U.nn, U.nns]; omega)).2 b (p5.2 a ha) (q5.2 b hb))) (eqArmS_step p6.1 q6.1 (fun a ha => ⟨wt_isSt (p6.2 a ha), by rw [wt_sz a _ (p6.2 a ha)]; rfl⟩) (fun a ha => ⟨wt_isSt (q6.2 a ha), by rw [wt_sz a _ (q6.2 a ha)]; rfl⟩) (fun a ha b hb => (ih a (by have := nn_of_mem ha; simp only [U.nn, U.nns]; omega)).1 b (p6.2 a ha) (q6.2 b hb)))
theorem eqExpr_all {u v : U} (h : wt (.st 4) u) (h2 : wt (.st 4) v) : PEq 196 u v := (eqArmExpr_grp u).2 v h h2
theorem eqSignature_step {f0 : List UInt8} {f1 : List U} {f2 : U} {f3 : Bool} {f4 : List U} {f5 : U} {d0 : List UInt8} {d1 : List U} {d2 : U} {d3 : Bool} {d4 : List U} {d5 : U} (h0 : f0.length ≤ big) (k0 : d0.length ≤ big) (h1 : PEq 153 (.sl 3 f1) (.sl 3 d1)) (g2 : wt (.st 1) f2) (j2 : wt (.st 1) d2) (h2 : PEq 103 f2 d2) (h4 : PEq 100 (.sl 1 f4) (.sl 1 d4)) (g5 : wt (.st 4) f5) (j5 : wt (.st 4) d5) (h5 : PEq 196 f5 d5) : PEq 207 (.st [.s f0, .sl 3 f1, f2, .b f3, .sl 1 f4, f5]) (.st [.s d0, .sl 3 d1, d2, .b d3, .sl 1 d4, d5]) := by
  obtain ⟨e37_0, e37_1, e37_2, rfl, g37_0, g37_1, g37_2⟩ := inv_Type g2
  obtain ⟨e38_0, e38_1, e38_2, rfl, g38_0, g38_1, g38_2⟩ := inv_Type j2
  obtain ⟨e39_0, e39_1, e39_2, e39_3, e39_4, e39_5, e39_6, rfl, g39_0, g39_1, g39_2, g39_3, g39_4, g39_5, g39_6⟩ := inv_Expr g5
  obtain ⟨e40_0, e40_1, e40_2, rfl, g40_0, g40_1, g40_2⟩ := inv_Type g39_4
  obtain ⟨e41_0, e41_1, e41_2, e41_3, e41_4, e41_5, e41_6, rfl, g41_0, g41_1, g41_2, g41_3, g41_4, g41_5, g41_6⟩ := inv_Expr j5
  obtain ⟨e42_0, e42_1, e42_2, rfl, g42_0, g42_1, g42_2⟩ := inv_Type g41_4
  refine SpecP_intro Tryz.func207 rfl (by kernel_rfl) rfl fun A _ => ?_
  refine gGO ?_
  refine V_cond rfl (fun hc => ?_) (fun hc => ?_)
  · refine gREG ?_
    refine gGO ?_
    refine V_ret ?_
    exact ⟨trivial, ⟨_, rfl, congrArg U.b (deq_false.2 (by intro h; injection h with h; injection h with q0 h; injection q0 with hk; simp [hk] at hc)).symm⟩, trivial⟩
  refine V_skip ?_
  have e0 := (by simpa using hc : f0 = d0)
  clear hc
  refine gGO ?_
  (first | refine VO_q (Q_call rfl h1 vA) rfl ?_ | refine VQ_q (Q_call rfl h1 vA) rfl ?_ | (refine VO_bare rfl rfl rfl rfl ?_; refine VO_q (Q_call rfl h1 vA) rfl ?_) | refine VQ_run rfl rfl rfl rfl (Q_call rfl h1 vA) rfl ?_)
  refine gGO ?_
  refine V_cond rfl (fun hc => ?_) (fun hc => ?_)
  · refine gREG ?_
    refine gGO ?_
    refine V_ret ?_
    exact ⟨trivial, ⟨_, rfl, congrArg U.b (deq_false.2 (by intro h; injection h with h; injection h with q0 h; injection h with q1 h; rw [q1, deq_self] at hc; cases hc)).symm⟩, trivial⟩
  refine V_skip ?_
  have e1 := deq_true.1 (by simpa using hc : deq _ _ = true)
  clear hc
  refine gGO ?_
  (first | refine VO_q (Q_call rfl h2 vA) rfl ?_ | refine VQ_q (Q_call rfl h2 vA) rfl ?_ | (refine VO_bare rfl rfl rfl rfl ?_; refine VO_q (Q_call rfl h2 vA) rfl ?_) | refine VQ_run rfl rfl rfl rfl (Q_call rfl h2 vA) rfl ?_)
  refine gGO ?_
  refine V_cond rfl (fun hc => ?_) (fun hc => ?_)
  · refine gREG ?_
    refine gGO ?_
    refine V_ret ?_
    exact ⟨trivial, ⟨_, rfl, congrArg U.b (deq_false.2 (by intro h; injection h with h; injection h with q0 h; injection h with q1 h; injection h with q2 h; rw [q2, deq_self] at hc; cases hc)).symm⟩, trivial⟩
  refine V_skip ?_
  have e2 := deq_true.1 (by simpa using hc : deq _ _ = true)
  clear hc
  refine gGO ?_
  refine V_cond rfl (fun hc => ?_) (fun hc => ?_)
  · refine gREG ?_
    refine gGO ?_
    refine V_ret ?_
    exact ⟨trivial, ⟨_, rfl, congrArg U.b (deq_false.2 (by intro h; injection h with h; injection h with q0 h; injection h with q1 h; injection h with q2 h; injection h with q3 h; injection q3 with hk; simp [hk] at hc)).symm⟩, trivial⟩
  refine V_skip ?_
  have e3 := (by simpa using hc : f3 = d3)
  clear hc
  refine gGO ?_
  (first | refine VO_q (Q_call rfl h4 vA) rfl ?_ | refine VQ_q (Q_call rfl h4 vA) rfl ?_ | (refine VO_bare rfl rfl rfl rfl ?_; refine VO_q (Q_call rfl h4 vA) rfl ?_) | refine VQ_run rfl rfl rfl rfl (Q_call rfl h4 vA) rfl ?_)
  refine gGO ?_
  refine V_cond rfl (fun hc => ?_) (fun hc => ?_)
  · refine gREG ?_
    refine gGO ?_
    refine V_ret ?_
    exact ⟨trivial, ⟨_, rfl, congrArg U.b (deq_false.2 (by intro h; injection h with h; injection h with q0 h; injection h with q1 h; injection h with q2 h; injection h with q3 h; injection h with q4 h; rw [q4, deq_self] at hc; cases hc)).symm⟩, trivial⟩
  refine V_skip ?_
  have e4 := deq_true.1 (by simpa using hc : deq _ _ = true)
  clear hc
  refine gGO ?_
  (first | refine VO_q (Q_call rfl h5 vA) rfl ?_ | refine VQ_q (Q_call rfl h5 vA) rfl ?_ | (refine VO_bare rfl rfl rfl rfl ?_; refine VO_q (Q_call rfl h5 vA) rfl ?_) | refine VQ_run rfl rfl rfl rfl (Q_call rfl h5 vA) rfl ?_)
  refine gGO ?_
  refine V_cond rfl (fun hc => ?_) (fun hc => ?_)
  · refine gREG ?_
    refine gGO ?_
    refine V_ret ?_
    exact ⟨trivial, ⟨_, rfl, congrArg U.b (deq_false.2 (by intro h; injection h with h; injection h with q0 h; injection h with q1 h; injection h with q2 h; injection h with q3 h; injection h with q4 h; injection h with q5 h; rw [q5, deq_self] at hc; cases hc)).symm⟩, trivial⟩
  refine V_skip ?_
  have e5 := deq_true.1 (by simpa using hc : deq _ _ = true)
  clear hc
  refine gGO ?_
  refine V_ret ?_
  exact ⟨trivial, ⟨_, rfl, congrArg U.b (deq_true.2 (by rw [e0, e1, e2, e3, e4, e5])).symm⟩, trivial⟩
theorem eqSignatureS_step {us vs : List U} (hb1 : us.length ≤ big) (hb2 : vs.length ≤ big) (hz : ∀ a ∈ us, a.isSt = true ∧ a.sz = 16) (hz2 : ∀ a ∈ vs, a.isSt = true ∧ a.sz = 16) (ih : ∀ a ∈ us, ∀ b ∈ vs, PEq 207 a b) : PEq 193 (.sl 16 us) (.sl 16 vs) := by
  rw [big_eq] at hb1 hb2
  refine SpecP_intro Tryz.func193 rfl (by kernel_rfl) rfl fun A _ => ?_
  refine gGO ?_
  refine V_cond rfl (fun hc => ?_) (fun hc => ?_)
  · refine gREG ?_
    refine gGO ?_
    refine V_ret ?_
    exact ⟨trivial, ⟨_, rfl, congrArg U.b (deq_false.2 (by intro h; injection h with _ h; subst h; simp at hc)).symm⟩, trivial⟩
  refine V_skip ?_
  have hll : us.length = vs.length := by simp at hc; omega
  refine gGO ?_
  refine V_block ?_
  refine V_loop (α := Nat)
    (fun k => ⟨[(0, .d (.sl 16 us)), (1, .d (.sl 16 vs)), (5, .d (.i .i64 k))], [], Tryz.f193.ntmps⟩)
    (fun k => k ≤ us.length ∧ ∀ j, j < k → us[j]? = vs[j]?)
    (fun k => us.length - k) 0 ⟨rfl, ⟨⟨rfl, rfl⟩, ⟨rfl, rfl⟩, ⟨rfl, rfl⟩, trivial⟩, ⟨[], rfl⟩, rfl⟩ ⟨by simp, by simp⟩ ?_
  rintro k ⟨hk, hsame⟩
  refine gGO ?_
  refine V_cond rfl (fun hc2 => ?_) (fun hc2 => ?_)
  · refine V_skip ?_
    simp only [decide_eq_true_eq] at hc2
    have hkl : k < us.length := by omega
    have hkv : k < vs.length := by omega
    have hget : us[k]? = some us[k] := List.getElem?_eq_getElem hkl
    have hgev : vs[k]? = some vs[k] := List.getElem?_eq_getElem hkv
    have hmem : us[k] ∈ us := List.getElem_mem hkl
    have hmev : vs[k] ∈ vs := List.getElem_mem hkv
    obtain ⟨hst, hsz⟩ := hz _ hmem
    obtain ⟨hst2, hsz2⟩ := hz2 _ hmev
    refine V_seq (V_block ?_)
    refine gGO ?_
    (first | refine VO_q (Q_index rfl rfl TE.h TI.h (by omega) hget) rfl ?_ | refine VQ_q (Q_index rfl rfl TE.h TI.h (by omega) hget) rfl ?_ | (refine VO_bare rfl rfl rfl rfl ?_; refine VO_q (Q_index rfl rfl TE.h TI.h (by omega) hget) rfl ?_) | refine VQ_run rfl rfl rfl rfl (Q_index rfl rfl TE.h TI.h (by omega) hget) rfl ?_)
    (first | refine VO_q (Q_load rfl TI.h hst hsz) rfl ?_ | refine VQ_q (Q_load rfl TI.h hst hsz) rfl ?_ | (refine VO_bare rfl rfl rfl rfl ?_; refine VO_q (Q_load rfl TI.h hst hsz) rfl ?_) | refine VQ_run rfl rfl rfl rfl (Q_load rfl TI.h hst hsz) rfl ?_)
    refine gGO ?_
    (first | refine VO_q (Q_index rfl rfl TE.h TI.h (by omega) hgev) rfl ?_ | refine VQ_q (Q_index rfl rfl TE.h TI.h (by omega) hgev) rfl ?_ | (refine VO_bare rfl rfl rfl rfl ?_; refine VO_q (Q_index rfl rfl TE.h TI.h (by omega) hgev) rfl ?_) | refine VQ_run rfl rfl rfl rfl (Q_index rfl rfl TE.h TI.h (by omega) hgev) rfl ?_)
    (first | refine VO_q (Q_load rfl TI.h hst2 hsz2) rfl ?_ | refine VQ_q (Q_load rfl TI.h hst2 hsz2) rfl ?_ | (refine VO_bare rfl rfl rfl rfl ?_; refine VO_q (Q_load rfl TI.h hst2 hsz2) rfl ?_) | refine VQ_run rfl rfl rfl rfl (Q_load rfl TI.h hst2 hsz2) rfl ?_)
    (first | refine VO_q (Q_call rfl (ih _ hmem _ hmev) vA) rfl ?_ | refine VQ_q (Q_call rfl (ih _ hmem _ hmev) vA) rfl ?_ | (refine VO_bare rfl rfl rfl rfl ?_; refine VO_q (Q_call rfl (ih _ hmem _ hmev) vA) rfl ?_) | refine VQ_run rfl rfl rfl rfl (Q_call rfl (ih _ hmem _ hmev) vA) rfl ?_)
    refine gGO ?_
    refine V_cond rfl (fun hc3 => ?_) (fun hc3 => ?_)
    · refine gREG ?_
      refine gGO ?_
      refine V_ret ?_
      exact ⟨trivial, ⟨_, rfl, congrArg U.b (deq_false.2 (by intro h; injection h with _ h; subst h; rw [deq_self] at hc3; cases hc3)).symm⟩, trivial⟩
    refine V_skip ?_
    have heq : us[k] = vs[k] := deq_true.1 (by simpa using hc3)
    refine gGO ?_
    refine ⟨k + 1, ⟨by omega, fun j hj => ?_⟩, by omega, ⟨rfl, ⟨⟨rfl, rfl⟩, ⟨rfl, rfl⟩, ⟨rfl, rfl⟩, trivial⟩, ⟨[], rfl⟩, rfl⟩⟩
    by_cases hjk : j = k
    · subst hjk; rw [hget, hgev, heq]
    · exact hsame j (by omega)
  · refine V_exit ?_
    simp only [decide_eq_false_iff_not] at hc2
    have hkl : k = us.length := by omega
    subst hkl
    have hall : us = vs := by
      apply List.ext_getElem?
      intro j
      by_cases hj : j < us.length
      · exact hsame j hj
      · rw [List.getElem?_eq_none (by omega), List.getElem?_eq_none (by omega)]
    show V _ _ _ _ _
    refine gGO ?_
    refine V_ret ?_
    exact ⟨trivial, ⟨_, rfl, congrArg U.b (deq_true.2 (by rw [hall])).symm⟩, trivial⟩
theorem eqSignature_grp (u : U) : (∀ v, wt (.st 5) u → wt (.st 5) v → PEq 207 u v) := by
  refine U.ind (M := fun u => (∀ v, wt (.st 5) u → wt (.st 5) v → PEq 207 u v)) (fun u ih => ?_) u
  refine ?_
  · intro v h h2
    obtain ⟨f0, f1, f2, f3, f4, f5, rfl, p0, p1, p2, p4, p5⟩ := inv_Signature h
    obtain ⟨d0, d1, d2, d3, d4, d5, rfl, q0, q1, q2, q4, q5⟩ := inv_Signature h2
    exact eqSignature_step p0 q0 (eqTypeS_all p1 q1) p2 q2 (eqType_all p2 q2) (eqStringS_all p4 q4) p5 q5 (eqExpr_all p5 q5)
theorem eqSignature_all {u v : U} (h : wt (.st 5) u) (h2 : wt (.st 5) v) : PEq 207 u v := (eqSignature_grp u) v h h2
theorem eqSignatureS_all {us vs : List U} (h : us.length ≤ big ∧ ∀ x ∈ us, wt (.st 5) x) (h2 : vs.length ≤ big ∧ ∀ x ∈ vs, wt (.st 5) x) : PEq 193 (.sl 16 us) (.sl 16 vs) := eqSignatureS_step h.1 h2.1 (fun a ha => ⟨wt_isSt (h.2 a ha), by rw [wt_sz a _ (h.2 a ha)]; rfl⟩) (fun a ha => ⟨wt_isSt (h2.2 a ha), by rw [wt_sz a _ (h2.2 a ha)]; rfl⟩) (fun a ha b hb => eqSignature_all (h.2 a ha) (h2.2 b hb))
theorem eqTrait_step {f0 : List UInt8} {f1 : List U} {f2 : Bool} {f3 : Bool} {f4 : List U} {d0 : List UInt8} {d1 : List U} {d2 : Bool} {d3 : Bool} {d4 : List U} (h0 : f0.length ≤ big) (k0 : d0.length ≤ big) (h1 : PEq 100 (.sl 1 f1) (.sl 1 d1)) (h4 : PEq 193 (.sl 16 f4) (.sl 16 d4)) : PEq 174 (.st [.s f0, .sl 1 f1, .b f2, .b f3, .sl 16 f4]) (.st [.s d0, .sl 1 d1, .b d2, .b d3, .sl 16 d4]) := by
  refine SpecP_intro Tryz.func174 rfl (by kernel_rfl) rfl fun A _ => ?_
  refine gGO ?_
  refine V_cond rfl (fun hc => ?_) (fun hc => ?_)
  · refine gREG ?_
    refine gGO ?_
    refine V_ret ?_
    exact ⟨trivial, ⟨_, rfl, congrArg U.b (deq_false.2 (by intro h; injection h with h; injection h with q0 h; injection q0 with hk; simp [hk] at hc)).symm⟩, trivial⟩
  refine V_skip ?_
  have e0 := (by simpa using hc : f0 = d0)
  clear hc
  refine gGO ?_
  (first | refine VO_q (Q_call rfl h1 vA) rfl ?_ | refine VQ_q (Q_call rfl h1 vA) rfl ?_ | (refine VO_bare rfl rfl rfl rfl ?_; refine VO_q (Q_call rfl h1 vA) rfl ?_) | refine VQ_run rfl rfl rfl rfl (Q_call rfl h1 vA) rfl ?_)
  refine gGO ?_
  refine V_cond rfl (fun hc => ?_) (fun hc => ?_)
  · refine gREG ?_
    refine gGO ?_
    refine V_ret ?_
    exact ⟨trivial, ⟨_, rfl, congrArg U.b (deq_false.2 (by intro h; injection h with h; injection h with q0 h; injection h with q1 h; rw [q1, deq_self] at hc; cases hc)).symm⟩, trivial⟩
  refine V_skip ?_
  have e1 := deq_true.1 (by simpa using hc : deq _ _ = true)
  clear hc
  refine gGO ?_
  refine V_cond rfl (fun hc => ?_) (fun hc => ?_)
  · refine gREG ?_
    refine gGO ?_
    refine V_ret ?_
    exact ⟨trivial, ⟨_, rfl, congrArg U.b (deq_false.2 (by intro h; injection h with h; injection h with q0 h; injection h with q1 h; injection h with q2 h; injection q2 with hk; simp [hk] at hc)).symm⟩, trivial⟩
  refine V_skip ?_
  have e2 := (by simpa using hc : f2 = d2)
  clear hc
  refine gGO ?_
  refine V_cond rfl (fun hc => ?_) (fun hc => ?_)
  · refine gREG ?_
    refine gGO ?_
    refine V_ret ?_
    exact ⟨trivial, ⟨_, rfl, congrArg U.b (deq_false.2 (by intro h; injection h with h; injection h with q0 h; injection h with q1 h; injection h with q2 h; injection h with q3 h; injection q3 with hk; simp [hk] at hc)).symm⟩, trivial⟩
  refine V_skip ?_
  have e3 := (by simpa using hc : f3 = d3)
  clear hc
  refine gGO ?_
  (first | refine VO_q (Q_call rfl h4 vA) rfl ?_ | refine VQ_q (Q_call rfl h4 vA) rfl ?_ | (refine VO_bare rfl rfl rfl rfl ?_; refine VO_q (Q_call rfl h4 vA) rfl ?_) | refine VQ_run rfl rfl rfl rfl (Q_call rfl h4 vA) rfl ?_)
  refine gGO ?_
  refine V_cond rfl (fun hc => ?_) (fun hc => ?_)
  · refine gREG ?_
    refine gGO ?_
    refine V_ret ?_
    exact ⟨trivial, ⟨_, rfl, congrArg U.b (deq_false.2 (by intro h; injection h with h; injection h with q0 h; injection h with q1 h; injection h with q2 h; injection h with q3 h; injection h with q4 h; rw [q4, deq_self] at hc; cases hc)).symm⟩, trivial⟩
  refine V_skip ?_
  have e4 := deq_true.1 (by simpa using hc : deq _ _ = true)
  clear hc
  refine gGO ?_
  refine V_ret ?_
  exact ⟨trivial, ⟨_, rfl, congrArg U.b (deq_true.2 (by rw [e0, e1, e2, e3, e4])).symm⟩, trivial⟩
theorem eqTraitS_step {us vs : List U} (hb1 : us.length ≤ big) (hb2 : vs.length ≤ big) (hz : ∀ a ∈ us, a.isSt = true ∧ a.sz = 5) (hz2 : ∀ a ∈ vs, a.isSt = true ∧ a.sz = 5) (ih : ∀ a ∈ us, ∀ b ∈ vs, PEq 174 a b) : PEq 122 (.sl 5 us) (.sl 5 vs) := by
  rw [big_eq] at hb1 hb2
  refine SpecP_intro Tryz.func122 rfl (by kernel_rfl) rfl fun A _ => ?_
  refine gGO ?_
  refine V_cond rfl (fun hc => ?_) (fun hc => ?_)
  · refine gREG ?_
    refine gGO ?_
    refine V_ret ?_
    exact ⟨trivial, ⟨_, rfl, congrArg U.b (deq_false.2 (by intro h; injection h with _ h; subst h; simp at hc)).symm⟩, trivial⟩
  refine V_skip ?_
  have hll : us.length = vs.length := by simp at hc; omega
  refine gGO ?_
  refine V_block ?_
  refine V_loop (α := Nat)
    (fun k => ⟨[(0, .d (.sl 5 us)), (1, .d (.sl 5 vs)), (5, .d (.i .i64 k))], [], Tryz.f122.ntmps⟩)
    (fun k => k ≤ us.length ∧ ∀ j, j < k → us[j]? = vs[j]?)
    (fun k => us.length - k) 0 ⟨rfl, ⟨⟨rfl, rfl⟩, ⟨rfl, rfl⟩, ⟨rfl, rfl⟩, trivial⟩, ⟨[], rfl⟩, rfl⟩ ⟨by simp, by simp⟩ ?_
  rintro k ⟨hk, hsame⟩
  refine gGO ?_
  refine V_cond rfl (fun hc2 => ?_) (fun hc2 => ?_)
  · refine V_skip ?_
    simp only [decide_eq_true_eq] at hc2
    have hkl : k < us.length := by omega
    have hkv : k < vs.length := by omega
    have hget : us[k]? = some us[k] := List.getElem?_eq_getElem hkl
    have hgev : vs[k]? = some vs[k] := List.getElem?_eq_getElem hkv
    have hmem : us[k] ∈ us := List.getElem_mem hkl
    have hmev : vs[k] ∈ vs := List.getElem_mem hkv
    obtain ⟨hst, hsz⟩ := hz _ hmem
    obtain ⟨hst2, hsz2⟩ := hz2 _ hmev
    refine V_seq (V_block ?_)
    refine gGO ?_
    (first | refine VO_q (Q_index rfl rfl TE.h TI.h (by omega) hget) rfl ?_ | refine VQ_q (Q_index rfl rfl TE.h TI.h (by omega) hget) rfl ?_ | (refine VO_bare rfl rfl rfl rfl ?_; refine VO_q (Q_index rfl rfl TE.h TI.h (by omega) hget) rfl ?_) | refine VQ_run rfl rfl rfl rfl (Q_index rfl rfl TE.h TI.h (by omega) hget) rfl ?_)
    (first | refine VO_q (Q_load rfl TI.h hst hsz) rfl ?_ | refine VQ_q (Q_load rfl TI.h hst hsz) rfl ?_ | (refine VO_bare rfl rfl rfl rfl ?_; refine VO_q (Q_load rfl TI.h hst hsz) rfl ?_) | refine VQ_run rfl rfl rfl rfl (Q_load rfl TI.h hst hsz) rfl ?_)
    refine gGO ?_
    (first | refine VO_q (Q_index rfl rfl TE.h TI.h (by omega) hgev) rfl ?_ | refine VQ_q (Q_index rfl rfl TE.h TI.h (by omega) hgev) rfl ?_ | (refine VO_bare rfl rfl rfl rfl ?_; refine VO_q (Q_index rfl rfl TE.h TI.h (by omega) hgev) rfl ?_) | refine VQ_run rfl rfl rfl rfl (Q_index rfl rfl TE.h TI.h (by omega) hgev) rfl ?_)
    (first | refine VO_q (Q_load rfl TI.h hst2 hsz2) rfl ?_ | refine VQ_q (Q_load rfl TI.h hst2 hsz2) rfl ?_ | (refine VO_bare rfl rfl rfl rfl ?_; refine VO_q (Q_load rfl TI.h hst2 hsz2) rfl ?_) | refine VQ_run rfl rfl rfl rfl (Q_load rfl TI.h hst2 hsz2) rfl ?_)
    (first | refine VO_q (Q_call rfl (ih _ hmem _ hmev) vA) rfl ?_ | refine VQ_q (Q_call rfl (ih _ hmem _ hmev) vA) rfl ?_ | (refine VO_bare rfl rfl rfl rfl ?_; refine VO_q (Q_call rfl (ih _ hmem _ hmev) vA) rfl ?_) | refine VQ_run rfl rfl rfl rfl (Q_call rfl (ih _ hmem _ hmev) vA) rfl ?_)
    refine gGO ?_
    refine V_cond rfl (fun hc3 => ?_) (fun hc3 => ?_)
    · refine gREG ?_
      refine gGO ?_
      refine V_ret ?_
      exact ⟨trivial, ⟨_, rfl, congrArg U.b (deq_false.2 (by intro h; injection h with _ h; subst h; rw [deq_self] at hc3; cases hc3)).symm⟩, trivial⟩
    refine V_skip ?_
    have heq : us[k] = vs[k] := deq_true.1 (by simpa using hc3)
    refine gGO ?_
    refine ⟨k + 1, ⟨by omega, fun j hj => ?_⟩, by omega, ⟨rfl, ⟨⟨rfl, rfl⟩, ⟨rfl, rfl⟩, ⟨rfl, rfl⟩, trivial⟩, ⟨[], rfl⟩, rfl⟩⟩
    by_cases hjk : j = k
    · subst hjk; rw [hget, hgev, heq]
    · exact hsame j (by omega)
  · refine V_exit ?_
    simp only [decide_eq_false_iff_not] at hc2
    have hkl : k = us.length := by omega
    subst hkl
    have hall : us = vs := by
      apply List.ext_getElem?
      intro j
      by_cases hj : j < us.length
      · exact hsame j hj
      · rw [List.getElem?_eq_none (by omega), List.getElem?_eq_none (by omega)]
    show V _ _ _ _ _
    refine gGO ?_
    refine V_ret ?_
    exact ⟨trivial, ⟨_, rfl, congrArg U.b (deq_true.2 (by rw [hall])).symm⟩, trivial⟩
theorem eqTrait_grp (u : U) : (∀ v, wt (.st 6) u → wt (.st 6) v → PEq 174 u v) := by
  refine U.ind (M := fun u => (∀ v, wt (.st 6) u → wt (.st 6) v → PEq 174 u v)) (fun u ih => ?_) u
  refine ?_
  · intro v h h2
    obtain ⟨f0, f1, f2, f3, f4, rfl, p0, p1, p4⟩ := inv_Trait h
    obtain ⟨d0, d1, d2, d3, d4, rfl, q0, q1, q4⟩ := inv_Trait h2
    exact eqTrait_step p0 q0 (eqStringS_all p1 q1) (eqSignatureS_all p4 q4)
theorem eqTrait_all {u v : U} (h : wt (.st 6) u) (h2 : wt (.st 6) v) : PEq 174 u v := (eqTrait_grp u) v h h2
theorem eqTraitS_all {us vs : List U} (h : us.length ≤ big ∧ ∀ x ∈ us, wt (.st 6) x) (h2 : vs.length ≤ big ∧ ∀ x ∈ vs, wt (.st 6) x) : PEq 122 (.sl 5 us) (.sl 5 vs) := eqTraitS_step h.1 h2.1 (fun a ha => ⟨wt_isSt (h.2 a ha), by rw [wt_sz a _ (h.2 a ha)]; rfl⟩) (fun a ha => ⟨wt_isSt (h2.2 a ha), by rw [wt_sz a _ (h2.2 a ha)]; rfl⟩) (fun a ha b hb => eqTrait_all (h.2 a ha) (h2.2 b hb))
theorem eqConstructor_step {f0 : List UInt8} {f1 : List U} {d0 : List UInt8} {d1 : List U} (h0 : f0.length ≤ big) (k0 : d0.length ≤ big) (h1 : PEq 153 (.sl 3 f1) (.sl 3 d1)) : PEq 208 (.st [.s f0, .sl 3 f1]) (.st [.s d0, .sl 3 d1]) := by
  refine SpecP_intro Tryz.func208 rfl (by kernel_rfl) rfl fun A _ => ?_
  refine gGO ?_
  refine V_cond rfl (fun hc => ?_) (fun hc => ?_)
  · refine gREG ?_
    refine gGO ?_
    refine V_ret ?_
    exact ⟨trivial, ⟨_, rfl, congrArg U.b (deq_false.2 (by intro h; injection h with h; injection h with q0 h; injection q0 with hk; simp [hk] at hc)).symm⟩, trivial⟩
  refine V_skip ?_
  have e0 := (by simpa using hc : f0 = d0)
  clear hc
  refine gGO ?_
  (first | refine VO_q (Q_call rfl h1 vA) rfl ?_ | refine VQ_q (Q_call rfl h1 vA) rfl ?_ | (refine VO_bare rfl rfl rfl rfl ?_; refine VO_q (Q_call rfl h1 vA) rfl ?_) | refine VQ_run rfl rfl rfl rfl (Q_call rfl h1 vA) rfl ?_)
  refine gGO ?_
  refine V_cond rfl (fun hc => ?_) (fun hc => ?_)
  · refine gREG ?_
    refine gGO ?_
    refine V_ret ?_
    exact ⟨trivial, ⟨_, rfl, congrArg U.b (deq_false.2 (by intro h; injection h with h; injection h with q0 h; injection h with q1 h; rw [q1, deq_self] at hc; cases hc)).symm⟩, trivial⟩
  refine V_skip ?_
  have e1 := deq_true.1 (by simpa using hc : deq _ _ = true)
  clear hc
  refine gGO ?_
  refine V_ret ?_
  exact ⟨trivial, ⟨_, rfl, congrArg U.b (deq_true.2 (by rw [e0, e1])).symm⟩, trivial⟩
theorem eqConstructorS_step {us vs : List U} (hb1 : us.length ≤ big) (hb2 : vs.length ≤ big) (hz : ∀ a ∈ us, a.isSt = true ∧ a.sz = 2) (hz2 : ∀ a ∈ vs, a.isSt = true ∧ a.sz = 2) (ih : ∀ a ∈ us, ∀ b ∈ vs, PEq 208 a b) : PEq 194 (.sl 2 us) (.sl 2 vs) := by
  rw [big_eq] at hb1 hb2
  refine SpecP_intro Tryz.func194 rfl (by kernel_rfl) rfl fun A _ => ?_
  refine gGO ?_
  refine V_cond rfl (fun hc => ?_) (fun hc => ?_)
  · refine gREG ?_
    refine gGO ?_
    refine V_ret ?_
    exact ⟨trivial, ⟨_, rfl, congrArg U.b (deq_false.2 (by intro h; injection h with _ h; subst h; simp at hc)).symm⟩, trivial⟩
  refine V_skip ?_
  have hll : us.length = vs.length := by simp at hc; omega
  refine gGO ?_
  refine V_block ?_
  refine V_loop (α := Nat)
    (fun k => ⟨[(0, .d (.sl 2 us)), (1, .d (.sl 2 vs)), (5, .d (.i .i64 k))], [], Tryz.f194.ntmps⟩)
    (fun k => k ≤ us.length ∧ ∀ j, j < k → us[j]? = vs[j]?)
    (fun k => us.length - k) 0 ⟨rfl, ⟨⟨rfl, rfl⟩, ⟨rfl, rfl⟩, ⟨rfl, rfl⟩, trivial⟩, ⟨[], rfl⟩, rfl⟩ ⟨by simp, by simp⟩ ?_
  rintro k ⟨hk, hsame⟩
  refine gGO ?_
  refine V_cond rfl (fun hc2 => ?_) (fun hc2 => ?_)
  · refine V_skip ?_
    simp only [decide_eq_true_eq] at hc2
    have hkl : k < us.length := by omega
    have hkv : k < vs.length := by omega
    have hget : us[k]? = some us[k] := List.getElem?_eq_getElem hkl
    have hgev : vs[k]? = some vs[k] := List.getElem?_eq_getElem hkv
    have hmem : us[k] ∈ us := List.getElem_mem hkl
    have hmev : vs[k] ∈ vs := List.getElem_mem hkv
    obtain ⟨hst, hsz⟩ := hz _ hmem
    obtain ⟨hst2, hsz2⟩ := hz2 _ hmev
    refine V_seq (V_block ?_)
    refine gGO ?_
    (first | refine VO_q (Q_index rfl rfl TE.h TI.h (by omega) hget) rfl ?_ | refine VQ_q (Q_index rfl rfl TE.h TI.h (by omega) hget) rfl ?_ | (refine VO_bare rfl rfl rfl rfl ?_; refine VO_q (Q_index rfl rfl TE.h TI.h (by omega) hget) rfl ?_) | refine VQ_run rfl rfl rfl rfl (Q_index rfl rfl TE.h TI.h (by omega) hget) rfl ?_)
    (first | refine VO_q (Q_load rfl TI.h hst hsz) rfl ?_ | refine VQ_q (Q_load rfl TI.h hst hsz) rfl ?_ | (refine VO_bare rfl rfl rfl rfl ?_; refine VO_q (Q_load rfl TI.h hst hsz) rfl ?_) | refine VQ_run rfl rfl rfl rfl (Q_load rfl TI.h hst hsz) rfl ?_)
    refine gGO ?_
    (first | refine VO_q (Q_index rfl rfl TE.h TI.h (by omega) hgev) rfl ?_ | refine VQ_q (Q_index rfl rfl TE.h TI.h (by omega) hgev) rfl ?_ | (refine VO_bare rfl rfl rfl rfl ?_; refine VO_q (Q_index rfl rfl TE.h TI.h (by omega) hgev) rfl ?_) | refine VQ_run rfl rfl rfl rfl (Q_index rfl rfl TE.h TI.h (by omega) hgev) rfl ?_)
    (first | refine VO_q (Q_load rfl TI.h hst2 hsz2) rfl ?_ | refine VQ_q (Q_load rfl TI.h hst2 hsz2) rfl ?_ | (refine VO_bare rfl rfl rfl rfl ?_; refine VO_q (Q_load rfl TI.h hst2 hsz2) rfl ?_) | refine VQ_run rfl rfl rfl rfl (Q_load rfl TI.h hst2 hsz2) rfl ?_)
    (first | refine VO_q (Q_call rfl (ih _ hmem _ hmev) vA) rfl ?_ | refine VQ_q (Q_call rfl (ih _ hmem _ hmev) vA) rfl ?_ | (refine VO_bare rfl rfl rfl rfl ?_; refine VO_q (Q_call rfl (ih _ hmem _ hmev) vA) rfl ?_) | refine VQ_run rfl rfl rfl rfl (Q_call rfl (ih _ hmem _ hmev) vA) rfl ?_)
    refine gGO ?_
    refine V_cond rfl (fun hc3 => ?_) (fun hc3 => ?_)
    · refine gREG ?_
      refine gGO ?_
      refine V_ret ?_
      exact ⟨trivial, ⟨_, rfl, congrArg U.b (deq_false.2 (by intro h; injection h with _ h; subst h; rw [deq_self] at hc3; cases hc3)).symm⟩, trivial⟩
    refine V_skip ?_
    have heq : us[k] = vs[k] := deq_true.1 (by simpa using hc3)
    refine gGO ?_
    refine ⟨k + 1, ⟨by omega, fun j hj => ?_⟩, by omega, ⟨rfl, ⟨⟨rfl, rfl⟩, ⟨rfl, rfl⟩, ⟨rfl, rfl⟩, trivial⟩, ⟨[], rfl⟩, rfl⟩⟩
    by_cases hjk : j = k
    · subst hjk; rw [hget, hgev, heq]
    · exact hsame j (by omega)
  · refine V_exit ?_
    simp only [decide_eq_false_iff_not] at hc2
    have hkl : k = us.length := by omega
    subst hkl
    have hall : us = vs := by
      apply List.ext_getElem?
      intro j
      by_cases hj : j < us.length
      · exact hsame j hj
      · rw [List.getElem?_eq_none (by omega), List.getElem?_eq_none (by omega)]
    show V _ _ _ _ _
    refine gGO ?_
    refine V_ret ?_
    exact ⟨trivial, ⟨_, rfl, congrArg U.b (deq_true.2 (by rw [hall])).symm⟩, trivial⟩
theorem eqConstructor_grp (u : U) : (∀ v, wt (.st 7) u → wt (.st 7) v → PEq 208 u v) := by
  refine U.ind (M := fun u => (∀ v, wt (.st 7) u → wt (.st 7) v → PEq 208 u v)) (fun u ih => ?_) u
  refine ?_
  · intro v h h2
    obtain ⟨f0, f1, rfl, p0, p1⟩ := inv_Constructor h
    obtain ⟨d0, d1, rfl, q0, q1⟩ := inv_Constructor h2
    exact eqConstructor_step p0 q0 (eqTypeS_all p1 q1)
theorem eqConstructor_all {u v : U} (h : wt (.st 7) u) (h2 : wt (.st 7) v) : PEq 208 u v := (eqConstructor_grp u) v h h2
theorem eqConstructorS_all {us vs : List U} (h : us.length ≤ big ∧ ∀ x ∈ us, wt (.st 7) x) (h2 : vs.length ≤ big ∧ ∀ x ∈ vs, wt (.st 7) x) : PEq 194 (.sl 2 us) (.sl 2 vs) := eqConstructorS_step h.1 h2.1 (fun a ha => ⟨wt_isSt (h.2 a ha), by rw [wt_sz a _ (h.2 a ha)]; rfl⟩) (fun a ha => ⟨wt_isSt (h2.2 a ha), by rw [wt_sz a _ (h2.2 a ha)]; rfl⟩) (fun a ha b hb => eqConstructor_all (h.2 a ha) (h2.2 b hb))
theorem eqDataType_step {f0 : List UInt8} {f1 : List U} {f2 : List U} {d0 : List UInt8} {d1 : List U} {d2 : List U} (h0 : f0.length ≤ big) (k0 : d0.length ≤ big) (h1 : PEq 100 (.sl 1 f1) (.sl 1 d1)) (h2 : PEq 194 (.sl 2 f2) (.sl 2 d2)) : PEq 175 (.st [.s f0, .sl 1 f1, .sl 2 f2]) (.st [.s d0, .sl 1 d1, .sl 2 d2]) := by
  refine SpecP_intro Tryz.func175 rfl (by kernel_rfl) rfl fun A _ => ?_
  refine gGO ?_
  refine V_cond rfl (fun hc => ?_) (fun hc => ?_)
  · refine gREG ?_
    refine gGO ?_
    refine V_ret ?_
    exact ⟨trivial, ⟨_, rfl, congrArg U.b (deq_false.2 (by intro h; injection h with h; injection h with q0 h; injection q0 with hk; simp [hk] at hc)).symm⟩, trivial⟩
  refine V_skip ?_
  have e0 := (by simpa using hc : f0 = d0)
  clear hc
  refine gGO ?_
  (first | refine VO_q (Q_call rfl h1 vA) rfl ?_ | refine VQ_q (Q_call rfl h1 vA) rfl ?_ | (refine VO_bare rfl rfl rfl rfl ?_; refine VO_q (Q_call rfl h1 vA) rfl ?_) | refine VQ_run rfl rfl rfl rfl (Q_call rfl h1 vA) rfl ?_)
  refine gGO ?_
  refine V_cond rfl (fun hc => ?_) (fun hc => ?_)
  · refine gREG ?_
    refine gGO ?_
    refine V_ret ?_
    exact ⟨trivial, ⟨_, rfl, congrArg U.b (deq_false.2 (by intro h; injection h with h; injection h with q0 h; injection h with q1 h; rw [q1, deq_self] at hc; cases hc)).symm⟩, trivial⟩
  refine V_skip ?_
  have e1 := deq_true.1 (by simpa using hc : deq _ _ = true)
  clear hc
  refine gGO ?_
  (first | refine VO_q (Q_call rfl h2 vA) rfl ?_ | refine VQ_q (Q_call rfl h2 vA) rfl ?_ | (refine VO_bare rfl rfl rfl rfl ?_; refine VO_q (Q_call rfl h2 vA) rfl ?_) | refine VQ_run rfl rfl rfl rfl (Q_call rfl h2 vA) rfl ?_)
  refine gGO ?_
  refine V_cond rfl (fun hc => ?_) (fun hc => ?_)
  · refine gREG ?_
    refine gGO ?_
    refine V_ret ?_
    exact ⟨trivial, ⟨_, rfl, congrArg U.b (deq_false.2 (by intro h; injection h with h; injection h with q0 h; injection h with q1 h; injection h with q2 h; rw [q2, deq_self] at hc; cases hc)).symm⟩, trivial⟩
  refine V_skip ?_
  have e2 := deq_true.1 (by simpa using hc : deq _ _ = true)
  clear hc
  refine gGO ?_
  refine V_ret ?_
  exact ⟨trivial, ⟨_, rfl, congrArg U.b (deq_true.2 (by rw [e0, e1, e2])).symm⟩, trivial⟩
theorem eqDataTypeS_step {us vs : List U} (hb1 : us.length ≤ big) (hb2 : vs.length ≤ big) (hz : ∀ a ∈ us, a.isSt = true ∧ a.sz = 3) (hz2 : ∀ a ∈ vs, a.isSt = true ∧ a.sz = 3) (ih : ∀ a ∈ us, ∀ b ∈ vs, PEq 175 a b) : PEq 123 (.sl 3 us) (.sl 3 vs) := by
  rw [big_eq] at hb1 hb2
  refine SpecP_intro Tryz.func123 rfl (by kernel_rfl) rfl fun A _ => ?_
  refine gGO ?_
  refine V_cond rfl (fun hc => ?_) (fun hc => ?_)
  · refine gREG ?_
    refine gGO ?_
    refine V_ret ?_
    exact ⟨trivial, ⟨_, rfl, congrArg U.b (deq_false.2 (by intro h; injection h with _ h; subst h; simp at hc)).symm⟩, trivial⟩
  refine V_skip ?_
  have hll : us.length = vs.length := by simp at hc; omega
  refine gGO ?_
  refine V_block ?_
  refine V_loop (α := Nat)
    (fun k => ⟨[(0, .d (.sl 3 us)), (1, .d (.sl 3 vs)), (5, .d (.i .i64 k))], [], Tryz.f123.ntmps⟩)
    (fun k => k ≤ us.length ∧ ∀ j, j < k → us[j]? = vs[j]?)
    (fun k => us.length - k) 0 ⟨rfl, ⟨⟨rfl, rfl⟩, ⟨rfl, rfl⟩, ⟨rfl, rfl⟩, trivial⟩, ⟨[], rfl⟩, rfl⟩ ⟨by simp, by simp⟩ ?_
  rintro k ⟨hk, hsame⟩
  refine gGO ?_
  refine V_cond rfl (fun hc2 => ?_) (fun hc2 => ?_)
  · refine V_skip ?_
    simp only [decide_eq_true_eq] at hc2
    have hkl : k < us.length := by omega
    have hkv : k < vs.length := by omega
    have hget : us[k]? = some us[k] := List.getElem?_eq_getElem hkl
    have hgev : vs[k]? = some vs[k] := List.getElem?_eq_getElem hkv
    have hmem : us[k] ∈ us := List.getElem_mem hkl
    have hmev : vs[k] ∈ vs := List.getElem_mem hkv
    obtain ⟨hst, hsz⟩ := hz _ hmem
    obtain ⟨hst2, hsz2⟩ := hz2 _ hmev
    refine V_seq (V_block ?_)
    refine gGO ?_
    (first | refine VO_q (Q_index rfl rfl TE.h TI.h (by omega) hget) rfl ?_ | refine VQ_q (Q_index rfl rfl TE.h TI.h (by omega) hget) rfl ?_ | (refine VO_bare rfl rfl rfl rfl ?_; refine VO_q (Q_index rfl rfl TE.h TI.h (by omega) hget) rfl ?_) | refine VQ_run rfl rfl rfl rfl (Q_index rfl rfl TE.h TI.h (by omega) hget) rfl ?_)
    (first | refine VO_q (Q_load rfl TI.h hst hsz) rfl ?_ | refine VQ_q (Q_load rfl TI.h hst hsz) rfl ?_ | (refine VO_bare rfl rfl rfl rfl ?_; refine VO_q (Q_load rfl TI.h hst hsz) rfl ?_) | refine VQ_run rfl rfl rfl rfl (Q_load rfl TI.h hst hsz) rfl ?_)
    refine gGO ?_
    (first | refine VO_q (Q_index rfl rfl TE.h TI.h (by omega) hgev) rfl ?_ | refine VQ_q (Q_index rfl rfl TE.h TI.h (by omega) hgev) rfl ?_ | (refine VO_bare rfl rfl rfl rfl ?_; refine VO_q (Q_index rfl rfl TE.h TI.h (by omega) hgev) rfl ?_) | refine VQ_run rfl rfl rfl rfl (Q_index rfl rfl TE.h TI.h (by omega) hgev) rfl ?_)
    (first | refine VO_q (Q_load rfl TI.h hst2 hsz2) rfl ?_ | refine VQ_q (Q_load rfl TI.h hst2 hsz2) rfl ?_ | (refine VO_bare rfl rfl rfl rfl ?_; refine VO_q (Q_load rfl TI.h hst2 hsz2) rfl ?_) | refine VQ_run rfl rfl rfl rfl (Q_load rfl TI.h hst2 hsz2) rfl ?_)
    (first | refine VO_q (Q_call rfl (ih _ hmem _ hmev) vA) rfl ?_ | refine VQ_q (Q_call rfl (ih _ hmem _ hmev) vA) rfl ?_ | (refine VO_bare rfl rfl rfl rfl ?_; refine VO_q (Q_call rfl (ih _ hmem _ hmev) vA) rfl ?_) | refine VQ_run rfl rfl rfl rfl (Q_call rfl (ih _ hmem _ hmev) vA) rfl ?_)
    refine gGO ?_
    refine V_cond rfl (fun hc3 => ?_) (fun hc3 => ?_)
    · refine gREG ?_
      refine gGO ?_
      refine V_ret ?_
      exact ⟨trivial, ⟨_, rfl, congrArg U.b (deq_false.2 (by intro h; injection h with _ h; subst h; rw [deq_self] at hc3; cases hc3)).symm⟩, trivial⟩
    refine V_skip ?_
    have heq : us[k] = vs[k] := deq_true.1 (by simpa using hc3)
    refine gGO ?_
    refine ⟨k + 1, ⟨by omega, fun j hj => ?_⟩, by omega, ⟨rfl, ⟨⟨rfl, rfl⟩, ⟨rfl, rfl⟩, ⟨rfl, rfl⟩, trivial⟩, ⟨[], rfl⟩, rfl⟩⟩
    by_cases hjk : j = k
    · subst hjk; rw [hget, hgev, heq]
    · exact hsame j (by omega)
  · refine V_exit ?_
    simp only [decide_eq_false_iff_not] at hc2
    have hkl : k = us.length := by omega
    subst hkl
    have hall : us = vs := by
      apply List.ext_getElem?
      intro j
      by_cases hj : j < us.length
      · exact hsame j hj
      · rw [List.getElem?_eq_none (by omega), List.getElem?_eq_none (by omega)]
    show V _ _ _ _ _
    refine gGO ?_
    refine V_ret ?_
    exact ⟨trivial, ⟨_, rfl, congrArg U.b (deq_true.2 (by rw [hall])).symm⟩, trivial⟩
theorem eqDataType_grp (u : U) : (∀ v, wt (.st 8) u → wt (.st 8) v → PEq 175 u v) := by
  refine U.ind (M := fun u => (∀ v, wt (.st 8) u → wt (.st 8) v → PEq 175 u v)) (fun u ih => ?_) u
  refine ?_
  · intro v h h2
    obtain ⟨f0, f1, f2, rfl, p0, p1, p2⟩ := inv_DataType h
    obtain ⟨d0, d1, d2, rfl, q0, q1, q2⟩ := inv_DataType h2
    exact eqDataType_step p0 q0 (eqStringS_all p1 q1) (eqConstructorS_all p2 q2)
theorem eqDataType_all {u v : U} (h : wt (.st 8) u) (h2 : wt (.st 8) v) : PEq 175 u v := (eqDataType_grp u) v h h2
theorem eqDataTypeS_all {us vs : List U} (h : us.length ≤ big ∧ ∀ x ∈ us, wt (.st 8) x) (h2 : vs.length ≤ big ∧ ∀ x ∈ vs, wt (.st 8) x) : PEq 123 (.sl 3 us) (.sl 3 vs) := eqDataTypeS_step h.1 h2.1 (fun a ha => ⟨wt_isSt (h.2 a ha), by rw [wt_sz a _ (h.2 a ha)]; rfl⟩) (fun a ha => ⟨wt_isSt (h2.2 a ha), by rw [wt_sz a _ (h2.2 a ha)]; rfl⟩) (fun a ha b hb => eqDataType_all (h.2 a ha) (h2.2 b hb))
theorem eqBound_step {f0 : List UInt8} {f1 : U} {d0 : List UInt8} {d1 : U} (h0 : f0.length ≤ big) (k0 : d0.length ≤ big) (g1 : wt (.st 1) f1) (j1 : wt (.st 1) d1) (h1 : PEq 103 f1 d1) : PEq 151 (.st [.s f0, f1]) (.st [.s d0, d1]) := by
  obtain ⟨e43_0, e43_1, e43_2, rfl, g43_0, g43_1, g43_2⟩ := inv_Type g1
  obtain ⟨e44_0, e44_1, e44_2, rfl, g44_0, g44_1, g44_2⟩ := inv_Type j1
  refine SpecP_intro Tryz.func151 rfl (by kernel_rfl) rfl fun A _ => ?_
  refine gGO ?_
  refine V_cond rfl (fun hc => ?_) (fun hc => ?_)
  · refine gREG ?_
    refine gGO ?_
    refine V_ret ?_
    exact ⟨trivial, ⟨_, rfl, congrArg U.b (deq_false.2 (by intro h; injection h with h; injection h with q0 h; injection q0 with hk; simp [hk] at hc)).symm⟩, trivial⟩
  refine V_skip ?_
  have e0 := (by simpa using hc : f0 = d0)
  clear hc
  refine gGO ?_
  (first | refine VO_q (Q_call rfl h1 vA) rfl ?_ | refine VQ_q (Q_call rfl h1 vA) rfl ?_ | (refine VO_bare rfl rfl rfl rfl ?_; refine VO_q (Q_call rfl h1 vA) rfl ?_) | refine VQ_run rfl rfl rfl rfl (Q_call rfl h1 vA) rfl ?_)
  refine gGO ?_
  refine V_cond rfl (fun hc => ?_) (fun hc => ?_)
  · refine gREG ?_
    refine gGO ?_
    refine V_ret ?_
    exact ⟨trivial, ⟨_, rfl, congrArg U.b (deq_false.2 (by intro h; injection h with h; injection h with q0 h; injection h with q1 h; rw [q1, deq_self] at hc; cases hc)).symm⟩, trivial⟩
  refine V_skip ?_
  have e1 := deq_true.1 (by simpa using hc : deq _ _ = true)
  clear hc
  refine gGO ?_
  refine V_ret ?_
  exact ⟨trivial, ⟨_, rfl, congrArg U.b (deq_true.2 (by rw [e0, e1])).symm⟩, trivial⟩
theorem eqBoundS_step {us vs : List U} (hb1 : us.length ≤ big) (hb2 : vs.length ≤ big) (hz : ∀ a ∈ us, a.isSt = true ∧ a.sz = 4) (hz2 : ∀ a ∈ vs, a.isSt = true ∧ a.sz = 4) (ih : ∀ a ∈ us, ∀ b ∈ vs, PEq 151 a b) : PEq 101 (.sl 4 us) (.sl 4 vs) := by
  rw [big_eq] at hb1 hb2
  refine SpecP_intro Tryz.func101 rfl (by kernel_rfl) rfl fun A _ => ?_
  refine gGO ?_
  refine V_cond rfl (fun hc => ?_) (fun hc => ?_)
  · refine gREG ?_
    refine gGO ?_
    refine V_ret ?_
    exact ⟨trivial, ⟨_, rfl, congrArg U.b (deq_false.2 (by intro h; injection h with _ h; subst h; simp at hc)).symm⟩, trivial⟩
  refine V_skip ?_
  have hll : us.length = vs.length := by simp at hc; omega
  refine gGO ?_
  refine V_block ?_
  refine V_loop (α := Nat)
    (fun k => ⟨[(0, .d (.sl 4 us)), (1, .d (.sl 4 vs)), (5, .d (.i .i64 k))], [], Tryz.f101.ntmps⟩)
    (fun k => k ≤ us.length ∧ ∀ j, j < k → us[j]? = vs[j]?)
    (fun k => us.length - k) 0 ⟨rfl, ⟨⟨rfl, rfl⟩, ⟨rfl, rfl⟩, ⟨rfl, rfl⟩, trivial⟩, ⟨[], rfl⟩, rfl⟩ ⟨by simp, by simp⟩ ?_
  rintro k ⟨hk, hsame⟩
  refine gGO ?_
  refine V_cond rfl (fun hc2 => ?_) (fun hc2 => ?_)
  · refine V_skip ?_
    simp only [decide_eq_true_eq] at hc2
    have hkl : k < us.length := by omega
    have hkv : k < vs.length := by omega
    have hget : us[k]? = some us[k] := List.getElem?_eq_getElem hkl
    have hgev : vs[k]? = some vs[k] := List.getElem?_eq_getElem hkv
    have hmem : us[k] ∈ us := List.getElem_mem hkl
    have hmev : vs[k] ∈ vs := List.getElem_mem hkv
    obtain ⟨hst, hsz⟩ := hz _ hmem
    obtain ⟨hst2, hsz2⟩ := hz2 _ hmev
    refine V_seq (V_block ?_)
    refine gGO ?_
    (first | refine VO_q (Q_index rfl rfl TE.h TI.h (by omega) hget) rfl ?_ | refine VQ_q (Q_index rfl rfl TE.h TI.h (by omega) hget) rfl ?_ | (refine VO_bare rfl rfl rfl rfl ?_; refine VO_q (Q_index rfl rfl TE.h TI.h (by omega) hget) rfl ?_) | refine VQ_run rfl rfl rfl rfl (Q_index rfl rfl TE.h TI.h (by omega) hget) rfl ?_)
    (first | refine VO_q (Q_load rfl TI.h hst hsz) rfl ?_ | refine VQ_q (Q_load rfl TI.h hst hsz) rfl ?_ | (refine VO_bare rfl rfl rfl rfl ?_; refine VO_q (Q_load rfl TI.h hst hsz) rfl ?_) | refine VQ_run rfl rfl rfl rfl (Q_load rfl TI.h hst hsz) rfl ?_)
    refine gGO ?_
    (first | refine VO_q (Q_index rfl rfl TE.h TI.h (by omega) hgev) rfl ?_ | refine VQ_q (Q_index rfl rfl TE.h TI.h (by omega) hgev) rfl ?_ | (refine VO_bare rfl rfl rfl rfl ?_; refine VO_q (Q_index rfl rfl TE.h TI.h (by omega) hgev) rfl ?_) | refine VQ_run rfl rfl rfl rfl (Q_index rfl rfl TE.h TI.h (by omega) hgev) rfl ?_)
    (first | refine VO_q (Q_load rfl TI.h hst2 hsz2) rfl ?_ | refine VQ_q (Q_load rfl TI.h hst2 hsz2) rfl ?_ | (refine VO_bare rfl rfl rfl rfl ?_; refine VO_q (Q_load rfl TI.h hst2 hsz2) rfl ?_) | refine VQ_run rfl rfl rfl rfl (Q_load rfl TI.h hst2 hsz2) rfl ?_)
    (first | refine VO_q (Q_call rfl (ih _ hmem _ hmev) vA) rfl ?_ | refine VQ_q (Q_call rfl (ih _ hmem _ hmev) vA) rfl ?_ | (refine VO_bare rfl rfl rfl rfl ?_; refine VO_q (Q_call rfl (ih _ hmem _ hmev) vA) rfl ?_) | refine VQ_run rfl rfl rfl rfl (Q_call rfl (ih _ hmem _ hmev) vA) rfl ?_)
    refine gGO ?_
    refine V_cond rfl (fun hc3 => ?_) (fun hc3 => ?_)
    · refine gREG ?_
      refine gGO ?_
      refine V_ret ?_
      exact ⟨trivial, ⟨_, rfl, congrArg U.b (deq_false.2 (by intro h; injection h with _ h; subst h; rw [deq_self] at hc3; cases hc3)).symm⟩, trivial⟩
    refine V_skip ?_
    have heq : us[k] = vs[k] := deq_true.1 (by simpa using hc3)
    refine gGO ?_
    refine ⟨k + 1, ⟨by omega, fun j hj => ?_⟩, by omega, ⟨rfl, ⟨⟨rfl, rfl⟩, ⟨rfl, rfl⟩, ⟨rfl, rfl⟩, trivial⟩, ⟨[], rfl⟩, rfl⟩⟩
    by_cases hjk : j = k
    · subst hjk; rw [hget, hgev, heq]
    · exact hsame j (by omega)
  · refine V_exit ?_
    simp only [decide_eq_false_iff_not] at hc2
    have hkl : k = us.length := by omega
    subst hkl
    have hall : us = vs := by
      apply List.ext_getElem?
      intro j
      by_cases hj : j < us.length
      · exact hsame j hj
      · rw [List.getElem?_eq_none (by omega), List.getElem?_eq_none (by omega)]
    show V _ _ _ _ _
    refine gGO ?_
    refine V_ret ?_
    exact ⟨trivial, ⟨_, rfl, congrArg U.b (deq_true.2 (by rw [hall])).symm⟩, trivial⟩
theorem eqBound_grp (u : U) : (∀ v, wt (.st 9) u → wt (.st 9) v → PEq 151 u v) := by
  refine U.ind (M := fun u => (∀ v, wt (.st 9) u → wt (.st 9) v → PEq 151 u v)) (fun u ih => ?_) u
  refine ?_
  · intro v h h2
    obtain ⟨f0, f1, rfl, p0, p1⟩ := inv_Bound h
    obtain ⟨d0, d1, rfl, q0, q1⟩ := inv_Bound h2
    exact eqBound_step p0 q0 p1 q1 (eqType_all p1 q1)
theorem eqBound_all {u v : U} (h : wt (.st 9) u) (h2 : wt (.st 9) v) : PEq 151 u v := (eqBound_grp u) v h h2
theorem eqBoundS_all {us vs : List U} (h : us.length ≤ big ∧ ∀ x ∈ us, wt (.st 9) x) (h2 : vs.length ≤ big ∧ ∀ x ∈ vs, wt (.st 9) x) : PEq 101 (.sl 4 us) (.sl 4 vs) := eqBoundS_step h.1 h2.1 (fun a ha => ⟨wt_isSt (h.2 a ha), by rw [wt_sz a _ (h.2 a ha)]; rfl⟩) (fun a ha => ⟨wt_isSt (h2.2 a ha), by rw [wt_sz a _ (h2.2 a ha)]; rfl⟩) (fun a ha b hb => eqBound_all (h.2 a ha) (h2.2 b hb))
theorem eqMethod_step {f0 : List UInt8} {f1 : List U} {f2 : U} {d0 : List UInt8} {d1 : List U} {d2 : U} (h0 : f0.length ≤ big) (k0 : d0.length ≤ big) (h1 : PEq 100 (.sl 1 f1) (.sl 1 d1)) (g2 : wt (.st 4) f2) (j2 : wt (.st 4) d2) (h2 : PEq 196 f2 d2) : PEq 209 (.st [.s f0, .sl 1 f1, f2]) (.st [.s d0, .sl 1 d1, d2]) := by
  obtain ⟨e45_0, e45_1, e45_2, e45_3, e45_4, e45_5, e45_6, rfl, g45_0, g45_1, g45_2, g45_3, g45_4, g45_5, g45_6⟩ := inv_Expr g2
  obtain ⟨e46_0, e46_1, e46_2, rfl, g46_0, g46_1, g46_2⟩ := inv_Type g45_4
  obtain ⟨e47_0, e47_1, e47_2, e47_3, e47_4, e47_5, e47_6, rfl, g47_0, g47_1, g47_2, g47_3, g47_4, g47_5, g47_6⟩ := inv_Expr j2
  obtain ⟨e48_0, e48_1, e48_2, rfl, g48_0, g48_1, g48_2⟩ := inv_Type g47_4
  refine SpecP_intro Tryz.func209 rfl (by kernel_rfl) rfl fun A _ => ?_
  refine gGO ?_
  refine V_cond rfl (fun hc => ?_) (fun hc => ?_)
  · refine gREG ?_
    refine gGO ?_
    refine V_ret ?_
    exact ⟨trivial, ⟨_, rfl, congrArg U.b (deq_false.2 (by intro h; injection h with h; injection h with q0 h; injection q0 with hk; simp [hk] at hc)).symm⟩, trivial⟩
  refine V_skip ?_
  have e0 := (by simpa using hc : f0 = d0)
  clear hc
  refine gGO ?_
  (first | refine VO_q (Q_call rfl h1 vA) rfl ?_ | refine VQ_q (Q_call rfl h1 vA) rfl ?_ | (refine VO_bare rfl rfl rfl rfl ?_; refine VO_q (Q_call rfl h1 vA) rfl ?_) | refine VQ_run rfl rfl rfl rfl (Q_call rfl h1 vA) rfl ?_)
  refine gGO ?_
  refine V_cond rfl (fun hc => ?_) (fun hc => ?_)
  · refine gREG ?_
    refine gGO ?_
    refine V_ret ?_
    exact ⟨trivial, ⟨_, rfl, congrArg U.b (deq_false.2 (by intro h; injection h with h; injection h with q0 h; injection h with q1 h; rw [q1, deq_self] at hc; cases hc)).symm⟩, trivial⟩
  refine V_skip ?_
  have e1 := deq_true.1 (by simpa using hc : deq _ _ = true)
  clear hc
  refine gGO ?_
  (first | refine VO_q (Q_call rfl h2 vA) rfl ?_ | refine VQ_q (Q_call rfl h2 vA) rfl ?_ | (refine VO_bare rfl rfl rfl rfl ?_; refine VO_q (Q_call rfl h2 vA) rfl ?_) | refine VQ_run rfl rfl rfl rfl (Q_call rfl h2 vA) rfl ?_)
  refine gGO ?_
  refine V_cond rfl (fun hc => ?_) (fun hc => ?_)
  · refine gREG ?_
    refine gGO ?_
    refine V_ret ?_
    exact ⟨trivial, ⟨_, rfl, congrArg U.b (deq_false.2 (by intro h; injection h with h; injection h with q0 h; injection h with q1 h; injection h with q2 h; rw [q2, deq_self] at hc; cases hc)).symm⟩, trivial⟩
  refine V_skip ?_
  have e2 := deq_true.1 (by simpa using hc : deq _ _ = true)
  clear hc
  refine gGO ?_
  refine V_ret ?_
  exact ⟨trivial, ⟨_, rfl, congrArg U.b (deq_true.2 (by rw [e0, e1, e2])).symm⟩, trivial⟩
theorem eqMethodS_step {us vs : List U} (hb1 : us.length ≤ big) (hb2 : vs.length ≤ big) (hz : ∀ a ∈ us, a.isSt = true ∧ a.sz = 11) (hz2 : ∀ a ∈ vs, a.isSt = true ∧ a.sz = 11) (ih : ∀ a ∈ us, ∀ b ∈ vs, PEq 209 a b) : PEq 195 (.sl 11 us) (.sl 11 vs) := by
  rw [big_eq] at hb1 hb2
  refine SpecP_intro Tryz.func195 rfl (by kernel_rfl) rfl fun A _ => ?_
  refine gGO ?_
  refine V_cond rfl (fun hc => ?_) (fun hc => ?_)
  · refine gREG ?_
    refine gGO ?_
    refine V_ret ?_
    exact ⟨trivial, ⟨_, rfl, congrArg U.b (deq_false.2 (by intro h; injection h with _ h; subst h; simp at hc)).symm⟩, trivial⟩
  refine V_skip ?_
  have hll : us.length = vs.length := by simp at hc; omega
  refine gGO ?_
  refine V_block ?_
  refine V_loop (α := Nat)
    (fun k => ⟨[(0, .d (.sl 11 us)), (1, .d (.sl 11 vs)), (5, .d (.i .i64 k))], [], Tryz.f195.ntmps⟩)
    (fun k => k ≤ us.length ∧ ∀ j, j < k → us[j]? = vs[j]?)
    (fun k => us.length - k) 0 ⟨rfl, ⟨⟨rfl, rfl⟩, ⟨rfl, rfl⟩, ⟨rfl, rfl⟩, trivial⟩, ⟨[], rfl⟩, rfl⟩ ⟨by simp, by simp⟩ ?_
  rintro k ⟨hk, hsame⟩
  refine gGO ?_
  refine V_cond rfl (fun hc2 => ?_) (fun hc2 => ?_)
  · refine V_skip ?_
    simp only [decide_eq_true_eq] at hc2
    have hkl : k < us.length := by omega
    have hkv : k < vs.length := by omega
    have hget : us[k]? = some us[k] := List.getElem?_eq_getElem hkl
    have hgev : vs[k]? = some vs[k] := List.getElem?_eq_getElem hkv
    have hmem : us[k] ∈ us := List.getElem_mem hkl
    have hmev : vs[k] ∈ vs := List.getElem_mem hkv
    obtain ⟨hst, hsz⟩ := hz _ hmem
    obtain ⟨hst2, hsz2⟩ := hz2 _ hmev
    refine V_seq (V_block ?_)
    refine gGO ?_
    (first | refine VO_q (Q_index rfl rfl TE.h TI.h (by omega) hget) rfl ?_ | refine VQ_q (Q_index rfl rfl TE.h TI.h (by omega) hget) rfl ?_ | (refine VO_bare rfl rfl rfl rfl ?_; refine VO_q (Q_index rfl rfl TE.h TI.h (by omega) hget) rfl ?_) | refine VQ_run rfl rfl rfl rfl (Q_index rfl rfl TE.h TI.h (by omega) hget) rfl ?_)
    (first | refine VO_q (Q_load rfl TI.h hst hsz) rfl ?_ | refine VQ_q (Q_load rfl TI.h hst hsz) rfl ?_ | (refine VO_bare rfl rfl rfl rfl ?_; refine VO_q (Q_load rfl TI.h hst hsz) rfl ?_) | refine VQ_run rfl rfl rfl rfl (Q_load rfl TI.h hst hsz) rfl ?_)
    refine gGO ?_
    (first | refine VO_q (Q_index rfl rfl TE.h TI.h (by omega) hgev) rfl ?_ | refine VQ_q (Q_index rfl rfl TE.h TI.h (by omega) hgev) rfl ?_ | (refine VO_bare rfl rfl rfl rfl ?_; refine VO_q (Q_index rfl rfl TE.h TI.h (by omega) hgev) rfl ?_) | refine VQ_run rfl rfl rfl rfl (Q_index rfl rfl TE.h TI.h (by omega) hgev) rfl ?_)
    (first | refine VO_q (Q_load rfl TI.h hst2 hsz2) rfl ?_ | refine VQ_q (Q_load rfl TI.h hst2 hsz2) rfl ?_ | (refine VO_bare rfl rfl rfl rfl ?_; refine VO_q (Q_load rfl TI.h hst2 hsz2) rfl ?_) | refine VQ_run rfl rfl rfl rfl (Q_load rfl TI.h hst2 hsz2) rfl ?_)
    (first | refine VO_q (Q_call rfl (ih _ hmem _ hmev) vA) rfl ?_ | refine VQ_q (Q_call rfl (ih _ hmem _ hmev) vA) rfl ?_ | (refine VO_bare rfl rfl rfl rfl ?_; refine VO_q (Q_call rfl (ih _ hmem _ hmev) vA) rfl ?_) | refine VQ_run rfl rfl rfl rfl (Q_call rfl (ih _ hmem _ hmev) vA) rfl ?_)
    refine gGO ?_
    refine V_cond rfl (fun hc3 => ?_) (fun hc3 => ?_)
    · refine gREG ?_
      refine gGO ?_
      refine V_ret ?_
      exact ⟨trivial, ⟨_, rfl, congrArg U.b (deq_false.2 (by intro h; injection h with _ h; subst h; rw [deq_self] at hc3; cases hc3)).symm⟩, trivial⟩
    refine V_skip ?_
    have heq : us[k] = vs[k] := deq_true.1 (by simpa using hc3)
    refine gGO ?_
    refine ⟨k + 1, ⟨by omega, fun j hj => ?_⟩, by omega, ⟨rfl, ⟨⟨rfl, rfl⟩, ⟨rfl, rfl⟩, ⟨rfl, rfl⟩, trivial⟩, ⟨[], rfl⟩, rfl⟩⟩
    by_cases hjk : j = k
    · subst hjk; rw [hget, hgev, heq]
    · exact hsame j (by omega)
  · refine V_exit ?_
    simp only [decide_eq_false_iff_not] at hc2
    have hkl : k = us.length := by omega
    subst hkl
    have hall : us = vs := by
      apply List.ext_getElem?
      intro j
      by_cases hj : j < us.length
      · exact hsame j hj
      · rw [List.getElem?_eq_none (by omega), List.getElem?_eq_none (by omega)]
    show V _ _ _ _ _
    refine gGO ?_
    refine V_ret ?_
    exact ⟨trivial, ⟨_, rfl, congrArg U.b (deq_true.2 (by rw [hall])).symm⟩, trivial⟩
theorem eqMethod_grp (u : U) : (∀ v, wt (.st 10) u → wt (.st 10) v → PEq 209 u v) := by
  refine U.ind (M := fun u => (∀ v, wt (.st 10) u → wt (.st 10) v → PEq 209 u v)) (fun u ih => ?_) u
  refine ?_
  · intro v h h2
    obtain ⟨f0, f1, f2, rfl, p0, p1, p2⟩ := inv_Method h
    obtain ⟨d0, d1, d2, rfl, q0, q1, q2⟩ := inv_Method h2
    exact eqMethod_step p0 q0 (eqStringS_all p1 q1) p2 q2 (eqExpr_all p2 q2)
theorem eqMethod_all {u v : U} (h : wt (.st 10) u) (h2 : wt (.st 10) v) : PEq 209 u v := (eqMethod_grp u) v h h2
theorem eqMethodS_all {us vs : List U} (h : us.length ≤ big ∧ ∀ x ∈ us, wt (.st 10) x) (h2 : vs.length ≤ big ∧ ∀ x ∈ vs, wt (.st 10) x) : PEq 195 (.sl 11 us) (.sl 11 vs) := eqMethodS_step h.1 h2.1 (fun a ha => ⟨wt_isSt (h.2 a ha), by rw [wt_sz a _ (h.2 a ha)]; rfl⟩) (fun a ha => ⟨wt_isSt (h2.2 a ha), by rw [wt_sz a _ (h2.2 a ha)]; rfl⟩) (fun a ha b hb => eqMethod_all (h.2 a ha) (h2.2 b hb))
theorem eqInstance_step {f0 : List UInt8} {f1 : List U} {f2 : U} {f3 : List U} {f4 : Bool} {f5 : Bool} {f6 : U} {f7 : List U} {d0 : List UInt8} {d1 : List U} {d2 : U} {d3 : List U} {d4 : Bool} {d5 : Bool} {d6 : U} {d7 : List U} (h0 : f0.length ≤ big) (k0 : d0.length ≤ big) (h1 : PEq 100 (.sl 1 f1) (.sl 1 d1)) (g2 : wt (.st 1) f2) (j2 : wt (.st 1) d2) (h2 : PEq 103 f2 d2) (h3 : PEq 101 (.sl 4 f3) (.sl 4 d3)) (g6 : wt (.st 1) f6) (j6 : wt (.st 1) d6) (h6 : PEq 103 f6 d6) (h7 : PEq 195 (.sl 11 f7) (.sl 11 d7)) : PEq 176 (.st [.s f0, .sl 1 f1, f2, .sl 4 f3, .b f4, .b f5, f6, .sl 11 f7]) (.st [.s d0, .sl 1 d1, d2, .sl 4 d3, .b d4, .b d5, d6, .sl 11 d7]) := by
  obtain ⟨e49_0, e49_1, e49_2, rfl, g49_0, g49_1, g49_2⟩ := inv_Type g2
  obtain ⟨e50_0, e50_1, e50_2, rfl, g50_0, g50_1, g50_2⟩ := inv_Type j2
  obtain ⟨e51_0, e51_1, e51_2, rfl, g51_0, g51_1, g51_2⟩ := inv_Type g6
  obtain ⟨e52_0, e52_1, e52_2, rfl, g52_0, g52_1, g52_2⟩ := inv_Type j6
  refine SpecP_intro Tryz.func176 rfl (by kernel_rfl) rfl fun A _ => ?_
  refine gGO ?_
  refine V_cond rfl (fun hc => ?_) (fun hc => ?_)
  · refine gREG ?_
    refine gGO ?_
    refine V_ret ?_
    exact ⟨trivial, ⟨_, rfl, congrArg U.b (deq_false.2 (by intro h; injection h with h; injection h with q0 h; injection q0 with hk; simp [hk] at hc)).symm⟩, trivial⟩
  refine V_skip ?_
  have e0 := (by simpa using hc : f0 = d0)
  clear hc
  refine gGO ?_
  (first | refine VO_q (Q_call rfl h1 vA) rfl ?_ | refine VQ_q (Q_call rfl h1 vA) rfl ?_ | (refine VO_bare rfl rfl rfl rfl ?_; refine VO_q (Q_call rfl h1 vA) rfl ?_) | refine VQ_run rfl rfl rfl rfl (Q_call rfl h1 vA) rfl ?_)
  refine gGO ?_
  refine V_cond rfl (fun hc => ?_) (fun hc => ?_)
  · refine gREG ?_
    refine gGO ?_
    refine V_ret ?_
    exact ⟨trivial, ⟨_, rfl, congrArg U.b (deq_false.2 (by intro h; injection h with h; injection h with q0 h; injection h with q1 h; rw [q1, deq_self] at hc; cases hc)).symm⟩, trivial⟩
  refine V_skip ?_
  have e1 := deq_true.1 (by simpa using hc : deq _ _ = true)
  clear hc
  refine gGO ?_
  (first | refine VO_q (Q_call rfl h2 vA) rfl ?_ | refine VQ_q (Q_call rfl h2 vA) rfl ?_ | (refine VO_bare rfl rfl rfl rfl ?_; refine VO_q (Q_call rfl h2 vA) rfl ?_) | refine VQ_run rfl rfl rfl rfl (Q_call rfl h2 vA) rfl ?_)
  refine gGO ?_
  refine V_cond rfl (fun hc => ?_) (fun hc => ?_)
  · refine gREG ?_
    refine gGO ?_
    refine V_ret ?_
    exact ⟨trivial, ⟨_, rfl, congrArg U.b (deq_false.2 (by intro h; injection h with h; injection h with q0 h; injection h with q1 h; injection h with q2 h; rw [q2, deq_self] at hc; cases hc)).symm⟩, trivial⟩
  refine V_skip ?_
  have e2 := deq_true.1 (by simpa using hc : deq _ _ = true)
  clear hc
  refine gGO ?_
  (first | refine VO_q (Q_call rfl h3 vA) rfl ?_ | refine VQ_q (Q_call rfl h3 vA) rfl ?_ | (refine VO_bare rfl rfl rfl rfl ?_; refine VO_q (Q_call rfl h3 vA) rfl ?_) | refine VQ_run rfl rfl rfl rfl (Q_call rfl h3 vA) rfl ?_)
  refine gGO ?_
  refine V_cond rfl (fun hc => ?_) (fun hc => ?_)
  · refine gREG ?_
    refine gGO ?_
    refine V_ret ?_
    exact ⟨trivial, ⟨_, rfl, congrArg U.b (deq_false.2 (by intro h; injection h with h; injection h with q0 h; injection h with q1 h; injection h with q2 h; injection h with q3 h; rw [q3, deq_self] at hc; cases hc)).symm⟩, trivial⟩
  refine V_skip ?_
  have e3 := deq_true.1 (by simpa using hc : deq _ _ = true)
  clear hc
  refine gGO ?_
  refine V_cond rfl (fun hc => ?_) (fun hc => ?_)
  · refine gREG ?_
    refine gGO ?_
    refine V_ret ?_
    exact ⟨trivial, ⟨_, rfl, congrArg U.b (deq_false.2 (by intro h; injection h with h; injection h with q0 h; injection h with q1 h; injection h with q2 h; injection h with q3 h; injection h with q4 h; injection q4 with hk; simp [hk] at hc)).symm⟩, trivial⟩
  refine V_skip ?_
  have e4 := (by simpa using hc : f4 = d4)
  clear hc
  refine gGO ?_
  refine V_cond rfl (fun hc => ?_) (fun hc => ?_)
  · refine gREG ?_
    refine gGO ?_
    refine V_ret ?_
    exact ⟨trivial, ⟨_, rfl, congrArg U.b (deq_false.2 (by intro h; injection h with h; injection h with q0 h; injection h with q1 h; injection h with q2 h; injection h with q3 h; injection h with q4 h; injection h with q5 h; injection q5 with hk; simp [hk] at hc)).symm⟩, trivial⟩
  refine V_skip ?_
  have e5 := (by simpa using hc : f5 = d5)
  clear hc
  refine gGO ?_
  (first | refine VO_q (Q_call rfl h6 vA) rfl ?_ | refine VQ_q (Q_call rfl h6 vA) rfl ?_ | (refine VO_bare rfl rfl rfl rfl ?_; refine VO_q (Q_call rfl h6 vA) rfl ?_) | refine VQ_run rfl rfl rfl rfl (Q_call rfl h6 vA) rfl ?_)
  refine gGO ?_
  refine V_cond rfl (fun hc => ?_) (fun hc => ?_)
  · refine gREG ?_
    refine gGO ?_
    refine V_ret ?_
    exact ⟨trivial, ⟨_, rfl, congrArg U.b (deq_false.2 (by intro h; injection h with h; injection h with q0 h; injection h with q1 h; injection h with q2 h; injection h with q3 h; injection h with q4 h; injection h with q5 h; injection h with q6 h; rw [q6, deq_self] at hc; cases hc)).symm⟩, trivial⟩
  refine V_skip ?_
  have e6 := deq_true.1 (by simpa using hc : deq _ _ = true)
  clear hc
  refine gGO ?_
  (first | refine VO_q (Q_call rfl h7 vA) rfl ?_ | refine VQ_q (Q_call rfl h7 vA) rfl ?_ | (refine VO_bare rfl rfl rfl rfl ?_; refine VO_q (Q_call rfl h7 vA) rfl ?_) | refine VQ_run rfl rfl rfl rfl (Q_call rfl h7 vA) rfl ?_)
  refine gGO ?_
  refine V_cond rfl (fun hc => ?_) (fun hc => ?_)
  · refine gREG ?_
    refine gGO ?_
    refine V_ret ?_
    exact ⟨trivial, ⟨_, rfl, congrArg U.b (deq_false.2 (by intro h; injection h with h; injection h with q0 h; injection h with q1 h; injection h with q2 h; injection h with q3 h; injection h with q4 h; injection h with q5 h; injection h with q6 h; injection h with q7 h; rw [q7, deq_self] at hc; cases hc)).symm⟩, trivial⟩
  refine V_skip ?_
  have e7 := deq_true.1 (by simpa using hc : deq _ _ = true)
  clear hc
  refine gGO ?_
  refine V_ret ?_
  exact ⟨trivial, ⟨_, rfl, congrArg U.b (deq_true.2 (by rw [e0, e1, e2, e3, e4, e5, e6, e7])).symm⟩, trivial⟩
theorem eqInstanceS_step {us vs : List U} (hb1 : us.length ≤ big) (hb2 : vs.length ≤ big) (hz : ∀ a ∈ us, a.isSt = true ∧ a.sz = 12) (hz2 : ∀ a ∈ vs, a.isSt = true ∧ a.sz = 12) (ih : ∀ a ∈ us, ∀ b ∈ vs, PEq 176 a b) : PEq 124 (.sl 12 us) (.sl 12 vs) := by
  rw [big_eq] at hb1 hb2
  refine SpecP_intro Tryz.func124 rfl (by kernel_rfl) rfl fun A _ => ?_
  refine gGO ?_
  refine V_cond rfl (fun hc => ?_) (fun hc => ?_)
  · refine gREG ?_
    refine gGO ?_
    refine V_ret ?_
    exact ⟨trivial, ⟨_, rfl, congrArg U.b (deq_false.2 (by intro h; injection h with _ h; subst h; simp at hc)).symm⟩, trivial⟩
  refine V_skip ?_
  have hll : us.length = vs.length := by simp at hc; omega
  refine gGO ?_
  refine V_block ?_
  refine V_loop (α := Nat)
    (fun k => ⟨[(0, .d (.sl 12 us)), (1, .d (.sl 12 vs)), (5, .d (.i .i64 k))], [], Tryz.f124.ntmps⟩)
    (fun k => k ≤ us.length ∧ ∀ j, j < k → us[j]? = vs[j]?)
    (fun k => us.length - k) 0 ⟨rfl, ⟨⟨rfl, rfl⟩, ⟨rfl, rfl⟩, ⟨rfl, rfl⟩, trivial⟩, ⟨[], rfl⟩, rfl⟩ ⟨by simp, by simp⟩ ?_
  rintro k ⟨hk, hsame⟩
  refine gGO ?_
  refine V_cond rfl (fun hc2 => ?_) (fun hc2 => ?_)
  · refine V_skip ?_
    simp only [decide_eq_true_eq] at hc2
    have hkl : k < us.length := by omega
    have hkv : k < vs.length := by omega
    have hget : us[k]? = some us[k] := List.getElem?_eq_getElem hkl
    have hgev : vs[k]? = some vs[k] := List.getElem?_eq_getElem hkv
    have hmem : us[k] ∈ us := List.getElem_mem hkl
    have hmev : vs[k] ∈ vs := List.getElem_mem hkv
    obtain ⟨hst, hsz⟩ := hz _ hmem
    obtain ⟨hst2, hsz2⟩ := hz2 _ hmev
    refine V_seq (V_block ?_)
    refine gGO ?_
    (first | refine VO_q (Q_index rfl rfl TE.h TI.h (by omega) hget) rfl ?_ | refine VQ_q (Q_index rfl rfl TE.h TI.h (by omega) hget) rfl ?_ | (refine VO_bare rfl rfl rfl rfl ?_; refine VO_q (Q_index rfl rfl TE.h TI.h (by omega) hget) rfl ?_) | refine VQ_run rfl rfl rfl rfl (Q_index rfl rfl TE.h TI.h (by omega) hget) rfl ?_)
    (first | refine VO_q (Q_load rfl TI.h hst hsz) rfl ?_ | refine VQ_q (Q_load rfl TI.h hst hsz) rfl ?_ | (refine VO_bare rfl rfl rfl rfl ?_; refine VO_q (Q_load rfl TI.h hst hsz) rfl ?_) | refine VQ_run rfl rfl rfl rfl (Q_load rfl TI.h hst hsz) rfl ?_)
    refine gGO ?_
    (first | refine VO_q (Q_index rfl rfl TE.h TI.h (by omega) hgev) rfl ?_ | refine VQ_q (Q_index rfl rfl TE.h TI.h (by omega) hgev) rfl ?_ | (refine VO_bare rfl rfl rfl rfl ?_; refine VO_q (Q_index rfl rfl TE.h TI.h (by omega) hgev) rfl ?_) | refine VQ_run rfl rfl rfl rfl (Q_index rfl rfl TE.h TI.h (by omega) hgev) rfl ?_)
    (first | refine VO_q (Q_load rfl TI.h hst2 hsz2) rfl ?_ | refine VQ_q (Q_load rfl TI.h hst2 hsz2) rfl ?_ | (refine VO_bare rfl rfl rfl rfl ?_; refine VO_q (Q_load rfl TI.h hst2 hsz2) rfl ?_) | refine VQ_run rfl rfl rfl rfl (Q_load rfl TI.h hst2 hsz2) rfl ?_)
    (first | refine VO_q (Q_call rfl (ih _ hmem _ hmev) vA) rfl ?_ | refine VQ_q (Q_call rfl (ih _ hmem _ hmev) vA) rfl ?_ | (refine VO_bare rfl rfl rfl rfl ?_; refine VO_q (Q_call rfl (ih _ hmem _ hmev) vA) rfl ?_) | refine VQ_run rfl rfl rfl rfl (Q_call rfl (ih _ hmem _ hmev) vA) rfl ?_)
    refine gGO ?_
    refine V_cond rfl (fun hc3 => ?_) (fun hc3 => ?_)
    · refine gREG ?_
      refine gGO ?_
      refine V_ret ?_
      exact ⟨trivial, ⟨_, rfl, congrArg U.b (deq_false.2 (by intro h; injection h with _ h; subst h; rw [deq_self] at hc3; cases hc3)).symm⟩, trivial⟩
    refine V_skip ?_
    have heq : us[k] = vs[k] := deq_true.1 (by simpa using hc3)
    refine gGO ?_
    refine ⟨k + 1, ⟨by omega, fun j hj => ?_⟩, by omega, ⟨rfl, ⟨⟨rfl, rfl⟩, ⟨rfl, rfl⟩, ⟨rfl, rfl⟩, trivial⟩, ⟨[], rfl⟩, rfl⟩⟩
    by_cases hjk : j = k
    · subst hjk; rw [hget, hgev, heq]
    · exact hsame j (by omega)
  · refine V_exit ?_
    simp only [decide_eq_false_iff_not] at hc2
    have hkl : k = us.length := by omega
    subst hkl
    have hall : us = vs := by
      apply List.ext_getElem?
      intro j
      by_cases hj : j < us.length
      · exact hsame j hj
      · rw [List.getElem?_eq_none (by omega), List.getElem?_eq_none (by omega)]
    show V _ _ _ _ _
    refine gGO ?_
    refine V_ret ?_
    exact ⟨trivial, ⟨_, rfl, congrArg U.b (deq_true.2 (by rw [hall])).symm⟩, trivial⟩
theorem eqInstance_grp (u : U) : (∀ v, wt (.st 11) u → wt (.st 11) v → PEq 176 u v) := by
  refine U.ind (M := fun u => (∀ v, wt (.st 11) u → wt (.st 11) v → PEq 176 u v)) (fun u ih => ?_) u
  refine ?_
  · intro v h h2
    obtain ⟨f0, f1, f2, f3, f4, f5, f6, f7, rfl, p0, p1, p2, p3, p6, p7⟩ := inv_Instance h
    obtain ⟨d0, d1, d2, d3, d4, d5, d6, d7, rfl, q0, q1, q2, q3, q6, q7⟩ := inv_Instance h2
    exact eqInstance_step p0 q0 (eqStringS_all p1 q1) p2 q2 (eqType_all p2 q2) (eqBoundS_all p3 q3) p6 q6 (eqType_all p6 q6) (eqMethodS_all p7 q7)
theorem eqInstance_all {u v : U} (h : wt (.st 11) u) (h2 : wt (.st 11) v) : PEq 176 u v := (eqInstance_grp u) v h h2
theorem eqInstanceS_all {us vs : List U} (h : us.length ≤ big ∧ ∀ x ∈ us, wt (.st 11) x) (h2 : vs.length ≤ big ∧ ∀ x ∈ vs, wt (.st 11) x) : PEq 124 (.sl 12 us) (.sl 12 vs) := eqInstanceS_step h.1 h2.1 (fun a ha => ⟨wt_isSt (h.2 a ha), by rw [wt_sz a _ (h.2 a ha)]; rfl⟩) (fun a ha => ⟨wt_isSt (h2.2 a ha), by rw [wt_sz a _ (h2.2 a ha)]; rfl⟩) (fun a ha b hb => eqInstance_all (h.2 a ha) (h2.2 b hb))
theorem eqParam_step {f0 : List UInt8} {f1 : U} {d0 : List UInt8} {d1 : U} (h0 : f0.length ≤ big) (k0 : d0.length ≤ big) (g1 : wt (.st 1) f1) (j1 : wt (.st 1) d1) (h1 : PEq 103 f1 d1) : PEq 152 (.st [.s f0, f1]) (.st [.s d0, d1]) := by
  obtain ⟨e53_0, e53_1, e53_2, rfl, g53_0, g53_1, g53_2⟩ := inv_Type g1
  obtain ⟨e54_0, e54_1, e54_2, rfl, g54_0, g54_1, g54_2⟩ := inv_Type j1
  refine SpecP_intro Tryz.func152 rfl (by kernel_rfl) rfl fun A _ => ?_
  refine gGO ?_
  refine V_cond rfl (fun hc => ?_) (fun hc => ?_)
  · refine gREG ?_
    refine gGO ?_
    refine V_ret ?_
    exact ⟨trivial, ⟨_, rfl, congrArg U.b (deq_false.2 (by intro h; injection h with h; injection h with q0 h; injection q0 with hk; simp [hk] at hc)).symm⟩, trivial⟩
  refine V_skip ?_
  have e0 := (by simpa using hc : f0 = d0)
  clear hc
  refine gGO ?_
  (first | refine VO_q (Q_call rfl h1 vA) rfl ?_ | refine VQ_q (Q_call rfl h1 vA) rfl ?_ | (refine VO_bare rfl rfl rfl rfl ?_; refine VO_q (Q_call rfl h1 vA) rfl ?_) | refine VQ_run rfl rfl rfl rfl (Q_call rfl h1 vA) rfl ?_)
  refine gGO ?_
  refine V_cond rfl (fun hc => ?_) (fun hc => ?_)
  · refine gREG ?_
    refine gGO ?_
    refine V_ret ?_
    exact ⟨trivial, ⟨_, rfl, congrArg U.b (deq_false.2 (by intro h; injection h with h; injection h with q0 h; injection h with q1 h; rw [q1, deq_self] at hc; cases hc)).symm⟩, trivial⟩
  refine V_skip ?_
  have e1 := deq_true.1 (by simpa using hc : deq _ _ = true)
  clear hc
  refine gGO ?_
  refine V_ret ?_
  exact ⟨trivial, ⟨_, rfl, congrArg U.b (deq_true.2 (by rw [e0, e1])).symm⟩, trivial⟩
theorem eqParamS_step {us vs : List U} (hb1 : us.length ≤ big) (hb2 : vs.length ≤ big) (hz : ∀ a ∈ us, a.isSt = true ∧ a.sz = 4) (hz2 : ∀ a ∈ vs, a.isSt = true ∧ a.sz = 4) (ih : ∀ a ∈ us, ∀ b ∈ vs, PEq 152 a b) : PEq 102 (.sl 4 us) (.sl 4 vs) := by
  rw [big_eq] at hb1 hb2
  refine SpecP_intro Tryz.func102 rfl (by kernel_rfl) rfl fun A _ => ?_
  refine gGO ?_
  refine V_cond rfl (fun hc => ?_) (fun hc => ?_)
  · refine gREG ?_
    refine gGO ?_
    refine V_ret ?_
    exact ⟨trivial, ⟨_, rfl, congrArg U.b (deq_false.2 (by intro h; injection h with _ h; subst h; simp at hc)).symm⟩, trivial⟩
  refine V_skip ?_
  have hll : us.length = vs.length := by simp at hc; omega
  refine gGO ?_
  refine V_block ?_
  refine V_loop (α := Nat)
    (fun k => ⟨[(0, .d (.sl 4 us)), (1, .d (.sl 4 vs)), (5, .d (.i .i64 k))], [], Tryz.f102.ntmps⟩)
    (fun k => k ≤ us.length ∧ ∀ j, j < k → us[j]? = vs[j]?)
    (fun k => us.length - k) 0 ⟨rfl, ⟨⟨rfl, rfl⟩, ⟨rfl, rfl⟩, ⟨rfl, rfl⟩, trivial⟩, ⟨[], rfl⟩, rfl⟩ ⟨by simp, by simp⟩ ?_
  rintro k ⟨hk, hsame⟩
  refine gGO ?_
  refine V_cond rfl (fun hc2 => ?_) (fun hc2 => ?_)
  · refine V_skip ?_
    simp only [decide_eq_true_eq] at hc2
    have hkl : k < us.length := by omega
    have hkv : k < vs.length := by omega
    have hget : us[k]? = some us[k] := List.getElem?_eq_getElem hkl
    have hgev : vs[k]? = some vs[k] := List.getElem?_eq_getElem hkv
    have hmem : us[k] ∈ us := List.getElem_mem hkl
    have hmev : vs[k] ∈ vs := List.getElem_mem hkv
    obtain ⟨hst, hsz⟩ := hz _ hmem
    obtain ⟨hst2, hsz2⟩ := hz2 _ hmev
    refine V_seq (V_block ?_)
    refine gGO ?_
    (first | refine VO_q (Q_index rfl rfl TE.h TI.h (by omega) hget) rfl ?_ | refine VQ_q (Q_index rfl rfl TE.h TI.h (by omega) hget) rfl ?_ | (refine VO_bare rfl rfl rfl rfl ?_; refine VO_q (Q_index rfl rfl TE.h TI.h (by omega) hget) rfl ?_) | refine VQ_run rfl rfl rfl rfl (Q_index rfl rfl TE.h TI.h (by omega) hget) rfl ?_)
    (first | refine VO_q (Q_load rfl TI.h hst hsz) rfl ?_ | refine VQ_q (Q_load rfl TI.h hst hsz) rfl ?_ | (refine VO_bare rfl rfl rfl rfl ?_; refine VO_q (Q_load rfl TI.h hst hsz) rfl ?_) | refine VQ_run rfl rfl rfl rfl (Q_load rfl TI.h hst hsz) rfl ?_)
    refine gGO ?_
    (first | refine VO_q (Q_index rfl rfl TE.h TI.h (by omega) hgev) rfl ?_ | refine VQ_q (Q_index rfl rfl TE.h TI.h (by omega) hgev) rfl ?_ | (refine VO_bare rfl rfl rfl rfl ?_; refine VO_q (Q_index rfl rfl TE.h TI.h (by omega) hgev) rfl ?_) | refine VQ_run rfl rfl rfl rfl (Q_index rfl rfl TE.h TI.h (by omega) hgev) rfl ?_)
    (first | refine VO_q (Q_load rfl TI.h hst2 hsz2) rfl ?_ | refine VQ_q (Q_load rfl TI.h hst2 hsz2) rfl ?_ | (refine VO_bare rfl rfl rfl rfl ?_; refine VO_q (Q_load rfl TI.h hst2 hsz2) rfl ?_) | refine VQ_run rfl rfl rfl rfl (Q_load rfl TI.h hst2 hsz2) rfl ?_)
    (first | refine VO_q (Q_call rfl (ih _ hmem _ hmev) vA) rfl ?_ | refine VQ_q (Q_call rfl (ih _ hmem _ hmev) vA) rfl ?_ | (refine VO_bare rfl rfl rfl rfl ?_; refine VO_q (Q_call rfl (ih _ hmem _ hmev) vA) rfl ?_) | refine VQ_run rfl rfl rfl rfl (Q_call rfl (ih _ hmem _ hmev) vA) rfl ?_)
    refine gGO ?_
    refine V_cond rfl (fun hc3 => ?_) (fun hc3 => ?_)
    · refine gREG ?_
      refine gGO ?_
      refine V_ret ?_
      exact ⟨trivial, ⟨_, rfl, congrArg U.b (deq_false.2 (by intro h; injection h with _ h; subst h; rw [deq_self] at hc3; cases hc3)).symm⟩, trivial⟩
    refine V_skip ?_
    have heq : us[k] = vs[k] := deq_true.1 (by simpa using hc3)
    refine gGO ?_
    refine ⟨k + 1, ⟨by omega, fun j hj => ?_⟩, by omega, ⟨rfl, ⟨⟨rfl, rfl⟩, ⟨rfl, rfl⟩, ⟨rfl, rfl⟩, trivial⟩, ⟨[], rfl⟩, rfl⟩⟩
    by_cases hjk : j = k
    · subst hjk; rw [hget, hgev, heq]
    · exact hsame j (by omega)
  · refine V_exit ?_
    simp only [decide_eq_false_iff_not] at hc2
    have hkl : k = us.length := by omega
    subst hkl
    have hall : us = vs := by
      apply List.ext_getElem?
      intro j
      by_cases hj : j < us.length
      · exact hsame j hj
      · rw [List.getElem?_eq_none (by omega), List.getElem?_eq_none (by omega)]
    show V _ _ _ _ _
    refine gGO ?_
    refine V_ret ?_
    exact ⟨trivial, ⟨_, rfl, congrArg U.b (deq_true.2 (by rw [hall])).symm⟩, trivial⟩
theorem eqParam_grp (u : U) : (∀ v, wt (.st 12) u → wt (.st 12) v → PEq 152 u v) := by
  refine U.ind (M := fun u => (∀ v, wt (.st 12) u → wt (.st 12) v → PEq 152 u v)) (fun u ih => ?_) u
  refine ?_
  · intro v h h2
    obtain ⟨f0, f1, rfl, p0, p1⟩ := inv_Param h
    obtain ⟨d0, d1, rfl, q0, q1⟩ := inv_Param h2
    exact eqParam_step p0 q0 p1 q1 (eqType_all p1 q1)
theorem eqParam_all {u v : U} (h : wt (.st 12) u) (h2 : wt (.st 12) v) : PEq 152 u v := (eqParam_grp u) v h h2
theorem eqParamS_all {us vs : List U} (h : us.length ≤ big ∧ ∀ x ∈ us, wt (.st 12) x) (h2 : vs.length ≤ big ∧ ∀ x ∈ vs, wt (.st 12) x) : PEq 102 (.sl 4 us) (.sl 4 vs) := eqParamS_step h.1 h2.1 (fun a ha => ⟨wt_isSt (h.2 a ha), by rw [wt_sz a _ (h.2 a ha)]; rfl⟩) (fun a ha => ⟨wt_isSt (h2.2 a ha), by rw [wt_sz a _ (h2.2 a ha)]; rfl⟩) (fun a ha b hb => eqParam_all (h.2 a ha) (h2.2 b hb))
theorem eqFunction_step {f0 : List UInt8} {f1 : List U} {f2 : List U} {f3 : List U} {f4 : U} {f5 : U} {d0 : List UInt8} {d1 : List U} {d2 : List U} {d3 : List U} {d4 : U} {d5 : U} (h0 : f0.length ≤ big) (k0 : d0.length ≤ big) (h1 : PEq 100 (.sl 1 f1) (.sl 1 d1)) (h2 : PEq 101 (.sl 4 f2) (.sl 4 d2)) (h3 : PEq 102 (.sl 4 f3) (.sl 4 d3)) (g4 : wt (.st 1) f4) (j4 : wt (.st 1) d4) (h4 : PEq 103 f4 d4) (g5 : wt (.st 4) f5) (j5 : wt (.st 4) d5) (h5 : PEq 196 f5 d5) : PEq 177 (.st [.s f0, .sl 1 f1, .sl 4 f2, .sl 4 f3, f4, f5]) (.st [.s d0, .sl 1 d1, .sl 4 d2, .sl 4 d3, d4, d5]) := by
  obtain ⟨e55_0, e55_1, e55_2, rfl, g55_0, g55_1, g55_2⟩ := inv_Type g4
  obtain ⟨e56_0, e56_1, e56_2, rfl, g56_0, g56_1, g56_2⟩ := inv_Type j4
  obtain ⟨e57_0, e57_1, e57_2, e57_3, e57_4, e57_5, e57_6, rfl, g57_0, g57_1, g57_2, g57_3, g57_4, g57_5, g57_6⟩ := inv_Expr g5
  obtain ⟨e58_0, e58_1, e58_2, rfl, g58_0, g58_1, g58_2⟩ := inv_Type g57_4
  obtain ⟨e59_0, e59_1, e59_2, e59_3, e59_4, e59_5, e59_6, rfl, g59_0, g59_1, g59_2, g59_3, g59_4, g59_5, g59_6⟩ := inv_Expr j5
  obtain ⟨e60_0, e60_1, e60_2, rfl, g60_0, g60_1, g60_2⟩ := inv_Type g59_4
  refine SpecP_intro Tryz.func177 rfl (by kernel_rfl) rfl fun A _ => ?_
  refine gGO ?_
  refine V_cond rfl (fun hc => ?_) (fun hc => ?_)
  · refine gREG ?_
    refine gGO ?_
    refine V_ret ?_
    exact ⟨trivial, ⟨_, rfl, congrArg U.b (deq_false.2 (by intro h; injection h with h; injection h with q0 h; injection q0 with hk; simp [hk] at hc)).symm⟩, trivial⟩
  refine V_skip ?_
  have e0 := (by simpa using hc : f0 = d0)
  clear hc
  refine gGO ?_
  (first | refine VO_q (Q_call rfl h1 vA) rfl ?_ | refine VQ_q (Q_call rfl h1 vA) rfl ?_ | (refine VO_bare rfl rfl rfl rfl ?_; refine VO_q (Q_call rfl h1 vA) rfl ?_) | refine VQ_run rfl rfl rfl rfl (Q_call rfl h1 vA) rfl ?_)
  refine gGO ?_
  refine V_cond rfl (fun hc => ?_) (fun hc => ?_)
  · refine gREG ?_
    refine gGO ?_
    refine V_ret ?_
    exact ⟨trivial, ⟨_, rfl, congrArg U.b (deq_false.2 (by intro h; injection h with h; injection h with q0 h; injection h with q1 h; rw [q1, deq_self] at hc; cases hc)).symm⟩, trivial⟩
  refine V_skip ?_
  have e1 := deq_true.1 (by simpa using hc : deq _ _ = true)
  clear hc
  refine gGO ?_
  (first | refine VO_q (Q_call rfl h2 vA) rfl ?_ | refine VQ_q (Q_call rfl h2 vA) rfl ?_ | (refine VO_bare rfl rfl rfl rfl ?_; refine VO_q (Q_call rfl h2 vA) rfl ?_) | refine VQ_run rfl rfl rfl rfl (Q_call rfl h2 vA) rfl ?_)
  refine gGO ?_
  refine V_cond rfl (fun hc => ?_) (fun hc => ?_)
  · refine gREG ?_
    refine gGO ?_
    refine V_ret ?_
    exact ⟨trivial, ⟨_, rfl, congrArg U.b (deq_false.2 (by intro h; injection h with h; injection h with q0 h; injection h with q1 h; injection h with q2 h; rw [q2, deq_self] at hc; cases hc)).symm⟩, trivial⟩
  refine V_skip ?_
  have e2 := deq_true.1 (by simpa using hc : deq _ _ = true)
  clear hc
  refine gGO ?_
  (first | refine VO_q (Q_call rfl h3 vA) rfl ?_ | refine VQ_q (Q_call rfl h3 vA) rfl ?_ | (refine VO_bare rfl rfl rfl rfl ?_; refine VO_q (Q_call rfl h3 vA) rfl ?_) | refine VQ_run rfl rfl rfl rfl (Q_call rfl h3 vA) rfl ?_)
  refine gGO ?_
  refine V_cond rfl (fun hc => ?_) (fun hc => ?_)
  · refine gREG ?_
    refine gGO ?_
    refine V_ret ?_
    exact ⟨trivial, ⟨_, rfl, congrArg U.b (deq_false.2 (by intro h; injection h with h; injection h with q0 h; injection h with q1 h; injection h with q2 h; injection h with q3 h; rw [q3, deq_self] at hc; cases hc)).symm⟩, trivial⟩
  refine V_skip ?_
  have e3 := deq_true.1 (by simpa using hc : deq _ _ = true)
  clear hc
  refine gGO ?_
  (first | refine VO_q (Q_call rfl h4 vA) rfl ?_ | refine VQ_q (Q_call rfl h4 vA) rfl ?_ | (refine VO_bare rfl rfl rfl rfl ?_; refine VO_q (Q_call rfl h4 vA) rfl ?_) | refine VQ_run rfl rfl rfl rfl (Q_call rfl h4 vA) rfl ?_)
  refine gGO ?_
  refine V_cond rfl (fun hc => ?_) (fun hc => ?_)
  · refine gREG ?_
    refine gGO ?_
    refine V_ret ?_
    exact ⟨trivial, ⟨_, rfl, congrArg U.b (deq_false.2 (by intro h; injection h with h; injection h with q0 h; injection h with q1 h; injection h with q2 h; injection h with q3 h; injection h with q4 h; rw [q4, deq_self] at hc; cases hc)).symm⟩, trivial⟩
  refine V_skip ?_
  have e4 := deq_true.1 (by simpa using hc : deq _ _ = true)
  clear hc
  refine gGO ?_
  (first | refine VO_q (Q_call rfl h5 vA) rfl ?_ | refine VQ_q (Q_call rfl h5 vA) rfl ?_ | (refine VO_bare rfl rfl rfl rfl ?_; refine VO_q (Q_call rfl h5 vA) rfl ?_) | refine VQ_run rfl rfl rfl rfl (Q_call rfl h5 vA) rfl ?_)
  refine gGO ?_
  refine V_cond rfl (fun hc => ?_) (fun hc => ?_)
  · refine gREG ?_
    refine gGO ?_
    refine V_ret ?_
    exact ⟨trivial, ⟨_, rfl, congrArg U.b (deq_false.2 (by intro h; injection h with h; injection h with q0 h; injection h with q1 h; injection h with q2 h; injection h with q3 h; injection h with q4 h; injection h with q5 h; rw [q5, deq_self] at hc; cases hc)).symm⟩, trivial⟩
  refine V_skip ?_
  have e5 := deq_true.1 (by simpa using hc : deq _ _ = true)
  clear hc
  refine gGO ?_
  refine V_ret ?_
  exact ⟨trivial, ⟨_, rfl, congrArg U.b (deq_true.2 (by rw [e0, e1, e2, e3, e4, e5])).symm⟩, trivial⟩
theorem eqFunctionS_step {us vs : List U} (hb1 : us.length ≤ big) (hb2 : vs.length ≤ big) (hz : ∀ a ∈ us, a.isSt = true ∧ a.sz = 16) (hz2 : ∀ a ∈ vs, a.isSt = true ∧ a.sz = 16) (ih : ∀ a ∈ us, ∀ b ∈ vs, PEq 177 a b) : PEq 125 (.sl 16 us) (.sl 16 vs) := by
  rw [big_eq] at hb1 hb2
  refine SpecP_intro Tryz.func125 rfl (by kernel_rfl) rfl fun A _ => ?_
  refine gGO ?_
  refine V_cond rfl (fun hc => ?_) (fun hc => ?_)
  · refine gREG ?_
    refine gGO ?_
    refine V_ret ?_
    exact ⟨trivial, ⟨_, rfl, congrArg U.b (deq_false.2 (by intro h; injection h with _ h; subst h; simp at hc)).symm⟩, trivial⟩
  refine V_skip ?_
  have hll : us.length = vs.length := by simp at hc; omega
  refine gGO ?_
  refine V_block ?_
  refine V_loop (α := Nat)
    (fun k => ⟨[(0, .d (.sl 16 us)), (1, .d (.sl 16 vs)), (5, .d (.i .i64 k))], [], Tryz.f125.ntmps⟩)
    (fun k => k ≤ us.length ∧ ∀ j, j < k → us[j]? = vs[j]?)
    (fun k => us.length - k) 0 ⟨rfl, ⟨⟨rfl, rfl⟩, ⟨rfl, rfl⟩, ⟨rfl, rfl⟩, trivial⟩, ⟨[], rfl⟩, rfl⟩ ⟨by simp, by simp⟩ ?_
  rintro k ⟨hk, hsame⟩
  refine gGO ?_
  refine V_cond rfl (fun hc2 => ?_) (fun hc2 => ?_)
  · refine V_skip ?_
    simp only [decide_eq_true_eq] at hc2
    have hkl : k < us.length := by omega
    have hkv : k < vs.length := by omega
    have hget : us[k]? = some us[k] := List.getElem?_eq_getElem hkl
    have hgev : vs[k]? = some vs[k] := List.getElem?_eq_getElem hkv
    have hmem : us[k] ∈ us := List.getElem_mem hkl
    have hmev : vs[k] ∈ vs := List.getElem_mem hkv
    obtain ⟨hst, hsz⟩ := hz _ hmem
    obtain ⟨hst2, hsz2⟩ := hz2 _ hmev
    refine V_seq (V_block ?_)
    refine gGO ?_
    (first | refine VO_q (Q_index rfl rfl TE.h TI.h (by omega) hget) rfl ?_ | refine VQ_q (Q_index rfl rfl TE.h TI.h (by omega) hget) rfl ?_ | (refine VO_bare rfl rfl rfl rfl ?_; refine VO_q (Q_index rfl rfl TE.h TI.h (by omega) hget) rfl ?_) | refine VQ_run rfl rfl rfl rfl (Q_index rfl rfl TE.h TI.h (by omega) hget) rfl ?_)
    (first | refine VO_q (Q_load rfl TI.h hst hsz) rfl ?_ | refine VQ_q (Q_load rfl TI.h hst hsz) rfl ?_ | (refine VO_bare rfl rfl rfl rfl ?_; refine VO_q (Q_load rfl TI.h hst hsz) rfl ?_) | refine VQ_run rfl rfl rfl rfl (Q_load rfl TI.h hst hsz) rfl ?_)
    refine gGO ?_
    (first | refine VO_q (Q_index rfl rfl TE.h TI.h (by omega) hgev) rfl ?_ | refine VQ_q (Q_index rfl rfl TE.h TI.h (by omega) hgev) rfl ?_ | (refine VO_bare rfl rfl rfl rfl ?_; refine VO_q (Q_index rfl rfl TE.h TI.h (by omega) hgev) rfl ?_) | refine VQ_run rfl rfl rfl rfl (Q_index rfl rfl TE.h TI.h (by omega) hgev) rfl ?_)
    (first | refine VO_q (Q_load rfl TI.h hst2 hsz2) rfl ?_ | refine VQ_q (Q_load rfl TI.h hst2 hsz2) rfl ?_ | (refine VO_bare rfl rfl rfl rfl ?_; refine VO_q (Q_load rfl TI.h hst2 hsz2) rfl ?_) | refine VQ_run rfl rfl rfl rfl (Q_load rfl TI.h hst2 hsz2) rfl ?_)
    (first | refine VO_q (Q_call rfl (ih _ hmem _ hmev) vA) rfl ?_ | refine VQ_q (Q_call rfl (ih _ hmem _ hmev) vA) rfl ?_ | (refine VO_bare rfl rfl rfl rfl ?_; refine VO_q (Q_call rfl (ih _ hmem _ hmev) vA) rfl ?_) | refine VQ_run rfl rfl rfl rfl (Q_call rfl (ih _ hmem _ hmev) vA) rfl ?_)
    refine gGO ?_
    refine V_cond rfl (fun hc3 => ?_) (fun hc3 => ?_)
    · refine gREG ?_
      refine gGO ?_
      refine V_ret ?_
      exact ⟨trivial, ⟨_, rfl, congrArg U.b (deq_false.2 (by intro h; injection h with _ h; subst h; rw [deq_self] at hc3; cases hc3)).symm⟩, trivial⟩
    refine V_skip ?_
    have heq : us[k] = vs[k] := deq_true.1 (by simpa using hc3)
    refine gGO ?_
    refine ⟨k + 1, ⟨by omega, fun j hj => ?_⟩, by omega, ⟨rfl, ⟨⟨rfl, rfl⟩, ⟨rfl, rfl⟩, ⟨rfl, rfl⟩, trivial⟩, ⟨[], rfl⟩, rfl⟩⟩
    by_cases hjk : j = k
    · subst hjk; rw [hget, hgev, heq]
    · exact hsame j (by omega)
  · refine V_exit ?_
    simp only [decide_eq_false_iff_not] at hc2
    have hkl : k = us.length := by omega
    subst hkl
    have hall : us = vs := by
      apply List.ext_getElem?
      intro j
      by_cases hj : j < us.length
      · exact hsame j hj
      · rw [List.getElem?_eq_none (by omega), List.getElem?_eq_none (by omega)]
    show V _ _ _ _ _
    refine gGO ?_
    refine V_ret ?_
    exact ⟨trivial, ⟨_, rfl, congrArg U.b (deq_true.2 (by rw [hall])).symm⟩, trivial⟩
theorem eqFunction_grp (u : U) : (∀ v, wt (.st 13) u → wt (.st 13) v → PEq 177 u v) := by
  refine U.ind (M := fun u => (∀ v, wt (.st 13) u → wt (.st 13) v → PEq 177 u v)) (fun u ih => ?_) u
  refine ?_
  · intro v h h2
    obtain ⟨f0, f1, f2, f3, f4, f5, rfl, p0, p1, p2, p3, p4, p5⟩ := inv_Function h
    obtain ⟨d0, d1, d2, d3, d4, d5, rfl, q0, q1, q2, q3, q4, q5⟩ := inv_Function h2
    exact eqFunction_step p0 q0 (eqStringS_all p1 q1) (eqBoundS_all p2 q2) (eqParamS_all p3 q3) p4 q4 (eqType_all p4 q4) p5 q5 (eqExpr_all p5 q5)
theorem eqFunction_all {u v : U} (h : wt (.st 13) u) (h2 : wt (.st 13) v) : PEq 177 u v := (eqFunction_grp u) v h h2
theorem eqFunctionS_all {us vs : List U} (h : us.length ≤ big ∧ ∀ x ∈ us, wt (.st 13) x) (h2 : vs.length ≤ big ∧ ∀ x ∈ vs, wt (.st 13) x) : PEq 125 (.sl 16 us) (.sl 16 vs) := eqFunctionS_step h.1 h2.1 (fun a ha => ⟨wt_isSt (h.2 a ha), by rw [wt_sz a _ (h.2 a ha)]; rfl⟩) (fun a ha => ⟨wt_isSt (h2.2 a ha), by rw [wt_sz a _ (h2.2 a ha)]; rfl⟩) (fun a ha b hb => eqFunction_all (h.2 a ha) (h2.2 b hb))
theorem eqPackage_step {f0 : List UInt8} {f1 : List U} {f2 : List U} {f3 : List U} {f4 : List U} {f5 : List U} {d0 : List UInt8} {d1 : List U} {d2 : List U} {d3 : List U} {d4 : List U} {d5 : List U} (h0 : f0.length ≤ big) (k0 : d0.length ≤ big) (h1 : PEq 100 (.sl 1 f1) (.sl 1 d1)) (h2 : PEq 122 (.sl 5 f2) (.sl 5 d2)) (h3 : PEq 123 (.sl 3 f3) (.sl 3 d3)) (h4 : PEq 124 (.sl 12 f4) (.sl 12 d4)) (h5 : PEq 125 (.sl 16 f5) (.sl 16 d5)) : PEq 71 (.st [.s f0, .sl 1 f1, .sl 5 f2, .sl 3 f3, .sl 12 f4, .sl 16 f5]) (.st [.s d0, .sl 1 d1, .sl 5 d2, .sl 3 d3, .sl 12 d4, .sl 16 d5]) := by
  refine SpecP_intro Tryz.func71 rfl (by kernel_rfl) rfl fun A _ => ?_
  refine gGO ?_
  refine V_cond rfl (fun hc => ?_) (fun hc => ?_)
  · refine gREG ?_
    refine gGO ?_
    refine V_ret ?_
    exact ⟨trivial, ⟨_, rfl, congrArg U.b (deq_false.2 (by intro h; injection h with h; injection h with q0 h; injection q0 with hk; simp [hk] at hc)).symm⟩, trivial⟩
  refine V_skip ?_
  have e0 := (by simpa using hc : f0 = d0)
  clear hc
  refine gGO ?_
  (first | refine VO_q (Q_call rfl h1 vA) rfl ?_ | refine VQ_q (Q_call rfl h1 vA) rfl ?_ | (refine VO_bare rfl rfl rfl rfl ?_; refine VO_q (Q_call rfl h1 vA) rfl ?_) | refine VQ_run rfl rfl rfl rfl (Q_call rfl h1 vA) rfl ?_)
  refine gGO ?_
  refine V_cond rfl (fun hc => ?_) (fun hc => ?_)
  · refine gREG ?_
    refine gGO ?_
    refine V_ret ?_
    exact ⟨trivial, ⟨_, rfl, congrArg U.b (deq_false.2 (by intro h; injection h with h; injection h with q0 h; injection h with q1 h; rw [q1, deq_self] at hc; cases hc)).symm⟩, trivial⟩
  refine V_skip ?_
  have e1 := deq_true.1 (by simpa using hc : deq _ _ = true)
  clear hc
  refine gGO ?_
  (first | refine VO_q (Q_call rfl h2 vA) rfl ?_ | refine VQ_q (Q_call rfl h2 vA) rfl ?_ | (refine VO_bare rfl rfl rfl rfl ?_; refine VO_q (Q_call rfl h2 vA) rfl ?_) | refine VQ_run rfl rfl rfl rfl (Q_call rfl h2 vA) rfl ?_)
  refine gGO ?_
  refine V_cond rfl (fun hc => ?_) (fun hc => ?_)
  · refine gREG ?_
    refine gGO ?_
    refine V_ret ?_
    exact ⟨trivial, ⟨_, rfl, congrArg U.b (deq_false.2 (by intro h; injection h with h; injection h with q0 h; injection h with q1 h; injection h with q2 h; rw [q2, deq_self] at hc; cases hc)).symm⟩, trivial⟩
  refine V_skip ?_
  have e2 := deq_true.1 (by simpa using hc : deq _ _ = true)
  clear hc
  refine gGO ?_
  (first | refine VO_q (Q_call rfl h3 vA) rfl ?_ | refine VQ_q (Q_call rfl h3 vA) rfl ?_ | (refine VO_bare rfl rfl rfl rfl ?_; refine VO_q (Q_call rfl h3 vA) rfl ?_) | refine VQ_run rfl rfl rfl rfl (Q_call rfl h3 vA) rfl ?_)
  refine gGO ?_
  refine V_cond rfl (fun hc => ?_) (fun hc => ?_)
  · refine gREG ?_
    refine gGO ?_
    refine V_ret ?_
    exact ⟨trivial, ⟨_, rfl, congrArg U.b (deq_false.2 (by intro h; injection h with h; injection h with q0 h; injection h with q1 h; injection h with q2 h; injection h with q3 h; rw [q3, deq_self] at hc; cases hc)).symm⟩, trivial⟩
  refine V_skip ?_
  have e3 := deq_true.1 (by simpa using hc : deq _ _ = true)
  clear hc
  refine gGO ?_
  (first | refine VO_q (Q_call rfl h4 vA) rfl ?_ | refine VQ_q (Q_call rfl h4 vA) rfl ?_ | (refine VO_bare rfl rfl rfl rfl ?_; refine VO_q (Q_call rfl h4 vA) rfl ?_) | refine VQ_run rfl rfl rfl rfl (Q_call rfl h4 vA) rfl ?_)
  refine gGO ?_
  refine V_cond rfl (fun hc => ?_) (fun hc => ?_)
  · refine gREG ?_
    refine gGO ?_
    refine V_ret ?_
    exact ⟨trivial, ⟨_, rfl, congrArg U.b (deq_false.2 (by intro h; injection h with h; injection h with q0 h; injection h with q1 h; injection h with q2 h; injection h with q3 h; injection h with q4 h; rw [q4, deq_self] at hc; cases hc)).symm⟩, trivial⟩
  refine V_skip ?_
  have e4 := deq_true.1 (by simpa using hc : deq _ _ = true)
  clear hc
  refine gGO ?_
  (first | refine VO_q (Q_call rfl h5 vA) rfl ?_ | refine VQ_q (Q_call rfl h5 vA) rfl ?_ | (refine VO_bare rfl rfl rfl rfl ?_; refine VO_q (Q_call rfl h5 vA) rfl ?_) | refine VQ_run rfl rfl rfl rfl (Q_call rfl h5 vA) rfl ?_)
  refine gGO ?_
  refine V_cond rfl (fun hc => ?_) (fun hc => ?_)
  · refine gREG ?_
    refine gGO ?_
    refine V_ret ?_
    exact ⟨trivial, ⟨_, rfl, congrArg U.b (deq_false.2 (by intro h; injection h with h; injection h with q0 h; injection h with q1 h; injection h with q2 h; injection h with q3 h; injection h with q4 h; injection h with q5 h; rw [q5, deq_self] at hc; cases hc)).symm⟩, trivial⟩
  refine V_skip ?_
  have e5 := deq_true.1 (by simpa using hc : deq _ _ = true)
  clear hc
  refine gGO ?_
  refine V_ret ?_
  exact ⟨trivial, ⟨_, rfl, congrArg U.b (deq_true.2 (by rw [e0, e1, e2, e3, e4, e5])).symm⟩, trivial⟩
theorem eqPackageS_step {us vs : List U} (hb1 : us.length ≤ big) (hb2 : vs.length ≤ big) (hz : ∀ a ∈ us, a.isSt = true ∧ a.sz = 6) (hz2 : ∀ a ∈ vs, a.isSt = true ∧ a.sz = 6) (ih : ∀ a ∈ us, ∀ b ∈ vs, PEq 71 a b) : PEq 31 (.sl 6 us) (.sl 6 vs) := by
  rw [big_eq] at hb1 hb2
  refine SpecP_intro Tryz.func31 rfl (by kernel_rfl) rfl fun A _ => ?_
  refine gGO ?_
  refine V_cond rfl (fun hc => ?_) (fun hc => ?_)
  · refine gREG ?_
    refine gGO ?_
    refine V_ret ?_
    exact ⟨trivial, ⟨_, rfl, congrArg U.b (deq_false.2 (by intro h; injection h with _ h; subst h; simp at hc)).symm⟩, trivial⟩
  refine V_skip ?_
  have hll : us.length = vs.length := by simp at hc; omega
  refine gGO ?_
  refine V_block ?_
  refine V_loop (α := Nat)
    (fun k => ⟨[(0, .d (.sl 6 us)), (1, .d (.sl 6 vs)), (5, .d (.i .i64 k))], [], Tryz.f31.ntmps⟩)
    (fun k => k ≤ us.length ∧ ∀ j, j < k → us[j]? = vs[j]?)
    (fun k => us.length - k) 0 ⟨rfl, ⟨⟨rfl, rfl⟩, ⟨rfl, rfl⟩, ⟨rfl, rfl⟩, trivial⟩, ⟨[], rfl⟩, rfl⟩ ⟨by simp, by simp⟩ ?_
  rintro k ⟨hk, hsame⟩
  refine gGO ?_
  refine V_cond rfl (fun hc2 => ?_) (fun hc2 => ?_)
  · refine V_skip ?_
    simp only [decide_eq_true_eq] at hc2
    have hkl : k < us.length := by omega
    have hkv : k < vs.length := by omega
    have hget : us[k]? = some us[k] := List.getElem?_eq_getElem hkl
    have hgev : vs[k]? = some vs[k] := List.getElem?_eq_getElem hkv
    have hmem : us[k] ∈ us := List.getElem_mem hkl
    have hmev : vs[k] ∈ vs := List.getElem_mem hkv
    obtain ⟨hst, hsz⟩ := hz _ hmem
    obtain ⟨hst2, hsz2⟩ := hz2 _ hmev
    refine V_seq (V_block ?_)
    refine gGO ?_
    (first | refine VO_q (Q_index rfl rfl TE.h TI.h (by omega) hget) rfl ?_ | refine VQ_q (Q_index rfl rfl TE.h TI.h (by omega) hget) rfl ?_ | (refine VO_bare rfl rfl rfl rfl ?_; refine VO_q (Q_index rfl rfl TE.h TI.h (by omega) hget) rfl ?_) | refine VQ_run rfl rfl rfl rfl (Q_index rfl rfl TE.h TI.h (by omega) hget) rfl ?_)
    (first | refine VO_q (Q_load rfl TI.h hst hsz) rfl ?_ | refine VQ_q (Q_load rfl TI.h hst hsz) rfl ?_ | (refine VO_bare rfl rfl rfl rfl ?_; refine VO_q (Q_load rfl TI.h hst hsz) rfl ?_) | refine VQ_run rfl rfl rfl rfl (Q_load rfl TI.h hst hsz) rfl ?_)
    refine gGO ?_
    (first | refine VO_q (Q_index rfl rfl TE.h TI.h (by omega) hgev) rfl ?_ | refine VQ_q (Q_index rfl rfl TE.h TI.h (by omega) hgev) rfl ?_ | (refine VO_bare rfl rfl rfl rfl ?_; refine VO_q (Q_index rfl rfl TE.h TI.h (by omega) hgev) rfl ?_) | refine VQ_run rfl rfl rfl rfl (Q_index rfl rfl TE.h TI.h (by omega) hgev) rfl ?_)
    (first | refine VO_q (Q_load rfl TI.h hst2 hsz2) rfl ?_ | refine VQ_q (Q_load rfl TI.h hst2 hsz2) rfl ?_ | (refine VO_bare rfl rfl rfl rfl ?_; refine VO_q (Q_load rfl TI.h hst2 hsz2) rfl ?_) | refine VQ_run rfl rfl rfl rfl (Q_load rfl TI.h hst2 hsz2) rfl ?_)
    (first | refine VO_q (Q_call rfl (ih _ hmem _ hmev) vA) rfl ?_ | refine VQ_q (Q_call rfl (ih _ hmem _ hmev) vA) rfl ?_ | (refine VO_bare rfl rfl rfl rfl ?_; refine VO_q (Q_call rfl (ih _ hmem _ hmev) vA) rfl ?_) | refine VQ_run rfl rfl rfl rfl (Q_call rfl (ih _ hmem _ hmev) vA) rfl ?_)
    refine gGO ?_
    refine V_cond rfl (fun hc3 => ?_) (fun hc3 => ?_)
    · refine gREG ?_
      refine gGO ?_
      refine V_ret ?_
      exact ⟨trivial, ⟨_, rfl, congrArg U.b (deq_false.2 (by intro h; injection h with _ h; subst h; rw [deq_self] at hc3; cases hc3)).symm⟩, trivial⟩
    refine V_skip ?_
    have heq : us[k] = vs[k] := deq_true.1 (by simpa using hc3)
    refine gGO ?_
    refine ⟨k + 1, ⟨by omega, fun j hj => ?_⟩, by omega, ⟨rfl, ⟨⟨rfl, rfl⟩, ⟨rfl, rfl⟩, ⟨rfl, rfl⟩, trivial⟩, ⟨[], rfl⟩, rfl⟩⟩
    by_cases hjk : j = k
    · subst hjk; rw [hget, hgev, heq]
    · exact hsame j (by omega)
  · refine V_exit ?_
    simp only [decide_eq_false_iff_not] at hc2
    have hkl : k = us.length := by omega
    subst hkl
    have hall : us = vs := by
      apply List.ext_getElem?
      intro j
      by_cases hj : j < us.length
      · exact hsame j hj
      · rw [List.getElem?_eq_none (by omega), List.getElem?_eq_none (by omega)]
    show V _ _ _ _ _
    refine gGO ?_
    refine V_ret ?_
    exact ⟨trivial, ⟨_, rfl, congrArg U.b (deq_true.2 (by rw [hall])).symm⟩, trivial⟩
theorem eqPackage_grp (u : U) : (∀ v, wt (.st 14) u → wt (.st 14) v → PEq 71 u v) := by
  refine U.ind (M := fun u => (∀ v, wt (.st 14) u → wt (.st 14) v → PEq 71 u v)) (fun u ih => ?_) u
  refine ?_
  · intro v h h2
    obtain ⟨f0, f1, f2, f3, f4, f5, rfl, p0, p1, p2, p3, p4, p5⟩ := inv_Package h
    obtain ⟨d0, d1, d2, d3, d4, d5, rfl, q0, q1, q2, q3, q4, q5⟩ := inv_Package h2
    exact eqPackage_step p0 q0 (eqStringS_all p1 q1) (eqTraitS_all p2 q2) (eqDataTypeS_all p3 q3) (eqInstanceS_all p4 q4) (eqFunctionS_all p5 q5)
theorem eqPackage_all {u v : U} (h : wt (.st 14) u) (h2 : wt (.st 14) v) : PEq 71 u v := (eqPackage_grp u) v h h2
theorem eqPackageS_all {us vs : List U} (h : us.length ≤ big ∧ ∀ x ∈ us, wt (.st 14) x) (h2 : vs.length ≤ big ∧ ∀ x ∈ vs, wt (.st 14) x) : PEq 31 (.sl 6 us) (.sl 6 vs) := eqPackageS_step h.1 h2.1 (fun a ha => ⟨wt_isSt (h.2 a ha), by rw [wt_sz a _ (h.2 a ha)]; rfl⟩) (fun a ha => ⟨wt_isSt (h2.2 a ha), by rw [wt_sz a _ (h2.2 a ha)]; rfl⟩) (fun a ha b hb => eqPackage_all (h.2 a ha) (h2.2 b hb))
theorem eqProgram_step {f0 : List U} {d0 : List U} (h0 : PEq 31 (.sl 6 f0) (.sl 6 d0)) : PEq 9 (.st [.sl 6 f0]) (.st [.sl 6 d0]) := by
  refine SpecP_intro Tryz.func9 rfl (by kernel_rfl) rfl fun A _ => ?_
  refine gGO ?_
  (first | refine VO_q (Q_call rfl h0 vA) rfl ?_ | refine VQ_q (Q_call rfl h0 vA) rfl ?_ | (refine VO_bare rfl rfl rfl rfl ?_; refine VO_q (Q_call rfl h0 vA) rfl ?_) | refine VQ_run rfl rfl rfl rfl (Q_call rfl h0 vA) rfl ?_)
  refine gGO ?_
  refine V_cond rfl (fun hc => ?_) (fun hc => ?_)
  · refine gREG ?_
    refine gGO ?_
    refine V_ret ?_
    exact ⟨trivial, ⟨_, rfl, congrArg U.b (deq_false.2 (by intro h; injection h with h; injection h with q0 h; rw [q0, deq_self] at hc; cases hc)).symm⟩, trivial⟩
  refine V_skip ?_
  have e0 := deq_true.1 (by simpa using hc : deq _ _ = true)
  clear hc
  refine gGO ?_
  refine V_ret ?_
  exact ⟨trivial, ⟨_, rfl, congrArg U.b (deq_true.2 (by rw [e0])).symm⟩, trivial⟩
theorem eqProgram_grp (u : U) : (∀ v, wt (.st 15) u → wt (.st 15) v → PEq 9 u v) := by
  refine U.ind (M := fun u => (∀ v, wt (.st 15) u → wt (.st 15) v → PEq 9 u v)) (fun u ih => ?_) u
  refine ?_
  · intro v h h2
    obtain ⟨f0, rfl, p0⟩ := inv_Program h
    obtain ⟨d0, rfl, q0⟩ := inv_Program h2
    exact eqProgram_step (eqPackageS_all p0 q0)
theorem eqProgram_all {u v : U} (h : wt (.st 15) u) (h2 : wt (.st 15) v) : PEq 9 u v := (eqProgram_grp u) v h h2
end Go.Proofs.YthojhakapbfbiaaGreat
