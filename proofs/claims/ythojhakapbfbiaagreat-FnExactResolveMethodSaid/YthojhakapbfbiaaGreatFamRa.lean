/- The contracts of the laws' own helpers (size checks, copies, comparisons). Written by a program of mine (fam.py). -/
import Derived.Test.YthojhakapbfbiaaGreatFacts
import Derived.Test.YthojhakapbfbiaaGreatEng48
set_option linter.unusedVariables false
set_option linter.unusedSimpArgs false
namespace Go.Proofs.YthojhakapbfbiaaGreat
open Go Go.Eng
attribute [local irreducible] V VO VQ Quiet SpecP
abbrev PSz (f : Nat) (u : U) : Prop := ∀ l : Int, 0 ≤ l → l ≤ 4611686018427387904 → SpecP Tryz.prog f [.d u, .d (.i .i64 l)] [.i .i64 (if (W u : Int) ≤ l then l - W u else -1)]
abbrev PEq (f : Nat) (u v : U) : Prop := SpecP Tryz.prog f [.d u, .d v] [.b (deq u v)]
/-- What a copy holds after k rounds. -/
def fillU (us : List U) (zu : U) (k : Nat) : List U := us.take k ++ List.replicate (us.length - k) zu
theorem fillU_zero (us : List U) (zu : U) : List.replicate us.length zu = fillU us zu 0 := by simp [fillU]
theorem fillU_all (us : List U) (zu : U) : fillU us zu us.length = us := by simp [fillU]
theorem fillU_length {us : List U} {zu : U} {k : Nat} (h : k ≤ us.length) : (fillU us zu k).length = us.length := by simp [fillU]; omega
theorem fillU_set {us : List U} {zu u : U} {k : Nat} (h : us[k]? = some u) : (fillU us zu k).set k u = fillU us zu (k + 1) := by
  obtain ⟨hk, rfl⟩ := List.getElem?_eq_some_iff.1 h
  unfold fillU
  have hl : (us.take k).length = k := by simp; omega
  rw [List.set_append_right _ _ (by omega), hl, Nat.sub_self]
  rw [show us.length - k = (us.length - (k + 1)) + 1 by omega, List.replicate_succ, List.set_cons_zero, List.take_succ_eq_append_getElem hk, List.append_assoc]
  rfl
theorem szType_step {f0 : Int} {f1 : List UInt8} {f2 : List U} (h1 : f1.length ≤ big) (h2 : PSz 141 (.sl 3 f2)) : PSz 84 (.st [.i .i64 f0, .s f1, .sl 3 f2]) := by
  intro left hl0 hl1
  have hW : W (.st [.i .i64 f0, .s f1, .sl 3 f2]) = 0 + (f1.length + (W (U.sl 3 f2) + 0)) := rfl
  have hb1 : f1.length ≤ 140737488355328 := by rw [big_eq] at h1; exact h1
  refine SpecP_intro Tryz.func84 rfl (by kernel_rfl) rfl fun A _ => ?_
  refine gGO ?_
  refine V_cond rfl (fun hc => ?_) (fun hc => ?_)
  · refine V_seq_region ?_
    refine gGO ?_
    refine V_ret ?_
    simp only [decide_eq_true_eq] at hc
    exact ⟨trivial, ⟨_, rfl, congrArg (U.i .i64) (by rw [if_neg (by omega)])⟩, trivial⟩
  refine V_skip ?_
  simp only [decide_eq_false_iff_not] at hc
  refine gGO ?_
  refine VO_q (Q_call rfl (h2 (left - (f1.length : Int)) (by omega) (by omega)) vA) rfl ?_
  refine gGO ?_
  refine V_cond rfl (fun hc => ?_) (fun hc => ?_)
  · refine V_seq_region ?_
    refine gGO ?_
    refine V_ret ?_
    simp only [decide_eq_true_eq] at hc
    exact ⟨trivial, ⟨_, rfl, congrArg (U.i .i64) (by split at hc <;> (rw [if_neg (by omega)]))⟩, trivial⟩
  refine V_skip ?_
  simp only [decide_eq_false_iff_not] at hc
  have hpos2 := hc
  have heq : ∀ (c : Prop) [Decidable c] (a : Int), ¬ (if c then a else -1) < 0 → (if c then a else -1) = a ∧ c := by
    intro c _ a h
    split at h
    · rename_i hc; exact ⟨if_pos hc, hc⟩
    · omega
  obtain ⟨e2, c2⟩ := heq _ _ hc
  rw [e2]
  clear heq hc
  refine gGO ?_
  refine V_ret ?_
  exact ⟨trivial, ⟨_, rfl, congrArg (U.i .i64) (by rw [if_pos (by omega)]; omega)⟩, trivial⟩
theorem szTypeS_step {us : List U} (hl : us.length ≤ big) (hz : ∀ a ∈ us, a.isSt = true ∧ a.sz = 3) (ih : ∀ a ∈ us, PSz 84 a) : PSz 141 (.sl 3 us) := by
  intro left hl0 hl1
  have hW : W (.sl 3 us) = us.length + Ws us := rfl
  have hb : (us.length : Int) ≤ 140737488355328 := by rw [big_eq] at hl; omega
  refine SpecP_intro Tryz.func141 rfl (by kernel_rfl) rfl fun A _ => ?_
  refine gGO ?_
  refine V_cond rfl (fun hc => ?_) (fun hc => ?_)
  · refine V_seq_region ?_
    refine gGO ?_
    refine V_ret ?_
    simp only [decide_eq_true_eq] at hc
    exact ⟨trivial, ⟨_, rfl, congrArg (U.i .i64) (by rw [if_neg (by omega)])⟩, trivial⟩
  refine V_skip ?_
  simp only [decide_eq_false_iff_not] at hc
  refine gGO ?_
  refine V_block ?_
  refine V_loop (α := Nat × Int)
    (fun x => ⟨[(0, .d (.sl 3 us)), (5, .d (.i .i64 x.1)), (1, .d (.i .i64 x.2))], [], Tryz.f141.ntmps⟩)
    (fun x => x.1 ≤ us.length ∧ 0 ≤ x.2 ∧ x.2 = left - us.length - Ws (us.take x.1))
    (fun x => us.length - x.1) (0, left - us.length) ⟨rfl, ⟨⟨rfl, rfl⟩, ⟨rfl, rfl⟩, ⟨rfl, rfl⟩, trivial⟩, ⟨[], rfl⟩, rfl⟩ ⟨by simp, by simp only; omega, by simp [Ws]⟩ ?_
  rintro ⟨k, l⟩ ⟨hk, hq0, hq1⟩
  simp only at hk hq0 hq1
  refine gGO ?_
  refine V_cond rfl (fun hc2 => ?_) (fun hc2 => ?_)
  · refine V_skip ?_
    simp only [decide_eq_true_eq] at hc2
    have hkl : k < us.length := by omega
    have hget : us[k]? = some us[k] := List.getElem?_eq_getElem hkl
    have hmem : us[k] ∈ us := List.getElem_mem hkl
    have htk := Ws_take_succ hget
    have hle := Ws_take_le us (k + 1)
    obtain ⟨hst, hsz⟩ := hz _ hmem
    refine V_seq (V_block (V_seq_region ?_))
    refine gGO ?_
    refine VO_q (Q_index rfl rfl TE.h TI.h (by omega) hget) rfl ?_
    refine VO_q (Q_load rfl TI.h hst hsz) rfl ?_
    refine gGO ?_
    refine VO_q (Q_call rfl (ih _ hmem l (by omega) (by omega)) vA) rfl ?_
    refine gGO ?_
    refine V_cond rfl (fun hc3 => ?_) (fun hc3 => ?_)
    · refine V_seq_region ?_
      refine gGO ?_
      refine V_ret ?_
      simp only [decide_eq_true_eq] at hc3
      exact ⟨trivial, ⟨_, rfl, congrArg (U.i .i64) (by
        rw [if_neg (by intro hle2; rw [if_pos (by omega)] at hc3; omega)])⟩, trivial⟩
    refine V_skip ?_
    simp only [decide_eq_false_iff_not] at hc3
    refine gGO ?_
    refine ⟨(k + 1, (if (W us[k] : Int) ≤ l then l - W us[k] else -1)), ?_, ?_, ⟨rfl, ⟨⟨rfl, rfl⟩, ⟨rfl, rfl⟩, ⟨rfl, rfl⟩, trivial⟩, ⟨[], rfl⟩, rfl⟩⟩
    · simp only
      refine ⟨by omega, by omega, ?_⟩
      rw [if_pos (by apply Classical.byContradiction; intro hn; rw [if_neg hn] at hc3; omega)]
      omega
    · simp only
      omega
  · refine V_exit ?_
    simp only [decide_eq_false_iff_not] at hc2
    have hkl : k = us.length := by omega
    subst hkl
    rw [List.take_length] at hq1
    show V _ _ _ _ _
    refine gGO ?_
    refine V_ret ?_
    exact ⟨trivial, ⟨_, rfl, congrArg (U.i .i64) (by rw [if_pos (by omega)]; omega)⟩, trivial⟩
theorem szType_grp (u : U) : (wt (.st 1) u → PSz 84 u) := by
  refine U.ind (M := fun u => (wt (.st 1) u → PSz 84 u)) (fun u ih => ?_) u
  refine ?_
  · intro h
    obtain ⟨f0, f1, f2, rfl, p0, p1, p2⟩ := inv_Type h
    exact szType_step p1 (szTypeS_step p2.1 (fun a ha => ⟨wt_isSt (p2.2 a ha), by rw [wt_sz a _ (p2.2 a ha)]; rfl⟩) (fun a ha => (ih a (by have := nn_of_mem ha; simp only [U.nn, U.nns]; omega)) (p2.2 a ha)))
theorem szType_all {u : U} (h : wt (.st 1) u) : PSz 84 u := (szType_grp u) h
theorem szTypeS_all {us : List U} (h : us.length ≤ big ∧ ∀ x ∈ us, wt (.st 1) x) : PSz 141 (.sl 3 us) := szTypeS_step h.1 (fun a ha => ⟨wt_isSt (h.2 a ha), by rw [wt_sz a _ (h.2 a ha)]; rfl⟩) (fun a ha => szType_all (h.2 a ha))
theorem szStringS_step {us : List U} (hl : us.length ≤ big) (hz : ∀ a ∈ us, ∃ l : List UInt8, a = .s l ∧ l.length ≤ big) : PSz 81 (.sl 1 us) := by
  intro left hl0 hl1
  have hW : W (.sl 1 us) = us.length + Ws us := rfl
  have hb : (us.length : Int) ≤ 140737488355328 := by rw [big_eq] at hl; omega
  refine SpecP_intro Tryz.func81 rfl (by kernel_rfl) rfl fun A _ => ?_
  refine gGO ?_
  refine V_cond rfl (fun hc => ?_) (fun hc => ?_)
  · refine V_seq_region ?_
    refine gGO ?_
    refine V_ret ?_
    simp only [decide_eq_true_eq] at hc
    exact ⟨trivial, ⟨_, rfl, congrArg (U.i .i64) (by rw [if_neg (by omega)])⟩, trivial⟩
  refine V_skip ?_
  simp only [decide_eq_false_iff_not] at hc
  refine gGO ?_
  refine V_block ?_
  refine V_loop (α := Nat × Int)
    (fun x => ⟨[(0, .d (.sl 1 us)), (5, .d (.i .i64 x.1)), (1, .d (.i .i64 x.2))], [], Tryz.f81.ntmps⟩)
    (fun x => x.1 ≤ us.length ∧ 0 ≤ x.2 ∧ x.2 = left - us.length - Ws (us.take x.1))
    (fun x => us.length - x.1) (0, left - us.length) ⟨rfl, ⟨⟨rfl, rfl⟩, ⟨rfl, rfl⟩, ⟨rfl, rfl⟩, trivial⟩, ⟨[], rfl⟩, rfl⟩ ⟨by simp, by simp only; omega, by simp [Ws]⟩ ?_
  rintro ⟨k, l⟩ ⟨hk, hq0, hq1⟩
  simp only at hk hq0 hq1
  refine gGO ?_
  refine V_cond rfl (fun hc2 => ?_) (fun hc2 => ?_)
  · refine V_skip ?_
    simp only [decide_eq_true_eq] at hc2
    have hkl : k < us.length := by omega
    have hget : us[k]? = some us[k] := List.getElem?_eq_getElem hkl
    have hmem : us[k] ∈ us := List.getElem_mem hkl
    have htk := Ws_take_succ hget
    have hle := Ws_take_le us (k + 1)
    obtain ⟨sl, hsl, hsb⟩ := hz _ hmem
    have hget' : us[k]? = some (.s sl) := by rw [hget, hsl]
    have hW : W us[k] = sl.length := by rw [hsl]; rfl
    have hsb' : sl.length ≤ 140737488355328 := by rw [big_eq] at hsb; exact hsb
    refine V_seq (V_block (V_seq_region ?_))
    refine gGO ?_
    refine VO_q (Q_index rfl rfl TE.h TI.h (by omega) hget') rfl ?_
    refine gGO ?_
    refine V_cond rfl (fun hc3 => ?_) (fun hc3 => ?_)
    · refine V_seq_region ?_
      refine gGO ?_
      refine V_ret ?_
      simp only [decide_eq_true_eq] at hc3
      exact ⟨trivial, ⟨_, rfl, congrArg (U.i .i64) (by
        rw [if_neg (by omega)])⟩, trivial⟩
    refine V_skip ?_
    simp only [decide_eq_false_iff_not] at hc3
    refine gGO ?_
    refine ⟨(k + 1, (l - sl.length)), ?_, ?_, ⟨rfl, ⟨⟨rfl, rfl⟩, ⟨rfl, rfl⟩, ⟨rfl, rfl⟩, trivial⟩, ⟨[], rfl⟩, rfl⟩⟩
    · simp only
      refine ⟨by omega, by omega, ?_⟩
      skip
      omega
    · simp only
      omega
  · refine V_exit ?_
    simp only [decide_eq_false_iff_not] at hc2
    have hkl : k = us.length := by omega
    subst hkl
    rw [List.take_length] at hq1
    show V _ _ _ _ _
    refine gGO ?_
    refine V_ret ?_
    exact ⟨trivial, ⟨_, rfl, congrArg (U.i .i64) (by rw [if_pos (by omega)]; omega)⟩, trivial⟩
theorem szStringS_all {us : List U} (h : us.length ≤ big ∧ ∀ x ∈ us, wt .str x) : PSz 81 (.sl 1 us) := szStringS_step h.1 (fun a ha => inv_str (h.2 a ha))
theorem szArm_step {f0 : List UInt8} {f1 : List U} {f2 : U} (h0 : f0.length ≤ big) (h1 : PSz 81 (.sl 1 f1)) (g2 : wt (.st 4) f2) (h2 : PSz 187 f2) : PSz 212 (.st [.s f0, .sl 1 f1, f2]) := by
  intro left hl0 hl1
  have hW : W (.st [.s f0, .sl 1 f1, f2]) = f0.length + (W (U.sl 1 f1) + (W f2 + 0)) := rfl
  have hb0 : f0.length ≤ 140737488355328 := by rw [big_eq] at h0; exact h0
  obtain ⟨m2, hm2⟩ : ∃ m, W f2 = m := ⟨_, rfl⟩
  rw [hm2] at hW
  have h2 : ∀ l : Int, 0 ≤ l → l ≤ 4611686018427387904 → SpecP Tryz.prog 187 [.d f2, .d (.i .i64 l)] [.i .i64 (if (m2 : Int) ≤ l then l - m2 else -1)] := by rw [← hm2]; exact h2
  obtain ⟨e1_0, e1_1, e1_2, e1_3, e1_4, e1_5, e1_6, rfl, g1_0, g1_1, g1_2, g1_3, g1_4, g1_5, g1_6⟩ := inv_Expr g2
  obtain ⟨e2_0, e2_1, e2_2, rfl, g2_0, g2_1, g2_2⟩ := inv_Type g1_4
  refine SpecP_intro Tryz.func212 rfl (by kernel_rfl) rfl fun A _ => ?_
  refine gGO ?_
  refine V_cond rfl (fun hc => ?_) (fun hc => ?_)
  · refine V_seq_region ?_
    refine gGO ?_
    refine V_ret ?_
    simp only [decide_eq_true_eq] at hc
    exact ⟨trivial, ⟨_, rfl, congrArg (U.i .i64) (by rw [if_neg (by omega)])⟩, trivial⟩
  refine V_skip ?_
  simp only [decide_eq_false_iff_not] at hc
  refine gGO ?_
  refine VO_q (Q_call rfl (h1 (left - (f0.length : Int)) (by omega) (by omega)) vA) rfl ?_
  refine gGO ?_
  refine V_cond rfl (fun hc => ?_) (fun hc => ?_)
  · refine V_seq_region ?_
    refine gGO ?_
    refine V_ret ?_
    simp only [decide_eq_true_eq] at hc
    exact ⟨trivial, ⟨_, rfl, congrArg (U.i .i64) (by split at hc <;> (rw [if_neg (by omega)]))⟩, trivial⟩
  refine V_skip ?_
  simp only [decide_eq_false_iff_not] at hc
  have hpos1 := hc
  have heq : ∀ (c : Prop) [Decidable c] (a : Int), ¬ (if c then a else -1) < 0 → (if c then a else -1) = a ∧ c := by
    intro c _ a h
    split at h
    · rename_i hc; exact ⟨if_pos hc, hc⟩
    · omega
  obtain ⟨e1, c1⟩ := heq _ _ hc
  rw [e1]
  clear heq hc
  refine gGO ?_
  refine VO_q (Q_call rfl (h2 ((left - (f0.length : Int)) - (W (U.sl 1 f1) : Int)) (by omega) (by omega)) vA) rfl ?_
  refine gGO ?_
  refine V_cond rfl (fun hc => ?_) (fun hc => ?_)
  · refine V_seq_region ?_
    refine gGO ?_
    refine V_ret ?_
    simp only [decide_eq_true_eq] at hc
    exact ⟨trivial, ⟨_, rfl, congrArg (U.i .i64) (by split at hc <;> (rw [if_neg (by omega)]))⟩, trivial⟩
  refine V_skip ?_
  simp only [decide_eq_false_iff_not] at hc
  have hpos2 := hc
  have heq : ∀ (c : Prop) [Decidable c] (a : Int), ¬ (if c then a else -1) < 0 → (if c then a else -1) = a ∧ c := by
    intro c _ a h
    split at h
    · rename_i hc; exact ⟨if_pos hc, hc⟩
    · omega
  obtain ⟨e2, c2⟩ := heq _ _ hc
  rw [e2]
  clear heq hc
  refine gGO ?_
  refine V_ret ?_
  exact ⟨trivial, ⟨_, rfl, congrArg (U.i .i64) (by rw [if_pos (by omega)]; omega)⟩, trivial⟩
theorem szArmS_step {us : List U} (hl : us.length ≤ big) (hz : ∀ a ∈ us, a.isSt = true ∧ a.sz = 11) (ih : ∀ a ∈ us, PSz 212 a) : PSz 201 (.sl 11 us) := by
  intro left hl0 hl1
  have hW : W (.sl 11 us) = us.length + Ws us := rfl
  have hb : (us.length : Int) ≤ 140737488355328 := by rw [big_eq] at hl; omega
  refine SpecP_intro Tryz.func201 rfl (by kernel_rfl) rfl fun A _ => ?_
  refine gGO ?_
  refine V_cond rfl (fun hc => ?_) (fun hc => ?_)
  · refine V_seq_region ?_
    refine gGO ?_
    refine V_ret ?_
    simp only [decide_eq_true_eq] at hc
    exact ⟨trivial, ⟨_, rfl, congrArg (U.i .i64) (by rw [if_neg (by omega)])⟩, trivial⟩
  refine V_skip ?_
  simp only [decide_eq_false_iff_not] at hc
  refine gGO ?_
  refine V_block ?_
  refine V_loop (α := Nat × Int)
    (fun x => ⟨[(0, .d (.sl 11 us)), (5, .d (.i .i64 x.1)), (1, .d (.i .i64 x.2))], [], Tryz.f201.ntmps⟩)
    (fun x => x.1 ≤ us.length ∧ 0 ≤ x.2 ∧ x.2 = left - us.length - Ws (us.take x.1))
    (fun x => us.length - x.1) (0, left - us.length) ⟨rfl, ⟨⟨rfl, rfl⟩, ⟨rfl, rfl⟩, ⟨rfl, rfl⟩, trivial⟩, ⟨[], rfl⟩, rfl⟩ ⟨by simp, by simp only; omega, by simp [Ws]⟩ ?_
  rintro ⟨k, l⟩ ⟨hk, hq0, hq1⟩
  simp only at hk hq0 hq1
  refine gGO ?_
  refine V_cond rfl (fun hc2 => ?_) (fun hc2 => ?_)
  · refine V_skip ?_
    simp only [decide_eq_true_eq] at hc2
    have hkl : k < us.length := by omega
    have hget : us[k]? = some us[k] := List.getElem?_eq_getElem hkl
    have hmem : us[k] ∈ us := List.getElem_mem hkl
    have htk := Ws_take_succ hget
    have hle := Ws_take_le us (k + 1)
    obtain ⟨hst, hsz⟩ := hz _ hmem
    refine V_seq (V_block (V_seq_region ?_))
    refine gGO ?_
    refine VO_q (Q_index rfl rfl TE.h TI.h (by omega) hget) rfl ?_
    refine VO_q (Q_load rfl TI.h hst hsz) rfl ?_
    refine gGO ?_
    refine VO_q (Q_call rfl (ih _ hmem l (by omega) (by omega)) vA) rfl ?_
    refine gGO ?_
    refine V_cond rfl (fun hc3 => ?_) (fun hc3 => ?_)
    · refine V_seq_region ?_
      refine gGO ?_
      refine V_ret ?_
      simp only [decide_eq_true_eq] at hc3
      exact ⟨trivial, ⟨_, rfl, congrArg (U.i .i64) (by
        rw [if_neg (by intro hle2; rw [if_pos (by omega)] at hc3; omega)])⟩, trivial⟩
    refine V_skip ?_
    simp only [decide_eq_false_iff_not] at hc3
    refine gGO ?_
    refine ⟨(k + 1, (if (W us[k] : Int) ≤ l then l - W us[k] else -1)), ?_, ?_, ⟨rfl, ⟨⟨rfl, rfl⟩, ⟨rfl, rfl⟩, ⟨rfl, rfl⟩, trivial⟩, ⟨[], rfl⟩, rfl⟩⟩
    · simp only
      refine ⟨by omega, by omega, ?_⟩
      rw [if_pos (by apply Classical.byContradiction; intro hn; rw [if_neg hn] at hc3; omega)]
      omega
    · simp only
      omega
  · refine V_exit ?_
    simp only [decide_eq_false_iff_not] at hc2
    have hkl : k = us.length := by omega
    subst hkl
    rw [List.take_length] at hq1
    show V _ _ _ _ _
    refine gGO ?_
    refine V_ret ?_
    exact ⟨trivial, ⟨_, rfl, congrArg (U.i .i64) (by rw [if_pos (by omega)]; omega)⟩, trivial⟩
theorem szExpr_step {f0 : Int} {f1 : List UInt8} {f2 : List UInt8} {f3 : Int} {f4 : U} {f5 : List U} {f6 : List U} (h1 : f1.length ≤ big) (h2 : f2.length ≤ big) (g4 : wt (.st 1) f4) (h4 : PSz 84 f4) (h5 : PSz 200 (.sl 9 f5)) (h6 : PSz 201 (.sl 11 f6)) : PSz 187 (.st [.i .i64 f0, .s f1, .s f2, .i .i64 f3, f4, .sl 9 f5, .sl 11 f6]) := by
  intro left hl0 hl1
  have hW : W (.st [.i .i64 f0, .s f1, .s f2, .i .i64 f3, f4, .sl 9 f5, .sl 11 f6]) = 0 + (f1.length + (f2.length + (0 + (W f4 + (W (U.sl 9 f5) + (W (U.sl 11 f6) + 0)))))) := rfl
  have hb1 : f1.length ≤ 140737488355328 := by rw [big_eq] at h1; exact h1
  have hb2 : f2.length ≤ 140737488355328 := by rw [big_eq] at h2; exact h2
  obtain ⟨m4, hm4⟩ : ∃ m, W f4 = m := ⟨_, rfl⟩
  rw [hm4] at hW
  have h4 : ∀ l : Int, 0 ≤ l → l ≤ 4611686018427387904 → SpecP Tryz.prog 84 [.d f4, .d (.i .i64 l)] [.i .i64 (if (m4 : Int) ≤ l then l - m4 else -1)] := by rw [← hm4]; exact h4
  obtain ⟨e3_0, e3_1, e3_2, rfl, g3_0, g3_1, g3_2⟩ := inv_Type g4
  refine SpecP_intro Tryz.func187 rfl (by kernel_rfl) rfl fun A _ => ?_
  refine gGO ?_
  refine V_cond rfl (fun hc => ?_) (fun hc => ?_)
  · refine V_seq_region ?_
    refine gGO ?_
    refine V_ret ?_
    simp only [decide_eq_true_eq] at hc
    exact ⟨trivial, ⟨_, rfl, congrArg (U.i .i64) (by rw [if_neg (by omega)])⟩, trivial⟩
  refine V_skip ?_
  simp only [decide_eq_false_iff_not] at hc
  refine gGO ?_
  refine V_cond rfl (fun hc => ?_) (fun hc => ?_)
  · refine V_seq_region ?_
    refine gGO ?_
    refine V_ret ?_
    simp only [decide_eq_true_eq] at hc
    exact ⟨trivial, ⟨_, rfl, congrArg (U.i .i64) (by rw [if_neg (by omega)])⟩, trivial⟩
  refine V_skip ?_
  simp only [decide_eq_false_iff_not] at hc
  refine gGO ?_
  refine VO_q (Q_call rfl (h4 ((left - (f1.length : Int)) - (f2.length : Int)) (by omega) (by omega)) vA) rfl ?_
  refine gGO ?_
  refine V_cond rfl (fun hc => ?_) (fun hc => ?_)
  · refine V_seq_region ?_
    refine gGO ?_
    refine V_ret ?_
    simp only [decide_eq_true_eq] at hc
    exact ⟨trivial, ⟨_, rfl, congrArg (U.i .i64) (by split at hc <;> (rw [if_neg (by omega)]))⟩, trivial⟩
  refine V_skip ?_
  simp only [decide_eq_false_iff_not] at hc
  have hpos4 := hc
  have heq : ∀ (c : Prop) [Decidable c] (a : Int), ¬ (if c then a else -1) < 0 → (if c then a else -1) = a ∧ c := by
    intro c _ a h
    split at h
    · rename_i hc; exact ⟨if_pos hc, hc⟩
    · omega
  obtain ⟨e4, c4⟩ := heq _ _ hc
  rw [e4]
  clear heq hc
  refine gGO ?_
  refine VO_q (Q_call rfl (h5 (((left - (f1.length : Int)) - (f2.length : Int)) - (m4 : Int)) (by omega) (by omega)) vA) rfl ?_
  refine gGO ?_
  refine V_cond rfl (fun hc => ?_) (fun hc => ?_)
  · refine V_seq_region ?_
    refine gGO ?_
    refine V_ret ?_
    simp only [decide_eq_true_eq] at hc
    exact ⟨trivial, ⟨_, rfl, congrArg (U.i .i64) (by split at hc <;> (rw [if_neg (by omega)]))⟩, trivial⟩
  refine V_skip ?_
  simp only [decide_eq_false_iff_not] at hc
  have hpos5 := hc
  have heq : ∀ (c : Prop) [Decidable c] (a : Int), ¬ (if c then a else -1) < 0 → (if c then a else -1) = a ∧ c := by
    intro c _ a h
    split at h
    · rename_i hc; exact ⟨if_pos hc, hc⟩
    · omega
  obtain ⟨e5, c5⟩ := heq _ _ hc
  rw [e5]
  clear heq hc
  refine gGO ?_
  refine VO_q (Q_call rfl (h6 ((((left - (f1.length : Int)) - (f2.length : Int)) - (m4 : Int)) - (W (U.sl 9 f5) : Int)) (by omega) (by omega)) vA) rfl ?_
  refine gGO ?_
  refine V_cond rfl (fun hc => ?_) (fun hc => ?_)
  · refine V_seq_region ?_
    refine gGO ?_
    refine V_ret ?_
    simp only [decide_eq_true_eq] at hc
    exact ⟨trivial, ⟨_, rfl, congrArg (U.i .i64) (by split at hc <;> (rw [if_neg (by omega)]))⟩, trivial⟩
  refine V_skip ?_
  simp only [decide_eq_false_iff_not] at hc
  have hpos6 := hc
  have heq : ∀ (c : Prop) [Decidable c] (a : Int), ¬ (if c then a else -1) < 0 → (if c then a else -1) = a ∧ c := by
    intro c _ a h
    split at h
    · rename_i hc; exact ⟨if_pos hc, hc⟩
    · omega
  obtain ⟨e6, c6⟩ := heq _ _ hc
  rw [e6]
  clear heq hc
  refine gGO ?_
  refine V_ret ?_
  exact ⟨trivial, ⟨_, rfl, congrArg (U.i .i64) (by rw [if_pos (by omega)]; omega)⟩, trivial⟩
theorem szExprS_step {us : List U} (hl : us.length ≤ big) (hz : ∀ a ∈ us, a.isSt = true ∧ a.sz = 9) (ih : ∀ a ∈ us, PSz 187 a) : PSz 200 (.sl 9 us) := by
  intro left hl0 hl1
  have hW : W (.sl 9 us) = us.length + Ws us := rfl
  have hb : (us.length : Int) ≤ 140737488355328 := by rw [big_eq] at hl; omega
  refine SpecP_intro Tryz.func200 rfl (by kernel_rfl) rfl fun A _ => ?_
  refine gGO ?_
  refine V_cond rfl (fun hc => ?_) (fun hc => ?_)
  · refine V_seq_region ?_
    refine gGO ?_
    refine V_ret ?_
    simp only [decide_eq_true_eq] at hc
    exact ⟨trivial, ⟨_, rfl, congrArg (U.i .i64) (by rw [if_neg (by omega)])⟩, trivial⟩
  refine V_skip ?_
  simp only [decide_eq_false_iff_not] at hc
  refine gGO ?_
  refine V_block ?_
  refine V_loop (α := Nat × Int)
    (fun x => ⟨[(0, .d (.sl 9 us)), (5, .d (.i .i64 x.1)), (1, .d (.i .i64 x.2))], [], Tryz.f200.ntmps⟩)
    (fun x => x.1 ≤ us.length ∧ 0 ≤ x.2 ∧ x.2 = left - us.length - Ws (us.take x.1))
    (fun x => us.length - x.1) (0, left - us.length) ⟨rfl, ⟨⟨rfl, rfl⟩, ⟨rfl, rfl⟩, ⟨rfl, rfl⟩, trivial⟩, ⟨[], rfl⟩, rfl⟩ ⟨by simp, by simp only; omega, by simp [Ws]⟩ ?_
  rintro ⟨k, l⟩ ⟨hk, hq0, hq1⟩
  simp only at hk hq0 hq1
  refine gGO ?_
  refine V_cond rfl (fun hc2 => ?_) (fun hc2 => ?_)
  · refine V_skip ?_
    simp only [decide_eq_true_eq] at hc2
    have hkl : k < us.length := by omega
    have hget : us[k]? = some us[k] := List.getElem?_eq_getElem hkl
    have hmem : us[k] ∈ us := List.getElem_mem hkl
    have htk := Ws_take_succ hget
    have hle := Ws_take_le us (k + 1)
    obtain ⟨hst, hsz⟩ := hz _ hmem
    refine V_seq (V_block (V_seq_region ?_))
    refine gGO ?_
    refine VO_q (Q_index rfl rfl TE.h TI.h (by omega) hget) rfl ?_
    refine VO_q (Q_load rfl TI.h hst hsz) rfl ?_
    refine gGO ?_
    refine VO_q (Q_call rfl (ih _ hmem l (by omega) (by omega)) vA) rfl ?_
    refine gGO ?_
    refine V_cond rfl (fun hc3 => ?_) (fun hc3 => ?_)
    · refine V_seq_region ?_
      refine gGO ?_
      refine V_ret ?_
      simp only [decide_eq_true_eq] at hc3
      exact ⟨trivial, ⟨_, rfl, congrArg (U.i .i64) (by
        rw [if_neg (by intro hle2; rw [if_pos (by omega)] at hc3; omega)])⟩, trivial⟩
    refine V_skip ?_
    simp only [decide_eq_false_iff_not] at hc3
    refine gGO ?_
    refine ⟨(k + 1, (if (W us[k] : Int) ≤ l then l - W us[k] else -1)), ?_, ?_, ⟨rfl, ⟨⟨rfl, rfl⟩, ⟨rfl, rfl⟩, ⟨rfl, rfl⟩, trivial⟩, ⟨[], rfl⟩, rfl⟩⟩
    · simp only
      refine ⟨by omega, by omega, ?_⟩
      rw [if_pos (by apply Classical.byContradiction; intro hn; rw [if_neg hn] at hc3; omega)]
      omega
    · simp only
      omega
  · refine V_exit ?_
    simp only [decide_eq_false_iff_not] at hc2
    have hkl : k = us.length := by omega
    subst hkl
    rw [List.take_length] at hq1
    show V _ _ _ _ _
    refine gGO ?_
    refine V_ret ?_
    exact ⟨trivial, ⟨_, rfl, congrArg (U.i .i64) (by rw [if_pos (by omega)]; omega)⟩, trivial⟩
theorem szArmExpr_grp (u : U) : (wt (.st 3) u → PSz 212 u) ∧ (wt (.st 4) u → PSz 187 u) := by
  refine U.ind (M := fun u => (wt (.st 3) u → PSz 212 u) ∧ (wt (.st 4) u → PSz 187 u)) (fun u ih => ?_) u
  refine ⟨?_, ?_⟩
  · intro h
    obtain ⟨f0, f1, f2, rfl, p0, p1, p2⟩ := inv_Arm h
    exact szArm_step p0 (szStringS_all p1) p2 ((ih f2 (by simp only [U.nn, U.nns]; omega)).2 p2)
  · intro h
    obtain ⟨f0, f1, f2, f3, f4, f5, f6, rfl, p0, p1, p2, p3, p4, p5, p6⟩ := inv_Expr h
    exact szExpr_step p1 p2 p4 (szType_all p4) (szExprS_step p5.1 (fun a ha => ⟨wt_isSt (p5.2 a ha), by rw [wt_sz a _ (p5.2 a ha)]; rfl⟩) (fun a ha => (ih a (by have := nn_of_mem ha; simp only [U.nn, U.nns]; omega)).2 (p5.2 a ha))) (szArmS_step p6.1 (fun a ha => ⟨wt_isSt (p6.2 a ha), by rw [wt_sz a _ (p6.2 a ha)]; rfl⟩) (fun a ha => (ih a (by have := nn_of_mem ha; simp only [U.nn, U.nns]; omega)).1 (p6.2 a ha)))
theorem szExpr_all {u : U} (h : wt (.st 4) u) : PSz 187 u := (szArmExpr_grp u).2 h
theorem szSignature_step {f0 : List UInt8} {f1 : List U} {f2 : U} {f3 : Bool} {f4 : List U} {f5 : U} (h0 : f0.length ≤ big) (h1 : PSz 141 (.sl 3 f1)) (g2 : wt (.st 1) f2) (h2 : PSz 84 f2) (h4 : PSz 81 (.sl 1 f4)) (g5 : wt (.st 4) f5) (h5 : PSz 187 f5) : PSz 197 (.st [.s f0, .sl 3 f1, f2, .b f3, .sl 1 f4, f5]) := by
  intro left hl0 hl1
  have hW : W (.st [.s f0, .sl 3 f1, f2, .b f3, .sl 1 f4, f5]) = f0.length + (W (U.sl 3 f1) + (W f2 + (0 + (W (U.sl 1 f4) + (W f5 + 0))))) := rfl
  have hb0 : f0.length ≤ 140737488355328 := by rw [big_eq] at h0; exact h0
  obtain ⟨m2, hm2⟩ : ∃ m, W f2 = m := ⟨_, rfl⟩
  rw [hm2] at hW
  have h2 : ∀ l : Int, 0 ≤ l → l ≤ 4611686018427387904 → SpecP Tryz.prog 84 [.d f2, .d (.i .i64 l)] [.i .i64 (if (m2 : Int) ≤ l then l - m2 else -1)] := by rw [← hm2]; exact h2
  obtain ⟨e4_0, e4_1, e4_2, rfl, g4_0, g4_1, g4_2⟩ := inv_Type g2
  obtain ⟨m5, hm5⟩ : ∃ m, W f5 = m := ⟨_, rfl⟩
  rw [hm5] at hW
  have h5 : ∀ l : Int, 0 ≤ l → l ≤ 4611686018427387904 → SpecP Tryz.prog 187 [.d f5, .d (.i .i64 l)] [.i .i64 (if (m5 : Int) ≤ l then l - m5 else -1)] := by rw [← hm5]; exact h5
  obtain ⟨e5_0, e5_1, e5_2, e5_3, e5_4, e5_5, e5_6, rfl, g5_0, g5_1, g5_2, g5_3, g5_4, g5_5, g5_6⟩ := inv_Expr g5
  obtain ⟨e6_0, e6_1, e6_2, rfl, g6_0, g6_1, g6_2⟩ := inv_Type g5_4
  refine SpecP_intro Tryz.func197 rfl (by kernel_rfl) rfl fun A _ => ?_
  refine gGO ?_
  refine V_cond rfl (fun hc => ?_) (fun hc => ?_)
  · refine V_seq_region ?_
    refine gGO ?_
    refine V_ret ?_
    simp only [decide_eq_true_eq] at hc
    exact ⟨trivial, ⟨_, rfl, congrArg (U.i .i64) (by rw [if_neg (by omega)])⟩, trivial⟩
  refine V_skip ?_
  simp only [decide_eq_false_iff_not] at hc
  refine gGO ?_
  refine VO_q (Q_call rfl (h1 (left - (f0.length : Int)) (by omega) (by omega)) vA) rfl ?_
  refine gGO ?_
  refine V_cond rfl (fun hc => ?_) (fun hc => ?_)
  · refine V_seq_region ?_
    refine gGO ?_
    refine V_ret ?_
    simp only [decide_eq_true_eq] at hc
    exact ⟨trivial, ⟨_, rfl, congrArg (U.i .i64) (by split at hc <;> (rw [if_neg (by omega)]))⟩, trivial⟩
  refine V_skip ?_
  simp only [decide_eq_false_iff_not] at hc
  have hpos1 := hc
  have heq : ∀ (c : Prop) [Decidable c] (a : Int), ¬ (if c then a else -1) < 0 → (if c then a else -1) = a ∧ c := by
    intro c _ a h
    split at h
    · rename_i hc; exact ⟨if_pos hc, hc⟩
    · omega
  obtain ⟨e1, c1⟩ := heq _ _ hc
  rw [e1]
  clear heq hc
  refine gGO ?_
  refine VO_q (Q_call rfl (h2 ((left - (f0.length : Int)) - (W (U.sl 3 f1) : Int)) (by omega) (by omega)) vA) rfl ?_
  refine gGO ?_
  refine V_cond rfl (fun hc => ?_) (fun hc => ?_)
  · refine V_seq_region ?_
    refine gGO ?_
    refine V_ret ?_
    simp only [decide_eq_true_eq] at hc
    exact ⟨trivial, ⟨_, rfl, congrArg (U.i .i64) (by split at hc <;> (rw [if_neg (by omega)]))⟩, trivial⟩
  refine V_skip ?_
  simp only [decide_eq_false_iff_not] at hc
  have hpos2 := hc
  have heq : ∀ (c : Prop) [Decidable c] (a : Int), ¬ (if c then a else -1) < 0 → (if c then a else -1) = a ∧ c := by
    intro c _ a h
    split at h
    · rename_i hc; exact ⟨if_pos hc, hc⟩
    · omega
  obtain ⟨e2, c2⟩ := heq _ _ hc
  rw [e2]
  clear heq hc
  refine gGO ?_
  refine VO_q (Q_call rfl (h4 (((left - (f0.length : Int)) - (W (U.sl 3 f1) : Int)) - (m2 : Int)) (by omega) (by omega)) vA) rfl ?_
  refine gGO ?_
  refine V_cond rfl (fun hc => ?_) (fun hc => ?_)
  · refine V_seq_region ?_
    refine gGO ?_
    refine V_ret ?_
    simp only [decide_eq_true_eq] at hc
    exact ⟨trivial, ⟨_, rfl, congrArg (U.i .i64) (by split at hc <;> (rw [if_neg (by omega)]))⟩, trivial⟩
  refine V_skip ?_
  simp only [decide_eq_false_iff_not] at hc
  have hpos4 := hc
  have heq : ∀ (c : Prop) [Decidable c] (a : Int), ¬ (if c then a else -1) < 0 → (if c then a else -1) = a ∧ c := by
    intro c _ a h
    split at h
    · rename_i hc; exact ⟨if_pos hc, hc⟩
    · omega
  obtain ⟨e4, c4⟩ := heq _ _ hc
  rw [e4]
  clear heq hc
  refine gGO ?_
  refine VO_q (Q_call rfl (h5 ((((left - (f0.length : Int)) - (W (U.sl 3 f1) : Int)) - (m2 : Int)) - (W (U.sl 1 f4) : Int)) (by omega) (by omega)) vA) rfl ?_
  refine gGO ?_
  refine V_cond rfl (fun hc => ?_) (fun hc => ?_)
  · refine V_seq_region ?_
    refine gGO ?_
    refine V_ret ?_
    simp only [decide_eq_true_eq] at hc
    exact ⟨trivial, ⟨_, rfl, congrArg (U.i .i64) (by split at hc <;> (rw [if_neg (by omega)]))⟩, trivial⟩
  refine V_skip ?_
  simp only [decide_eq_false_iff_not] at hc
  have hpos5 := hc
  have heq : ∀ (c : Prop) [Decidable c] (a : Int), ¬ (if c then a else -1) < 0 → (if c then a else -1) = a ∧ c := by
    intro c _ a h
    split at h
    · rename_i hc; exact ⟨if_pos hc, hc⟩
    · omega
  obtain ⟨e5, c5⟩ := heq _ _ hc
  rw [e5]
  clear heq hc
  refine gGO ?_
  refine V_ret ?_
  exact ⟨trivial, ⟨_, rfl, congrArg (U.i .i64) (by rw [if_pos (by omega)]; omega)⟩, trivial⟩
theorem szSignatureS_step {us : List U} (hl : us.length ≤ big) (hz : ∀ a ∈ us, a.isSt = true ∧ a.sz = 16) (ih : ∀ a ∈ us, PSz 197 a) : PSz 184 (.sl 16 us) := by
  intro left hl0 hl1
  have hW : W (.sl 16 us) = us.length + Ws us := rfl
  have hb : (us.length : Int) ≤ 140737488355328 := by rw [big_eq] at hl; omega
  refine SpecP_intro Tryz.func184 rfl (by kernel_rfl) rfl fun A _ => ?_
  refine gGO ?_
  refine V_cond rfl (fun hc => ?_) (fun hc => ?_)
  · refine V_seq_region ?_
    refine gGO ?_
    refine V_ret ?_
    simp only [decide_eq_true_eq] at hc
    exact ⟨trivial, ⟨_, rfl, congrArg (U.i .i64) (by rw [if_neg (by omega)])⟩, trivial⟩
  refine V_skip ?_
  simp only [decide_eq_false_iff_not] at hc
  refine gGO ?_
  refine V_block ?_
  refine V_loop (α := Nat × Int)
    (fun x => ⟨[(0, .d (.sl 16 us)), (5, .d (.i .i64 x.1)), (1, .d (.i .i64 x.2))], [], Tryz.f184.ntmps⟩)
    (fun x => x.1 ≤ us.length ∧ 0 ≤ x.2 ∧ x.2 = left - us.length - Ws (us.take x.1))
    (fun x => us.length - x.1) (0, left - us.length) ⟨rfl, ⟨⟨rfl, rfl⟩, ⟨rfl, rfl⟩, ⟨rfl, rfl⟩, trivial⟩, ⟨[], rfl⟩, rfl⟩ ⟨by simp, by simp only; omega, by simp [Ws]⟩ ?_
  rintro ⟨k, l⟩ ⟨hk, hq0, hq1⟩
  simp only at hk hq0 hq1
  refine gGO ?_
  refine V_cond rfl (fun hc2 => ?_) (fun hc2 => ?_)
  · refine V_skip ?_
    simp only [decide_eq_true_eq] at hc2
    have hkl : k < us.length := by omega
    have hget : us[k]? = some us[k] := List.getElem?_eq_getElem hkl
    have hmem : us[k] ∈ us := List.getElem_mem hkl
    have htk := Ws_take_succ hget
    have hle := Ws_take_le us (k + 1)
    obtain ⟨hst, hsz⟩ := hz _ hmem
    refine V_seq (V_block (V_seq_region ?_))
    refine gGO ?_
    refine VO_q (Q_index rfl rfl TE.h TI.h (by omega) hget) rfl ?_
    refine VO_q (Q_load rfl TI.h hst hsz) rfl ?_
    refine gGO ?_
    refine VO_q (Q_call rfl (ih _ hmem l (by omega) (by omega)) vA) rfl ?_
    refine gGO ?_
    refine V_cond rfl (fun hc3 => ?_) (fun hc3 => ?_)
    · refine V_seq_region ?_
      refine gGO ?_
      refine V_ret ?_
      simp only [decide_eq_true_eq] at hc3
      exact ⟨trivial, ⟨_, rfl, congrArg (U.i .i64) (by
        rw [if_neg (by intro hle2; rw [if_pos (by omega)] at hc3; omega)])⟩, trivial⟩
    refine V_skip ?_
    simp only [decide_eq_false_iff_not] at hc3
    refine gGO ?_
    refine ⟨(k + 1, (if (W us[k] : Int) ≤ l then l - W us[k] else -1)), ?_, ?_, ⟨rfl, ⟨⟨rfl, rfl⟩, ⟨rfl, rfl⟩, ⟨rfl, rfl⟩, trivial⟩, ⟨[], rfl⟩, rfl⟩⟩
    · simp only
      refine ⟨by omega, by omega, ?_⟩
      rw [if_pos (by apply Classical.byContradiction; intro hn; rw [if_neg hn] at hc3; omega)]
      omega
    · simp only
      omega
  · refine V_exit ?_
    simp only [decide_eq_false_iff_not] at hc2
    have hkl : k = us.length := by omega
    subst hkl
    rw [List.take_length] at hq1
    show V _ _ _ _ _
    refine gGO ?_
    refine V_ret ?_
    exact ⟨trivial, ⟨_, rfl, congrArg (U.i .i64) (by rw [if_pos (by omega)]; omega)⟩, trivial⟩
theorem szSignature_grp (u : U) : (wt (.st 5) u → PSz 197 u) := by
  refine U.ind (M := fun u => (wt (.st 5) u → PSz 197 u)) (fun u ih => ?_) u
  refine ?_
  · intro h
    obtain ⟨f0, f1, f2, f3, f4, f5, rfl, p0, p1, p2, p4, p5⟩ := inv_Signature h
    exact szSignature_step p0 (szTypeS_all p1) p2 (szType_all p2) (szStringS_all p4) p5 (szExpr_all p5)
theorem szSignature_all {u : U} (h : wt (.st 5) u) : PSz 197 u := (szSignature_grp u) h
theorem szSignatureS_all {us : List U} (h : us.length ≤ big ∧ ∀ x ∈ us, wt (.st 5) x) : PSz 184 (.sl 16 us) := szSignatureS_step h.1 (fun a ha => ⟨wt_isSt (h.2 a ha), by rw [wt_sz a _ (h.2 a ha)]; rfl⟩) (fun a ha => szSignature_all (h.2 a ha))
theorem szTrait_step {f0 : List UInt8} {f1 : List U} {f2 : Bool} {f3 : Bool} {f4 : List U} (h0 : f0.length ≤ big) (h1 : PSz 81 (.sl 1 f1)) (h4 : PSz 184 (.sl 16 f4)) : PSz 157 (.st [.s f0, .sl 1 f1, .b f2, .b f3, .sl 16 f4]) := by
  intro left hl0 hl1
  have hW : W (.st [.s f0, .sl 1 f1, .b f2, .b f3, .sl 16 f4]) = f0.length + (W (U.sl 1 f1) + (0 + (0 + (W (U.sl 16 f4) + 0)))) := rfl
  have hb0 : f0.length ≤ 140737488355328 := by rw [big_eq] at h0; exact h0
  refine SpecP_intro Tryz.func157 rfl (by kernel_rfl) rfl fun A _ => ?_
  refine gGO ?_
  refine V_cond rfl (fun hc => ?_) (fun hc => ?_)
  · refine V_seq_region ?_
    refine gGO ?_
    refine V_ret ?_
    simp only [decide_eq_true_eq] at hc
    exact ⟨trivial, ⟨_, rfl, congrArg (U.i .i64) (by rw [if_neg (by omega)])⟩, trivial⟩
  refine V_skip ?_
  simp only [decide_eq_false_iff_not] at hc
  refine gGO ?_
  refine VO_q (Q_call rfl (h1 (left - (f0.length : Int)) (by omega) (by omega)) vA) rfl ?_
  refine gGO ?_
  refine V_cond rfl (fun hc => ?_) (fun hc => ?_)
  · refine V_seq_region ?_
    refine gGO ?_
    refine V_ret ?_
    simp only [decide_eq_true_eq] at hc
    exact ⟨trivial, ⟨_, rfl, congrArg (U.i .i64) (by split at hc <;> (rw [if_neg (by omega)]))⟩, trivial⟩
  refine V_skip ?_
  simp only [decide_eq_false_iff_not] at hc
  have hpos1 := hc
  have heq : ∀ (c : Prop) [Decidable c] (a : Int), ¬ (if c then a else -1) < 0 → (if c then a else -1) = a ∧ c := by
    intro c _ a h
    split at h
    · rename_i hc; exact ⟨if_pos hc, hc⟩
    · omega
  obtain ⟨e1, c1⟩ := heq _ _ hc
  rw [e1]
  clear heq hc
  refine gGO ?_
  refine VO_q (Q_call rfl (h4 ((left - (f0.length : Int)) - (W (U.sl 1 f1) : Int)) (by omega) (by omega)) vA) rfl ?_
  refine gGO ?_
  refine V_cond rfl (fun hc => ?_) (fun hc => ?_)
  · refine V_seq_region ?_
    refine gGO ?_
    refine V_ret ?_
    simp only [decide_eq_true_eq] at hc
    exact ⟨trivial, ⟨_, rfl, congrArg (U.i .i64) (by split at hc <;> (rw [if_neg (by omega)]))⟩, trivial⟩
  refine V_skip ?_
  simp only [decide_eq_false_iff_not] at hc
  have hpos4 := hc
  have heq : ∀ (c : Prop) [Decidable c] (a : Int), ¬ (if c then a else -1) < 0 → (if c then a else -1) = a ∧ c := by
    intro c _ a h
    split at h
    · rename_i hc; exact ⟨if_pos hc, hc⟩
    · omega
  obtain ⟨e4, c4⟩ := heq _ _ hc
  rw [e4]
  clear heq hc
  refine gGO ?_
  refine V_ret ?_
  exact ⟨trivial, ⟨_, rfl, congrArg (U.i .i64) (by rw [if_pos (by omega)]; omega)⟩, trivial⟩
theorem szTraitS_step {us : List U} (hl : us.length ≤ big) (hz : ∀ a ∈ us, a.isSt = true ∧ a.sz = 5) (ih : ∀ a ∈ us, PSz 157 a) : PSz 105 (.sl 5 us) := by
  intro left hl0 hl1
  have hW : W (.sl 5 us) = us.length + Ws us := rfl
  have hb : (us.length : Int) ≤ 140737488355328 := by rw [big_eq] at hl; omega
  refine SpecP_intro Tryz.func105 rfl (by kernel_rfl) rfl fun A _ => ?_
  refine gGO ?_
  refine V_cond rfl (fun hc => ?_) (fun hc => ?_)
  · refine V_seq_region ?_
    refine gGO ?_
    refine V_ret ?_
    simp only [decide_eq_true_eq] at hc
    exact ⟨trivial, ⟨_, rfl, congrArg (U.i .i64) (by rw [if_neg (by omega)])⟩, trivial⟩
  refine V_skip ?_
  simp only [decide_eq_false_iff_not] at hc
  refine gGO ?_
  refine V_block ?_
  refine V_loop (α := Nat × Int)
    (fun x => ⟨[(0, .d (.sl 5 us)), (5, .d (.i .i64 x.1)), (1, .d (.i .i64 x.2))], [], Tryz.f105.ntmps⟩)
    (fun x => x.1 ≤ us.length ∧ 0 ≤ x.2 ∧ x.2 = left - us.length - Ws (us.take x.1))
    (fun x => us.length - x.1) (0, left - us.length) ⟨rfl, ⟨⟨rfl, rfl⟩, ⟨rfl, rfl⟩, ⟨rfl, rfl⟩, trivial⟩, ⟨[], rfl⟩, rfl⟩ ⟨by simp, by simp only; omega, by simp [Ws]⟩ ?_
  rintro ⟨k, l⟩ ⟨hk, hq0, hq1⟩
  simp only at hk hq0 hq1
  refine gGO ?_
  refine V_cond rfl (fun hc2 => ?_) (fun hc2 => ?_)
  · refine V_skip ?_
    simp only [decide_eq_true_eq] at hc2
    have hkl : k < us.length := by omega
    have hget : us[k]? = some us[k] := List.getElem?_eq_getElem hkl
    have hmem : us[k] ∈ us := List.getElem_mem hkl
    have htk := Ws_take_succ hget
    have hle := Ws_take_le us (k + 1)
    obtain ⟨hst, hsz⟩ := hz _ hmem
    refine V_seq (V_block (V_seq_region ?_))
    refine gGO ?_
    refine VO_q (Q_index rfl rfl TE.h TI.h (by omega) hget) rfl ?_
    refine VO_q (Q_load rfl TI.h hst hsz) rfl ?_
    refine gGO ?_
    refine VO_q (Q_call rfl (ih _ hmem l (by omega) (by omega)) vA) rfl ?_
    refine gGO ?_
    refine V_cond rfl (fun hc3 => ?_) (fun hc3 => ?_)
    · refine V_seq_region ?_
      refine gGO ?_
      refine V_ret ?_
      simp only [decide_eq_true_eq] at hc3
      exact ⟨trivial, ⟨_, rfl, congrArg (U.i .i64) (by
        rw [if_neg (by intro hle2; rw [if_pos (by omega)] at hc3; omega)])⟩, trivial⟩
    refine V_skip ?_
    simp only [decide_eq_false_iff_not] at hc3
    refine gGO ?_
    refine ⟨(k + 1, (if (W us[k] : Int) ≤ l then l - W us[k] else -1)), ?_, ?_, ⟨rfl, ⟨⟨rfl, rfl⟩, ⟨rfl, rfl⟩, ⟨rfl, rfl⟩, trivial⟩, ⟨[], rfl⟩, rfl⟩⟩
    · simp only
      refine ⟨by omega, by omega, ?_⟩
      rw [if_pos (by apply Classical.byContradiction; intro hn; rw [if_neg hn] at hc3; omega)]
      omega
    · simp only
      omega
  · refine V_exit ?_
    simp only [decide_eq_false_iff_not] at hc2
    have hkl : k = us.length := by omega
    subst hkl
    rw [List.take_length] at hq1
    show V _ _ _ _ _
    refine gGO ?_
    refine V_ret ?_
    exact ⟨trivial, ⟨_, rfl, congrArg (U.i .i64) (by rw [if_pos (by omega)]; omega)⟩, trivial⟩
theorem szTrait_grp (u : U) : (wt (.st 6) u → PSz 157 u) := by
  refine U.ind (M := fun u => (wt (.st 6) u → PSz 157 u)) (fun u ih => ?_) u
  refine ?_
  · intro h
    obtain ⟨f0, f1, f2, f3, f4, rfl, p0, p1, p4⟩ := inv_Trait h
    exact szTrait_step p0 (szStringS_all p1) (szSignatureS_all p4)
theorem szTrait_all {u : U} (h : wt (.st 6) u) : PSz 157 u := (szTrait_grp u) h
theorem szTraitS_all {us : List U} (h : us.length ≤ big ∧ ∀ x ∈ us, wt (.st 6) x) : PSz 105 (.sl 5 us) := szTraitS_step h.1 (fun a ha => ⟨wt_isSt (h.2 a ha), by rw [wt_sz a _ (h.2 a ha)]; rfl⟩) (fun a ha => szTrait_all (h.2 a ha))
theorem szConstructor_step {f0 : List UInt8} {f1 : List U} (h0 : f0.length ≤ big) (h1 : PSz 141 (.sl 3 f1)) : PSz 198 (.st [.s f0, .sl 3 f1]) := by
  intro left hl0 hl1
  have hW : W (.st [.s f0, .sl 3 f1]) = f0.length + (W (U.sl 3 f1) + 0) := rfl
  have hb0 : f0.length ≤ 140737488355328 := by rw [big_eq] at h0; exact h0
  refine SpecP_intro Tryz.func198 rfl (by kernel_rfl) rfl fun A _ => ?_
  refine gGO ?_
  refine V_cond rfl (fun hc => ?_) (fun hc => ?_)
  · refine V_seq_region ?_
    refine gGO ?_
    refine V_ret ?_
    simp only [decide_eq_true_eq] at hc
    exact ⟨trivial, ⟨_, rfl, congrArg (U.i .i64) (by rw [if_neg (by omega)])⟩, trivial⟩
  refine V_skip ?_
  simp only [decide_eq_false_iff_not] at hc
  refine gGO ?_
  refine VO_q (Q_call rfl (h1 (left - (f0.length : Int)) (by omega) (by omega)) vA) rfl ?_
  refine gGO ?_
  refine V_cond rfl (fun hc => ?_) (fun hc => ?_)
  · refine V_seq_region ?_
    refine gGO ?_
    refine V_ret ?_
    simp only [decide_eq_true_eq] at hc
    exact ⟨trivial, ⟨_, rfl, congrArg (U.i .i64) (by split at hc <;> (rw [if_neg (by omega)]))⟩, trivial⟩
  refine V_skip ?_
  simp only [decide_eq_false_iff_not] at hc
  have hpos1 := hc
  have heq : ∀ (c : Prop) [Decidable c] (a : Int), ¬ (if c then a else -1) < 0 → (if c then a else -1) = a ∧ c := by
    intro c _ a h
    split at h
    · rename_i hc; exact ⟨if_pos hc, hc⟩
    · omega
  obtain ⟨e1, c1⟩ := heq _ _ hc
  rw [e1]
  clear heq hc
  refine gGO ?_
  refine V_ret ?_
  exact ⟨trivial, ⟨_, rfl, congrArg (U.i .i64) (by rw [if_pos (by omega)]; omega)⟩, trivial⟩
theorem szConstructorS_step {us : List U} (hl : us.length ≤ big) (hz : ∀ a ∈ us, a.isSt = true ∧ a.sz = 2) (ih : ∀ a ∈ us, PSz 198 a) : PSz 185 (.sl 2 us) := by
  intro left hl0 hl1
  have hW : W (.sl 2 us) = us.length + Ws us := rfl
  have hb : (us.length : Int) ≤ 140737488355328 := by rw [big_eq] at hl; omega
  refine SpecP_intro Tryz.func185 rfl (by kernel_rfl) rfl fun A _ => ?_
  refine gGO ?_
  refine V_cond rfl (fun hc => ?_) (fun hc => ?_)
  · refine V_seq_region ?_
    refine gGO ?_
    refine V_ret ?_
    simp only [decide_eq_true_eq] at hc
    exact ⟨trivial, ⟨_, rfl, congrArg (U.i .i64) (by rw [if_neg (by omega)])⟩, trivial⟩
  refine V_skip ?_
  simp only [decide_eq_false_iff_not] at hc
  refine gGO ?_
  refine V_block ?_
  refine V_loop (α := Nat × Int)
    (fun x => ⟨[(0, .d (.sl 2 us)), (5, .d (.i .i64 x.1)), (1, .d (.i .i64 x.2))], [], Tryz.f185.ntmps⟩)
    (fun x => x.1 ≤ us.length ∧ 0 ≤ x.2 ∧ x.2 = left - us.length - Ws (us.take x.1))
    (fun x => us.length - x.1) (0, left - us.length) ⟨rfl, ⟨⟨rfl, rfl⟩, ⟨rfl, rfl⟩, ⟨rfl, rfl⟩, trivial⟩, ⟨[], rfl⟩, rfl⟩ ⟨by simp, by simp only; omega, by simp [Ws]⟩ ?_
  rintro ⟨k, l⟩ ⟨hk, hq0, hq1⟩
  simp only at hk hq0 hq1
  refine gGO ?_
  refine V_cond rfl (fun hc2 => ?_) (fun hc2 => ?_)
  · refine V_skip ?_
    simp only [decide_eq_true_eq] at hc2
    have hkl : k < us.length := by omega
    have hget : us[k]? = some us[k] := List.getElem?_eq_getElem hkl
    have hmem : us[k] ∈ us := List.getElem_mem hkl
    have htk := Ws_take_succ hget
    have hle := Ws_take_le us (k + 1)
    obtain ⟨hst, hsz⟩ := hz _ hmem
    refine V_seq (V_block (V_seq_region ?_))
    refine gGO ?_
    refine VO_q (Q_index rfl rfl TE.h TI.h (by omega) hget) rfl ?_
    refine VO_q (Q_load rfl TI.h hst hsz) rfl ?_
    refine gGO ?_
    refine VO_q (Q_call rfl (ih _ hmem l (by omega) (by omega)) vA) rfl ?_
    refine gGO ?_
    refine V_cond rfl (fun hc3 => ?_) (fun hc3 => ?_)
    · refine V_seq_region ?_
      refine gGO ?_
      refine V_ret ?_
      simp only [decide_eq_true_eq] at hc3
      exact ⟨trivial, ⟨_, rfl, congrArg (U.i .i64) (by
        rw [if_neg (by intro hle2; rw [if_pos (by omega)] at hc3; omega)])⟩, trivial⟩
    refine V_skip ?_
    simp only [decide_eq_false_iff_not] at hc3
    refine gGO ?_
    refine ⟨(k + 1, (if (W us[k] : Int) ≤ l then l - W us[k] else -1)), ?_, ?_, ⟨rfl, ⟨⟨rfl, rfl⟩, ⟨rfl, rfl⟩, ⟨rfl, rfl⟩, trivial⟩, ⟨[], rfl⟩, rfl⟩⟩
    · simp only
      refine ⟨by omega, by omega, ?_⟩
      rw [if_pos (by apply Classical.byContradiction; intro hn; rw [if_neg hn] at hc3; omega)]
      omega
    · simp only
      omega
  · refine V_exit ?_
    simp only [decide_eq_false_iff_not] at hc2
    have hkl : k = us.length := by omega
    subst hkl
    rw [List.take_length] at hq1
    show V _ _ _ _ _
    refine gGO ?_
    refine V_ret ?_
    exact ⟨trivial, ⟨_, rfl, congrArg (U.i .i64) (by rw [if_pos (by omega)]; omega)⟩, trivial⟩
theorem szConstructor_grp (u : U) : (wt (.st 7) u → PSz 198 u) := by
  refine U.ind (M := fun u => (wt (.st 7) u → PSz 198 u)) (fun u ih => ?_) u
  refine ?_
  · intro h
    obtain ⟨f0, f1, rfl, p0, p1⟩ := inv_Constructor h
    exact szConstructor_step p0 (szTypeS_all p1)
theorem szConstructor_all {u : U} (h : wt (.st 7) u) : PSz 198 u := (szConstructor_grp u) h
theorem szConstructorS_all {us : List U} (h : us.length ≤ big ∧ ∀ x ∈ us, wt (.st 7) x) : PSz 185 (.sl 2 us) := szConstructorS_step h.1 (fun a ha => ⟨wt_isSt (h.2 a ha), by rw [wt_sz a _ (h.2 a ha)]; rfl⟩) (fun a ha => szConstructor_all (h.2 a ha))
theorem szDataType_step {f0 : List UInt8} {f1 : List U} {f2 : List U} (h0 : f0.length ≤ big) (h1 : PSz 81 (.sl 1 f1)) (h2 : PSz 185 (.sl 2 f2)) : PSz 158 (.st [.s f0, .sl 1 f1, .sl 2 f2]) := by
  intro left hl0 hl1
  have hW : W (.st [.s f0, .sl 1 f1, .sl 2 f2]) = f0.length + (W (U.sl 1 f1) + (W (U.sl 2 f2) + 0)) := rfl
  have hb0 : f0.length ≤ 140737488355328 := by rw [big_eq] at h0; exact h0
  refine SpecP_intro Tryz.func158 rfl (by kernel_rfl) rfl fun A _ => ?_
  refine gGO ?_
  refine V_cond rfl (fun hc => ?_) (fun hc => ?_)
  · refine V_seq_region ?_
    refine gGO ?_
    refine V_ret ?_
    simp only [decide_eq_true_eq] at hc
    exact ⟨trivial, ⟨_, rfl, congrArg (U.i .i64) (by rw [if_neg (by omega)])⟩, trivial⟩
  refine V_skip ?_
  simp only [decide_eq_false_iff_not] at hc
  refine gGO ?_
  refine VO_q (Q_call rfl (h1 (left - (f0.length : Int)) (by omega) (by omega)) vA) rfl ?_
  refine gGO ?_
  refine V_cond rfl (fun hc => ?_) (fun hc => ?_)
  · refine V_seq_region ?_
    refine gGO ?_
    refine V_ret ?_
    simp only [decide_eq_true_eq] at hc
    exact ⟨trivial, ⟨_, rfl, congrArg (U.i .i64) (by split at hc <;> (rw [if_neg (by omega)]))⟩, trivial⟩
  refine V_skip ?_
  simp only [decide_eq_false_iff_not] at hc
  have hpos1 := hc
  have heq : ∀ (c : Prop) [Decidable c] (a : Int), ¬ (if c then a else -1) < 0 → (if c then a else -1) = a ∧ c := by
    intro c _ a h
    split at h
    · rename_i hc; exact ⟨if_pos hc, hc⟩
    · omega
  obtain ⟨e1, c1⟩ := heq _ _ hc
  rw [e1]
  clear heq hc
  refine gGO ?_
  refine VO_q (Q_call rfl (h2 ((left - (f0.length : Int)) - (W (U.sl 1 f1) : Int)) (by omega) (by omega)) vA) rfl ?_
  refine gGO ?_
  refine V_cond rfl (fun hc => ?_) (fun hc => ?_)
  · refine V_seq_region ?_
    refine gGO ?_
    refine V_ret ?_
    simp only [decide_eq_true_eq] at hc
    exact ⟨trivial, ⟨_, rfl, congrArg (U.i .i64) (by split at hc <;> (rw [if_neg (by omega)]))⟩, trivial⟩
  refine V_skip ?_
  simp only [decide_eq_false_iff_not] at hc
  have hpos2 := hc
  have heq : ∀ (c : Prop) [Decidable c] (a : Int), ¬ (if c then a else -1) < 0 → (if c then a else -1) = a ∧ c := by
    intro c _ a h
    split at h
    · rename_i hc; exact ⟨if_pos hc, hc⟩
    · omega
  obtain ⟨e2, c2⟩ := heq _ _ hc
  rw [e2]
  clear heq hc
  refine gGO ?_
  refine V_ret ?_
  exact ⟨trivial, ⟨_, rfl, congrArg (U.i .i64) (by rw [if_pos (by omega)]; omega)⟩, trivial⟩
theorem szDataTypeS_step {us : List U} (hl : us.length ≤ big) (hz : ∀ a ∈ us, a.isSt = true ∧ a.sz = 3) (ih : ∀ a ∈ us, PSz 158 a) : PSz 106 (.sl 3 us) := by
  intro left hl0 hl1
  have hW : W (.sl 3 us) = us.length + Ws us := rfl
  have hb : (us.length : Int) ≤ 140737488355328 := by rw [big_eq] at hl; omega
  refine SpecP_intro Tryz.func106 rfl (by kernel_rfl) rfl fun A _ => ?_
  refine gGO ?_
  refine V_cond rfl (fun hc => ?_) (fun hc => ?_)
  · refine V_seq_region ?_
    refine gGO ?_
    refine V_ret ?_
    simp only [decide_eq_true_eq] at hc
    exact ⟨trivial, ⟨_, rfl, congrArg (U.i .i64) (by rw [if_neg (by omega)])⟩, trivial⟩
  refine V_skip ?_
  simp only [decide_eq_false_iff_not] at hc
  refine gGO ?_
  refine V_block ?_
  refine V_loop (α := Nat × Int)
    (fun x => ⟨[(0, .d (.sl 3 us)), (5, .d (.i .i64 x.1)), (1, .d (.i .i64 x.2))], [], Tryz.f106.ntmps⟩)
    (fun x => x.1 ≤ us.length ∧ 0 ≤ x.2 ∧ x.2 = left - us.length - Ws (us.take x.1))
    (fun x => us.length - x.1) (0, left - us.length) ⟨rfl, ⟨⟨rfl, rfl⟩, ⟨rfl, rfl⟩, ⟨rfl, rfl⟩, trivial⟩, ⟨[], rfl⟩, rfl⟩ ⟨by simp, by simp only; omega, by simp [Ws]⟩ ?_
  rintro ⟨k, l⟩ ⟨hk, hq0, hq1⟩
  simp only at hk hq0 hq1
  refine gGO ?_
  refine V_cond rfl (fun hc2 => ?_) (fun hc2 => ?_)
  · refine V_skip ?_
    simp only [decide_eq_true_eq] at hc2
    have hkl : k < us.length := by omega
    have hget : us[k]? = some us[k] := List.getElem?_eq_getElem hkl
    have hmem : us[k] ∈ us := List.getElem_mem hkl
    have htk := Ws_take_succ hget
    have hle := Ws_take_le us (k + 1)
    obtain ⟨hst, hsz⟩ := hz _ hmem
    refine V_seq (V_block (V_seq_region ?_))
    refine gGO ?_
    refine VO_q (Q_index rfl rfl TE.h TI.h (by omega) hget) rfl ?_
    refine VO_q (Q_load rfl TI.h hst hsz) rfl ?_
    refine gGO ?_
    refine VO_q (Q_call rfl (ih _ hmem l (by omega) (by omega)) vA) rfl ?_
    refine gGO ?_
    refine V_cond rfl (fun hc3 => ?_) (fun hc3 => ?_)
    · refine V_seq_region ?_
      refine gGO ?_
      refine V_ret ?_
      simp only [decide_eq_true_eq] at hc3
      exact ⟨trivial, ⟨_, rfl, congrArg (U.i .i64) (by
        rw [if_neg (by intro hle2; rw [if_pos (by omega)] at hc3; omega)])⟩, trivial⟩
    refine V_skip ?_
    simp only [decide_eq_false_iff_not] at hc3
    refine gGO ?_
    refine ⟨(k + 1, (if (W us[k] : Int) ≤ l then l - W us[k] else -1)), ?_, ?_, ⟨rfl, ⟨⟨rfl, rfl⟩, ⟨rfl, rfl⟩, ⟨rfl, rfl⟩, trivial⟩, ⟨[], rfl⟩, rfl⟩⟩
    · simp only
      refine ⟨by omega, by omega, ?_⟩
      rw [if_pos (by apply Classical.byContradiction; intro hn; rw [if_neg hn] at hc3; omega)]
      omega
    · simp only
      omega
  · refine V_exit ?_
    simp only [decide_eq_false_iff_not] at hc2
    have hkl : k = us.length := by omega
    subst hkl
    rw [List.take_length] at hq1
    show V _ _ _ _ _
    refine gGO ?_
    refine V_ret ?_
    exact ⟨trivial, ⟨_, rfl, congrArg (U.i .i64) (by rw [if_pos (by omega)]; omega)⟩, trivial⟩
theorem szDataType_grp (u : U) : (wt (.st 8) u → PSz 158 u) := by
  refine U.ind (M := fun u => (wt (.st 8) u → PSz 158 u)) (fun u ih => ?_) u
  refine ?_
  · intro h
    obtain ⟨f0, f1, f2, rfl, p0, p1, p2⟩ := inv_DataType h
    exact szDataType_step p0 (szStringS_all p1) (szConstructorS_all p2)
theorem szDataType_all {u : U} (h : wt (.st 8) u) : PSz 158 u := (szDataType_grp u) h
theorem szDataTypeS_all {us : List U} (h : us.length ≤ big ∧ ∀ x ∈ us, wt (.st 8) x) : PSz 106 (.sl 3 us) := szDataTypeS_step h.1 (fun a ha => ⟨wt_isSt (h.2 a ha), by rw [wt_sz a _ (h.2 a ha)]; rfl⟩) (fun a ha => szDataType_all (h.2 a ha))
theorem szBound_step {f0 : List UInt8} {f1 : U} (h0 : f0.length ≤ big) (g1 : wt (.st 1) f1) (h1 : PSz 84 f1) : PSz 139 (.st [.s f0, f1]) := by
  intro left hl0 hl1
  have hW : W (.st [.s f0, f1]) = f0.length + (W f1 + 0) := rfl
  have hb0 : f0.length ≤ 140737488355328 := by rw [big_eq] at h0; exact h0
  obtain ⟨m1, hm1⟩ : ∃ m, W f1 = m := ⟨_, rfl⟩
  rw [hm1] at hW
  have h1 : ∀ l : Int, 0 ≤ l → l ≤ 4611686018427387904 → SpecP Tryz.prog 84 [.d f1, .d (.i .i64 l)] [.i .i64 (if (m1 : Int) ≤ l then l - m1 else -1)] := by rw [← hm1]; exact h1
  obtain ⟨e7_0, e7_1, e7_2, rfl, g7_0, g7_1, g7_2⟩ := inv_Type g1
  refine SpecP_intro Tryz.func139 rfl (by kernel_rfl) rfl fun A _ => ?_
  refine gGO ?_
  refine V_cond rfl (fun hc => ?_) (fun hc => ?_)
  · refine V_seq_region ?_
    refine gGO ?_
    refine V_ret ?_
    simp only [decide_eq_true_eq] at hc
    exact ⟨trivial, ⟨_, rfl, congrArg (U.i .i64) (by rw [if_neg (by omega)])⟩, trivial⟩
  refine V_skip ?_
  simp only [decide_eq_false_iff_not] at hc
  refine gGO ?_
  refine VO_q (Q_call rfl (h1 (left - (f0.length : Int)) (by omega) (by omega)) vA) rfl ?_
  refine gGO ?_
  refine V_cond rfl (fun hc => ?_) (fun hc => ?_)
  · refine V_seq_region ?_
    refine gGO ?_
    refine V_ret ?_
    simp only [decide_eq_true_eq] at hc
    exact ⟨trivial, ⟨_, rfl, congrArg (U.i .i64) (by split at hc <;> (rw [if_neg (by omega)]))⟩, trivial⟩
  refine V_skip ?_
  simp only [decide_eq_false_iff_not] at hc
  have hpos1 := hc
  have heq : ∀ (c : Prop) [Decidable c] (a : Int), ¬ (if c then a else -1) < 0 → (if c then a else -1) = a ∧ c := by
    intro c _ a h
    split at h
    · rename_i hc; exact ⟨if_pos hc, hc⟩
    · omega
  obtain ⟨e1, c1⟩ := heq _ _ hc
  rw [e1]
  clear heq hc
  refine gGO ?_
  refine V_ret ?_
  exact ⟨trivial, ⟨_, rfl, congrArg (U.i .i64) (by rw [if_pos (by omega)]; omega)⟩, trivial⟩
theorem szBoundS_step {us : List U} (hl : us.length ≤ big) (hz : ∀ a ∈ us, a.isSt = true ∧ a.sz = 4) (ih : ∀ a ∈ us, PSz 139 a) : PSz 82 (.sl 4 us) := by
  intro left hl0 hl1
  have hW : W (.sl 4 us) = us.length + Ws us := rfl
  have hb : (us.length : Int) ≤ 140737488355328 := by rw [big_eq] at hl; omega
  refine SpecP_intro Tryz.func82 rfl (by kernel_rfl) rfl fun A _ => ?_
  refine gGO ?_
  refine V_cond rfl (fun hc => ?_) (fun hc => ?_)
  · refine V_seq_region ?_
    refine gGO ?_
    refine V_ret ?_
    simp only [decide_eq_true_eq] at hc
    exact ⟨trivial, ⟨_, rfl, congrArg (U.i .i64) (by rw [if_neg (by omega)])⟩, trivial⟩
  refine V_skip ?_
  simp only [decide_eq_false_iff_not] at hc
  refine gGO ?_
  refine V_block ?_
  refine V_loop (α := Nat × Int)
    (fun x => ⟨[(0, .d (.sl 4 us)), (5, .d (.i .i64 x.1)), (1, .d (.i .i64 x.2))], [], Tryz.f82.ntmps⟩)
    (fun x => x.1 ≤ us.length ∧ 0 ≤ x.2 ∧ x.2 = left - us.length - Ws (us.take x.1))
    (fun x => us.length - x.1) (0, left - us.length) ⟨rfl, ⟨⟨rfl, rfl⟩, ⟨rfl, rfl⟩, ⟨rfl, rfl⟩, trivial⟩, ⟨[], rfl⟩, rfl⟩ ⟨by simp, by simp only; omega, by simp [Ws]⟩ ?_
  rintro ⟨k, l⟩ ⟨hk, hq0, hq1⟩
  simp only at hk hq0 hq1
  refine gGO ?_
  refine V_cond rfl (fun hc2 => ?_) (fun hc2 => ?_)
  · refine V_skip ?_
    simp only [decide_eq_true_eq] at hc2
    have hkl : k < us.length := by omega
    have hget : us[k]? = some us[k] := List.getElem?_eq_getElem hkl
    have hmem : us[k] ∈ us := List.getElem_mem hkl
    have htk := Ws_take_succ hget
    have hle := Ws_take_le us (k + 1)
    obtain ⟨hst, hsz⟩ := hz _ hmem
    refine V_seq (V_block (V_seq_region ?_))
    refine gGO ?_
    refine VO_q (Q_index rfl rfl TE.h TI.h (by omega) hget) rfl ?_
    refine VO_q (Q_load rfl TI.h hst hsz) rfl ?_
    refine gGO ?_
    refine VO_q (Q_call rfl (ih _ hmem l (by omega) (by omega)) vA) rfl ?_
    refine gGO ?_
    refine V_cond rfl (fun hc3 => ?_) (fun hc3 => ?_)
    · refine V_seq_region ?_
      refine gGO ?_
      refine V_ret ?_
      simp only [decide_eq_true_eq] at hc3
      exact ⟨trivial, ⟨_, rfl, congrArg (U.i .i64) (by
        rw [if_neg (by intro hle2; rw [if_pos (by omega)] at hc3; omega)])⟩, trivial⟩
    refine V_skip ?_
    simp only [decide_eq_false_iff_not] at hc3
    refine gGO ?_
    refine ⟨(k + 1, (if (W us[k] : Int) ≤ l then l - W us[k] else -1)), ?_, ?_, ⟨rfl, ⟨⟨rfl, rfl⟩, ⟨rfl, rfl⟩, ⟨rfl, rfl⟩, trivial⟩, ⟨[], rfl⟩, rfl⟩⟩
    · simp only
      refine ⟨by omega, by omega, ?_⟩
      rw [if_pos (by apply Classical.byContradiction; intro hn; rw [if_neg hn] at hc3; omega)]
      omega
    · simp only
      omega
  · refine V_exit ?_
    simp only [decide_eq_false_iff_not] at hc2
    have hkl : k = us.length := by omega
    subst hkl
    rw [List.take_length] at hq1
    show V _ _ _ _ _
    refine gGO ?_
    refine V_ret ?_
    exact ⟨trivial, ⟨_, rfl, congrArg (U.i .i64) (by rw [if_pos (by omega)]; omega)⟩, trivial⟩
theorem szBound_grp (u : U) : (wt (.st 9) u → PSz 139 u) := by
  refine U.ind (M := fun u => (wt (.st 9) u → PSz 139 u)) (fun u ih => ?_) u
  refine ?_
  · intro h
    obtain ⟨f0, f1, rfl, p0, p1⟩ := inv_Bound h
    exact szBound_step p0 p1 (szType_all p1)
theorem szBound_all {u : U} (h : wt (.st 9) u) : PSz 139 u := (szBound_grp u) h
theorem szBoundS_all {us : List U} (h : us.length ≤ big ∧ ∀ x ∈ us, wt (.st 9) x) : PSz 82 (.sl 4 us) := szBoundS_step h.1 (fun a ha => ⟨wt_isSt (h.2 a ha), by rw [wt_sz a _ (h.2 a ha)]; rfl⟩) (fun a ha => szBound_all (h.2 a ha))
theorem szMethod_step {f0 : List UInt8} {f1 : List U} {f2 : U} (h0 : f0.length ≤ big) (h1 : PSz 81 (.sl 1 f1)) (g2 : wt (.st 4) f2) (h2 : PSz 187 f2) : PSz 199 (.st [.s f0, .sl 1 f1, f2]) := by
  intro left hl0 hl1
  have hW : W (.st [.s f0, .sl 1 f1, f2]) = f0.length + (W (U.sl 1 f1) + (W f2 + 0)) := rfl
  have hb0 : f0.length ≤ 140737488355328 := by rw [big_eq] at h0; exact h0
  obtain ⟨m2, hm2⟩ : ∃ m, W f2 = m := ⟨_, rfl⟩
  rw [hm2] at hW
  have h2 : ∀ l : Int, 0 ≤ l → l ≤ 4611686018427387904 → SpecP Tryz.prog 187 [.d f2, .d (.i .i64 l)] [.i .i64 (if (m2 : Int) ≤ l then l - m2 else -1)] := by rw [← hm2]; exact h2
  obtain ⟨e8_0, e8_1, e8_2, e8_3, e8_4, e8_5, e8_6, rfl, g8_0, g8_1, g8_2, g8_3, g8_4, g8_5, g8_6⟩ := inv_Expr g2
  obtain ⟨e9_0, e9_1, e9_2, rfl, g9_0, g9_1, g9_2⟩ := inv_Type g8_4
  refine SpecP_intro Tryz.func199 rfl (by kernel_rfl) rfl fun A _ => ?_
  refine gGO ?_
  refine V_cond rfl (fun hc => ?_) (fun hc => ?_)
  · refine V_seq_region ?_
    refine gGO ?_
    refine V_ret ?_
    simp only [decide_eq_true_eq] at hc
    exact ⟨trivial, ⟨_, rfl, congrArg (U.i .i64) (by rw [if_neg (by omega)])⟩, trivial⟩
  refine V_skip ?_
  simp only [decide_eq_false_iff_not] at hc
  refine gGO ?_
  refine VO_q (Q_call rfl (h1 (left - (f0.length : Int)) (by omega) (by omega)) vA) rfl ?_
  refine gGO ?_
  refine V_cond rfl (fun hc => ?_) (fun hc => ?_)
  · refine V_seq_region ?_
    refine gGO ?_
    refine V_ret ?_
    simp only [decide_eq_true_eq] at hc
    exact ⟨trivial, ⟨_, rfl, congrArg (U.i .i64) (by split at hc <;> (rw [if_neg (by omega)]))⟩, trivial⟩
  refine V_skip ?_
  simp only [decide_eq_false_iff_not] at hc
  have hpos1 := hc
  have heq : ∀ (c : Prop) [Decidable c] (a : Int), ¬ (if c then a else -1) < 0 → (if c then a else -1) = a ∧ c := by
    intro c _ a h
    split at h
    · rename_i hc; exact ⟨if_pos hc, hc⟩
    · omega
  obtain ⟨e1, c1⟩ := heq _ _ hc
  rw [e1]
  clear heq hc
  refine gGO ?_
  refine VO_q (Q_call rfl (h2 ((left - (f0.length : Int)) - (W (U.sl 1 f1) : Int)) (by omega) (by omega)) vA) rfl ?_
  refine gGO ?_
  refine V_cond rfl (fun hc => ?_) (fun hc => ?_)
  · refine V_seq_region ?_
    refine gGO ?_
    refine V_ret ?_
    simp only [decide_eq_true_eq] at hc
    exact ⟨trivial, ⟨_, rfl, congrArg (U.i .i64) (by split at hc <;> (rw [if_neg (by omega)]))⟩, trivial⟩
  refine V_skip ?_
  simp only [decide_eq_false_iff_not] at hc
  have hpos2 := hc
  have heq : ∀ (c : Prop) [Decidable c] (a : Int), ¬ (if c then a else -1) < 0 → (if c then a else -1) = a ∧ c := by
    intro c _ a h
    split at h
    · rename_i hc; exact ⟨if_pos hc, hc⟩
    · omega
  obtain ⟨e2, c2⟩ := heq _ _ hc
  rw [e2]
  clear heq hc
  refine gGO ?_
  refine V_ret ?_
  exact ⟨trivial, ⟨_, rfl, congrArg (U.i .i64) (by rw [if_pos (by omega)]; omega)⟩, trivial⟩
theorem szMethodS_step {us : List U} (hl : us.length ≤ big) (hz : ∀ a ∈ us, a.isSt = true ∧ a.sz = 11) (ih : ∀ a ∈ us, PSz 199 a) : PSz 186 (.sl 11 us) := by
  intro left hl0 hl1
  have hW : W (.sl 11 us) = us.length + Ws us := rfl
  have hb : (us.length : Int) ≤ 140737488355328 := by rw [big_eq] at hl; omega
  refine SpecP_intro Tryz.func186 rfl (by kernel_rfl) rfl fun A _ => ?_
  refine gGO ?_
  refine V_cond rfl (fun hc => ?_) (fun hc => ?_)
  · refine V_seq_region ?_
    refine gGO ?_
    refine V_ret ?_
    simp only [decide_eq_true_eq] at hc
    exact ⟨trivial, ⟨_, rfl, congrArg (U.i .i64) (by rw [if_neg (by omega)])⟩, trivial⟩
  refine V_skip ?_
  simp only [decide_eq_false_iff_not] at hc
  refine gGO ?_
  refine V_block ?_
  refine V_loop (α := Nat × Int)
    (fun x => ⟨[(0, .d (.sl 11 us)), (5, .d (.i .i64 x.1)), (1, .d (.i .i64 x.2))], [], Tryz.f186.ntmps⟩)
    (fun x => x.1 ≤ us.length ∧ 0 ≤ x.2 ∧ x.2 = left - us.length - Ws (us.take x.1))
    (fun x => us.length - x.1) (0, left - us.length) ⟨rfl, ⟨⟨rfl, rfl⟩, ⟨rfl, rfl⟩, ⟨rfl, rfl⟩, trivial⟩, ⟨[], rfl⟩, rfl⟩ ⟨by simp, by simp only; omega, by simp [Ws]⟩ ?_
  rintro ⟨k, l⟩ ⟨hk, hq0, hq1⟩
  simp only at hk hq0 hq1
  refine gGO ?_
  refine V_cond rfl (fun hc2 => ?_) (fun hc2 => ?_)
  · refine V_skip ?_
    simp only [decide_eq_true_eq] at hc2
    have hkl : k < us.length := by omega
    have hget : us[k]? = some us[k] := List.getElem?_eq_getElem hkl
    have hmem : us[k] ∈ us := List.getElem_mem hkl
    have htk := Ws_take_succ hget
    have hle := Ws_take_le us (k + 1)
    obtain ⟨hst, hsz⟩ := hz _ hmem
    refine V_seq (V_block (V_seq_region ?_))
    refine gGO ?_
    refine VO_q (Q_index rfl rfl TE.h TI.h (by omega) hget) rfl ?_
    refine VO_q (Q_load rfl TI.h hst hsz) rfl ?_
    refine gGO ?_
    refine VO_q (Q_call rfl (ih _ hmem l (by omega) (by omega)) vA) rfl ?_
    refine gGO ?_
    refine V_cond rfl (fun hc3 => ?_) (fun hc3 => ?_)
    · refine V_seq_region ?_
      refine gGO ?_
      refine V_ret ?_
      simp only [decide_eq_true_eq] at hc3
      exact ⟨trivial, ⟨_, rfl, congrArg (U.i .i64) (by
        rw [if_neg (by intro hle2; rw [if_pos (by omega)] at hc3; omega)])⟩, trivial⟩
    refine V_skip ?_
    simp only [decide_eq_false_iff_not] at hc3
    refine gGO ?_
    refine ⟨(k + 1, (if (W us[k] : Int) ≤ l then l - W us[k] else -1)), ?_, ?_, ⟨rfl, ⟨⟨rfl, rfl⟩, ⟨rfl, rfl⟩, ⟨rfl, rfl⟩, trivial⟩, ⟨[], rfl⟩, rfl⟩⟩
    · simp only
      refine ⟨by omega, by omega, ?_⟩
      rw [if_pos (by apply Classical.byContradiction; intro hn; rw [if_neg hn] at hc3; omega)]
      omega
    · simp only
      omega
  · refine V_exit ?_
    simp only [decide_eq_false_iff_not] at hc2
    have hkl : k = us.length := by omega
    subst hkl
    rw [List.take_length] at hq1
    show V _ _ _ _ _
    refine gGO ?_
    refine V_ret ?_
    exact ⟨trivial, ⟨_, rfl, congrArg (U.i .i64) (by rw [if_pos (by omega)]; omega)⟩, trivial⟩
theorem szMethod_grp (u : U) : (wt (.st 10) u → PSz 199 u) := by
  refine U.ind (M := fun u => (wt (.st 10) u → PSz 199 u)) (fun u ih => ?_) u
  refine ?_
  · intro h
    obtain ⟨f0, f1, f2, rfl, p0, p1, p2⟩ := inv_Method h
    exact szMethod_step p0 (szStringS_all p1) p2 (szExpr_all p2)
theorem szMethod_all {u : U} (h : wt (.st 10) u) : PSz 199 u := (szMethod_grp u) h
theorem szMethodS_all {us : List U} (h : us.length ≤ big ∧ ∀ x ∈ us, wt (.st 10) x) : PSz 186 (.sl 11 us) := szMethodS_step h.1 (fun a ha => ⟨wt_isSt (h.2 a ha), by rw [wt_sz a _ (h.2 a ha)]; rfl⟩) (fun a ha => szMethod_all (h.2 a ha))
theorem szInstance_step {f0 : List UInt8} {f1 : List U} {f2 : U} {f3 : List U} {f4 : Bool} {f5 : Bool} {f6 : U} {f7 : List U} (h0 : f0.length ≤ big) (h1 : PSz 81 (.sl 1 f1)) (g2 : wt (.st 1) f2) (h2 : PSz 84 f2) (h3 : PSz 82 (.sl 4 f3)) (g6 : wt (.st 1) f6) (h6 : PSz 84 f6) (h7 : PSz 186 (.sl 11 f7)) : PSz 159 (.st [.s f0, .sl 1 f1, f2, .sl 4 f3, .b f4, .b f5, f6, .sl 11 f7]) := by
  intro left hl0 hl1
  have hW : W (.st [.s f0, .sl 1 f1, f2, .sl 4 f3, .b f4, .b f5, f6, .sl 11 f7]) = f0.length + (W (U.sl 1 f1) + (W f2 + (W (U.sl 4 f3) + (0 + (0 + (W f6 + (W (U.sl 11 f7) + 0))))))) := rfl
  have hb0 : f0.length ≤ 140737488355328 := by rw [big_eq] at h0; exact h0
  obtain ⟨m2, hm2⟩ : ∃ m, W f2 = m := ⟨_, rfl⟩
  rw [hm2] at hW
  have h2 : ∀ l : Int, 0 ≤ l → l ≤ 4611686018427387904 → SpecP Tryz.prog 84 [.d f2, .d (.i .i64 l)] [.i .i64 (if (m2 : Int) ≤ l then l - m2 else -1)] := by rw [← hm2]; exact h2
  obtain ⟨e10_0, e10_1, e10_2, rfl, g10_0, g10_1, g10_2⟩ := inv_Type g2
  obtain ⟨m6, hm6⟩ : ∃ m, W f6 = m := ⟨_, rfl⟩
  rw [hm6] at hW
  have h6 : ∀ l : Int, 0 ≤ l → l ≤ 4611686018427387904 → SpecP Tryz.prog 84 [.d f6, .d (.i .i64 l)] [.i .i64 (if (m6 : Int) ≤ l then l - m6 else -1)] := by rw [← hm6]; exact h6
  obtain ⟨e11_0, e11_1, e11_2, rfl, g11_0, g11_1, g11_2⟩ := inv_Type g6
  refine SpecP_intro Tryz.func159 rfl (by kernel_rfl) rfl fun A _ => ?_
  refine gGO ?_
  refine V_cond rfl (fun hc => ?_) (fun hc => ?_)
  · refine V_seq_region ?_
    refine gGO ?_
    refine V_ret ?_
    simp only [decide_eq_true_eq] at hc
    exact ⟨trivial, ⟨_, rfl, congrArg (U.i .i64) (by rw [if_neg (by omega)])⟩, trivial⟩
  refine V_skip ?_
  simp only [decide_eq_false_iff_not] at hc
  refine gGO ?_
  refine VO_q (Q_call rfl (h1 (left - (f0.length : Int)) (by omega) (by omega)) vA) rfl ?_
  refine gGO ?_
  refine V_cond rfl (fun hc => ?_) (fun hc => ?_)
  · refine V_seq_region ?_
    refine gGO ?_
    refine V_ret ?_
    simp only [decide_eq_true_eq] at hc
    exact ⟨trivial, ⟨_, rfl, congrArg (U.i .i64) (by split at hc <;> (rw [if_neg (by omega)]))⟩, trivial⟩
  refine V_skip ?_
  simp only [decide_eq_false_iff_not] at hc
  have hpos1 := hc
  have heq : ∀ (c : Prop) [Decidable c] (a : Int), ¬ (if c then a else -1) < 0 → (if c then a else -1) = a ∧ c := by
    intro c _ a h
    split at h
    · rename_i hc; exact ⟨if_pos hc, hc⟩
    · omega
  obtain ⟨e1, c1⟩ := heq _ _ hc
  rw [e1]
  clear heq hc
  refine gGO ?_
  refine VO_q (Q_call rfl (h2 ((left - (f0.length : Int)) - (W (U.sl 1 f1) : Int)) (by omega) (by omega)) vA) rfl ?_
  refine gGO ?_
  refine V_cond rfl (fun hc => ?_) (fun hc => ?_)
  · refine V_seq_region ?_
    refine gGO ?_
    refine V_ret ?_
    simp only [decide_eq_true_eq] at hc
    exact ⟨trivial, ⟨_, rfl, congrArg (U.i .i64) (by split at hc <;> (rw [if_neg (by omega)]))⟩, trivial⟩
  refine V_skip ?_
  simp only [decide_eq_false_iff_not] at hc
  have hpos2 := hc
  have heq : ∀ (c : Prop) [Decidable c] (a : Int), ¬ (if c then a else -1) < 0 → (if c then a else -1) = a ∧ c := by
    intro c _ a h
    split at h
    · rename_i hc; exact ⟨if_pos hc, hc⟩
    · omega
  obtain ⟨e2, c2⟩ := heq _ _ hc
  rw [e2]
  clear heq hc
  refine gGO ?_
  refine VO_q (Q_call rfl (h3 (((left - (f0.length : Int)) - (W (U.sl 1 f1) : Int)) - (m2 : Int)) (by omega) (by omega)) vA) rfl ?_
  refine gGO ?_
  refine V_cond rfl (fun hc => ?_) (fun hc => ?_)
  · refine V_seq_region ?_
    refine gGO ?_
    refine V_ret ?_
    simp only [decide_eq_true_eq] at hc
    exact ⟨trivial, ⟨_, rfl, congrArg (U.i .i64) (by split at hc <;> (rw [if_neg (by omega)]))⟩, trivial⟩
  refine V_skip ?_
  simp only [decide_eq_false_iff_not] at hc
  have hpos3 := hc
  have heq : ∀ (c : Prop) [Decidable c] (a : Int), ¬ (if c then a else -1) < 0 → (if c then a else -1) = a ∧ c := by
    intro c _ a h
    split at h
    · rename_i hc; exact ⟨if_pos hc, hc⟩
    · omega
  obtain ⟨e3, c3⟩ := heq _ _ hc
  rw [e3]
  clear heq hc
  refine gGO ?_
  refine VO_q (Q_call rfl (h6 ((((left - (f0.length : Int)) - (W (U.sl 1 f1) : Int)) - (m2 : Int)) - (W (U.sl 4 f3) : Int)) (by omega) (by omega)) vA) rfl ?_
  refine gGO ?_
  refine V_cond rfl (fun hc => ?_) (fun hc => ?_)
  · refine V_seq_region ?_
    refine gGO ?_
    refine V_ret ?_
    simp only [decide_eq_true_eq] at hc
    exact ⟨trivial, ⟨_, rfl, congrArg (U.i .i64) (by split at hc <;> (rw [if_neg (by omega)]))⟩, trivial⟩
  refine V_skip ?_
  simp only [decide_eq_false_iff_not] at hc
  have hpos6 := hc
  have heq : ∀ (c : Prop) [Decidable c] (a : Int), ¬ (if c then a else -1) < 0 → (if c then a else -1) = a ∧ c := by
    intro c _ a h
    split at h
    · rename_i hc; exact ⟨if_pos hc, hc⟩
    · omega
  obtain ⟨e6, c6⟩ := heq _ _ hc
  rw [e6]
  clear heq hc
  refine gGO ?_
  refine VO_q (Q_call rfl (h7 (((((left - (f0.length : Int)) - (W (U.sl 1 f1) : Int)) - (m2 : Int)) - (W (U.sl 4 f3) : Int)) - (m6 : Int)) (by omega) (by omega)) vA) rfl ?_
  refine gGO ?_
  refine V_cond rfl (fun hc => ?_) (fun hc => ?_)
  · refine V_seq_region ?_
    refine gGO ?_
    refine V_ret ?_
    simp only [decide_eq_true_eq] at hc
    exact ⟨trivial, ⟨_, rfl, congrArg (U.i .i64) (by split at hc <;> (rw [if_neg (by omega)]))⟩, trivial⟩
  refine V_skip ?_
  simp only [decide_eq_false_iff_not] at hc
  have hpos7 := hc
  have heq : ∀ (c : Prop) [Decidable c] (a : Int), ¬ (if c then a else -1) < 0 → (if c then a else -1) = a ∧ c := by
    intro c _ a h
    split at h
    · rename_i hc; exact ⟨if_pos hc, hc⟩
    · omega
  obtain ⟨e7, c7⟩ := heq _ _ hc
  rw [e7]
  clear heq hc
  refine gGO ?_
  refine V_ret ?_
  exact ⟨trivial, ⟨_, rfl, congrArg (U.i .i64) (by rw [if_pos (by omega)]; omega)⟩, trivial⟩
theorem szInstanceS_step {us : List U} (hl : us.length ≤ big) (hz : ∀ a ∈ us, a.isSt = true ∧ a.sz = 12) (ih : ∀ a ∈ us, PSz 159 a) : PSz 107 (.sl 12 us) := by
  intro left hl0 hl1
  have hW : W (.sl 12 us) = us.length + Ws us := rfl
  have hb : (us.length : Int) ≤ 140737488355328 := by rw [big_eq] at hl; omega
  refine SpecP_intro Tryz.func107 rfl (by kernel_rfl) rfl fun A _ => ?_
  refine gGO ?_
  refine V_cond rfl (fun hc => ?_) (fun hc => ?_)
  · refine V_seq_region ?_
    refine gGO ?_
    refine V_ret ?_
    simp only [decide_eq_true_eq] at hc
    exact ⟨trivial, ⟨_, rfl, congrArg (U.i .i64) (by rw [if_neg (by omega)])⟩, trivial⟩
  refine V_skip ?_
  simp only [decide_eq_false_iff_not] at hc
  refine gGO ?_
  refine V_block ?_
  refine V_loop (α := Nat × Int)
    (fun x => ⟨[(0, .d (.sl 12 us)), (5, .d (.i .i64 x.1)), (1, .d (.i .i64 x.2))], [], Tryz.f107.ntmps⟩)
    (fun x => x.1 ≤ us.length ∧ 0 ≤ x.2 ∧ x.2 = left - us.length - Ws (us.take x.1))
    (fun x => us.length - x.1) (0, left - us.length) ⟨rfl, ⟨⟨rfl, rfl⟩, ⟨rfl, rfl⟩, ⟨rfl, rfl⟩, trivial⟩, ⟨[], rfl⟩, rfl⟩ ⟨by simp, by simp only; omega, by simp [Ws]⟩ ?_
  rintro ⟨k, l⟩ ⟨hk, hq0, hq1⟩
  simp only at hk hq0 hq1
  refine gGO ?_
  refine V_cond rfl (fun hc2 => ?_) (fun hc2 => ?_)
  · refine V_skip ?_
    simp only [decide_eq_true_eq] at hc2
    have hkl : k < us.length := by omega
    have hget : us[k]? = some us[k] := List.getElem?_eq_getElem hkl
    have hmem : us[k] ∈ us := List.getElem_mem hkl
    have htk := Ws_take_succ hget
    have hle := Ws_take_le us (k + 1)
    obtain ⟨hst, hsz⟩ := hz _ hmem
    refine V_seq (V_block (V_seq_region ?_))
    refine gGO ?_
    refine VO_q (Q_index rfl rfl TE.h TI.h (by omega) hget) rfl ?_
    refine VO_q (Q_load rfl TI.h hst hsz) rfl ?_
    refine gGO ?_
    refine VO_q (Q_call rfl (ih _ hmem l (by omega) (by omega)) vA) rfl ?_
    refine gGO ?_
    refine V_cond rfl (fun hc3 => ?_) (fun hc3 => ?_)
    · refine V_seq_region ?_
      refine gGO ?_
      refine V_ret ?_
      simp only [decide_eq_true_eq] at hc3
      exact ⟨trivial, ⟨_, rfl, congrArg (U.i .i64) (by
        rw [if_neg (by intro hle2; rw [if_pos (by omega)] at hc3; omega)])⟩, trivial⟩
    refine V_skip ?_
    simp only [decide_eq_false_iff_not] at hc3
    refine gGO ?_
    refine ⟨(k + 1, (if (W us[k] : Int) ≤ l then l - W us[k] else -1)), ?_, ?_, ⟨rfl, ⟨⟨rfl, rfl⟩, ⟨rfl, rfl⟩, ⟨rfl, rfl⟩, trivial⟩, ⟨[], rfl⟩, rfl⟩⟩
    · simp only
      refine ⟨by omega, by omega, ?_⟩
      rw [if_pos (by apply Classical.byContradiction; intro hn; rw [if_neg hn] at hc3; omega)]
      omega
    · simp only
      omega
  · refine V_exit ?_
    simp only [decide_eq_false_iff_not] at hc2
    have hkl : k = us.length := by omega
    subst hkl
    rw [List.take_length] at hq1
    show V _ _ _ _ _
    refine gGO ?_
    refine V_ret ?_
    exact ⟨trivial, ⟨_, rfl, congrArg (U.i .i64) (by rw [if_pos (by omega)]; omega)⟩, trivial⟩
theorem szInstance_grp (u : U) : (wt (.st 11) u → PSz 159 u) := by
  refine U.ind (M := fun u => (wt (.st 11) u → PSz 159 u)) (fun u ih => ?_) u
  refine ?_
  · intro h
    obtain ⟨f0, f1, f2, f3, f4, f5, f6, f7, rfl, p0, p1, p2, p3, p6, p7⟩ := inv_Instance h
    exact szInstance_step p0 (szStringS_all p1) p2 (szType_all p2) (szBoundS_all p3) p6 (szType_all p6) (szMethodS_all p7)
theorem szInstance_all {u : U} (h : wt (.st 11) u) : PSz 159 u := (szInstance_grp u) h
theorem szInstanceS_all {us : List U} (h : us.length ≤ big ∧ ∀ x ∈ us, wt (.st 11) x) : PSz 107 (.sl 12 us) := szInstanceS_step h.1 (fun a ha => ⟨wt_isSt (h.2 a ha), by rw [wt_sz a _ (h.2 a ha)]; rfl⟩) (fun a ha => szInstance_all (h.2 a ha))
theorem szParam_step {f0 : List UInt8} {f1 : U} (h0 : f0.length ≤ big) (g1 : wt (.st 1) f1) (h1 : PSz 84 f1) : PSz 140 (.st [.s f0, f1]) := by
  intro left hl0 hl1
  have hW : W (.st [.s f0, f1]) = f0.length + (W f1 + 0) := rfl
  have hb0 : f0.length ≤ 140737488355328 := by rw [big_eq] at h0; exact h0
  obtain ⟨m1, hm1⟩ : ∃ m, W f1 = m := ⟨_, rfl⟩
  rw [hm1] at hW
  have h1 : ∀ l : Int, 0 ≤ l → l ≤ 4611686018427387904 → SpecP Tryz.prog 84 [.d f1, .d (.i .i64 l)] [.i .i64 (if (m1 : Int) ≤ l then l - m1 else -1)] := by rw [← hm1]; exact h1
  obtain ⟨e12_0, e12_1, e12_2, rfl, g12_0, g12_1, g12_2⟩ := inv_Type g1
  refine SpecP_intro Tryz.func140 rfl (by kernel_rfl) rfl fun A _ => ?_
  refine gGO ?_
  refine V_cond rfl (fun hc => ?_) (fun hc => ?_)
  · refine V_seq_region ?_
    refine gGO ?_
    refine V_ret ?_
    simp only [decide_eq_true_eq] at hc
    exact ⟨trivial, ⟨_, rfl, congrArg (U.i .i64) (by rw [if_neg (by omega)])⟩, trivial⟩
  refine V_skip ?_
  simp only [decide_eq_false_iff_not] at hc
  refine gGO ?_
  refine VO_q (Q_call rfl (h1 (left - (f0.length : Int)) (by omega) (by omega)) vA) rfl ?_
  refine gGO ?_
  refine V_cond rfl (fun hc => ?_) (fun hc => ?_)
  · refine V_seq_region ?_
    refine gGO ?_
    refine V_ret ?_
    simp only [decide_eq_true_eq] at hc
    exact ⟨trivial, ⟨_, rfl, congrArg (U.i .i64) (by split at hc <;> (rw [if_neg (by omega)]))⟩, trivial⟩
  refine V_skip ?_
  simp only [decide_eq_false_iff_not] at hc
  have hpos1 := hc
  have heq : ∀ (c : Prop) [Decidable c] (a : Int), ¬ (if c then a else -1) < 0 → (if c then a else -1) = a ∧ c := by
    intro c _ a h
    split at h
    · rename_i hc; exact ⟨if_pos hc, hc⟩
    · omega
  obtain ⟨e1, c1⟩ := heq _ _ hc
  rw [e1]
  clear heq hc
  refine gGO ?_
  refine V_ret ?_
  exact ⟨trivial, ⟨_, rfl, congrArg (U.i .i64) (by rw [if_pos (by omega)]; omega)⟩, trivial⟩
theorem szParamS_step {us : List U} (hl : us.length ≤ big) (hz : ∀ a ∈ us, a.isSt = true ∧ a.sz = 4) (ih : ∀ a ∈ us, PSz 140 a) : PSz 83 (.sl 4 us) := by
  intro left hl0 hl1
  have hW : W (.sl 4 us) = us.length + Ws us := rfl
  have hb : (us.length : Int) ≤ 140737488355328 := by rw [big_eq] at hl; omega
  refine SpecP_intro Tryz.func83 rfl (by kernel_rfl) rfl fun A _ => ?_
  refine gGO ?_
  refine V_cond rfl (fun hc => ?_) (fun hc => ?_)
  · refine V_seq_region ?_
    refine gGO ?_
    refine V_ret ?_
    simp only [decide_eq_true_eq] at hc
    exact ⟨trivial, ⟨_, rfl, congrArg (U.i .i64) (by rw [if_neg (by omega)])⟩, trivial⟩
  refine V_skip ?_
  simp only [decide_eq_false_iff_not] at hc
  refine gGO ?_
  refine V_block ?_
  refine V_loop (α := Nat × Int)
    (fun x => ⟨[(0, .d (.sl 4 us)), (5, .d (.i .i64 x.1)), (1, .d (.i .i64 x.2))], [], Tryz.f83.ntmps⟩)
    (fun x => x.1 ≤ us.length ∧ 0 ≤ x.2 ∧ x.2 = left - us.length - Ws (us.take x.1))
    (fun x => us.length - x.1) (0, left - us.length) ⟨rfl, ⟨⟨rfl, rfl⟩, ⟨rfl, rfl⟩, ⟨rfl, rfl⟩, trivial⟩, ⟨[], rfl⟩, rfl⟩ ⟨by simp, by simp only; omega, by simp [Ws]⟩ ?_
  rintro ⟨k, l⟩ ⟨hk, hq0, hq1⟩
  simp only at hk hq0 hq1
  refine gGO ?_
  refine V_cond rfl (fun hc2 => ?_) (fun hc2 => ?_)
  · refine V_skip ?_
    simp only [decide_eq_true_eq] at hc2
    have hkl : k < us.length := by omega
    have hget : us[k]? = some us[k] := List.getElem?_eq_getElem hkl
    have hmem : us[k] ∈ us := List.getElem_mem hkl
    have htk := Ws_take_succ hget
    have hle := Ws_take_le us (k + 1)
    obtain ⟨hst, hsz⟩ := hz _ hmem
    refine V_seq (V_block (V_seq_region ?_))
    refine gGO ?_
    refine VO_q (Q_index rfl rfl TE.h TI.h (by omega) hget) rfl ?_
    refine VO_q (Q_load rfl TI.h hst hsz) rfl ?_
    refine gGO ?_
    refine VO_q (Q_call rfl (ih _ hmem l (by omega) (by omega)) vA) rfl ?_
    refine gGO ?_
    refine V_cond rfl (fun hc3 => ?_) (fun hc3 => ?_)
    · refine V_seq_region ?_
      refine gGO ?_
      refine V_ret ?_
      simp only [decide_eq_true_eq] at hc3
      exact ⟨trivial, ⟨_, rfl, congrArg (U.i .i64) (by
        rw [if_neg (by intro hle2; rw [if_pos (by omega)] at hc3; omega)])⟩, trivial⟩
    refine V_skip ?_
    simp only [decide_eq_false_iff_not] at hc3
    refine gGO ?_
    refine ⟨(k + 1, (if (W us[k] : Int) ≤ l then l - W us[k] else -1)), ?_, ?_, ⟨rfl, ⟨⟨rfl, rfl⟩, ⟨rfl, rfl⟩, ⟨rfl, rfl⟩, trivial⟩, ⟨[], rfl⟩, rfl⟩⟩
    · simp only
      refine ⟨by omega, by omega, ?_⟩
      rw [if_pos (by apply Classical.byContradiction; intro hn; rw [if_neg hn] at hc3; omega)]
      omega
    · simp only
      omega
  · refine V_exit ?_
    simp only [decide_eq_false_iff_not] at hc2
    have hkl : k = us.length := by omega
    subst hkl
    rw [List.take_length] at hq1
    show V _ _ _ _ _
    refine gGO ?_
    refine V_ret ?_
    exact ⟨trivial, ⟨_, rfl, congrArg (U.i .i64) (by rw [if_pos (by omega)]; omega)⟩, trivial⟩
theorem szParam_grp (u : U) : (wt (.st 12) u → PSz 140 u) := by
  refine U.ind (M := fun u => (wt (.st 12) u → PSz 140 u)) (fun u ih => ?_) u
  refine ?_
  · intro h
    obtain ⟨f0, f1, rfl, p0, p1⟩ := inv_Param h
    exact szParam_step p0 p1 (szType_all p1)
theorem szParam_all {u : U} (h : wt (.st 12) u) : PSz 140 u := (szParam_grp u) h
theorem szParamS_all {us : List U} (h : us.length ≤ big ∧ ∀ x ∈ us, wt (.st 12) x) : PSz 83 (.sl 4 us) := szParamS_step h.1 (fun a ha => ⟨wt_isSt (h.2 a ha), by rw [wt_sz a _ (h.2 a ha)]; rfl⟩) (fun a ha => szParam_all (h.2 a ha))
theorem szFunction_step {f0 : List UInt8} {f1 : List U} {f2 : List U} {f3 : List U} {f4 : U} {f5 : U} (h0 : f0.length ≤ big) (h1 : PSz 81 (.sl 1 f1)) (h2 : PSz 82 (.sl 4 f2)) (h3 : PSz 83 (.sl 4 f3)) (g4 : wt (.st 1) f4) (h4 : PSz 84 f4) (g5 : wt (.st 4) f5) (h5 : PSz 187 f5) : PSz 160 (.st [.s f0, .sl 1 f1, .sl 4 f2, .sl 4 f3, f4, f5]) := by
  intro left hl0 hl1
  have hW : W (.st [.s f0, .sl 1 f1, .sl 4 f2, .sl 4 f3, f4, f5]) = f0.length + (W (U.sl 1 f1) + (W (U.sl 4 f2) + (W (U.sl 4 f3) + (W f4 + (W f5 + 0))))) := rfl
  have hb0 : f0.length ≤ 140737488355328 := by rw [big_eq] at h0; exact h0
  obtain ⟨m4, hm4⟩ : ∃ m, W f4 = m := ⟨_, rfl⟩
  rw [hm4] at hW
  have h4 : ∀ l : Int, 0 ≤ l → l ≤ 4611686018427387904 → SpecP Tryz.prog 84 [.d f4, .d (.i .i64 l)] [.i .i64 (if (m4 : Int) ≤ l then l - m4 else -1)] := by rw [← hm4]; exact h4
  obtain ⟨e13_0, e13_1, e13_2, rfl, g13_0, g13_1, g13_2⟩ := inv_Type g4
  obtain ⟨m5, hm5⟩ : ∃ m, W f5 = m := ⟨_, rfl⟩
  rw [hm5] at hW
  have h5 : ∀ l : Int, 0 ≤ l → l ≤ 4611686018427387904 → SpecP Tryz.prog 187 [.d f5, .d (.i .i64 l)] [.i .i64 (if (m5 : Int) ≤ l then l - m5 else -1)] := by rw [← hm5]; exact h5
  obtain ⟨e14_0, e14_1, e14_2, e14_3, e14_4, e14_5, e14_6, rfl, g14_0, g14_1, g14_2, g14_3, g14_4, g14_5, g14_6⟩ := inv_Expr g5
  obtain ⟨e15_0, e15_1, e15_2, rfl, g15_0, g15_1, g15_2⟩ := inv_Type g14_4
  refine SpecP_intro Tryz.func160 rfl (by kernel_rfl) rfl fun A _ => ?_
  refine gGO ?_
  refine V_cond rfl (fun hc => ?_) (fun hc => ?_)
  · refine V_seq_region ?_
    refine gGO ?_
    refine V_ret ?_
    simp only [decide_eq_true_eq] at hc
    exact ⟨trivial, ⟨_, rfl, congrArg (U.i .i64) (by rw [if_neg (by omega)])⟩, trivial⟩
  refine V_skip ?_
  simp only [decide_eq_false_iff_not] at hc
  refine gGO ?_
  refine VO_q (Q_call rfl (h1 (left - (f0.length : Int)) (by omega) (by omega)) vA) rfl ?_
  refine gGO ?_
  refine V_cond rfl (fun hc => ?_) (fun hc => ?_)
  · refine V_seq_region ?_
    refine gGO ?_
    refine V_ret ?_
    simp only [decide_eq_true_eq] at hc
    exact ⟨trivial, ⟨_, rfl, congrArg (U.i .i64) (by split at hc <;> (rw [if_neg (by omega)]))⟩, trivial⟩
  refine V_skip ?_
  simp only [decide_eq_false_iff_not] at hc
  have hpos1 := hc
  have heq : ∀ (c : Prop) [Decidable c] (a : Int), ¬ (if c then a else -1) < 0 → (if c then a else -1) = a ∧ c := by
    intro c _ a h
    split at h
    · rename_i hc; exact ⟨if_pos hc, hc⟩
    · omega
  obtain ⟨e1, c1⟩ := heq _ _ hc
  rw [e1]
  clear heq hc
  refine gGO ?_
  refine VO_q (Q_call rfl (h2 ((left - (f0.length : Int)) - (W (U.sl 1 f1) : Int)) (by omega) (by omega)) vA) rfl ?_
  refine gGO ?_
  refine V_cond rfl (fun hc => ?_) (fun hc => ?_)
  · refine V_seq_region ?_
    refine gGO ?_
    refine V_ret ?_
    simp only [decide_eq_true_eq] at hc
    exact ⟨trivial, ⟨_, rfl, congrArg (U.i .i64) (by split at hc <;> (rw [if_neg (by omega)]))⟩, trivial⟩
  refine V_skip ?_
  simp only [decide_eq_false_iff_not] at hc
  have hpos2 := hc
  have heq : ∀ (c : Prop) [Decidable c] (a : Int), ¬ (if c then a else -1) < 0 → (if c then a else -1) = a ∧ c := by
    intro c _ a h
    split at h
    · rename_i hc; exact ⟨if_pos hc, hc⟩
    · omega
  obtain ⟨e2, c2⟩ := heq _ _ hc
  rw [e2]
  clear heq hc
  refine gGO ?_
  refine VO_q (Q_call rfl (h3 (((left - (f0.length : Int)) - (W (U.sl 1 f1) : Int)) - (W (U.sl 4 f2) : Int)) (by omega) (by omega)) vA) rfl ?_
  refine gGO ?_
  refine V_cond rfl (fun hc => ?_) (fun hc => ?_)
  · refine V_seq_region ?_
    refine gGO ?_
    refine V_ret ?_
    simp only [decide_eq_true_eq] at hc
    exact ⟨trivial, ⟨_, rfl, congrArg (U.i .i64) (by split at hc <;> (rw [if_neg (by omega)]))⟩, trivial⟩
  refine V_skip ?_
  simp only [decide_eq_false_iff_not] at hc
  have hpos3 := hc
  have heq : ∀ (c : Prop) [Decidable c] (a : Int), ¬ (if c then a else -1) < 0 → (if c then a else -1) = a ∧ c := by
    intro c _ a h
    split at h
    · rename_i hc; exact ⟨if_pos hc, hc⟩
    · omega
  obtain ⟨e3, c3⟩ := heq _ _ hc
  rw [e3]
  clear heq hc
  refine gGO ?_
  refine VO_q (Q_call rfl (h4 ((((left - (f0.length : Int)) - (W (U.sl 1 f1) : Int)) - (W (U.sl 4 f2) : Int)) - (W (U.sl 4 f3) : Int)) (by omega) (by omega)) vA) rfl ?_
  refine gGO ?_
  refine V_cond rfl (fun hc => ?_) (fun hc => ?_)
  · refine V_seq_region ?_
    refine gGO ?_
    refine V_ret ?_
    simp only [decide_eq_true_eq] at hc
    exact ⟨trivial, ⟨_, rfl, congrArg (U.i .i64) (by split at hc <;> (rw [if_neg (by omega)]))⟩, trivial⟩
  refine V_skip ?_
  simp only [decide_eq_false_iff_not] at hc
  have hpos4 := hc
  have heq : ∀ (c : Prop) [Decidable c] (a : Int), ¬ (if c then a else -1) < 0 → (if c then a else -1) = a ∧ c := by
    intro c _ a h
    split at h
    · rename_i hc; exact ⟨if_pos hc, hc⟩
    · omega
  obtain ⟨e4, c4⟩ := heq _ _ hc
  rw [e4]
  clear heq hc
  refine gGO ?_
  refine VO_q (Q_call rfl (h5 (((((left - (f0.length : Int)) - (W (U.sl 1 f1) : Int)) - (W (U.sl 4 f2) : Int)) - (W (U.sl 4 f3) : Int)) - (m4 : Int)) (by omega) (by omega)) vA) rfl ?_
  refine gGO ?_
  refine V_cond rfl (fun hc => ?_) (fun hc => ?_)
  · refine V_seq_region ?_
    refine gGO ?_
    refine V_ret ?_
    simp only [decide_eq_true_eq] at hc
    exact ⟨trivial, ⟨_, rfl, congrArg (U.i .i64) (by split at hc <;> (rw [if_neg (by omega)]))⟩, trivial⟩
  refine V_skip ?_
  simp only [decide_eq_false_iff_not] at hc
  have hpos5 := hc
  have heq : ∀ (c : Prop) [Decidable c] (a : Int), ¬ (if c then a else -1) < 0 → (if c then a else -1) = a ∧ c := by
    intro c _ a h
    split at h
    · rename_i hc; exact ⟨if_pos hc, hc⟩
    · omega
  obtain ⟨e5, c5⟩ := heq _ _ hc
  rw [e5]
  clear heq hc
  refine gGO ?_
  refine V_ret ?_
  exact ⟨trivial, ⟨_, rfl, congrArg (U.i .i64) (by rw [if_pos (by omega)]; omega)⟩, trivial⟩
theorem szFunctionS_step {us : List U} (hl : us.length ≤ big) (hz : ∀ a ∈ us, a.isSt = true ∧ a.sz = 16) (ih : ∀ a ∈ us, PSz 160 a) : PSz 108 (.sl 16 us) := by
  intro left hl0 hl1
  have hW : W (.sl 16 us) = us.length + Ws us := rfl
  have hb : (us.length : Int) ≤ 140737488355328 := by rw [big_eq] at hl; omega
  refine SpecP_intro Tryz.func108 rfl (by kernel_rfl) rfl fun A _ => ?_
  refine gGO ?_
  refine V_cond rfl (fun hc => ?_) (fun hc => ?_)
  · refine V_seq_region ?_
    refine gGO ?_
    refine V_ret ?_
    simp only [decide_eq_true_eq] at hc
    exact ⟨trivial, ⟨_, rfl, congrArg (U.i .i64) (by rw [if_neg (by omega)])⟩, trivial⟩
  refine V_skip ?_
  simp only [decide_eq_false_iff_not] at hc
  refine gGO ?_
  refine V_block ?_
  refine V_loop (α := Nat × Int)
    (fun x => ⟨[(0, .d (.sl 16 us)), (5, .d (.i .i64 x.1)), (1, .d (.i .i64 x.2))], [], Tryz.f108.ntmps⟩)
    (fun x => x.1 ≤ us.length ∧ 0 ≤ x.2 ∧ x.2 = left - us.length - Ws (us.take x.1))
    (fun x => us.length - x.1) (0, left - us.length) ⟨rfl, ⟨⟨rfl, rfl⟩, ⟨rfl, rfl⟩, ⟨rfl, rfl⟩, trivial⟩, ⟨[], rfl⟩, rfl⟩ ⟨by simp, by simp only; omega, by simp [Ws]⟩ ?_
  rintro ⟨k, l⟩ ⟨hk, hq0, hq1⟩
  simp only at hk hq0 hq1
  refine gGO ?_
  refine V_cond rfl (fun hc2 => ?_) (fun hc2 => ?_)
  · refine V_skip ?_
    simp only [decide_eq_true_eq] at hc2
    have hkl : k < us.length := by omega
    have hget : us[k]? = some us[k] := List.getElem?_eq_getElem hkl
    have hmem : us[k] ∈ us := List.getElem_mem hkl
    have htk := Ws_take_succ hget
    have hle := Ws_take_le us (k + 1)
    obtain ⟨hst, hsz⟩ := hz _ hmem
    refine V_seq (V_block (V_seq_region ?_))
    refine gGO ?_
    refine VO_q (Q_index rfl rfl TE.h TI.h (by omega) hget) rfl ?_
    refine VO_q (Q_load rfl TI.h hst hsz) rfl ?_
    refine gGO ?_
    refine VO_q (Q_call rfl (ih _ hmem l (by omega) (by omega)) vA) rfl ?_
    refine gGO ?_
    refine V_cond rfl (fun hc3 => ?_) (fun hc3 => ?_)
    · refine V_seq_region ?_
      refine gGO ?_
      refine V_ret ?_
      simp only [decide_eq_true_eq] at hc3
      exact ⟨trivial, ⟨_, rfl, congrArg (U.i .i64) (by
        rw [if_neg (by intro hle2; rw [if_pos (by omega)] at hc3; omega)])⟩, trivial⟩
    refine V_skip ?_
    simp only [decide_eq_false_iff_not] at hc3
    refine gGO ?_
    refine ⟨(k + 1, (if (W us[k] : Int) ≤ l then l - W us[k] else -1)), ?_, ?_, ⟨rfl, ⟨⟨rfl, rfl⟩, ⟨rfl, rfl⟩, ⟨rfl, rfl⟩, trivial⟩, ⟨[], rfl⟩, rfl⟩⟩
    · simp only
      refine ⟨by omega, by omega, ?_⟩
      rw [if_pos (by apply Classical.byContradiction; intro hn; rw [if_neg hn] at hc3; omega)]
      omega
    · simp only
      omega
  · refine V_exit ?_
    simp only [decide_eq_false_iff_not] at hc2
    have hkl : k = us.length := by omega
    subst hkl
    rw [List.take_length] at hq1
    show V _ _ _ _ _
    refine gGO ?_
    refine V_ret ?_
    exact ⟨trivial, ⟨_, rfl, congrArg (U.i .i64) (by rw [if_pos (by omega)]; omega)⟩, trivial⟩
theorem szFunction_grp (u : U) : (wt (.st 13) u → PSz 160 u) := by
  refine U.ind (M := fun u => (wt (.st 13) u → PSz 160 u)) (fun u ih => ?_) u
  refine ?_
  · intro h
    obtain ⟨f0, f1, f2, f3, f4, f5, rfl, p0, p1, p2, p3, p4, p5⟩ := inv_Function h
    exact szFunction_step p0 (szStringS_all p1) (szBoundS_all p2) (szParamS_all p3) p4 (szType_all p4) p5 (szExpr_all p5)
theorem szFunction_all {u : U} (h : wt (.st 13) u) : PSz 160 u := (szFunction_grp u) h
theorem szFunctionS_all {us : List U} (h : us.length ≤ big ∧ ∀ x ∈ us, wt (.st 13) x) : PSz 108 (.sl 16 us) := szFunctionS_step h.1 (fun a ha => ⟨wt_isSt (h.2 a ha), by rw [wt_sz a _ (h.2 a ha)]; rfl⟩) (fun a ha => szFunction_all (h.2 a ha))
theorem szPackage_step {f0 : List UInt8} {f1 : List U} {f2 : List U} {f3 : List U} {f4 : List U} {f5 : List U} (h0 : f0.length ≤ big) (h1 : PSz 81 (.sl 1 f1)) (h2 : PSz 105 (.sl 5 f2)) (h3 : PSz 106 (.sl 3 f3)) (h4 : PSz 107 (.sl 12 f4)) (h5 : PSz 108 (.sl 16 f5)) : PSz 67 (.st [.s f0, .sl 1 f1, .sl 5 f2, .sl 3 f3, .sl 12 f4, .sl 16 f5]) := by
  intro left hl0 hl1
  have hW : W (.st [.s f0, .sl 1 f1, .sl 5 f2, .sl 3 f3, .sl 12 f4, .sl 16 f5]) = f0.length + (W (U.sl 1 f1) + (W (U.sl 5 f2) + (W (U.sl 3 f3) + (W (U.sl 12 f4) + (W (U.sl 16 f5) + 0))))) := rfl
  have hb0 : f0.length ≤ 140737488355328 := by rw [big_eq] at h0; exact h0
  refine SpecP_intro Tryz.func67 rfl (by kernel_rfl) rfl fun A _ => ?_
  refine gGO ?_
  refine V_cond rfl (fun hc => ?_) (fun hc => ?_)
  · refine V_seq_region ?_
    refine gGO ?_
    refine V_ret ?_
    simp only [decide_eq_true_eq] at hc
    exact ⟨trivial, ⟨_, rfl, congrArg (U.i .i64) (by rw [if_neg (by omega)])⟩, trivial⟩
  refine V_skip ?_
  simp only [decide_eq_false_iff_not] at hc
  refine gGO ?_
  refine VO_q (Q_call rfl (h1 (left - (f0.length : Int)) (by omega) (by omega)) vA) rfl ?_
  refine gGO ?_
  refine V_cond rfl (fun hc => ?_) (fun hc => ?_)
  · refine V_seq_region ?_
    refine gGO ?_
    refine V_ret ?_
    simp only [decide_eq_true_eq] at hc
    exact ⟨trivial, ⟨_, rfl, congrArg (U.i .i64) (by split at hc <;> (rw [if_neg (by omega)]))⟩, trivial⟩
  refine V_skip ?_
  simp only [decide_eq_false_iff_not] at hc
  have hpos1 := hc
  have heq : ∀ (c : Prop) [Decidable c] (a : Int), ¬ (if c then a else -1) < 0 → (if c then a else -1) = a ∧ c := by
    intro c _ a h
    split at h
    · rename_i hc; exact ⟨if_pos hc, hc⟩
    · omega
  obtain ⟨e1, c1⟩ := heq _ _ hc
  rw [e1]
  clear heq hc
  refine gGO ?_
  refine VO_q (Q_call rfl (h2 ((left - (f0.length : Int)) - (W (U.sl 1 f1) : Int)) (by omega) (by omega)) vA) rfl ?_
  refine gGO ?_
  refine V_cond rfl (fun hc => ?_) (fun hc => ?_)
  · refine V_seq_region ?_
    refine gGO ?_
    refine V_ret ?_
    simp only [decide_eq_true_eq] at hc
    exact ⟨trivial, ⟨_, rfl, congrArg (U.i .i64) (by split at hc <;> (rw [if_neg (by omega)]))⟩, trivial⟩
  refine V_skip ?_
  simp only [decide_eq_false_iff_not] at hc
  have hpos2 := hc
  have heq : ∀ (c : Prop) [Decidable c] (a : Int), ¬ (if c then a else -1) < 0 → (if c then a else -1) = a ∧ c := by
    intro c _ a h
    split at h
    · rename_i hc; exact ⟨if_pos hc, hc⟩
    · omega
  obtain ⟨e2, c2⟩ := heq _ _ hc
  rw [e2]
  clear heq hc
  refine gGO ?_
  refine VO_q (Q_call rfl (h3 (((left - (f0.length : Int)) - (W (U.sl 1 f1) : Int)) - (W (U.sl 5 f2) : Int)) (by omega) (by omega)) vA) rfl ?_
  refine gGO ?_
  refine V_cond rfl (fun hc => ?_) (fun hc => ?_)
  · refine V_seq_region ?_
    refine gGO ?_
    refine V_ret ?_
    simp only [decide_eq_true_eq] at hc
    exact ⟨trivial, ⟨_, rfl, congrArg (U.i .i64) (by split at hc <;> (rw [if_neg (by omega)]))⟩, trivial⟩
  refine V_skip ?_
  simp only [decide_eq_false_iff_not] at hc
  have hpos3 := hc
  have heq : ∀ (c : Prop) [Decidable c] (a : Int), ¬ (if c then a else -1) < 0 → (if c then a else -1) = a ∧ c := by
    intro c _ a h
    split at h
    · rename_i hc; exact ⟨if_pos hc, hc⟩
    · omega
  obtain ⟨e3, c3⟩ := heq _ _ hc
  rw [e3]
  clear heq hc
  refine gGO ?_
  refine VO_q (Q_call rfl (h4 ((((left - (f0.length : Int)) - (W (U.sl 1 f1) : Int)) - (W (U.sl 5 f2) : Int)) - (W (U.sl 3 f3) : Int)) (by omega) (by omega)) vA) rfl ?_
  refine gGO ?_
  refine V_cond rfl (fun hc => ?_) (fun hc => ?_)
  · refine V_seq_region ?_
    refine gGO ?_
    refine V_ret ?_
    simp only [decide_eq_true_eq] at hc
    exact ⟨trivial, ⟨_, rfl, congrArg (U.i .i64) (by split at hc <;> (rw [if_neg (by omega)]))⟩, trivial⟩
  refine V_skip ?_
  simp only [decide_eq_false_iff_not] at hc
  have hpos4 := hc
  have heq : ∀ (c : Prop) [Decidable c] (a : Int), ¬ (if c then a else -1) < 0 → (if c then a else -1) = a ∧ c := by
    intro c _ a h
    split at h
    · rename_i hc; exact ⟨if_pos hc, hc⟩
    · omega
  obtain ⟨e4, c4⟩ := heq _ _ hc
  rw [e4]
  clear heq hc
  refine gGO ?_
  refine VO_q (Q_call rfl (h5 (((((left - (f0.length : Int)) - (W (U.sl 1 f1) : Int)) - (W (U.sl 5 f2) : Int)) - (W (U.sl 3 f3) : Int)) - (W (U.sl 12 f4) : Int)) (by omega) (by omega)) vA) rfl ?_
  refine gGO ?_
  refine V_cond rfl (fun hc => ?_) (fun hc => ?_)
  · refine V_seq_region ?_
    refine gGO ?_
    refine V_ret ?_
    simp only [decide_eq_true_eq] at hc
    exact ⟨trivial, ⟨_, rfl, congrArg (U.i .i64) (by split at hc <;> (rw [if_neg (by omega)]))⟩, trivial⟩
  refine V_skip ?_
  simp only [decide_eq_false_iff_not] at hc
  have hpos5 := hc
  have heq : ∀ (c : Prop) [Decidable c] (a : Int), ¬ (if c then a else -1) < 0 → (if c then a else -1) = a ∧ c := by
    intro c _ a h
    split at h
    · rename_i hc; exact ⟨if_pos hc, hc⟩
    · omega
  obtain ⟨e5, c5⟩ := heq _ _ hc
  rw [e5]
  clear heq hc
  refine gGO ?_
  refine V_ret ?_
  exact ⟨trivial, ⟨_, rfl, congrArg (U.i .i64) (by rw [if_pos (by omega)]; omega)⟩, trivial⟩
theorem szPackageS_step {us : List U} (hl : us.length ≤ big) (hz : ∀ a ∈ us, a.isSt = true ∧ a.sz = 6) (ih : ∀ a ∈ us, PSz 67 a) : PSz 25 (.sl 6 us) := by
  intro left hl0 hl1
  have hW : W (.sl 6 us) = us.length + Ws us := rfl
  have hb : (us.length : Int) ≤ 140737488355328 := by rw [big_eq] at hl; omega
  refine SpecP_intro Tryz.func25 rfl (by kernel_rfl) rfl fun A _ => ?_
  refine gGO ?_
  refine V_cond rfl (fun hc => ?_) (fun hc => ?_)
  · refine V_seq_region ?_
    refine gGO ?_
    refine V_ret ?_
    simp only [decide_eq_true_eq] at hc
    exact ⟨trivial, ⟨_, rfl, congrArg (U.i .i64) (by rw [if_neg (by omega)])⟩, trivial⟩
  refine V_skip ?_
  simp only [decide_eq_false_iff_not] at hc
  refine gGO ?_
  refine V_block ?_
  refine V_loop (α := Nat × Int)
    (fun x => ⟨[(0, .d (.sl 6 us)), (5, .d (.i .i64 x.1)), (1, .d (.i .i64 x.2))], [], Tryz.f25.ntmps⟩)
    (fun x => x.1 ≤ us.length ∧ 0 ≤ x.2 ∧ x.2 = left - us.length - Ws (us.take x.1))
    (fun x => us.length - x.1) (0, left - us.length) ⟨rfl, ⟨⟨rfl, rfl⟩, ⟨rfl, rfl⟩, ⟨rfl, rfl⟩, trivial⟩, ⟨[], rfl⟩, rfl⟩ ⟨by simp, by simp only; omega, by simp [Ws]⟩ ?_
  rintro ⟨k, l⟩ ⟨hk, hq0, hq1⟩
  simp only at hk hq0 hq1
  refine gGO ?_
  refine V_cond rfl (fun hc2 => ?_) (fun hc2 => ?_)
  · refine V_skip ?_
    simp only [decide_eq_true_eq] at hc2
    have hkl : k < us.length := by omega
    have hget : us[k]? = some us[k] := List.getElem?_eq_getElem hkl
    have hmem : us[k] ∈ us := List.getElem_mem hkl
    have htk := Ws_take_succ hget
    have hle := Ws_take_le us (k + 1)
    obtain ⟨hst, hsz⟩ := hz _ hmem
    refine V_seq (V_block (V_seq_region ?_))
    refine gGO ?_
    refine VO_q (Q_index rfl rfl TE.h TI.h (by omega) hget) rfl ?_
    refine VO_q (Q_load rfl TI.h hst hsz) rfl ?_
    refine gGO ?_
    refine VO_q (Q_call rfl (ih _ hmem l (by omega) (by omega)) vA) rfl ?_
    refine gGO ?_
    refine V_cond rfl (fun hc3 => ?_) (fun hc3 => ?_)
    · refine V_seq_region ?_
      refine gGO ?_
      refine V_ret ?_
      simp only [decide_eq_true_eq] at hc3
      exact ⟨trivial, ⟨_, rfl, congrArg (U.i .i64) (by
        rw [if_neg (by intro hle2; rw [if_pos (by omega)] at hc3; omega)])⟩, trivial⟩
    refine V_skip ?_
    simp only [decide_eq_false_iff_not] at hc3
    refine gGO ?_
    refine ⟨(k + 1, (if (W us[k] : Int) ≤ l then l - W us[k] else -1)), ?_, ?_, ⟨rfl, ⟨⟨rfl, rfl⟩, ⟨rfl, rfl⟩, ⟨rfl, rfl⟩, trivial⟩, ⟨[], rfl⟩, rfl⟩⟩
    · simp only
      refine ⟨by omega, by omega, ?_⟩
      rw [if_pos (by apply Classical.byContradiction; intro hn; rw [if_neg hn] at hc3; omega)]
      omega
    · simp only
      omega
  · refine V_exit ?_
    simp only [decide_eq_false_iff_not] at hc2
    have hkl : k = us.length := by omega
    subst hkl
    rw [List.take_length] at hq1
    show V _ _ _ _ _
    refine gGO ?_
    refine V_ret ?_
    exact ⟨trivial, ⟨_, rfl, congrArg (U.i .i64) (by rw [if_pos (by omega)]; omega)⟩, trivial⟩
theorem szPackage_grp (u : U) : (wt (.st 14) u → PSz 67 u) := by
  refine U.ind (M := fun u => (wt (.st 14) u → PSz 67 u)) (fun u ih => ?_) u
  refine ?_
  · intro h
    obtain ⟨f0, f1, f2, f3, f4, f5, rfl, p0, p1, p2, p3, p4, p5⟩ := inv_Package h
    exact szPackage_step p0 (szStringS_all p1) (szTraitS_all p2) (szDataTypeS_all p3) (szInstanceS_all p4) (szFunctionS_all p5)
theorem szPackage_all {u : U} (h : wt (.st 14) u) : PSz 67 u := (szPackage_grp u) h
theorem szPackageS_all {us : List U} (h : us.length ≤ big ∧ ∀ x ∈ us, wt (.st 14) x) : PSz 25 (.sl 6 us) := szPackageS_step h.1 (fun a ha => ⟨wt_isSt (h.2 a ha), by rw [wt_sz a _ (h.2 a ha)]; rfl⟩) (fun a ha => szPackage_all (h.2 a ha))
theorem szProgram_step {f0 : List U} (h0 : PSz 25 (.sl 6 f0)) : PSz 5 (.st [.sl 6 f0]) := by
  intro left hl0 hl1
  have hW : W (.st [.sl 6 f0]) = W (U.sl 6 f0) + 0 := rfl
  refine SpecP_intro Tryz.func5 rfl (by kernel_rfl) rfl fun A _ => ?_
  refine gGO ?_
  refine VO_q (Q_call rfl (h0 left (by omega) (by omega)) vA) rfl ?_
  refine gGO ?_
  refine V_cond rfl (fun hc => ?_) (fun hc => ?_)
  · refine V_seq_region ?_
    refine gGO ?_
    refine V_ret ?_
    simp only [decide_eq_true_eq] at hc
    exact ⟨trivial, ⟨_, rfl, congrArg (U.i .i64) (by split at hc <;> (rw [if_neg (by omega)]))⟩, trivial⟩
  refine V_skip ?_
  simp only [decide_eq_false_iff_not] at hc
  have hpos0 := hc
  have heq : ∀ (c : Prop) [Decidable c] (a : Int), ¬ (if c then a else -1) < 0 → (if c then a else -1) = a ∧ c := by
    intro c _ a h
    split at h
    · rename_i hc; exact ⟨if_pos hc, hc⟩
    · omega
  obtain ⟨e0, c0⟩ := heq _ _ hc
  rw [e0]
  clear heq hc
  refine gGO ?_
  refine V_ret ?_
  exact ⟨trivial, ⟨_, rfl, congrArg (U.i .i64) (by rw [if_pos (by omega)]; omega)⟩, trivial⟩
theorem szProgram_grp (u : U) : (wt (.st 15) u → PSz 5 u) := by
  refine U.ind (M := fun u => (wt (.st 15) u → PSz 5 u)) (fun u ih => ?_) u
  refine ?_
  · intro h
    obtain ⟨f0, rfl, p0⟩ := inv_Program h
    exact szProgram_step (szPackageS_all p0)
theorem szProgram_all {u : U} (h : wt (.st 15) u) : PSz 5 u := (szProgram_grp u) h
theorem szEvidence_step {f0 : Int} {f1 : Int} {f2 : U} {f3 : List U} (g2 : wt (.st 16) f2) (h2 : W f2 = 0) (h3 : PSz 142 (.sl 5 f3)) : PSz 178 (.st [.i .i64 f0, .i .i64 f1, f2, .sl 5 f3]) := by
  intro left hl0 hl1
  have hW : W (.st [.i .i64 f0, .i .i64 f1, f2, .sl 5 f3]) = 0 + (0 + (W f2 + (W (U.sl 5 f3) + 0))) := rfl
  obtain ⟨e16_0, e16_1, rfl, g16_0, g16_1⟩ := inv_InstanceRef g2
  refine SpecP_intro Tryz.func178 rfl (by kernel_rfl) rfl fun A _ => ?_
  refine gGO ?_
  refine VO_q (Q_call rfl (h3 left (by omega) (by omega)) vA) rfl ?_
  refine gGO ?_
  refine V_cond rfl (fun hc => ?_) (fun hc => ?_)
  · refine V_seq_region ?_
    refine gGO ?_
    refine V_ret ?_
    simp only [decide_eq_true_eq] at hc
    exact ⟨trivial, ⟨_, rfl, congrArg (U.i .i64) (by split at hc <;> (rw [if_neg (by omega)]))⟩, trivial⟩
  refine V_skip ?_
  simp only [decide_eq_false_iff_not] at hc
  have hpos3 := hc
  have heq : ∀ (c : Prop) [Decidable c] (a : Int), ¬ (if c then a else -1) < 0 → (if c then a else -1) = a ∧ c := by
    intro c _ a h
    split at h
    · rename_i hc; exact ⟨if_pos hc, hc⟩
    · omega
  obtain ⟨e3, c3⟩ := heq _ _ hc
  rw [e3]
  clear heq hc
  refine gGO ?_
  refine V_ret ?_
  exact ⟨trivial, ⟨_, rfl, congrArg (U.i .i64) (by rw [if_pos (by omega)]; omega)⟩, trivial⟩
theorem szEvidenceS_step {us : List U} (hl : us.length ≤ big) (hz : ∀ a ∈ us, a.isSt = true ∧ a.sz = 5) (ih : ∀ a ∈ us, PSz 178 a) : PSz 142 (.sl 5 us) := by
  intro left hl0 hl1
  have hW : W (.sl 5 us) = us.length + Ws us := rfl
  have hb : (us.length : Int) ≤ 140737488355328 := by rw [big_eq] at hl; omega
  refine SpecP_intro Tryz.func142 rfl (by kernel_rfl) rfl fun A _ => ?_
  refine gGO ?_
  refine V_cond rfl (fun hc => ?_) (fun hc => ?_)
  · refine V_seq_region ?_
    refine gGO ?_
    refine V_ret ?_
    simp only [decide_eq_true_eq] at hc
    exact ⟨trivial, ⟨_, rfl, congrArg (U.i .i64) (by rw [if_neg (by omega)])⟩, trivial⟩
  refine V_skip ?_
  simp only [decide_eq_false_iff_not] at hc
  refine gGO ?_
  refine V_block ?_
  refine V_loop (α := Nat × Int)
    (fun x => ⟨[(0, .d (.sl 5 us)), (5, .d (.i .i64 x.1)), (1, .d (.i .i64 x.2))], [], Tryz.f142.ntmps⟩)
    (fun x => x.1 ≤ us.length ∧ 0 ≤ x.2 ∧ x.2 = left - us.length - Ws (us.take x.1))
    (fun x => us.length - x.1) (0, left - us.length) ⟨rfl, ⟨⟨rfl, rfl⟩, ⟨rfl, rfl⟩, ⟨rfl, rfl⟩, trivial⟩, ⟨[], rfl⟩, rfl⟩ ⟨by simp, by simp only; omega, by simp [Ws]⟩ ?_
  rintro ⟨k, l⟩ ⟨hk, hq0, hq1⟩
  simp only at hk hq0 hq1
  refine gGO ?_
  refine V_cond rfl (fun hc2 => ?_) (fun hc2 => ?_)
  · refine V_skip ?_
    simp only [decide_eq_true_eq] at hc2
    have hkl : k < us.length := by omega
    have hget : us[k]? = some us[k] := List.getElem?_eq_getElem hkl
    have hmem : us[k] ∈ us := List.getElem_mem hkl
    have htk := Ws_take_succ hget
    have hle := Ws_take_le us (k + 1)
    obtain ⟨hst, hsz⟩ := hz _ hmem
    refine V_seq (V_block (V_seq_region ?_))
    refine gGO ?_
    refine VO_q (Q_index rfl rfl TE.h TI.h (by omega) hget) rfl ?_
    refine VO_q (Q_load rfl TI.h hst hsz) rfl ?_
    refine gGO ?_
    refine VO_q (Q_call rfl (ih _ hmem l (by omega) (by omega)) vA) rfl ?_
    refine gGO ?_
    refine V_cond rfl (fun hc3 => ?_) (fun hc3 => ?_)
    · refine V_seq_region ?_
      refine gGO ?_
      refine V_ret ?_
      simp only [decide_eq_true_eq] at hc3
      exact ⟨trivial, ⟨_, rfl, congrArg (U.i .i64) (by
        rw [if_neg (by intro hle2; rw [if_pos (by omega)] at hc3; omega)])⟩, trivial⟩
    refine V_skip ?_
    simp only [decide_eq_false_iff_not] at hc3
    refine gGO ?_
    refine ⟨(k + 1, (if (W us[k] : Int) ≤ l then l - W us[k] else -1)), ?_, ?_, ⟨rfl, ⟨⟨rfl, rfl⟩, ⟨rfl, rfl⟩, ⟨rfl, rfl⟩, trivial⟩, ⟨[], rfl⟩, rfl⟩⟩
    · simp only
      refine ⟨by omega, by omega, ?_⟩
      rw [if_pos (by apply Classical.byContradiction; intro hn; rw [if_neg hn] at hc3; omega)]
      omega
    · simp only
      omega
  · refine V_exit ?_
    simp only [decide_eq_false_iff_not] at hc2
    have hkl : k = us.length := by omega
    subst hkl
    rw [List.take_length] at hq1
    show V _ _ _ _ _
    refine gGO ?_
    refine V_ret ?_
    exact ⟨trivial, ⟨_, rfl, congrArg (U.i .i64) (by rw [if_pos (by omega)]; omega)⟩, trivial⟩
theorem szEvidence_grp (u : U) : (wt (.st 18) u → PSz 178 u) := by
  refine U.ind (M := fun u => (wt (.st 18) u → PSz 178 u)) (fun u ih => ?_) u
  refine ?_
  · intro h
    obtain ⟨f0, f1, f2, f3, rfl, p0, p1, p2, p3⟩ := inv_Evidence h
    exact szEvidence_step p2 (by obtain ⟨y0, y1, rfl, _⟩ := inv_InstanceRef p2; rfl) (szEvidenceS_step p3.1 (fun a ha => ⟨wt_isSt (p3.2 a ha), by rw [wt_sz a _ (p3.2 a ha)]; rfl⟩) (fun a ha => (ih a (by have := nn_of_mem ha; simp only [U.nn, U.nns]; omega)) (p3.2 a ha)))
theorem szEvidence_all {u : U} (h : wt (.st 18) u) : PSz 178 u := (szEvidence_grp u) h
theorem szEvidenceS_all {us : List U} (h : us.length ≤ big ∧ ∀ x ∈ us, wt (.st 18) x) : PSz 142 (.sl 5 us) := szEvidenceS_step h.1 (fun a ha => ⟨wt_isSt (h.2 a ha), by rw [wt_sz a _ (h.2 a ha)]; rfl⟩) (fun a ha => szEvidence_all (h.2 a ha))
theorem szCoreArm_step {f0 : List UInt8} {f1 : List U} {f2 : U} (h0 : f0.length ≤ big) (h1 : PSz 81 (.sl 1 f1)) (g2 : wt (.st 21) f2) (h2 : PSz 85 f2) : PSz 179 (.st [.s f0, .sl 1 f1, f2]) := by
  intro left hl0 hl1
  have hW : W (.st [.s f0, .sl 1 f1, f2]) = f0.length + (W (U.sl 1 f1) + (W f2 + 0)) := rfl
  have hb0 : f0.length ≤ 140737488355328 := by rw [big_eq] at h0; exact h0
  obtain ⟨m2, hm2⟩ : ∃ m, W f2 = m := ⟨_, rfl⟩
  rw [hm2] at hW
  have h2 : ∀ l : Int, 0 ≤ l → l ≤ 4611686018427387904 → SpecP Tryz.prog 85 [.d f2, .d (.i .i64 l)] [.i .i64 (if (m2 : Int) ≤ l then l - m2 else -1)] := by rw [← hm2]; exact h2
  obtain ⟨e17_0, e17_1, e17_2, e17_3, e17_4, e17_5, e17_6, e17_7, e17_8, rfl, g17_0, g17_1, g17_2, g17_3, g17_4, g17_5, g17_6, g17_7, g17_8⟩ := inv_Core g2
  obtain ⟨e18_0, e18_1, e18_2, rfl, g18_0, g18_1, g18_2⟩ := inv_Type g17_4
  refine SpecP_intro Tryz.func179 rfl (by kernel_rfl) rfl fun A _ => ?_
  refine gGO ?_
  refine V_cond rfl (fun hc => ?_) (fun hc => ?_)
  · refine V_seq_region ?_
    refine gGO ?_
    refine V_ret ?_
    simp only [decide_eq_true_eq] at hc
    exact ⟨trivial, ⟨_, rfl, congrArg (U.i .i64) (by rw [if_neg (by omega)])⟩, trivial⟩
  refine V_skip ?_
  simp only [decide_eq_false_iff_not] at hc
  refine gGO ?_
  refine VO_q (Q_call rfl (h1 (left - (f0.length : Int)) (by omega) (by omega)) vA) rfl ?_
  refine gGO ?_
  refine V_cond rfl (fun hc => ?_) (fun hc => ?_)
  · refine V_seq_region ?_
    refine gGO ?_
    refine V_ret ?_
    simp only [decide_eq_true_eq] at hc
    exact ⟨trivial, ⟨_, rfl, congrArg (U.i .i64) (by split at hc <;> (rw [if_neg (by omega)]))⟩, trivial⟩
  refine V_skip ?_
  simp only [decide_eq_false_iff_not] at hc
  have hpos1 := hc
  have heq : ∀ (c : Prop) [Decidable c] (a : Int), ¬ (if c then a else -1) < 0 → (if c then a else -1) = a ∧ c := by
    intro c _ a h
    split at h
    · rename_i hc; exact ⟨if_pos hc, hc⟩
    · omega
  obtain ⟨e1, c1⟩ := heq _ _ hc
  rw [e1]
  clear heq hc
  refine gGO ?_
  refine VO_q (Q_call rfl (h2 ((left - (f0.length : Int)) - (W (U.sl 1 f1) : Int)) (by omega) (by omega)) vA) rfl ?_
  refine gGO ?_
  refine V_cond rfl (fun hc => ?_) (fun hc => ?_)
  · refine V_seq_region ?_
    refine gGO ?_
    refine V_ret ?_
    simp only [decide_eq_true_eq] at hc
    exact ⟨trivial, ⟨_, rfl, congrArg (U.i .i64) (by split at hc <;> (rw [if_neg (by omega)]))⟩, trivial⟩
  refine V_skip ?_
  simp only [decide_eq_false_iff_not] at hc
  have hpos2 := hc
  have heq : ∀ (c : Prop) [Decidable c] (a : Int), ¬ (if c then a else -1) < 0 → (if c then a else -1) = a ∧ c := by
    intro c _ a h
    split at h
    · rename_i hc; exact ⟨if_pos hc, hc⟩
    · omega
  obtain ⟨e2, c2⟩ := heq _ _ hc
  rw [e2]
  clear heq hc
  refine gGO ?_
  refine V_ret ?_
  exact ⟨trivial, ⟨_, rfl, congrArg (U.i .i64) (by rw [if_pos (by omega)]; omega)⟩, trivial⟩
theorem szCoreArmS_step {us : List U} (hl : us.length ≤ big) (hz : ∀ a ∈ us, a.isSt = true ∧ a.sz = 13) (ih : ∀ a ∈ us, PSz 179 a) : PSz 144 (.sl 13 us) := by
  intro left hl0 hl1
  have hW : W (.sl 13 us) = us.length + Ws us := rfl
  have hb : (us.length : Int) ≤ 140737488355328 := by rw [big_eq] at hl; omega
  refine SpecP_intro Tryz.func144 rfl (by kernel_rfl) rfl fun A _ => ?_
  refine gGO ?_
  refine V_cond rfl (fun hc => ?_) (fun hc => ?_)
  · refine V_seq_region ?_
    refine gGO ?_
    refine V_ret ?_
    simp only [decide_eq_true_eq] at hc
    exact ⟨trivial, ⟨_, rfl, congrArg (U.i .i64) (by rw [if_neg (by omega)])⟩, trivial⟩
  refine V_skip ?_
  simp only [decide_eq_false_iff_not] at hc
  refine gGO ?_
  refine V_block ?_
  refine V_loop (α := Nat × Int)
    (fun x => ⟨[(0, .d (.sl 13 us)), (5, .d (.i .i64 x.1)), (1, .d (.i .i64 x.2))], [], Tryz.f144.ntmps⟩)
    (fun x => x.1 ≤ us.length ∧ 0 ≤ x.2 ∧ x.2 = left - us.length - Ws (us.take x.1))
    (fun x => us.length - x.1) (0, left - us.length) ⟨rfl, ⟨⟨rfl, rfl⟩, ⟨rfl, rfl⟩, ⟨rfl, rfl⟩, trivial⟩, ⟨[], rfl⟩, rfl⟩ ⟨by simp, by simp only; omega, by simp [Ws]⟩ ?_
  rintro ⟨k, l⟩ ⟨hk, hq0, hq1⟩
  simp only at hk hq0 hq1
  refine gGO ?_
  refine V_cond rfl (fun hc2 => ?_) (fun hc2 => ?_)
  · refine V_skip ?_
    simp only [decide_eq_true_eq] at hc2
    have hkl : k < us.length := by omega
    have hget : us[k]? = some us[k] := List.getElem?_eq_getElem hkl
    have hmem : us[k] ∈ us := List.getElem_mem hkl
    have htk := Ws_take_succ hget
    have hle := Ws_take_le us (k + 1)
    obtain ⟨hst, hsz⟩ := hz _ hmem
    refine V_seq (V_block (V_seq_region ?_))
    refine gGO ?_
    refine VO_q (Q_index rfl rfl TE.h TI.h (by omega) hget) rfl ?_
    refine VO_q (Q_load rfl TI.h hst hsz) rfl ?_
    refine gGO ?_
    refine VO_q (Q_call rfl (ih _ hmem l (by omega) (by omega)) vA) rfl ?_
    refine gGO ?_
    refine V_cond rfl (fun hc3 => ?_) (fun hc3 => ?_)
    · refine V_seq_region ?_
      refine gGO ?_
      refine V_ret ?_
      simp only [decide_eq_true_eq] at hc3
      exact ⟨trivial, ⟨_, rfl, congrArg (U.i .i64) (by
        rw [if_neg (by intro hle2; rw [if_pos (by omega)] at hc3; omega)])⟩, trivial⟩
    refine V_skip ?_
    simp only [decide_eq_false_iff_not] at hc3
    refine gGO ?_
    refine ⟨(k + 1, (if (W us[k] : Int) ≤ l then l - W us[k] else -1)), ?_, ?_, ⟨rfl, ⟨⟨rfl, rfl⟩, ⟨rfl, rfl⟩, ⟨rfl, rfl⟩, trivial⟩, ⟨[], rfl⟩, rfl⟩⟩
    · simp only
      refine ⟨by omega, by omega, ?_⟩
      rw [if_pos (by apply Classical.byContradiction; intro hn; rw [if_neg hn] at hc3; omega)]
      omega
    · simp only
      omega
  · refine V_exit ?_
    simp only [decide_eq_false_iff_not] at hc2
    have hkl : k = us.length := by omega
    subst hkl
    rw [List.take_length] at hq1
    show V _ _ _ _ _
    refine gGO ?_
    refine V_ret ?_
    exact ⟨trivial, ⟨_, rfl, congrArg (U.i .i64) (by rw [if_pos (by omega)]; omega)⟩, trivial⟩
theorem szCore_step {f0 : Int} {f1 : List UInt8} {f2 : List UInt8} {f3 : Int} {f4 : U} {f5 : List U} {f6 : List U} {f7 : List U} {f8 : List U} (h1 : f1.length ≤ big) (h2 : f2.length ≤ big) (g4 : wt (.st 1) f4) (h4 : PSz 84 f4) (h5 : PSz 141 (.sl 3 f5)) (h6 : PSz 142 (.sl 5 f6)) (h7 : PSz 143 (.sl 11 f7)) (h8 : PSz 144 (.sl 13 f8)) : PSz 85 (.st [.i .i64 f0, .s f1, .s f2, .i .i64 f3, f4, .sl 3 f5, .sl 5 f6, .sl 11 f7, .sl 13 f8]) := by
  intro left hl0 hl1
  have hW : W (.st [.i .i64 f0, .s f1, .s f2, .i .i64 f3, f4, .sl 3 f5, .sl 5 f6, .sl 11 f7, .sl 13 f8]) = 0 + (f1.length + (f2.length + (0 + (W f4 + (W (U.sl 3 f5) + (W (U.sl 5 f6) + (W (U.sl 11 f7) + (W (U.sl 13 f8) + 0)))))))) := rfl
  have hb1 : f1.length ≤ 140737488355328 := by rw [big_eq] at h1; exact h1
  have hb2 : f2.length ≤ 140737488355328 := by rw [big_eq] at h2; exact h2
  obtain ⟨m4, hm4⟩ : ∃ m, W f4 = m := ⟨_, rfl⟩
  rw [hm4] at hW
  have h4 : ∀ l : Int, 0 ≤ l → l ≤ 4611686018427387904 → SpecP Tryz.prog 84 [.d f4, .d (.i .i64 l)] [.i .i64 (if (m4 : Int) ≤ l then l - m4 else -1)] := by rw [← hm4]; exact h4
  obtain ⟨e19_0, e19_1, e19_2, rfl, g19_0, g19_1, g19_2⟩ := inv_Type g4
  refine SpecP_intro Tryz.func85 rfl (by kernel_rfl) rfl fun A _ => ?_
  refine gGO ?_
  refine V_cond rfl (fun hc => ?_) (fun hc => ?_)
  · refine V_seq_region ?_
    refine gGO ?_
    refine V_ret ?_
    simp only [decide_eq_true_eq] at hc
    exact ⟨trivial, ⟨_, rfl, congrArg (U.i .i64) (by rw [if_neg (by omega)])⟩, trivial⟩
  refine V_skip ?_
  simp only [decide_eq_false_iff_not] at hc
  refine gGO ?_
  refine V_cond rfl (fun hc => ?_) (fun hc => ?_)
  · refine V_seq_region ?_
    refine gGO ?_
    refine V_ret ?_
    simp only [decide_eq_true_eq] at hc
    exact ⟨trivial, ⟨_, rfl, congrArg (U.i .i64) (by rw [if_neg (by omega)])⟩, trivial⟩
  refine V_skip ?_
  simp only [decide_eq_false_iff_not] at hc
  refine gGO ?_
  refine VO_q (Q_call rfl (h4 ((left - (f1.length : Int)) - (f2.length : Int)) (by omega) (by omega)) vA) rfl ?_
  refine gGO ?_
  refine V_cond rfl (fun hc => ?_) (fun hc => ?_)
  · refine V_seq_region ?_
    refine gGO ?_
    refine V_ret ?_
    simp only [decide_eq_true_eq] at hc
    exact ⟨trivial, ⟨_, rfl, congrArg (U.i .i64) (by split at hc <;> (rw [if_neg (by omega)]))⟩, trivial⟩
  refine V_skip ?_
  simp only [decide_eq_false_iff_not] at hc
  have hpos4 := hc
  have heq : ∀ (c : Prop) [Decidable c] (a : Int), ¬ (if c then a else -1) < 0 → (if c then a else -1) = a ∧ c := by
    intro c _ a h
    split at h
    · rename_i hc; exact ⟨if_pos hc, hc⟩
    · omega
  obtain ⟨e4, c4⟩ := heq _ _ hc
  rw [e4]
  clear heq hc
  refine gGO ?_
  refine VO_q (Q_call rfl (h5 (((left - (f1.length : Int)) - (f2.length : Int)) - (m4 : Int)) (by omega) (by omega)) vA) rfl ?_
  refine gGO ?_
  refine V_cond rfl (fun hc => ?_) (fun hc => ?_)
  · refine V_seq_region ?_
    refine gGO ?_
    refine V_ret ?_
    simp only [decide_eq_true_eq] at hc
    exact ⟨trivial, ⟨_, rfl, congrArg (U.i .i64) (by split at hc <;> (rw [if_neg (by omega)]))⟩, trivial⟩
  refine V_skip ?_
  simp only [decide_eq_false_iff_not] at hc
  have hpos5 := hc
  have heq : ∀ (c : Prop) [Decidable c] (a : Int), ¬ (if c then a else -1) < 0 → (if c then a else -1) = a ∧ c := by
    intro c _ a h
    split at h
    · rename_i hc; exact ⟨if_pos hc, hc⟩
    · omega
  obtain ⟨e5, c5⟩ := heq _ _ hc
  rw [e5]
  clear heq hc
  refine gGO ?_
  refine VO_q (Q_call rfl (h6 ((((left - (f1.length : Int)) - (f2.length : Int)) - (m4 : Int)) - (W (U.sl 3 f5) : Int)) (by omega) (by omega)) vA) rfl ?_
  refine gGO ?_
  refine V_cond rfl (fun hc => ?_) (fun hc => ?_)
  · refine V_seq_region ?_
    refine gGO ?_
    refine V_ret ?_
    simp only [decide_eq_true_eq] at hc
    exact ⟨trivial, ⟨_, rfl, congrArg (U.i .i64) (by split at hc <;> (rw [if_neg (by omega)]))⟩, trivial⟩
  refine V_skip ?_
  simp only [decide_eq_false_iff_not] at hc
  have hpos6 := hc
  have heq : ∀ (c : Prop) [Decidable c] (a : Int), ¬ (if c then a else -1) < 0 → (if c then a else -1) = a ∧ c := by
    intro c _ a h
    split at h
    · rename_i hc; exact ⟨if_pos hc, hc⟩
    · omega
  obtain ⟨e6, c6⟩ := heq _ _ hc
  rw [e6]
  clear heq hc
  refine gGO ?_
  refine VO_q (Q_call rfl (h7 (((((left - (f1.length : Int)) - (f2.length : Int)) - (m4 : Int)) - (W (U.sl 3 f5) : Int)) - (W (U.sl 5 f6) : Int)) (by omega) (by omega)) vA) rfl ?_
  refine gGO ?_
  refine V_cond rfl (fun hc => ?_) (fun hc => ?_)
  · refine V_seq_region ?_
    refine gGO ?_
    refine V_ret ?_
    simp only [decide_eq_true_eq] at hc
    exact ⟨trivial, ⟨_, rfl, congrArg (U.i .i64) (by split at hc <;> (rw [if_neg (by omega)]))⟩, trivial⟩
  refine V_skip ?_
  simp only [decide_eq_false_iff_not] at hc
  have hpos7 := hc
  have heq : ∀ (c : Prop) [Decidable c] (a : Int), ¬ (if c then a else -1) < 0 → (if c then a else -1) = a ∧ c := by
    intro c _ a h
    split at h
    · rename_i hc; exact ⟨if_pos hc, hc⟩
    · omega
  obtain ⟨e7, c7⟩ := heq _ _ hc
  rw [e7]
  clear heq hc
  refine gGO ?_
  refine VO_q (Q_call rfl (h8 ((((((left - (f1.length : Int)) - (f2.length : Int)) - (m4 : Int)) - (W (U.sl 3 f5) : Int)) - (W (U.sl 5 f6) : Int)) - (W (U.sl 11 f7) : Int)) (by omega) (by omega)) vA) rfl ?_
  refine gGO ?_
  refine V_cond rfl (fun hc => ?_) (fun hc => ?_)
  · refine V_seq_region ?_
    refine gGO ?_
    refine V_ret ?_
    simp only [decide_eq_true_eq] at hc
    exact ⟨trivial, ⟨_, rfl, congrArg (U.i .i64) (by split at hc <;> (rw [if_neg (by omega)]))⟩, trivial⟩
  refine V_skip ?_
  simp only [decide_eq_false_iff_not] at hc
  have hpos8 := hc
  have heq : ∀ (c : Prop) [Decidable c] (a : Int), ¬ (if c then a else -1) < 0 → (if c then a else -1) = a ∧ c := by
    intro c _ a h
    split at h
    · rename_i hc; exact ⟨if_pos hc, hc⟩
    · omega
  obtain ⟨e8, c8⟩ := heq _ _ hc
  rw [e8]
  clear heq hc
  refine gGO ?_
  refine V_ret ?_
  exact ⟨trivial, ⟨_, rfl, congrArg (U.i .i64) (by rw [if_pos (by omega)]; omega)⟩, trivial⟩
theorem szCoreS_step {us : List U} (hl : us.length ≤ big) (hz : ∀ a ∈ us, a.isSt = true ∧ a.sz = 11) (ih : ∀ a ∈ us, PSz 85 a) : PSz 143 (.sl 11 us) := by
  intro left hl0 hl1
  have hW : W (.sl 11 us) = us.length + Ws us := rfl
  have hb : (us.length : Int) ≤ 140737488355328 := by rw [big_eq] at hl; omega
  refine SpecP_intro Tryz.func143 rfl (by kernel_rfl) rfl fun A _ => ?_
  refine gGO ?_
  refine V_cond rfl (fun hc => ?_) (fun hc => ?_)
  · refine V_seq_region ?_
    refine gGO ?_
    refine V_ret ?_
    simp only [decide_eq_true_eq] at hc
    exact ⟨trivial, ⟨_, rfl, congrArg (U.i .i64) (by rw [if_neg (by omega)])⟩, trivial⟩
  refine V_skip ?_
  simp only [decide_eq_false_iff_not] at hc
  refine gGO ?_
  refine V_block ?_
  refine V_loop (α := Nat × Int)
    (fun x => ⟨[(0, .d (.sl 11 us)), (5, .d (.i .i64 x.1)), (1, .d (.i .i64 x.2))], [], Tryz.f143.ntmps⟩)
    (fun x => x.1 ≤ us.length ∧ 0 ≤ x.2 ∧ x.2 = left - us.length - Ws (us.take x.1))
    (fun x => us.length - x.1) (0, left - us.length) ⟨rfl, ⟨⟨rfl, rfl⟩, ⟨rfl, rfl⟩, ⟨rfl, rfl⟩, trivial⟩, ⟨[], rfl⟩, rfl⟩ ⟨by simp, by simp only; omega, by simp [Ws]⟩ ?_
  rintro ⟨k, l⟩ ⟨hk, hq0, hq1⟩
  simp only at hk hq0 hq1
  refine gGO ?_
  refine V_cond rfl (fun hc2 => ?_) (fun hc2 => ?_)
  · refine V_skip ?_
    simp only [decide_eq_true_eq] at hc2
    have hkl : k < us.length := by omega
    have hget : us[k]? = some us[k] := List.getElem?_eq_getElem hkl
    have hmem : us[k] ∈ us := List.getElem_mem hkl
    have htk := Ws_take_succ hget
    have hle := Ws_take_le us (k + 1)
    obtain ⟨hst, hsz⟩ := hz _ hmem
    refine V_seq (V_block (V_seq_region ?_))
    refine gGO ?_
    refine VO_q (Q_index rfl rfl TE.h TI.h (by omega) hget) rfl ?_
    refine VO_q (Q_load rfl TI.h hst hsz) rfl ?_
    refine gGO ?_
    refine VO_q (Q_call rfl (ih _ hmem l (by omega) (by omega)) vA) rfl ?_
    refine gGO ?_
    refine V_cond rfl (fun hc3 => ?_) (fun hc3 => ?_)
    · refine V_seq_region ?_
      refine gGO ?_
      refine V_ret ?_
      simp only [decide_eq_true_eq] at hc3
      exact ⟨trivial, ⟨_, rfl, congrArg (U.i .i64) (by
        rw [if_neg (by intro hle2; rw [if_pos (by omega)] at hc3; omega)])⟩, trivial⟩
    refine V_skip ?_
    simp only [decide_eq_false_iff_not] at hc3
    refine gGO ?_
    refine ⟨(k + 1, (if (W us[k] : Int) ≤ l then l - W us[k] else -1)), ?_, ?_, ⟨rfl, ⟨⟨rfl, rfl⟩, ⟨rfl, rfl⟩, ⟨rfl, rfl⟩, trivial⟩, ⟨[], rfl⟩, rfl⟩⟩
    · simp only
      refine ⟨by omega, by omega, ?_⟩
      rw [if_pos (by apply Classical.byContradiction; intro hn; rw [if_neg hn] at hc3; omega)]
      omega
    · simp only
      omega
  · refine V_exit ?_
    simp only [decide_eq_false_iff_not] at hc2
    have hkl : k = us.length := by omega
    subst hkl
    rw [List.take_length] at hq1
    show V _ _ _ _ _
    refine gGO ?_
    refine V_ret ?_
    exact ⟨trivial, ⟨_, rfl, congrArg (U.i .i64) (by rw [if_pos (by omega)]; omega)⟩, trivial⟩
theorem szCoreArmCore_grp (u : U) : (wt (.st 20) u → PSz 179 u) ∧ (wt (.st 21) u → PSz 85 u) := by
  refine U.ind (M := fun u => (wt (.st 20) u → PSz 179 u) ∧ (wt (.st 21) u → PSz 85 u)) (fun u ih => ?_) u
  refine ⟨?_, ?_⟩
  · intro h
    obtain ⟨f0, f1, f2, rfl, p0, p1, p2⟩ := inv_CoreArm h
    exact szCoreArm_step p0 (szStringS_all p1) p2 ((ih f2 (by simp only [U.nn, U.nns]; omega)).2 p2)
  · intro h
    obtain ⟨f0, f1, f2, f3, f4, f5, f6, f7, f8, rfl, p0, p1, p2, p3, p4, p5, p6, p7, p8⟩ := inv_Core h
    exact szCore_step p1 p2 p4 (szType_all p4) (szTypeS_all p5) (szEvidenceS_all p6) (szCoreS_step p7.1 (fun a ha => ⟨wt_isSt (p7.2 a ha), by rw [wt_sz a _ (p7.2 a ha)]; rfl⟩) (fun a ha => (ih a (by have := nn_of_mem ha; simp only [U.nn, U.nns]; omega)).2 (p7.2 a ha))) (szCoreArmS_step p8.1 (fun a ha => ⟨wt_isSt (p8.2 a ha), by rw [wt_sz a _ (p8.2 a ha)]; rfl⟩) (fun a ha => (ih a (by have := nn_of_mem ha; simp only [U.nn, U.nns]; omega)).1 (p8.2 a ha)))
theorem szCore_all {u : U} (h : wt (.st 21) u) : PSz 85 u := (szCoreArmCore_grp u).2 h
theorem szUnit_step {f0 : Int} {f1 : Int} {f2 : Int} {f3 : Int} {f4 : List U} {f5 : List U} {f6 : List U} {f7 : U} {f8 : U} (h4 : PSz 81 (.sl 1 f4)) (h5 : PSz 82 (.sl 4 f5)) (h6 : PSz 83 (.sl 4 f6)) (g7 : wt (.st 1) f7) (h7 : PSz 84 f7) (g8 : wt (.st 21) f8) (h8 : PSz 85 f8) : PSz 34 (.st [.i .i64 f0, .i .i64 f1, .i .i64 f2, .i .i64 f3, .sl 1 f4, .sl 4 f5, .sl 4 f6, f7, f8]) := by
  intro left hl0 hl1
  have hW : W (.st [.i .i64 f0, .i .i64 f1, .i .i64 f2, .i .i64 f3, .sl 1 f4, .sl 4 f5, .sl 4 f6, f7, f8]) = 0 + (0 + (0 + (0 + (W (U.sl 1 f4) + (W (U.sl 4 f5) + (W (U.sl 4 f6) + (W f7 + (W f8 + 0)))))))) := rfl
  obtain ⟨m7, hm7⟩ : ∃ m, W f7 = m := ⟨_, rfl⟩
  rw [hm7] at hW
  have h7 : ∀ l : Int, 0 ≤ l → l ≤ 4611686018427387904 → SpecP Tryz.prog 84 [.d f7, .d (.i .i64 l)] [.i .i64 (if (m7 : Int) ≤ l then l - m7 else -1)] := by rw [← hm7]; exact h7
  obtain ⟨e20_0, e20_1, e20_2, rfl, g20_0, g20_1, g20_2⟩ := inv_Type g7
  obtain ⟨m8, hm8⟩ : ∃ m, W f8 = m := ⟨_, rfl⟩
  rw [hm8] at hW
  have h8 : ∀ l : Int, 0 ≤ l → l ≤ 4611686018427387904 → SpecP Tryz.prog 85 [.d f8, .d (.i .i64 l)] [.i .i64 (if (m8 : Int) ≤ l then l - m8 else -1)] := by rw [← hm8]; exact h8
  obtain ⟨e21_0, e21_1, e21_2, e21_3, e21_4, e21_5, e21_6, e21_7, e21_8, rfl, g21_0, g21_1, g21_2, g21_3, g21_4, g21_5, g21_6, g21_7, g21_8⟩ := inv_Core g8
  obtain ⟨e22_0, e22_1, e22_2, rfl, g22_0, g22_1, g22_2⟩ := inv_Type g21_4
  refine SpecP_intro Tryz.func34 rfl (by kernel_rfl) rfl fun A _ => ?_
  refine gGO ?_
  refine VO_q (Q_call rfl (h4 left (by omega) (by omega)) vA) rfl ?_
  refine gGO ?_
  refine V_cond rfl (fun hc => ?_) (fun hc => ?_)
  · refine V_seq_region ?_
    refine gGO ?_
    refine V_ret ?_
    simp only [decide_eq_true_eq] at hc
    exact ⟨trivial, ⟨_, rfl, congrArg (U.i .i64) (by split at hc <;> (rw [if_neg (by omega)]))⟩, trivial⟩
  refine V_skip ?_
  simp only [decide_eq_false_iff_not] at hc
  have hpos4 := hc
  have heq : ∀ (c : Prop) [Decidable c] (a : Int), ¬ (if c then a else -1) < 0 → (if c then a else -1) = a ∧ c := by
    intro c _ a h
    split at h
    · rename_i hc; exact ⟨if_pos hc, hc⟩
    · omega
  obtain ⟨e4, c4⟩ := heq _ _ hc
  rw [e4]
  clear heq hc
  refine gGO ?_
  refine VO_q (Q_call rfl (h5 (left - (W (U.sl 1 f4) : Int)) (by omega) (by omega)) vA) rfl ?_
  refine gGO ?_
  refine V_cond rfl (fun hc => ?_) (fun hc => ?_)
  · refine V_seq_region ?_
    refine gGO ?_
    refine V_ret ?_
    simp only [decide_eq_true_eq] at hc
    exact ⟨trivial, ⟨_, rfl, congrArg (U.i .i64) (by split at hc <;> (rw [if_neg (by omega)]))⟩, trivial⟩
  refine V_skip ?_
  simp only [decide_eq_false_iff_not] at hc
  have hpos5 := hc
  have heq : ∀ (c : Prop) [Decidable c] (a : Int), ¬ (if c then a else -1) < 0 → (if c then a else -1) = a ∧ c := by
    intro c _ a h
    split at h
    · rename_i hc; exact ⟨if_pos hc, hc⟩
    · omega
  obtain ⟨e5, c5⟩ := heq _ _ hc
  rw [e5]
  clear heq hc
  refine gGO ?_
  refine VO_q (Q_call rfl (h6 ((left - (W (U.sl 1 f4) : Int)) - (W (U.sl 4 f5) : Int)) (by omega) (by omega)) vA) rfl ?_
  refine gGO ?_
  refine V_cond rfl (fun hc => ?_) (fun hc => ?_)
  · refine V_seq_region ?_
    refine gGO ?_
    refine V_ret ?_
    simp only [decide_eq_true_eq] at hc
    exact ⟨trivial, ⟨_, rfl, congrArg (U.i .i64) (by split at hc <;> (rw [if_neg (by omega)]))⟩, trivial⟩
  refine V_skip ?_
  simp only [decide_eq_false_iff_not] at hc
  have hpos6 := hc
  have heq : ∀ (c : Prop) [Decidable c] (a : Int), ¬ (if c then a else -1) < 0 → (if c then a else -1) = a ∧ c := by
    intro c _ a h
    split at h
    · rename_i hc; exact ⟨if_pos hc, hc⟩
    · omega
  obtain ⟨e6, c6⟩ := heq _ _ hc
  rw [e6]
  clear heq hc
  refine gGO ?_
  refine VO_q (Q_call rfl (h7 (((left - (W (U.sl 1 f4) : Int)) - (W (U.sl 4 f5) : Int)) - (W (U.sl 4 f6) : Int)) (by omega) (by omega)) vA) rfl ?_
  refine gGO ?_
  refine V_cond rfl (fun hc => ?_) (fun hc => ?_)
  · refine V_seq_region ?_
    refine gGO ?_
    refine V_ret ?_
    simp only [decide_eq_true_eq] at hc
    exact ⟨trivial, ⟨_, rfl, congrArg (U.i .i64) (by split at hc <;> (rw [if_neg (by omega)]))⟩, trivial⟩
  refine V_skip ?_
  simp only [decide_eq_false_iff_not] at hc
  have hpos7 := hc
  have heq : ∀ (c : Prop) [Decidable c] (a : Int), ¬ (if c then a else -1) < 0 → (if c then a else -1) = a ∧ c := by
    intro c _ a h
    split at h
    · rename_i hc; exact ⟨if_pos hc, hc⟩
    · omega
  obtain ⟨e7, c7⟩ := heq _ _ hc
  rw [e7]
  clear heq hc
  refine gGO ?_
  refine VO_q (Q_call rfl (h8 ((((left - (W (U.sl 1 f4) : Int)) - (W (U.sl 4 f5) : Int)) - (W (U.sl 4 f6) : Int)) - (m7 : Int)) (by omega) (by omega)) vA) rfl ?_
  refine gGO ?_
  refine V_cond rfl (fun hc => ?_) (fun hc => ?_)
  · refine V_seq_region ?_
    refine gGO ?_
    refine V_ret ?_
    simp only [decide_eq_true_eq] at hc
    exact ⟨trivial, ⟨_, rfl, congrArg (U.i .i64) (by split at hc <;> (rw [if_neg (by omega)]))⟩, trivial⟩
  refine V_skip ?_
  simp only [decide_eq_false_iff_not] at hc
  have hpos8 := hc
  have heq : ∀ (c : Prop) [Decidable c] (a : Int), ¬ (if c then a else -1) < 0 → (if c then a else -1) = a ∧ c := by
    intro c _ a h
    split at h
    · rename_i hc; exact ⟨if_pos hc, hc⟩
    · omega
  obtain ⟨e8, c8⟩ := heq _ _ hc
  rw [e8]
  clear heq hc
  refine gGO ?_
  refine V_ret ?_
  exact ⟨trivial, ⟨_, rfl, congrArg (U.i .i64) (by rw [if_pos (by omega)]; omega)⟩, trivial⟩
theorem szUnitS_step {us : List U} (hl : us.length ≤ big) (hz : ∀ a ∈ us, a.isSt = true ∧ a.sz = 21) (ih : ∀ a ∈ us, PSz 34 a) : PSz 12 (.sl 21 us) := by
  intro left hl0 hl1
  have hW : W (.sl 21 us) = us.length + Ws us := rfl
  have hb : (us.length : Int) ≤ 140737488355328 := by rw [big_eq] at hl; omega
  refine SpecP_intro Tryz.func12 rfl (by kernel_rfl) rfl fun A _ => ?_
  refine gGO ?_
  refine V_cond rfl (fun hc => ?_) (fun hc => ?_)
  · refine V_seq_region ?_
    refine gGO ?_
    refine V_ret ?_
    simp only [decide_eq_true_eq] at hc
    exact ⟨trivial, ⟨_, rfl, congrArg (U.i .i64) (by rw [if_neg (by omega)])⟩, trivial⟩
  refine V_skip ?_
  simp only [decide_eq_false_iff_not] at hc
  refine gGO ?_
  refine V_block ?_
  refine V_loop (α := Nat × Int)
    (fun x => ⟨[(0, .d (.sl 21 us)), (5, .d (.i .i64 x.1)), (1, .d (.i .i64 x.2))], [], Tryz.f12.ntmps⟩)
    (fun x => x.1 ≤ us.length ∧ 0 ≤ x.2 ∧ x.2 = left - us.length - Ws (us.take x.1))
    (fun x => us.length - x.1) (0, left - us.length) ⟨rfl, ⟨⟨rfl, rfl⟩, ⟨rfl, rfl⟩, ⟨rfl, rfl⟩, trivial⟩, ⟨[], rfl⟩, rfl⟩ ⟨by simp, by simp only; omega, by simp [Ws]⟩ ?_
  rintro ⟨k, l⟩ ⟨hk, hq0, hq1⟩
  simp only at hk hq0 hq1
  refine gGO ?_
  refine V_cond rfl (fun hc2 => ?_) (fun hc2 => ?_)
  · refine V_skip ?_
    simp only [decide_eq_true_eq] at hc2
    have hkl : k < us.length := by omega
    have hget : us[k]? = some us[k] := List.getElem?_eq_getElem hkl
    have hmem : us[k] ∈ us := List.getElem_mem hkl
    have htk := Ws_take_succ hget
    have hle := Ws_take_le us (k + 1)
    obtain ⟨hst, hsz⟩ := hz _ hmem
    refine V_seq (V_block (V_seq_region ?_))
    refine gGO ?_
    refine VO_q (Q_index rfl rfl TE.h TI.h (by omega) hget) rfl ?_
    refine VO_q (Q_load rfl TI.h hst hsz) rfl ?_
    refine gGO ?_
    refine VO_q (Q_call rfl (ih _ hmem l (by omega) (by omega)) vA) rfl ?_
    refine gGO ?_
    refine V_cond rfl (fun hc3 => ?_) (fun hc3 => ?_)
    · refine V_seq_region ?_
      refine gGO ?_
      refine V_ret ?_
      simp only [decide_eq_true_eq] at hc3
      exact ⟨trivial, ⟨_, rfl, congrArg (U.i .i64) (by
        rw [if_neg (by intro hle2; rw [if_pos (by omega)] at hc3; omega)])⟩, trivial⟩
    refine V_skip ?_
    simp only [decide_eq_false_iff_not] at hc3
    refine gGO ?_
    refine ⟨(k + 1, (if (W us[k] : Int) ≤ l then l - W us[k] else -1)), ?_, ?_, ⟨rfl, ⟨⟨rfl, rfl⟩, ⟨rfl, rfl⟩, ⟨rfl, rfl⟩, trivial⟩, ⟨[], rfl⟩, rfl⟩⟩
    · simp only
      refine ⟨by omega, by omega, ?_⟩
      rw [if_pos (by apply Classical.byContradiction; intro hn; rw [if_neg hn] at hc3; omega)]
      omega
    · simp only
      omega
  · refine V_exit ?_
    simp only [decide_eq_false_iff_not] at hc2
    have hkl : k = us.length := by omega
    subst hkl
    rw [List.take_length] at hq1
    show V _ _ _ _ _
    refine gGO ?_
    refine V_ret ?_
    exact ⟨trivial, ⟨_, rfl, congrArg (U.i .i64) (by rw [if_pos (by omega)]; omega)⟩, trivial⟩
theorem szUnit_grp (u : U) : (wt (.st 25) u → PSz 34 u) := by
  refine U.ind (M := fun u => (wt (.st 25) u → PSz 34 u)) (fun u ih => ?_) u
  refine ?_
  · intro h
    obtain ⟨f0, f1, f2, f3, f4, f5, f6, f7, f8, rfl, p0, p1, p2, p3, p4, p5, p6, p7, p8⟩ := inv_Unit h
    exact szUnit_step (szStringS_all p4) (szBoundS_all p5) (szParamS_all p6) p7 (szType_all p7) p8 (szCore_all p8)
theorem szUnit_all {u : U} (h : wt (.st 25) u) : PSz 34 u := (szUnit_grp u) h
theorem szUnitS_all {us : List U} (h : us.length ≤ big ∧ ∀ x ∈ us, wt (.st 25) x) : PSz 12 (.sl 21 us) := szUnitS_step h.1 (fun a ha => ⟨wt_isSt (h.2 a ha), by rw [wt_sz a _ (h.2 a ha)]; rfl⟩) (fun a ha => szUnit_all (h.2 a ha))
theorem szIntS_step {us : List U} (hl : us.length ≤ big) (hz : ∀ a ∈ us, W a = 0) : PSz 35 (.sl 1 us) := by
  intro left hl0 hl1
  have hW : W (.sl 1 us) = us.length + Ws us := rfl
  have hb : (us.length : Int) ≤ 140737488355328 := by rw [big_eq] at hl; omega
  refine SpecP_intro Tryz.func35 rfl (by kernel_rfl) rfl fun A _ => ?_
  refine gGO ?_
  refine V_cond rfl (fun hc => ?_) (fun hc => ?_)
  · refine V_seq_region ?_
    refine gGO ?_
    refine V_ret ?_
    simp only [decide_eq_true_eq] at hc
    exact ⟨trivial, ⟨_, rfl, congrArg (U.i .i64) (by rw [if_neg (by omega)])⟩, trivial⟩
  refine V_skip ?_
  simp only [decide_eq_false_iff_not] at hc
  refine gGO ?_
  refine V_ret ?_
  have h00 : Ws us = 0 := by
    have : ∀ vs : List U, (∀ a ∈ vs, W a = 0) → Ws vs = 0 := by
      intro vs
      induction vs with
      | nil => intro _; rfl
      | cons v vs ih => intro h; simp only [Ws]; rw [h v (by simp), ih (fun a ha => h a (by simp [ha]))]
    exact this us hz
  exact ⟨trivial, ⟨_, rfl, congrArg (U.i .i64) (by rw [if_pos (by omega)]; omega)⟩, trivial⟩
theorem szIntS_all {us : List U} (h : us.length ≤ big ∧ ∀ x ∈ us, wt .int x) : PSz 35 (.sl 1 us) := szIntS_step h.1 (fun a ha => by obtain ⟨n, rfl, _⟩ := inv_int (h.2 a ha); rfl)
theorem szDictionary_step {f0 : Int} {f1 : U} {f2 : List U} {f3 : List U} (g1 : wt (.st 16) f1) (h1 : W f1 = 0) (h2 : PSz 35 (.sl 1 f2)) (h3 : PSz 36 (.sl 5 f3)) : PSz 13 (.st [.i .i64 f0, f1, .sl 1 f2, .sl 5 f3]) := by
  intro left hl0 hl1
  have hW : W (.st [.i .i64 f0, f1, .sl 1 f2, .sl 5 f3]) = 0 + (W f1 + (W (U.sl 1 f2) + (W (U.sl 5 f3) + 0))) := rfl
  obtain ⟨e23_0, e23_1, rfl, g23_0, g23_1⟩ := inv_InstanceRef g1
  refine SpecP_intro Tryz.func13 rfl (by kernel_rfl) rfl fun A _ => ?_
  refine gGO ?_
  refine VO_q (Q_call rfl (h2 left (by omega) (by omega)) vA) rfl ?_
  refine gGO ?_
  refine V_cond rfl (fun hc => ?_) (fun hc => ?_)
  · refine V_seq_region ?_
    refine gGO ?_
    refine V_ret ?_
    simp only [decide_eq_true_eq] at hc
    exact ⟨trivial, ⟨_, rfl, congrArg (U.i .i64) (by split at hc <;> (rw [if_neg (by omega)]))⟩, trivial⟩
  refine V_skip ?_
  simp only [decide_eq_false_iff_not] at hc
  have hpos2 := hc
  have heq : ∀ (c : Prop) [Decidable c] (a : Int), ¬ (if c then a else -1) < 0 → (if c then a else -1) = a ∧ c := by
    intro c _ a h
    split at h
    · rename_i hc; exact ⟨if_pos hc, hc⟩
    · omega
  obtain ⟨e2, c2⟩ := heq _ _ hc
  rw [e2]
  clear heq hc
  refine gGO ?_
  refine VO_q (Q_call rfl (h3 (left - (W (U.sl 1 f2) : Int)) (by omega) (by omega)) vA) rfl ?_
  refine gGO ?_
  refine V_cond rfl (fun hc => ?_) (fun hc => ?_)
  · refine V_seq_region ?_
    refine gGO ?_
    refine V_ret ?_
    simp only [decide_eq_true_eq] at hc
    exact ⟨trivial, ⟨_, rfl, congrArg (U.i .i64) (by split at hc <;> (rw [if_neg (by omega)]))⟩, trivial⟩
  refine V_skip ?_
  simp only [decide_eq_false_iff_not] at hc
  have hpos3 := hc
  have heq : ∀ (c : Prop) [Decidable c] (a : Int), ¬ (if c then a else -1) < 0 → (if c then a else -1) = a ∧ c := by
    intro c _ a h
    split at h
    · rename_i hc; exact ⟨if_pos hc, hc⟩
    · omega
  obtain ⟨e3, c3⟩ := heq _ _ hc
  rw [e3]
  clear heq hc
  refine gGO ?_
  refine V_ret ?_
  exact ⟨trivial, ⟨_, rfl, congrArg (U.i .i64) (by rw [if_pos (by omega)]; omega)⟩, trivial⟩
theorem szDictionaryS_step {us : List U} (hl : us.length ≤ big) (hz : ∀ a ∈ us, a.isSt = true ∧ a.sz = 5) (ih : ∀ a ∈ us, PSz 13 a) : PSz 36 (.sl 5 us) := by
  intro left hl0 hl1
  have hW : W (.sl 5 us) = us.length + Ws us := rfl
  have hb : (us.length : Int) ≤ 140737488355328 := by rw [big_eq] at hl; omega
  refine SpecP_intro Tryz.func36 rfl (by kernel_rfl) rfl fun A _ => ?_
  refine gGO ?_
  refine V_cond rfl (fun hc => ?_) (fun hc => ?_)
  · refine V_seq_region ?_
    refine gGO ?_
    refine V_ret ?_
    simp only [decide_eq_true_eq] at hc
    exact ⟨trivial, ⟨_, rfl, congrArg (U.i .i64) (by rw [if_neg (by omega)])⟩, trivial⟩
  refine V_skip ?_
  simp only [decide_eq_false_iff_not] at hc
  refine gGO ?_
  refine V_block ?_
  refine V_loop (α := Nat × Int)
    (fun x => ⟨[(0, .d (.sl 5 us)), (5, .d (.i .i64 x.1)), (1, .d (.i .i64 x.2))], [], Tryz.f36.ntmps⟩)
    (fun x => x.1 ≤ us.length ∧ 0 ≤ x.2 ∧ x.2 = left - us.length - Ws (us.take x.1))
    (fun x => us.length - x.1) (0, left - us.length) ⟨rfl, ⟨⟨rfl, rfl⟩, ⟨rfl, rfl⟩, ⟨rfl, rfl⟩, trivial⟩, ⟨[], rfl⟩, rfl⟩ ⟨by simp, by simp only; omega, by simp [Ws]⟩ ?_
  rintro ⟨k, l⟩ ⟨hk, hq0, hq1⟩
  simp only at hk hq0 hq1
  refine gGO ?_
  refine V_cond rfl (fun hc2 => ?_) (fun hc2 => ?_)
  · refine V_skip ?_
    simp only [decide_eq_true_eq] at hc2
    have hkl : k < us.length := by omega
    have hget : us[k]? = some us[k] := List.getElem?_eq_getElem hkl
    have hmem : us[k] ∈ us := List.getElem_mem hkl
    have htk := Ws_take_succ hget
    have hle := Ws_take_le us (k + 1)
    obtain ⟨hst, hsz⟩ := hz _ hmem
    refine V_seq (V_block (V_seq_region ?_))
    refine gGO ?_
    refine VO_q (Q_index rfl rfl TE.h TI.h (by omega) hget) rfl ?_
    refine VO_q (Q_load rfl TI.h hst hsz) rfl ?_
    refine gGO ?_
    refine VO_q (Q_call rfl (ih _ hmem l (by omega) (by omega)) vA) rfl ?_
    refine gGO ?_
    refine V_cond rfl (fun hc3 => ?_) (fun hc3 => ?_)
    · refine V_seq_region ?_
      refine gGO ?_
      refine V_ret ?_
      simp only [decide_eq_true_eq] at hc3
      exact ⟨trivial, ⟨_, rfl, congrArg (U.i .i64) (by
        rw [if_neg (by intro hle2; rw [if_pos (by omega)] at hc3; omega)])⟩, trivial⟩
    refine V_skip ?_
    simp only [decide_eq_false_iff_not] at hc3
    refine gGO ?_
    refine ⟨(k + 1, (if (W us[k] : Int) ≤ l then l - W us[k] else -1)), ?_, ?_, ⟨rfl, ⟨⟨rfl, rfl⟩, ⟨rfl, rfl⟩, ⟨rfl, rfl⟩, trivial⟩, ⟨[], rfl⟩, rfl⟩⟩
    · simp only
      refine ⟨by omega, by omega, ?_⟩
      rw [if_pos (by apply Classical.byContradiction; intro hn; rw [if_neg hn] at hc3; omega)]
      omega
    · simp only
      omega
  · refine V_exit ?_
    simp only [decide_eq_false_iff_not] at hc2
    have hkl : k = us.length := by omega
    subst hkl
    rw [List.take_length] at hq1
    show V _ _ _ _ _
    refine gGO ?_
    refine V_ret ?_
    exact ⟨trivial, ⟨_, rfl, congrArg (U.i .i64) (by rw [if_pos (by omega)]; omega)⟩, trivial⟩
theorem szDictionary_grp (u : U) : (wt (.st 26) u → PSz 13 u) := by
  refine U.ind (M := fun u => (wt (.st 26) u → PSz 13 u)) (fun u ih => ?_) u
  refine ?_
  · intro h
    obtain ⟨f0, f1, f2, f3, rfl, p0, p1, p2, p3⟩ := inv_Dictionary h
    exact szDictionary_step p1 (by obtain ⟨y0, y1, rfl, _⟩ := inv_InstanceRef p1; rfl) (szIntS_all p2) (szDictionaryS_step p3.1 (fun a ha => ⟨wt_isSt (p3.2 a ha), by rw [wt_sz a _ (p3.2 a ha)]; rfl⟩) (fun a ha => (ih a (by have := nn_of_mem ha; simp only [U.nn, U.nns]; omega)) (p3.2 a ha)))
theorem szDictionary_all {u : U} (h : wt (.st 26) u) : PSz 13 u := (szDictionary_grp u) h
theorem eqType_step {f0 : Int} {f1 : List UInt8} {f2 : List U} {d0 : Int} {d1 : List UInt8} {d2 : List U} (h1 : f1.length ≤ big) (k1 : d1.length ≤ big) (h2 : PEq 153 (.sl 3 f2) (.sl 3 d2)) : PEq 103 (.st [.i .i64 f0, .s f1, .sl 3 f2]) (.st [.i .i64 d0, .s d1, .sl 3 d2]) := by
  refine SpecP_intro Tryz.func103 rfl (by kernel_rfl) rfl fun A _ => ?_
  refine gGO ?_
  refine V_cond rfl (fun hc => ?_) (fun hc => ?_)
  · refine gREG ?_
    refine gGO ?_
    refine V_ret ?_
    exact ⟨trivial, ⟨_, rfl, congrArg U.b (deq_false.2 (by intro h; injection h with h; injection h with q0 h; injection q0 with _ hk; simp [hk] at hc)).symm⟩, trivial⟩
  refine V_skip ?_
  have e0 := (by simpa using hc : f0 = d0)
  clear hc
  refine gGO ?_
  refine V_cond rfl (fun hc => ?_) (fun hc => ?_)
  · refine gREG ?_
    refine gGO ?_
    refine V_ret ?_
    exact ⟨trivial, ⟨_, rfl, congrArg U.b (deq_false.2 (by intro h; injection h with h; injection h with q0 h; injection h with q1 h; injection q1 with hk; simp [hk] at hc)).symm⟩, trivial⟩
  refine V_skip ?_
  have e1 := (by simpa using hc : f1 = d1)
  clear hc
  refine gGO ?_
  (first | refine VO_q (Q_call rfl h2 vA) rfl ?_ | refine VQ_q (Q_call rfl h2 vA) rfl ?_ | (refine VO_bare rfl rfl rfl rfl ?_; refine VO_q (Q_call rfl h2 vA) rfl ?_) | refine VQ_run rfl rfl rfl rfl (Q_call rfl h2 vA) rfl ?_)
  refine gGO ?_
  refine V_cond rfl (fun hc => ?_) (fun hc => ?_)
  · refine gREG ?_
    refine gGO ?_
    refine V_ret ?_
    exact ⟨trivial, ⟨_, rfl, congrArg U.b (deq_false.2 (by intro h; injection h with h; injection h with q0 h; injection h with q1 h; injection h with q2 h; rw [q2, deq_self] at hc; cases hc)).symm⟩, trivial⟩
  refine V_skip ?_
  have e2 := deq_true.1 (by simpa using hc : deq _ _ = true)
  clear hc
  refine gGO ?_
  refine V_ret ?_
  exact ⟨trivial, ⟨_, rfl, congrArg U.b (deq_true.2 (by rw [e0, e1, e2])).symm⟩, trivial⟩
theorem eqTypeS_step {us vs : List U} (hb1 : us.length ≤ big) (hb2 : vs.length ≤ big) (hz : ∀ a ∈ us, a.isSt = true ∧ a.sz = 3) (hz2 : ∀ a ∈ vs, a.isSt = true ∧ a.sz = 3) (ih : ∀ a ∈ us, ∀ b ∈ vs, PEq 103 a b) : PEq 153 (.sl 3 us) (.sl 3 vs) := by
  rw [big_eq] at hb1 hb2
  refine SpecP_intro Tryz.func153 rfl (by kernel_rfl) rfl fun A _ => ?_
  refine gGO ?_
  refine V_cond rfl (fun hc => ?_) (fun hc => ?_)
  · refine gREG ?_
    refine gGO ?_
    refine V_ret ?_
    exact ⟨trivial, ⟨_, rfl, congrArg U.b (deq_false.2 (by intro h; injection h with _ h; subst h; simp at hc)).symm⟩, trivial⟩
  refine V_skip ?_
  have hll : us.length = vs.length := by simp at hc; omega
  refine gGO ?_
  refine V_block ?_
  refine V_loop (α := Nat)
    (fun k => ⟨[(0, .d (.sl 3 us)), (1, .d (.sl 3 vs)), (5, .d (.i .i64 k))], [], Tryz.f153.ntmps⟩)
    (fun k => k ≤ us.length ∧ ∀ j, j < k → us[j]? = vs[j]?)
    (fun k => us.length - k) 0 ⟨rfl, ⟨⟨rfl, rfl⟩, ⟨rfl, rfl⟩, ⟨rfl, rfl⟩, trivial⟩, ⟨[], rfl⟩, rfl⟩ ⟨by simp, by simp⟩ ?_
  rintro k ⟨hk, hsame⟩
  refine gGO ?_
  refine V_cond rfl (fun hc2 => ?_) (fun hc2 => ?_)
  · refine V_skip ?_
    simp only [decide_eq_true_eq] at hc2
    have hkl : k < us.length := by omega
    have hkv : k < vs.length := by omega
    have hget : us[k]? = some us[k] := List.getElem?_eq_getElem hkl
    have hgev : vs[k]? = some vs[k] := List.getElem?_eq_getElem hkv
    have hmem : us[k] ∈ us := List.getElem_mem hkl
    have hmev : vs[k] ∈ vs := List.getElem_mem hkv
    obtain ⟨hst, hsz⟩ := hz _ hmem
    obtain ⟨hst2, hsz2⟩ := hz2 _ hmev
    refine V_seq (V_block ?_)
    refine gGO ?_
    (first | refine VO_q (Q_index rfl rfl TE.h TI.h (by omega) hget) rfl ?_ | refine VQ_q (Q_index rfl rfl TE.h TI.h (by omega) hget) rfl ?_ | (refine VO_bare rfl rfl rfl rfl ?_; refine VO_q (Q_index rfl rfl TE.h TI.h (by omega) hget) rfl ?_) | refine VQ_run rfl rfl rfl rfl (Q_index rfl rfl TE.h TI.h (by omega) hget) rfl ?_)
    (first | refine VO_q (Q_load rfl TI.h hst hsz) rfl ?_ | refine VQ_q (Q_load rfl TI.h hst hsz) rfl ?_ | (refine VO_bare rfl rfl rfl rfl ?_; refine VO_q (Q_load rfl TI.h hst hsz) rfl ?_) | refine VQ_run rfl rfl rfl rfl (Q_load rfl TI.h hst hsz) rfl ?_)
    refine gGO ?_
    (first | refine VO_q (Q_index rfl rfl TE.h TI.h (by omega) hgev) rfl ?_ | refine VQ_q (Q_index rfl rfl TE.h TI.h (by omega) hgev) rfl ?_ | (refine VO_bare rfl rfl rfl rfl ?_; refine VO_q (Q_index rfl rfl TE.h TI.h (by omega) hgev) rfl ?_) | refine VQ_run rfl rfl rfl rfl (Q_index rfl rfl TE.h TI.h (by omega) hgev) rfl ?_)
    (first | refine VO_q (Q_load rfl TI.h hst2 hsz2) rfl ?_ | refine VQ_q (Q_load rfl TI.h hst2 hsz2) rfl ?_ | (refine VO_bare rfl rfl rfl rfl ?_; refine VO_q (Q_load rfl TI.h hst2 hsz2) rfl ?_) | refine VQ_run rfl rfl rfl rfl (Q_load rfl TI.h hst2 hsz2) rfl ?_)
    (first | refine VO_q (Q_call rfl (ih _ hmem _ hmev) vA) rfl ?_ | refine VQ_q (Q_call rfl (ih _ hmem _ hmev) vA) rfl ?_ | (refine VO_bare rfl rfl rfl rfl ?_; refine VO_q (Q_call rfl (ih _ hmem _ hmev) vA) rfl ?_) | refine VQ_run rfl rfl rfl rfl (Q_call rfl (ih _ hmem _ hmev) vA) rfl ?_)
    refine gGO ?_
    refine V_cond rfl (fun hc3 => ?_) (fun hc3 => ?_)
    · refine gREG ?_
      refine gGO ?_
      refine V_ret ?_
      exact ⟨trivial, ⟨_, rfl, congrArg U.b (deq_false.2 (by intro h; injection h with _ h; subst h; rw [deq_self] at hc3; cases hc3)).symm⟩, trivial⟩
    refine V_skip ?_
    have heq : us[k] = vs[k] := deq_true.1 (by simpa using hc3)
    refine gGO ?_
    refine ⟨k + 1, ⟨by omega, fun j hj => ?_⟩, by omega, ⟨rfl, ⟨⟨rfl, rfl⟩, ⟨rfl, rfl⟩, ⟨rfl, rfl⟩, trivial⟩, ⟨[], rfl⟩, rfl⟩⟩
    by_cases hjk : j = k
    · subst hjk; rw [hget, hgev, heq]
    · exact hsame j (by omega)
  · refine V_exit ?_
    simp only [decide_eq_false_iff_not] at hc2
    have hkl : k = us.length := by omega
    subst hkl
    have hall : us = vs := by
      apply List.ext_getElem?
      intro j
      by_cases hj : j < us.length
      · exact hsame j hj
      · rw [List.getElem?_eq_none (by omega), List.getElem?_eq_none (by omega)]
    show V _ _ _ _ _
    refine gGO ?_
    refine V_ret ?_
    exact ⟨trivial, ⟨_, rfl, congrArg U.b (deq_true.2 (by rw [hall])).symm⟩, trivial⟩
theorem eqType_grp (u : U) : (∀ v, wt (.st 1) u → wt (.st 1) v → PEq 103 u v) := by
  refine U.ind (M := fun u => (∀ v, wt (.st 1) u → wt (.st 1) v → PEq 103 u v)) (fun u ih => ?_) u
  refine ?_
  · intro v h h2
    obtain ⟨f0, f1, f2, rfl, p0, p1, p2⟩ := inv_Type h
    obtain ⟨d0, d1, d2, rfl, q0, q1, q2⟩ := inv_Type h2
    exact eqType_step p1 q1 (eqTypeS_step p2.1 q2.1 (fun a ha => ⟨wt_isSt (p2.2 a ha), by rw [wt_sz a _ (p2.2 a ha)]; rfl⟩) (fun a ha => ⟨wt_isSt (q2.2 a ha), by rw [wt_sz a _ (q2.2 a ha)]; rfl⟩) (fun a ha b hb => (ih a (by have := nn_of_mem ha; simp only [U.nn, U.nns]; omega)) b (p2.2 a ha) (q2.2 b hb)))
theorem eqType_all {u v : U} (h : wt (.st 1) u) (h2 : wt (.st 1) v) : PEq 103 u v := (eqType_grp u) v h h2
theorem eqTypeS_all {us vs : List U} (h : us.length ≤ big ∧ ∀ x ∈ us, wt (.st 1) x) (h2 : vs.length ≤ big ∧ ∀ x ∈ vs, wt (.st 1) x) : PEq 153 (.sl 3 us) (.sl 3 vs) := eqTypeS_step h.1 h2.1 (fun a ha => ⟨wt_isSt (h.2 a ha), by rw [wt_sz a _ (h.2 a ha)]; rfl⟩) (fun a ha => ⟨wt_isSt (h2.2 a ha), by rw [wt_sz a _ (h2.2 a ha)]; rfl⟩) (fun a ha b hb => eqType_all (h.2 a ha) (h2.2 b hb))
theorem eqStringS_step {us vs : List U} (hb1 : us.length ≤ big) (hb2 : vs.length ≤ big) (hz : ∀ a ∈ us, ∃ l : List UInt8, a = .s l ∧ l.length ≤ big) (hz2 : ∀ a ∈ vs, ∃ l : List UInt8, a = .s l ∧ l.length ≤ big) : PEq 100 (.sl 1 us) (.sl 1 vs) := by
  rw [big_eq] at hb1 hb2
  refine SpecP_intro Tryz.func100 rfl (by kernel_rfl) rfl fun A _ => ?_
  refine gGO ?_
  refine V_cond rfl (fun hc => ?_) (fun hc => ?_)
  · refine gREG ?_
    refine gGO ?_
    refine V_ret ?_
    exact ⟨trivial, ⟨_, rfl, congrArg U.b (deq_false.2 (by intro h; injection h with _ h; subst h; simp at hc)).symm⟩, trivial⟩
  refine V_skip ?_
  have hll : us.length = vs.length := by simp at hc; omega
  refine gGO ?_
  refine V_block ?_
  refine V_loop (α := Nat)
    (fun k => ⟨[(0, .d (.sl 1 us)), (1, .d (.sl 1 vs)), (5, .d (.i .i64 k))], [], Tryz.f100.ntmps⟩)
    (fun k => k ≤ us.length ∧ ∀ j, j < k → us[j]? = vs[j]?)
    (fun k => us.length - k) 0 ⟨rfl, ⟨⟨rfl, rfl⟩, ⟨rfl, rfl⟩, ⟨rfl, rfl⟩, trivial⟩, ⟨[], rfl⟩, rfl⟩ ⟨by simp, by simp⟩ ?_
  rintro k ⟨hk, hsame⟩
  refine gGO ?_
  refine V_cond rfl (fun hc2 => ?_) (fun hc2 => ?_)
  · refine V_skip ?_
    simp only [decide_eq_true_eq] at hc2
    have hkl : k < us.length := by omega
    have hkv : k < vs.length := by omega
    have hget : us[k]? = some us[k] := List.getElem?_eq_getElem hkl
    have hgev : vs[k]? = some vs[k] := List.getElem?_eq_getElem hkv
    have hmem : us[k] ∈ us := List.getElem_mem hkl
    have hmev : vs[k] ∈ vs := List.getElem_mem hkv
    obtain ⟨l1, h1, _⟩ := hz _ hmem
    obtain ⟨l2, h2, _⟩ := hz2 _ hmev
    have hg1 : us[k]? = some (.s l1) := by rw [hget, h1]
    have hg2 : vs[k]? = some (.s l2) := by rw [hgev, h2]
    refine V_seq (V_block ?_)
    refine gGO ?_
    (first | refine VO_q (Q_index rfl rfl TE.h TI.h (by omega) hg1) rfl ?_ | refine VQ_q (Q_index rfl rfl TE.h TI.h (by omega) hg1) rfl ?_ | (refine VO_bare rfl rfl rfl rfl ?_; refine VO_q (Q_index rfl rfl TE.h TI.h (by omega) hg1) rfl ?_) | refine VQ_run rfl rfl rfl rfl (Q_index rfl rfl TE.h TI.h (by omega) hg1) rfl ?_)
    refine gGO ?_
    (first | refine VO_q (Q_index rfl rfl TE.h TI.h (by omega) hg2) rfl ?_ | refine VQ_q (Q_index rfl rfl TE.h TI.h (by omega) hg2) rfl ?_ | (refine VO_bare rfl rfl rfl rfl ?_; refine VO_q (Q_index rfl rfl TE.h TI.h (by omega) hg2) rfl ?_) | refine VQ_run rfl rfl rfl rfl (Q_index rfl rfl TE.h TI.h (by omega) hg2) rfl ?_)
    refine gGO ?_
    refine V_cond rfl (fun hc3 => ?_) (fun hc3 => ?_)
    · refine gREG ?_
      refine gGO ?_
      refine V_ret ?_
      exact ⟨trivial, ⟨_, rfl, congrArg U.b (deq_false.2 (by intro h; injection h with _ h; subst h; rw [hg1] at hg2; injection hg2 with hg2; injection hg2; simp_all)).symm⟩, trivial⟩
    refine V_skip ?_
    have heq : us[k] = vs[k] := by rw [h1, h2]; simp at hc3; rw [hc3]
    refine gGO ?_
    refine ⟨k + 1, ⟨by omega, fun j hj => ?_⟩, by omega, ⟨rfl, ⟨⟨rfl, rfl⟩, ⟨rfl, rfl⟩, ⟨rfl, rfl⟩, trivial⟩, ⟨[], rfl⟩, rfl⟩⟩
    by_cases hjk : j = k
    · subst hjk; rw [hget, hgev, heq]
    · exact hsame j (by omega)
  · refine V_exit ?_
    simp only [decide_eq_false_iff_not] at hc2
    have hkl : k = us.length := by omega
    subst hkl
    have hall : us = vs := by
      apply List.ext_getElem?
      intro j
      by_cases hj : j < us.length
      · exact hsame j hj
      · rw [List.getElem?_eq_none (by omega), List.getElem?_eq_none (by omega)]
    show V _ _ _ _ _
    refine gGO ?_
    refine V_ret ?_
    exact ⟨trivial, ⟨_, rfl, congrArg U.b (deq_true.2 (by rw [hall])).symm⟩, trivial⟩
theorem eqStringS_all {us vs : List U} (h : us.length ≤ big ∧ ∀ x ∈ us, wt .str x) (h2 : vs.length ≤ big ∧ ∀ x ∈ vs, wt .str x) : PEq 100 (.sl 1 us) (.sl 1 vs) := eqStringS_step h.1 h2.1 (fun a ha => inv_str (h.2 a ha)) (fun a ha => inv_str (h2.2 a ha))
theorem eqArm_step {f0 : List UInt8} {f1 : List U} {f2 : U} {d0 : List UInt8} {d1 : List U} {d2 : U} (h0 : f0.length ≤ big) (k0 : d0.length ≤ big) (h1 : PEq 100 (.sl 1 f1) (.sl 1 d1)) (g2 : wt (.st 4) f2) (j2 : wt (.st 4) d2) (h2 : PEq 196 f2 d2) : PEq 214 (.st [.s f0, .sl 1 f1, f2]) (.st [.s d0, .sl 1 d1, d2]) := by
  obtain ⟨e47_0, e47_1, e47_2, e47_3, e47_4, e47_5, e47_6, rfl, g47_0, g47_1, g47_2, g47_3, g47_4, g47_5, g47_6⟩ := inv_Expr g2
  obtain ⟨e48_0, e48_1, e48_2, rfl, g48_0, g48_1, g48_2⟩ := inv_Type g47_4
  obtain ⟨e49_0, e49_1, e49_2, e49_3, e49_4, e49_5, e49_6, rfl, g49_0, g49_1, g49_2, g49_3, g49_4, g49_5, g49_6⟩ := inv_Expr j2
  obtain ⟨e50_0, e50_1, e50_2, rfl, g50_0, g50_1, g50_2⟩ := inv_Type g49_4
  refine SpecP_intro Tryz.func214 rfl (by kernel_rfl) rfl fun A _ => ?_
  refine gGO ?_
  refine V_cond rfl (fun hc => ?_) (fun hc => ?_)
  · refine gREG ?_
    refine gGO ?_
    refine V_ret ?_
    exact ⟨trivial, ⟨_, rfl, congrArg U.b (deq_false.2 (by intro h; injection h with h; injection h with q0 h; injection q0 with hk; simp [hk] at hc)).symm⟩, trivial⟩
  refine V_skip ?_
  have e0 := (by simpa using hc : f0 = d0)
  clear hc
  refine gGO ?_
  (first | refine VO_q (Q_call rfl h1 vA) rfl ?_ | refine VQ_q (Q_call rfl h1 vA) rfl ?_ | (refine VO_bare rfl rfl rfl rfl ?_; refine VO_q (Q_call rfl h1 vA) rfl ?_) | refine VQ_run rfl rfl rfl rfl (Q_call rfl h1 vA) rfl ?_)
  refine gGO ?_
  refine V_cond rfl (fun hc => ?_) (fun hc => ?_)
  · refine gREG ?_
    refine gGO ?_
    refine V_ret ?_
    exact ⟨trivial, ⟨_, rfl, congrArg U.b (deq_false.2 (by intro h; injection h with h; injection h with q0 h; injection h with q1 h; rw [q1, deq_self] at hc; cases hc)).symm⟩, trivial⟩
  refine V_skip ?_
  have e1 := deq_true.1 (by simpa using hc : deq _ _ = true)
  clear hc
  refine gGO ?_
  (first | refine VO_q (Q_call rfl h2 vA) rfl ?_ | refine VQ_q (Q_call rfl h2 vA) rfl ?_ | (refine VO_bare rfl rfl rfl rfl ?_; refine VO_q (Q_call rfl h2 vA) rfl ?_) | refine VQ_run rfl rfl rfl rfl (Q_call rfl h2 vA) rfl ?_)
  refine gGO ?_
  refine V_cond rfl (fun hc => ?_) (fun hc => ?_)
  · refine gREG ?_
    refine gGO ?_
    refine V_ret ?_
    exact ⟨trivial, ⟨_, rfl, congrArg U.b (deq_false.2 (by intro h; injection h with h; injection h with q0 h; injection h with q1 h; injection h with q2 h; rw [q2, deq_self] at hc; cases hc)).symm⟩, trivial⟩
  refine V_skip ?_
  have e2 := deq_true.1 (by simpa using hc : deq _ _ = true)
  clear hc
  refine gGO ?_
  refine V_ret ?_
  exact ⟨trivial, ⟨_, rfl, congrArg U.b (deq_true.2 (by rw [e0, e1, e2])).symm⟩, trivial⟩
theorem eqArmS_step {us vs : List U} (hb1 : us.length ≤ big) (hb2 : vs.length ≤ big) (hz : ∀ a ∈ us, a.isSt = true ∧ a.sz = 11) (hz2 : ∀ a ∈ vs, a.isSt = true ∧ a.sz = 11) (ih : ∀ a ∈ us, ∀ b ∈ vs, PEq 214 a b) : PEq 211 (.sl 11 us) (.sl 11 vs) := by
  rw [big_eq] at hb1 hb2
  refine SpecP_intro Tryz.func211 rfl (by kernel_rfl) rfl fun A _ => ?_
  refine gGO ?_
  refine V_cond rfl (fun hc => ?_) (fun hc => ?_)
  · refine gREG ?_
    refine gGO ?_
    refine V_ret ?_
    exact ⟨trivial, ⟨_, rfl, congrArg U.b (deq_false.2 (by intro h; injection h with _ h; subst h; simp at hc)).symm⟩, trivial⟩
  refine V_skip ?_
  have hll : us.length = vs.length := by simp at hc; omega
  refine gGO ?_
  refine V_block ?_
  refine V_loop (α := Nat)
    (fun k => ⟨[(0, .d (.sl 11 us)), (1, .d (.sl 11 vs)), (5, .d (.i .i64 k))], [], Tryz.f211.ntmps⟩)
    (fun k => k ≤ us.length ∧ ∀ j, j < k → us[j]? = vs[j]?)
    (fun k => us.length - k) 0 ⟨rfl, ⟨⟨rfl, rfl⟩, ⟨rfl, rfl⟩, ⟨rfl, rfl⟩, trivial⟩, ⟨[], rfl⟩, rfl⟩ ⟨by simp, by simp⟩ ?_
  rintro k ⟨hk, hsame⟩
  refine gGO ?_
  refine V_cond rfl (fun hc2 => ?_) (fun hc2 => ?_)
  · refine V_skip ?_
    simp only [decide_eq_true_eq] at hc2
    have hkl : k < us.length := by omega
    have hkv : k < vs.length := by omega
    have hget : us[k]? = some us[k] := List.getElem?_eq_getElem hkl
    have hgev : vs[k]? = some vs[k] := List.getElem?_eq_getElem hkv
    have hmem : us[k] ∈ us := List.getElem_mem hkl
    have hmev : vs[k] ∈ vs := List.getElem_mem hkv
    obtain ⟨hst, hsz⟩ := hz _ hmem
    obtain ⟨hst2, hsz2⟩ := hz2 _ hmev
    refine V_seq (V_block ?_)
    refine gGO ?_
    (first | refine VO_q (Q_index rfl rfl TE.h TI.h (by omega) hget) rfl ?_ | refine VQ_q (Q_index rfl rfl TE.h TI.h (by omega) hget) rfl ?_ | (refine VO_bare rfl rfl rfl rfl ?_; refine VO_q (Q_index rfl rfl TE.h TI.h (by omega) hget) rfl ?_) | refine VQ_run rfl rfl rfl rfl (Q_index rfl rfl TE.h TI.h (by omega) hget) rfl ?_)
    (first | refine VO_q (Q_load rfl TI.h hst hsz) rfl ?_ | refine VQ_q (Q_load rfl TI.h hst hsz) rfl ?_ | (refine VO_bare rfl rfl rfl rfl ?_; refine VO_q (Q_load rfl TI.h hst hsz) rfl ?_) | refine VQ_run rfl rfl rfl rfl (Q_load rfl TI.h hst hsz) rfl ?_)
    refine gGO ?_
    (first | refine VO_q (Q_index rfl rfl TE.h TI.h (by omega) hgev) rfl ?_ | refine VQ_q (Q_index rfl rfl TE.h TI.h (by omega) hgev) rfl ?_ | (refine VO_bare rfl rfl rfl rfl ?_; refine VO_q (Q_index rfl rfl TE.h TI.h (by omega) hgev) rfl ?_) | refine VQ_run rfl rfl rfl rfl (Q_index rfl rfl TE.h TI.h (by omega) hgev) rfl ?_)
    (first | refine VO_q (Q_load rfl TI.h hst2 hsz2) rfl ?_ | refine VQ_q (Q_load rfl TI.h hst2 hsz2) rfl ?_ | (refine VO_bare rfl rfl rfl rfl ?_; refine VO_q (Q_load rfl TI.h hst2 hsz2) rfl ?_) | refine VQ_run rfl rfl rfl rfl (Q_load rfl TI.h hst2 hsz2) rfl ?_)
    (first | refine VO_q (Q_call rfl (ih _ hmem _ hmev) vA) rfl ?_ | refine VQ_q (Q_call rfl (ih _ hmem _ hmev) vA) rfl ?_ | (refine VO_bare rfl rfl rfl rfl ?_; refine VO_q (Q_call rfl (ih _ hmem _ hmev) vA) rfl ?_) | refine VQ_run rfl rfl rfl rfl (Q_call rfl (ih _ hmem _ hmev) vA) rfl ?_)
    refine gGO ?_
    refine V_cond rfl (fun hc3 => ?_) (fun hc3 => ?_)
    · refine gREG ?_
      refine gGO ?_
      refine V_ret ?_
      exact ⟨trivial, ⟨_, rfl, congrArg U.b (deq_false.2 (by intro h; injection h with _ h; subst h; rw [deq_self] at hc3; cases hc3)).symm⟩, trivial⟩
    refine V_skip ?_
    have heq : us[k] = vs[k] := deq_true.1 (by simpa using hc3)
    refine gGO ?_
    refine ⟨k + 1, ⟨by omega, fun j hj => ?_⟩, by omega, ⟨rfl, ⟨⟨rfl, rfl⟩, ⟨rfl, rfl⟩, ⟨rfl, rfl⟩, trivial⟩, ⟨[], rfl⟩, rfl⟩⟩
    by_cases hjk : j = k
    · subst hjk; rw [hget, hgev, heq]
    · exact hsame j (by omega)
  · refine V_exit ?_
    simp only [decide_eq_false_iff_not] at hc2
    have hkl : k = us.length := by omega
    subst hkl
    have hall : us = vs := by
      apply List.ext_getElem?
      intro j
      by_cases hj : j < us.length
      · exact hsame j hj
      · rw [List.getElem?_eq_none (by omega), List.getElem?_eq_none (by omega)]
    show V _ _ _ _ _
    refine gGO ?_
    refine V_ret ?_
    exact ⟨trivial, ⟨_, rfl, congrArg U.b (deq_true.2 (by rw [hall])).symm⟩, trivial⟩
end Go.Proofs.YthojhakapbfbiaaGreat
