/- The contracts of the laws' own helpers (size checks, copies, comparisons). Written by a program of mine (fam.py). -/
import Derived.Test.YtihihldpcgiibaaGreatFacts
import Derived.Test.YtihihldpcgiibaaGreatEng46
set_option linter.unusedVariables false
set_option linter.unusedSimpArgs false
namespace Go.Proofs.YtihihldpcgiibaaGreat
open Go Go.Eng
attribute [local irreducible] V VO VQ Quiet SpecP
abbrev PSz (f : Nat) (u : U) : Prop := ∀ l : Int, 0 ≤ l → l ≤ 4611686018427387904 → SpecP Tryz.prog f [.d u, .d (.i .i64 l)] [.i .i64 (if (W u : Int) ≤ l then l - W u else -1)]
abbrev PTo (f : Nat) (u : U) : Prop := W u ≤ 1048576 → SpecP Tryz.prog f [.d u] [u]
abbrev PEq (f : Nat) (u v : U) : Prop := SpecP Tryz.prog f [.d u, .d v] [.b (deq u v)]

theorem zI {S : Nat → Prop} {w : World} : Rd S w (.i .i64 0) [.int .i64 0] := by simp [Rd]
theorem zB {S : Nat → Prop} {w : World} : Rd S w (.b false) [.bool false] := by simp [Rd]
theorem zS {S : Nat → Prop} {w : World} : Rd S w (.s []) [.string ⟨#[]⟩] := by simp [Rd, big]
theorem zL {S : Nat → Prop} {w : World} {z : Nat} : Rd S w (.sl z []) [.slice none 0 0] := by
  simp only [Rd]
  exact ⟨by simp [big], none, 0, rfl, .inl trivial⟩
/-- What a copy holds after k rounds. -/
def fillU (us : List U) (zu : U) (k : Nat) : List U := us.take k ++ List.replicate (us.length - k) zu
theorem fillU_zero (us : List U) (zu : U) : List.replicate us.length zu = fillU us zu 0 := by simp [fillU]
theorem fillU_all (us : List U) (zu : U) : fillU us zu us.length = us := by simp [fillU]
theorem fillU_length {us : List U} {zu : U} {k : Nat} (h : k ≤ us.length) : (fillU us zu k).length = us.length := by simp [fillU]; omega
theorem fillU_set {us : List U} {zu u : U} {k : Nat} (h : us[k]? = some u) : (fillU us zu k).set k u = fillU us zu (k + 1) := by
  obtain ⟨hk, rfl⟩ := List.getElem?_eq_some_iff.1 h
  unfold fillU
  have hl : (us.take k).length = k := by simp; omega
  rw [List.set_append_right _ _ (by omega), hl, Nat.sub_self]
  rw [show us.length - k = (us.length - (k + 1)) + 1 by omega, List.replicate_succ, List.set_cons_zero, List.take_succ_eq_append_getElem hk, List.append_assoc]
  rfl

theorem szType_step {f0 : Int} {f1 : List UInt8} {f2 : List U} (h1 : f1.length ≤ big) (h2 : PSz 62 (.sl 3 f2)) : PSz 17 (.st [.i .i64 f0, .s f1, .sl 3 f2]) := by
  intro left hl0 hl1
  have hW : W (.st [.i .i64 f0, .s f1, .sl 3 f2]) = 0 + (f1.length + (W (U.sl 3 f2) + 0)) := rfl
  have hb1 : f1.length ≤ 140737488355328 := by rw [big_eq] at h1; exact h1
  refine SpecP_intro Tryz.func17 rfl (by kernel_rfl) rfl fun A => ?_
  refine V_seq_region ?_
  repeat refine VO_d ?_
  refine VO_nil ?_
  refine V_seq_region ?_
  repeat refine VO_d ?_
  refine VO_nil ?_
  refine V_seq (V_seq_region ?_)
  repeat refine VO_d ?_
  refine VO_nil ?_
  refine V_cond rfl (fun hc => ?_) (fun hc => ?_)
  · refine V_seq_region ?_
    repeat refine VO_d ?_
    refine VO_nil ?_
    refine V_ret ?_
    simp only [decide_eq_true_eq] at hc
    exact ⟨trivial, ⟨_, rfl, congrArg (U.i .i64) (by rw [if_neg (by omega)])⟩, trivial⟩
  refine V_skip ?_
  simp only [decide_eq_false_iff_not] at hc
  refine V_seq_region ?_
  repeat refine VO_d ?_
  refine VO_q (Q_call rfl (h2 (left - (f1.length : Int)) (by omega) (by omega)) vA) rfl ?_
  repeat refine VO_d ?_
  refine VO_nil ?_
  refine V_seq (V_seq_region ?_)
  repeat refine VO_d ?_
  refine VO_nil ?_
  refine V_cond rfl (fun hc => ?_) (fun hc => ?_)
  · refine V_seq_region ?_
    repeat refine VO_d ?_
    refine VO_nil ?_
    refine V_ret ?_
    simp only [decide_eq_true_eq] at hc
    exact ⟨trivial, ⟨_, rfl, congrArg (U.i .i64) (by split at hc <;> (rw [if_neg (by omega)]))⟩, trivial⟩
  refine V_skip ?_
  simp only [decide_eq_false_iff_not] at hc
  have hpos2 := hc
  have heq : ∀ (c : Prop) [Decidable c] (a : Int), ¬ (if c then a else -1) < 0 → (if c then a else -1) = a ∧ c := by
    intro c _ a h
    split at h
    · rename_i hc; exact ⟨if_pos hc, hc⟩
    · omega
  obtain ⟨e2, c2⟩ := heq _ _ hc
  rw [e2]
  clear heq hc
  refine V_seq_region ?_
  repeat refine VO_d ?_
  refine VO_nil ?_
  refine V_ret ?_
  exact ⟨trivial, ⟨_, rfl, congrArg (U.i .i64) (by rw [if_pos (by omega)]; omega)⟩, trivial⟩

theorem szTypeS_step {us : List U} (hl : us.length ≤ big) (hz : ∀ a ∈ us, a.isSt = true ∧ a.sz = 3) (ih : ∀ a ∈ us, PSz 17 a) : PSz 62 (.sl 3 us) := by
  intro left hl0 hl1
  have hW : W (.sl 3 us) = us.length + Ws us := rfl
  have hb : (us.length : Int) ≤ 140737488355328 := by rw [big_eq] at hl; omega
  refine SpecP_intro Tryz.func62 rfl (by kernel_rfl) rfl fun A => ?_
  refine V_seq_region ?_
  repeat refine VO_d ?_
  refine VO_nil ?_
  refine V_seq_region ?_
  repeat refine VO_d ?_
  refine VO_nil ?_
  refine V_seq (V_seq_region ?_)
  repeat refine VO_d ?_
  refine VO_nil ?_
  refine V_cond rfl (fun hc => ?_) (fun hc => ?_)
  · refine V_seq_region ?_
    repeat refine VO_d ?_
    refine VO_nil ?_
    refine V_ret ?_
    simp only [decide_eq_true_eq] at hc
    exact ⟨trivial, ⟨_, rfl, congrArg (U.i .i64) (by rw [if_neg (by omega)])⟩, trivial⟩
  refine V_skip ?_
  simp only [decide_eq_false_iff_not] at hc
  refine V_seq (V_seq_region ?_)
  repeat refine VO_d ?_
  refine VO_nil ?_
  refine V_block ?_
  refine V_loop (α := Nat × Int)
    (fun x => ⟨[(0, .d (.sl 3 us)), (5, .d (.i .i64 x.1)), (1, .d (.i .i64 x.2))], [], Tryz.f62.ntmps⟩)
    (fun x => x.1 ≤ us.length ∧ 0 ≤ x.2 ∧ x.2 = left - us.length - Ws (us.take x.1))
    (fun x => us.length - x.1) (0, left - us.length) ⟨rfl, ⟨⟨rfl, rfl⟩, ⟨rfl, rfl⟩, ⟨rfl, rfl⟩, trivial⟩, ⟨[], rfl⟩, rfl⟩ ⟨by simp, by simp only; omega, by simp [Ws]⟩ ?_
  rintro ⟨k, l⟩ ⟨hk, hq0, hq1⟩
  simp only at hk hq0 hq1
  refine V_seq (V_seq_region ?_)
  repeat refine VO_d ?_
  refine VO_nil ?_
  refine V_cond rfl (fun hc2 => ?_) (fun hc2 => ?_)
  · refine V_skip ?_
    simp only [decide_eq_true_eq] at hc2
    have hkl : k < us.length := by omega
    have hget : us[k]? = some us[k] := List.getElem?_eq_getElem hkl
    have hmem : us[k] ∈ us := List.getElem_mem hkl
    have htk := Ws_take_succ hget
    have hle := Ws_take_le us (k + 1)
    obtain ⟨hst, hsz⟩ := hz _ hmem
    refine V_seq (V_block (V_seq_region ?_))
    repeat refine VO_d ?_
    refine VO_q (Q_index rfl rfl TE.h TI.h (by omega) hget) rfl ?_
    refine VO_q (Q_load rfl TI.h hst hsz) rfl ?_
    repeat refine VO_d ?_
    refine VO_q (Q_call rfl (ih _ hmem l (by omega) (by omega)) vA) rfl ?_
    repeat refine VO_d ?_
    refine VO_nil ?_
    refine V_seq_region ?_
    repeat refine VO_d ?_
    refine VO_nil ?_
    refine V_cond rfl (fun hc3 => ?_) (fun hc3 => ?_)
    · refine V_seq_region ?_
      repeat refine VO_d ?_
      refine VO_nil ?_
      refine V_ret ?_
      simp only [decide_eq_true_eq] at hc3
      exact ⟨trivial, ⟨_, rfl, congrArg (U.i .i64) (by
        rw [if_neg (by intro hle2; rw [if_pos (by omega)] at hc3; omega)])⟩, trivial⟩
    refine V_skip ?_
    simp only [decide_eq_false_iff_not] at hc3
    refine V_region ?_
    repeat refine VO_d ?_
    refine VO_nil ?_
    refine ⟨(k + 1, (if (W us[k] : Int) ≤ l then l - W us[k] else -1)), ?_, ?_, ⟨rfl, ⟨⟨rfl, rfl⟩, ⟨rfl, rfl⟩, ⟨rfl, rfl⟩, trivial⟩, ⟨[], rfl⟩, rfl⟩⟩
    · simp only
      refine ⟨by omega, by omega, ?_⟩
      rw [if_pos (by apply Classical.byContradiction; intro hn; rw [if_neg hn] at hc3; omega)]
      omega
    · simp only
      omega
  · refine V_exit ?_
    simp only [decide_eq_false_iff_not] at hc2
    have hkl : k = us.length := by omega
    subst hkl
    rw [List.take_length] at hq1
    show V _ _ _ _ _
    refine V_seq_region ?_
    repeat refine VO_d ?_
    refine VO_nil ?_
    refine V_ret ?_
    exact ⟨trivial, ⟨_, rfl, congrArg (U.i .i64) (by rw [if_pos (by omega)]; omega)⟩, trivial⟩

theorem szType_grp (u : U) : (wt (.st 1) u → PSz 17 u) := by
  refine U.ind (M := fun u => (wt (.st 1) u → PSz 17 u)) (fun u ih => ?_) u
  refine ?_
  · intro h
    obtain ⟨f0, f1, f2, rfl, p0, p1, p2⟩ := inv_Type h
    exact szType_step p1 (szTypeS_step p2.1 (fun a ha => ⟨wt_isSt (p2.2 a ha), by rw [wt_sz a _ (p2.2 a ha)]; rfl⟩) (fun a ha => (ih a (by have := nn_of_mem ha; simp only [U.nn, U.nns]; omega)) (p2.2 a ha)))
theorem szType_all {u : U} (h : wt (.st 1) u) : PSz 17 u := (szType_grp u) h
theorem szTypeS_all {us : List U} (h : us.length ≤ big ∧ ∀ x ∈ us, wt (.st 1) x) : PSz 62 (.sl 3 us) := szTypeS_step h.1 (fun a ha => ⟨wt_isSt (h.2 a ha), by rw [wt_sz a _ (h.2 a ha)]; rfl⟩) (fun a ha => szType_all (h.2 a ha))
theorem szStringS_step {us : List U} (hl : us.length ≤ big) (hz : ∀ a ∈ us, ∃ l : List UInt8, a = .s l ∧ l.length ≤ big) : PSz 141 (.sl 1 us) := by
  intro left hl0 hl1
  have hW : W (.sl 1 us) = us.length + Ws us := rfl
  have hb : (us.length : Int) ≤ 140737488355328 := by rw [big_eq] at hl; omega
  refine SpecP_intro Tryz.func141 rfl (by kernel_rfl) rfl fun A => ?_
  refine V_seq_region ?_
  repeat refine VO_d ?_
  refine VO_nil ?_
  refine V_seq_region ?_
  repeat refine VO_d ?_
  refine VO_nil ?_
  refine V_seq (V_seq_region ?_)
  repeat refine VO_d ?_
  refine VO_nil ?_
  refine V_cond rfl (fun hc => ?_) (fun hc => ?_)
  · refine V_seq_region ?_
    repeat refine VO_d ?_
    refine VO_nil ?_
    refine V_ret ?_
    simp only [decide_eq_true_eq] at hc
    exact ⟨trivial, ⟨_, rfl, congrArg (U.i .i64) (by rw [if_neg (by omega)])⟩, trivial⟩
  refine V_skip ?_
  simp only [decide_eq_false_iff_not] at hc
  refine V_seq (V_seq_region ?_)
  repeat refine VO_d ?_
  refine VO_nil ?_
  refine V_block ?_
  refine V_loop (α := Nat × Int)
    (fun x => ⟨[(0, .d (.sl 1 us)), (5, .d (.i .i64 x.1)), (1, .d (.i .i64 x.2))], [], Tryz.f141.ntmps⟩)
    (fun x => x.1 ≤ us.length ∧ 0 ≤ x.2 ∧ x.2 = left - us.length - Ws (us.take x.1))
    (fun x => us.length - x.1) (0, left - us.length) ⟨rfl, ⟨⟨rfl, rfl⟩, ⟨rfl, rfl⟩, ⟨rfl, rfl⟩, trivial⟩, ⟨[], rfl⟩, rfl⟩ ⟨by simp, by simp only; omega, by simp [Ws]⟩ ?_
  rintro ⟨k, l⟩ ⟨hk, hq0, hq1⟩
  simp only at hk hq0 hq1
  refine V_seq (V_seq_region ?_)
  repeat refine VO_d ?_
  refine VO_nil ?_
  refine V_cond rfl (fun hc2 => ?_) (fun hc2 => ?_)
  · refine V_skip ?_
    simp only [decide_eq_true_eq] at hc2
    have hkl : k < us.length := by omega
    have hget : us[k]? = some us[k] := List.getElem?_eq_getElem hkl
    have hmem : us[k] ∈ us := List.getElem_mem hkl
    have htk := Ws_take_succ hget
    have hle := Ws_take_le us (k + 1)
    obtain ⟨sl, hsl, hsb⟩ := hz _ hmem
    have hget' : us[k]? = some (.s sl) := by rw [hget, hsl]
    have hW : W us[k] = sl.length := by rw [hsl]; rfl
    have hsb' : sl.length ≤ 140737488355328 := by rw [big_eq] at hsb; exact hsb
    refine V_seq (V_block (V_seq_region ?_))
    repeat refine VO_d ?_
    refine VO_q (Q_index rfl rfl TE.h TI.h (by omega) hget') rfl ?_
    repeat refine VO_d ?_
    refine VO_nil ?_
    refine V_seq_region ?_
    repeat refine VO_d ?_
    refine VO_nil ?_
    refine V_cond rfl (fun hc3 => ?_) (fun hc3 => ?_)
    · refine V_seq_region ?_
      repeat refine VO_d ?_
      refine VO_nil ?_
      refine V_ret ?_
      simp only [decide_eq_true_eq] at hc3
      exact ⟨trivial, ⟨_, rfl, congrArg (U.i .i64) (by
        rw [if_neg (by omega)])⟩, trivial⟩
    refine V_skip ?_
    simp only [decide_eq_false_iff_not] at hc3
    refine V_region ?_
    repeat refine VO_d ?_
    refine VO_nil ?_
    refine ⟨(k + 1, (l - sl.length)), ?_, ?_, ⟨rfl, ⟨⟨rfl, rfl⟩, ⟨rfl, rfl⟩, ⟨rfl, rfl⟩, trivial⟩, ⟨[], rfl⟩, rfl⟩⟩
    · simp only
      refine ⟨by omega, by omega, ?_⟩
      skip
      omega
    · simp only
      omega
  · refine V_exit ?_
    simp only [decide_eq_false_iff_not] at hc2
    have hkl : k = us.length := by omega
    subst hkl
    rw [List.take_length] at hq1
    show V _ _ _ _ _
    refine V_seq_region ?_
    repeat refine VO_d ?_
    refine VO_nil ?_
    refine V_ret ?_
    exact ⟨trivial, ⟨_, rfl, congrArg (U.i .i64) (by rw [if_pos (by omega)]; omega)⟩, trivial⟩

theorem szStringS_all {us : List U} (h : us.length ≤ big ∧ ∀ x ∈ us, wt .str x) : PSz 141 (.sl 1 us) := szStringS_step h.1 (fun a ha => inv_str (h.2 a ha))
theorem szArm_step {f0 : List UInt8} {f1 : List U} {f2 : U} (h0 : f0.length ≤ big) (h1 : PSz 141 (.sl 1 f1)) (g2 : wt (.st 4) f2) (h2 : PSz 256 f2) : PSz 309 (.st [.s f0, .sl 1 f1, f2]) := by
  intro left hl0 hl1
  have hW : W (.st [.s f0, .sl 1 f1, f2]) = f0.length + (W (U.sl 1 f1) + (W f2 + 0)) := rfl
  have hb0 : f0.length ≤ 140737488355328 := by rw [big_eq] at h0; exact h0
  obtain ⟨m2, hm2⟩ : ∃ m, W f2 = m := ⟨_, rfl⟩
  rw [hm2] at hW
  have h2 : ∀ l : Int, 0 ≤ l → l ≤ 4611686018427387904 → SpecP Tryz.prog 256 [.d f2, .d (.i .i64 l)] [.i .i64 (if (m2 : Int) ≤ l then l - m2 else -1)] := by rw [← hm2]; exact h2
  obtain ⟨e1_0, e1_1, e1_2, e1_3, e1_4, e1_5, e1_6, rfl, g1_0, g1_1, g1_2, g1_3, g1_4, g1_5, g1_6⟩ := inv_Expr g2
  obtain ⟨e2_0, e2_1, e2_2, rfl, g2_0, g2_1, g2_2⟩ := inv_Type g1_4
  refine SpecP_intro Tryz.func309 rfl (by kernel_rfl) rfl fun A => ?_
  refine V_seq_region ?_
  repeat refine VO_d ?_
  refine VO_nil ?_
  refine V_seq_region ?_
  repeat refine VO_d ?_
  refine VO_nil ?_
  refine V_seq (V_seq_region ?_)
  repeat refine VO_d ?_
  refine VO_nil ?_
  refine V_cond rfl (fun hc => ?_) (fun hc => ?_)
  · refine V_seq_region ?_
    repeat refine VO_d ?_
    refine VO_nil ?_
    refine V_ret ?_
    simp only [decide_eq_true_eq] at hc
    exact ⟨trivial, ⟨_, rfl, congrArg (U.i .i64) (by rw [if_neg (by omega)])⟩, trivial⟩
  refine V_skip ?_
  simp only [decide_eq_false_iff_not] at hc
  refine V_seq_region ?_
  repeat refine VO_d ?_
  refine VO_q (Q_call rfl (h1 (left - (f0.length : Int)) (by omega) (by omega)) vA) rfl ?_
  repeat refine VO_d ?_
  refine VO_nil ?_
  refine V_seq (V_seq_region ?_)
  repeat refine VO_d ?_
  refine VO_nil ?_
  refine V_cond rfl (fun hc => ?_) (fun hc => ?_)
  · refine V_seq_region ?_
    repeat refine VO_d ?_
    refine VO_nil ?_
    refine V_ret ?_
    simp only [decide_eq_true_eq] at hc
    exact ⟨trivial, ⟨_, rfl, congrArg (U.i .i64) (by split at hc <;> (rw [if_neg (by omega)]))⟩, trivial⟩
  refine V_skip ?_
  simp only [decide_eq_false_iff_not] at hc
  have hpos1 := hc
  have heq : ∀ (c : Prop) [Decidable c] (a : Int), ¬ (if c then a else -1) < 0 → (if c then a else -1) = a ∧ c := by
    intro c _ a h
    split at h
    · rename_i hc; exact ⟨if_pos hc, hc⟩
    · omega
  obtain ⟨e1, c1⟩ := heq _ _ hc
  rw [e1]
  clear heq hc
  refine V_seq_region ?_
  repeat refine VO_d ?_
  refine VO_q (Q_call rfl (h2 ((left - (f0.length : Int)) - (W (U.sl 1 f1) : Int)) (by omega) (by omega)) vA) rfl ?_
  repeat refine VO_d ?_
  refine VO_nil ?_
  refine V_seq (V_seq_region ?_)
  repeat refine VO_d ?_
  refine VO_nil ?_
  refine V_cond rfl (fun hc => ?_) (fun hc => ?_)
  · refine V_seq_region ?_
    repeat refine VO_d ?_
    refine VO_nil ?_
    refine V_ret ?_
    simp only [decide_eq_true_eq] at hc
    exact ⟨trivial, ⟨_, rfl, congrArg (U.i .i64) (by split at hc <;> (rw [if_neg (by omega)]))⟩, trivial⟩
  refine V_skip ?_
  simp only [decide_eq_false_iff_not] at hc
  have hpos2 := hc
  have heq : ∀ (c : Prop) [Decidable c] (a : Int), ¬ (if c then a else -1) < 0 → (if c then a else -1) = a ∧ c := by
    intro c _ a h
    split at h
    · rename_i hc; exact ⟨if_pos hc, hc⟩
    · omega
  obtain ⟨e2, c2⟩ := heq _ _ hc
  rw [e2]
  clear heq hc
  refine V_seq_region ?_
  repeat refine VO_d ?_
  refine VO_nil ?_
  refine V_ret ?_
  exact ⟨trivial, ⟨_, rfl, congrArg (U.i .i64) (by rw [if_pos (by omega)]; omega)⟩, trivial⟩

theorem szArmS_step {us : List U} (hl : us.length ≤ big) (hz : ∀ a ∈ us, a.isSt = true ∧ a.sz = 11) (ih : ∀ a ∈ us, PSz 309 a) : PSz 290 (.sl 11 us) := by
  intro left hl0 hl1
  have hW : W (.sl 11 us) = us.length + Ws us := rfl
  have hb : (us.length : Int) ≤ 140737488355328 := by rw [big_eq] at hl; omega
  refine SpecP_intro Tryz.func290 rfl (by kernel_rfl) rfl fun A => ?_
  refine V_seq_region ?_
  repeat refine VO_d ?_
  refine VO_nil ?_
  refine V_seq_region ?_
  repeat refine VO_d ?_
  refine VO_nil ?_
  refine V_seq (V_seq_region ?_)
  repeat refine VO_d ?_
  refine VO_nil ?_
  refine V_cond rfl (fun hc => ?_) (fun hc => ?_)
  · refine V_seq_region ?_
    repeat refine VO_d ?_
    refine VO_nil ?_
    refine V_ret ?_
    simp only [decide_eq_true_eq] at hc
    exact ⟨trivial, ⟨_, rfl, congrArg (U.i .i64) (by rw [if_neg (by omega)])⟩, trivial⟩
  refine V_skip ?_
  simp only [decide_eq_false_iff_not] at hc
  refine V_seq (V_seq_region ?_)
  repeat refine VO_d ?_
  refine VO_nil ?_
  refine V_block ?_
  refine V_loop (α := Nat × Int)
    (fun x => ⟨[(0, .d (.sl 11 us)), (5, .d (.i .i64 x.1)), (1, .d (.i .i64 x.2))], [], Tryz.f290.ntmps⟩)
    (fun x => x.1 ≤ us.length ∧ 0 ≤ x.2 ∧ x.2 = left - us.length - Ws (us.take x.1))
    (fun x => us.length - x.1) (0, left - us.length) ⟨rfl, ⟨⟨rfl, rfl⟩, ⟨rfl, rfl⟩, ⟨rfl, rfl⟩, trivial⟩, ⟨[], rfl⟩, rfl⟩ ⟨by simp, by simp only; omega, by simp [Ws]⟩ ?_
  rintro ⟨k, l⟩ ⟨hk, hq0, hq1⟩
  simp only at hk hq0 hq1
  refine V_seq (V_seq_region ?_)
  repeat refine VO_d ?_
  refine VO_nil ?_
  refine V_cond rfl (fun hc2 => ?_) (fun hc2 => ?_)
  · refine V_skip ?_
    simp only [decide_eq_true_eq] at hc2
    have hkl : k < us.length := by omega
    have hget : us[k]? = some us[k] := List.getElem?_eq_getElem hkl
    have hmem : us[k] ∈ us := List.getElem_mem hkl
    have htk := Ws_take_succ hget
    have hle := Ws_take_le us (k + 1)
    obtain ⟨hst, hsz⟩ := hz _ hmem
    refine V_seq (V_block (V_seq_region ?_))
    repeat refine VO_d ?_
    refine VO_q (Q_index rfl rfl TE.h TI.h (by omega) hget) rfl ?_
    refine VO_q (Q_load rfl TI.h hst hsz) rfl ?_
    repeat refine VO_d ?_
    refine VO_q (Q_call rfl (ih _ hmem l (by omega) (by omega)) vA) rfl ?_
    repeat refine VO_d ?_
    refine VO_nil ?_
    refine V_seq_region ?_
    repeat refine VO_d ?_
    refine VO_nil ?_
    refine V_cond rfl (fun hc3 => ?_) (fun hc3 => ?_)
    · refine V_seq_region ?_
      repeat refine VO_d ?_
      refine VO_nil ?_
      refine V_ret ?_
      simp only [decide_eq_true_eq] at hc3
      exact ⟨trivial, ⟨_, rfl, congrArg (U.i .i64) (by
        rw [if_neg (by intro hle2; rw [if_pos (by omega)] at hc3; omega)])⟩, trivial⟩
    refine V_skip ?_
    simp only [decide_eq_false_iff_not] at hc3
    refine V_region ?_
    repeat refine VO_d ?_
    refine VO_nil ?_
    refine ⟨(k + 1, (if (W us[k] : Int) ≤ l then l - W us[k] else -1)), ?_, ?_, ⟨rfl, ⟨⟨rfl, rfl⟩, ⟨rfl, rfl⟩, ⟨rfl, rfl⟩, trivial⟩, ⟨[], rfl⟩, rfl⟩⟩
    · simp only
      refine ⟨by omega, by omega, ?_⟩
      rw [if_pos (by apply Classical.byContradiction; intro hn; rw [if_neg hn] at hc3; omega)]
      omega
    · simp only
      omega
  · refine V_exit ?_
    simp only [decide_eq_false_iff_not] at hc2
    have hkl : k = us.length := by omega
    subst hkl
    rw [List.take_length] at hq1
    show V _ _ _ _ _
    refine V_seq_region ?_
    repeat refine VO_d ?_
    refine VO_nil ?_
    refine V_ret ?_
    exact ⟨trivial, ⟨_, rfl, congrArg (U.i .i64) (by rw [if_pos (by omega)]; omega)⟩, trivial⟩

theorem szExpr_step {f0 : Int} {f1 : List UInt8} {f2 : List UInt8} {f3 : Int} {f4 : U} {f5 : List U} {f6 : List U} (h1 : f1.length ≤ big) (h2 : f2.length ≤ big) (g4 : wt (.st 1) f4) (h4 : PSz 17 f4) (h5 : PSz 289 (.sl 9 f5)) (h6 : PSz 290 (.sl 11 f6)) : PSz 256 (.st [.i .i64 f0, .s f1, .s f2, .i .i64 f3, f4, .sl 9 f5, .sl 11 f6]) := by
  intro left hl0 hl1
  have hW : W (.st [.i .i64 f0, .s f1, .s f2, .i .i64 f3, f4, .sl 9 f5, .sl 11 f6]) = 0 + (f1.length + (f2.length + (0 + (W f4 + (W (U.sl 9 f5) + (W (U.sl 11 f6) + 0)))))) := rfl
  have hb1 : f1.length ≤ 140737488355328 := by rw [big_eq] at h1; exact h1
  have hb2 : f2.length ≤ 140737488355328 := by rw [big_eq] at h2; exact h2
  obtain ⟨m4, hm4⟩ : ∃ m, W f4 = m := ⟨_, rfl⟩
  rw [hm4] at hW
  have h4 : ∀ l : Int, 0 ≤ l → l ≤ 4611686018427387904 → SpecP Tryz.prog 17 [.d f4, .d (.i .i64 l)] [.i .i64 (if (m4 : Int) ≤ l then l - m4 else -1)] := by rw [← hm4]; exact h4
  obtain ⟨e3_0, e3_1, e3_2, rfl, g3_0, g3_1, g3_2⟩ := inv_Type g4
  refine SpecP_intro Tryz.func256 rfl (by kernel_rfl) rfl fun A => ?_
  refine V_seq_region ?_
  repeat refine VO_d ?_
  refine VO_nil ?_
  refine V_seq_region ?_
  repeat refine VO_d ?_
  refine VO_nil ?_
  refine V_seq (V_seq_region ?_)
  repeat refine VO_d ?_
  refine VO_nil ?_
  refine V_cond rfl (fun hc => ?_) (fun hc => ?_)
  · refine V_seq_region ?_
    repeat refine VO_d ?_
    refine VO_nil ?_
    refine V_ret ?_
    simp only [decide_eq_true_eq] at hc
    exact ⟨trivial, ⟨_, rfl, congrArg (U.i .i64) (by rw [if_neg (by omega)])⟩, trivial⟩
  refine V_skip ?_
  simp only [decide_eq_false_iff_not] at hc
  refine V_seq_region ?_
  repeat refine VO_d ?_
  refine VO_nil ?_
  refine V_seq (V_seq_region ?_)
  repeat refine VO_d ?_
  refine VO_nil ?_
  refine V_cond rfl (fun hc => ?_) (fun hc => ?_)
  · refine V_seq_region ?_
    repeat refine VO_d ?_
    refine VO_nil ?_
    refine V_ret ?_
    simp only [decide_eq_true_eq] at hc
    exact ⟨trivial, ⟨_, rfl, congrArg (U.i .i64) (by rw [if_neg (by omega)])⟩, trivial⟩
  refine V_skip ?_
  simp only [decide_eq_false_iff_not] at hc
  refine V_seq_region ?_
  repeat refine VO_d ?_
  refine VO_q (Q_call rfl (h4 ((left - (f1.length : Int)) - (f2.length : Int)) (by omega) (by omega)) vA) rfl ?_
  repeat refine VO_d ?_
  refine VO_nil ?_
  refine V_seq (V_seq_region ?_)
  repeat refine VO_d ?_
  refine VO_nil ?_
  refine V_cond rfl (fun hc => ?_) (fun hc => ?_)
  · refine V_seq_region ?_
    repeat refine VO_d ?_
    refine VO_nil ?_
    refine V_ret ?_
    simp only [decide_eq_true_eq] at hc
    exact ⟨trivial, ⟨_, rfl, congrArg (U.i .i64) (by split at hc <;> (rw [if_neg (by omega)]))⟩, trivial⟩
  refine V_skip ?_
  simp only [decide_eq_false_iff_not] at hc
  have hpos4 := hc
  have heq : ∀ (c : Prop) [Decidable c] (a : Int), ¬ (if c then a else -1) < 0 → (if c then a else -1) = a ∧ c := by
    intro c _ a h
    split at h
    · rename_i hc; exact ⟨if_pos hc, hc⟩
    · omega
  obtain ⟨e4, c4⟩ := heq _ _ hc
  rw [e4]
  clear heq hc
  refine V_seq_region ?_
  repeat refine VO_d ?_
  refine VO_q (Q_call rfl (h5 (((left - (f1.length : Int)) - (f2.length : Int)) - (m4 : Int)) (by omega) (by omega)) vA) rfl ?_
  repeat refine VO_d ?_
  refine VO_nil ?_
  refine V_seq (V_seq_region ?_)
  repeat refine VO_d ?_
  refine VO_nil ?_
  refine V_cond rfl (fun hc => ?_) (fun hc => ?_)
  · refine V_seq_region ?_
    repeat refine VO_d ?_
    refine VO_nil ?_
    refine V_ret ?_
    simp only [decide_eq_true_eq] at hc
    exact ⟨trivial, ⟨_, rfl, congrArg (U.i .i64) (by split at hc <;> (rw [if_neg (by omega)]))⟩, trivial⟩
  refine V_skip ?_
  simp only [decide_eq_false_iff_not] at hc
  have hpos5 := hc
  have heq : ∀ (c : Prop) [Decidable c] (a : Int), ¬ (if c then a else -1) < 0 → (if c then a else -1) = a ∧ c := by
    intro c _ a h
    split at h
    · rename_i hc; exact ⟨if_pos hc, hc⟩
    · omega
  obtain ⟨e5, c5⟩ := heq _ _ hc
  rw [e5]
  clear heq hc
  refine V_seq_region ?_
  repeat refine VO_d ?_
  refine VO_q (Q_call rfl (h6 ((((left - (f1.length : Int)) - (f2.length : Int)) - (m4 : Int)) - (W (U.sl 9 f5) : Int)) (by omega) (by omega)) vA) rfl ?_
  repeat refine VO_d ?_
  refine VO_nil ?_
  refine V_seq (V_seq_region ?_)
  repeat refine VO_d ?_
  refine VO_nil ?_
  refine V_cond rfl (fun hc => ?_) (fun hc => ?_)
  · refine V_seq_region ?_
    repeat refine VO_d ?_
    refine VO_nil ?_
    refine V_ret ?_
    simp only [decide_eq_true_eq] at hc
    exact ⟨trivial, ⟨_, rfl, congrArg (U.i .i64) (by split at hc <;> (rw [if_neg (by omega)]))⟩, trivial⟩
  refine V_skip ?_
  simp only [decide_eq_false_iff_not] at hc
  have hpos6 := hc
  have heq : ∀ (c : Prop) [Decidable c] (a : Int), ¬ (if c then a else -1) < 0 → (if c then a else -1) = a ∧ c := by
    intro c _ a h
    split at h
    · rename_i hc; exact ⟨if_pos hc, hc⟩
    · omega
  obtain ⟨e6, c6⟩ := heq _ _ hc
  rw [e6]
  clear heq hc
  refine V_seq_region ?_
  repeat refine VO_d ?_
  refine VO_nil ?_
  refine V_ret ?_
  exact ⟨trivial, ⟨_, rfl, congrArg (U.i .i64) (by rw [if_pos (by omega)]; omega)⟩, trivial⟩

theorem szExprS_step {us : List U} (hl : us.length ≤ big) (hz : ∀ a ∈ us, a.isSt = true ∧ a.sz = 9) (ih : ∀ a ∈ us, PSz 256 a) : PSz 289 (.sl 9 us) := by
  intro left hl0 hl1
  have hW : W (.sl 9 us) = us.length + Ws us := rfl
  have hb : (us.length : Int) ≤ 140737488355328 := by rw [big_eq] at hl; omega
  refine SpecP_intro Tryz.func289 rfl (by kernel_rfl) rfl fun A => ?_
  refine V_seq_region ?_
  repeat refine VO_d ?_
  refine VO_nil ?_
  refine V_seq_region ?_
  repeat refine VO_d ?_
  refine VO_nil ?_
  refine V_seq (V_seq_region ?_)
  repeat refine VO_d ?_
  refine VO_nil ?_
  refine V_cond rfl (fun hc => ?_) (fun hc => ?_)
  · refine V_seq_region ?_
    repeat refine VO_d ?_
    refine VO_nil ?_
    refine V_ret ?_
    simp only [decide_eq_true_eq] at hc
    exact ⟨trivial, ⟨_, rfl, congrArg (U.i .i64) (by rw [if_neg (by omega)])⟩, trivial⟩
  refine V_skip ?_
  simp only [decide_eq_false_iff_not] at hc
  refine V_seq (V_seq_region ?_)
  repeat refine VO_d ?_
  refine VO_nil ?_
  refine V_block ?_
  refine V_loop (α := Nat × Int)
    (fun x => ⟨[(0, .d (.sl 9 us)), (5, .d (.i .i64 x.1)), (1, .d (.i .i64 x.2))], [], Tryz.f289.ntmps⟩)
    (fun x => x.1 ≤ us.length ∧ 0 ≤ x.2 ∧ x.2 = left - us.length - Ws (us.take x.1))
    (fun x => us.length - x.1) (0, left - us.length) ⟨rfl, ⟨⟨rfl, rfl⟩, ⟨rfl, rfl⟩, ⟨rfl, rfl⟩, trivial⟩, ⟨[], rfl⟩, rfl⟩ ⟨by simp, by simp only; omega, by simp [Ws]⟩ ?_
  rintro ⟨k, l⟩ ⟨hk, hq0, hq1⟩
  simp only at hk hq0 hq1
  refine V_seq (V_seq_region ?_)
  repeat refine VO_d ?_
  refine VO_nil ?_
  refine V_cond rfl (fun hc2 => ?_) (fun hc2 => ?_)
  · refine V_skip ?_
    simp only [decide_eq_true_eq] at hc2
    have hkl : k < us.length := by omega
    have hget : us[k]? = some us[k] := List.getElem?_eq_getElem hkl
    have hmem : us[k] ∈ us := List.getElem_mem hkl
    have htk := Ws_take_succ hget
    have hle := Ws_take_le us (k + 1)
    obtain ⟨hst, hsz⟩ := hz _ hmem
    refine V_seq (V_block (V_seq_region ?_))
    repeat refine VO_d ?_
    refine VO_q (Q_index rfl rfl TE.h TI.h (by omega) hget) rfl ?_
    refine VO_q (Q_load rfl TI.h hst hsz) rfl ?_
    repeat refine VO_d ?_
    refine VO_q (Q_call rfl (ih _ hmem l (by omega) (by omega)) vA) rfl ?_
    repeat refine VO_d ?_
    refine VO_nil ?_
    refine V_seq_region ?_
    repeat refine VO_d ?_
    refine VO_nil ?_
    refine V_cond rfl (fun hc3 => ?_) (fun hc3 => ?_)
    · refine V_seq_region ?_
      repeat refine VO_d ?_
      refine VO_nil ?_
      refine V_ret ?_
      simp only [decide_eq_true_eq] at hc3
      exact ⟨trivial, ⟨_, rfl, congrArg (U.i .i64) (by
        rw [if_neg (by intro hle2; rw [if_pos (by omega)] at hc3; omega)])⟩, trivial⟩
    refine V_skip ?_
    simp only [decide_eq_false_iff_not] at hc3
    refine V_region ?_
    repeat refine VO_d ?_
    refine VO_nil ?_
    refine ⟨(k + 1, (if (W us[k] : Int) ≤ l then l - W us[k] else -1)), ?_, ?_, ⟨rfl, ⟨⟨rfl, rfl⟩, ⟨rfl, rfl⟩, ⟨rfl, rfl⟩, trivial⟩, ⟨[], rfl⟩, rfl⟩⟩
    · simp only
      refine ⟨by omega, by omega, ?_⟩
      rw [if_pos (by apply Classical.byContradiction; intro hn; rw [if_neg hn] at hc3; omega)]
      omega
    · simp only
      omega
  · refine V_exit ?_
    simp only [decide_eq_false_iff_not] at hc2
    have hkl : k = us.length := by omega
    subst hkl
    rw [List.take_length] at hq1
    show V _ _ _ _ _
    refine V_seq_region ?_
    repeat refine VO_d ?_
    refine VO_nil ?_
    refine V_ret ?_
    exact ⟨trivial, ⟨_, rfl, congrArg (U.i .i64) (by rw [if_pos (by omega)]; omega)⟩, trivial⟩

theorem szArmExpr_grp (u : U) : (wt (.st 3) u → PSz 309 u) ∧ (wt (.st 4) u → PSz 256 u) := by
  refine U.ind (M := fun u => (wt (.st 3) u → PSz 309 u) ∧ (wt (.st 4) u → PSz 256 u)) (fun u ih => ?_) u
  refine ⟨?_, ?_⟩
  · intro h
    obtain ⟨f0, f1, f2, rfl, p0, p1, p2⟩ := inv_Arm h
    exact szArm_step p0 (szStringS_all p1) p2 ((ih f2 (by simp only [U.nn, U.nns]; omega)).2 p2)
  · intro h
    obtain ⟨f0, f1, f2, f3, f4, f5, f6, rfl, p0, p1, p2, p3, p4, p5, p6⟩ := inv_Expr h
    exact szExpr_step p1 p2 p4 (szType_all p4) (szExprS_step p5.1 (fun a ha => ⟨wt_isSt (p5.2 a ha), by rw [wt_sz a _ (p5.2 a ha)]; rfl⟩) (fun a ha => (ih a (by have := nn_of_mem ha; simp only [U.nn, U.nns]; omega)).2 (p5.2 a ha))) (szArmS_step p6.1 (fun a ha => ⟨wt_isSt (p6.2 a ha), by rw [wt_sz a _ (p6.2 a ha)]; rfl⟩) (fun a ha => (ih a (by have := nn_of_mem ha; simp only [U.nn, U.nns]; omega)).1 (p6.2 a ha)))
theorem szArm_all {u : U} (h : wt (.st 3) u) : PSz 309 u := (szArmExpr_grp u).1 h
theorem szArmS_all {us : List U} (h : us.length ≤ big ∧ ∀ x ∈ us, wt (.st 3) x) : PSz 290 (.sl 11 us) := szArmS_step h.1 (fun a ha => ⟨wt_isSt (h.2 a ha), by rw [wt_sz a _ (h.2 a ha)]; rfl⟩) (fun a ha => szArm_all (h.2 a ha))
theorem szExpr_all {u : U} (h : wt (.st 4) u) : PSz 256 u := (szArmExpr_grp u).2 h
theorem szExprS_all {us : List U} (h : us.length ≤ big ∧ ∀ x ∈ us, wt (.st 4) x) : PSz 289 (.sl 9 us) := szExprS_step h.1 (fun a ha => ⟨wt_isSt (h.2 a ha), by rw [wt_sz a _ (h.2 a ha)]; rfl⟩) (fun a ha => szExpr_all (h.2 a ha))
theorem szSignature_step {f0 : List UInt8} {f1 : List U} {f2 : U} {f3 : Bool} {f4 : List U} {f5 : U} (h0 : f0.length ≤ big) (h1 : PSz 62 (.sl 3 f1)) (g2 : wt (.st 1) f2) (h2 : PSz 17 f2) (h4 : PSz 141 (.sl 1 f4)) (g5 : wt (.st 4) f5) (h5 : PSz 256 f5) : PSz 285 (.st [.s f0, .sl 3 f1, f2, .b f3, .sl 1 f4, f5]) := by
  intro left hl0 hl1
  have hW : W (.st [.s f0, .sl 3 f1, f2, .b f3, .sl 1 f4, f5]) = f0.length + (W (U.sl 3 f1) + (W f2 + (0 + (W (U.sl 1 f4) + (W f5 + 0))))) := rfl
  have hb0 : f0.length ≤ 140737488355328 := by rw [big_eq] at h0; exact h0
  obtain ⟨m2, hm2⟩ : ∃ m, W f2 = m := ⟨_, rfl⟩
  rw [hm2] at hW
  have h2 : ∀ l : Int, 0 ≤ l → l ≤ 4611686018427387904 → SpecP Tryz.prog 17 [.d f2, .d (.i .i64 l)] [.i .i64 (if (m2 : Int) ≤ l then l - m2 else -1)] := by rw [← hm2]; exact h2
  obtain ⟨e4_0, e4_1, e4_2, rfl, g4_0, g4_1, g4_2⟩ := inv_Type g2
  obtain ⟨m5, hm5⟩ : ∃ m, W f5 = m := ⟨_, rfl⟩
  rw [hm5] at hW
  have h5 : ∀ l : Int, 0 ≤ l → l ≤ 4611686018427387904 → SpecP Tryz.prog 256 [.d f5, .d (.i .i64 l)] [.i .i64 (if (m5 : Int) ≤ l then l - m5 else -1)] := by rw [← hm5]; exact h5
  obtain ⟨e5_0, e5_1, e5_2, e5_3, e5_4, e5_5, e5_6, rfl, g5_0, g5_1, g5_2, g5_3, g5_4, g5_5, g5_6⟩ := inv_Expr g5
  obtain ⟨e6_0, e6_1, e6_2, rfl, g6_0, g6_1, g6_2⟩ := inv_Type g5_4
  refine SpecP_intro Tryz.func285 rfl (by kernel_rfl) rfl fun A => ?_
  refine V_seq_region ?_
  repeat refine VO_d ?_
  refine VO_nil ?_
  refine V_seq_region ?_
  repeat refine VO_d ?_
  refine VO_nil ?_
  refine V_seq (V_seq_region ?_)
  repeat refine VO_d ?_
  refine VO_nil ?_
  refine V_cond rfl (fun hc => ?_) (fun hc => ?_)
  · refine V_seq_region ?_
    repeat refine VO_d ?_
    refine VO_nil ?_
    refine V_ret ?_
    simp only [decide_eq_true_eq] at hc
    exact ⟨trivial, ⟨_, rfl, congrArg (U.i .i64) (by rw [if_neg (by omega)])⟩, trivial⟩
  refine V_skip ?_
  simp only [decide_eq_false_iff_not] at hc
  refine V_seq_region ?_
  repeat refine VO_d ?_
  refine VO_q (Q_call rfl (h1 (left - (f0.length : Int)) (by omega) (by omega)) vA) rfl ?_
  repeat refine VO_d ?_
  refine VO_nil ?_
  refine V_seq (V_seq_region ?_)
  repeat refine VO_d ?_
  refine VO_nil ?_
  refine V_cond rfl (fun hc => ?_) (fun hc => ?_)
  · refine V_seq_region ?_
    repeat refine VO_d ?_
    refine VO_nil ?_
    refine V_ret ?_
    simp only [decide_eq_true_eq] at hc
    exact ⟨trivial, ⟨_, rfl, congrArg (U.i .i64) (by split at hc <;> (rw [if_neg (by omega)]))⟩, trivial⟩
  refine V_skip ?_
  simp only [decide_eq_false_iff_not] at hc
  have hpos1 := hc
  have heq : ∀ (c : Prop) [Decidable c] (a : Int), ¬ (if c then a else -1) < 0 → (if c then a else -1) = a ∧ c := by
    intro c _ a h
    split at h
    · rename_i hc; exact ⟨if_pos hc, hc⟩
    · omega
  obtain ⟨e1, c1⟩ := heq _ _ hc
  rw [e1]
  clear heq hc
  refine V_seq_region ?_
  repeat refine VO_d ?_
  refine VO_q (Q_call rfl (h2 ((left - (f0.length : Int)) - (W (U.sl 3 f1) : Int)) (by omega) (by omega)) vA) rfl ?_
  repeat refine VO_d ?_
  refine VO_nil ?_
  refine V_seq (V_seq_region ?_)
  repeat refine VO_d ?_
  refine VO_nil ?_
  refine V_cond rfl (fun hc => ?_) (fun hc => ?_)
  · refine V_seq_region ?_
    repeat refine VO_d ?_
    refine VO_nil ?_
    refine V_ret ?_
    simp only [decide_eq_true_eq] at hc
    exact ⟨trivial, ⟨_, rfl, congrArg (U.i .i64) (by split at hc <;> (rw [if_neg (by omega)]))⟩, trivial⟩
  refine V_skip ?_
  simp only [decide_eq_false_iff_not] at hc
  have hpos2 := hc
  have heq : ∀ (c : Prop) [Decidable c] (a : Int), ¬ (if c then a else -1) < 0 → (if c then a else -1) = a ∧ c := by
    intro c _ a h
    split at h
    · rename_i hc; exact ⟨if_pos hc, hc⟩
    · omega
  obtain ⟨e2, c2⟩ := heq _ _ hc
  rw [e2]
  clear heq hc
  refine V_seq_region ?_
  repeat refine VO_d ?_
  refine VO_q (Q_call rfl (h4 (((left - (f0.length : Int)) - (W (U.sl 3 f1) : Int)) - (m2 : Int)) (by omega) (by omega)) vA) rfl ?_
  repeat refine VO_d ?_
  refine VO_nil ?_
  refine V_seq (V_seq_region ?_)
  repeat refine VO_d ?_
  refine VO_nil ?_
  refine V_cond rfl (fun hc => ?_) (fun hc => ?_)
  · refine V_seq_region ?_
    repeat refine VO_d ?_
    refine VO_nil ?_
    refine V_ret ?_
    simp only [decide_eq_true_eq] at hc
    exact ⟨trivial, ⟨_, rfl, congrArg (U.i .i64) (by split at hc <;> (rw [if_neg (by omega)]))⟩, trivial⟩
  refine V_skip ?_
  simp only [decide_eq_false_iff_not] at hc
  have hpos4 := hc
  have heq : ∀ (c : Prop) [Decidable c] (a : Int), ¬ (if c then a else -1) < 0 → (if c then a else -1) = a ∧ c := by
    intro c _ a h
    split at h
    · rename_i hc; exact ⟨if_pos hc, hc⟩
    · omega
  obtain ⟨e4, c4⟩ := heq _ _ hc
  rw [e4]
  clear heq hc
  refine V_seq_region ?_
  repeat refine VO_d ?_
  refine VO_q (Q_call rfl (h5 ((((left - (f0.length : Int)) - (W (U.sl 3 f1) : Int)) - (m2 : Int)) - (W (U.sl 1 f4) : Int)) (by omega) (by omega)) vA) rfl ?_
  repeat refine VO_d ?_
  refine VO_nil ?_
  refine V_seq (V_seq_region ?_)
  repeat refine VO_d ?_
  refine VO_nil ?_
  refine V_cond rfl (fun hc => ?_) (fun hc => ?_)
  · refine V_seq_region ?_
    repeat refine VO_d ?_
    refine VO_nil ?_
    refine V_ret ?_
    simp only [decide_eq_true_eq] at hc
    exact ⟨trivial, ⟨_, rfl, congrArg (U.i .i64) (by split at hc <;> (rw [if_neg (by omega)]))⟩, trivial⟩
  refine V_skip ?_
  simp only [decide_eq_false_iff_not] at hc
  have hpos5 := hc
  have heq : ∀ (c : Prop) [Decidable c] (a : Int), ¬ (if c then a else -1) < 0 → (if c then a else -1) = a ∧ c := by
    intro c _ a h
    split at h
    · rename_i hc; exact ⟨if_pos hc, hc⟩
    · omega
  obtain ⟨e5, c5⟩ := heq _ _ hc
  rw [e5]
  clear heq hc
  refine V_seq_region ?_
  repeat refine VO_d ?_
  refine VO_nil ?_
  refine V_ret ?_
  exact ⟨trivial, ⟨_, rfl, congrArg (U.i .i64) (by rw [if_pos (by omega)]; omega)⟩, trivial⟩

theorem szSignatureS_step {us : List U} (hl : us.length ≤ big) (hz : ∀ a ∈ us, a.isSt = true ∧ a.sz = 16) (ih : ∀ a ∈ us, PSz 285 a) : PSz 252 (.sl 16 us) := by
  intro left hl0 hl1
  have hW : W (.sl 16 us) = us.length + Ws us := rfl
  have hb : (us.length : Int) ≤ 140737488355328 := by rw [big_eq] at hl; omega
  refine SpecP_intro Tryz.func252 rfl (by kernel_rfl) rfl fun A => ?_
  refine V_seq_region ?_
  repeat refine VO_d ?_
  refine VO_nil ?_
  refine V_seq_region ?_
  repeat refine VO_d ?_
  refine VO_nil ?_
  refine V_seq (V_seq_region ?_)
  repeat refine VO_d ?_
  refine VO_nil ?_
  refine V_cond rfl (fun hc => ?_) (fun hc => ?_)
  · refine V_seq_region ?_
    repeat refine VO_d ?_
    refine VO_nil ?_
    refine V_ret ?_
    simp only [decide_eq_true_eq] at hc
    exact ⟨trivial, ⟨_, rfl, congrArg (U.i .i64) (by rw [if_neg (by omega)])⟩, trivial⟩
  refine V_skip ?_
  simp only [decide_eq_false_iff_not] at hc
  refine V_seq (V_seq_region ?_)
  repeat refine VO_d ?_
  refine VO_nil ?_
  refine V_block ?_
  refine V_loop (α := Nat × Int)
    (fun x => ⟨[(0, .d (.sl 16 us)), (5, .d (.i .i64 x.1)), (1, .d (.i .i64 x.2))], [], Tryz.f252.ntmps⟩)
    (fun x => x.1 ≤ us.length ∧ 0 ≤ x.2 ∧ x.2 = left - us.length - Ws (us.take x.1))
    (fun x => us.length - x.1) (0, left - us.length) ⟨rfl, ⟨⟨rfl, rfl⟩, ⟨rfl, rfl⟩, ⟨rfl, rfl⟩, trivial⟩, ⟨[], rfl⟩, rfl⟩ ⟨by simp, by simp only; omega, by simp [Ws]⟩ ?_
  rintro ⟨k, l⟩ ⟨hk, hq0, hq1⟩
  simp only at hk hq0 hq1
  refine V_seq (V_seq_region ?_)
  repeat refine VO_d ?_
  refine VO_nil ?_
  refine V_cond rfl (fun hc2 => ?_) (fun hc2 => ?_)
  · refine V_skip ?_
    simp only [decide_eq_true_eq] at hc2
    have hkl : k < us.length := by omega
    have hget : us[k]? = some us[k] := List.getElem?_eq_getElem hkl
    have hmem : us[k] ∈ us := List.getElem_mem hkl
    have htk := Ws_take_succ hget
    have hle := Ws_take_le us (k + 1)
    obtain ⟨hst, hsz⟩ := hz _ hmem
    refine V_seq (V_block (V_seq_region ?_))
    repeat refine VO_d ?_
    refine VO_q (Q_index rfl rfl TE.h TI.h (by omega) hget) rfl ?_
    refine VO_q (Q_load rfl TI.h hst hsz) rfl ?_
    repeat refine VO_d ?_
    refine VO_q (Q_call rfl (ih _ hmem l (by omega) (by omega)) vA) rfl ?_
    repeat refine VO_d ?_
    refine VO_nil ?_
    refine V_seq_region ?_
    repeat refine VO_d ?_
    refine VO_nil ?_
    refine V_cond rfl (fun hc3 => ?_) (fun hc3 => ?_)
    · refine V_seq_region ?_
      repeat refine VO_d ?_
      refine VO_nil ?_
      refine V_ret ?_
      simp only [decide_eq_true_eq] at hc3
      exact ⟨trivial, ⟨_, rfl, congrArg (U.i .i64) (by
        rw [if_neg (by intro hle2; rw [if_pos (by omega)] at hc3; omega)])⟩, trivial⟩
    refine V_skip ?_
    simp only [decide_eq_false_iff_not] at hc3
    refine V_region ?_
    repeat refine VO_d ?_
    refine VO_nil ?_
    refine ⟨(k + 1, (if (W us[k] : Int) ≤ l then l - W us[k] else -1)), ?_, ?_, ⟨rfl, ⟨⟨rfl, rfl⟩, ⟨rfl, rfl⟩, ⟨rfl, rfl⟩, trivial⟩, ⟨[], rfl⟩, rfl⟩⟩
    · simp only
      refine ⟨by omega, by omega, ?_⟩
      rw [if_pos (by apply Classical.byContradiction; intro hn; rw [if_neg hn] at hc3; omega)]
      omega
    · simp only
      omega
  · refine V_exit ?_
    simp only [decide_eq_false_iff_not] at hc2
    have hkl : k = us.length := by omega
    subst hkl
    rw [List.take_length] at hq1
    show V _ _ _ _ _
    refine V_seq_region ?_
    repeat refine VO_d ?_
    refine VO_nil ?_
    refine V_ret ?_
    exact ⟨trivial, ⟨_, rfl, congrArg (U.i .i64) (by rw [if_pos (by omega)]; omega)⟩, trivial⟩

theorem szSignature_grp (u : U) : (wt (.st 5) u → PSz 285 u) := by
  refine U.ind (M := fun u => (wt (.st 5) u → PSz 285 u)) (fun u ih => ?_) u
  refine ?_
  · intro h
    obtain ⟨f0, f1, f2, f3, f4, f5, rfl, p0, p1, p2, p4, p5⟩ := inv_Signature h
    exact szSignature_step p0 (szTypeS_all p1) p2 (szType_all p2) (szStringS_all p4) p5 (szExpr_all p5)
theorem szSignature_all {u : U} (h : wt (.st 5) u) : PSz 285 u := (szSignature_grp u) h
theorem szSignatureS_all {us : List U} (h : us.length ≤ big ∧ ∀ x ∈ us, wt (.st 5) x) : PSz 252 (.sl 16 us) := szSignatureS_step h.1 (fun a ha => ⟨wt_isSt (h.2 a ha), by rw [wt_sz a _ (h.2 a ha)]; rfl⟩) (fun a ha => szSignature_all (h.2 a ha))
theorem szTrait_step {f0 : List UInt8} {f1 : List U} {f2 : Bool} {f3 : Bool} {f4 : List U} (h0 : f0.length ≤ big) (h1 : PSz 141 (.sl 1 f1)) (h4 : PSz 252 (.sl 16 f4)) : PSz 206 (.st [.s f0, .sl 1 f1, .b f2, .b f3, .sl 16 f4]) := by
  intro left hl0 hl1
  have hW : W (.st [.s f0, .sl 1 f1, .b f2, .b f3, .sl 16 f4]) = f0.length + (W (U.sl 1 f1) + (0 + (0 + (W (U.sl 16 f4) + 0)))) := rfl
  have hb0 : f0.length ≤ 140737488355328 := by rw [big_eq] at h0; exact h0
  refine SpecP_intro Tryz.func206 rfl (by kernel_rfl) rfl fun A => ?_
  refine V_seq_region ?_
  repeat refine VO_d ?_
  refine VO_nil ?_
  refine V_seq_region ?_
  repeat refine VO_d ?_
  refine VO_nil ?_
  refine V_seq (V_seq_region ?_)
  repeat refine VO_d ?_
  refine VO_nil ?_
  refine V_cond rfl (fun hc => ?_) (fun hc => ?_)
  · refine V_seq_region ?_
    repeat refine VO_d ?_
    refine VO_nil ?_
    refine V_ret ?_
    simp only [decide_eq_true_eq] at hc
    exact ⟨trivial, ⟨_, rfl, congrArg (U.i .i64) (by rw [if_neg (by omega)])⟩, trivial⟩
  refine V_skip ?_
  simp only [decide_eq_false_iff_not] at hc
  refine V_seq_region ?_
  repeat refine VO_d ?_
  refine VO_q (Q_call rfl (h1 (left - (f0.length : Int)) (by omega) (by omega)) vA) rfl ?_
  repeat refine VO_d ?_
  refine VO_nil ?_
  refine V_seq (V_seq_region ?_)
  repeat refine VO_d ?_
  refine VO_nil ?_
  refine V_cond rfl (fun hc => ?_) (fun hc => ?_)
  · refine V_seq_region ?_
    repeat refine VO_d ?_
    refine VO_nil ?_
    refine V_ret ?_
    simp only [decide_eq_true_eq] at hc
    exact ⟨trivial, ⟨_, rfl, congrArg (U.i .i64) (by split at hc <;> (rw [if_neg (by omega)]))⟩, trivial⟩
  refine V_skip ?_
  simp only [decide_eq_false_iff_not] at hc
  have hpos1 := hc
  have heq : ∀ (c : Prop) [Decidable c] (a : Int), ¬ (if c then a else -1) < 0 → (if c then a else -1) = a ∧ c := by
    intro c _ a h
    split at h
    · rename_i hc; exact ⟨if_pos hc, hc⟩
    · omega
  obtain ⟨e1, c1⟩ := heq _ _ hc
  rw [e1]
  clear heq hc
  refine V_seq_region ?_
  repeat refine VO_d ?_
  refine VO_q (Q_call rfl (h4 ((left - (f0.length : Int)) - (W (U.sl 1 f1) : Int)) (by omega) (by omega)) vA) rfl ?_
  repeat refine VO_d ?_
  refine VO_nil ?_
  refine V_seq (V_seq_region ?_)
  repeat refine VO_d ?_
  refine VO_nil ?_
  refine V_cond rfl (fun hc => ?_) (fun hc => ?_)
  · refine V_seq_region ?_
    repeat refine VO_d ?_
    refine VO_nil ?_
    refine V_ret ?_
    simp only [decide_eq_true_eq] at hc
    exact ⟨trivial, ⟨_, rfl, congrArg (U.i .i64) (by split at hc <;> (rw [if_neg (by omega)]))⟩, trivial⟩
  refine V_skip ?_
  simp only [decide_eq_false_iff_not] at hc
  have hpos4 := hc
  have heq : ∀ (c : Prop) [Decidable c] (a : Int), ¬ (if c then a else -1) < 0 → (if c then a else -1) = a ∧ c := by
    intro c _ a h
    split at h
    · rename_i hc; exact ⟨if_pos hc, hc⟩
    · omega
  obtain ⟨e4, c4⟩ := heq _ _ hc
  rw [e4]
  clear heq hc
  refine V_seq_region ?_
  repeat refine VO_d ?_
  refine VO_nil ?_
  refine V_ret ?_
  exact ⟨trivial, ⟨_, rfl, congrArg (U.i .i64) (by rw [if_pos (by omega)]; omega)⟩, trivial⟩

theorem szTraitS_step {us : List U} (hl : us.length ≤ big) (hz : ∀ a ∈ us, a.isSt = true ∧ a.sz = 5) (ih : ∀ a ∈ us, PSz 206 a) : PSz 142 (.sl 5 us) := by
  intro left hl0 hl1
  have hW : W (.sl 5 us) = us.length + Ws us := rfl
  have hb : (us.length : Int) ≤ 140737488355328 := by rw [big_eq] at hl; omega
  refine SpecP_intro Tryz.func142 rfl (by kernel_rfl) rfl fun A => ?_
  refine V_seq_region ?_
  repeat refine VO_d ?_
  refine VO_nil ?_
  refine V_seq_region ?_
  repeat refine VO_d ?_
  refine VO_nil ?_
  refine V_seq (V_seq_region ?_)
  repeat refine VO_d ?_
  refine VO_nil ?_
  refine V_cond rfl (fun hc => ?_) (fun hc => ?_)
  · refine V_seq_region ?_
    repeat refine VO_d ?_
    refine VO_nil ?_
    refine V_ret ?_
    simp only [decide_eq_true_eq] at hc
    exact ⟨trivial, ⟨_, rfl, congrArg (U.i .i64) (by rw [if_neg (by omega)])⟩, trivial⟩
  refine V_skip ?_
  simp only [decide_eq_false_iff_not] at hc
  refine V_seq (V_seq_region ?_)
  repeat refine VO_d ?_
  refine VO_nil ?_
  refine V_block ?_
  refine V_loop (α := Nat × Int)
    (fun x => ⟨[(0, .d (.sl 5 us)), (5, .d (.i .i64 x.1)), (1, .d (.i .i64 x.2))], [], Tryz.f142.ntmps⟩)
    (fun x => x.1 ≤ us.length ∧ 0 ≤ x.2 ∧ x.2 = left - us.length - Ws (us.take x.1))
    (fun x => us.length - x.1) (0, left - us.length) ⟨rfl, ⟨⟨rfl, rfl⟩, ⟨rfl, rfl⟩, ⟨rfl, rfl⟩, trivial⟩, ⟨[], rfl⟩, rfl⟩ ⟨by simp, by simp only; omega, by simp [Ws]⟩ ?_
  rintro ⟨k, l⟩ ⟨hk, hq0, hq1⟩
  simp only at hk hq0 hq1
  refine V_seq (V_seq_region ?_)
  repeat refine VO_d ?_
  refine VO_nil ?_
  refine V_cond rfl (fun hc2 => ?_) (fun hc2 => ?_)
  · refine V_skip ?_
    simp only [decide_eq_true_eq] at hc2
    have hkl : k < us.length := by omega
    have hget : us[k]? = some us[k] := List.getElem?_eq_getElem hkl
    have hmem : us[k] ∈ us := List.getElem_mem hkl
    have htk := Ws_take_succ hget
    have hle := Ws_take_le us (k + 1)
    obtain ⟨hst, hsz⟩ := hz _ hmem
    refine V_seq (V_block (V_seq_region ?_))
    repeat refine VO_d ?_
    refine VO_q (Q_index rfl rfl TE.h TI.h (by omega) hget) rfl ?_
    refine VO_q (Q_load rfl TI.h hst hsz) rfl ?_
    repeat refine VO_d ?_
    refine VO_q (Q_call rfl (ih _ hmem l (by omega) (by omega)) vA) rfl ?_
    repeat refine VO_d ?_
    refine VO_nil ?_
    refine V_seq_region ?_
    repeat refine VO_d ?_
    refine VO_nil ?_
    refine V_cond rfl (fun hc3 => ?_) (fun hc3 => ?_)
    · refine V_seq_region ?_
      repeat refine VO_d ?_
      refine VO_nil ?_
      refine V_ret ?_
      simp only [decide_eq_true_eq] at hc3
      exact ⟨trivial, ⟨_, rfl, congrArg (U.i .i64) (by
        rw [if_neg (by intro hle2; rw [if_pos (by omega)] at hc3; omega)])⟩, trivial⟩
    refine V_skip ?_
    simp only [decide_eq_false_iff_not] at hc3
    refine V_region ?_
    repeat refine VO_d ?_
    refine VO_nil ?_
    refine ⟨(k + 1, (if (W us[k] : Int) ≤ l then l - W us[k] else -1)), ?_, ?_, ⟨rfl, ⟨⟨rfl, rfl⟩, ⟨rfl, rfl⟩, ⟨rfl, rfl⟩, trivial⟩, ⟨[], rfl⟩, rfl⟩⟩
    · simp only
      refine ⟨by omega, by omega, ?_⟩
      rw [if_pos (by apply Classical.byContradiction; intro hn; rw [if_neg hn] at hc3; omega)]
      omega
    · simp only
      omega
  · refine V_exit ?_
    simp only [decide_eq_false_iff_not] at hc2
    have hkl : k = us.length := by omega
    subst hkl
    rw [List.take_length] at hq1
    show V _ _ _ _ _
    refine V_seq_region ?_
    repeat refine VO_d ?_
    refine VO_nil ?_
    refine V_ret ?_
    exact ⟨trivial, ⟨_, rfl, congrArg (U.i .i64) (by rw [if_pos (by omega)]; omega)⟩, trivial⟩

theorem szTrait_grp (u : U) : (wt (.st 6) u → PSz 206 u) := by
  refine U.ind (M := fun u => (wt (.st 6) u → PSz 206 u)) (fun u ih => ?_) u
  refine ?_
  · intro h
    obtain ⟨f0, f1, f2, f3, f4, rfl, p0, p1, p4⟩ := inv_Trait h
    exact szTrait_step p0 (szStringS_all p1) (szSignatureS_all p4)
theorem szTrait_all {u : U} (h : wt (.st 6) u) : PSz 206 u := (szTrait_grp u) h
theorem szTraitS_all {us : List U} (h : us.length ≤ big ∧ ∀ x ∈ us, wt (.st 6) x) : PSz 142 (.sl 5 us) := szTraitS_step h.1 (fun a ha => ⟨wt_isSt (h.2 a ha), by rw [wt_sz a _ (h.2 a ha)]; rfl⟩) (fun a ha => szTrait_all (h.2 a ha))
theorem szConstructor_step {f0 : List UInt8} {f1 : List U} (h0 : f0.length ≤ big) (h1 : PSz 62 (.sl 3 f1)) : PSz 286 (.st [.s f0, .sl 3 f1]) := by
  intro left hl0 hl1
  have hW : W (.st [.s f0, .sl 3 f1]) = f0.length + (W (U.sl 3 f1) + 0) := rfl
  have hb0 : f0.length ≤ 140737488355328 := by rw [big_eq] at h0; exact h0
  refine SpecP_intro Tryz.func286 rfl (by kernel_rfl) rfl fun A => ?_
  refine V_seq_region ?_
  repeat refine VO_d ?_
  refine VO_nil ?_
  refine V_seq_region ?_
  repeat refine VO_d ?_
  refine VO_nil ?_
  refine V_seq (V_seq_region ?_)
  repeat refine VO_d ?_
  refine VO_nil ?_
  refine V_cond rfl (fun hc => ?_) (fun hc => ?_)
  · refine V_seq_region ?_
    repeat refine VO_d ?_
    refine VO_nil ?_
    refine V_ret ?_
    simp only [decide_eq_true_eq] at hc
    exact ⟨trivial, ⟨_, rfl, congrArg (U.i .i64) (by rw [if_neg (by omega)])⟩, trivial⟩
  refine V_skip ?_
  simp only [decide_eq_false_iff_not] at hc
  refine V_seq_region ?_
  repeat refine VO_d ?_
  refine VO_q (Q_call rfl (h1 (left - (f0.length : Int)) (by omega) (by omega)) vA) rfl ?_
  repeat refine VO_d ?_
  refine VO_nil ?_
  refine V_seq (V_seq_region ?_)
  repeat refine VO_d ?_
  refine VO_nil ?_
  refine V_cond rfl (fun hc => ?_) (fun hc => ?_)
  · refine V_seq_region ?_
    repeat refine VO_d ?_
    refine VO_nil ?_
    refine V_ret ?_
    simp only [decide_eq_true_eq] at hc
    exact ⟨trivial, ⟨_, rfl, congrArg (U.i .i64) (by split at hc <;> (rw [if_neg (by omega)]))⟩, trivial⟩
  refine V_skip ?_
  simp only [decide_eq_false_iff_not] at hc
  have hpos1 := hc
  have heq : ∀ (c : Prop) [Decidable c] (a : Int), ¬ (if c then a else -1) < 0 → (if c then a else -1) = a ∧ c := by
    intro c _ a h
    split at h
    · rename_i hc; exact ⟨if_pos hc, hc⟩
    · omega
  obtain ⟨e1, c1⟩ := heq _ _ hc
  rw [e1]
  clear heq hc
  refine V_seq_region ?_
  repeat refine VO_d ?_
  refine VO_nil ?_
  refine V_ret ?_
  exact ⟨trivial, ⟨_, rfl, congrArg (U.i .i64) (by rw [if_pos (by omega)]; omega)⟩, trivial⟩

theorem szConstructorS_step {us : List U} (hl : us.length ≤ big) (hz : ∀ a ∈ us, a.isSt = true ∧ a.sz = 2) (ih : ∀ a ∈ us, PSz 286 a) : PSz 253 (.sl 2 us) := by
  intro left hl0 hl1
  have hW : W (.sl 2 us) = us.length + Ws us := rfl
  have hb : (us.length : Int) ≤ 140737488355328 := by rw [big_eq] at hl; omega
  refine SpecP_intro Tryz.func253 rfl (by kernel_rfl) rfl fun A => ?_
  refine V_seq_region ?_
  repeat refine VO_d ?_
  refine VO_nil ?_
  refine V_seq_region ?_
  repeat refine VO_d ?_
  refine VO_nil ?_
  refine V_seq (V_seq_region ?_)
  repeat refine VO_d ?_
  refine VO_nil ?_
  refine V_cond rfl (fun hc => ?_) (fun hc => ?_)
  · refine V_seq_region ?_
    repeat refine VO_d ?_
    refine VO_nil ?_
    refine V_ret ?_
    simp only [decide_eq_true_eq] at hc
    exact ⟨trivial, ⟨_, rfl, congrArg (U.i .i64) (by rw [if_neg (by omega)])⟩, trivial⟩
  refine V_skip ?_
  simp only [decide_eq_false_iff_not] at hc
  refine V_seq (V_seq_region ?_)
  repeat refine VO_d ?_
  refine VO_nil ?_
  refine V_block ?_
  refine V_loop (α := Nat × Int)
    (fun x => ⟨[(0, .d (.sl 2 us)), (5, .d (.i .i64 x.1)), (1, .d (.i .i64 x.2))], [], Tryz.f253.ntmps⟩)
    (fun x => x.1 ≤ us.length ∧ 0 ≤ x.2 ∧ x.2 = left - us.length - Ws (us.take x.1))
    (fun x => us.length - x.1) (0, left - us.length) ⟨rfl, ⟨⟨rfl, rfl⟩, ⟨rfl, rfl⟩, ⟨rfl, rfl⟩, trivial⟩, ⟨[], rfl⟩, rfl⟩ ⟨by simp, by simp only; omega, by simp [Ws]⟩ ?_
  rintro ⟨k, l⟩ ⟨hk, hq0, hq1⟩
  simp only at hk hq0 hq1
  refine V_seq (V_seq_region ?_)
  repeat refine VO_d ?_
  refine VO_nil ?_
  refine V_cond rfl (fun hc2 => ?_) (fun hc2 => ?_)
  · refine V_skip ?_
    simp only [decide_eq_true_eq] at hc2
    have hkl : k < us.length := by omega
    have hget : us[k]? = some us[k] := List.getElem?_eq_getElem hkl
    have hmem : us[k] ∈ us := List.getElem_mem hkl
    have htk := Ws_take_succ hget
    have hle := Ws_take_le us (k + 1)
    obtain ⟨hst, hsz⟩ := hz _ hmem
    refine V_seq (V_block (V_seq_region ?_))
    repeat refine VO_d ?_
    refine VO_q (Q_index rfl rfl TE.h TI.h (by omega) hget) rfl ?_
    refine VO_q (Q_load rfl TI.h hst hsz) rfl ?_
    repeat refine VO_d ?_
    refine VO_q (Q_call rfl (ih _ hmem l (by omega) (by omega)) vA) rfl ?_
    repeat refine VO_d ?_
    refine VO_nil ?_
    refine V_seq_region ?_
    repeat refine VO_d ?_
    refine VO_nil ?_
    refine V_cond rfl (fun hc3 => ?_) (fun hc3 => ?_)
    · refine V_seq_region ?_
      repeat refine VO_d ?_
      refine VO_nil ?_
      refine V_ret ?_
      simp only [decide_eq_true_eq] at hc3
      exact ⟨trivial, ⟨_, rfl, congrArg (U.i .i64) (by
        rw [if_neg (by intro hle2; rw [if_pos (by omega)] at hc3; omega)])⟩, trivial⟩
    refine V_skip ?_
    simp only [decide_eq_false_iff_not] at hc3
    refine V_region ?_
    repeat refine VO_d ?_
    refine VO_nil ?_
    refine ⟨(k + 1, (if (W us[k] : Int) ≤ l then l - W us[k] else -1)), ?_, ?_, ⟨rfl, ⟨⟨rfl, rfl⟩, ⟨rfl, rfl⟩, ⟨rfl, rfl⟩, trivial⟩, ⟨[], rfl⟩, rfl⟩⟩
    · simp only
      refine ⟨by omega, by omega, ?_⟩
      rw [if_pos (by apply Classical.byContradiction; intro hn; rw [if_neg hn] at hc3; omega)]
      omega
    · simp only
      omega
  · refine V_exit ?_
    simp only [decide_eq_false_iff_not] at hc2
    have hkl : k = us.length := by omega
    subst hkl
    rw [List.take_length] at hq1
    show V _ _ _ _ _
    refine V_seq_region ?_
    repeat refine VO_d ?_
    refine VO_nil ?_
    refine V_ret ?_
    exact ⟨trivial, ⟨_, rfl, congrArg (U.i .i64) (by rw [if_pos (by omega)]; omega)⟩, trivial⟩

theorem szConstructor_grp (u : U) : (wt (.st 7) u → PSz 286 u) := by
  refine U.ind (M := fun u => (wt (.st 7) u → PSz 286 u)) (fun u ih => ?_) u
  refine ?_
  · intro h
    obtain ⟨f0, f1, rfl, p0, p1⟩ := inv_Constructor h
    exact szConstructor_step p0 (szTypeS_all p1)
theorem szConstructor_all {u : U} (h : wt (.st 7) u) : PSz 286 u := (szConstructor_grp u) h
theorem szConstructorS_all {us : List U} (h : us.length ≤ big ∧ ∀ x ∈ us, wt (.st 7) x) : PSz 253 (.sl 2 us) := szConstructorS_step h.1 (fun a ha => ⟨wt_isSt (h.2 a ha), by rw [wt_sz a _ (h.2 a ha)]; rfl⟩) (fun a ha => szConstructor_all (h.2 a ha))
theorem szDataType_step {f0 : List UInt8} {f1 : List U} {f2 : List U} (h0 : f0.length ≤ big) (h1 : PSz 141 (.sl 1 f1)) (h2 : PSz 253 (.sl 2 f2)) : PSz 207 (.st [.s f0, .sl 1 f1, .sl 2 f2]) := by
  intro left hl0 hl1
  have hW : W (.st [.s f0, .sl 1 f1, .sl 2 f2]) = f0.length + (W (U.sl 1 f1) + (W (U.sl 2 f2) + 0)) := rfl
  have hb0 : f0.length ≤ 140737488355328 := by rw [big_eq] at h0; exact h0
  refine SpecP_intro Tryz.func207 rfl (by kernel_rfl) rfl fun A => ?_
  refine V_seq_region ?_
  repeat refine VO_d ?_
  refine VO_nil ?_
  refine V_seq_region ?_
  repeat refine VO_d ?_
  refine VO_nil ?_
  refine V_seq (V_seq_region ?_)
  repeat refine VO_d ?_
  refine VO_nil ?_
  refine V_cond rfl (fun hc => ?_) (fun hc => ?_)
  · refine V_seq_region ?_
    repeat refine VO_d ?_
    refine VO_nil ?_
    refine V_ret ?_
    simp only [decide_eq_true_eq] at hc
    exact ⟨trivial, ⟨_, rfl, congrArg (U.i .i64) (by rw [if_neg (by omega)])⟩, trivial⟩
  refine V_skip ?_
  simp only [decide_eq_false_iff_not] at hc
  refine V_seq_region ?_
  repeat refine VO_d ?_
  refine VO_q (Q_call rfl (h1 (left - (f0.length : Int)) (by omega) (by omega)) vA) rfl ?_
  repeat refine VO_d ?_
  refine VO_nil ?_
  refine V_seq (V_seq_region ?_)
  repeat refine VO_d ?_
  refine VO_nil ?_
  refine V_cond rfl (fun hc => ?_) (fun hc => ?_)
  · refine V_seq_region ?_
    repeat refine VO_d ?_
    refine VO_nil ?_
    refine V_ret ?_
    simp only [decide_eq_true_eq] at hc
    exact ⟨trivial, ⟨_, rfl, congrArg (U.i .i64) (by split at hc <;> (rw [if_neg (by omega)]))⟩, trivial⟩
  refine V_skip ?_
  simp only [decide_eq_false_iff_not] at hc
  have hpos1 := hc
  have heq : ∀ (c : Prop) [Decidable c] (a : Int), ¬ (if c then a else -1) < 0 → (if c then a else -1) = a ∧ c := by
    intro c _ a h
    split at h
    · rename_i hc; exact ⟨if_pos hc, hc⟩
    · omega
  obtain ⟨e1, c1⟩ := heq _ _ hc
  rw [e1]
  clear heq hc
  refine V_seq_region ?_
  repeat refine VO_d ?_
  refine VO_q (Q_call rfl (h2 ((left - (f0.length : Int)) - (W (U.sl 1 f1) : Int)) (by omega) (by omega)) vA) rfl ?_
  repeat refine VO_d ?_
  refine VO_nil ?_
  refine V_seq (V_seq_region ?_)
  repeat refine VO_d ?_
  refine VO_nil ?_
  refine V_cond rfl (fun hc => ?_) (fun hc => ?_)
  · refine V_seq_region ?_
    repeat refine VO_d ?_
    refine VO_nil ?_
    refine V_ret ?_
    simp only [decide_eq_true_eq] at hc
    exact ⟨trivial, ⟨_, rfl, congrArg (U.i .i64) (by split at hc <;> (rw [if_neg (by omega)]))⟩, trivial⟩
  refine V_skip ?_
  simp only [decide_eq_false_iff_not] at hc
  have hpos2 := hc
  have heq : ∀ (c : Prop) [Decidable c] (a : Int), ¬ (if c then a else -1) < 0 → (if c then a else -1) = a ∧ c := by
    intro c _ a h
    split at h
    · rename_i hc; exact ⟨if_pos hc, hc⟩
    · omega
  obtain ⟨e2, c2⟩ := heq _ _ hc
  rw [e2]
  clear heq hc
  refine V_seq_region ?_
  repeat refine VO_d ?_
  refine VO_nil ?_
  refine V_ret ?_
  exact ⟨trivial, ⟨_, rfl, congrArg (U.i .i64) (by rw [if_pos (by omega)]; omega)⟩, trivial⟩

theorem szDataTypeS_step {us : List U} (hl : us.length ≤ big) (hz : ∀ a ∈ us, a.isSt = true ∧ a.sz = 3) (ih : ∀ a ∈ us, PSz 207 a) : PSz 143 (.sl 3 us) := by
  intro left hl0 hl1
  have hW : W (.sl 3 us) = us.length + Ws us := rfl
  have hb : (us.length : Int) ≤ 140737488355328 := by rw [big_eq] at hl; omega
  refine SpecP_intro Tryz.func143 rfl (by kernel_rfl) rfl fun A => ?_
  refine V_seq_region ?_
  repeat refine VO_d ?_
  refine VO_nil ?_
  refine V_seq_region ?_
  repeat refine VO_d ?_
  refine VO_nil ?_
  refine V_seq (V_seq_region ?_)
  repeat refine VO_d ?_
  refine VO_nil ?_
  refine V_cond rfl (fun hc => ?_) (fun hc => ?_)
  · refine V_seq_region ?_
    repeat refine VO_d ?_
    refine VO_nil ?_
    refine V_ret ?_
    simp only [decide_eq_true_eq] at hc
    exact ⟨trivial, ⟨_, rfl, congrArg (U.i .i64) (by rw [if_neg (by omega)])⟩, trivial⟩
  refine V_skip ?_
  simp only [decide_eq_false_iff_not] at hc
  refine V_seq (V_seq_region ?_)
  repeat refine VO_d ?_
  refine VO_nil ?_
  refine V_block ?_
  refine V_loop (α := Nat × Int)
    (fun x => ⟨[(0, .d (.sl 3 us)), (5, .d (.i .i64 x.1)), (1, .d (.i .i64 x.2))], [], Tryz.f143.ntmps⟩)
    (fun x => x.1 ≤ us.length ∧ 0 ≤ x.2 ∧ x.2 = left - us.length - Ws (us.take x.1))
    (fun x => us.length - x.1) (0, left - us.length) ⟨rfl, ⟨⟨rfl, rfl⟩, ⟨rfl, rfl⟩, ⟨rfl, rfl⟩, trivial⟩, ⟨[], rfl⟩, rfl⟩ ⟨by simp, by simp only; omega, by simp [Ws]⟩ ?_
  rintro ⟨k, l⟩ ⟨hk, hq0, hq1⟩
  simp only at hk hq0 hq1
  refine V_seq (V_seq_region ?_)
  repeat refine VO_d ?_
  refine VO_nil ?_
  refine V_cond rfl (fun hc2 => ?_) (fun hc2 => ?_)
  · refine V_skip ?_
    simp only [decide_eq_true_eq] at hc2
    have hkl : k < us.length := by omega
    have hget : us[k]? = some us[k] := List.getElem?_eq_getElem hkl
    have hmem : us[k] ∈ us := List.getElem_mem hkl
    have htk := Ws_take_succ hget
    have hle := Ws_take_le us (k + 1)
    obtain ⟨hst, hsz⟩ := hz _ hmem
    refine V_seq (V_block (V_seq_region ?_))
    repeat refine VO_d ?_
    refine VO_q (Q_index rfl rfl TE.h TI.h (by omega) hget) rfl ?_
    refine VO_q (Q_load rfl TI.h hst hsz) rfl ?_
    repeat refine VO_d ?_
    refine VO_q (Q_call rfl (ih _ hmem l (by omega) (by omega)) vA) rfl ?_
    repeat refine VO_d ?_
    refine VO_nil ?_
    refine V_seq_region ?_
    repeat refine VO_d ?_
    refine VO_nil ?_
    refine V_cond rfl (fun hc3 => ?_) (fun hc3 => ?_)
    · refine V_seq_region ?_
      repeat refine VO_d ?_
      refine VO_nil ?_
      refine V_ret ?_
      simp only [decide_eq_true_eq] at hc3
      exact ⟨trivial, ⟨_, rfl, congrArg (U.i .i64) (by
        rw [if_neg (by intro hle2; rw [if_pos (by omega)] at hc3; omega)])⟩, trivial⟩
    refine V_skip ?_
    simp only [decide_eq_false_iff_not] at hc3
    refine V_region ?_
    repeat refine VO_d ?_
    refine VO_nil ?_
    refine ⟨(k + 1, (if (W us[k] : Int) ≤ l then l - W us[k] else -1)), ?_, ?_, ⟨rfl, ⟨⟨rfl, rfl⟩, ⟨rfl, rfl⟩, ⟨rfl, rfl⟩, trivial⟩, ⟨[], rfl⟩, rfl⟩⟩
    · simp only
      refine ⟨by omega, by omega, ?_⟩
      rw [if_pos (by apply Classical.byContradiction; intro hn; rw [if_neg hn] at hc3; omega)]
      omega
    · simp only
      omega
  · refine V_exit ?_
    simp only [decide_eq_false_iff_not] at hc2
    have hkl : k = us.length := by omega
    subst hkl
    rw [List.take_length] at hq1
    show V _ _ _ _ _
    refine V_seq_region ?_
    repeat refine VO_d ?_
    refine VO_nil ?_
    refine V_ret ?_
    exact ⟨trivial, ⟨_, rfl, congrArg (U.i .i64) (by rw [if_pos (by omega)]; omega)⟩, trivial⟩

theorem szDataType_grp (u : U) : (wt (.st 8) u → PSz 207 u) := by
  refine U.ind (M := fun u => (wt (.st 8) u → PSz 207 u)) (fun u ih => ?_) u
  refine ?_
  · intro h
    obtain ⟨f0, f1, f2, rfl, p0, p1, p2⟩ := inv_DataType h
    exact szDataType_step p0 (szStringS_all p1) (szConstructorS_all p2)
theorem szDataType_all {u : U} (h : wt (.st 8) u) : PSz 207 u := (szDataType_grp u) h
theorem szDataTypeS_all {us : List U} (h : us.length ≤ big ∧ ∀ x ∈ us, wt (.st 8) x) : PSz 143 (.sl 3 us) := szDataTypeS_step h.1 (fun a ha => ⟨wt_isSt (h.2 a ha), by rw [wt_sz a _ (h.2 a ha)]; rfl⟩) (fun a ha => szDataType_all (h.2 a ha))
theorem szBound_step {f0 : List UInt8} {f1 : U} (h0 : f0.length ≤ big) (g1 : wt (.st 1) f1) (h1 : PSz 17 f1) : PSz 10 (.st [.s f0, f1]) := by
  intro left hl0 hl1
  have hW : W (.st [.s f0, f1]) = f0.length + (W f1 + 0) := rfl
  have hb0 : f0.length ≤ 140737488355328 := by rw [big_eq] at h0; exact h0
  obtain ⟨m1, hm1⟩ : ∃ m, W f1 = m := ⟨_, rfl⟩
  rw [hm1] at hW
  have h1 : ∀ l : Int, 0 ≤ l → l ≤ 4611686018427387904 → SpecP Tryz.prog 17 [.d f1, .d (.i .i64 l)] [.i .i64 (if (m1 : Int) ≤ l then l - m1 else -1)] := by rw [← hm1]; exact h1
  obtain ⟨e7_0, e7_1, e7_2, rfl, g7_0, g7_1, g7_2⟩ := inv_Type g1
  refine SpecP_intro Tryz.func10 rfl (by kernel_rfl) rfl fun A => ?_
  refine V_seq_region ?_
  repeat refine VO_d ?_
  refine VO_nil ?_
  refine V_seq_region ?_
  repeat refine VO_d ?_
  refine VO_nil ?_
  refine V_seq (V_seq_region ?_)
  repeat refine VO_d ?_
  refine VO_nil ?_
  refine V_cond rfl (fun hc => ?_) (fun hc => ?_)
  · refine V_seq_region ?_
    repeat refine VO_d ?_
    refine VO_nil ?_
    refine V_ret ?_
    simp only [decide_eq_true_eq] at hc
    exact ⟨trivial, ⟨_, rfl, congrArg (U.i .i64) (by rw [if_neg (by omega)])⟩, trivial⟩
  refine V_skip ?_
  simp only [decide_eq_false_iff_not] at hc
  refine V_seq_region ?_
  repeat refine VO_d ?_
  refine VO_q (Q_call rfl (h1 (left - (f0.length : Int)) (by omega) (by omega)) vA) rfl ?_
  repeat refine VO_d ?_
  refine VO_nil ?_
  refine V_seq (V_seq_region ?_)
  repeat refine VO_d ?_
  refine VO_nil ?_
  refine V_cond rfl (fun hc => ?_) (fun hc => ?_)
  · refine V_seq_region ?_
    repeat refine VO_d ?_
    refine VO_nil ?_
    refine V_ret ?_
    simp only [decide_eq_true_eq] at hc
    exact ⟨trivial, ⟨_, rfl, congrArg (U.i .i64) (by split at hc <;> (rw [if_neg (by omega)]))⟩, trivial⟩
  refine V_skip ?_
  simp only [decide_eq_false_iff_not] at hc
  have hpos1 := hc
  have heq : ∀ (c : Prop) [Decidable c] (a : Int), ¬ (if c then a else -1) < 0 → (if c then a else -1) = a ∧ c := by
    intro c _ a h
    split at h
    · rename_i hc; exact ⟨if_pos hc, hc⟩
    · omega
  obtain ⟨e1, c1⟩ := heq _ _ hc
  rw [e1]
  clear heq hc
  refine V_seq_region ?_
  repeat refine VO_d ?_
  refine VO_nil ?_
  refine V_ret ?_
  exact ⟨trivial, ⟨_, rfl, congrArg (U.i .i64) (by rw [if_pos (by omega)]; omega)⟩, trivial⟩

theorem szBoundS_step {us : List U} (hl : us.length ≤ big) (hz : ∀ a ∈ us, a.isSt = true ∧ a.sz = 4) (ih : ∀ a ∈ us, PSz 10 a) : PSz 28 (.sl 4 us) := by
  intro left hl0 hl1
  have hW : W (.sl 4 us) = us.length + Ws us := rfl
  have hb : (us.length : Int) ≤ 140737488355328 := by rw [big_eq] at hl; omega
  refine SpecP_intro Tryz.func28 rfl (by kernel_rfl) rfl fun A => ?_
  refine V_seq_region ?_
  repeat refine VO_d ?_
  refine VO_nil ?_
  refine V_seq_region ?_
  repeat refine VO_d ?_
  refine VO_nil ?_
  refine V_seq (V_seq_region ?_)
  repeat refine VO_d ?_
  refine VO_nil ?_
  refine V_cond rfl (fun hc => ?_) (fun hc => ?_)
  · refine V_seq_region ?_
    repeat refine VO_d ?_
    refine VO_nil ?_
    refine V_ret ?_
    simp only [decide_eq_true_eq] at hc
    exact ⟨trivial, ⟨_, rfl, congrArg (U.i .i64) (by rw [if_neg (by omega)])⟩, trivial⟩
  refine V_skip ?_
  simp only [decide_eq_false_iff_not] at hc
  refine V_seq (V_seq_region ?_)
  repeat refine VO_d ?_
  refine VO_nil ?_
  refine V_block ?_
  refine V_loop (α := Nat × Int)
    (fun x => ⟨[(0, .d (.sl 4 us)), (5, .d (.i .i64 x.1)), (1, .d (.i .i64 x.2))], [], Tryz.f28.ntmps⟩)
    (fun x => x.1 ≤ us.length ∧ 0 ≤ x.2 ∧ x.2 = left - us.length - Ws (us.take x.1))
    (fun x => us.length - x.1) (0, left - us.length) ⟨rfl, ⟨⟨rfl, rfl⟩, ⟨rfl, rfl⟩, ⟨rfl, rfl⟩, trivial⟩, ⟨[], rfl⟩, rfl⟩ ⟨by simp, by simp only; omega, by simp [Ws]⟩ ?_
  rintro ⟨k, l⟩ ⟨hk, hq0, hq1⟩
  simp only at hk hq0 hq1
  refine V_seq (V_seq_region ?_)
  repeat refine VO_d ?_
  refine VO_nil ?_
  refine V_cond rfl (fun hc2 => ?_) (fun hc2 => ?_)
  · refine V_skip ?_
    simp only [decide_eq_true_eq] at hc2
    have hkl : k < us.length := by omega
    have hget : us[k]? = some us[k] := List.getElem?_eq_getElem hkl
    have hmem : us[k] ∈ us := List.getElem_mem hkl
    have htk := Ws_take_succ hget
    have hle := Ws_take_le us (k + 1)
    obtain ⟨hst, hsz⟩ := hz _ hmem
    refine V_seq (V_block (V_seq_region ?_))
    repeat refine VO_d ?_
    refine VO_q (Q_index rfl rfl TE.h TI.h (by omega) hget) rfl ?_
    refine VO_q (Q_load rfl TI.h hst hsz) rfl ?_
    repeat refine VO_d ?_
    refine VO_q (Q_call rfl (ih _ hmem l (by omega) (by omega)) vA) rfl ?_
    repeat refine VO_d ?_
    refine VO_nil ?_
    refine V_seq_region ?_
    repeat refine VO_d ?_
    refine VO_nil ?_
    refine V_cond rfl (fun hc3 => ?_) (fun hc3 => ?_)
    · refine V_seq_region ?_
      repeat refine VO_d ?_
      refine VO_nil ?_
      refine V_ret ?_
      simp only [decide_eq_true_eq] at hc3
      exact ⟨trivial, ⟨_, rfl, congrArg (U.i .i64) (by
        rw [if_neg (by intro hle2; rw [if_pos (by omega)] at hc3; omega)])⟩, trivial⟩
    refine V_skip ?_
    simp only [decide_eq_false_iff_not] at hc3
    refine V_region ?_
    repeat refine VO_d ?_
    refine VO_nil ?_
    refine ⟨(k + 1, (if (W us[k] : Int) ≤ l then l - W us[k] else -1)), ?_, ?_, ⟨rfl, ⟨⟨rfl, rfl⟩, ⟨rfl, rfl⟩, ⟨rfl, rfl⟩, trivial⟩, ⟨[], rfl⟩, rfl⟩⟩
    · simp only
      refine ⟨by omega, by omega, ?_⟩
      rw [if_pos (by apply Classical.byContradiction; intro hn; rw [if_neg hn] at hc3; omega)]
      omega
    · simp only
      omega
  · refine V_exit ?_
    simp only [decide_eq_false_iff_not] at hc2
    have hkl : k = us.length := by omega
    subst hkl
    rw [List.take_length] at hq1
    show V _ _ _ _ _
    refine V_seq_region ?_
    repeat refine VO_d ?_
    refine VO_nil ?_
    refine V_ret ?_
    exact ⟨trivial, ⟨_, rfl, congrArg (U.i .i64) (by rw [if_pos (by omega)]; omega)⟩, trivial⟩

theorem szBound_grp (u : U) : (wt (.st 9) u → PSz 10 u) := by
  refine U.ind (M := fun u => (wt (.st 9) u → PSz 10 u)) (fun u ih => ?_) u
  refine ?_
  · intro h
    obtain ⟨f0, f1, rfl, p0, p1⟩ := inv_Bound h
    exact szBound_step p0 p1 (szType_all p1)
theorem szBound_all {u : U} (h : wt (.st 9) u) : PSz 10 u := (szBound_grp u) h
theorem szBoundS_all {us : List U} (h : us.length ≤ big ∧ ∀ x ∈ us, wt (.st 9) x) : PSz 28 (.sl 4 us) := szBoundS_step h.1 (fun a ha => ⟨wt_isSt (h.2 a ha), by rw [wt_sz a _ (h.2 a ha)]; rfl⟩) (fun a ha => szBound_all (h.2 a ha))
theorem szMethod_step {f0 : List UInt8} {f1 : List U} {f2 : U} (h0 : f0.length ≤ big) (h1 : PSz 141 (.sl 1 f1)) (g2 : wt (.st 4) f2) (h2 : PSz 256 f2) : PSz 287 (.st [.s f0, .sl 1 f1, f2]) := by
  intro left hl0 hl1
  have hW : W (.st [.s f0, .sl 1 f1, f2]) = f0.length + (W (U.sl 1 f1) + (W f2 + 0)) := rfl
  have hb0 : f0.length ≤ 140737488355328 := by rw [big_eq] at h0; exact h0
  obtain ⟨m2, hm2⟩ : ∃ m, W f2 = m := ⟨_, rfl⟩
  rw [hm2] at hW
  have h2 : ∀ l : Int, 0 ≤ l → l ≤ 4611686018427387904 → SpecP Tryz.prog 256 [.d f2, .d (.i .i64 l)] [.i .i64 (if (m2 : Int) ≤ l then l - m2 else -1)] := by rw [← hm2]; exact h2
  obtain ⟨e8_0, e8_1, e8_2, e8_3, e8_4, e8_5, e8_6, rfl, g8_0, g8_1, g8_2, g8_3, g8_4, g8_5, g8_6⟩ := inv_Expr g2
  obtain ⟨e9_0, e9_1, e9_2, rfl, g9_0, g9_1, g9_2⟩ := inv_Type g8_4
  refine SpecP_intro Tryz.func287 rfl (by kernel_rfl) rfl fun A => ?_
  refine V_seq_region ?_
  repeat refine VO_d ?_
  refine VO_nil ?_
  refine V_seq_region ?_
  repeat refine VO_d ?_
  refine VO_nil ?_
  refine V_seq (V_seq_region ?_)
  repeat refine VO_d ?_
  refine VO_nil ?_
  refine V_cond rfl (fun hc => ?_) (fun hc => ?_)
  · refine V_seq_region ?_
    repeat refine VO_d ?_
    refine VO_nil ?_
    refine V_ret ?_
    simp only [decide_eq_true_eq] at hc
    exact ⟨trivial, ⟨_, rfl, congrArg (U.i .i64) (by rw [if_neg (by omega)])⟩, trivial⟩
  refine V_skip ?_
  simp only [decide_eq_false_iff_not] at hc
  refine V_seq_region ?_
  repeat refine VO_d ?_
  refine VO_q (Q_call rfl (h1 (left - (f0.length : Int)) (by omega) (by omega)) vA) rfl ?_
  repeat refine VO_d ?_
  refine VO_nil ?_
  refine V_seq (V_seq_region ?_)
  repeat refine VO_d ?_
  refine VO_nil ?_
  refine V_cond rfl (fun hc => ?_) (fun hc => ?_)
  · refine V_seq_region ?_
    repeat refine VO_d ?_
    refine VO_nil ?_
    refine V_ret ?_
    simp only [decide_eq_true_eq] at hc
    exact ⟨trivial, ⟨_, rfl, congrArg (U.i .i64) (by split at hc <;> (rw [if_neg (by omega)]))⟩, trivial⟩
  refine V_skip ?_
  simp only [decide_eq_false_iff_not] at hc
  have hpos1 := hc
  have heq : ∀ (c : Prop) [Decidable c] (a : Int), ¬ (if c then a else -1) < 0 → (if c then a else -1) = a ∧ c := by
    intro c _ a h
    split at h
    · rename_i hc; exact ⟨if_pos hc, hc⟩
    · omega
  obtain ⟨e1, c1⟩ := heq _ _ hc
  rw [e1]
  clear heq hc
  refine V_seq_region ?_
  repeat refine VO_d ?_
  refine VO_q (Q_call rfl (h2 ((left - (f0.length : Int)) - (W (U.sl 1 f1) : Int)) (by omega) (by omega)) vA) rfl ?_
  repeat refine VO_d ?_
  refine VO_nil ?_
  refine V_seq (V_seq_region ?_)
  repeat refine VO_d ?_
  refine VO_nil ?_
  refine V_cond rfl (fun hc => ?_) (fun hc => ?_)
  · refine V_seq_region ?_
    repeat refine VO_d ?_
    refine VO_nil ?_
    refine V_ret ?_
    simp only [decide_eq_true_eq] at hc
    exact ⟨trivial, ⟨_, rfl, congrArg (U.i .i64) (by split at hc <;> (rw [if_neg (by omega)]))⟩, trivial⟩
  refine V_skip ?_
  simp only [decide_eq_false_iff_not] at hc
  have hpos2 := hc
  have heq : ∀ (c : Prop) [Decidable c] (a : Int), ¬ (if c then a else -1) < 0 → (if c then a else -1) = a ∧ c := by
    intro c _ a h
    split at h
    · rename_i hc; exact ⟨if_pos hc, hc⟩
    · omega
  obtain ⟨e2, c2⟩ := heq _ _ hc
  rw [e2]
  clear heq hc
  refine V_seq_region ?_
  repeat refine VO_d ?_
  refine VO_nil ?_
  refine V_ret ?_
  exact ⟨trivial, ⟨_, rfl, congrArg (U.i .i64) (by rw [if_pos (by omega)]; omega)⟩, trivial⟩

theorem szMethodS_step {us : List U} (hl : us.length ≤ big) (hz : ∀ a ∈ us, a.isSt = true ∧ a.sz = 11) (ih : ∀ a ∈ us, PSz 287 a) : PSz 254 (.sl 11 us) := by
  intro left hl0 hl1
  have hW : W (.sl 11 us) = us.length + Ws us := rfl
  have hb : (us.length : Int) ≤ 140737488355328 := by rw [big_eq] at hl; omega
  refine SpecP_intro Tryz.func254 rfl (by kernel_rfl) rfl fun A => ?_
  refine V_seq_region ?_
  repeat refine VO_d ?_
  refine VO_nil ?_
  refine V_seq_region ?_
  repeat refine VO_d ?_
  refine VO_nil ?_
  refine V_seq (V_seq_region ?_)
  repeat refine VO_d ?_
  refine VO_nil ?_
  refine V_cond rfl (fun hc => ?_) (fun hc => ?_)
  · refine V_seq_region ?_
    repeat refine VO_d ?_
    refine VO_nil ?_
    refine V_ret ?_
    simp only [decide_eq_true_eq] at hc
    exact ⟨trivial, ⟨_, rfl, congrArg (U.i .i64) (by rw [if_neg (by omega)])⟩, trivial⟩
  refine V_skip ?_
  simp only [decide_eq_false_iff_not] at hc
  refine V_seq (V_seq_region ?_)
  repeat refine VO_d ?_
  refine VO_nil ?_
  refine V_block ?_
  refine V_loop (α := Nat × Int)
    (fun x => ⟨[(0, .d (.sl 11 us)), (5, .d (.i .i64 x.1)), (1, .d (.i .i64 x.2))], [], Tryz.f254.ntmps⟩)
    (fun x => x.1 ≤ us.length ∧ 0 ≤ x.2 ∧ x.2 = left - us.length - Ws (us.take x.1))
    (fun x => us.length - x.1) (0, left - us.length) ⟨rfl, ⟨⟨rfl, rfl⟩, ⟨rfl, rfl⟩, ⟨rfl, rfl⟩, trivial⟩, ⟨[], rfl⟩, rfl⟩ ⟨by simp, by simp only; omega, by simp [Ws]⟩ ?_
  rintro ⟨k, l⟩ ⟨hk, hq0, hq1⟩
  simp only at hk hq0 hq1
  refine V_seq (V_seq_region ?_)
  repeat refine VO_d ?_
  refine VO_nil ?_
  refine V_cond rfl (fun hc2 => ?_) (fun hc2 => ?_)
  · refine V_skip ?_
    simp only [decide_eq_true_eq] at hc2
    have hkl : k < us.length := by omega
    have hget : us[k]? = some us[k] := List.getElem?_eq_getElem hkl
    have hmem : us[k] ∈ us := List.getElem_mem hkl
    have htk := Ws_take_succ hget
    have hle := Ws_take_le us (k + 1)
    obtain ⟨hst, hsz⟩ := hz _ hmem
    refine V_seq (V_block (V_seq_region ?_))
    repeat refine VO_d ?_
    refine VO_q (Q_index rfl rfl TE.h TI.h (by omega) hget) rfl ?_
    refine VO_q (Q_load rfl TI.h hst hsz) rfl ?_
    repeat refine VO_d ?_
    refine VO_q (Q_call rfl (ih _ hmem l (by omega) (by omega)) vA) rfl ?_
    repeat refine VO_d ?_
    refine VO_nil ?_
    refine V_seq_region ?_
    repeat refine VO_d ?_
    refine VO_nil ?_
    refine V_cond rfl (fun hc3 => ?_) (fun hc3 => ?_)
    · refine V_seq_region ?_
      repeat refine VO_d ?_
      refine VO_nil ?_
      refine V_ret ?_
      simp only [decide_eq_true_eq] at hc3
      exact ⟨trivial, ⟨_, rfl, congrArg (U.i .i64) (by
        rw [if_neg (by intro hle2; rw [if_pos (by omega)] at hc3; omega)])⟩, trivial⟩
    refine V_skip ?_
    simp only [decide_eq_false_iff_not] at hc3
    refine V_region ?_
    repeat refine VO_d ?_
    refine VO_nil ?_
    refine ⟨(k + 1, (if (W us[k] : Int) ≤ l then l - W us[k] else -1)), ?_, ?_, ⟨rfl, ⟨⟨rfl, rfl⟩, ⟨rfl, rfl⟩, ⟨rfl, rfl⟩, trivial⟩, ⟨[], rfl⟩, rfl⟩⟩
    · simp only
      refine ⟨by omega, by omega, ?_⟩
      rw [if_pos (by apply Classical.byContradiction; intro hn; rw [if_neg hn] at hc3; omega)]
      omega
    · simp only
      omega
  · refine V_exit ?_
    simp only [decide_eq_false_iff_not] at hc2
    have hkl : k = us.length := by omega
    subst hkl
    rw [List.take_length] at hq1
    show V _ _ _ _ _
    refine V_seq_region ?_
    repeat refine VO_d ?_
    refine VO_nil ?_
    refine V_ret ?_
    exact ⟨trivial, ⟨_, rfl, congrArg (U.i .i64) (by rw [if_pos (by omega)]; omega)⟩, trivial⟩

theorem szMethod_grp (u : U) : (wt (.st 10) u → PSz 287 u) := by
  refine U.ind (M := fun u => (wt (.st 10) u → PSz 287 u)) (fun u ih => ?_) u
  refine ?_
  · intro h
    obtain ⟨f0, f1, f2, rfl, p0, p1, p2⟩ := inv_Method h
    exact szMethod_step p0 (szStringS_all p1) p2 (szExpr_all p2)
theorem szMethod_all {u : U} (h : wt (.st 10) u) : PSz 287 u := (szMethod_grp u) h
theorem szMethodS_all {us : List U} (h : us.length ≤ big ∧ ∀ x ∈ us, wt (.st 10) x) : PSz 254 (.sl 11 us) := szMethodS_step h.1 (fun a ha => ⟨wt_isSt (h.2 a ha), by rw [wt_sz a _ (h.2 a ha)]; rfl⟩) (fun a ha => szMethod_all (h.2 a ha))
theorem szInstance_step {f0 : List UInt8} {f1 : List U} {f2 : U} {f3 : List U} {f4 : Bool} {f5 : Bool} {f6 : U} {f7 : List U} (h0 : f0.length ≤ big) (h1 : PSz 141 (.sl 1 f1)) (g2 : wt (.st 1) f2) (h2 : PSz 17 f2) (h3 : PSz 28 (.sl 4 f3)) (g6 : wt (.st 1) f6) (h6 : PSz 17 f6) (h7 : PSz 254 (.sl 11 f7)) : PSz 208 (.st [.s f0, .sl 1 f1, f2, .sl 4 f3, .b f4, .b f5, f6, .sl 11 f7]) := by
  intro left hl0 hl1
  have hW : W (.st [.s f0, .sl 1 f1, f2, .sl 4 f3, .b f4, .b f5, f6, .sl 11 f7]) = f0.length + (W (U.sl 1 f1) + (W f2 + (W (U.sl 4 f3) + (0 + (0 + (W f6 + (W (U.sl 11 f7) + 0))))))) := rfl
  have hb0 : f0.length ≤ 140737488355328 := by rw [big_eq] at h0; exact h0
  obtain ⟨m2, hm2⟩ : ∃ m, W f2 = m := ⟨_, rfl⟩
  rw [hm2] at hW
  have h2 : ∀ l : Int, 0 ≤ l → l ≤ 4611686018427387904 → SpecP Tryz.prog 17 [.d f2, .d (.i .i64 l)] [.i .i64 (if (m2 : Int) ≤ l then l - m2 else -1)] := by rw [← hm2]; exact h2
  obtain ⟨e10_0, e10_1, e10_2, rfl, g10_0, g10_1, g10_2⟩ := inv_Type g2
  obtain ⟨m6, hm6⟩ : ∃ m, W f6 = m := ⟨_, rfl⟩
  rw [hm6] at hW
  have h6 : ∀ l : Int, 0 ≤ l → l ≤ 4611686018427387904 → SpecP Tryz.prog 17 [.d f6, .d (.i .i64 l)] [.i .i64 (if (m6 : Int) ≤ l then l - m6 else -1)] := by rw [← hm6]; exact h6
  obtain ⟨e11_0, e11_1, e11_2, rfl, g11_0, g11_1, g11_2⟩ := inv_Type g6
  refine SpecP_intro Tryz.func208 rfl (by kernel_rfl) rfl fun A => ?_
  refine V_seq_region ?_
  repeat refine VO_d ?_
  refine VO_nil ?_
  refine V_seq_region ?_
  repeat refine VO_d ?_
  refine VO_nil ?_
  refine V_seq (V_seq_region ?_)
  repeat refine VO_d ?_
  refine VO_nil ?_
  refine V_cond rfl (fun hc => ?_) (fun hc => ?_)
  · refine V_seq_region ?_
    repeat refine VO_d ?_
    refine VO_nil ?_
    refine V_ret ?_
    simp only [decide_eq_true_eq] at hc
    exact ⟨trivial, ⟨_, rfl, congrArg (U.i .i64) (by rw [if_neg (by omega)])⟩, trivial⟩
  refine V_skip ?_
  simp only [decide_eq_false_iff_not] at hc
  refine V_seq_region ?_
  repeat refine VO_d ?_
  refine VO_q (Q_call rfl (h1 (left - (f0.length : Int)) (by omega) (by omega)) vA) rfl ?_
  repeat refine VO_d ?_
  refine VO_nil ?_
  refine V_seq (V_seq_region ?_)
  repeat refine VO_d ?_
  refine VO_nil ?_
  refine V_cond rfl (fun hc => ?_) (fun hc => ?_)
  · refine V_seq_region ?_
    repeat refine VO_d ?_
    refine VO_nil ?_
    refine V_ret ?_
    simp only [decide_eq_true_eq] at hc
    exact ⟨trivial, ⟨_, rfl, congrArg (U.i .i64) (by split at hc <;> (rw [if_neg (by omega)]))⟩, trivial⟩
  refine V_skip ?_
  simp only [decide_eq_false_iff_not] at hc
  have hpos1 := hc
  have heq : ∀ (c : Prop) [Decidable c] (a : Int), ¬ (if c then a else -1) < 0 → (if c then a else -1) = a ∧ c := by
    intro c _ a h
    split at h
    · rename_i hc; exact ⟨if_pos hc, hc⟩
    · omega
  obtain ⟨e1, c1⟩ := heq _ _ hc
  rw [e1]
  clear heq hc
  refine V_seq_region ?_
  repeat refine VO_d ?_
  refine VO_q (Q_call rfl (h2 ((left - (f0.length : Int)) - (W (U.sl 1 f1) : Int)) (by omega) (by omega)) vA) rfl ?_
  repeat refine VO_d ?_
  refine VO_nil ?_
  refine V_seq (V_seq_region ?_)
  repeat refine VO_d ?_
  refine VO_nil ?_
  refine V_cond rfl (fun hc => ?_) (fun hc => ?_)
  · refine V_seq_region ?_
    repeat refine VO_d ?_
    refine VO_nil ?_
    refine V_ret ?_
    simp only [decide_eq_true_eq] at hc
    exact ⟨trivial, ⟨_, rfl, congrArg (U.i .i64) (by split at hc <;> (rw [if_neg (by omega)]))⟩, trivial⟩
  refine V_skip ?_
  simp only [decide_eq_false_iff_not] at hc
  have hpos2 := hc
  have heq : ∀ (c : Prop) [Decidable c] (a : Int), ¬ (if c then a else -1) < 0 → (if c then a else -1) = a ∧ c := by
    intro c _ a h
    split at h
    · rename_i hc; exact ⟨if_pos hc, hc⟩
    · omega
  obtain ⟨e2, c2⟩ := heq _ _ hc
  rw [e2]
  clear heq hc
  refine V_seq_region ?_
  repeat refine VO_d ?_
  refine VO_q (Q_call rfl (h3 (((left - (f0.length : Int)) - (W (U.sl 1 f1) : Int)) - (m2 : Int)) (by omega) (by omega)) vA) rfl ?_
  repeat refine VO_d ?_
  refine VO_nil ?_
  refine V_seq (V_seq_region ?_)
  repeat refine VO_d ?_
  refine VO_nil ?_
  refine V_cond rfl (fun hc => ?_) (fun hc => ?_)
  · refine V_seq_region ?_
    repeat refine VO_d ?_
    refine VO_nil ?_
    refine V_ret ?_
    simp only [decide_eq_true_eq] at hc
    exact ⟨trivial, ⟨_, rfl, congrArg (U.i .i64) (by split at hc <;> (rw [if_neg (by omega)]))⟩, trivial⟩
  refine V_skip ?_
  simp only [decide_eq_false_iff_not] at hc
  have hpos3 := hc
  have heq : ∀ (c : Prop) [Decidable c] (a : Int), ¬ (if c then a else -1) < 0 → (if c then a else -1) = a ∧ c := by
    intro c _ a h
    split at h
    · rename_i hc; exact ⟨if_pos hc, hc⟩
    · omega
  obtain ⟨e3, c3⟩ := heq _ _ hc
  rw [e3]
  clear heq hc
  refine V_seq_region ?_
  repeat refine VO_d ?_
  refine VO_q (Q_call rfl (h6 ((((left - (f0.length : Int)) - (W (U.sl 1 f1) : Int)) - (m2 : Int)) - (W (U.sl 4 f3) : Int)) (by omega) (by omega)) vA) rfl ?_
  repeat refine VO_d ?_
  refine VO_nil ?_
  refine V_seq (V_seq_region ?_)
  repeat refine VO_d ?_
  refine VO_nil ?_
  refine V_cond rfl (fun hc => ?_) (fun hc => ?_)
  · refine V_seq_region ?_
    repeat refine VO_d ?_
    refine VO_nil ?_
    refine V_ret ?_
    simp only [decide_eq_true_eq] at hc
    exact ⟨trivial, ⟨_, rfl, congrArg (U.i .i64) (by split at hc <;> (rw [if_neg (by omega)]))⟩, trivial⟩
  refine V_skip ?_
  simp only [decide_eq_false_iff_not] at hc
  have hpos6 := hc
  have heq : ∀ (c : Prop) [Decidable c] (a : Int), ¬ (if c then a else -1) < 0 → (if c then a else -1) = a ∧ c := by
    intro c _ a h
    split at h
    · rename_i hc; exact ⟨if_pos hc, hc⟩
    · omega
  obtain ⟨e6, c6⟩ := heq _ _ hc
  rw [e6]
  clear heq hc
  refine V_seq_region ?_
  repeat refine VO_d ?_
  refine VO_q (Q_call rfl (h7 (((((left - (f0.length : Int)) - (W (U.sl 1 f1) : Int)) - (m2 : Int)) - (W (U.sl 4 f3) : Int)) - (m6 : Int)) (by omega) (by omega)) vA) rfl ?_
  repeat refine VO_d ?_
  refine VO_nil ?_
  refine V_seq (V_seq_region ?_)
  repeat refine VO_d ?_
  refine VO_nil ?_
  refine V_cond rfl (fun hc => ?_) (fun hc => ?_)
  · refine V_seq_region ?_
    repeat refine VO_d ?_
    refine VO_nil ?_
    refine V_ret ?_
    simp only [decide_eq_true_eq] at hc
    exact ⟨trivial, ⟨_, rfl, congrArg (U.i .i64) (by split at hc <;> (rw [if_neg (by omega)]))⟩, trivial⟩
  refine V_skip ?_
  simp only [decide_eq_false_iff_not] at hc
  have hpos7 := hc
  have heq : ∀ (c : Prop) [Decidable c] (a : Int), ¬ (if c then a else -1) < 0 → (if c then a else -1) = a ∧ c := by
    intro c _ a h
    split at h
    · rename_i hc; exact ⟨if_pos hc, hc⟩
    · omega
  obtain ⟨e7, c7⟩ := heq _ _ hc
  rw [e7]
  clear heq hc
  refine V_seq_region ?_
  repeat refine VO_d ?_
  refine VO_nil ?_
  refine V_ret ?_
  exact ⟨trivial, ⟨_, rfl, congrArg (U.i .i64) (by rw [if_pos (by omega)]; omega)⟩, trivial⟩

theorem szInstanceS_step {us : List U} (hl : us.length ≤ big) (hz : ∀ a ∈ us, a.isSt = true ∧ a.sz = 12) (ih : ∀ a ∈ us, PSz 208 a) : PSz 144 (.sl 12 us) := by
  intro left hl0 hl1
  have hW : W (.sl 12 us) = us.length + Ws us := rfl
  have hb : (us.length : Int) ≤ 140737488355328 := by rw [big_eq] at hl; omega
  refine SpecP_intro Tryz.func144 rfl (by kernel_rfl) rfl fun A => ?_
  refine V_seq_region ?_
  repeat refine VO_d ?_
  refine VO_nil ?_
  refine V_seq_region ?_
  repeat refine VO_d ?_
  refine VO_nil ?_
  refine V_seq (V_seq_region ?_)
  repeat refine VO_d ?_
  refine VO_nil ?_
  refine V_cond rfl (fun hc => ?_) (fun hc => ?_)
  · refine V_seq_region ?_
    repeat refine VO_d ?_
    refine VO_nil ?_
    refine V_ret ?_
    simp only [decide_eq_true_eq] at hc
    exact ⟨trivial, ⟨_, rfl, congrArg (U.i .i64) (by rw [if_neg (by omega)])⟩, trivial⟩
  refine V_skip ?_
  simp only [decide_eq_false_iff_not] at hc
  refine V_seq (V_seq_region ?_)
  repeat refine VO_d ?_
  refine VO_nil ?_
  refine V_block ?_
  refine V_loop (α := Nat × Int)
    (fun x => ⟨[(0, .d (.sl 12 us)), (5, .d (.i .i64 x.1)), (1, .d (.i .i64 x.2))], [], Tryz.f144.ntmps⟩)
    (fun x => x.1 ≤ us.length ∧ 0 ≤ x.2 ∧ x.2 = left - us.length - Ws (us.take x.1))
    (fun x => us.length - x.1) (0, left - us.length) ⟨rfl, ⟨⟨rfl, rfl⟩, ⟨rfl, rfl⟩, ⟨rfl, rfl⟩, trivial⟩, ⟨[], rfl⟩, rfl⟩ ⟨by simp, by simp only; omega, by simp [Ws]⟩ ?_
  rintro ⟨k, l⟩ ⟨hk, hq0, hq1⟩
  simp only at hk hq0 hq1
  refine V_seq (V_seq_region ?_)
  repeat refine VO_d ?_
  refine VO_nil ?_
  refine V_cond rfl (fun hc2 => ?_) (fun hc2 => ?_)
  · refine V_skip ?_
    simp only [decide_eq_true_eq] at hc2
    have hkl : k < us.length := by omega
    have hget : us[k]? = some us[k] := List.getElem?_eq_getElem hkl
    have hmem : us[k] ∈ us := List.getElem_mem hkl
    have htk := Ws_take_succ hget
    have hle := Ws_take_le us (k + 1)
    obtain ⟨hst, hsz⟩ := hz _ hmem
    refine V_seq (V_block (V_seq_region ?_))
    repeat refine VO_d ?_
    refine VO_q (Q_index rfl rfl TE.h TI.h (by omega) hget) rfl ?_
    refine VO_q (Q_load rfl TI.h hst hsz) rfl ?_
    repeat refine VO_d ?_
    refine VO_q (Q_call rfl (ih _ hmem l (by omega) (by omega)) vA) rfl ?_
    repeat refine VO_d ?_
    refine VO_nil ?_
    refine V_seq_region ?_
    repeat refine VO_d ?_
    refine VO_nil ?_
    refine V_cond rfl (fun hc3 => ?_) (fun hc3 => ?_)
    · refine V_seq_region ?_
      repeat refine VO_d ?_
      refine VO_nil ?_
      refine V_ret ?_
      simp only [decide_eq_true_eq] at hc3
      exact ⟨trivial, ⟨_, rfl, congrArg (U.i .i64) (by
        rw [if_neg (by intro hle2; rw [if_pos (by omega)] at hc3; omega)])⟩, trivial⟩
    refine V_skip ?_
    simp only [decide_eq_false_iff_not] at hc3
    refine V_region ?_
    repeat refine VO_d ?_
    refine VO_nil ?_
    refine ⟨(k + 1, (if (W us[k] : Int) ≤ l then l - W us[k] else -1)), ?_, ?_, ⟨rfl, ⟨⟨rfl, rfl⟩, ⟨rfl, rfl⟩, ⟨rfl, rfl⟩, trivial⟩, ⟨[], rfl⟩, rfl⟩⟩
    · simp only
      refine ⟨by omega, by omega, ?_⟩
      rw [if_pos (by apply Classical.byContradiction; intro hn; rw [if_neg hn] at hc3; omega)]
      omega
    · simp only
      omega
  · refine V_exit ?_
    simp only [decide_eq_false_iff_not] at hc2
    have hkl : k = us.length := by omega
    subst hkl
    rw [List.take_length] at hq1
    show V _ _ _ _ _
    refine V_seq_region ?_
    repeat refine VO_d ?_
    refine VO_nil ?_
    refine V_ret ?_
    exact ⟨trivial, ⟨_, rfl, congrArg (U.i .i64) (by rw [if_pos (by omega)]; omega)⟩, trivial⟩

theorem szInstance_grp (u : U) : (wt (.st 11) u → PSz 208 u) := by
  refine U.ind (M := fun u => (wt (.st 11) u → PSz 208 u)) (fun u ih => ?_) u
  refine ?_
  · intro h
    obtain ⟨f0, f1, f2, f3, f4, f5, f6, f7, rfl, p0, p1, p2, p3, p6, p7⟩ := inv_Instance h
    exact szInstance_step p0 (szStringS_all p1) p2 (szType_all p2) (szBoundS_all p3) p6 (szType_all p6) (szMethodS_all p7)
theorem szInstance_all {u : U} (h : wt (.st 11) u) : PSz 208 u := (szInstance_grp u) h
theorem szInstanceS_all {us : List U} (h : us.length ≤ big ∧ ∀ x ∈ us, wt (.st 11) x) : PSz 144 (.sl 12 us) := szInstanceS_step h.1 (fun a ha => ⟨wt_isSt (h.2 a ha), by rw [wt_sz a _ (h.2 a ha)]; rfl⟩) (fun a ha => szInstance_all (h.2 a ha))
theorem szParam_step {f0 : List UInt8} {f1 : U} (h0 : f0.length ≤ big) (g1 : wt (.st 1) f1) (h1 : PSz 17 f1) : PSz 288 (.st [.s f0, f1]) := by
  intro left hl0 hl1
  have hW : W (.st [.s f0, f1]) = f0.length + (W f1 + 0) := rfl
  have hb0 : f0.length ≤ 140737488355328 := by rw [big_eq] at h0; exact h0
  obtain ⟨m1, hm1⟩ : ∃ m, W f1 = m := ⟨_, rfl⟩
  rw [hm1] at hW
  have h1 : ∀ l : Int, 0 ≤ l → l ≤ 4611686018427387904 → SpecP Tryz.prog 17 [.d f1, .d (.i .i64 l)] [.i .i64 (if (m1 : Int) ≤ l then l - m1 else -1)] := by rw [← hm1]; exact h1
  obtain ⟨e12_0, e12_1, e12_2, rfl, g12_0, g12_1, g12_2⟩ := inv_Type g1
  refine SpecP_intro Tryz.func288 rfl (by kernel_rfl) rfl fun A => ?_
  refine V_seq_region ?_
  repeat refine VO_d ?_
  refine VO_nil ?_
  refine V_seq_region ?_
  repeat refine VO_d ?_
  refine VO_nil ?_
  refine V_seq (V_seq_region ?_)
  repeat refine VO_d ?_
  refine VO_nil ?_
  refine V_cond rfl (fun hc => ?_) (fun hc => ?_)
  · refine V_seq_region ?_
    repeat refine VO_d ?_
    refine VO_nil ?_
    refine V_ret ?_
    simp only [decide_eq_true_eq] at hc
    exact ⟨trivial, ⟨_, rfl, congrArg (U.i .i64) (by rw [if_neg (by omega)])⟩, trivial⟩
  refine V_skip ?_
  simp only [decide_eq_false_iff_not] at hc
  refine V_seq_region ?_
  repeat refine VO_d ?_
  refine VO_q (Q_call rfl (h1 (left - (f0.length : Int)) (by omega) (by omega)) vA) rfl ?_
  repeat refine VO_d ?_
  refine VO_nil ?_
  refine V_seq (V_seq_region ?_)
  repeat refine VO_d ?_
  refine VO_nil ?_
  refine V_cond rfl (fun hc => ?_) (fun hc => ?_)
  · refine V_seq_region ?_
    repeat refine VO_d ?_
    refine VO_nil ?_
    refine V_ret ?_
    simp only [decide_eq_true_eq] at hc
    exact ⟨trivial, ⟨_, rfl, congrArg (U.i .i64) (by split at hc <;> (rw [if_neg (by omega)]))⟩, trivial⟩
  refine V_skip ?_
  simp only [decide_eq_false_iff_not] at hc
  have hpos1 := hc
  have heq : ∀ (c : Prop) [Decidable c] (a : Int), ¬ (if c then a else -1) < 0 → (if c then a else -1) = a ∧ c := by
    intro c _ a h
    split at h
    · rename_i hc; exact ⟨if_pos hc, hc⟩
    · omega
  obtain ⟨e1, c1⟩ := heq _ _ hc
  rw [e1]
  clear heq hc
  refine V_seq_region ?_
  repeat refine VO_d ?_
  refine VO_nil ?_
  refine V_ret ?_
  exact ⟨trivial, ⟨_, rfl, congrArg (U.i .i64) (by rw [if_pos (by omega)]; omega)⟩, trivial⟩

theorem szParamS_step {us : List U} (hl : us.length ≤ big) (hz : ∀ a ∈ us, a.isSt = true ∧ a.sz = 4) (ih : ∀ a ∈ us, PSz 288 a) : PSz 255 (.sl 4 us) := by
  intro left hl0 hl1
  have hW : W (.sl 4 us) = us.length + Ws us := rfl
  have hb : (us.length : Int) ≤ 140737488355328 := by rw [big_eq] at hl; omega
  refine SpecP_intro Tryz.func255 rfl (by kernel_rfl) rfl fun A => ?_
  refine V_seq_region ?_
  repeat refine VO_d ?_
  refine VO_nil ?_
  refine V_seq_region ?_
  repeat refine VO_d ?_
  refine VO_nil ?_
  refine V_seq (V_seq_region ?_)
  repeat refine VO_d ?_
  refine VO_nil ?_
  refine V_cond rfl (fun hc => ?_) (fun hc => ?_)
  · refine V_seq_region ?_
    repeat refine VO_d ?_
    refine VO_nil ?_
    refine V_ret ?_
    simp only [decide_eq_true_eq] at hc
    exact ⟨trivial, ⟨_, rfl, congrArg (U.i .i64) (by rw [if_neg (by omega)])⟩, trivial⟩
  refine V_skip ?_
  simp only [decide_eq_false_iff_not] at hc
  refine V_seq (V_seq_region ?_)
  repeat refine VO_d ?_
  refine VO_nil ?_
  refine V_block ?_
  refine V_loop (α := Nat × Int)
    (fun x => ⟨[(0, .d (.sl 4 us)), (5, .d (.i .i64 x.1)), (1, .d (.i .i64 x.2))], [], Tryz.f255.ntmps⟩)
    (fun x => x.1 ≤ us.length ∧ 0 ≤ x.2 ∧ x.2 = left - us.length - Ws (us.take x.1))
    (fun x => us.length - x.1) (0, left - us.length) ⟨rfl, ⟨⟨rfl, rfl⟩, ⟨rfl, rfl⟩, ⟨rfl, rfl⟩, trivial⟩, ⟨[], rfl⟩, rfl⟩ ⟨by simp, by simp only; omega, by simp [Ws]⟩ ?_
  rintro ⟨k, l⟩ ⟨hk, hq0, hq1⟩
  simp only at hk hq0 hq1
  refine V_seq (V_seq_region ?_)
  repeat refine VO_d ?_
  refine VO_nil ?_
  refine V_cond rfl (fun hc2 => ?_) (fun hc2 => ?_)
  · refine V_skip ?_
    simp only [decide_eq_true_eq] at hc2
    have hkl : k < us.length := by omega
    have hget : us[k]? = some us[k] := List.getElem?_eq_getElem hkl
    have hmem : us[k] ∈ us := List.getElem_mem hkl
    have htk := Ws_take_succ hget
    have hle := Ws_take_le us (k + 1)
    obtain ⟨hst, hsz⟩ := hz _ hmem
    refine V_seq (V_block (V_seq_region ?_))
    repeat refine VO_d ?_
    refine VO_q (Q_index rfl rfl TE.h TI.h (by omega) hget) rfl ?_
    refine VO_q (Q_load rfl TI.h hst hsz) rfl ?_
    repeat refine VO_d ?_
    refine VO_q (Q_call rfl (ih _ hmem l (by omega) (by omega)) vA) rfl ?_
    repeat refine VO_d ?_
    refine VO_nil ?_
    refine V_seq_region ?_
    repeat refine VO_d ?_
    refine VO_nil ?_
    refine V_cond rfl (fun hc3 => ?_) (fun hc3 => ?_)
    · refine V_seq_region ?_
      repeat refine VO_d ?_
      refine VO_nil ?_
      refine V_ret ?_
      simp only [decide_eq_true_eq] at hc3
      exact ⟨trivial, ⟨_, rfl, congrArg (U.i .i64) (by
        rw [if_neg (by intro hle2; rw [if_pos (by omega)] at hc3; omega)])⟩, trivial⟩
    refine V_skip ?_
    simp only [decide_eq_false_iff_not] at hc3
    refine V_region ?_
    repeat refine VO_d ?_
    refine VO_nil ?_
    refine ⟨(k + 1, (if (W us[k] : Int) ≤ l then l - W us[k] else -1)), ?_, ?_, ⟨rfl, ⟨⟨rfl, rfl⟩, ⟨rfl, rfl⟩, ⟨rfl, rfl⟩, trivial⟩, ⟨[], rfl⟩, rfl⟩⟩
    · simp only
      refine ⟨by omega, by omega, ?_⟩
      rw [if_pos (by apply Classical.byContradiction; intro hn; rw [if_neg hn] at hc3; omega)]
      omega
    · simp only
      omega
  · refine V_exit ?_
    simp only [decide_eq_false_iff_not] at hc2
    have hkl : k = us.length := by omega
    subst hkl
    rw [List.take_length] at hq1
    show V _ _ _ _ _
    refine V_seq_region ?_
    repeat refine VO_d ?_
    refine VO_nil ?_
    refine V_ret ?_
    exact ⟨trivial, ⟨_, rfl, congrArg (U.i .i64) (by rw [if_pos (by omega)]; omega)⟩, trivial⟩

theorem szParam_grp (u : U) : (wt (.st 12) u → PSz 288 u) := by
  refine U.ind (M := fun u => (wt (.st 12) u → PSz 288 u)) (fun u ih => ?_) u
  refine ?_
  · intro h
    obtain ⟨f0, f1, rfl, p0, p1⟩ := inv_Param h
    exact szParam_step p0 p1 (szType_all p1)
theorem szParam_all {u : U} (h : wt (.st 12) u) : PSz 288 u := (szParam_grp u) h
theorem szParamS_all {us : List U} (h : us.length ≤ big ∧ ∀ x ∈ us, wt (.st 12) x) : PSz 255 (.sl 4 us) := szParamS_step h.1 (fun a ha => ⟨wt_isSt (h.2 a ha), by rw [wt_sz a _ (h.2 a ha)]; rfl⟩) (fun a ha => szParam_all (h.2 a ha))
theorem szFunction_step {f0 : List UInt8} {f1 : List U} {f2 : List U} {f3 : List U} {f4 : U} {f5 : U} (h0 : f0.length ≤ big) (h1 : PSz 141 (.sl 1 f1)) (h2 : PSz 28 (.sl 4 f2)) (h3 : PSz 255 (.sl 4 f3)) (g4 : wt (.st 1) f4) (h4 : PSz 17 f4) (g5 : wt (.st 4) f5) (h5 : PSz 256 f5) : PSz 209 (.st [.s f0, .sl 1 f1, .sl 4 f2, .sl 4 f3, f4, f5]) := by
  intro left hl0 hl1
  have hW : W (.st [.s f0, .sl 1 f1, .sl 4 f2, .sl 4 f3, f4, f5]) = f0.length + (W (U.sl 1 f1) + (W (U.sl 4 f2) + (W (U.sl 4 f3) + (W f4 + (W f5 + 0))))) := rfl
  have hb0 : f0.length ≤ 140737488355328 := by rw [big_eq] at h0; exact h0
  obtain ⟨m4, hm4⟩ : ∃ m, W f4 = m := ⟨_, rfl⟩
  rw [hm4] at hW
  have h4 : ∀ l : Int, 0 ≤ l → l ≤ 4611686018427387904 → SpecP Tryz.prog 17 [.d f4, .d (.i .i64 l)] [.i .i64 (if (m4 : Int) ≤ l then l - m4 else -1)] := by rw [← hm4]; exact h4
  obtain ⟨e13_0, e13_1, e13_2, rfl, g13_0, g13_1, g13_2⟩ := inv_Type g4
  obtain ⟨m5, hm5⟩ : ∃ m, W f5 = m := ⟨_, rfl⟩
  rw [hm5] at hW
  have h5 : ∀ l : Int, 0 ≤ l → l ≤ 4611686018427387904 → SpecP Tryz.prog 256 [.d f5, .d (.i .i64 l)] [.i .i64 (if (m5 : Int) ≤ l then l - m5 else -1)] := by rw [← hm5]; exact h5
  obtain ⟨e14_0, e14_1, e14_2, e14_3, e14_4, e14_5, e14_6, rfl, g14_0, g14_1, g14_2, g14_3, g14_4, g14_5, g14_6⟩ := inv_Expr g5
  obtain ⟨e15_0, e15_1, e15_2, rfl, g15_0, g15_1, g15_2⟩ := inv_Type g14_4
  refine SpecP_intro Tryz.func209 rfl (by kernel_rfl) rfl fun A => ?_
  refine V_seq_region ?_
  repeat refine VO_d ?_
  refine VO_nil ?_
  refine V_seq_region ?_
  repeat refine VO_d ?_
  refine VO_nil ?_
  refine V_seq (V_seq_region ?_)
  repeat refine VO_d ?_
  refine VO_nil ?_
  refine V_cond rfl (fun hc => ?_) (fun hc => ?_)
  · refine V_seq_region ?_
    repeat refine VO_d ?_
    refine VO_nil ?_
    refine V_ret ?_
    simp only [decide_eq_true_eq] at hc
    exact ⟨trivial, ⟨_, rfl, congrArg (U.i .i64) (by rw [if_neg (by omega)])⟩, trivial⟩
  refine V_skip ?_
  simp only [decide_eq_false_iff_not] at hc
  refine V_seq_region ?_
  repeat refine VO_d ?_
  refine VO_q (Q_call rfl (h1 (left - (f0.length : Int)) (by omega) (by omega)) vA) rfl ?_
  repeat refine VO_d ?_
  refine VO_nil ?_
  refine V_seq (V_seq_region ?_)
  repeat refine VO_d ?_
  refine VO_nil ?_
  refine V_cond rfl (fun hc => ?_) (fun hc => ?_)
  · refine V_seq_region ?_
    repeat refine VO_d ?_
    refine VO_nil ?_
    refine V_ret ?_
    simp only [decide_eq_true_eq] at hc
    exact ⟨trivial, ⟨_, rfl, congrArg (U.i .i64) (by split at hc <;> (rw [if_neg (by omega)]))⟩, trivial⟩
  refine V_skip ?_
  simp only [decide_eq_false_iff_not] at hc
  have hpos1 := hc
  have heq : ∀ (c : Prop) [Decidable c] (a : Int), ¬ (if c then a else -1) < 0 → (if c then a else -1) = a ∧ c := by
    intro c _ a h
    split at h
    · rename_i hc; exact ⟨if_pos hc, hc⟩
    · omega
  obtain ⟨e1, c1⟩ := heq _ _ hc
  rw [e1]
  clear heq hc
  refine V_seq_region ?_
  repeat refine VO_d ?_
  refine VO_q (Q_call rfl (h2 ((left - (f0.length : Int)) - (W (U.sl 1 f1) : Int)) (by omega) (by omega)) vA) rfl ?_
  repeat refine VO_d ?_
  refine VO_nil ?_
  refine V_seq (V_seq_region ?_)
  repeat refine VO_d ?_
  refine VO_nil ?_
  refine V_cond rfl (fun hc => ?_) (fun hc => ?_)
  · refine V_seq_region ?_
    repeat refine VO_d ?_
    refine VO_nil ?_
    refine V_ret ?_
    simp only [decide_eq_true_eq] at hc
    exact ⟨trivial, ⟨_, rfl, congrArg (U.i .i64) (by split at hc <;> (rw [if_neg (by omega)]))⟩, trivial⟩
  refine V_skip ?_
  simp only [decide_eq_false_iff_not] at hc
  have hpos2 := hc
  have heq : ∀ (c : Prop) [Decidable c] (a : Int), ¬ (if c then a else -1) < 0 → (if c then a else -1) = a ∧ c := by
    intro c _ a h
    split at h
    · rename_i hc; exact ⟨if_pos hc, hc⟩
    · omega
  obtain ⟨e2, c2⟩ := heq _ _ hc
  rw [e2]
  clear heq hc
  refine V_seq_region ?_
  repeat refine VO_d ?_
  refine VO_q (Q_call rfl (h3 (((left - (f0.length : Int)) - (W (U.sl 1 f1) : Int)) - (W (U.sl 4 f2) : Int)) (by omega) (by omega)) vA) rfl ?_
  repeat refine VO_d ?_
  refine VO_nil ?_
  refine V_seq (V_seq_region ?_)
  repeat refine VO_d ?_
  refine VO_nil ?_
  refine V_cond rfl (fun hc => ?_) (fun hc => ?_)
  · refine V_seq_region ?_
    repeat refine VO_d ?_
    refine VO_nil ?_
    refine V_ret ?_
    simp only [decide_eq_true_eq] at hc
    exact ⟨trivial, ⟨_, rfl, congrArg (U.i .i64) (by split at hc <;> (rw [if_neg (by omega)]))⟩, trivial⟩
  refine V_skip ?_
  simp only [decide_eq_false_iff_not] at hc
  have hpos3 := hc
  have heq : ∀ (c : Prop) [Decidable c] (a : Int), ¬ (if c then a else -1) < 0 → (if c then a else -1) = a ∧ c := by
    intro c _ a h
    split at h
    · rename_i hc; exact ⟨if_pos hc, hc⟩
    · omega
  obtain ⟨e3, c3⟩ := heq _ _ hc
  rw [e3]
  clear heq hc
  refine V_seq_region ?_
  repeat refine VO_d ?_
  refine VO_q (Q_call rfl (h4 ((((left - (f0.length : Int)) - (W (U.sl 1 f1) : Int)) - (W (U.sl 4 f2) : Int)) - (W (U.sl 4 f3) : Int)) (by omega) (by omega)) vA) rfl ?_
  repeat refine VO_d ?_
  refine VO_nil ?_
  refine V_seq (V_seq_region ?_)
  repeat refine VO_d ?_
  refine VO_nil ?_
  refine V_cond rfl (fun hc => ?_) (fun hc => ?_)
  · refine V_seq_region ?_
    repeat refine VO_d ?_
    refine VO_nil ?_
    refine V_ret ?_
    simp only [decide_eq_true_eq] at hc
    exact ⟨trivial, ⟨_, rfl, congrArg (U.i .i64) (by split at hc <;> (rw [if_neg (by omega)]))⟩, trivial⟩
  refine V_skip ?_
  simp only [decide_eq_false_iff_not] at hc
  have hpos4 := hc
  have heq : ∀ (c : Prop) [Decidable c] (a : Int), ¬ (if c then a else -1) < 0 → (if c then a else -1) = a ∧ c := by
    intro c _ a h
    split at h
    · rename_i hc; exact ⟨if_pos hc, hc⟩
    · omega
  obtain ⟨e4, c4⟩ := heq _ _ hc
  rw [e4]
  clear heq hc
  refine V_seq_region ?_
  repeat refine VO_d ?_
  refine VO_q (Q_call rfl (h5 (((((left - (f0.length : Int)) - (W (U.sl 1 f1) : Int)) - (W (U.sl 4 f2) : Int)) - (W (U.sl 4 f3) : Int)) - (m4 : Int)) (by omega) (by omega)) vA) rfl ?_
  repeat refine VO_d ?_
  refine VO_nil ?_
  refine V_seq (V_seq_region ?_)
  repeat refine VO_d ?_
  refine VO_nil ?_
  refine V_cond rfl (fun hc => ?_) (fun hc => ?_)
  · refine V_seq_region ?_
    repeat refine VO_d ?_
    refine VO_nil ?_
    refine V_ret ?_
    simp only [decide_eq_true_eq] at hc
    exact ⟨trivial, ⟨_, rfl, congrArg (U.i .i64) (by split at hc <;> (rw [if_neg (by omega)]))⟩, trivial⟩
  refine V_skip ?_
  simp only [decide_eq_false_iff_not] at hc
  have hpos5 := hc
  have heq : ∀ (c : Prop) [Decidable c] (a : Int), ¬ (if c then a else -1) < 0 → (if c then a else -1) = a ∧ c := by
    intro c _ a h
    split at h
    · rename_i hc; exact ⟨if_pos hc, hc⟩
    · omega
  obtain ⟨e5, c5⟩ := heq _ _ hc
  rw [e5]
  clear heq hc
  refine V_seq_region ?_
  repeat refine VO_d ?_
  refine VO_nil ?_
  refine V_ret ?_
  exact ⟨trivial, ⟨_, rfl, congrArg (U.i .i64) (by rw [if_pos (by omega)]; omega)⟩, trivial⟩

theorem szFunctionS_step {us : List U} (hl : us.length ≤ big) (hz : ∀ a ∈ us, a.isSt = true ∧ a.sz = 16) (ih : ∀ a ∈ us, PSz 209 a) : PSz 145 (.sl 16 us) := by
  intro left hl0 hl1
  have hW : W (.sl 16 us) = us.length + Ws us := rfl
  have hb : (us.length : Int) ≤ 140737488355328 := by rw [big_eq] at hl; omega
  refine SpecP_intro Tryz.func145 rfl (by kernel_rfl) rfl fun A => ?_
  refine V_seq_region ?_
  repeat refine VO_d ?_
  refine VO_nil ?_
  refine V_seq_region ?_
  repeat refine VO_d ?_
  refine VO_nil ?_
  refine V_seq (V_seq_region ?_)
  repeat refine VO_d ?_
  refine VO_nil ?_
  refine V_cond rfl (fun hc => ?_) (fun hc => ?_)
  · refine V_seq_region ?_
    repeat refine VO_d ?_
    refine VO_nil ?_
    refine V_ret ?_
    simp only [decide_eq_true_eq] at hc
    exact ⟨trivial, ⟨_, rfl, congrArg (U.i .i64) (by rw [if_neg (by omega)])⟩, trivial⟩
  refine V_skip ?_
  simp only [decide_eq_false_iff_not] at hc
  refine V_seq (V_seq_region ?_)
  repeat refine VO_d ?_
  refine VO_nil ?_
  refine V_block ?_
  refine V_loop (α := Nat × Int)
    (fun x => ⟨[(0, .d (.sl 16 us)), (5, .d (.i .i64 x.1)), (1, .d (.i .i64 x.2))], [], Tryz.f145.ntmps⟩)
    (fun x => x.1 ≤ us.length ∧ 0 ≤ x.2 ∧ x.2 = left - us.length - Ws (us.take x.1))
    (fun x => us.length - x.1) (0, left - us.length) ⟨rfl, ⟨⟨rfl, rfl⟩, ⟨rfl, rfl⟩, ⟨rfl, rfl⟩, trivial⟩, ⟨[], rfl⟩, rfl⟩ ⟨by simp, by simp only; omega, by simp [Ws]⟩ ?_
  rintro ⟨k, l⟩ ⟨hk, hq0, hq1⟩
  simp only at hk hq0 hq1
  refine V_seq (V_seq_region ?_)
  repeat refine VO_d ?_
  refine VO_nil ?_
  refine V_cond rfl (fun hc2 => ?_) (fun hc2 => ?_)
  · refine V_skip ?_
    simp only [decide_eq_true_eq] at hc2
    have hkl : k < us.length := by omega
    have hget : us[k]? = some us[k] := List.getElem?_eq_getElem hkl
    have hmem : us[k] ∈ us := List.getElem_mem hkl
    have htk := Ws_take_succ hget
    have hle := Ws_take_le us (k + 1)
    obtain ⟨hst, hsz⟩ := hz _ hmem
    refine V_seq (V_block (V_seq_region ?_))
    repeat refine VO_d ?_
    refine VO_q (Q_index rfl rfl TE.h TI.h (by omega) hget) rfl ?_
    refine VO_q (Q_load rfl TI.h hst hsz) rfl ?_
    repeat refine VO_d ?_
    refine VO_q (Q_call rfl (ih _ hmem l (by omega) (by omega)) vA) rfl ?_
    repeat refine VO_d ?_
    refine VO_nil ?_
    refine V_seq_region ?_
    repeat refine VO_d ?_
    refine VO_nil ?_
    refine V_cond rfl (fun hc3 => ?_) (fun hc3 => ?_)
    · refine V_seq_region ?_
      repeat refine VO_d ?_
      refine VO_nil ?_
      refine V_ret ?_
      simp only [decide_eq_true_eq] at hc3
      exact ⟨trivial, ⟨_, rfl, congrArg (U.i .i64) (by
        rw [if_neg (by intro hle2; rw [if_pos (by omega)] at hc3; omega)])⟩, trivial⟩
    refine V_skip ?_
    simp only [decide_eq_false_iff_not] at hc3
    refine V_region ?_
    repeat refine VO_d ?_
    refine VO_nil ?_
    refine ⟨(k + 1, (if (W us[k] : Int) ≤ l then l - W us[k] else -1)), ?_, ?_, ⟨rfl, ⟨⟨rfl, rfl⟩, ⟨rfl, rfl⟩, ⟨rfl, rfl⟩, trivial⟩, ⟨[], rfl⟩, rfl⟩⟩
    · simp only
      refine ⟨by omega, by omega, ?_⟩
      rw [if_pos (by apply Classical.byContradiction; intro hn; rw [if_neg hn] at hc3; omega)]
      omega
    · simp only
      omega
  · refine V_exit ?_
    simp only [decide_eq_false_iff_not] at hc2
    have hkl : k = us.length := by omega
    subst hkl
    rw [List.take_length] at hq1
    show V _ _ _ _ _
    refine V_seq_region ?_
    repeat refine VO_d ?_
    refine VO_nil ?_
    refine V_ret ?_
    exact ⟨trivial, ⟨_, rfl, congrArg (U.i .i64) (by rw [if_pos (by omega)]; omega)⟩, trivial⟩

theorem szFunction_grp (u : U) : (wt (.st 13) u → PSz 209 u) := by
  refine U.ind (M := fun u => (wt (.st 13) u → PSz 209 u)) (fun u ih => ?_) u
  refine ?_
  · intro h
    obtain ⟨f0, f1, f2, f3, f4, f5, rfl, p0, p1, p2, p3, p4, p5⟩ := inv_Function h
    exact szFunction_step p0 (szStringS_all p1) (szBoundS_all p2) (szParamS_all p3) p4 (szType_all p4) p5 (szExpr_all p5)
theorem szFunction_all {u : U} (h : wt (.st 13) u) : PSz 209 u := (szFunction_grp u) h
theorem szFunctionS_all {us : List U} (h : us.length ≤ big ∧ ∀ x ∈ us, wt (.st 13) x) : PSz 145 (.sl 16 us) := szFunctionS_step h.1 (fun a ha => ⟨wt_isSt (h.2 a ha), by rw [wt_sz a _ (h.2 a ha)]; rfl⟩) (fun a ha => szFunction_all (h.2 a ha))
theorem szPackage_step {f0 : List UInt8} {f1 : List U} {f2 : List U} {f3 : List U} {f4 : List U} {f5 : List U} (h0 : f0.length ≤ big) (h1 : PSz 141 (.sl 1 f1)) (h2 : PSz 142 (.sl 5 f2)) (h3 : PSz 143 (.sl 3 f3)) (h4 : PSz 144 (.sl 12 f4)) (h5 : PSz 145 (.sl 16 f5)) : PSz 92 (.st [.s f0, .sl 1 f1, .sl 5 f2, .sl 3 f3, .sl 12 f4, .sl 16 f5]) := by
  intro left hl0 hl1
  have hW : W (.st [.s f0, .sl 1 f1, .sl 5 f2, .sl 3 f3, .sl 12 f4, .sl 16 f5]) = f0.length + (W (U.sl 1 f1) + (W (U.sl 5 f2) + (W (U.sl 3 f3) + (W (U.sl 12 f4) + (W (U.sl 16 f5) + 0))))) := rfl
  have hb0 : f0.length ≤ 140737488355328 := by rw [big_eq] at h0; exact h0
  refine SpecP_intro Tryz.func92 rfl (by kernel_rfl) rfl fun A => ?_
  refine V_seq_region ?_
  repeat refine VO_d ?_
  refine VO_nil ?_
  refine V_seq_region ?_
  repeat refine VO_d ?_
  refine VO_nil ?_
  refine V_seq (V_seq_region ?_)
  repeat refine VO_d ?_
  refine VO_nil ?_
  refine V_cond rfl (fun hc => ?_) (fun hc => ?_)
  · refine V_seq_region ?_
    repeat refine VO_d ?_
    refine VO_nil ?_
    refine V_ret ?_
    simp only [decide_eq_true_eq] at hc
    exact ⟨trivial, ⟨_, rfl, congrArg (U.i .i64) (by rw [if_neg (by omega)])⟩, trivial⟩
  refine V_skip ?_
  simp only [decide_eq_false_iff_not] at hc
  refine V_seq_region ?_
  repeat refine VO_d ?_
  refine VO_q (Q_call rfl (h1 (left - (f0.length : Int)) (by omega) (by omega)) vA) rfl ?_
  repeat refine VO_d ?_
  refine VO_nil ?_
  refine V_seq (V_seq_region ?_)
  repeat refine VO_d ?_
  refine VO_nil ?_
  refine V_cond rfl (fun hc => ?_) (fun hc => ?_)
  · refine V_seq_region ?_
    repeat refine VO_d ?_
    refine VO_nil ?_
    refine V_ret ?_
    simp only [decide_eq_true_eq] at hc
    exact ⟨trivial, ⟨_, rfl, congrArg (U.i .i64) (by split at hc <;> (rw [if_neg (by omega)]))⟩, trivial⟩
  refine V_skip ?_
  simp only [decide_eq_false_iff_not] at hc
  have hpos1 := hc
  have heq : ∀ (c : Prop) [Decidable c] (a : Int), ¬ (if c then a else -1) < 0 → (if c then a else -1) = a ∧ c := by
    intro c _ a h
    split at h
    · rename_i hc; exact ⟨if_pos hc, hc⟩
    · omega
  obtain ⟨e1, c1⟩ := heq _ _ hc
  rw [e1]
  clear heq hc
  refine V_seq_region ?_
  repeat refine VO_d ?_
  refine VO_q (Q_call rfl (h2 ((left - (f0.length : Int)) - (W (U.sl 1 f1) : Int)) (by omega) (by omega)) vA) rfl ?_
  repeat refine VO_d ?_
  refine VO_nil ?_
  refine V_seq (V_seq_region ?_)
  repeat refine VO_d ?_
  refine VO_nil ?_
  refine V_cond rfl (fun hc => ?_) (fun hc => ?_)
  · refine V_seq_region ?_
    repeat refine VO_d ?_
    refine VO_nil ?_
    refine V_ret ?_
    simp only [decide_eq_true_eq] at hc
    exact ⟨trivial, ⟨_, rfl, congrArg (U.i .i64) (by split at hc <;> (rw [if_neg (by omega)]))⟩, trivial⟩
  refine V_skip ?_
  simp only [decide_eq_false_iff_not] at hc
  have hpos2 := hc
  have heq : ∀ (c : Prop) [Decidable c] (a : Int), ¬ (if c then a else -1) < 0 → (if c then a else -1) = a ∧ c := by
    intro c _ a h
    split at h
    · rename_i hc; exact ⟨if_pos hc, hc⟩
    · omega
  obtain ⟨e2, c2⟩ := heq _ _ hc
  rw [e2]
  clear heq hc
  refine V_seq_region ?_
  repeat refine VO_d ?_
  refine VO_q (Q_call rfl (h3 (((left - (f0.length : Int)) - (W (U.sl 1 f1) : Int)) - (W (U.sl 5 f2) : Int)) (by omega) (by omega)) vA) rfl ?_
  repeat refine VO_d ?_
  refine VO_nil ?_
  refine V_seq (V_seq_region ?_)
  repeat refine VO_d ?_
  refine VO_nil ?_
  refine V_cond rfl (fun hc => ?_) (fun hc => ?_)
  · refine V_seq_region ?_
    repeat refine VO_d ?_
    refine VO_nil ?_
    refine V_ret ?_
    simp only [decide_eq_true_eq] at hc
    exact ⟨trivial, ⟨_, rfl, congrArg (U.i .i64) (by split at hc <;> (rw [if_neg (by omega)]))⟩, trivial⟩
  refine V_skip ?_
  simp only [decide_eq_false_iff_not] at hc
  have hpos3 := hc
  have heq : ∀ (c : Prop) [Decidable c] (a : Int), ¬ (if c then a else -1) < 0 → (if c then a else -1) = a ∧ c := by
    intro c _ a h
    split at h
    · rename_i hc; exact ⟨if_pos hc, hc⟩
    · omega
  obtain ⟨e3, c3⟩ := heq _ _ hc
  rw [e3]
  clear heq hc
  refine V_seq_region ?_
  repeat refine VO_d ?_
  refine VO_q (Q_call rfl (h4 ((((left - (f0.length : Int)) - (W (U.sl 1 f1) : Int)) - (W (U.sl 5 f2) : Int)) - (W (U.sl 3 f3) : Int)) (by omega) (by omega)) vA) rfl ?_
  repeat refine VO_d ?_
  refine VO_nil ?_
  refine V_seq (V_seq_region ?_)
  repeat refine VO_d ?_
  refine VO_nil ?_
  refine V_cond rfl (fun hc => ?_) (fun hc => ?_)
  · refine V_seq_region ?_
    repeat refine VO_d ?_
    refine VO_nil ?_
    refine V_ret ?_
    simp only [decide_eq_true_eq] at hc
    exact ⟨trivial, ⟨_, rfl, congrArg (U.i .i64) (by split at hc <;> (rw [if_neg (by omega)]))⟩, trivial⟩
  refine V_skip ?_
  simp only [decide_eq_false_iff_not] at hc
  have hpos4 := hc
  have heq : ∀ (c : Prop) [Decidable c] (a : Int), ¬ (if c then a else -1) < 0 → (if c then a else -1) = a ∧ c := by
    intro c _ a h
    split at h
    · rename_i hc; exact ⟨if_pos hc, hc⟩
    · omega
  obtain ⟨e4, c4⟩ := heq _ _ hc
  rw [e4]
  clear heq hc
  refine V_seq_region ?_
  repeat refine VO_d ?_
  refine VO_q (Q_call rfl (h5 (((((left - (f0.length : Int)) - (W (U.sl 1 f1) : Int)) - (W (U.sl 5 f2) : Int)) - (W (U.sl 3 f3) : Int)) - (W (U.sl 12 f4) : Int)) (by omega) (by omega)) vA) rfl ?_
  repeat refine VO_d ?_
  refine VO_nil ?_
  refine V_seq (V_seq_region ?_)
  repeat refine VO_d ?_
  refine VO_nil ?_
  refine V_cond rfl (fun hc => ?_) (fun hc => ?_)
  · refine V_seq_region ?_
    repeat refine VO_d ?_
    refine VO_nil ?_
    refine V_ret ?_
    simp only [decide_eq_true_eq] at hc
    exact ⟨trivial, ⟨_, rfl, congrArg (U.i .i64) (by split at hc <;> (rw [if_neg (by omega)]))⟩, trivial⟩
  refine V_skip ?_
  simp only [decide_eq_false_iff_not] at hc
  have hpos5 := hc
  have heq : ∀ (c : Prop) [Decidable c] (a : Int), ¬ (if c then a else -1) < 0 → (if c then a else -1) = a ∧ c := by
    intro c _ a h
    split at h
    · rename_i hc; exact ⟨if_pos hc, hc⟩
    · omega
  obtain ⟨e5, c5⟩ := heq _ _ hc
  rw [e5]
  clear heq hc
  refine V_seq_region ?_
  repeat refine VO_d ?_
  refine VO_nil ?_
  refine V_ret ?_
  exact ⟨trivial, ⟨_, rfl, congrArg (U.i .i64) (by rw [if_pos (by omega)]; omega)⟩, trivial⟩

theorem szPackageS_step {us : List U} (hl : us.length ≤ big) (hz : ∀ a ∈ us, a.isSt = true ∧ a.sz = 6) (ih : ∀ a ∈ us, PSz 92 a) : PSz 46 (.sl 6 us) := by
  intro left hl0 hl1
  have hW : W (.sl 6 us) = us.length + Ws us := rfl
  have hb : (us.length : Int) ≤ 140737488355328 := by rw [big_eq] at hl; omega
  refine SpecP_intro Tryz.func46 rfl (by kernel_rfl) rfl fun A => ?_
  refine V_seq_region ?_
  repeat refine VO_d ?_
  refine VO_nil ?_
  refine V_seq_region ?_
  repeat refine VO_d ?_
  refine VO_nil ?_
  refine V_seq (V_seq_region ?_)
  repeat refine VO_d ?_
  refine VO_nil ?_
  refine V_cond rfl (fun hc => ?_) (fun hc => ?_)
  · refine V_seq_region ?_
    repeat refine VO_d ?_
    refine VO_nil ?_
    refine V_ret ?_
    simp only [decide_eq_true_eq] at hc
    exact ⟨trivial, ⟨_, rfl, congrArg (U.i .i64) (by rw [if_neg (by omega)])⟩, trivial⟩
  refine V_skip ?_
  simp only [decide_eq_false_iff_not] at hc
  refine V_seq (V_seq_region ?_)
  repeat refine VO_d ?_
  refine VO_nil ?_
  refine V_block ?_
  refine V_loop (α := Nat × Int)
    (fun x => ⟨[(0, .d (.sl 6 us)), (5, .d (.i .i64 x.1)), (1, .d (.i .i64 x.2))], [], Tryz.f46.ntmps⟩)
    (fun x => x.1 ≤ us.length ∧ 0 ≤ x.2 ∧ x.2 = left - us.length - Ws (us.take x.1))
    (fun x => us.length - x.1) (0, left - us.length) ⟨rfl, ⟨⟨rfl, rfl⟩, ⟨rfl, rfl⟩, ⟨rfl, rfl⟩, trivial⟩, ⟨[], rfl⟩, rfl⟩ ⟨by simp, by simp only; omega, by simp [Ws]⟩ ?_
  rintro ⟨k, l⟩ ⟨hk, hq0, hq1⟩
  simp only at hk hq0 hq1
  refine V_seq (V_seq_region ?_)
  repeat refine VO_d ?_
  refine VO_nil ?_
  refine V_cond rfl (fun hc2 => ?_) (fun hc2 => ?_)
  · refine V_skip ?_
    simp only [decide_eq_true_eq] at hc2
    have hkl : k < us.length := by omega
    have hget : us[k]? = some us[k] := List.getElem?_eq_getElem hkl
    have hmem : us[k] ∈ us := List.getElem_mem hkl
    have htk := Ws_take_succ hget
    have hle := Ws_take_le us (k + 1)
    obtain ⟨hst, hsz⟩ := hz _ hmem
    refine V_seq (V_block (V_seq_region ?_))
    repeat refine VO_d ?_
    refine VO_q (Q_index rfl rfl TE.h TI.h (by omega) hget) rfl ?_
    refine VO_q (Q_load rfl TI.h hst hsz) rfl ?_
    repeat refine VO_d ?_
    refine VO_q (Q_call rfl (ih _ hmem l (by omega) (by omega)) vA) rfl ?_
    repeat refine VO_d ?_
    refine VO_nil ?_
    refine V_seq_region ?_
    repeat refine VO_d ?_
    refine VO_nil ?_
    refine V_cond rfl (fun hc3 => ?_) (fun hc3 => ?_)
    · refine V_seq_region ?_
      repeat refine VO_d ?_
      refine VO_nil ?_
      refine V_ret ?_
      simp only [decide_eq_true_eq] at hc3
      exact ⟨trivial, ⟨_, rfl, congrArg (U.i .i64) (by
        rw [if_neg (by intro hle2; rw [if_pos (by omega)] at hc3; omega)])⟩, trivial⟩
    refine V_skip ?_
    simp only [decide_eq_false_iff_not] at hc3
    refine V_region ?_
    repeat refine VO_d ?_
    refine VO_nil ?_
    refine ⟨(k + 1, (if (W us[k] : Int) ≤ l then l - W us[k] else -1)), ?_, ?_, ⟨rfl, ⟨⟨rfl, rfl⟩, ⟨rfl, rfl⟩, ⟨rfl, rfl⟩, trivial⟩, ⟨[], rfl⟩, rfl⟩⟩
    · simp only
      refine ⟨by omega, by omega, ?_⟩
      rw [if_pos (by apply Classical.byContradiction; intro hn; rw [if_neg hn] at hc3; omega)]
      omega
    · simp only
      omega
  · refine V_exit ?_
    simp only [decide_eq_false_iff_not] at hc2
    have hkl : k = us.length := by omega
    subst hkl
    rw [List.take_length] at hq1
    show V _ _ _ _ _
    refine V_seq_region ?_
    repeat refine VO_d ?_
    refine VO_nil ?_
    refine V_ret ?_
    exact ⟨trivial, ⟨_, rfl, congrArg (U.i .i64) (by rw [if_pos (by omega)]; omega)⟩, trivial⟩

theorem szPackage_grp (u : U) : (wt (.st 14) u → PSz 92 u) := by
  refine U.ind (M := fun u => (wt (.st 14) u → PSz 92 u)) (fun u ih => ?_) u
  refine ?_
  · intro h
    obtain ⟨f0, f1, f2, f3, f4, f5, rfl, p0, p1, p2, p3, p4, p5⟩ := inv_Package h
    exact szPackage_step p0 (szStringS_all p1) (szTraitS_all p2) (szDataTypeS_all p3) (szInstanceS_all p4) (szFunctionS_all p5)
theorem szPackage_all {u : U} (h : wt (.st 14) u) : PSz 92 u := (szPackage_grp u) h
theorem szPackageS_all {us : List U} (h : us.length ≤ big ∧ ∀ x ∈ us, wt (.st 14) x) : PSz 46 (.sl 6 us) := szPackageS_step h.1 (fun a ha => ⟨wt_isSt (h.2 a ha), by rw [wt_sz a _ (h.2 a ha)]; rfl⟩) (fun a ha => szPackage_all (h.2 a ha))
theorem szProgram_step {f0 : List U} (h0 : PSz 46 (.sl 6 f0)) : PSz 9 (.st [.sl 6 f0]) := by
  intro left hl0 hl1
  have hW : W (.st [.sl 6 f0]) = W (U.sl 6 f0) + 0 := rfl
  refine SpecP_intro Tryz.func9 rfl (by kernel_rfl) rfl fun A => ?_
  refine V_seq_region ?_
  repeat refine VO_d ?_
  refine VO_nil ?_
  refine V_seq_region ?_
  repeat refine VO_d ?_
  refine VO_q (Q_call rfl (h0 left (by omega) (by omega)) vA) rfl ?_
  repeat refine VO_d ?_
  refine VO_nil ?_
  refine V_seq (V_seq_region ?_)
  repeat refine VO_d ?_
  refine VO_nil ?_
  refine V_cond rfl (fun hc => ?_) (fun hc => ?_)
  · refine V_seq_region ?_
    repeat refine VO_d ?_
    refine VO_nil ?_
    refine V_ret ?_
    simp only [decide_eq_true_eq] at hc
    exact ⟨trivial, ⟨_, rfl, congrArg (U.i .i64) (by split at hc <;> (rw [if_neg (by omega)]))⟩, trivial⟩
  refine V_skip ?_
  simp only [decide_eq_false_iff_not] at hc
  have hpos0 := hc
  have heq : ∀ (c : Prop) [Decidable c] (a : Int), ¬ (if c then a else -1) < 0 → (if c then a else -1) = a ∧ c := by
    intro c _ a h
    split at h
    · rename_i hc; exact ⟨if_pos hc, hc⟩
    · omega
  obtain ⟨e0, c0⟩ := heq _ _ hc
  rw [e0]
  clear heq hc
  refine V_seq_region ?_
  repeat refine VO_d ?_
  refine VO_nil ?_
  refine V_ret ?_
  exact ⟨trivial, ⟨_, rfl, congrArg (U.i .i64) (by rw [if_pos (by omega)]; omega)⟩, trivial⟩

theorem szProgram_grp (u : U) : (wt (.st 15) u → PSz 9 u) := by
  refine U.ind (M := fun u => (wt (.st 15) u → PSz 9 u)) (fun u ih => ?_) u
  refine ?_
  · intro h
    obtain ⟨f0, rfl, p0⟩ := inv_Program h
    exact szProgram_step (szPackageS_all p0)
theorem szProgram_all {u : U} (h : wt (.st 15) u) : PSz 9 u := (szProgram_grp u) h
theorem toType_step {f0 : Int} {f1 : List UInt8} {f2 : List U} (h1 : f1.length ≤ big) (h2 : PTo 66 (.sl 3 f2)) : PTo 19 (.st [.i .i64 f0, .s f1, .sl 3 f2]) := by
  intro hw
  have hW : W (.st [.i .i64 f0, .s f1, .sl 3 f2]) = 0 + (f1.length + (W (U.sl 3 f2) + 0)) := rfl
  have c2 := h2 (by omega)
  clear h2
  clear hW hw
  refine SpecP_intro Tryz.func19 rfl (by kernel_rfl) rfl fun A => ?_
  refine gREG ?_
  repeat refine VO_d ?_
  refine gNIL ?_
  refine gREG ?_
  repeat refine VO_d ?_
  refine gNIL ?_
  refine gREG ?_
  repeat refine VO_d ?_
  refine gNIL ?_
  refine gREG ?_
  repeat refine VO_d ?_
  refine gNIL ?_
  refine gREG ?_
  repeat refine VO_d ?_
  (first | refine VO_q (Q_call rfl c2 vA) rfl ?_ | refine VQ_q (Q_call rfl c2 vA) rfl ?_ | (refine VO_bare rfl rfl rfl rfl ?_; refine VO_q (Q_call rfl c2 vA) rfl ?_) | refine VQ_run rfl rfl rfl rfl (Q_call rfl c2 vA) rfl ?_)
  repeat refine VO_d ?_
  refine gNIL ?_
  refine gREG ?_
  repeat refine VO_d ?_
  refine gNIL ?_
  refine V_ret ?_
  exact ⟨trivial, ⟨_, ResV_ag rfl rfl TI.h rfl rfl, vA⟩, trivial⟩

theorem zu_Type : ZeroU (.st [.i .i64 0, .s [], .sl 3 []]) [.int .i64 0, .string ⟨#[]⟩, .slice none 0 0] := fun S w => Rd.of_leafs _ _ (And.intro zI (And.intro zS (And.intro zL (trivial))))
theorem toTypeS_step {us : List U} (hz : ∀ a ∈ us, a.isSt = true ∧ a.sz = 3) (ih : ∀ a ∈ us, PTo 19 a) : PTo 66 (.sl 3 us) := by
  intro hw
  have hW : W (.sl 3 us) = us.length + Ws us := rfl
  refine SpecP_intro Tryz.func66 rfl (by kernel_rfl) rfl fun A => ?_
  refine gREG ?_
  repeat refine VO_d ?_
  refine gNIL ?_
  refine gREG ?_
  repeat refine VO_d ?_
  refine VO_make rfl rfl TE.h TI.h TZ.h rfl zu_Type (by omega) (by omega) (by rw [big_eq]; omega) (by omega) rfl lN lN ?_
  repeat refine VO_d ?_
  refine gNIL ?_
  rw [Int.toNat_natCast, fillU_zero]
  refine gREG ?_
  repeat refine VO_d ?_
  refine gNIL ?_
  refine V_block ?_
  refine V_loop (α := Nat)
    (fun k => ⟨[(0, .d (.sl 3 us)), (3, .sl 0 0), (4, .d (.i .i64 k))], [.arr 39 3 0 (fillU us (.st [.i .i64 0, .s [], .sl 3 []]) k)], Tryz.f66.ntmps⟩)
    (fun k => k ≤ us.length)
    (fun k => us.length - k) 0 ⟨rfl, ⟨⟨rfl, rfl⟩, ⟨rfl, rfl⟩, ⟨rfl, rfl⟩, trivial⟩, ⟨[], rfl⟩, rfl⟩ (by simp) ?_
  intro k hk
  refine gREG ?_
  repeat refine VO_d ?_
  refine gNIL ?_
  refine V_cond rfl (fun hc2 => ?_) (fun hc2 => ?_)
  · refine V_skip ?_
    simp only [decide_eq_true_eq] at hc2
    have hkl : k < us.length := by omega
    have hget : us[k]? = some us[k] := List.getElem?_eq_getElem hkl
    have hmem : us[k] ∈ us := List.getElem_mem hkl
    have hwk := W_le_of_mem hmem
    have hfl : (fillU us (.st [.i .i64 0, .s [], .sl 3 []]) k).length = us.length := fillU_length hk
    obtain ⟨hst, hsz⟩ := hz _ hmem
    refine V_seq (V_block ?_)
    refine gREG ?_
    repeat refine VO_d ?_
    refine VO_q (Q_index rfl rfl TE.h TI.h (by omega) hget) rfl ?_
    refine VO_q (Q_load rfl TI.h hst hsz) rfl ?_
    refine VO_q (Q_call rfl (ih _ hmem (by omega)) vA) rfl ?_
    refine VO_q (Q_index_arr rfl rfl rfl TE.h TI.h (by omega) (by omega)) rfl ?_
    refine VO_store_ep rfl rfl (by exact rfl) TI.h hsz (by omega) lN ?_
    refine gNIL ?_
    refine gREG ?_
    repeat refine VO_d ?_
    refine gNIL ?_
    refine ⟨k + 1, by omega, by omega, ⟨rfl, ⟨⟨rfl, rfl⟩, ⟨rfl, rfl⟩, ⟨rfl, rfl⟩, trivial⟩, ⟨[], ?_⟩, rfl⟩⟩
    rw [Int.toNat_natCast, fillU_set hget]
    rfl
  · refine V_exit ?_
    simp only [decide_eq_false_iff_not] at hc2
    have hkl : k = us.length := by omega
    subst hkl
    rw [fillU_all]
    show V _ _ _ _ _
    refine gREG ?_
    repeat refine VO_d ?_
    refine gNIL ?_
    refine V_freeze 0 rfl lN ?_
    refine V_ret ?_
    exact ⟨trivial, ⟨_, rfl, _, rfl⟩, trivial⟩

theorem toType_grp (u : U) : (wt (.st 1) u → PTo 19 u) := by
  refine U.ind (M := fun u => (wt (.st 1) u → PTo 19 u)) (fun u ih => ?_) u
  refine ?_
  · intro h
    obtain ⟨f0, f1, f2, rfl, p0, p1, p2⟩ := inv_Type h
    exact toType_step p1 (toTypeS_step (fun a ha => ⟨wt_isSt (p2.2 a ha), by rw [wt_sz a _ (p2.2 a ha)]; rfl⟩) (fun a ha => (ih a (by have := nn_of_mem ha; simp only [U.nn, U.nns]; omega)) (p2.2 a ha)))
theorem toType_all {u : U} (h : wt (.st 1) u) : PTo 19 u := (toType_grp u) h
theorem toTypeS_all {us : List U} (h : us.length ≤ big ∧ ∀ x ∈ us, wt (.st 1) x) : PTo 66 (.sl 3 us) := toTypeS_step (fun a ha => ⟨wt_isSt (h.2 a ha), by rw [wt_sz a _ (h.2 a ha)]; rfl⟩) (fun a ha => toType_all (h.2 a ha))
theorem zu_String : ZeroU (.s []) [.string ⟨#[]⟩] := fun S w => Rd.of_leafs _ _ (And.intro zS (trivial))
theorem toStringS_step {us : List U} (hz : ∀ a ∈ us, ∃ l : List UInt8, a = .s l ∧ l.length ≤ big) : PTo 153 (.sl 1 us) := by
  intro hw
  have hW : W (.sl 1 us) = us.length + Ws us := rfl
  refine SpecP_intro Tryz.func153 rfl (by kernel_rfl) rfl fun A => ?_
  refine gREG ?_
  repeat refine VO_d ?_
  refine gNIL ?_
  refine gREG ?_
  repeat refine VO_d ?_
  refine VO_make rfl rfl TE.h TI.h TZ.h rfl zu_String (by omega) (by omega) (by rw [big_eq]; omega) (by omega) rfl lN lN ?_
  repeat refine VO_d ?_
  refine gNIL ?_
  rw [Int.toNat_natCast, fillU_zero]
  refine gREG ?_
  repeat refine VO_d ?_
  refine gNIL ?_
  refine V_block ?_
  refine V_loop (α := Nat)
    (fun k => ⟨[(0, .d (.sl 1 us)), (3, .sl 0 0), (4, .d (.i .i64 k))], [.arr 9 1 0 (fillU us (.s []) k)], Tryz.f153.ntmps⟩)
    (fun k => k ≤ us.length)
    (fun k => us.length - k) 0 ⟨rfl, ⟨⟨rfl, rfl⟩, ⟨rfl, rfl⟩, ⟨rfl, rfl⟩, trivial⟩, ⟨[], rfl⟩, rfl⟩ (by simp) ?_
  intro k hk
  refine gREG ?_
  repeat refine VO_d ?_
  refine gNIL ?_
  refine V_cond rfl (fun hc2 => ?_) (fun hc2 => ?_)
  · refine V_skip ?_
    simp only [decide_eq_true_eq] at hc2
    have hkl : k < us.length := by omega
    have hget : us[k]? = some us[k] := List.getElem?_eq_getElem hkl
    have hmem : us[k] ∈ us := List.getElem_mem hkl
    have hwk := W_le_of_mem hmem
    have hfl : (fillU us (.s []) k).length = us.length := fillU_length hk
    obtain ⟨sl, hsl, hsb⟩ := hz _ hmem
    have hget2 : us[k]? = some (.s sl) := by rw [hget, hsl]
    refine V_seq (V_block ?_)
    refine gREG ?_
    repeat (first | refine VO_d ?_ | refine VQ_d ?_)
    (first | refine VO_q (Q_index rfl rfl TE.h TI.h (by omega) hget2) rfl ?_ | refine VQ_q (Q_index rfl rfl TE.h TI.h (by omega) hget2) rfl ?_ | (refine VO_bare rfl rfl rfl rfl ?_; refine VO_q (Q_index rfl rfl TE.h TI.h (by omega) hget2) rfl ?_) | refine VQ_run rfl rfl rfl rfl (Q_index rfl rfl TE.h TI.h (by omega) hget2) rfl ?_)
    repeat (first | refine VO_d ?_ | refine VQ_d ?_)
    (first | refine VO_q (Q_index_arr rfl rfl rfl TE.h TI.h (by omega) (by omega)) rfl ?_ | refine VQ_q (Q_index_arr rfl rfl rfl TE.h TI.h (by omega) (by omega)) rfl ?_ | (refine VO_bare rfl rfl rfl rfl ?_; refine VO_q (Q_index_arr rfl rfl rfl TE.h TI.h (by omega) (by omega)) rfl ?_) | refine VQ_run rfl rfl rfl rfl (Q_index_arr rfl rfl rfl TE.h TI.h (by omega) (by omega)) rfl ?_)
    refine VO_store_ep rfl rfl (by exact rfl) TI.h rfl (by omega) lN ?_
    rw [← hsl]
    refine gNIL ?_
    refine gREG ?_
    repeat refine VO_d ?_
    refine gNIL ?_
    refine ⟨k + 1, by omega, by omega, ⟨rfl, ⟨⟨rfl, rfl⟩, ⟨rfl, rfl⟩, ⟨rfl, rfl⟩, trivial⟩, ⟨[], ?_⟩, rfl⟩⟩
    rw [Int.toNat_natCast, fillU_set hget]
    rfl
  · refine V_exit ?_
    simp only [decide_eq_false_iff_not] at hc2
    have hkl : k = us.length := by omega
    subst hkl
    rw [fillU_all]
    show V _ _ _ _ _
    refine gREG ?_
    repeat refine VO_d ?_
    refine gNIL ?_
    refine V_freeze 0 rfl lN ?_
    refine V_ret ?_
    exact ⟨trivial, ⟨_, rfl, _, rfl⟩, trivial⟩

theorem toStringS_all {us : List U} (h : us.length ≤ big ∧ ∀ x ∈ us, wt .str x) : PTo 153 (.sl 1 us) := toStringS_step (fun a ha => inv_str (h.2 a ha))
theorem toArm_step {f0 : List UInt8} {f1 : List U} {f2 : U} (h0 : f0.length ≤ big) (h1 : PTo 153 (.sl 1 f1)) (g2 : wt (.st 4) f2) (h2 : PTo 262 f2) : PTo 310 (.st [.s f0, .sl 1 f1, f2]) := by
  intro hw
  have hW : W (.st [.s f0, .sl 1 f1, f2]) = f0.length + (W (U.sl 1 f1) + (W f2 + 0)) := rfl
  have c1 := h1 (by omega)
  clear h1
  have c2 := h2 (by omega)
  clear h2
  clear hW hw
  obtain ⟨e16_0, e16_1, e16_2, e16_3, e16_4, e16_5, e16_6, rfl, g16_0, g16_1, g16_2, g16_3, g16_4, g16_5, g16_6⟩ := inv_Expr g2
  obtain ⟨e17_0, e17_1, e17_2, rfl, g17_0, g17_1, g17_2⟩ := inv_Type g16_4
  refine SpecP_intro Tryz.func310 rfl (by kernel_rfl) rfl fun A => ?_
  refine gREG ?_
  repeat refine VO_d ?_
  refine gNIL ?_
  refine gREG ?_
  repeat refine VO_d ?_
  refine gNIL ?_
  refine gREG ?_
  repeat refine VO_d ?_
  refine gNIL ?_
  refine gREG ?_
  repeat refine VO_d ?_
  (first | refine VO_q (Q_call rfl c1 vA) rfl ?_ | refine VQ_q (Q_call rfl c1 vA) rfl ?_ | (refine VO_bare rfl rfl rfl rfl ?_; refine VO_q (Q_call rfl c1 vA) rfl ?_) | refine VQ_run rfl rfl rfl rfl (Q_call rfl c1 vA) rfl ?_)
  repeat refine VO_d ?_
  refine gNIL ?_
  refine gREG ?_
  repeat refine VO_d ?_
  (first | refine VO_q (Q_call rfl c2 vA) rfl ?_ | refine VQ_q (Q_call rfl c2 vA) rfl ?_ | (refine VO_bare rfl rfl rfl rfl ?_; refine VO_q (Q_call rfl c2 vA) rfl ?_) | refine VQ_run rfl rfl rfl rfl (Q_call rfl c2 vA) rfl ?_)
  repeat refine VO_d ?_
  refine gNIL ?_
  refine gREG ?_
  repeat refine VO_d ?_
  refine gNIL ?_
  refine V_ret ?_
  exact ⟨trivial, ⟨_, ResV_ag rfl rfl TI.h rfl rfl, vA⟩, trivial⟩

theorem zu_Arm : ZeroU (.st [.s [], .sl 1 [], .st [.i .i64 0, .s [], .s [], .i .i64 0, .st [.i .i64 0, .s [], .sl 3 []], .sl 9 [], .sl 11 []]]) [.string ⟨#[]⟩, .slice none 0 0, .int .i64 0, .string ⟨#[]⟩, .string ⟨#[]⟩, .int .i64 0, .int .i64 0, .string ⟨#[]⟩, .slice none 0 0, .slice none 0 0, .slice none 0 0] := fun S w => Rd.of_leafs _ _ (And.intro zS (And.intro zL (And.intro zI (And.intro zS (And.intro zS (And.intro zI (And.intro zI (And.intro zS (And.intro zL (And.intro zL (And.intro zL (trivial))))))))))))
theorem toArmS_step {us : List U} (hz : ∀ a ∈ us, a.isSt = true ∧ a.sz = 11) (ih : ∀ a ∈ us, PTo 310 a) : PTo 296 (.sl 11 us) := by
  intro hw
  have hW : W (.sl 11 us) = us.length + Ws us := rfl
  refine SpecP_intro Tryz.func296 rfl (by kernel_rfl) rfl fun A => ?_
  refine gREG ?_
  repeat refine VO_d ?_
  refine gNIL ?_
  refine gREG ?_
  repeat refine VO_d ?_
  refine VO_make rfl rfl TE.h TI.h TZ.h rfl zu_Arm (by omega) (by omega) (by rw [big_eq]; omega) (by omega) rfl lN lN ?_
  repeat refine VO_d ?_
  refine gNIL ?_
  rw [Int.toNat_natCast, fillU_zero]
  refine gREG ?_
  repeat refine VO_d ?_
  refine gNIL ?_
  refine V_block ?_
  refine V_loop (α := Nat)
    (fun k => ⟨[(0, .d (.sl 11 us)), (3, .sl 0 0), (4, .d (.i .i64 k))], [.arr 273 11 0 (fillU us (.st [.s [], .sl 1 [], .st [.i .i64 0, .s [], .s [], .i .i64 0, .st [.i .i64 0, .s [], .sl 3 []], .sl 9 [], .sl 11 []]]) k)], Tryz.f296.ntmps⟩)
    (fun k => k ≤ us.length)
    (fun k => us.length - k) 0 ⟨rfl, ⟨⟨rfl, rfl⟩, ⟨rfl, rfl⟩, ⟨rfl, rfl⟩, trivial⟩, ⟨[], rfl⟩, rfl⟩ (by simp) ?_
  intro k hk
  refine gREG ?_
  repeat refine VO_d ?_
  refine gNIL ?_
  refine V_cond rfl (fun hc2 => ?_) (fun hc2 => ?_)
  · refine V_skip ?_
    simp only [decide_eq_true_eq] at hc2
    have hkl : k < us.length := by omega
    have hget : us[k]? = some us[k] := List.getElem?_eq_getElem hkl
    have hmem : us[k] ∈ us := List.getElem_mem hkl
    have hwk := W_le_of_mem hmem
    have hfl : (fillU us (.st [.s [], .sl 1 [], .st [.i .i64 0, .s [], .s [], .i .i64 0, .st [.i .i64 0, .s [], .sl 3 []], .sl 9 [], .sl 11 []]]) k).length = us.length := fillU_length hk
    obtain ⟨hst, hsz⟩ := hz _ hmem
    refine V_seq (V_block ?_)
    refine gREG ?_
    repeat refine VO_d ?_
    refine VO_q (Q_index rfl rfl TE.h TI.h (by omega) hget) rfl ?_
    refine VO_q (Q_load rfl TI.h hst hsz) rfl ?_
    refine VO_q (Q_call rfl (ih _ hmem (by omega)) vA) rfl ?_
    refine VO_q (Q_index_arr rfl rfl rfl TE.h TI.h (by omega) (by omega)) rfl ?_
    refine VO_store_ep rfl rfl (by exact rfl) TI.h hsz (by omega) lN ?_
    refine gNIL ?_
    refine gREG ?_
    repeat refine VO_d ?_
    refine gNIL ?_
    refine ⟨k + 1, by omega, by omega, ⟨rfl, ⟨⟨rfl, rfl⟩, ⟨rfl, rfl⟩, ⟨rfl, rfl⟩, trivial⟩, ⟨[], ?_⟩, rfl⟩⟩
    rw [Int.toNat_natCast, fillU_set hget]
    rfl
  · refine V_exit ?_
    simp only [decide_eq_false_iff_not] at hc2
    have hkl : k = us.length := by omega
    subst hkl
    rw [fillU_all]
    show V _ _ _ _ _
    refine gREG ?_
    repeat refine VO_d ?_
    refine gNIL ?_
    refine V_freeze 0 rfl lN ?_
    refine V_ret ?_
    exact ⟨trivial, ⟨_, rfl, _, rfl⟩, trivial⟩

theorem toExpr_step {f0 : Int} {f1 : List UInt8} {f2 : List UInt8} {f3 : Int} {f4 : U} {f5 : List U} {f6 : List U} (h1 : f1.length ≤ big) (h2 : f2.length ≤ big) (g4 : wt (.st 1) f4) (h4 : PTo 19 f4) (h5 : PTo 295 (.sl 9 f5)) (h6 : PTo 296 (.sl 11 f6)) : PTo 262 (.st [.i .i64 f0, .s f1, .s f2, .i .i64 f3, f4, .sl 9 f5, .sl 11 f6]) := by
  intro hw
  have hW : W (.st [.i .i64 f0, .s f1, .s f2, .i .i64 f3, f4, .sl 9 f5, .sl 11 f6]) = 0 + (f1.length + (f2.length + (0 + (W f4 + (W (U.sl 9 f5) + (W (U.sl 11 f6) + 0)))))) := rfl
  have c4 := h4 (by omega)
  clear h4
  have c5 := h5 (by omega)
  clear h5
  have c6 := h6 (by omega)
  clear h6
  clear hW hw
  obtain ⟨e18_0, e18_1, e18_2, rfl, g18_0, g18_1, g18_2⟩ := inv_Type g4
  refine SpecP_intro Tryz.func262 rfl (by kernel_rfl) rfl fun A => ?_
  refine gREG ?_
  repeat refine VO_d ?_
  refine gNIL ?_
  refine gREG ?_
  repeat refine VO_d ?_
  refine gNIL ?_
  refine gREG ?_
  repeat refine VO_d ?_
  refine gNIL ?_
  refine gREG ?_
  repeat refine VO_d ?_
  refine gNIL ?_
  refine gREG ?_
  repeat refine VO_d ?_
  refine gNIL ?_
  refine gREG ?_
  repeat refine VO_d ?_
  refine gNIL ?_
  refine gREG ?_
  repeat refine VO_d ?_
  (first | refine VO_q (Q_call rfl c4 vA) rfl ?_ | refine VQ_q (Q_call rfl c4 vA) rfl ?_ | (refine VO_bare rfl rfl rfl rfl ?_; refine VO_q (Q_call rfl c4 vA) rfl ?_) | refine VQ_run rfl rfl rfl rfl (Q_call rfl c4 vA) rfl ?_)
  repeat refine VO_d ?_
  refine gNIL ?_
  refine gREG ?_
  repeat refine VO_d ?_
  (first | refine VO_q (Q_call rfl c5 vA) rfl ?_ | refine VQ_q (Q_call rfl c5 vA) rfl ?_ | (refine VO_bare rfl rfl rfl rfl ?_; refine VO_q (Q_call rfl c5 vA) rfl ?_) | refine VQ_run rfl rfl rfl rfl (Q_call rfl c5 vA) rfl ?_)
  repeat refine VO_d ?_
  refine gNIL ?_
  refine gREG ?_
  repeat refine VO_d ?_
  (first | refine VO_q (Q_call rfl c6 vA) rfl ?_ | refine VQ_q (Q_call rfl c6 vA) rfl ?_ | (refine VO_bare rfl rfl rfl rfl ?_; refine VO_q (Q_call rfl c6 vA) rfl ?_) | refine VQ_run rfl rfl rfl rfl (Q_call rfl c6 vA) rfl ?_)
  repeat refine VO_d ?_
  refine gNIL ?_
  refine gREG ?_
  repeat refine VO_d ?_
  refine gNIL ?_
  refine V_ret ?_
  exact ⟨trivial, ⟨_, ResV_ag rfl rfl TI.h rfl rfl, vA⟩, trivial⟩

theorem zu_Expr : ZeroU (.st [.i .i64 0, .s [], .s [], .i .i64 0, .st [.i .i64 0, .s [], .sl 3 []], .sl 9 [], .sl 11 []]) [.int .i64 0, .string ⟨#[]⟩, .string ⟨#[]⟩, .int .i64 0, .int .i64 0, .string ⟨#[]⟩, .slice none 0 0, .slice none 0 0, .slice none 0 0] := fun S w => Rd.of_leafs _ _ (And.intro zI (And.intro zS (And.intro zS (And.intro zI (And.intro zI (And.intro zS (And.intro zL (And.intro zL (And.intro zL (trivial))))))))))
theorem toExprS_step {us : List U} (hz : ∀ a ∈ us, a.isSt = true ∧ a.sz = 9) (ih : ∀ a ∈ us, PTo 262 a) : PTo 295 (.sl 9 us) := by
  intro hw
  have hW : W (.sl 9 us) = us.length + Ws us := rfl
  refine SpecP_intro Tryz.func295 rfl (by kernel_rfl) rfl fun A => ?_
  refine gREG ?_
  repeat refine VO_d ?_
  refine gNIL ?_
  refine gREG ?_
  repeat refine VO_d ?_
  refine VO_make rfl rfl TE.h TI.h TZ.h rfl zu_Expr (by omega) (by omega) (by rw [big_eq]; omega) (by omega) rfl lN lN ?_
  repeat refine VO_d ?_
  refine gNIL ?_
  rw [Int.toNat_natCast, fillU_zero]
  refine gREG ?_
  repeat refine VO_d ?_
  refine gNIL ?_
  refine V_block ?_
  refine V_loop (α := Nat)
    (fun k => ⟨[(0, .d (.sl 9 us)), (3, .sl 0 0), (4, .d (.i .i64 k))], [.arr 103 9 0 (fillU us (.st [.i .i64 0, .s [], .s [], .i .i64 0, .st [.i .i64 0, .s [], .sl 3 []], .sl 9 [], .sl 11 []]) k)], Tryz.f295.ntmps⟩)
    (fun k => k ≤ us.length)
    (fun k => us.length - k) 0 ⟨rfl, ⟨⟨rfl, rfl⟩, ⟨rfl, rfl⟩, ⟨rfl, rfl⟩, trivial⟩, ⟨[], rfl⟩, rfl⟩ (by simp) ?_
  intro k hk
  refine gREG ?_
  repeat refine VO_d ?_
  refine gNIL ?_
  refine V_cond rfl (fun hc2 => ?_) (fun hc2 => ?_)
  · refine V_skip ?_
    simp only [decide_eq_true_eq] at hc2
    have hkl : k < us.length := by omega
    have hget : us[k]? = some us[k] := List.getElem?_eq_getElem hkl
    have hmem : us[k] ∈ us := List.getElem_mem hkl
    have hwk := W_le_of_mem hmem
    have hfl : (fillU us (.st [.i .i64 0, .s [], .s [], .i .i64 0, .st [.i .i64 0, .s [], .sl 3 []], .sl 9 [], .sl 11 []]) k).length = us.length := fillU_length hk
    obtain ⟨hst, hsz⟩ := hz _ hmem
    refine V_seq (V_block ?_)
    refine gREG ?_
    repeat refine VO_d ?_
    refine VO_q (Q_index rfl rfl TE.h TI.h (by omega) hget) rfl ?_
    refine VO_q (Q_load rfl TI.h hst hsz) rfl ?_
    refine VO_q (Q_call rfl (ih _ hmem (by omega)) vA) rfl ?_
    refine VO_q (Q_index_arr rfl rfl rfl TE.h TI.h (by omega) (by omega)) rfl ?_
    refine VO_store_ep rfl rfl (by exact rfl) TI.h hsz (by omega) lN ?_
    refine gNIL ?_
    refine gREG ?_
    repeat refine VO_d ?_
    refine gNIL ?_
    refine ⟨k + 1, by omega, by omega, ⟨rfl, ⟨⟨rfl, rfl⟩, ⟨rfl, rfl⟩, ⟨rfl, rfl⟩, trivial⟩, ⟨[], ?_⟩, rfl⟩⟩
    rw [Int.toNat_natCast, fillU_set hget]
    rfl
  · refine V_exit ?_
    simp only [decide_eq_false_iff_not] at hc2
    have hkl : k = us.length := by omega
    subst hkl
    rw [fillU_all]
    show V _ _ _ _ _
    refine gREG ?_
    repeat refine VO_d ?_
    refine gNIL ?_
    refine V_freeze 0 rfl lN ?_
    refine V_ret ?_
    exact ⟨trivial, ⟨_, rfl, _, rfl⟩, trivial⟩

theorem toArmExpr_grp (u : U) : (wt (.st 3) u → PTo 310 u) ∧ (wt (.st 4) u → PTo 262 u) := by
  refine U.ind (M := fun u => (wt (.st 3) u → PTo 310 u) ∧ (wt (.st 4) u → PTo 262 u)) (fun u ih => ?_) u
  refine ⟨?_, ?_⟩
  · intro h
    obtain ⟨f0, f1, f2, rfl, p0, p1, p2⟩ := inv_Arm h
    exact toArm_step p0 (toStringS_all p1) p2 ((ih f2 (by simp only [U.nn, U.nns]; omega)).2 p2)
  · intro h
    obtain ⟨f0, f1, f2, f3, f4, f5, f6, rfl, p0, p1, p2, p3, p4, p5, p6⟩ := inv_Expr h
    exact toExpr_step p1 p2 p4 (toType_all p4) (toExprS_step (fun a ha => ⟨wt_isSt (p5.2 a ha), by rw [wt_sz a _ (p5.2 a ha)]; rfl⟩) (fun a ha => (ih a (by have := nn_of_mem ha; simp only [U.nn, U.nns]; omega)).2 (p5.2 a ha))) (toArmS_step (fun a ha => ⟨wt_isSt (p6.2 a ha), by rw [wt_sz a _ (p6.2 a ha)]; rfl⟩) (fun a ha => (ih a (by have := nn_of_mem ha; simp only [U.nn, U.nns]; omega)).1 (p6.2 a ha)))
theorem toArm_all {u : U} (h : wt (.st 3) u) : PTo 310 u := (toArmExpr_grp u).1 h
theorem toArmS_all {us : List U} (h : us.length ≤ big ∧ ∀ x ∈ us, wt (.st 3) x) : PTo 296 (.sl 11 us) := toArmS_step (fun a ha => ⟨wt_isSt (h.2 a ha), by rw [wt_sz a _ (h.2 a ha)]; rfl⟩) (fun a ha => toArm_all (h.2 a ha))
theorem toExpr_all {u : U} (h : wt (.st 4) u) : PTo 262 u := (toArmExpr_grp u).2 h
theorem toExprS_all {us : List U} (h : us.length ≤ big ∧ ∀ x ∈ us, wt (.st 4) x) : PTo 295 (.sl 9 us) := toExprS_step (fun a ha => ⟨wt_isSt (h.2 a ha), by rw [wt_sz a _ (h.2 a ha)]; rfl⟩) (fun a ha => toExpr_all (h.2 a ha))
theorem toSignature_step {f0 : List UInt8} {f1 : List U} {f2 : U} {f3 : Bool} {f4 : List U} {f5 : U} (h0 : f0.length ≤ big) (h1 : PTo 66 (.sl 3 f1)) (g2 : wt (.st 1) f2) (h2 : PTo 19 f2) (h4 : PTo 153 (.sl 1 f4)) (g5 : wt (.st 4) f5) (h5 : PTo 262 f5) : PTo 291 (.st [.s f0, .sl 3 f1, f2, .b f3, .sl 1 f4, f5]) := by
  intro hw
  have hW : W (.st [.s f0, .sl 3 f1, f2, .b f3, .sl 1 f4, f5]) = f0.length + (W (U.sl 3 f1) + (W f2 + (0 + (W (U.sl 1 f4) + (W f5 + 0))))) := rfl
  have c1 := h1 (by omega)
  clear h1
  have c2 := h2 (by omega)
  clear h2
  have c4 := h4 (by omega)
  clear h4
  have c5 := h5 (by omega)
  clear h5
  clear hW hw
  obtain ⟨e19_0, e19_1, e19_2, rfl, g19_0, g19_1, g19_2⟩ := inv_Type g2
  obtain ⟨e20_0, e20_1, e20_2, e20_3, e20_4, e20_5, e20_6, rfl, g20_0, g20_1, g20_2, g20_3, g20_4, g20_5, g20_6⟩ := inv_Expr g5
  obtain ⟨e21_0, e21_1, e21_2, rfl, g21_0, g21_1, g21_2⟩ := inv_Type g20_4
  refine SpecP_intro Tryz.func291 rfl (by kernel_rfl) rfl fun A => ?_
  refine gREG ?_
  repeat refine VO_d ?_
  refine gNIL ?_
  refine gREG ?_
  repeat refine VO_d ?_
  refine gNIL ?_
  refine gREG ?_
  repeat refine VO_d ?_
  refine gNIL ?_
  refine gREG ?_
  repeat refine VO_d ?_
  (first | refine VO_q (Q_call rfl c1 vA) rfl ?_ | refine VQ_q (Q_call rfl c1 vA) rfl ?_ | (refine VO_bare rfl rfl rfl rfl ?_; refine VO_q (Q_call rfl c1 vA) rfl ?_) | refine VQ_run rfl rfl rfl rfl (Q_call rfl c1 vA) rfl ?_)
  repeat refine VO_d ?_
  refine gNIL ?_
  refine gREG ?_
  repeat refine VO_d ?_
  (first | refine VO_q (Q_call rfl c2 vA) rfl ?_ | refine VQ_q (Q_call rfl c2 vA) rfl ?_ | (refine VO_bare rfl rfl rfl rfl ?_; refine VO_q (Q_call rfl c2 vA) rfl ?_) | refine VQ_run rfl rfl rfl rfl (Q_call rfl c2 vA) rfl ?_)
  repeat refine VO_d ?_
  refine gNIL ?_
  refine gREG ?_
  repeat refine VO_d ?_
  refine gNIL ?_
  refine gREG ?_
  repeat refine VO_d ?_
  (first | refine VO_q (Q_call rfl c4 vA) rfl ?_ | refine VQ_q (Q_call rfl c4 vA) rfl ?_ | (refine VO_bare rfl rfl rfl rfl ?_; refine VO_q (Q_call rfl c4 vA) rfl ?_) | refine VQ_run rfl rfl rfl rfl (Q_call rfl c4 vA) rfl ?_)
  repeat refine VO_d ?_
  refine gNIL ?_
  refine gREG ?_
  repeat refine VO_d ?_
  (first | refine VO_q (Q_call rfl c5 vA) rfl ?_ | refine VQ_q (Q_call rfl c5 vA) rfl ?_ | (refine VO_bare rfl rfl rfl rfl ?_; refine VO_q (Q_call rfl c5 vA) rfl ?_) | refine VQ_run rfl rfl rfl rfl (Q_call rfl c5 vA) rfl ?_)
  repeat refine VO_d ?_
  refine gNIL ?_
  refine gREG ?_
  repeat refine VO_d ?_
  refine gNIL ?_
  refine V_ret ?_
  exact ⟨trivial, ⟨_, ResV_ag rfl rfl TI.h rfl rfl, vA⟩, trivial⟩

theorem zu_Signature : ZeroU (.st [.s [], .sl 3 [], .st [.i .i64 0, .s [], .sl 3 []], .b false, .sl 1 [], .st [.i .i64 0, .s [], .s [], .i .i64 0, .st [.i .i64 0, .s [], .sl 3 []], .sl 9 [], .sl 11 []]]) [.string ⟨#[]⟩, .slice none 0 0, .int .i64 0, .string ⟨#[]⟩, .slice none 0 0, .bool false, .slice none 0 0, .int .i64 0, .string ⟨#[]⟩, .string ⟨#[]⟩, .int .i64 0, .int .i64 0, .string ⟨#[]⟩, .slice none 0 0, .slice none 0 0, .slice none 0 0] := fun S w => Rd.of_leafs _ _ (And.intro zS (And.intro zL (And.intro zI (And.intro zS (And.intro zL (And.intro zB (And.intro zL (And.intro zI (And.intro zS (And.intro zS (And.intro zI (And.intro zI (And.intro zS (And.intro zL (And.intro zL (And.intro zL (trivial)))))))))))))))))
theorem toSignatureS_step {us : List U} (hz : ∀ a ∈ us, a.isSt = true ∧ a.sz = 16) (ih : ∀ a ∈ us, PTo 291 a) : PTo 258 (.sl 16 us) := by
  intro hw
  have hW : W (.sl 16 us) = us.length + Ws us := rfl
  refine SpecP_intro Tryz.func258 rfl (by kernel_rfl) rfl fun A => ?_
  refine gREG ?_
  repeat refine VO_d ?_
  refine gNIL ?_
  refine gREG ?_
  repeat refine VO_d ?_
  refine VO_make rfl rfl TE.h TI.h TZ.h rfl zu_Signature (by omega) (by omega) (by rw [big_eq]; omega) (by omega) rfl lN lN ?_
  repeat refine VO_d ?_
  refine gNIL ?_
  rw [Int.toNat_natCast, fillU_zero]
  refine gREG ?_
  repeat refine VO_d ?_
  refine gNIL ?_
  refine V_block ?_
  refine V_loop (α := Nat)
    (fun k => ⟨[(0, .d (.sl 16 us)), (3, .sl 0 0), (4, .d (.i .i64 k))], [.arr 105 16 0 (fillU us (.st [.s [], .sl 3 [], .st [.i .i64 0, .s [], .sl 3 []], .b false, .sl 1 [], .st [.i .i64 0, .s [], .s [], .i .i64 0, .st [.i .i64 0, .s [], .sl 3 []], .sl 9 [], .sl 11 []]]) k)], Tryz.f258.ntmps⟩)
    (fun k => k ≤ us.length)
    (fun k => us.length - k) 0 ⟨rfl, ⟨⟨rfl, rfl⟩, ⟨rfl, rfl⟩, ⟨rfl, rfl⟩, trivial⟩, ⟨[], rfl⟩, rfl⟩ (by simp) ?_
  intro k hk
  refine gREG ?_
  repeat refine VO_d ?_
  refine gNIL ?_
  refine V_cond rfl (fun hc2 => ?_) (fun hc2 => ?_)
  · refine V_skip ?_
    simp only [decide_eq_true_eq] at hc2
    have hkl : k < us.length := by omega
    have hget : us[k]? = some us[k] := List.getElem?_eq_getElem hkl
    have hmem : us[k] ∈ us := List.getElem_mem hkl
    have hwk := W_le_of_mem hmem
    have hfl : (fillU us (.st [.s [], .sl 3 [], .st [.i .i64 0, .s [], .sl 3 []], .b false, .sl 1 [], .st [.i .i64 0, .s [], .s [], .i .i64 0, .st [.i .i64 0, .s [], .sl 3 []], .sl 9 [], .sl 11 []]]) k).length = us.length := fillU_length hk
    obtain ⟨hst, hsz⟩ := hz _ hmem
    refine V_seq (V_block ?_)
    refine gREG ?_
    repeat refine VO_d ?_
    refine VO_q (Q_index rfl rfl TE.h TI.h (by omega) hget) rfl ?_
    refine VO_q (Q_load rfl TI.h hst hsz) rfl ?_
    refine VO_q (Q_call rfl (ih _ hmem (by omega)) vA) rfl ?_
    refine VO_q (Q_index_arr rfl rfl rfl TE.h TI.h (by omega) (by omega)) rfl ?_
    refine VO_store_ep rfl rfl (by exact rfl) TI.h hsz (by omega) lN ?_
    refine gNIL ?_
    refine gREG ?_
    repeat refine VO_d ?_
    refine gNIL ?_
    refine ⟨k + 1, by omega, by omega, ⟨rfl, ⟨⟨rfl, rfl⟩, ⟨rfl, rfl⟩, ⟨rfl, rfl⟩, trivial⟩, ⟨[], ?_⟩, rfl⟩⟩
    rw [Int.toNat_natCast, fillU_set hget]
    rfl
  · refine V_exit ?_
    simp only [decide_eq_false_iff_not] at hc2
    have hkl : k = us.length := by omega
    subst hkl
    rw [fillU_all]
    show V _ _ _ _ _
    refine gREG ?_
    repeat refine VO_d ?_
    refine gNIL ?_
    refine V_freeze 0 rfl lN ?_
    refine V_ret ?_
    exact ⟨trivial, ⟨_, rfl, _, rfl⟩, trivial⟩

theorem toSignature_grp (u : U) : (wt (.st 5) u → PTo 291 u) := by
  refine U.ind (M := fun u => (wt (.st 5) u → PTo 291 u)) (fun u ih => ?_) u
  refine ?_
  · intro h
    obtain ⟨f0, f1, f2, f3, f4, f5, rfl, p0, p1, p2, p4, p5⟩ := inv_Signature h
    exact toSignature_step p0 (toTypeS_all p1) p2 (toType_all p2) (toStringS_all p4) p5 (toExpr_all p5)
theorem toSignature_all {u : U} (h : wt (.st 5) u) : PTo 291 u := (toSignature_grp u) h
theorem toSignatureS_all {us : List U} (h : us.length ≤ big ∧ ∀ x ∈ us, wt (.st 5) x) : PTo 258 (.sl 16 us) := toSignatureS_step (fun a ha => ⟨wt_isSt (h.2 a ha), by rw [wt_sz a _ (h.2 a ha)]; rfl⟩) (fun a ha => toSignature_all (h.2 a ha))
theorem toTrait_step {f0 : List UInt8} {f1 : List U} {f2 : Bool} {f3 : Bool} {f4 : List U} (h0 : f0.length ≤ big) (h1 : PTo 153 (.sl 1 f1)) (h4 : PTo 258 (.sl 16 f4)) : PTo 213 (.st [.s f0, .sl 1 f1, .b f2, .b f3, .sl 16 f4]) := by
  intro hw
  have hW : W (.st [.s f0, .sl 1 f1, .b f2, .b f3, .sl 16 f4]) = f0.length + (W (U.sl 1 f1) + (0 + (0 + (W (U.sl 16 f4) + 0)))) := rfl
  have c1 := h1 (by omega)
  clear h1
  have c4 := h4 (by omega)
  clear h4
  clear hW hw
  refine SpecP_intro Tryz.func213 rfl (by kernel_rfl) rfl fun A => ?_
  refine gREG ?_
  repeat refine VO_d ?_
  refine gNIL ?_
  refine gREG ?_
  repeat refine VO_d ?_
  refine gNIL ?_
  refine gREG ?_
  repeat refine VO_d ?_
  refine gNIL ?_
  refine gREG ?_
  repeat refine VO_d ?_
  (first | refine VO_q (Q_call rfl c1 vA) rfl ?_ | refine VQ_q (Q_call rfl c1 vA) rfl ?_ | (refine VO_bare rfl rfl rfl rfl ?_; refine VO_q (Q_call rfl c1 vA) rfl ?_) | refine VQ_run rfl rfl rfl rfl (Q_call rfl c1 vA) rfl ?_)
  repeat refine VO_d ?_
  refine gNIL ?_
  refine gREG ?_
  repeat refine VO_d ?_
  refine gNIL ?_
  refine gREG ?_
  repeat refine VO_d ?_
  refine gNIL ?_
  refine gREG ?_
  repeat refine VO_d ?_
  (first | refine VO_q (Q_call rfl c4 vA) rfl ?_ | refine VQ_q (Q_call rfl c4 vA) rfl ?_ | (refine VO_bare rfl rfl rfl rfl ?_; refine VO_q (Q_call rfl c4 vA) rfl ?_) | refine VQ_run rfl rfl rfl rfl (Q_call rfl c4 vA) rfl ?_)
  repeat refine VO_d ?_
  refine gNIL ?_
  refine gREG ?_
  repeat refine VO_d ?_
  refine gNIL ?_
  refine V_ret ?_
  exact ⟨trivial, ⟨_, ResV_ag rfl rfl TI.h rfl rfl, vA⟩, trivial⟩

theorem zu_Trait : ZeroU (.st [.s [], .sl 1 [], .b false, .b false, .sl 16 []]) [.string ⟨#[]⟩, .slice none 0 0, .bool false, .bool false, .slice none 0 0] := fun S w => Rd.of_leafs _ _ (And.intro zS (And.intro zL (And.intro zB (And.intro zB (And.intro zL (trivial))))))
end Go.Proofs.YtihihldpcgiibaaGreat
