/- The contracts of the laws' own helpers (size checks, copies, comparisons). Written by a program of mine (fam.py). -/
import Derived.Test.YthojhakapbfbiaaFacts
import Derived.Test.YthojhakapbfbiaaEng13
set_option linter.unusedVariables false
set_option linter.unusedSimpArgs false
namespace Go.Proofs.Ythojhakapbfbiaa
open Go Go.Eng
attribute [local irreducible] V VO VQ Quiet SpecP
abbrev PSz (f : Nat) (u : U) : Prop := ∀ l : Int, 0 ≤ l → l ≤ 4611686018427387904 → SpecP Try.prog f [.d u, .d (.i .i64 l)] [.i .i64 (if (W u : Int) ≤ l then l - W u else -1)]
abbrev PTo (f : Nat) (u : U) : Prop := W u ≤ 1048576 → SpecP Try.prog f [.d u] [u]
abbrev PEq (f : Nat) (u v : U) : Prop := SpecP Try.prog f [.d u, .d v] [.b (deq u v)]

theorem zI {S : Nat → Prop} {w : World} : Rd S w (.i .i64 0) [.int .i64 0] := by simp [Rd]
theorem zB {S : Nat → Prop} {w : World} : Rd S w (.b false) [.bool false] := by simp [Rd]
theorem zS {S : Nat → Prop} {w : World} : Rd S w (.s []) [.string ⟨#[]⟩] := by simp [Rd, big]
theorem zL {S : Nat → Prop} {w : World} {z : Nat} : Rd S w (.sl z []) [.slice none 0 0] := by
  simp only [Rd]
  exact ⟨by simp [big], none, 0, rfl, .inl trivial⟩
/-- What a copy holds after k rounds. -/
def fillU (us : List U) (zu : U) (k : Nat) : List U := us.take k ++ List.replicate (us.length - k) zu
theorem fillU_zero (us : List U) (zu : U) : List.replicate us.length zu = fillU us zu 0 := by simp [fillU]
theorem fillU_all (us : List U) (zu : U) : fillU us zu us.length = us := by simp [fillU]
theorem fillU_length {us : List U} {zu : U} {k : Nat} (h : k ≤ us.length) : (fillU us zu k).length = us.length := by simp [fillU]; omega
theorem fillU_set {us : List U} {zu u : U} {k : Nat} (h : us[k]? = some u) : (fillU us zu k).set k u = fillU us zu (k + 1) := by
  obtain ⟨hk, rfl⟩ := List.getElem?_eq_some_iff.1 h
  unfold fillU
  have hl : (us.take k).length = k := by simp; omega
  rw [List.set_append_right _ _ (by omega), hl, Nat.sub_self]
  rw [show us.length - k = (us.length - (k + 1)) + 1 by omega, List.replicate_succ, List.set_cons_zero, List.take_succ_eq_append_getElem hk, List.append_assoc]
  rfl

theorem szType_step {f0 : Int} {f1 : List UInt8} {f2 : List U} (h1 : f1.length ≤ big) (h2 : PSz 29 (.sl 3 f2)) : PSz 6 (.st [.i .i64 f0, .s f1, .sl 3 f2]) := by
  intro left hl0 hl1
  have hW : W (.st [.i .i64 f0, .s f1, .sl 3 f2]) = 0 + (f1.length + (W (U.sl 3 f2) + 0)) := rfl
  have hb1 : f1.length ≤ 140737488355328 := by rw [big_eq] at h1; exact h1
  refine SpecP_intro Try.func6 rfl (by kernel_rfl) rfl fun A _ => ?_
  refine V_seq_region ?_
  repeat refine VO_d ?_
  refine VO_nil ?_
  refine V_seq_region ?_
  repeat refine VO_d ?_
  refine VO_nil ?_
  refine V_seq (V_seq_region ?_)
  repeat refine VO_d ?_
  refine VO_nil ?_
  refine V_cond rfl (fun hc => ?_) (fun hc => ?_)
  · refine V_seq_region ?_
    repeat refine VO_d ?_
    refine VO_nil ?_
    refine V_ret ?_
    simp only [decide_eq_true_eq] at hc
    exact ⟨trivial, ⟨_, rfl, congrArg (U.i .i64) (by rw [if_neg (by omega)])⟩, trivial⟩
  refine V_skip ?_
  simp only [decide_eq_false_iff_not] at hc
  refine V_seq_region ?_
  repeat refine VO_d ?_
  refine VO_q (Q_call rfl (h2 (left - (f1.length : Int)) (by omega) (by omega)) (by (repeat (first | exact trivial | exact rfl | exact ⟨_, rfl⟩ | refine And.intro ?_ ?_)); first | done | fail)) rfl ?_
  repeat refine VO_d ?_
  refine VO_nil ?_
  refine V_seq (V_seq_region ?_)
  repeat refine VO_d ?_
  refine VO_nil ?_
  refine V_cond rfl (fun hc => ?_) (fun hc => ?_)
  · refine V_seq_region ?_
    repeat refine VO_d ?_
    refine VO_nil ?_
    refine V_ret ?_
    simp only [decide_eq_true_eq] at hc
    exact ⟨trivial, ⟨_, rfl, congrArg (U.i .i64) (by split at hc <;> (rw [if_neg (by omega)]))⟩, trivial⟩
  refine V_skip ?_
  simp only [decide_eq_false_iff_not] at hc
  have hpos2 := hc
  have heq : ∀ (c : Prop) [Decidable c] (a : Int), ¬ (if c then a else -1) < 0 → (if c then a else -1) = a ∧ c := by
    intro c _ a h
    split at h
    · rename_i hc; exact ⟨if_pos hc, hc⟩
    · omega
  obtain ⟨e2, c2⟩ := heq _ _ hc
  rw [e2]
  clear heq hc
  refine V_seq_region ?_
  repeat refine VO_d ?_
  refine VO_nil ?_
  refine V_ret ?_
  exact ⟨trivial, ⟨_, rfl, congrArg (U.i .i64) (by rw [if_pos (by omega)]; omega)⟩, trivial⟩

theorem szTypeS_step {us : List U} (hl : us.length ≤ big) (hz : ∀ a ∈ us, a.isSt = true ∧ a.sz = 3) (ih : ∀ a ∈ us, PSz 6 a) : PSz 29 (.sl 3 us) := by
  intro left hl0 hl1
  have hW : W (.sl 3 us) = us.length + Ws us := rfl
  have hb : (us.length : Int) ≤ 140737488355328 := by rw [big_eq] at hl; omega
  refine SpecP_intro Try.func29 rfl (by kernel_rfl) rfl fun A _ => ?_
  refine V_seq_region ?_
  repeat refine VO_d ?_
  refine VO_nil ?_
  refine V_seq_region ?_
  repeat refine VO_d ?_
  refine VO_nil ?_
  refine V_seq (V_seq_region ?_)
  repeat refine VO_d ?_
  refine VO_nil ?_
  refine V_cond rfl (fun hc => ?_) (fun hc => ?_)
  · refine V_seq_region ?_
    repeat refine VO_d ?_
    refine VO_nil ?_
    refine V_ret ?_
    simp only [decide_eq_true_eq] at hc
    exact ⟨trivial, ⟨_, rfl, congrArg (U.i .i64) (by rw [if_neg (by omega)])⟩, trivial⟩
  refine V_skip ?_
  simp only [decide_eq_false_iff_not] at hc
  refine V_seq (V_seq_region ?_)
  repeat refine VO_d ?_
  refine VO_nil ?_
  refine V_block ?_
  refine V_loop (α := Nat × Int)
    (fun x => ⟨[(0, .d (.sl 3 us)), (5, .d (.i .i64 x.1)), (1, .d (.i .i64 x.2))], [], Try.f29.ntmps⟩)
    (fun x => x.1 ≤ us.length ∧ 0 ≤ x.2 ∧ x.2 = left - us.length - Ws (us.take x.1))
    (fun x => us.length - x.1) (0, left - us.length) ⟨rfl, ⟨⟨rfl, rfl⟩, ⟨rfl, rfl⟩, ⟨rfl, rfl⟩, trivial⟩, ⟨[], rfl⟩, rfl⟩ ⟨by simp, by simp only; omega, by simp [Ws]⟩ ?_
  rintro ⟨k, l⟩ ⟨hk, hq0, hq1⟩
  simp only at hk hq0 hq1
  refine V_seq (V_seq_region ?_)
  repeat refine VO_d ?_
  refine VO_nil ?_
  refine V_cond rfl (fun hc2 => ?_) (fun hc2 => ?_)
  · refine V_skip ?_
    simp only [decide_eq_true_eq] at hc2
    have hkl : k < us.length := by omega
    have hget : us[k]? = some us[k] := List.getElem?_eq_getElem hkl
    have hmem : us[k] ∈ us := List.getElem_mem hkl
    have htk := Ws_take_succ hget
    have hle := Ws_take_le us (k + 1)
    obtain ⟨hst, hsz⟩ := hz _ hmem
    refine V_seq (V_block (V_seq_region ?_))
    repeat refine VO_d ?_
    refine VO_q (Q_index rfl rfl TE.h TI.h (by omega) hget) rfl ?_
    refine VO_q (Q_load rfl TI.h hst hsz) rfl ?_
    repeat refine VO_d ?_
    refine VO_q (Q_call rfl (ih _ hmem l (by omega) (by omega)) (by (repeat (first | exact trivial | exact rfl | exact ⟨_, rfl⟩ | refine And.intro ?_ ?_)); first | done | fail)) rfl ?_
    repeat refine VO_d ?_
    refine VO_nil ?_
    refine V_seq_region ?_
    repeat refine VO_d ?_
    refine VO_nil ?_
    refine V_cond rfl (fun hc3 => ?_) (fun hc3 => ?_)
    · refine V_seq_region ?_
      repeat refine VO_d ?_
      refine VO_nil ?_
      refine V_ret ?_
      simp only [decide_eq_true_eq] at hc3
      exact ⟨trivial, ⟨_, rfl, congrArg (U.i .i64) (by
        rw [if_neg (by intro hle2; rw [if_pos (by omega)] at hc3; omega)])⟩, trivial⟩
    refine V_skip ?_
    simp only [decide_eq_false_iff_not] at hc3
    refine V_region ?_
    repeat refine VO_d ?_
    refine VO_nil ?_
    refine ⟨(k + 1, (if (W us[k] : Int) ≤ l then l - W us[k] else -1)), ?_, ?_, ⟨rfl, ⟨⟨rfl, rfl⟩, ⟨rfl, rfl⟩, ⟨rfl, rfl⟩, trivial⟩, ⟨[], rfl⟩, rfl⟩⟩
    · simp only
      refine ⟨by omega, by omega, ?_⟩
      rw [if_pos (by apply Classical.byContradiction; intro hn; rw [if_neg hn] at hc3; omega)]
      omega
    · simp only
      omega
  · refine V_exit ?_
    simp only [decide_eq_false_iff_not] at hc2
    have hkl : k = us.length := by omega
    subst hkl
    rw [List.take_length] at hq1
    show V _ _ _ _ _
    refine V_seq_region ?_
    repeat refine VO_d ?_
    refine VO_nil ?_
    refine V_ret ?_
    exact ⟨trivial, ⟨_, rfl, congrArg (U.i .i64) (by rw [if_pos (by omega)]; omega)⟩, trivial⟩

theorem szType_grp (u : U) : (wt (.st 1) u → PSz 6 u) := by
  refine U.ind (M := fun u => (wt (.st 1) u → PSz 6 u)) (fun u ih => ?_) u
  refine ?_
  · intro h
    obtain ⟨f0, f1, f2, rfl, p0, p1, p2⟩ := inv_Type h
    exact szType_step p1 (szTypeS_step p2.1 (fun a ha => ⟨wt_isSt (p2.2 a ha), by rw [wt_sz a _ (p2.2 a ha)]; rfl⟩) (fun a ha => (ih a (by have := nn_of_mem ha; simp only [U.nn, U.nns]; omega)) (p2.2 a ha)))
theorem szType_all {u : U} (h : wt (.st 1) u) : PSz 6 u := (szType_grp u) h
theorem szTypeS_all {us : List U} (h : us.length ≤ big ∧ ∀ x ∈ us, wt (.st 1) x) : PSz 29 (.sl 3 us) := szTypeS_step h.1 (fun a ha => ⟨wt_isSt (h.2 a ha), by rw [wt_sz a _ (h.2 a ha)]; rfl⟩) (fun a ha => szType_all (h.2 a ha))
theorem szBinding_step {f0 : List UInt8} {f1 : U} (h0 : f0.length ≤ big) (g1 : wt (.st 1) f1) (h1 : PSz 6 f1) : PSz 45 (.st [.s f0, f1]) := by
  intro left hl0 hl1
  have hW : W (.st [.s f0, f1]) = f0.length + (W f1 + 0) := rfl
  have hb0 : f0.length ≤ 140737488355328 := by rw [big_eq] at h0; exact h0
  obtain ⟨m1, hm1⟩ : ∃ m, W f1 = m := ⟨_, rfl⟩
  rw [hm1] at hW
  have h1 : ∀ l : Int, 0 ≤ l → l ≤ 4611686018427387904 → SpecP Try.prog 6 [.d f1, .d (.i .i64 l)] [.i .i64 (if (m1 : Int) ≤ l then l - m1 else -1)] := by rw [← hm1]; exact h1
  obtain ⟨e1_0, e1_1, e1_2, rfl, g1_0, g1_1, g1_2⟩ := inv_Type g1
  refine SpecP_intro Try.func45 rfl (by kernel_rfl) rfl fun A _ => ?_
  refine V_seq_region ?_
  repeat refine VO_d ?_
  refine VO_nil ?_
  refine V_seq_region ?_
  repeat refine VO_d ?_
  refine VO_nil ?_
  refine V_seq (V_seq_region ?_)
  repeat refine VO_d ?_
  refine VO_nil ?_
  refine V_cond rfl (fun hc => ?_) (fun hc => ?_)
  · refine V_seq_region ?_
    repeat refine VO_d ?_
    refine VO_nil ?_
    refine V_ret ?_
    simp only [decide_eq_true_eq] at hc
    exact ⟨trivial, ⟨_, rfl, congrArg (U.i .i64) (by rw [if_neg (by omega)])⟩, trivial⟩
  refine V_skip ?_
  simp only [decide_eq_false_iff_not] at hc
  refine V_seq_region ?_
  repeat refine VO_d ?_
  refine VO_q (Q_call rfl (h1 (left - (f0.length : Int)) (by omega) (by omega)) (by (repeat (first | exact trivial | exact rfl | exact ⟨_, rfl⟩ | refine And.intro ?_ ?_)); first | done | fail)) rfl ?_
  repeat refine VO_d ?_
  refine VO_nil ?_
  refine V_seq (V_seq_region ?_)
  repeat refine VO_d ?_
  refine VO_nil ?_
  refine V_cond rfl (fun hc => ?_) (fun hc => ?_)
  · refine V_seq_region ?_
    repeat refine VO_d ?_
    refine VO_nil ?_
    refine V_ret ?_
    simp only [decide_eq_true_eq] at hc
    exact ⟨trivial, ⟨_, rfl, congrArg (U.i .i64) (by split at hc <;> (rw [if_neg (by omega)]))⟩, trivial⟩
  refine V_skip ?_
  simp only [decide_eq_false_iff_not] at hc
  have hpos1 := hc
  have heq : ∀ (c : Prop) [Decidable c] (a : Int), ¬ (if c then a else -1) < 0 → (if c then a else -1) = a ∧ c := by
    intro c _ a h
    split at h
    · rename_i hc; exact ⟨if_pos hc, hc⟩
    · omega
  obtain ⟨e1, c1⟩ := heq _ _ hc
  rw [e1]
  clear heq hc
  refine V_seq_region ?_
  repeat refine VO_d ?_
  refine VO_nil ?_
  refine V_ret ?_
  exact ⟨trivial, ⟨_, rfl, congrArg (U.i .i64) (by rw [if_pos (by omega)]; omega)⟩, trivial⟩

theorem szBindingS_step {us : List U} (hl : us.length ≤ big) (hz : ∀ a ∈ us, a.isSt = true ∧ a.sz = 4) (ih : ∀ a ∈ us, PSz 45 a) : PSz 16 (.sl 4 us) := by
  intro left hl0 hl1
  have hW : W (.sl 4 us) = us.length + Ws us := rfl
  have hb : (us.length : Int) ≤ 140737488355328 := by rw [big_eq] at hl; omega
  refine SpecP_intro Try.func16 rfl (by kernel_rfl) rfl fun A _ => ?_
  refine V_seq_region ?_
  repeat refine VO_d ?_
  refine VO_nil ?_
  refine V_seq_region ?_
  repeat refine VO_d ?_
  refine VO_nil ?_
  refine V_seq (V_seq_region ?_)
  repeat refine VO_d ?_
  refine VO_nil ?_
  refine V_cond rfl (fun hc => ?_) (fun hc => ?_)
  · refine V_seq_region ?_
    repeat refine VO_d ?_
    refine VO_nil ?_
    refine V_ret ?_
    simp only [decide_eq_true_eq] at hc
    exact ⟨trivial, ⟨_, rfl, congrArg (U.i .i64) (by rw [if_neg (by omega)])⟩, trivial⟩
  refine V_skip ?_
  simp only [decide_eq_false_iff_not] at hc
  refine V_seq (V_seq_region ?_)
  repeat refine VO_d ?_
  refine VO_nil ?_
  refine V_block ?_
  refine V_loop (α := Nat × Int)
    (fun x => ⟨[(0, .d (.sl 4 us)), (5, .d (.i .i64 x.1)), (1, .d (.i .i64 x.2))], [], Try.f16.ntmps⟩)
    (fun x => x.1 ≤ us.length ∧ 0 ≤ x.2 ∧ x.2 = left - us.length - Ws (us.take x.1))
    (fun x => us.length - x.1) (0, left - us.length) ⟨rfl, ⟨⟨rfl, rfl⟩, ⟨rfl, rfl⟩, ⟨rfl, rfl⟩, trivial⟩, ⟨[], rfl⟩, rfl⟩ ⟨by simp, by simp only; omega, by simp [Ws]⟩ ?_
  rintro ⟨k, l⟩ ⟨hk, hq0, hq1⟩
  simp only at hk hq0 hq1
  refine V_seq (V_seq_region ?_)
  repeat refine VO_d ?_
  refine VO_nil ?_
  refine V_cond rfl (fun hc2 => ?_) (fun hc2 => ?_)
  · refine V_skip ?_
    simp only [decide_eq_true_eq] at hc2
    have hkl : k < us.length := by omega
    have hget : us[k]? = some us[k] := List.getElem?_eq_getElem hkl
    have hmem : us[k] ∈ us := List.getElem_mem hkl
    have htk := Ws_take_succ hget
    have hle := Ws_take_le us (k + 1)
    obtain ⟨hst, hsz⟩ := hz _ hmem
    refine V_seq (V_block (V_seq_region ?_))
    repeat refine VO_d ?_
    refine VO_q (Q_index rfl rfl TE.h TI.h (by omega) hget) rfl ?_
    refine VO_q (Q_load rfl TI.h hst hsz) rfl ?_
    repeat refine VO_d ?_
    refine VO_q (Q_call rfl (ih _ hmem l (by omega) (by omega)) (by (repeat (first | exact trivial | exact rfl | exact ⟨_, rfl⟩ | refine And.intro ?_ ?_)); first | done | fail)) rfl ?_
    repeat refine VO_d ?_
    refine VO_nil ?_
    refine V_seq_region ?_
    repeat refine VO_d ?_
    refine VO_nil ?_
    refine V_cond rfl (fun hc3 => ?_) (fun hc3 => ?_)
    · refine V_seq_region ?_
      repeat refine VO_d ?_
      refine VO_nil ?_
      refine V_ret ?_
      simp only [decide_eq_true_eq] at hc3
      exact ⟨trivial, ⟨_, rfl, congrArg (U.i .i64) (by
        rw [if_neg (by intro hle2; rw [if_pos (by omega)] at hc3; omega)])⟩, trivial⟩
    refine V_skip ?_
    simp only [decide_eq_false_iff_not] at hc3
    refine V_region ?_
    repeat refine VO_d ?_
    refine VO_nil ?_
    refine ⟨(k + 1, (if (W us[k] : Int) ≤ l then l - W us[k] else -1)), ?_, ?_, ⟨rfl, ⟨⟨rfl, rfl⟩, ⟨rfl, rfl⟩, ⟨rfl, rfl⟩, trivial⟩, ⟨[], rfl⟩, rfl⟩⟩
    · simp only
      refine ⟨by omega, by omega, ?_⟩
      rw [if_pos (by apply Classical.byContradiction; intro hn; rw [if_neg hn] at hc3; omega)]
      omega
    · simp only
      omega
  · refine V_exit ?_
    simp only [decide_eq_false_iff_not] at hc2
    have hkl : k = us.length := by omega
    subst hkl
    rw [List.take_length] at hq1
    show V _ _ _ _ _
    refine V_seq_region ?_
    repeat refine VO_d ?_
    refine VO_nil ?_
    refine V_ret ?_
    exact ⟨trivial, ⟨_, rfl, congrArg (U.i .i64) (by rw [if_pos (by omega)]; omega)⟩, trivial⟩

theorem szBinding_grp (u : U) : (wt (.st 2) u → PSz 45 u) := by
  refine U.ind (M := fun u => (wt (.st 2) u → PSz 45 u)) (fun u ih => ?_) u
  refine ?_
  · intro h
    obtain ⟨f0, f1, rfl, p0, p1⟩ := inv_Binding h
    exact szBinding_step p0 p1 (szType_all p1)
theorem szBinding_all {u : U} (h : wt (.st 2) u) : PSz 45 u := (szBinding_grp u) h
theorem szBindingS_all {us : List U} (h : us.length ≤ big ∧ ∀ x ∈ us, wt (.st 2) x) : PSz 16 (.sl 4 us) := szBindingS_step h.1 (fun a ha => ⟨wt_isSt (h.2 a ha), by rw [wt_sz a _ (h.2 a ha)]; rfl⟩) (fun a ha => szBinding_all (h.2 a ha))
theorem szEvidence_step {f0 : Int} {f1 : Int} {f2 : U} {f3 : List U} (g2 : wt (.st 16) f2) (h2 : W f2 = 0) (h3 : PSz 46 (.sl 5 f3)) : PSz 87 (.st [.i .i64 f0, .i .i64 f1, f2, .sl 5 f3]) := by
  intro left hl0 hl1
  have hW : W (.st [.i .i64 f0, .i .i64 f1, f2, .sl 5 f3]) = 0 + (0 + (W f2 + (W (U.sl 5 f3) + 0))) := rfl
  obtain ⟨e2_0, e2_1, rfl, g2_0, g2_1⟩ := inv_InstanceRef g2
  refine SpecP_intro Try.func87 rfl (by kernel_rfl) rfl fun A _ => ?_
  refine V_seq_region ?_
  repeat refine VO_d ?_
  refine VO_nil ?_
  refine V_seq_region ?_
  repeat refine VO_d ?_
  refine VO_q (Q_call rfl (h3 left (by omega) (by omega)) (by (repeat (first | exact trivial | exact rfl | exact ⟨_, rfl⟩ | refine And.intro ?_ ?_)); first | done | fail)) rfl ?_
  repeat refine VO_d ?_
  refine VO_nil ?_
  refine V_seq (V_seq_region ?_)
  repeat refine VO_d ?_
  refine VO_nil ?_
  refine V_cond rfl (fun hc => ?_) (fun hc => ?_)
  · refine V_seq_region ?_
    repeat refine VO_d ?_
    refine VO_nil ?_
    refine V_ret ?_
    simp only [decide_eq_true_eq] at hc
    exact ⟨trivial, ⟨_, rfl, congrArg (U.i .i64) (by split at hc <;> (rw [if_neg (by omega)]))⟩, trivial⟩
  refine V_skip ?_
  simp only [decide_eq_false_iff_not] at hc
  have hpos3 := hc
  have heq : ∀ (c : Prop) [Decidable c] (a : Int), ¬ (if c then a else -1) < 0 → (if c then a else -1) = a ∧ c := by
    intro c _ a h
    split at h
    · rename_i hc; exact ⟨if_pos hc, hc⟩
    · omega
  obtain ⟨e3, c3⟩ := heq _ _ hc
  rw [e3]
  clear heq hc
  refine V_seq_region ?_
  repeat refine VO_d ?_
  refine VO_nil ?_
  refine V_ret ?_
  exact ⟨trivial, ⟨_, rfl, congrArg (U.i .i64) (by rw [if_pos (by omega)]; omega)⟩, trivial⟩

theorem szEvidenceS_step {us : List U} (hl : us.length ≤ big) (hz : ∀ a ∈ us, a.isSt = true ∧ a.sz = 5) (ih : ∀ a ∈ us, PSz 87 a) : PSz 46 (.sl 5 us) := by
  intro left hl0 hl1
  have hW : W (.sl 5 us) = us.length + Ws us := rfl
  have hb : (us.length : Int) ≤ 140737488355328 := by rw [big_eq] at hl; omega
  refine SpecP_intro Try.func46 rfl (by kernel_rfl) rfl fun A _ => ?_
  refine V_seq_region ?_
  repeat refine VO_d ?_
  refine VO_nil ?_
  refine V_seq_region ?_
  repeat refine VO_d ?_
  refine VO_nil ?_
  refine V_seq (V_seq_region ?_)
  repeat refine VO_d ?_
  refine VO_nil ?_
  refine V_cond rfl (fun hc => ?_) (fun hc => ?_)
  · refine V_seq_region ?_
    repeat refine VO_d ?_
    refine VO_nil ?_
    refine V_ret ?_
    simp only [decide_eq_true_eq] at hc
    exact ⟨trivial, ⟨_, rfl, congrArg (U.i .i64) (by rw [if_neg (by omega)])⟩, trivial⟩
  refine V_skip ?_
  simp only [decide_eq_false_iff_not] at hc
  refine V_seq (V_seq_region ?_)
  repeat refine VO_d ?_
  refine VO_nil ?_
  refine V_block ?_
  refine V_loop (α := Nat × Int)
    (fun x => ⟨[(0, .d (.sl 5 us)), (5, .d (.i .i64 x.1)), (1, .d (.i .i64 x.2))], [], Try.f46.ntmps⟩)
    (fun x => x.1 ≤ us.length ∧ 0 ≤ x.2 ∧ x.2 = left - us.length - Ws (us.take x.1))
    (fun x => us.length - x.1) (0, left - us.length) ⟨rfl, ⟨⟨rfl, rfl⟩, ⟨rfl, rfl⟩, ⟨rfl, rfl⟩, trivial⟩, ⟨[], rfl⟩, rfl⟩ ⟨by simp, by simp only; omega, by simp [Ws]⟩ ?_
  rintro ⟨k, l⟩ ⟨hk, hq0, hq1⟩
  simp only at hk hq0 hq1
  refine V_seq (V_seq_region ?_)
  repeat refine VO_d ?_
  refine VO_nil ?_
  refine V_cond rfl (fun hc2 => ?_) (fun hc2 => ?_)
  · refine V_skip ?_
    simp only [decide_eq_true_eq] at hc2
    have hkl : k < us.length := by omega
    have hget : us[k]? = some us[k] := List.getElem?_eq_getElem hkl
    have hmem : us[k] ∈ us := List.getElem_mem hkl
    have htk := Ws_take_succ hget
    have hle := Ws_take_le us (k + 1)
    obtain ⟨hst, hsz⟩ := hz _ hmem
    refine V_seq (V_block (V_seq_region ?_))
    repeat refine VO_d ?_
    refine VO_q (Q_index rfl rfl TE.h TI.h (by omega) hget) rfl ?_
    refine VO_q (Q_load rfl TI.h hst hsz) rfl ?_
    repeat refine VO_d ?_
    refine VO_q (Q_call rfl (ih _ hmem l (by omega) (by omega)) (by (repeat (first | exact trivial | exact rfl | exact ⟨_, rfl⟩ | refine And.intro ?_ ?_)); first | done | fail)) rfl ?_
    repeat refine VO_d ?_
    refine VO_nil ?_
    refine V_seq_region ?_
    repeat refine VO_d ?_
    refine VO_nil ?_
    refine V_cond rfl (fun hc3 => ?_) (fun hc3 => ?_)
    · refine V_seq_region ?_
      repeat refine VO_d ?_
      refine VO_nil ?_
      refine V_ret ?_
      simp only [decide_eq_true_eq] at hc3
      exact ⟨trivial, ⟨_, rfl, congrArg (U.i .i64) (by
        rw [if_neg (by intro hle2; rw [if_pos (by omega)] at hc3; omega)])⟩, trivial⟩
    refine V_skip ?_
    simp only [decide_eq_false_iff_not] at hc3
    refine V_region ?_
    repeat refine VO_d ?_
    refine VO_nil ?_
    refine ⟨(k + 1, (if (W us[k] : Int) ≤ l then l - W us[k] else -1)), ?_, ?_, ⟨rfl, ⟨⟨rfl, rfl⟩, ⟨rfl, rfl⟩, ⟨rfl, rfl⟩, trivial⟩, ⟨[], rfl⟩, rfl⟩⟩
    · simp only
      refine ⟨by omega, by omega, ?_⟩
      rw [if_pos (by apply Classical.byContradiction; intro hn; rw [if_neg hn] at hc3; omega)]
      omega
    · simp only
      omega
  · refine V_exit ?_
    simp only [decide_eq_false_iff_not] at hc2
    have hkl : k = us.length := by omega
    subst hkl
    rw [List.take_length] at hq1
    show V _ _ _ _ _
    refine V_seq_region ?_
    repeat refine VO_d ?_
    refine VO_nil ?_
    refine V_ret ?_
    exact ⟨trivial, ⟨_, rfl, congrArg (U.i .i64) (by rw [if_pos (by omega)]; omega)⟩, trivial⟩

theorem szEvidence_grp (u : U) : (wt (.st 18) u → PSz 87 u) := by
  refine U.ind (M := fun u => (wt (.st 18) u → PSz 87 u)) (fun u ih => ?_) u
  refine ?_
  · intro h
    obtain ⟨f0, f1, f2, f3, rfl, p0, p1, p2, p3⟩ := inv_Evidence h
    exact szEvidence_step p2 (by obtain ⟨y0, y1, rfl, _⟩ := inv_InstanceRef p2; rfl) (szEvidenceS_step p3.1 (fun a ha => ⟨wt_isSt (p3.2 a ha), by rw [wt_sz a _ (p3.2 a ha)]; rfl⟩) (fun a ha => (ih a (by have := nn_of_mem ha; simp only [U.nn, U.nns]; omega)) (p3.2 a ha)))
theorem szEvidence_all {u : U} (h : wt (.st 18) u) : PSz 87 u := (szEvidence_grp u) h
theorem szEvidenceS_all {us : List U} (h : us.length ≤ big ∧ ∀ x ∈ us, wt (.st 18) x) : PSz 46 (.sl 5 us) := szEvidenceS_step h.1 (fun a ha => ⟨wt_isSt (h.2 a ha), by rw [wt_sz a _ (h.2 a ha)]; rfl⟩) (fun a ha => szEvidence_all (h.2 a ha))
theorem szStringS_step {us : List U} (hl : us.length ≤ big) (hz : ∀ a ∈ us, ∃ l : List UInt8, a = .s l ∧ l.length ≤ big) : PSz 108 (.sl 1 us) := by
  intro left hl0 hl1
  have hW : W (.sl 1 us) = us.length + Ws us := rfl
  have hb : (us.length : Int) ≤ 140737488355328 := by rw [big_eq] at hl; omega
  refine SpecP_intro Try.func108 rfl (by kernel_rfl) rfl fun A _ => ?_
  refine V_seq_region ?_
  repeat refine VO_d ?_
  refine VO_nil ?_
  refine V_seq_region ?_
  repeat refine VO_d ?_
  refine VO_nil ?_
  refine V_seq (V_seq_region ?_)
  repeat refine VO_d ?_
  refine VO_nil ?_
  refine V_cond rfl (fun hc => ?_) (fun hc => ?_)
  · refine V_seq_region ?_
    repeat refine VO_d ?_
    refine VO_nil ?_
    refine V_ret ?_
    simp only [decide_eq_true_eq] at hc
    exact ⟨trivial, ⟨_, rfl, congrArg (U.i .i64) (by rw [if_neg (by omega)])⟩, trivial⟩
  refine V_skip ?_
  simp only [decide_eq_false_iff_not] at hc
  refine V_seq (V_seq_region ?_)
  repeat refine VO_d ?_
  refine VO_nil ?_
  refine V_block ?_
  refine V_loop (α := Nat × Int)
    (fun x => ⟨[(0, .d (.sl 1 us)), (5, .d (.i .i64 x.1)), (1, .d (.i .i64 x.2))], [], Try.f108.ntmps⟩)
    (fun x => x.1 ≤ us.length ∧ 0 ≤ x.2 ∧ x.2 = left - us.length - Ws (us.take x.1))
    (fun x => us.length - x.1) (0, left - us.length) ⟨rfl, ⟨⟨rfl, rfl⟩, ⟨rfl, rfl⟩, ⟨rfl, rfl⟩, trivial⟩, ⟨[], rfl⟩, rfl⟩ ⟨by simp, by simp only; omega, by simp [Ws]⟩ ?_
  rintro ⟨k, l⟩ ⟨hk, hq0, hq1⟩
  simp only at hk hq0 hq1
  refine V_seq (V_seq_region ?_)
  repeat refine VO_d ?_
  refine VO_nil ?_
  refine V_cond rfl (fun hc2 => ?_) (fun hc2 => ?_)
  · refine V_skip ?_
    simp only [decide_eq_true_eq] at hc2
    have hkl : k < us.length := by omega
    have hget : us[k]? = some us[k] := List.getElem?_eq_getElem hkl
    have hmem : us[k] ∈ us := List.getElem_mem hkl
    have htk := Ws_take_succ hget
    have hle := Ws_take_le us (k + 1)
    obtain ⟨sl, hsl, hsb⟩ := hz _ hmem
    have hget' : us[k]? = some (.s sl) := by rw [hget, hsl]
    have hW : W us[k] = sl.length := by rw [hsl]; rfl
    have hsb' : sl.length ≤ 140737488355328 := by rw [big_eq] at hsb; exact hsb
    refine V_seq (V_block (V_seq_region ?_))
    repeat refine VO_d ?_
    refine VO_q (Q_index rfl rfl TE.h TI.h (by omega) hget') rfl ?_
    repeat refine VO_d ?_
    refine VO_nil ?_
    refine V_seq_region ?_
    repeat refine VO_d ?_
    refine VO_nil ?_
    refine V_cond rfl (fun hc3 => ?_) (fun hc3 => ?_)
    · refine V_seq_region ?_
      repeat refine VO_d ?_
      refine VO_nil ?_
      refine V_ret ?_
      simp only [decide_eq_true_eq] at hc3
      exact ⟨trivial, ⟨_, rfl, congrArg (U.i .i64) (by
        rw [if_neg (by omega)])⟩, trivial⟩
    refine V_skip ?_
    simp only [decide_eq_false_iff_not] at hc3
    refine V_region ?_
    repeat refine VO_d ?_
    refine VO_nil ?_
    refine ⟨(k + 1, (l - sl.length)), ?_, ?_, ⟨rfl, ⟨⟨rfl, rfl⟩, ⟨rfl, rfl⟩, ⟨rfl, rfl⟩, trivial⟩, ⟨[], rfl⟩, rfl⟩⟩
    · simp only
      refine ⟨by omega, by omega, ?_⟩
      skip
      omega
    · simp only
      omega
  · refine V_exit ?_
    simp only [decide_eq_false_iff_not] at hc2
    have hkl : k = us.length := by omega
    subst hkl
    rw [List.take_length] at hq1
    show V _ _ _ _ _
    refine V_seq_region ?_
    repeat refine VO_d ?_
    refine VO_nil ?_
    refine V_ret ?_
    exact ⟨trivial, ⟨_, rfl, congrArg (U.i .i64) (by rw [if_pos (by omega)]; omega)⟩, trivial⟩

theorem szStringS_all {us : List U} (h : us.length ≤ big ∧ ∀ x ∈ us, wt .str x) : PSz 108 (.sl 1 us) := szStringS_step h.1 (fun a ha => inv_str (h.2 a ha))
theorem szCoreArm_step {f0 : List UInt8} {f1 : List U} {f2 : U} (h0 : f0.length ≤ big) (h1 : PSz 108 (.sl 1 f1)) (g2 : wt (.st 21) f2) (h2 : PSz 17 f2) : PSz 88 (.st [.s f0, .sl 1 f1, f2]) := by
  intro left hl0 hl1
  have hW : W (.st [.s f0, .sl 1 f1, f2]) = f0.length + (W (U.sl 1 f1) + (W f2 + 0)) := rfl
  have hb0 : f0.length ≤ 140737488355328 := by rw [big_eq] at h0; exact h0
  obtain ⟨m2, hm2⟩ : ∃ m, W f2 = m := ⟨_, rfl⟩
  rw [hm2] at hW
  have h2 : ∀ l : Int, 0 ≤ l → l ≤ 4611686018427387904 → SpecP Try.prog 17 [.d f2, .d (.i .i64 l)] [.i .i64 (if (m2 : Int) ≤ l then l - m2 else -1)] := by rw [← hm2]; exact h2
  obtain ⟨e3_0, e3_1, e3_2, e3_3, e3_4, e3_5, e3_6, e3_7, e3_8, rfl, g3_0, g3_1, g3_2, g3_3, g3_4, g3_5, g3_6, g3_7, g3_8⟩ := inv_Core g2
  obtain ⟨e4_0, e4_1, e4_2, rfl, g4_0, g4_1, g4_2⟩ := inv_Type g3_4
  refine SpecP_intro Try.func88 rfl (by kernel_rfl) rfl fun A _ => ?_
  refine V_seq_region ?_
  repeat refine VO_d ?_
  refine VO_nil ?_
  refine V_seq_region ?_
  repeat refine VO_d ?_
  refine VO_nil ?_
  refine V_seq (V_seq_region ?_)
  repeat refine VO_d ?_
  refine VO_nil ?_
  refine V_cond rfl (fun hc => ?_) (fun hc => ?_)
  · refine V_seq_region ?_
    repeat refine VO_d ?_
    refine VO_nil ?_
    refine V_ret ?_
    simp only [decide_eq_true_eq] at hc
    exact ⟨trivial, ⟨_, rfl, congrArg (U.i .i64) (by rw [if_neg (by omega)])⟩, trivial⟩
  refine V_skip ?_
  simp only [decide_eq_false_iff_not] at hc
  refine V_seq_region ?_
  repeat refine VO_d ?_
  refine VO_q (Q_call rfl (h1 (left - (f0.length : Int)) (by omega) (by omega)) (by (repeat (first | exact trivial | exact rfl | exact ⟨_, rfl⟩ | refine And.intro ?_ ?_)); first | done | fail)) rfl ?_
  repeat refine VO_d ?_
  refine VO_nil ?_
  refine V_seq (V_seq_region ?_)
  repeat refine VO_d ?_
  refine VO_nil ?_
  refine V_cond rfl (fun hc => ?_) (fun hc => ?_)
  · refine V_seq_region ?_
    repeat refine VO_d ?_
    refine VO_nil ?_
    refine V_ret ?_
    simp only [decide_eq_true_eq] at hc
    exact ⟨trivial, ⟨_, rfl, congrArg (U.i .i64) (by split at hc <;> (rw [if_neg (by omega)]))⟩, trivial⟩
  refine V_skip ?_
  simp only [decide_eq_false_iff_not] at hc
  have hpos1 := hc
  have heq : ∀ (c : Prop) [Decidable c] (a : Int), ¬ (if c then a else -1) < 0 → (if c then a else -1) = a ∧ c := by
    intro c _ a h
    split at h
    · rename_i hc; exact ⟨if_pos hc, hc⟩
    · omega
  obtain ⟨e1, c1⟩ := heq _ _ hc
  rw [e1]
  clear heq hc
  refine V_seq_region ?_
  repeat refine VO_d ?_
  refine VO_q (Q_call rfl (h2 ((left - (f0.length : Int)) - (W (U.sl 1 f1) : Int)) (by omega) (by omega)) (by (repeat (first | exact trivial | exact rfl | exact ⟨_, rfl⟩ | refine And.intro ?_ ?_)); first | done | fail)) rfl ?_
  repeat refine VO_d ?_
  refine VO_nil ?_
  refine V_seq (V_seq_region ?_)
  repeat refine VO_d ?_
  refine VO_nil ?_
  refine V_cond rfl (fun hc => ?_) (fun hc => ?_)
  · refine V_seq_region ?_
    repeat refine VO_d ?_
    refine VO_nil ?_
    refine V_ret ?_
    simp only [decide_eq_true_eq] at hc
    exact ⟨trivial, ⟨_, rfl, congrArg (U.i .i64) (by split at hc <;> (rw [if_neg (by omega)]))⟩, trivial⟩
  refine V_skip ?_
  simp only [decide_eq_false_iff_not] at hc
  have hpos2 := hc
  have heq : ∀ (c : Prop) [Decidable c] (a : Int), ¬ (if c then a else -1) < 0 → (if c then a else -1) = a ∧ c := by
    intro c _ a h
    split at h
    · rename_i hc; exact ⟨if_pos hc, hc⟩
    · omega
  obtain ⟨e2, c2⟩ := heq _ _ hc
  rw [e2]
  clear heq hc
  refine V_seq_region ?_
  repeat refine VO_d ?_
  refine VO_nil ?_
  refine V_ret ?_
  exact ⟨trivial, ⟨_, rfl, congrArg (U.i .i64) (by rw [if_pos (by omega)]; omega)⟩, trivial⟩

theorem szCoreArmS_step {us : List U} (hl : us.length ≤ big) (hz : ∀ a ∈ us, a.isSt = true ∧ a.sz = 13) (ih : ∀ a ∈ us, PSz 88 a) : PSz 48 (.sl 13 us) := by
  intro left hl0 hl1
  have hW : W (.sl 13 us) = us.length + Ws us := rfl
  have hb : (us.length : Int) ≤ 140737488355328 := by rw [big_eq] at hl; omega
  refine SpecP_intro Try.func48 rfl (by kernel_rfl) rfl fun A _ => ?_
  refine V_seq_region ?_
  repeat refine VO_d ?_
  refine VO_nil ?_
  refine V_seq_region ?_
  repeat refine VO_d ?_
  refine VO_nil ?_
  refine V_seq (V_seq_region ?_)
  repeat refine VO_d ?_
  refine VO_nil ?_
  refine V_cond rfl (fun hc => ?_) (fun hc => ?_)
  · refine V_seq_region ?_
    repeat refine VO_d ?_
    refine VO_nil ?_
    refine V_ret ?_
    simp only [decide_eq_true_eq] at hc
    exact ⟨trivial, ⟨_, rfl, congrArg (U.i .i64) (by rw [if_neg (by omega)])⟩, trivial⟩
  refine V_skip ?_
  simp only [decide_eq_false_iff_not] at hc
  refine V_seq (V_seq_region ?_)
  repeat refine VO_d ?_
  refine VO_nil ?_
  refine V_block ?_
  refine V_loop (α := Nat × Int)
    (fun x => ⟨[(0, .d (.sl 13 us)), (5, .d (.i .i64 x.1)), (1, .d (.i .i64 x.2))], [], Try.f48.ntmps⟩)
    (fun x => x.1 ≤ us.length ∧ 0 ≤ x.2 ∧ x.2 = left - us.length - Ws (us.take x.1))
    (fun x => us.length - x.1) (0, left - us.length) ⟨rfl, ⟨⟨rfl, rfl⟩, ⟨rfl, rfl⟩, ⟨rfl, rfl⟩, trivial⟩, ⟨[], rfl⟩, rfl⟩ ⟨by simp, by simp only; omega, by simp [Ws]⟩ ?_
  rintro ⟨k, l⟩ ⟨hk, hq0, hq1⟩
  simp only at hk hq0 hq1
  refine V_seq (V_seq_region ?_)
  repeat refine VO_d ?_
  refine VO_nil ?_
  refine V_cond rfl (fun hc2 => ?_) (fun hc2 => ?_)
  · refine V_skip ?_
    simp only [decide_eq_true_eq] at hc2
    have hkl : k < us.length := by omega
    have hget : us[k]? = some us[k] := List.getElem?_eq_getElem hkl
    have hmem : us[k] ∈ us := List.getElem_mem hkl
    have htk := Ws_take_succ hget
    have hle := Ws_take_le us (k + 1)
    obtain ⟨hst, hsz⟩ := hz _ hmem
    refine V_seq (V_block (V_seq_region ?_))
    repeat refine VO_d ?_
    refine VO_q (Q_index rfl rfl TE.h TI.h (by omega) hget) rfl ?_
    refine VO_q (Q_load rfl TI.h hst hsz) rfl ?_
    repeat refine VO_d ?_
    refine VO_q (Q_call rfl (ih _ hmem l (by omega) (by omega)) (by (repeat (first | exact trivial | exact rfl | exact ⟨_, rfl⟩ | refine And.intro ?_ ?_)); first | done | fail)) rfl ?_
    repeat refine VO_d ?_
    refine VO_nil ?_
    refine V_seq_region ?_
    repeat refine VO_d ?_
    refine VO_nil ?_
    refine V_cond rfl (fun hc3 => ?_) (fun hc3 => ?_)
    · refine V_seq_region ?_
      repeat refine VO_d ?_
      refine VO_nil ?_
      refine V_ret ?_
      simp only [decide_eq_true_eq] at hc3
      exact ⟨trivial, ⟨_, rfl, congrArg (U.i .i64) (by
        rw [if_neg (by intro hle2; rw [if_pos (by omega)] at hc3; omega)])⟩, trivial⟩
    refine V_skip ?_
    simp only [decide_eq_false_iff_not] at hc3
    refine V_region ?_
    repeat refine VO_d ?_
    refine VO_nil ?_
    refine ⟨(k + 1, (if (W us[k] : Int) ≤ l then l - W us[k] else -1)), ?_, ?_, ⟨rfl, ⟨⟨rfl, rfl⟩, ⟨rfl, rfl⟩, ⟨rfl, rfl⟩, trivial⟩, ⟨[], rfl⟩, rfl⟩⟩
    · simp only
      refine ⟨by omega, by omega, ?_⟩
      rw [if_pos (by apply Classical.byContradiction; intro hn; rw [if_neg hn] at hc3; omega)]
      omega
    · simp only
      omega
  · refine V_exit ?_
    simp only [decide_eq_false_iff_not] at hc2
    have hkl : k = us.length := by omega
    subst hkl
    rw [List.take_length] at hq1
    show V _ _ _ _ _
    refine V_seq_region ?_
    repeat refine VO_d ?_
    refine VO_nil ?_
    refine V_ret ?_
    exact ⟨trivial, ⟨_, rfl, congrArg (U.i .i64) (by rw [if_pos (by omega)]; omega)⟩, trivial⟩

theorem szCore_step {f0 : Int} {f1 : List UInt8} {f2 : List UInt8} {f3 : Int} {f4 : U} {f5 : List U} {f6 : List U} {f7 : List U} {f8 : List U} (h1 : f1.length ≤ big) (h2 : f2.length ≤ big) (g4 : wt (.st 1) f4) (h4 : PSz 6 f4) (h5 : PSz 29 (.sl 3 f5)) (h6 : PSz 46 (.sl 5 f6)) (h7 : PSz 47 (.sl 11 f7)) (h8 : PSz 48 (.sl 13 f8)) : PSz 17 (.st [.i .i64 f0, .s f1, .s f2, .i .i64 f3, f4, .sl 3 f5, .sl 5 f6, .sl 11 f7, .sl 13 f8]) := by
  intro left hl0 hl1
  have hW : W (.st [.i .i64 f0, .s f1, .s f2, .i .i64 f3, f4, .sl 3 f5, .sl 5 f6, .sl 11 f7, .sl 13 f8]) = 0 + (f1.length + (f2.length + (0 + (W f4 + (W (U.sl 3 f5) + (W (U.sl 5 f6) + (W (U.sl 11 f7) + (W (U.sl 13 f8) + 0)))))))) := rfl
  have hb1 : f1.length ≤ 140737488355328 := by rw [big_eq] at h1; exact h1
  have hb2 : f2.length ≤ 140737488355328 := by rw [big_eq] at h2; exact h2
  obtain ⟨m4, hm4⟩ : ∃ m, W f4 = m := ⟨_, rfl⟩
  rw [hm4] at hW
  have h4 : ∀ l : Int, 0 ≤ l → l ≤ 4611686018427387904 → SpecP Try.prog 6 [.d f4, .d (.i .i64 l)] [.i .i64 (if (m4 : Int) ≤ l then l - m4 else -1)] := by rw [← hm4]; exact h4
  obtain ⟨e5_0, e5_1, e5_2, rfl, g5_0, g5_1, g5_2⟩ := inv_Type g4
  refine SpecP_intro Try.func17 rfl (by kernel_rfl) rfl fun A _ => ?_
  refine V_seq_region ?_
  repeat refine VO_d ?_
  refine VO_nil ?_
  refine V_seq_region ?_
  repeat refine VO_d ?_
  refine VO_nil ?_
  refine V_seq (V_seq_region ?_)
  repeat refine VO_d ?_
  refine VO_nil ?_
  refine V_cond rfl (fun hc => ?_) (fun hc => ?_)
  · refine V_seq_region ?_
    repeat refine VO_d ?_
    refine VO_nil ?_
    refine V_ret ?_
    simp only [decide_eq_true_eq] at hc
    exact ⟨trivial, ⟨_, rfl, congrArg (U.i .i64) (by rw [if_neg (by omega)])⟩, trivial⟩
  refine V_skip ?_
  simp only [decide_eq_false_iff_not] at hc
  refine V_seq_region ?_
  repeat refine VO_d ?_
  refine VO_nil ?_
  refine V_seq (V_seq_region ?_)
  repeat refine VO_d ?_
  refine VO_nil ?_
  refine V_cond rfl (fun hc => ?_) (fun hc => ?_)
  · refine V_seq_region ?_
    repeat refine VO_d ?_
    refine VO_nil ?_
    refine V_ret ?_
    simp only [decide_eq_true_eq] at hc
    exact ⟨trivial, ⟨_, rfl, congrArg (U.i .i64) (by rw [if_neg (by omega)])⟩, trivial⟩
  refine V_skip ?_
  simp only [decide_eq_false_iff_not] at hc
  refine V_seq_region ?_
  repeat refine VO_d ?_
  refine VO_q (Q_call rfl (h4 ((left - (f1.length : Int)) - (f2.length : Int)) (by omega) (by omega)) (by (repeat (first | exact trivial | exact rfl | exact ⟨_, rfl⟩ | refine And.intro ?_ ?_)); first | done | fail)) rfl ?_
  repeat refine VO_d ?_
  refine VO_nil ?_
  refine V_seq (V_seq_region ?_)
  repeat refine VO_d ?_
  refine VO_nil ?_
  refine V_cond rfl (fun hc => ?_) (fun hc => ?_)
  · refine V_seq_region ?_
    repeat refine VO_d ?_
    refine VO_nil ?_
    refine V_ret ?_
    simp only [decide_eq_true_eq] at hc
    exact ⟨trivial, ⟨_, rfl, congrArg (U.i .i64) (by split at hc <;> (rw [if_neg (by omega)]))⟩, trivial⟩
  refine V_skip ?_
  simp only [decide_eq_false_iff_not] at hc
  have hpos4 := hc
  have heq : ∀ (c : Prop) [Decidable c] (a : Int), ¬ (if c then a else -1) < 0 → (if c then a else -1) = a ∧ c := by
    intro c _ a h
    split at h
    · rename_i hc; exact ⟨if_pos hc, hc⟩
    · omega
  obtain ⟨e4, c4⟩ := heq _ _ hc
  rw [e4]
  clear heq hc
  refine V_seq_region ?_
  repeat refine VO_d ?_
  refine VO_q (Q_call rfl (h5 (((left - (f1.length : Int)) - (f2.length : Int)) - (m4 : Int)) (by omega) (by omega)) (by (repeat (first | exact trivial | exact rfl | exact ⟨_, rfl⟩ | refine And.intro ?_ ?_)); first | done | fail)) rfl ?_
  repeat refine VO_d ?_
  refine VO_nil ?_
  refine V_seq (V_seq_region ?_)
  repeat refine VO_d ?_
  refine VO_nil ?_
  refine V_cond rfl (fun hc => ?_) (fun hc => ?_)
  · refine V_seq_region ?_
    repeat refine VO_d ?_
    refine VO_nil ?_
    refine V_ret ?_
    simp only [decide_eq_true_eq] at hc
    exact ⟨trivial, ⟨_, rfl, congrArg (U.i .i64) (by split at hc <;> (rw [if_neg (by omega)]))⟩, trivial⟩
  refine V_skip ?_
  simp only [decide_eq_false_iff_not] at hc
  have hpos5 := hc
  have heq : ∀ (c : Prop) [Decidable c] (a : Int), ¬ (if c then a else -1) < 0 → (if c then a else -1) = a ∧ c := by
    intro c _ a h
    split at h
    · rename_i hc; exact ⟨if_pos hc, hc⟩
    · omega
  obtain ⟨e5, c5⟩ := heq _ _ hc
  rw [e5]
  clear heq hc
  refine V_seq_region ?_
  repeat refine VO_d ?_
  refine VO_q (Q_call rfl (h6 ((((left - (f1.length : Int)) - (f2.length : Int)) - (m4 : Int)) - (W (U.sl 3 f5) : Int)) (by omega) (by omega)) (by (repeat (first | exact trivial | exact rfl | exact ⟨_, rfl⟩ | refine And.intro ?_ ?_)); first | done | fail)) rfl ?_
  repeat refine VO_d ?_
  refine VO_nil ?_
  refine V_seq (V_seq_region ?_)
  repeat refine VO_d ?_
  refine VO_nil ?_
  refine V_cond rfl (fun hc => ?_) (fun hc => ?_)
  · refine V_seq_region ?_
    repeat refine VO_d ?_
    refine VO_nil ?_
    refine V_ret ?_
    simp only [decide_eq_true_eq] at hc
    exact ⟨trivial, ⟨_, rfl, congrArg (U.i .i64) (by split at hc <;> (rw [if_neg (by omega)]))⟩, trivial⟩
  refine V_skip ?_
  simp only [decide_eq_false_iff_not] at hc
  have hpos6 := hc
  have heq : ∀ (c : Prop) [Decidable c] (a : Int), ¬ (if c then a else -1) < 0 → (if c then a else -1) = a ∧ c := by
    intro c _ a h
    split at h
    · rename_i hc; exact ⟨if_pos hc, hc⟩
    · omega
  obtain ⟨e6, c6⟩ := heq _ _ hc
  rw [e6]
  clear heq hc
  refine V_seq_region ?_
  repeat refine VO_d ?_
  refine VO_q (Q_call rfl (h7 (((((left - (f1.length : Int)) - (f2.length : Int)) - (m4 : Int)) - (W (U.sl 3 f5) : Int)) - (W (U.sl 5 f6) : Int)) (by omega) (by omega)) (by (repeat (first | exact trivial | exact rfl | exact ⟨_, rfl⟩ | refine And.intro ?_ ?_)); first | done | fail)) rfl ?_
  repeat refine VO_d ?_
  refine VO_nil ?_
  refine V_seq (V_seq_region ?_)
  repeat refine VO_d ?_
  refine VO_nil ?_
  refine V_cond rfl (fun hc => ?_) (fun hc => ?_)
  · refine V_seq_region ?_
    repeat refine VO_d ?_
    refine VO_nil ?_
    refine V_ret ?_
    simp only [decide_eq_true_eq] at hc
    exact ⟨trivial, ⟨_, rfl, congrArg (U.i .i64) (by split at hc <;> (rw [if_neg (by omega)]))⟩, trivial⟩
  refine V_skip ?_
  simp only [decide_eq_false_iff_not] at hc
  have hpos7 := hc
  have heq : ∀ (c : Prop) [Decidable c] (a : Int), ¬ (if c then a else -1) < 0 → (if c then a else -1) = a ∧ c := by
    intro c _ a h
    split at h
    · rename_i hc; exact ⟨if_pos hc, hc⟩
    · omega
  obtain ⟨e7, c7⟩ := heq _ _ hc
  rw [e7]
  clear heq hc
  refine V_seq_region ?_
  repeat refine VO_d ?_
  refine VO_q (Q_call rfl (h8 ((((((left - (f1.length : Int)) - (f2.length : Int)) - (m4 : Int)) - (W (U.sl 3 f5) : Int)) - (W (U.sl 5 f6) : Int)) - (W (U.sl 11 f7) : Int)) (by omega) (by omega)) (by (repeat (first | exact trivial | exact rfl | exact ⟨_, rfl⟩ | refine And.intro ?_ ?_)); first | done | fail)) rfl ?_
  repeat refine VO_d ?_
  refine VO_nil ?_
  refine V_seq (V_seq_region ?_)
  repeat refine VO_d ?_
  refine VO_nil ?_
  refine V_cond rfl (fun hc => ?_) (fun hc => ?_)
  · refine V_seq_region ?_
    repeat refine VO_d ?_
    refine VO_nil ?_
    refine V_ret ?_
    simp only [decide_eq_true_eq] at hc
    exact ⟨trivial, ⟨_, rfl, congrArg (U.i .i64) (by split at hc <;> (rw [if_neg (by omega)]))⟩, trivial⟩
  refine V_skip ?_
  simp only [decide_eq_false_iff_not] at hc
  have hpos8 := hc
  have heq : ∀ (c : Prop) [Decidable c] (a : Int), ¬ (if c then a else -1) < 0 → (if c then a else -1) = a ∧ c := by
    intro c _ a h
    split at h
    · rename_i hc; exact ⟨if_pos hc, hc⟩
    · omega
  obtain ⟨e8, c8⟩ := heq _ _ hc
  rw [e8]
  clear heq hc
  refine V_seq_region ?_
  repeat refine VO_d ?_
  refine VO_nil ?_
  refine V_ret ?_
  exact ⟨trivial, ⟨_, rfl, congrArg (U.i .i64) (by rw [if_pos (by omega)]; omega)⟩, trivial⟩

theorem szCoreS_step {us : List U} (hl : us.length ≤ big) (hz : ∀ a ∈ us, a.isSt = true ∧ a.sz = 11) (ih : ∀ a ∈ us, PSz 17 a) : PSz 47 (.sl 11 us) := by
  intro left hl0 hl1
  have hW : W (.sl 11 us) = us.length + Ws us := rfl
  have hb : (us.length : Int) ≤ 140737488355328 := by rw [big_eq] at hl; omega
  refine SpecP_intro Try.func47 rfl (by kernel_rfl) rfl fun A _ => ?_
  refine V_seq_region ?_
  repeat refine VO_d ?_
  refine VO_nil ?_
  refine V_seq_region ?_
  repeat refine VO_d ?_
  refine VO_nil ?_
  refine V_seq (V_seq_region ?_)
  repeat refine VO_d ?_
  refine VO_nil ?_
  refine V_cond rfl (fun hc => ?_) (fun hc => ?_)
  · refine V_seq_region ?_
    repeat refine VO_d ?_
    refine VO_nil ?_
    refine V_ret ?_
    simp only [decide_eq_true_eq] at hc
    exact ⟨trivial, ⟨_, rfl, congrArg (U.i .i64) (by rw [if_neg (by omega)])⟩, trivial⟩
  refine V_skip ?_
  simp only [decide_eq_false_iff_not] at hc
  refine V_seq (V_seq_region ?_)
  repeat refine VO_d ?_
  refine VO_nil ?_
  refine V_block ?_
  refine V_loop (α := Nat × Int)
    (fun x => ⟨[(0, .d (.sl 11 us)), (5, .d (.i .i64 x.1)), (1, .d (.i .i64 x.2))], [], Try.f47.ntmps⟩)
    (fun x => x.1 ≤ us.length ∧ 0 ≤ x.2 ∧ x.2 = left - us.length - Ws (us.take x.1))
    (fun x => us.length - x.1) (0, left - us.length) ⟨rfl, ⟨⟨rfl, rfl⟩, ⟨rfl, rfl⟩, ⟨rfl, rfl⟩, trivial⟩, ⟨[], rfl⟩, rfl⟩ ⟨by simp, by simp only; omega, by simp [Ws]⟩ ?_
  rintro ⟨k, l⟩ ⟨hk, hq0, hq1⟩
  simp only at hk hq0 hq1
  refine V_seq (V_seq_region ?_)
  repeat refine VO_d ?_
  refine VO_nil ?_
  refine V_cond rfl (fun hc2 => ?_) (fun hc2 => ?_)
  · refine V_skip ?_
    simp only [decide_eq_true_eq] at hc2
    have hkl : k < us.length := by omega
    have hget : us[k]? = some us[k] := List.getElem?_eq_getElem hkl
    have hmem : us[k] ∈ us := List.getElem_mem hkl
    have htk := Ws_take_succ hget
    have hle := Ws_take_le us (k + 1)
    obtain ⟨hst, hsz⟩ := hz _ hmem
    refine V_seq (V_block (V_seq_region ?_))
    repeat refine VO_d ?_
    refine VO_q (Q_index rfl rfl TE.h TI.h (by omega) hget) rfl ?_
    refine VO_q (Q_load rfl TI.h hst hsz) rfl ?_
    repeat refine VO_d ?_
    refine VO_q (Q_call rfl (ih _ hmem l (by omega) (by omega)) (by (repeat (first | exact trivial | exact rfl | exact ⟨_, rfl⟩ | refine And.intro ?_ ?_)); first | done | fail)) rfl ?_
    repeat refine VO_d ?_
    refine VO_nil ?_
    refine V_seq_region ?_
    repeat refine VO_d ?_
    refine VO_nil ?_
    refine V_cond rfl (fun hc3 => ?_) (fun hc3 => ?_)
    · refine V_seq_region ?_
      repeat refine VO_d ?_
      refine VO_nil ?_
      refine V_ret ?_
      simp only [decide_eq_true_eq] at hc3
      exact ⟨trivial, ⟨_, rfl, congrArg (U.i .i64) (by
        rw [if_neg (by intro hle2; rw [if_pos (by omega)] at hc3; omega)])⟩, trivial⟩
    refine V_skip ?_
    simp only [decide_eq_false_iff_not] at hc3
    refine V_region ?_
    repeat refine VO_d ?_
    refine VO_nil ?_
    refine ⟨(k + 1, (if (W us[k] : Int) ≤ l then l - W us[k] else -1)), ?_, ?_, ⟨rfl, ⟨⟨rfl, rfl⟩, ⟨rfl, rfl⟩, ⟨rfl, rfl⟩, trivial⟩, ⟨[], rfl⟩, rfl⟩⟩
    · simp only
      refine ⟨by omega, by omega, ?_⟩
      rw [if_pos (by apply Classical.byContradiction; intro hn; rw [if_neg hn] at hc3; omega)]
      omega
    · simp only
      omega
  · refine V_exit ?_
    simp only [decide_eq_false_iff_not] at hc2
    have hkl : k = us.length := by omega
    subst hkl
    rw [List.take_length] at hq1
    show V _ _ _ _ _
    refine V_seq_region ?_
    repeat refine VO_d ?_
    refine VO_nil ?_
    refine V_ret ?_
    exact ⟨trivial, ⟨_, rfl, congrArg (U.i .i64) (by rw [if_pos (by omega)]; omega)⟩, trivial⟩

theorem szCoreArmCore_grp (u : U) : (wt (.st 20) u → PSz 88 u) ∧ (wt (.st 21) u → PSz 17 u) := by
  refine U.ind (M := fun u => (wt (.st 20) u → PSz 88 u) ∧ (wt (.st 21) u → PSz 17 u)) (fun u ih => ?_) u
  refine ⟨?_, ?_⟩
  · intro h
    obtain ⟨f0, f1, f2, rfl, p0, p1, p2⟩ := inv_CoreArm h
    exact szCoreArm_step p0 (szStringS_all p1) p2 ((ih f2 (by simp only [U.nn, U.nns]; omega)).2 p2)
  · intro h
    obtain ⟨f0, f1, f2, f3, f4, f5, f6, f7, f8, rfl, p0, p1, p2, p3, p4, p5, p6, p7, p8⟩ := inv_Core h
    exact szCore_step p1 p2 p4 (szType_all p4) (szTypeS_all p5) (szEvidenceS_all p6) (szCoreS_step p7.1 (fun a ha => ⟨wt_isSt (p7.2 a ha), by rw [wt_sz a _ (p7.2 a ha)]; rfl⟩) (fun a ha => (ih a (by have := nn_of_mem ha; simp only [U.nn, U.nns]; omega)).2 (p7.2 a ha))) (szCoreArmS_step p8.1 (fun a ha => ⟨wt_isSt (p8.2 a ha), by rw [wt_sz a _ (p8.2 a ha)]; rfl⟩) (fun a ha => (ih a (by have := nn_of_mem ha; simp only [U.nn, U.nns]; omega)).1 (p8.2 a ha)))
theorem szCoreArm_all {u : U} (h : wt (.st 20) u) : PSz 88 u := (szCoreArmCore_grp u).1 h
theorem szCoreArmS_all {us : List U} (h : us.length ≤ big ∧ ∀ x ∈ us, wt (.st 20) x) : PSz 48 (.sl 13 us) := szCoreArmS_step h.1 (fun a ha => ⟨wt_isSt (h.2 a ha), by rw [wt_sz a _ (h.2 a ha)]; rfl⟩) (fun a ha => szCoreArm_all (h.2 a ha))
theorem szCore_all {u : U} (h : wt (.st 21) u) : PSz 17 u := (szCoreArmCore_grp u).2 h
theorem szCoreS_all {us : List U} (h : us.length ≤ big ∧ ∀ x ∈ us, wt (.st 21) x) : PSz 47 (.sl 11 us) := szCoreS_step h.1 (fun a ha => ⟨wt_isSt (h.2 a ha), by rw [wt_sz a _ (h.2 a ha)]; rfl⟩) (fun a ha => szCore_all (h.2 a ha))
theorem toType_step {f0 : Int} {f1 : List UInt8} {f2 : List U} (h1 : f1.length ≤ big) (h2 : PTo 36 (.sl 3 f2)) : PTo 9 (.st [.i .i64 f0, .s f1, .sl 3 f2]) := by
  intro hw
  have hW : W (.st [.i .i64 f0, .s f1, .sl 3 f2]) = 0 + (f1.length + (W (U.sl 3 f2) + 0)) := rfl
  have c2 := h2 (by omega)
  clear h2
  clear hW hw
  refine SpecP_intro Try.func9 rfl (by kernel_rfl) rfl fun A _ => ?_
  (first | refine V_seq_region ?_ | refine V_seq (V_seq_region ?_) | refine V_seq_draw tmix (by kernel_rfl) ?_ | refine V_seq (V_seq_draw tmix (by kernel_rfl) ?_) | refine V_region ?_ | refine V_draw tmix (by kernel_rfl) ?_)
  repeat refine VO_d ?_
  (first | refine VO_nil ?_ | refine VQ_nil ?_)
  (first | refine V_seq_region ?_ | refine V_seq (V_seq_region ?_) | refine V_seq_draw tmix (by kernel_rfl) ?_ | refine V_seq (V_seq_draw tmix (by kernel_rfl) ?_) | refine V_region ?_ | refine V_draw tmix (by kernel_rfl) ?_)
  repeat refine VO_d ?_
  (first | refine VO_nil ?_ | refine VQ_nil ?_)
  (first | refine V_seq_region ?_ | refine V_seq (V_seq_region ?_) | refine V_seq_draw tmix (by kernel_rfl) ?_ | refine V_seq (V_seq_draw tmix (by kernel_rfl) ?_) | refine V_region ?_ | refine V_draw tmix (by kernel_rfl) ?_)
  repeat refine VO_d ?_
  (first | refine VO_nil ?_ | refine VQ_nil ?_)
  (first | refine V_seq_region ?_ | refine V_seq (V_seq_region ?_) | refine V_seq_draw tmix (by kernel_rfl) ?_ | refine V_seq (V_seq_draw tmix (by kernel_rfl) ?_) | refine V_region ?_ | refine V_draw tmix (by kernel_rfl) ?_)
  repeat refine VO_d ?_
  (first | refine VO_nil ?_ | refine VQ_nil ?_)
  (first | refine V_seq_region ?_ | refine V_seq (V_seq_region ?_) | refine V_seq_draw tmix (by kernel_rfl) ?_ | refine V_seq (V_seq_draw tmix (by kernel_rfl) ?_) | refine V_region ?_ | refine V_draw tmix (by kernel_rfl) ?_)
  repeat refine VO_d ?_
  (first | refine VO_q (Q_call rfl c2 (by (repeat (first | exact trivial | exact rfl | exact ⟨_, rfl⟩ | refine And.intro ?_ ?_)); first | done | fail)) rfl ?_ | refine VQ_q (Q_call rfl c2 (by (repeat (first | exact trivial | exact rfl | exact ⟨_, rfl⟩ | refine And.intro ?_ ?_)); first | done | fail)) rfl ?_ | (refine VO_bare rfl rfl rfl rfl ?_; refine VO_q (Q_call rfl c2 (by (repeat (first | exact trivial | exact rfl | exact ⟨_, rfl⟩ | refine And.intro ?_ ?_)); first | done | fail)) rfl ?_) | refine VQ_run rfl rfl rfl rfl (Q_call rfl c2 (by (repeat (first | exact trivial | exact rfl | exact ⟨_, rfl⟩ | refine And.intro ?_ ?_)); first | done | fail)) rfl ?_)
  repeat refine VO_d ?_
  (first | refine VO_nil ?_ | refine VQ_nil ?_)
  (first | refine V_seq_region ?_ | refine V_seq (V_seq_region ?_) | refine V_seq_draw tmix (by kernel_rfl) ?_ | refine V_seq (V_seq_draw tmix (by kernel_rfl) ?_) | refine V_region ?_ | refine V_draw tmix (by kernel_rfl) ?_)
  repeat refine VO_d ?_
  (first | refine VO_nil ?_ | refine VQ_nil ?_)
  refine V_ret ?_
  exact ⟨trivial, ⟨_, ResV_ag rfl rfl TI.h rfl rfl, (by (repeat (first | exact trivial | exact rfl | exact ⟨_, rfl⟩ | refine And.intro ?_ ?_)); first | done | fail)⟩, trivial⟩

theorem zu_Type : ZeroU (.st [.i .i64 0, .s [], .sl 3 []]) [.int .i64 0, .string ⟨#[]⟩, .slice none 0 0] := fun S w => Rd.of_leafs _ _ (And.intro zI (And.intro zS (And.intro zL (trivial))))
theorem toTypeS_step {us : List U} (hz : ∀ a ∈ us, a.isSt = true ∧ a.sz = 3) (ih : ∀ a ∈ us, PTo 9 a) : PTo 36 (.sl 3 us) := by
  intro hw
  have hW : W (.sl 3 us) = us.length + Ws us := rfl
  refine SpecP_intro Try.func36 rfl (by kernel_rfl) rfl fun A _ => ?_
  (first | refine V_seq_region ?_ | refine V_seq (V_seq_region ?_) | refine V_seq_draw tmix (by kernel_rfl) ?_ | refine V_seq (V_seq_draw tmix (by kernel_rfl) ?_) | refine V_region ?_ | refine V_draw tmix (by kernel_rfl) ?_)
  repeat refine VO_d ?_
  (first | refine VO_nil ?_ | refine VQ_nil ?_)
  (first | refine V_seq_region ?_ | refine V_seq (V_seq_region ?_) | refine V_seq_draw tmix (by kernel_rfl) ?_ | refine V_seq (V_seq_draw tmix (by kernel_rfl) ?_) | refine V_region ?_ | refine V_draw tmix (by kernel_rfl) ?_)
  repeat refine VO_d ?_
  refine VO_make rfl rfl TE.h TI.h TZ.h rfl zu_Type (by omega) (by omega) (by rw [big_eq]; omega) (by omega) rfl (by simp only [List.length_nil, List.length_cons, List.nil_append, List.cons_append, List.set_cons_zero, List.set_cons_succ, List.take_zero, List.take_succ_cons, List.drop_zero, List.drop_succ_cons, Nat.reduceAdd, Nat.zero_add] <;> rfl) (by simp only [List.length_nil, List.length_cons, List.nil_append, List.cons_append, List.set_cons_zero, List.set_cons_succ, List.take_zero, List.take_succ_cons, List.drop_zero, List.drop_succ_cons, Nat.reduceAdd, Nat.zero_add] <;> rfl) ?_
  repeat refine VO_d ?_
  (first | refine VO_nil ?_ | refine VQ_nil ?_)
  rw [Int.toNat_natCast, fillU_zero]
  (first | refine V_seq_region ?_ | refine V_seq (V_seq_region ?_) | refine V_seq_draw tmix (by kernel_rfl) ?_ | refine V_seq (V_seq_draw tmix (by kernel_rfl) ?_) | refine V_region ?_ | refine V_draw tmix (by kernel_rfl) ?_)
  repeat refine VO_d ?_
  (first | refine VO_nil ?_ | refine VQ_nil ?_)
  refine V_block ?_
  refine V_loop (α := Nat)
    (fun k => ⟨[(0, .d (.sl 3 us)), (3, .sl 0 0), (4, .d (.i .i64 k))], [.arr 34 3 0 (fillU us (.st [.i .i64 0, .s [], .sl 3 []]) k)], Try.f36.ntmps⟩)
    (fun k => k ≤ us.length)
    (fun k => us.length - k) 0 ⟨rfl, ⟨⟨rfl, rfl⟩, ⟨rfl, rfl⟩, ⟨rfl, rfl⟩, trivial⟩, ⟨[], rfl⟩, rfl⟩ (by simp) ?_
  intro k hk
  (first | refine V_seq_region ?_ | refine V_seq (V_seq_region ?_) | refine V_seq_draw tmix (by kernel_rfl) ?_ | refine V_seq (V_seq_draw tmix (by kernel_rfl) ?_) | refine V_region ?_ | refine V_draw tmix (by kernel_rfl) ?_)
  repeat refine VO_d ?_
  (first | refine VO_nil ?_ | refine VQ_nil ?_)
  refine V_cond rfl (fun hc2 => ?_) (fun hc2 => ?_)
  · refine V_skip ?_
    simp only [decide_eq_true_eq] at hc2
    have hkl : k < us.length := by omega
    have hget : us[k]? = some us[k] := List.getElem?_eq_getElem hkl
    have hmem : us[k] ∈ us := List.getElem_mem hkl
    have hwk := W_le_of_mem hmem
    have hfl : (fillU us (.st [.i .i64 0, .s [], .sl 3 []]) k).length = us.length := fillU_length hk
    obtain ⟨hst, hsz⟩ := hz _ hmem
    refine V_seq (V_block ?_)
    (first | refine V_seq_region ?_ | refine V_seq (V_seq_region ?_) | refine V_seq_draw tmix (by kernel_rfl) ?_ | refine V_seq (V_seq_draw tmix (by kernel_rfl) ?_) | refine V_region ?_ | refine V_draw tmix (by kernel_rfl) ?_)
    repeat refine VO_d ?_
    refine VO_q (Q_index rfl rfl TE.h TI.h (by omega) hget) rfl ?_
    refine VO_q (Q_load rfl TI.h hst hsz) rfl ?_
    refine VO_q (Q_call rfl (ih _ hmem (by omega)) (by (repeat (first | exact trivial | exact rfl | exact ⟨_, rfl⟩ | refine And.intro ?_ ?_)); first | done | fail)) rfl ?_
    refine VO_q (Q_index_arr rfl rfl rfl TE.h TI.h (by omega) (by omega)) rfl ?_
    refine VO_store_ep rfl rfl (by exact rfl) TI.h hsz (by omega) (by simp only [List.length_nil, List.length_cons, List.nil_append, List.cons_append, List.set_cons_zero, List.set_cons_succ, List.take_zero, List.take_succ_cons, List.drop_zero, List.drop_succ_cons, Nat.reduceAdd, Nat.zero_add] <;> rfl) ?_
    (first | refine VO_nil ?_ | refine VQ_nil ?_)
    (first | refine V_seq_region ?_ | refine V_seq (V_seq_region ?_) | refine V_seq_draw tmix (by kernel_rfl) ?_ | refine V_seq (V_seq_draw tmix (by kernel_rfl) ?_) | refine V_region ?_ | refine V_draw tmix (by kernel_rfl) ?_)
    repeat refine VO_d ?_
    (first | refine VO_nil ?_ | refine VQ_nil ?_)
    refine ⟨k + 1, by omega, by omega, ⟨rfl, ⟨⟨rfl, rfl⟩, ⟨rfl, rfl⟩, ⟨rfl, rfl⟩, trivial⟩, ⟨[], ?_⟩, rfl⟩⟩
    rw [Int.toNat_natCast, fillU_set hget]
    rfl
  · refine V_exit ?_
    simp only [decide_eq_false_iff_not] at hc2
    have hkl : k = us.length := by omega
    subst hkl
    rw [fillU_all]
    show V _ _ _ _ _
    (first | refine V_seq_region ?_ | refine V_seq (V_seq_region ?_) | refine V_seq_draw tmix (by kernel_rfl) ?_ | refine V_seq (V_seq_draw tmix (by kernel_rfl) ?_) | refine V_region ?_ | refine V_draw tmix (by kernel_rfl) ?_)
    repeat refine VO_d ?_
    (first | refine VO_nil ?_ | refine VQ_nil ?_)
    refine V_freeze 0 rfl (by simp only [List.length_nil, List.length_cons, List.nil_append, List.cons_append, List.set_cons_zero, List.set_cons_succ, List.take_zero, List.take_succ_cons, List.drop_zero, List.drop_succ_cons, Nat.reduceAdd, Nat.zero_add] <;> rfl) ?_
    refine V_ret ?_
    exact ⟨trivial, ⟨_, rfl, _, rfl⟩, trivial⟩

theorem toType_grp (u : U) : (wt (.st 1) u → PTo 9 u) := by
  refine U.ind (M := fun u => (wt (.st 1) u → PTo 9 u)) (fun u ih => ?_) u
  refine ?_
  · intro h
    obtain ⟨f0, f1, f2, rfl, p0, p1, p2⟩ := inv_Type h
    exact toType_step p1 (toTypeS_step (fun a ha => ⟨wt_isSt (p2.2 a ha), by rw [wt_sz a _ (p2.2 a ha)]; rfl⟩) (fun a ha => (ih a (by have := nn_of_mem ha; simp only [U.nn, U.nns]; omega)) (p2.2 a ha)))
theorem toType_all {u : U} (h : wt (.st 1) u) : PTo 9 u := (toType_grp u) h
theorem toTypeS_all {us : List U} (h : us.length ≤ big ∧ ∀ x ∈ us, wt (.st 1) x) : PTo 36 (.sl 3 us) := toTypeS_step (fun a ha => ⟨wt_isSt (h.2 a ha), by rw [wt_sz a _ (h.2 a ha)]; rfl⟩) (fun a ha => toType_all (h.2 a ha))
theorem toBinding_step {f0 : List UInt8} {f1 : U} (h0 : f0.length ≤ big) (g1 : wt (.st 1) f1) (h1 : PTo 9 f1) : PTo 51 (.st [.s f0, f1]) := by
  intro hw
  have hW : W (.st [.s f0, f1]) = f0.length + (W f1 + 0) := rfl
  have c1 := h1 (by omega)
  clear h1
  clear hW hw
  obtain ⟨e6_0, e6_1, e6_2, rfl, g6_0, g6_1, g6_2⟩ := inv_Type g1
  refine SpecP_intro Try.func51 rfl (by kernel_rfl) rfl fun A _ => ?_
  (first | refine V_seq_region ?_ | refine V_seq (V_seq_region ?_) | refine V_seq_draw tmix (by kernel_rfl) ?_ | refine V_seq (V_seq_draw tmix (by kernel_rfl) ?_) | refine V_region ?_ | refine V_draw tmix (by kernel_rfl) ?_)
  repeat refine VO_d ?_
  (first | refine VO_nil ?_ | refine VQ_nil ?_)
  (first | refine V_seq_region ?_ | refine V_seq (V_seq_region ?_) | refine V_seq_draw tmix (by kernel_rfl) ?_ | refine V_seq (V_seq_draw tmix (by kernel_rfl) ?_) | refine V_region ?_ | refine V_draw tmix (by kernel_rfl) ?_)
  repeat refine VO_d ?_
  (first | refine VO_nil ?_ | refine VQ_nil ?_)
  (first | refine V_seq_region ?_ | refine V_seq (V_seq_region ?_) | refine V_seq_draw tmix (by kernel_rfl) ?_ | refine V_seq (V_seq_draw tmix (by kernel_rfl) ?_) | refine V_region ?_ | refine V_draw tmix (by kernel_rfl) ?_)
  repeat refine VO_d ?_
  (first | refine VO_nil ?_ | refine VQ_nil ?_)
  (first | refine V_seq_region ?_ | refine V_seq (V_seq_region ?_) | refine V_seq_draw tmix (by kernel_rfl) ?_ | refine V_seq (V_seq_draw tmix (by kernel_rfl) ?_) | refine V_region ?_ | refine V_draw tmix (by kernel_rfl) ?_)
  repeat refine VO_d ?_
  (first | refine VO_q (Q_call rfl c1 (by (repeat (first | exact trivial | exact rfl | exact ⟨_, rfl⟩ | refine And.intro ?_ ?_)); first | done | fail)) rfl ?_ | refine VQ_q (Q_call rfl c1 (by (repeat (first | exact trivial | exact rfl | exact ⟨_, rfl⟩ | refine And.intro ?_ ?_)); first | done | fail)) rfl ?_ | (refine VO_bare rfl rfl rfl rfl ?_; refine VO_q (Q_call rfl c1 (by (repeat (first | exact trivial | exact rfl | exact ⟨_, rfl⟩ | refine And.intro ?_ ?_)); first | done | fail)) rfl ?_) | refine VQ_run rfl rfl rfl rfl (Q_call rfl c1 (by (repeat (first | exact trivial | exact rfl | exact ⟨_, rfl⟩ | refine And.intro ?_ ?_)); first | done | fail)) rfl ?_)
  repeat refine VO_d ?_
  (first | refine VO_nil ?_ | refine VQ_nil ?_)
  (first | refine V_seq_region ?_ | refine V_seq (V_seq_region ?_) | refine V_seq_draw tmix (by kernel_rfl) ?_ | refine V_seq (V_seq_draw tmix (by kernel_rfl) ?_) | refine V_region ?_ | refine V_draw tmix (by kernel_rfl) ?_)
  repeat refine VO_d ?_
  (first | refine VO_nil ?_ | refine VQ_nil ?_)
  refine V_ret ?_
  exact ⟨trivial, ⟨_, ResV_ag rfl rfl TI.h rfl rfl, (by (repeat (first | exact trivial | exact rfl | exact ⟨_, rfl⟩ | refine And.intro ?_ ?_)); first | done | fail)⟩, trivial⟩

theorem zu_Binding : ZeroU (.st [.s [], .st [.i .i64 0, .s [], .sl 3 []]]) [.string ⟨#[]⟩, .int .i64 0, .string ⟨#[]⟩, .slice none 0 0] := fun S w => Rd.of_leafs _ _ (And.intro zS (And.intro zI (And.intro zS (And.intro zL (trivial)))))
theorem toBindingS_step {us : List U} (hz : ∀ a ∈ us, a.isSt = true ∧ a.sz = 4) (ih : ∀ a ∈ us, PTo 51 a) : PTo 19 (.sl 4 us) := by
  intro hw
  have hW : W (.sl 4 us) = us.length + Ws us := rfl
  refine SpecP_intro Try.func19 rfl (by kernel_rfl) rfl fun A _ => ?_
  (first | refine V_seq_region ?_ | refine V_seq (V_seq_region ?_) | refine V_seq_draw tmix (by kernel_rfl) ?_ | refine V_seq (V_seq_draw tmix (by kernel_rfl) ?_) | refine V_region ?_ | refine V_draw tmix (by kernel_rfl) ?_)
  repeat refine VO_d ?_
  (first | refine VO_nil ?_ | refine VQ_nil ?_)
  (first | refine V_seq_region ?_ | refine V_seq (V_seq_region ?_) | refine V_seq_draw tmix (by kernel_rfl) ?_ | refine V_seq (V_seq_draw tmix (by kernel_rfl) ?_) | refine V_region ?_ | refine V_draw tmix (by kernel_rfl) ?_)
  repeat refine VO_d ?_
  refine VO_make rfl rfl TE.h TI.h TZ.h rfl zu_Binding (by omega) (by omega) (by rw [big_eq]; omega) (by omega) rfl (by simp only [List.length_nil, List.length_cons, List.nil_append, List.cons_append, List.set_cons_zero, List.set_cons_succ, List.take_zero, List.take_succ_cons, List.drop_zero, List.drop_succ_cons, Nat.reduceAdd, Nat.zero_add] <;> rfl) (by simp only [List.length_nil, List.length_cons, List.nil_append, List.cons_append, List.set_cons_zero, List.set_cons_succ, List.take_zero, List.take_succ_cons, List.drop_zero, List.drop_succ_cons, Nat.reduceAdd, Nat.zero_add] <;> rfl) ?_
  repeat refine VO_d ?_
  (first | refine VO_nil ?_ | refine VQ_nil ?_)
  rw [Int.toNat_natCast, fillU_zero]
  (first | refine V_seq_region ?_ | refine V_seq (V_seq_region ?_) | refine V_seq_draw tmix (by kernel_rfl) ?_ | refine V_seq (V_seq_draw tmix (by kernel_rfl) ?_) | refine V_region ?_ | refine V_draw tmix (by kernel_rfl) ?_)
  repeat refine VO_d ?_
  (first | refine VO_nil ?_ | refine VQ_nil ?_)
  refine V_block ?_
  refine V_loop (α := Nat)
    (fun k => ⟨[(0, .d (.sl 4 us)), (3, .sl 0 0), (4, .d (.i .i64 k))], [.arr 96 4 0 (fillU us (.st [.s [], .st [.i .i64 0, .s [], .sl 3 []]]) k)], Try.f19.ntmps⟩)
    (fun k => k ≤ us.length)
    (fun k => us.length - k) 0 ⟨rfl, ⟨⟨rfl, rfl⟩, ⟨rfl, rfl⟩, ⟨rfl, rfl⟩, trivial⟩, ⟨[], rfl⟩, rfl⟩ (by simp) ?_
  intro k hk
  (first | refine V_seq_region ?_ | refine V_seq (V_seq_region ?_) | refine V_seq_draw tmix (by kernel_rfl) ?_ | refine V_seq (V_seq_draw tmix (by kernel_rfl) ?_) | refine V_region ?_ | refine V_draw tmix (by kernel_rfl) ?_)
  repeat refine VO_d ?_
  (first | refine VO_nil ?_ | refine VQ_nil ?_)
  refine V_cond rfl (fun hc2 => ?_) (fun hc2 => ?_)
  · refine V_skip ?_
    simp only [decide_eq_true_eq] at hc2
    have hkl : k < us.length := by omega
    have hget : us[k]? = some us[k] := List.getElem?_eq_getElem hkl
    have hmem : us[k] ∈ us := List.getElem_mem hkl
    have hwk := W_le_of_mem hmem
    have hfl : (fillU us (.st [.s [], .st [.i .i64 0, .s [], .sl 3 []]]) k).length = us.length := fillU_length hk
    obtain ⟨hst, hsz⟩ := hz _ hmem
    refine V_seq (V_block ?_)
    (first | refine V_seq_region ?_ | refine V_seq (V_seq_region ?_) | refine V_seq_draw tmix (by kernel_rfl) ?_ | refine V_seq (V_seq_draw tmix (by kernel_rfl) ?_) | refine V_region ?_ | refine V_draw tmix (by kernel_rfl) ?_)
    repeat refine VO_d ?_
    refine VO_q (Q_index rfl rfl TE.h TI.h (by omega) hget) rfl ?_
    refine VO_q (Q_load rfl TI.h hst hsz) rfl ?_
    refine VO_q (Q_call rfl (ih _ hmem (by omega)) (by (repeat (first | exact trivial | exact rfl | exact ⟨_, rfl⟩ | refine And.intro ?_ ?_)); first | done | fail)) rfl ?_
    refine VO_q (Q_index_arr rfl rfl rfl TE.h TI.h (by omega) (by omega)) rfl ?_
    refine VO_store_ep rfl rfl (by exact rfl) TI.h hsz (by omega) (by simp only [List.length_nil, List.length_cons, List.nil_append, List.cons_append, List.set_cons_zero, List.set_cons_succ, List.take_zero, List.take_succ_cons, List.drop_zero, List.drop_succ_cons, Nat.reduceAdd, Nat.zero_add] <;> rfl) ?_
    (first | refine VO_nil ?_ | refine VQ_nil ?_)
    (first | refine V_seq_region ?_ | refine V_seq (V_seq_region ?_) | refine V_seq_draw tmix (by kernel_rfl) ?_ | refine V_seq (V_seq_draw tmix (by kernel_rfl) ?_) | refine V_region ?_ | refine V_draw tmix (by kernel_rfl) ?_)
    repeat refine VO_d ?_
    (first | refine VO_nil ?_ | refine VQ_nil ?_)
    refine ⟨k + 1, by omega, by omega, ⟨rfl, ⟨⟨rfl, rfl⟩, ⟨rfl, rfl⟩, ⟨rfl, rfl⟩, trivial⟩, ⟨[], ?_⟩, rfl⟩⟩
    rw [Int.toNat_natCast, fillU_set hget]
    rfl
  · refine V_exit ?_
    simp only [decide_eq_false_iff_not] at hc2
    have hkl : k = us.length := by omega
    subst hkl
    rw [fillU_all]
    show V _ _ _ _ _
    (first | refine V_seq_region ?_ | refine V_seq (V_seq_region ?_) | refine V_seq_draw tmix (by kernel_rfl) ?_ | refine V_seq (V_seq_draw tmix (by kernel_rfl) ?_) | refine V_region ?_ | refine V_draw tmix (by kernel_rfl) ?_)
    repeat refine VO_d ?_
    (first | refine VO_nil ?_ | refine VQ_nil ?_)
    refine V_freeze 0 rfl (by simp only [List.length_nil, List.length_cons, List.nil_append, List.cons_append, List.set_cons_zero, List.set_cons_succ, List.take_zero, List.take_succ_cons, List.drop_zero, List.drop_succ_cons, Nat.reduceAdd, Nat.zero_add] <;> rfl) ?_
    refine V_ret ?_
    exact ⟨trivial, ⟨_, rfl, _, rfl⟩, trivial⟩

theorem toBinding_grp (u : U) : (wt (.st 2) u → PTo 51 u) := by
  refine U.ind (M := fun u => (wt (.st 2) u → PTo 51 u)) (fun u ih => ?_) u
  refine ?_
  · intro h
    obtain ⟨f0, f1, rfl, p0, p1⟩ := inv_Binding h
    exact toBinding_step p0 p1 (toType_all p1)
theorem toBinding_all {u : U} (h : wt (.st 2) u) : PTo 51 u := (toBinding_grp u) h
theorem toBindingS_all {us : List U} (h : us.length ≤ big ∧ ∀ x ∈ us, wt (.st 2) x) : PTo 19 (.sl 4 us) := toBindingS_step (fun a ha => ⟨wt_isSt (h.2 a ha), by rw [wt_sz a _ (h.2 a ha)]; rfl⟩) (fun a ha => toBinding_all (h.2 a ha))
theorem toInstanceRef_step {f0 : Int} {f1 : Int}  : PTo 109 (.st [.i .i64 f0, .i .i64 f1]) := by
  intro hw
  have hW : W (.st [.i .i64 f0, .i .i64 f1]) = 0 + (0 + 0) := rfl
  clear hW hw
  refine SpecP_intro Try.func109 rfl (by kernel_rfl) rfl fun A _ => ?_
  (first | refine V_seq_region ?_ | refine V_seq (V_seq_region ?_) | refine V_seq_draw tmix (by kernel_rfl) ?_ | refine V_seq (V_seq_draw tmix (by kernel_rfl) ?_) | refine V_region ?_ | refine V_draw tmix (by kernel_rfl) ?_)
  repeat refine VO_d ?_
  (first | refine VO_nil ?_ | refine VQ_nil ?_)
  (first | refine V_seq_region ?_ | refine V_seq (V_seq_region ?_) | refine V_seq_draw tmix (by kernel_rfl) ?_ | refine V_seq (V_seq_draw tmix (by kernel_rfl) ?_) | refine V_region ?_ | refine V_draw tmix (by kernel_rfl) ?_)
  repeat refine VO_d ?_
  (first | refine VO_nil ?_ | refine VQ_nil ?_)
  (first | refine V_seq_region ?_ | refine V_seq (V_seq_region ?_) | refine V_seq_draw tmix (by kernel_rfl) ?_ | refine V_seq (V_seq_draw tmix (by kernel_rfl) ?_) | refine V_region ?_ | refine V_draw tmix (by kernel_rfl) ?_)
  repeat refine VO_d ?_
  (first | refine VO_nil ?_ | refine VQ_nil ?_)
  (first | refine V_seq_region ?_ | refine V_seq (V_seq_region ?_) | refine V_seq_draw tmix (by kernel_rfl) ?_ | refine V_seq (V_seq_draw tmix (by kernel_rfl) ?_) | refine V_region ?_ | refine V_draw tmix (by kernel_rfl) ?_)
  repeat refine VO_d ?_
  (first | refine VO_nil ?_ | refine VQ_nil ?_)
  (first | refine V_seq_region ?_ | refine V_seq (V_seq_region ?_) | refine V_seq_draw tmix (by kernel_rfl) ?_ | refine V_seq (V_seq_draw tmix (by kernel_rfl) ?_) | refine V_region ?_ | refine V_draw tmix (by kernel_rfl) ?_)
  repeat refine VO_d ?_
  (first | refine VO_nil ?_ | refine VQ_nil ?_)
  refine V_ret ?_
  exact ⟨trivial, ⟨_, ResV_ag rfl rfl TI.h rfl rfl, (by (repeat (first | exact trivial | exact rfl | exact ⟨_, rfl⟩ | refine And.intro ?_ ?_)); first | done | fail)⟩, trivial⟩

theorem toInstanceRef_grp (u : U) : (wt (.st 16) u → PTo 109 u) := by
  refine U.ind (M := fun u => (wt (.st 16) u → PTo 109 u)) (fun u ih => ?_) u
  refine ?_
  · intro h
    obtain ⟨f0, f1, rfl, p0, p1⟩ := inv_InstanceRef h
    exact toInstanceRef_step 
theorem toInstanceRef_all {u : U} (h : wt (.st 16) u) : PTo 109 u := (toInstanceRef_grp u) h
theorem toEvidence_step {f0 : Int} {f1 : Int} {f2 : U} {f3 : List U} (g2 : wt (.st 16) f2) (h2 : PTo 109 f2) (h3 : PTo 52 (.sl 5 f3)) : PTo 90 (.st [.i .i64 f0, .i .i64 f1, f2, .sl 5 f3]) := by
  intro hw
  have hW : W (.st [.i .i64 f0, .i .i64 f1, f2, .sl 5 f3]) = 0 + (0 + (W f2 + (W (U.sl 5 f3) + 0))) := rfl
  have c2 := h2 (by omega)
  clear h2
  have c3 := h3 (by omega)
  clear h3
  clear hW hw
  obtain ⟨e7_0, e7_1, rfl, g7_0, g7_1⟩ := inv_InstanceRef g2
  refine SpecP_intro Try.func90 rfl (by kernel_rfl) rfl fun A _ => ?_
  (first | refine V_seq_region ?_ | refine V_seq (V_seq_region ?_) | refine V_seq_draw tmix (by kernel_rfl) ?_ | refine V_seq (V_seq_draw tmix (by kernel_rfl) ?_) | refine V_region ?_ | refine V_draw tmix (by kernel_rfl) ?_)
  repeat refine VO_d ?_
  (first | refine VO_nil ?_ | refine VQ_nil ?_)
  (first | refine V_seq_region ?_ | refine V_seq (V_seq_region ?_) | refine V_seq_draw tmix (by kernel_rfl) ?_ | refine V_seq (V_seq_draw tmix (by kernel_rfl) ?_) | refine V_region ?_ | refine V_draw tmix (by kernel_rfl) ?_)
  repeat refine VO_d ?_
  (first | refine VO_nil ?_ | refine VQ_nil ?_)
  (first | refine V_seq_region ?_ | refine V_seq (V_seq_region ?_) | refine V_seq_draw tmix (by kernel_rfl) ?_ | refine V_seq (V_seq_draw tmix (by kernel_rfl) ?_) | refine V_region ?_ | refine V_draw tmix (by kernel_rfl) ?_)
  repeat refine VO_d ?_
  (first | refine VO_nil ?_ | refine VQ_nil ?_)
  (first | refine V_seq_region ?_ | refine V_seq (V_seq_region ?_) | refine V_seq_draw tmix (by kernel_rfl) ?_ | refine V_seq (V_seq_draw tmix (by kernel_rfl) ?_) | refine V_region ?_ | refine V_draw tmix (by kernel_rfl) ?_)
  repeat refine VO_d ?_
  (first | refine VO_nil ?_ | refine VQ_nil ?_)
  (first | refine V_seq_region ?_ | refine V_seq (V_seq_region ?_) | refine V_seq_draw tmix (by kernel_rfl) ?_ | refine V_seq (V_seq_draw tmix (by kernel_rfl) ?_) | refine V_region ?_ | refine V_draw tmix (by kernel_rfl) ?_)
  repeat refine VO_d ?_
  (first | refine VO_q (Q_call rfl c2 (by (repeat (first | exact trivial | exact rfl | exact ⟨_, rfl⟩ | refine And.intro ?_ ?_)); first | done | fail)) rfl ?_ | refine VQ_q (Q_call rfl c2 (by (repeat (first | exact trivial | exact rfl | exact ⟨_, rfl⟩ | refine And.intro ?_ ?_)); first | done | fail)) rfl ?_ | (refine VO_bare rfl rfl rfl rfl ?_; refine VO_q (Q_call rfl c2 (by (repeat (first | exact trivial | exact rfl | exact ⟨_, rfl⟩ | refine And.intro ?_ ?_)); first | done | fail)) rfl ?_) | refine VQ_run rfl rfl rfl rfl (Q_call rfl c2 (by (repeat (first | exact trivial | exact rfl | exact ⟨_, rfl⟩ | refine And.intro ?_ ?_)); first | done | fail)) rfl ?_)
  repeat refine VO_d ?_
  (first | refine VO_nil ?_ | refine VQ_nil ?_)
  (first | refine V_seq_region ?_ | refine V_seq (V_seq_region ?_) | refine V_seq_draw tmix (by kernel_rfl) ?_ | refine V_seq (V_seq_draw tmix (by kernel_rfl) ?_) | refine V_region ?_ | refine V_draw tmix (by kernel_rfl) ?_)
  repeat refine VO_d ?_
  (first | refine VO_q (Q_call rfl c3 (by (repeat (first | exact trivial | exact rfl | exact ⟨_, rfl⟩ | refine And.intro ?_ ?_)); first | done | fail)) rfl ?_ | refine VQ_q (Q_call rfl c3 (by (repeat (first | exact trivial | exact rfl | exact ⟨_, rfl⟩ | refine And.intro ?_ ?_)); first | done | fail)) rfl ?_ | (refine VO_bare rfl rfl rfl rfl ?_; refine VO_q (Q_call rfl c3 (by (repeat (first | exact trivial | exact rfl | exact ⟨_, rfl⟩ | refine And.intro ?_ ?_)); first | done | fail)) rfl ?_) | refine VQ_run rfl rfl rfl rfl (Q_call rfl c3 (by (repeat (first | exact trivial | exact rfl | exact ⟨_, rfl⟩ | refine And.intro ?_ ?_)); first | done | fail)) rfl ?_)
  repeat refine VO_d ?_
  (first | refine VO_nil ?_ | refine VQ_nil ?_)
  (first | refine V_seq_region ?_ | refine V_seq (V_seq_region ?_) | refine V_seq_draw tmix (by kernel_rfl) ?_ | refine V_seq (V_seq_draw tmix (by kernel_rfl) ?_) | refine V_region ?_ | refine V_draw tmix (by kernel_rfl) ?_)
  repeat refine VO_d ?_
  (first | refine VO_nil ?_ | refine VQ_nil ?_)
  refine V_ret ?_
  exact ⟨trivial, ⟨_, ResV_ag rfl rfl TI.h rfl rfl, (by (repeat (first | exact trivial | exact rfl | exact ⟨_, rfl⟩ | refine And.intro ?_ ?_)); first | done | fail)⟩, trivial⟩

theorem zu_Evidence : ZeroU (.st [.i .i64 0, .i .i64 0, .st [.i .i64 0, .i .i64 0], .sl 5 []]) [.int .i64 0, .int .i64 0, .int .i64 0, .int .i64 0, .slice none 0 0] := fun S w => Rd.of_leafs _ _ (And.intro zI (And.intro zI (And.intro zI (And.intro zI (And.intro zL (trivial))))))
theorem toEvidenceS_step {us : List U} (hz : ∀ a ∈ us, a.isSt = true ∧ a.sz = 5) (ih : ∀ a ∈ us, PTo 90 a) : PTo 52 (.sl 5 us) := by
  intro hw
  have hW : W (.sl 5 us) = us.length + Ws us := rfl
  refine SpecP_intro Try.func52 rfl (by kernel_rfl) rfl fun A _ => ?_
  (first | refine V_seq_region ?_ | refine V_seq (V_seq_region ?_) | refine V_seq_draw tmix (by kernel_rfl) ?_ | refine V_seq (V_seq_draw tmix (by kernel_rfl) ?_) | refine V_region ?_ | refine V_draw tmix (by kernel_rfl) ?_)
  repeat refine VO_d ?_
  (first | refine VO_nil ?_ | refine VQ_nil ?_)
  (first | refine V_seq_region ?_ | refine V_seq (V_seq_region ?_) | refine V_seq_draw tmix (by kernel_rfl) ?_ | refine V_seq (V_seq_draw tmix (by kernel_rfl) ?_) | refine V_region ?_ | refine V_draw tmix (by kernel_rfl) ?_)
  repeat refine VO_d ?_
  refine VO_make rfl rfl TE.h TI.h TZ.h rfl zu_Evidence (by omega) (by omega) (by rw [big_eq]; omega) (by omega) rfl (by simp only [List.length_nil, List.length_cons, List.nil_append, List.cons_append, List.set_cons_zero, List.set_cons_succ, List.take_zero, List.take_succ_cons, List.drop_zero, List.drop_succ_cons, Nat.reduceAdd, Nat.zero_add] <;> rfl) (by simp only [List.length_nil, List.length_cons, List.nil_append, List.cons_append, List.set_cons_zero, List.set_cons_succ, List.take_zero, List.take_succ_cons, List.drop_zero, List.drop_succ_cons, Nat.reduceAdd, Nat.zero_add] <;> rfl) ?_
  repeat refine VO_d ?_
  (first | refine VO_nil ?_ | refine VQ_nil ?_)
  rw [Int.toNat_natCast, fillU_zero]
  (first | refine V_seq_region ?_ | refine V_seq (V_seq_region ?_) | refine V_seq_draw tmix (by kernel_rfl) ?_ | refine V_seq (V_seq_draw tmix (by kernel_rfl) ?_) | refine V_region ?_ | refine V_draw tmix (by kernel_rfl) ?_)
  repeat refine VO_d ?_
  (first | refine VO_nil ?_ | refine VQ_nil ?_)
  refine V_block ?_
  refine V_loop (α := Nat)
    (fun k => ⟨[(0, .d (.sl 5 us)), (3, .sl 0 0), (4, .d (.i .i64 k))], [.arr 149 5 0 (fillU us (.st [.i .i64 0, .i .i64 0, .st [.i .i64 0, .i .i64 0], .sl 5 []]) k)], Try.f52.ntmps⟩)
    (fun k => k ≤ us.length)
    (fun k => us.length - k) 0 ⟨rfl, ⟨⟨rfl, rfl⟩, ⟨rfl, rfl⟩, ⟨rfl, rfl⟩, trivial⟩, ⟨[], rfl⟩, rfl⟩ (by simp) ?_
  intro k hk
  (first | refine V_seq_region ?_ | refine V_seq (V_seq_region ?_) | refine V_seq_draw tmix (by kernel_rfl) ?_ | refine V_seq (V_seq_draw tmix (by kernel_rfl) ?_) | refine V_region ?_ | refine V_draw tmix (by kernel_rfl) ?_)
  repeat refine VO_d ?_
  (first | refine VO_nil ?_ | refine VQ_nil ?_)
  refine V_cond rfl (fun hc2 => ?_) (fun hc2 => ?_)
  · refine V_skip ?_
    simp only [decide_eq_true_eq] at hc2
    have hkl : k < us.length := by omega
    have hget : us[k]? = some us[k] := List.getElem?_eq_getElem hkl
    have hmem : us[k] ∈ us := List.getElem_mem hkl
    have hwk := W_le_of_mem hmem
    have hfl : (fillU us (.st [.i .i64 0, .i .i64 0, .st [.i .i64 0, .i .i64 0], .sl 5 []]) k).length = us.length := fillU_length hk
    obtain ⟨hst, hsz⟩ := hz _ hmem
    refine V_seq (V_block ?_)
    (first | refine V_seq_region ?_ | refine V_seq (V_seq_region ?_) | refine V_seq_draw tmix (by kernel_rfl) ?_ | refine V_seq (V_seq_draw tmix (by kernel_rfl) ?_) | refine V_region ?_ | refine V_draw tmix (by kernel_rfl) ?_)
    repeat refine VO_d ?_
    refine VO_q (Q_index rfl rfl TE.h TI.h (by omega) hget) rfl ?_
    refine VO_q (Q_load rfl TI.h hst hsz) rfl ?_
    refine VO_q (Q_call rfl (ih _ hmem (by omega)) (by (repeat (first | exact trivial | exact rfl | exact ⟨_, rfl⟩ | refine And.intro ?_ ?_)); first | done | fail)) rfl ?_
    refine VO_q (Q_index_arr rfl rfl rfl TE.h TI.h (by omega) (by omega)) rfl ?_
    refine VO_store_ep rfl rfl (by exact rfl) TI.h hsz (by omega) (by simp only [List.length_nil, List.length_cons, List.nil_append, List.cons_append, List.set_cons_zero, List.set_cons_succ, List.take_zero, List.take_succ_cons, List.drop_zero, List.drop_succ_cons, Nat.reduceAdd, Nat.zero_add] <;> rfl) ?_
    (first | refine VO_nil ?_ | refine VQ_nil ?_)
    (first | refine V_seq_region ?_ | refine V_seq (V_seq_region ?_) | refine V_seq_draw tmix (by kernel_rfl) ?_ | refine V_seq (V_seq_draw tmix (by kernel_rfl) ?_) | refine V_region ?_ | refine V_draw tmix (by kernel_rfl) ?_)
    repeat refine VO_d ?_
    (first | refine VO_nil ?_ | refine VQ_nil ?_)
    refine ⟨k + 1, by omega, by omega, ⟨rfl, ⟨⟨rfl, rfl⟩, ⟨rfl, rfl⟩, ⟨rfl, rfl⟩, trivial⟩, ⟨[], ?_⟩, rfl⟩⟩
    rw [Int.toNat_natCast, fillU_set hget]
    rfl
  · refine V_exit ?_
    simp only [decide_eq_false_iff_not] at hc2
    have hkl : k = us.length := by omega
    subst hkl
    rw [fillU_all]
    show V _ _ _ _ _
    (first | refine V_seq_region ?_ | refine V_seq (V_seq_region ?_) | refine V_seq_draw tmix (by kernel_rfl) ?_ | refine V_seq (V_seq_draw tmix (by kernel_rfl) ?_) | refine V_region ?_ | refine V_draw tmix (by kernel_rfl) ?_)
    repeat refine VO_d ?_
    (first | refine VO_nil ?_ | refine VQ_nil ?_)
    refine V_freeze 0 rfl (by simp only [List.length_nil, List.length_cons, List.nil_append, List.cons_append, List.set_cons_zero, List.set_cons_succ, List.take_zero, List.take_succ_cons, List.drop_zero, List.drop_succ_cons, Nat.reduceAdd, Nat.zero_add] <;> rfl) ?_
    refine V_ret ?_
    exact ⟨trivial, ⟨_, rfl, _, rfl⟩, trivial⟩

theorem toEvidence_grp (u : U) : (wt (.st 18) u → PTo 90 u) := by
  refine U.ind (M := fun u => (wt (.st 18) u → PTo 90 u)) (fun u ih => ?_) u
  refine ?_
  · intro h
    obtain ⟨f0, f1, f2, f3, rfl, p0, p1, p2, p3⟩ := inv_Evidence h
    exact toEvidence_step p2 (toInstanceRef_all p2) (toEvidenceS_step (fun a ha => ⟨wt_isSt (p3.2 a ha), by rw [wt_sz a _ (p3.2 a ha)]; rfl⟩) (fun a ha => (ih a (by have := nn_of_mem ha; simp only [U.nn, U.nns]; omega)) (p3.2 a ha)))
theorem toEvidence_all {u : U} (h : wt (.st 18) u) : PTo 90 u := (toEvidence_grp u) h
theorem toEvidenceS_all {us : List U} (h : us.length ≤ big ∧ ∀ x ∈ us, wt (.st 18) x) : PTo 52 (.sl 5 us) := toEvidenceS_step (fun a ha => ⟨wt_isSt (h.2 a ha), by rw [wt_sz a _ (h.2 a ha)]; rfl⟩) (fun a ha => toEvidence_all (h.2 a ha))
theorem zu_String : ZeroU (.s []) [.string ⟨#[]⟩] := fun S w => Rd.of_leafs _ _ (And.intro zS (trivial))
theorem toStringS_step {us : List U} (hz : ∀ a ∈ us, ∃ l : List UInt8, a = .s l ∧ l.length ≤ big) : PTo 110 (.sl 1 us) := by
  intro hw
  have hW : W (.sl 1 us) = us.length + Ws us := rfl
  refine SpecP_intro Try.func110 rfl (by kernel_rfl) rfl fun A _ => ?_
  (first | refine V_seq_region ?_ | refine V_seq (V_seq_region ?_) | refine V_seq_draw tmix (by kernel_rfl) ?_ | refine V_seq (V_seq_draw tmix (by kernel_rfl) ?_) | refine V_region ?_ | refine V_draw tmix (by kernel_rfl) ?_)
  repeat refine VO_d ?_
  (first | refine VO_nil ?_ | refine VQ_nil ?_)
  (first | refine V_seq_region ?_ | refine V_seq (V_seq_region ?_) | refine V_seq_draw tmix (by kernel_rfl) ?_ | refine V_seq (V_seq_draw tmix (by kernel_rfl) ?_) | refine V_region ?_ | refine V_draw tmix (by kernel_rfl) ?_)
  repeat refine VO_d ?_
  refine VO_make rfl rfl TE.h TI.h TZ.h rfl zu_String (by omega) (by omega) (by rw [big_eq]; omega) (by omega) rfl (by simp only [List.length_nil, List.length_cons, List.nil_append, List.cons_append, List.set_cons_zero, List.set_cons_succ, List.take_zero, List.take_succ_cons, List.drop_zero, List.drop_succ_cons, Nat.reduceAdd, Nat.zero_add] <;> rfl) (by simp only [List.length_nil, List.length_cons, List.nil_append, List.cons_append, List.set_cons_zero, List.set_cons_succ, List.take_zero, List.take_succ_cons, List.drop_zero, List.drop_succ_cons, Nat.reduceAdd, Nat.zero_add] <;> rfl) ?_
  repeat refine VO_d ?_
  (first | refine VO_nil ?_ | refine VQ_nil ?_)
  rw [Int.toNat_natCast, fillU_zero]
  (first | refine V_seq_region ?_ | refine V_seq (V_seq_region ?_) | refine V_seq_draw tmix (by kernel_rfl) ?_ | refine V_seq (V_seq_draw tmix (by kernel_rfl) ?_) | refine V_region ?_ | refine V_draw tmix (by kernel_rfl) ?_)
  repeat refine VO_d ?_
  (first | refine VO_nil ?_ | refine VQ_nil ?_)
  refine V_block ?_
  refine V_loop (α := Nat)
    (fun k => ⟨[(0, .d (.sl 1 us)), (3, .sl 0 0), (4, .d (.i .i64 k))], [.arr 9 1 0 (fillU us (.s []) k)], Try.f110.ntmps⟩)
    (fun k => k ≤ us.length)
    (fun k => us.length - k) 0 ⟨rfl, ⟨⟨rfl, rfl⟩, ⟨rfl, rfl⟩, ⟨rfl, rfl⟩, trivial⟩, ⟨[], rfl⟩, rfl⟩ (by simp) ?_
  intro k hk
  (first | refine V_seq_region ?_ | refine V_seq (V_seq_region ?_) | refine V_seq_draw tmix (by kernel_rfl) ?_ | refine V_seq (V_seq_draw tmix (by kernel_rfl) ?_) | refine V_region ?_ | refine V_draw tmix (by kernel_rfl) ?_)
  repeat refine VO_d ?_
  (first | refine VO_nil ?_ | refine VQ_nil ?_)
  refine V_cond rfl (fun hc2 => ?_) (fun hc2 => ?_)
  · refine V_skip ?_
    simp only [decide_eq_true_eq] at hc2
    have hkl : k < us.length := by omega
    have hget : us[k]? = some us[k] := List.getElem?_eq_getElem hkl
    have hmem : us[k] ∈ us := List.getElem_mem hkl
    have hwk := W_le_of_mem hmem
    have hfl : (fillU us (.s []) k).length = us.length := fillU_length hk
    obtain ⟨sl, hsl, hsb⟩ := hz _ hmem
    have hget2 : us[k]? = some (.s sl) := by rw [hget, hsl]
    refine V_seq (V_block ?_)
    (first | refine V_seq_region ?_ | refine V_seq (V_seq_region ?_) | refine V_seq_draw tmix (by kernel_rfl) ?_ | refine V_seq (V_seq_draw tmix (by kernel_rfl) ?_) | refine V_region ?_ | refine V_draw tmix (by kernel_rfl) ?_)
    repeat (first | refine VO_d ?_ | refine VQ_d ?_)
    (first | refine VO_q (Q_index rfl rfl TE.h TI.h (by omega) hget2) rfl ?_ | refine VQ_q (Q_index rfl rfl TE.h TI.h (by omega) hget2) rfl ?_ | (refine VO_bare rfl rfl rfl rfl ?_; refine VO_q (Q_index rfl rfl TE.h TI.h (by omega) hget2) rfl ?_) | refine VQ_run rfl rfl rfl rfl (Q_index rfl rfl TE.h TI.h (by omega) hget2) rfl ?_)
    repeat (first | refine VO_d ?_ | refine VQ_d ?_)
    (first | refine VO_q (Q_index_arr rfl rfl rfl TE.h TI.h (by omega) (by omega)) rfl ?_ | refine VQ_q (Q_index_arr rfl rfl rfl TE.h TI.h (by omega) (by omega)) rfl ?_ | (refine VO_bare rfl rfl rfl rfl ?_; refine VO_q (Q_index_arr rfl rfl rfl TE.h TI.h (by omega) (by omega)) rfl ?_) | refine VQ_run rfl rfl rfl rfl (Q_index_arr rfl rfl rfl TE.h TI.h (by omega) (by omega)) rfl ?_)
    refine VO_store_ep rfl rfl (by exact rfl) TI.h rfl (by omega) (by simp only [List.length_nil, List.length_cons, List.nil_append, List.cons_append, List.set_cons_zero, List.set_cons_succ, List.take_zero, List.take_succ_cons, List.drop_zero, List.drop_succ_cons, Nat.reduceAdd, Nat.zero_add] <;> rfl) ?_
    rw [← hsl]
    (first | refine VO_nil ?_ | refine VQ_nil ?_)
    (first | refine V_seq_region ?_ | refine V_seq (V_seq_region ?_) | refine V_seq_draw tmix (by kernel_rfl) ?_ | refine V_seq (V_seq_draw tmix (by kernel_rfl) ?_) | refine V_region ?_ | refine V_draw tmix (by kernel_rfl) ?_)
    repeat refine VO_d ?_
    (first | refine VO_nil ?_ | refine VQ_nil ?_)
    refine ⟨k + 1, by omega, by omega, ⟨rfl, ⟨⟨rfl, rfl⟩, ⟨rfl, rfl⟩, ⟨rfl, rfl⟩, trivial⟩, ⟨[], ?_⟩, rfl⟩⟩
    rw [Int.toNat_natCast, fillU_set hget]
    rfl
  · refine V_exit ?_
    simp only [decide_eq_false_iff_not] at hc2
    have hkl : k = us.length := by omega
    subst hkl
    rw [fillU_all]
    show V _ _ _ _ _
    (first | refine V_seq_region ?_ | refine V_seq (V_seq_region ?_) | refine V_seq_draw tmix (by kernel_rfl) ?_ | refine V_seq (V_seq_draw tmix (by kernel_rfl) ?_) | refine V_region ?_ | refine V_draw tmix (by kernel_rfl) ?_)
    repeat refine VO_d ?_
    (first | refine VO_nil ?_ | refine VQ_nil ?_)
    refine V_freeze 0 rfl (by simp only [List.length_nil, List.length_cons, List.nil_append, List.cons_append, List.set_cons_zero, List.set_cons_succ, List.take_zero, List.take_succ_cons, List.drop_zero, List.drop_succ_cons, Nat.reduceAdd, Nat.zero_add] <;> rfl) ?_
    refine V_ret ?_
    exact ⟨trivial, ⟨_, rfl, _, rfl⟩, trivial⟩

theorem toStringS_all {us : List U} (h : us.length ≤ big ∧ ∀ x ∈ us, wt .str x) : PTo 110 (.sl 1 us) := toStringS_step (fun a ha => inv_str (h.2 a ha))
theorem toCoreArm_step {f0 : List UInt8} {f1 : List U} {f2 : U} (h0 : f0.length ≤ big) (h1 : PTo 110 (.sl 1 f1)) (g2 : wt (.st 21) f2) (h2 : PTo 20 f2) : PTo 91 (.st [.s f0, .sl 1 f1, f2]) := by
  intro hw
  have hW : W (.st [.s f0, .sl 1 f1, f2]) = f0.length + (W (U.sl 1 f1) + (W f2 + 0)) := rfl
  have c1 := h1 (by omega)
  clear h1
  have c2 := h2 (by omega)
  clear h2
  clear hW hw
  obtain ⟨e8_0, e8_1, e8_2, e8_3, e8_4, e8_5, e8_6, e8_7, e8_8, rfl, g8_0, g8_1, g8_2, g8_3, g8_4, g8_5, g8_6, g8_7, g8_8⟩ := inv_Core g2
  obtain ⟨e9_0, e9_1, e9_2, rfl, g9_0, g9_1, g9_2⟩ := inv_Type g8_4
  refine SpecP_intro Try.func91 rfl (by kernel_rfl) rfl fun A _ => ?_
  (first | refine V_seq_region ?_ | refine V_seq (V_seq_region ?_) | refine V_seq_draw tmix (by kernel_rfl) ?_ | refine V_seq (V_seq_draw tmix (by kernel_rfl) ?_) | refine V_region ?_ | refine V_draw tmix (by kernel_rfl) ?_)
  repeat refine VO_d ?_
  (first | refine VO_nil ?_ | refine VQ_nil ?_)
  (first | refine V_seq_region ?_ | refine V_seq (V_seq_region ?_) | refine V_seq_draw tmix (by kernel_rfl) ?_ | refine V_seq (V_seq_draw tmix (by kernel_rfl) ?_) | refine V_region ?_ | refine V_draw tmix (by kernel_rfl) ?_)
  repeat refine VO_d ?_
  (first | refine VO_nil ?_ | refine VQ_nil ?_)
  (first | refine V_seq_region ?_ | refine V_seq (V_seq_region ?_) | refine V_seq_draw tmix (by kernel_rfl) ?_ | refine V_seq (V_seq_draw tmix (by kernel_rfl) ?_) | refine V_region ?_ | refine V_draw tmix (by kernel_rfl) ?_)
  repeat refine VO_d ?_
  (first | refine VO_nil ?_ | refine VQ_nil ?_)
  (first | refine V_seq_region ?_ | refine V_seq (V_seq_region ?_) | refine V_seq_draw tmix (by kernel_rfl) ?_ | refine V_seq (V_seq_draw tmix (by kernel_rfl) ?_) | refine V_region ?_ | refine V_draw tmix (by kernel_rfl) ?_)
  repeat refine VO_d ?_
  (first | refine VO_q (Q_call rfl c1 (by (repeat (first | exact trivial | exact rfl | exact ⟨_, rfl⟩ | refine And.intro ?_ ?_)); first | done | fail)) rfl ?_ | refine VQ_q (Q_call rfl c1 (by (repeat (first | exact trivial | exact rfl | exact ⟨_, rfl⟩ | refine And.intro ?_ ?_)); first | done | fail)) rfl ?_ | (refine VO_bare rfl rfl rfl rfl ?_; refine VO_q (Q_call rfl c1 (by (repeat (first | exact trivial | exact rfl | exact ⟨_, rfl⟩ | refine And.intro ?_ ?_)); first | done | fail)) rfl ?_) | refine VQ_run rfl rfl rfl rfl (Q_call rfl c1 (by (repeat (first | exact trivial | exact rfl | exact ⟨_, rfl⟩ | refine And.intro ?_ ?_)); first | done | fail)) rfl ?_)
  repeat refine VO_d ?_
  (first | refine VO_nil ?_ | refine VQ_nil ?_)
  (first | refine V_seq_region ?_ | refine V_seq (V_seq_region ?_) | refine V_seq_draw tmix (by kernel_rfl) ?_ | refine V_seq (V_seq_draw tmix (by kernel_rfl) ?_) | refine V_region ?_ | refine V_draw tmix (by kernel_rfl) ?_)
  repeat refine VO_d ?_
  (first | refine VO_q (Q_call rfl c2 (by (repeat (first | exact trivial | exact rfl | exact ⟨_, rfl⟩ | refine And.intro ?_ ?_)); first | done | fail)) rfl ?_ | refine VQ_q (Q_call rfl c2 (by (repeat (first | exact trivial | exact rfl | exact ⟨_, rfl⟩ | refine And.intro ?_ ?_)); first | done | fail)) rfl ?_ | (refine VO_bare rfl rfl rfl rfl ?_; refine VO_q (Q_call rfl c2 (by (repeat (first | exact trivial | exact rfl | exact ⟨_, rfl⟩ | refine And.intro ?_ ?_)); first | done | fail)) rfl ?_) | refine VQ_run rfl rfl rfl rfl (Q_call rfl c2 (by (repeat (first | exact trivial | exact rfl | exact ⟨_, rfl⟩ | refine And.intro ?_ ?_)); first | done | fail)) rfl ?_)
  repeat refine VO_d ?_
  (first | refine VO_nil ?_ | refine VQ_nil ?_)
  (first | refine V_seq_region ?_ | refine V_seq (V_seq_region ?_) | refine V_seq_draw tmix (by kernel_rfl) ?_ | refine V_seq (V_seq_draw tmix (by kernel_rfl) ?_) | refine V_region ?_ | refine V_draw tmix (by kernel_rfl) ?_)
  repeat refine VO_d ?_
  (first | refine VO_nil ?_ | refine VQ_nil ?_)
  refine V_ret ?_
  exact ⟨trivial, ⟨_, ResV_ag rfl rfl TI.h rfl rfl, (by (repeat (first | exact trivial | exact rfl | exact ⟨_, rfl⟩ | refine And.intro ?_ ?_)); first | done | fail)⟩, trivial⟩

theorem zu_CoreArm : ZeroU (.st [.s [], .sl 1 [], .st [.i .i64 0, .s [], .s [], .i .i64 0, .st [.i .i64 0, .s [], .sl 3 []], .sl 3 [], .sl 5 [], .sl 11 [], .sl 13 []]]) [.string ⟨#[]⟩, .slice none 0 0, .int .i64 0, .string ⟨#[]⟩, .string ⟨#[]⟩, .int .i64 0, .int .i64 0, .string ⟨#[]⟩, .slice none 0 0, .slice none 0 0, .slice none 0 0, .slice none 0 0, .slice none 0 0] := fun S w => Rd.of_leafs _ _ (And.intro zS (And.intro zL (And.intro zI (And.intro zS (And.intro zS (And.intro zI (And.intro zI (And.intro zS (And.intro zL (And.intro zL (And.intro zL (And.intro zL (And.intro zL (trivial))))))))))))))
theorem toCoreArmS_step {us : List U} (hz : ∀ a ∈ us, a.isSt = true ∧ a.sz = 13) (ih : ∀ a ∈ us, PTo 91 a) : PTo 54 (.sl 13 us) := by
  intro hw
  have hW : W (.sl 13 us) = us.length + Ws us := rfl
  refine SpecP_intro Try.func54 rfl (by kernel_rfl) rfl fun A _ => ?_
  (first | refine V_seq_region ?_ | refine V_seq (V_seq_region ?_) | refine V_seq_draw tmix (by kernel_rfl) ?_ | refine V_seq (V_seq_draw tmix (by kernel_rfl) ?_) | refine V_region ?_ | refine V_draw tmix (by kernel_rfl) ?_)
  repeat refine VO_d ?_
  (first | refine VO_nil ?_ | refine VQ_nil ?_)
  (first | refine V_seq_region ?_ | refine V_seq (V_seq_region ?_) | refine V_seq_draw tmix (by kernel_rfl) ?_ | refine V_seq (V_seq_draw tmix (by kernel_rfl) ?_) | refine V_region ?_ | refine V_draw tmix (by kernel_rfl) ?_)
  repeat refine VO_d ?_
  refine VO_make rfl rfl TE.h TI.h TZ.h rfl zu_CoreArm (by omega) (by omega) (by rw [big_eq]; omega) (by omega) rfl (by simp only [List.length_nil, List.length_cons, List.nil_append, List.cons_append, List.set_cons_zero, List.set_cons_succ, List.take_zero, List.take_succ_cons, List.drop_zero, List.drop_succ_cons, Nat.reduceAdd, Nat.zero_add] <;> rfl) (by simp only [List.length_nil, List.length_cons, List.nil_append, List.cons_append, List.set_cons_zero, List.set_cons_succ, List.take_zero, List.take_succ_cons, List.drop_zero, List.drop_succ_cons, Nat.reduceAdd, Nat.zero_add] <;> rfl) ?_
  repeat refine VO_d ?_
  (first | refine VO_nil ?_ | refine VQ_nil ?_)
  rw [Int.toNat_natCast, fillU_zero]
  (first | refine V_seq_region ?_ | refine V_seq (V_seq_region ?_) | refine V_seq_draw tmix (by kernel_rfl) ?_ | refine V_seq (V_seq_draw tmix (by kernel_rfl) ?_) | refine V_region ?_ | refine V_draw tmix (by kernel_rfl) ?_)
  repeat refine VO_d ?_
  (first | refine VO_nil ?_ | refine VQ_nil ?_)
  refine V_block ?_
  refine V_loop (α := Nat)
    (fun k => ⟨[(0, .d (.sl 13 us)), (3, .sl 0 0), (4, .d (.i .i64 k))], [.arr 94 13 0 (fillU us (.st [.s [], .sl 1 [], .st [.i .i64 0, .s [], .s [], .i .i64 0, .st [.i .i64 0, .s [], .sl 3 []], .sl 3 [], .sl 5 [], .sl 11 [], .sl 13 []]]) k)], Try.f54.ntmps⟩)
    (fun k => k ≤ us.length)
    (fun k => us.length - k) 0 ⟨rfl, ⟨⟨rfl, rfl⟩, ⟨rfl, rfl⟩, ⟨rfl, rfl⟩, trivial⟩, ⟨[], rfl⟩, rfl⟩ (by simp) ?_
  intro k hk
  (first | refine V_seq_region ?_ | refine V_seq (V_seq_region ?_) | refine V_seq_draw tmix (by kernel_rfl) ?_ | refine V_seq (V_seq_draw tmix (by kernel_rfl) ?_) | refine V_region ?_ | refine V_draw tmix (by kernel_rfl) ?_)
  repeat refine VO_d ?_
  (first | refine VO_nil ?_ | refine VQ_nil ?_)
  refine V_cond rfl (fun hc2 => ?_) (fun hc2 => ?_)
  · refine V_skip ?_
    simp only [decide_eq_true_eq] at hc2
    have hkl : k < us.length := by omega
    have hget : us[k]? = some us[k] := List.getElem?_eq_getElem hkl
    have hmem : us[k] ∈ us := List.getElem_mem hkl
    have hwk := W_le_of_mem hmem
    have hfl : (fillU us (.st [.s [], .sl 1 [], .st [.i .i64 0, .s [], .s [], .i .i64 0, .st [.i .i64 0, .s [], .sl 3 []], .sl 3 [], .sl 5 [], .sl 11 [], .sl 13 []]]) k).length = us.length := fillU_length hk
    obtain ⟨hst, hsz⟩ := hz _ hmem
    refine V_seq (V_block ?_)
    (first | refine V_seq_region ?_ | refine V_seq (V_seq_region ?_) | refine V_seq_draw tmix (by kernel_rfl) ?_ | refine V_seq (V_seq_draw tmix (by kernel_rfl) ?_) | refine V_region ?_ | refine V_draw tmix (by kernel_rfl) ?_)
    repeat refine VO_d ?_
    refine VO_q (Q_index rfl rfl TE.h TI.h (by omega) hget) rfl ?_
    refine VO_q (Q_load rfl TI.h hst hsz) rfl ?_
    refine VO_q (Q_call rfl (ih _ hmem (by omega)) (by (repeat (first | exact trivial | exact rfl | exact ⟨_, rfl⟩ | refine And.intro ?_ ?_)); first | done | fail)) rfl ?_
    refine VO_q (Q_index_arr rfl rfl rfl TE.h TI.h (by omega) (by omega)) rfl ?_
    refine VO_store_ep rfl rfl (by exact rfl) TI.h hsz (by omega) (by simp only [List.length_nil, List.length_cons, List.nil_append, List.cons_append, List.set_cons_zero, List.set_cons_succ, List.take_zero, List.take_succ_cons, List.drop_zero, List.drop_succ_cons, Nat.reduceAdd, Nat.zero_add] <;> rfl) ?_
    (first | refine VO_nil ?_ | refine VQ_nil ?_)
    (first | refine V_seq_region ?_ | refine V_seq (V_seq_region ?_) | refine V_seq_draw tmix (by kernel_rfl) ?_ | refine V_seq (V_seq_draw tmix (by kernel_rfl) ?_) | refine V_region ?_ | refine V_draw tmix (by kernel_rfl) ?_)
    repeat refine VO_d ?_
    (first | refine VO_nil ?_ | refine VQ_nil ?_)
    refine ⟨k + 1, by omega, by omega, ⟨rfl, ⟨⟨rfl, rfl⟩, ⟨rfl, rfl⟩, ⟨rfl, rfl⟩, trivial⟩, ⟨[], ?_⟩, rfl⟩⟩
    rw [Int.toNat_natCast, fillU_set hget]
    rfl
  · refine V_exit ?_
    simp only [decide_eq_false_iff_not] at hc2
    have hkl : k = us.length := by omega
    subst hkl
    rw [fillU_all]
    show V _ _ _ _ _
    (first | refine V_seq_region ?_ | refine V_seq (V_seq_region ?_) | refine V_seq_draw tmix (by kernel_rfl) ?_ | refine V_seq (V_seq_draw tmix (by kernel_rfl) ?_) | refine V_region ?_ | refine V_draw tmix (by kernel_rfl) ?_)
    repeat refine VO_d ?_
    (first | refine VO_nil ?_ | refine VQ_nil ?_)
    refine V_freeze 0 rfl (by simp only [List.length_nil, List.length_cons, List.nil_append, List.cons_append, List.set_cons_zero, List.set_cons_succ, List.take_zero, List.take_succ_cons, List.drop_zero, List.drop_succ_cons, Nat.reduceAdd, Nat.zero_add] <;> rfl) ?_
    refine V_ret ?_
    exact ⟨trivial, ⟨_, rfl, _, rfl⟩, trivial⟩

theorem toCore_step {f0 : Int} {f1 : List UInt8} {f2 : List UInt8} {f3 : Int} {f4 : U} {f5 : List U} {f6 : List U} {f7 : List U} {f8 : List U} (h1 : f1.length ≤ big) (h2 : f2.length ≤ big) (g4 : wt (.st 1) f4) (h4 : PTo 9 f4) (h5 : PTo 36 (.sl 3 f5)) (h6 : PTo 52 (.sl 5 f6)) (h7 : PTo 53 (.sl 11 f7)) (h8 : PTo 54 (.sl 13 f8)) : PTo 20 (.st [.i .i64 f0, .s f1, .s f2, .i .i64 f3, f4, .sl 3 f5, .sl 5 f6, .sl 11 f7, .sl 13 f8]) := by
  intro hw
  have hW : W (.st [.i .i64 f0, .s f1, .s f2, .i .i64 f3, f4, .sl 3 f5, .sl 5 f6, .sl 11 f7, .sl 13 f8]) = 0 + (f1.length + (f2.length + (0 + (W f4 + (W (U.sl 3 f5) + (W (U.sl 5 f6) + (W (U.sl 11 f7) + (W (U.sl 13 f8) + 0)))))))) := rfl
  have c4 := h4 (by omega)
  clear h4
  have c5 := h5 (by omega)
  clear h5
  have c6 := h6 (by omega)
  clear h6
  have c7 := h7 (by omega)
  clear h7
  have c8 := h8 (by omega)
  clear h8
  clear hW hw
  obtain ⟨e10_0, e10_1, e10_2, rfl, g10_0, g10_1, g10_2⟩ := inv_Type g4
  refine SpecP_intro Try.func20 rfl (by kernel_rfl) rfl fun A _ => ?_
  (first | refine V_seq_region ?_ | refine V_seq (V_seq_region ?_) | refine V_seq_draw tmix (by kernel_rfl) ?_ | refine V_seq (V_seq_draw tmix (by kernel_rfl) ?_) | refine V_region ?_ | refine V_draw tmix (by kernel_rfl) ?_)
  repeat refine VO_d ?_
  (first | refine VO_nil ?_ | refine VQ_nil ?_)
  (first | refine V_seq_region ?_ | refine V_seq (V_seq_region ?_) | refine V_seq_draw tmix (by kernel_rfl) ?_ | refine V_seq (V_seq_draw tmix (by kernel_rfl) ?_) | refine V_region ?_ | refine V_draw tmix (by kernel_rfl) ?_)
  repeat refine VO_d ?_
  (first | refine VO_nil ?_ | refine VQ_nil ?_)
  (first | refine V_seq_region ?_ | refine V_seq (V_seq_region ?_) | refine V_seq_draw tmix (by kernel_rfl) ?_ | refine V_seq (V_seq_draw tmix (by kernel_rfl) ?_) | refine V_region ?_ | refine V_draw tmix (by kernel_rfl) ?_)
  repeat refine VO_d ?_
  (first | refine VO_nil ?_ | refine VQ_nil ?_)
  (first | refine V_seq_region ?_ | refine V_seq (V_seq_region ?_) | refine V_seq_draw tmix (by kernel_rfl) ?_ | refine V_seq (V_seq_draw tmix (by kernel_rfl) ?_) | refine V_region ?_ | refine V_draw tmix (by kernel_rfl) ?_)
  repeat refine VO_d ?_
  (first | refine VO_nil ?_ | refine VQ_nil ?_)
  (first | refine V_seq_region ?_ | refine V_seq (V_seq_region ?_) | refine V_seq_draw tmix (by kernel_rfl) ?_ | refine V_seq (V_seq_draw tmix (by kernel_rfl) ?_) | refine V_region ?_ | refine V_draw tmix (by kernel_rfl) ?_)
  repeat refine VO_d ?_
  (first | refine VO_nil ?_ | refine VQ_nil ?_)
  (first | refine V_seq_region ?_ | refine V_seq (V_seq_region ?_) | refine V_seq_draw tmix (by kernel_rfl) ?_ | refine V_seq (V_seq_draw tmix (by kernel_rfl) ?_) | refine V_region ?_ | refine V_draw tmix (by kernel_rfl) ?_)
  repeat refine VO_d ?_
  (first | refine VO_nil ?_ | refine VQ_nil ?_)
  (first | refine V_seq_region ?_ | refine V_seq (V_seq_region ?_) | refine V_seq_draw tmix (by kernel_rfl) ?_ | refine V_seq (V_seq_draw tmix (by kernel_rfl) ?_) | refine V_region ?_ | refine V_draw tmix (by kernel_rfl) ?_)
  repeat refine VO_d ?_
  (first | refine VO_q (Q_call rfl c4 (by (repeat (first | exact trivial | exact rfl | exact ⟨_, rfl⟩ | refine And.intro ?_ ?_)); first | done | fail)) rfl ?_ | refine VQ_q (Q_call rfl c4 (by (repeat (first | exact trivial | exact rfl | exact ⟨_, rfl⟩ | refine And.intro ?_ ?_)); first | done | fail)) rfl ?_ | (refine VO_bare rfl rfl rfl rfl ?_; refine VO_q (Q_call rfl c4 (by (repeat (first | exact trivial | exact rfl | exact ⟨_, rfl⟩ | refine And.intro ?_ ?_)); first | done | fail)) rfl ?_) | refine VQ_run rfl rfl rfl rfl (Q_call rfl c4 (by (repeat (first | exact trivial | exact rfl | exact ⟨_, rfl⟩ | refine And.intro ?_ ?_)); first | done | fail)) rfl ?_)
  repeat refine VO_d ?_
  (first | refine VO_nil ?_ | refine VQ_nil ?_)
  (first | refine V_seq_region ?_ | refine V_seq (V_seq_region ?_) | refine V_seq_draw tmix (by kernel_rfl) ?_ | refine V_seq (V_seq_draw tmix (by kernel_rfl) ?_) | refine V_region ?_ | refine V_draw tmix (by kernel_rfl) ?_)
  repeat refine VO_d ?_
  (first | refine VO_q (Q_call rfl c5 (by (repeat (first | exact trivial | exact rfl | exact ⟨_, rfl⟩ | refine And.intro ?_ ?_)); first | done | fail)) rfl ?_ | refine VQ_q (Q_call rfl c5 (by (repeat (first | exact trivial | exact rfl | exact ⟨_, rfl⟩ | refine And.intro ?_ ?_)); first | done | fail)) rfl ?_ | (refine VO_bare rfl rfl rfl rfl ?_; refine VO_q (Q_call rfl c5 (by (repeat (first | exact trivial | exact rfl | exact ⟨_, rfl⟩ | refine And.intro ?_ ?_)); first | done | fail)) rfl ?_) | refine VQ_run rfl rfl rfl rfl (Q_call rfl c5 (by (repeat (first | exact trivial | exact rfl | exact ⟨_, rfl⟩ | refine And.intro ?_ ?_)); first | done | fail)) rfl ?_)
  repeat refine VO_d ?_
  (first | refine VO_nil ?_ | refine VQ_nil ?_)
  (first | refine V_seq_region ?_ | refine V_seq (V_seq_region ?_) | refine V_seq_draw tmix (by kernel_rfl) ?_ | refine V_seq (V_seq_draw tmix (by kernel_rfl) ?_) | refine V_region ?_ | refine V_draw tmix (by kernel_rfl) ?_)
  repeat refine VO_d ?_
  (first | refine VO_q (Q_call rfl c6 (by (repeat (first | exact trivial | exact rfl | exact ⟨_, rfl⟩ | refine And.intro ?_ ?_)); first | done | fail)) rfl ?_ | refine VQ_q (Q_call rfl c6 (by (repeat (first | exact trivial | exact rfl | exact ⟨_, rfl⟩ | refine And.intro ?_ ?_)); first | done | fail)) rfl ?_ | (refine VO_bare rfl rfl rfl rfl ?_; refine VO_q (Q_call rfl c6 (by (repeat (first | exact trivial | exact rfl | exact ⟨_, rfl⟩ | refine And.intro ?_ ?_)); first | done | fail)) rfl ?_) | refine VQ_run rfl rfl rfl rfl (Q_call rfl c6 (by (repeat (first | exact trivial | exact rfl | exact ⟨_, rfl⟩ | refine And.intro ?_ ?_)); first | done | fail)) rfl ?_)
  repeat refine VO_d ?_
  (first | refine VO_nil ?_ | refine VQ_nil ?_)
  (first | refine V_seq_region ?_ | refine V_seq (V_seq_region ?_) | refine V_seq_draw tmix (by kernel_rfl) ?_ | refine V_seq (V_seq_draw tmix (by kernel_rfl) ?_) | refine V_region ?_ | refine V_draw tmix (by kernel_rfl) ?_)
  repeat refine VO_d ?_
  (first | refine VO_q (Q_call rfl c7 (by (repeat (first | exact trivial | exact rfl | exact ⟨_, rfl⟩ | refine And.intro ?_ ?_)); first | done | fail)) rfl ?_ | refine VQ_q (Q_call rfl c7 (by (repeat (first | exact trivial | exact rfl | exact ⟨_, rfl⟩ | refine And.intro ?_ ?_)); first | done | fail)) rfl ?_ | (refine VO_bare rfl rfl rfl rfl ?_; refine VO_q (Q_call rfl c7 (by (repeat (first | exact trivial | exact rfl | exact ⟨_, rfl⟩ | refine And.intro ?_ ?_)); first | done | fail)) rfl ?_) | refine VQ_run rfl rfl rfl rfl (Q_call rfl c7 (by (repeat (first | exact trivial | exact rfl | exact ⟨_, rfl⟩ | refine And.intro ?_ ?_)); first | done | fail)) rfl ?_)
  repeat refine VO_d ?_
  (first | refine VO_nil ?_ | refine VQ_nil ?_)
  (first | refine V_seq_region ?_ | refine V_seq (V_seq_region ?_) | refine V_seq_draw tmix (by kernel_rfl) ?_ | refine V_seq (V_seq_draw tmix (by kernel_rfl) ?_) | refine V_region ?_ | refine V_draw tmix (by kernel_rfl) ?_)
  repeat refine VO_d ?_
  (first | refine VO_q (Q_call rfl c8 (by (repeat (first | exact trivial | exact rfl | exact ⟨_, rfl⟩ | refine And.intro ?_ ?_)); first | done | fail)) rfl ?_ | refine VQ_q (Q_call rfl c8 (by (repeat (first | exact trivial | exact rfl | exact ⟨_, rfl⟩ | refine And.intro ?_ ?_)); first | done | fail)) rfl ?_ | (refine VO_bare rfl rfl rfl rfl ?_; refine VO_q (Q_call rfl c8 (by (repeat (first | exact trivial | exact rfl | exact ⟨_, rfl⟩ | refine And.intro ?_ ?_)); first | done | fail)) rfl ?_) | refine VQ_run rfl rfl rfl rfl (Q_call rfl c8 (by (repeat (first | exact trivial | exact rfl | exact ⟨_, rfl⟩ | refine And.intro ?_ ?_)); first | done | fail)) rfl ?_)
  repeat refine VO_d ?_
  (first | refine VO_nil ?_ | refine VQ_nil ?_)
  (first | refine V_seq_region ?_ | refine V_seq (V_seq_region ?_) | refine V_seq_draw tmix (by kernel_rfl) ?_ | refine V_seq (V_seq_draw tmix (by kernel_rfl) ?_) | refine V_region ?_ | refine V_draw tmix (by kernel_rfl) ?_)
  repeat refine VO_d ?_
  (first | refine VO_nil ?_ | refine VQ_nil ?_)
  refine V_ret ?_
  exact ⟨trivial, ⟨_, ResV_ag rfl rfl TI.h rfl rfl, (by (repeat (first | exact trivial | exact rfl | exact ⟨_, rfl⟩ | refine And.intro ?_ ?_)); first | done | fail)⟩, trivial⟩

theorem zu_Core : ZeroU (.st [.i .i64 0, .s [], .s [], .i .i64 0, .st [.i .i64 0, .s [], .sl 3 []], .sl 3 [], .sl 5 [], .sl 11 [], .sl 13 []]) [.int .i64 0, .string ⟨#[]⟩, .string ⟨#[]⟩, .int .i64 0, .int .i64 0, .string ⟨#[]⟩, .slice none 0 0, .slice none 0 0, .slice none 0 0, .slice none 0 0, .slice none 0 0] := fun S w => Rd.of_leafs _ _ (And.intro zI (And.intro zS (And.intro zS (And.intro zI (And.intro zI (And.intro zS (And.intro zL (And.intro zL (And.intro zL (And.intro zL (And.intro zL (trivial))))))))))))
theorem toCoreS_step {us : List U} (hz : ∀ a ∈ us, a.isSt = true ∧ a.sz = 11) (ih : ∀ a ∈ us, PTo 20 a) : PTo 53 (.sl 11 us) := by
  intro hw
  have hW : W (.sl 11 us) = us.length + Ws us := rfl
  refine SpecP_intro Try.func53 rfl (by kernel_rfl) rfl fun A _ => ?_
  (first | refine V_seq_region ?_ | refine V_seq (V_seq_region ?_) | refine V_seq_draw tmix (by kernel_rfl) ?_ | refine V_seq (V_seq_draw tmix (by kernel_rfl) ?_) | refine V_region ?_ | refine V_draw tmix (by kernel_rfl) ?_)
  repeat refine VO_d ?_
  (first | refine VO_nil ?_ | refine VQ_nil ?_)
  (first | refine V_seq_region ?_ | refine V_seq (V_seq_region ?_) | refine V_seq_draw tmix (by kernel_rfl) ?_ | refine V_seq (V_seq_draw tmix (by kernel_rfl) ?_) | refine V_region ?_ | refine V_draw tmix (by kernel_rfl) ?_)
  repeat refine VO_d ?_
  refine VO_make rfl rfl TE.h TI.h TZ.h rfl zu_Core (by omega) (by omega) (by rw [big_eq]; omega) (by omega) rfl (by simp only [List.length_nil, List.length_cons, List.nil_append, List.cons_append, List.set_cons_zero, List.set_cons_succ, List.take_zero, List.take_succ_cons, List.drop_zero, List.drop_succ_cons, Nat.reduceAdd, Nat.zero_add] <;> rfl) (by simp only [List.length_nil, List.length_cons, List.nil_append, List.cons_append, List.set_cons_zero, List.set_cons_succ, List.take_zero, List.take_succ_cons, List.drop_zero, List.drop_succ_cons, Nat.reduceAdd, Nat.zero_add] <;> rfl) ?_
  repeat refine VO_d ?_
  (first | refine VO_nil ?_ | refine VQ_nil ?_)
  rw [Int.toNat_natCast, fillU_zero]
  (first | refine V_seq_region ?_ | refine V_seq (V_seq_region ?_) | refine V_seq_draw tmix (by kernel_rfl) ?_ | refine V_seq (V_seq_draw tmix (by kernel_rfl) ?_) | refine V_region ?_ | refine V_draw tmix (by kernel_rfl) ?_)
  repeat refine VO_d ?_
  (first | refine VO_nil ?_ | refine VQ_nil ?_)
  refine V_block ?_
  refine V_loop (α := Nat)
    (fun k => ⟨[(0, .d (.sl 11 us)), (3, .sl 0 0), (4, .d (.i .i64 k))], [.arr 59 11 0 (fillU us (.st [.i .i64 0, .s [], .s [], .i .i64 0, .st [.i .i64 0, .s [], .sl 3 []], .sl 3 [], .sl 5 [], .sl 11 [], .sl 13 []]) k)], Try.f53.ntmps⟩)
    (fun k => k ≤ us.length)
    (fun k => us.length - k) 0 ⟨rfl, ⟨⟨rfl, rfl⟩, ⟨rfl, rfl⟩, ⟨rfl, rfl⟩, trivial⟩, ⟨[], rfl⟩, rfl⟩ (by simp) ?_
  intro k hk
  (first | refine V_seq_region ?_ | refine V_seq (V_seq_region ?_) | refine V_seq_draw tmix (by kernel_rfl) ?_ | refine V_seq (V_seq_draw tmix (by kernel_rfl) ?_) | refine V_region ?_ | refine V_draw tmix (by kernel_rfl) ?_)
  repeat refine VO_d ?_
  (first | refine VO_nil ?_ | refine VQ_nil ?_)
  refine V_cond rfl (fun hc2 => ?_) (fun hc2 => ?_)
  · refine V_skip ?_
    simp only [decide_eq_true_eq] at hc2
    have hkl : k < us.length := by omega
    have hget : us[k]? = some us[k] := List.getElem?_eq_getElem hkl
    have hmem : us[k] ∈ us := List.getElem_mem hkl
    have hwk := W_le_of_mem hmem
    have hfl : (fillU us (.st [.i .i64 0, .s [], .s [], .i .i64 0, .st [.i .i64 0, .s [], .sl 3 []], .sl 3 [], .sl 5 [], .sl 11 [], .sl 13 []]) k).length = us.length := fillU_length hk
    obtain ⟨hst, hsz⟩ := hz _ hmem
    refine V_seq (V_block ?_)
    (first | refine V_seq_region ?_ | refine V_seq (V_seq_region ?_) | refine V_seq_draw tmix (by kernel_rfl) ?_ | refine V_seq (V_seq_draw tmix (by kernel_rfl) ?_) | refine V_region ?_ | refine V_draw tmix (by kernel_rfl) ?_)
    repeat refine VO_d ?_
    refine VO_q (Q_index rfl rfl TE.h TI.h (by omega) hget) rfl ?_
    refine VO_q (Q_load rfl TI.h hst hsz) rfl ?_
    refine VO_q (Q_call rfl (ih _ hmem (by omega)) (by (repeat (first | exact trivial | exact rfl | exact ⟨_, rfl⟩ | refine And.intro ?_ ?_)); first | done | fail)) rfl ?_
    refine VO_q (Q_index_arr rfl rfl rfl TE.h TI.h (by omega) (by omega)) rfl ?_
    refine VO_store_ep rfl rfl (by exact rfl) TI.h hsz (by omega) (by simp only [List.length_nil, List.length_cons, List.nil_append, List.cons_append, List.set_cons_zero, List.set_cons_succ, List.take_zero, List.take_succ_cons, List.drop_zero, List.drop_succ_cons, Nat.reduceAdd, Nat.zero_add] <;> rfl) ?_
    (first | refine VO_nil ?_ | refine VQ_nil ?_)
    (first | refine V_seq_region ?_ | refine V_seq (V_seq_region ?_) | refine V_seq_draw tmix (by kernel_rfl) ?_ | refine V_seq (V_seq_draw tmix (by kernel_rfl) ?_) | refine V_region ?_ | refine V_draw tmix (by kernel_rfl) ?_)
    repeat refine VO_d ?_
    (first | refine VO_nil ?_ | refine VQ_nil ?_)
    refine ⟨k + 1, by omega, by omega, ⟨rfl, ⟨⟨rfl, rfl⟩, ⟨rfl, rfl⟩, ⟨rfl, rfl⟩, trivial⟩, ⟨[], ?_⟩, rfl⟩⟩
    rw [Int.toNat_natCast, fillU_set hget]
    rfl
  · refine V_exit ?_
    simp only [decide_eq_false_iff_not] at hc2
    have hkl : k = us.length := by omega
    subst hkl
    rw [fillU_all]
    show V _ _ _ _ _
    (first | refine V_seq_region ?_ | refine V_seq (V_seq_region ?_) | refine V_seq_draw tmix (by kernel_rfl) ?_ | refine V_seq (V_seq_draw tmix (by kernel_rfl) ?_) | refine V_region ?_ | refine V_draw tmix (by kernel_rfl) ?_)
    repeat refine VO_d ?_
    (first | refine VO_nil ?_ | refine VQ_nil ?_)
    refine V_freeze 0 rfl (by simp only [List.length_nil, List.length_cons, List.nil_append, List.cons_append, List.set_cons_zero, List.set_cons_succ, List.take_zero, List.take_succ_cons, List.drop_zero, List.drop_succ_cons, Nat.reduceAdd, Nat.zero_add] <;> rfl) ?_
    refine V_ret ?_
    exact ⟨trivial, ⟨_, rfl, _, rfl⟩, trivial⟩

theorem toCoreArmCore_grp (u : U) : (wt (.st 20) u → PTo 91 u) ∧ (wt (.st 21) u → PTo 20 u) := by
  refine U.ind (M := fun u => (wt (.st 20) u → PTo 91 u) ∧ (wt (.st 21) u → PTo 20 u)) (fun u ih => ?_) u
  refine ⟨?_, ?_⟩
  · intro h
    obtain ⟨f0, f1, f2, rfl, p0, p1, p2⟩ := inv_CoreArm h
    exact toCoreArm_step p0 (toStringS_all p1) p2 ((ih f2 (by simp only [U.nn, U.nns]; omega)).2 p2)
  · intro h
    obtain ⟨f0, f1, f2, f3, f4, f5, f6, f7, f8, rfl, p0, p1, p2, p3, p4, p5, p6, p7, p8⟩ := inv_Core h
    exact toCore_step p1 p2 p4 (toType_all p4) (toTypeS_all p5) (toEvidenceS_all p6) (toCoreS_step (fun a ha => ⟨wt_isSt (p7.2 a ha), by rw [wt_sz a _ (p7.2 a ha)]; rfl⟩) (fun a ha => (ih a (by have := nn_of_mem ha; simp only [U.nn, U.nns]; omega)).2 (p7.2 a ha))) (toCoreArmS_step (fun a ha => ⟨wt_isSt (p8.2 a ha), by rw [wt_sz a _ (p8.2 a ha)]; rfl⟩) (fun a ha => (ih a (by have := nn_of_mem ha; simp only [U.nn, U.nns]; omega)).1 (p8.2 a ha)))
theorem toCoreArm_all {u : U} (h : wt (.st 20) u) : PTo 91 u := (toCoreArmCore_grp u).1 h
theorem toCoreArmS_all {us : List U} (h : us.length ≤ big ∧ ∀ x ∈ us, wt (.st 20) x) : PTo 54 (.sl 13 us) := toCoreArmS_step (fun a ha => ⟨wt_isSt (h.2 a ha), by rw [wt_sz a _ (h.2 a ha)]; rfl⟩) (fun a ha => toCoreArm_all (h.2 a ha))
theorem toCore_all {u : U} (h : wt (.st 21) u) : PTo 20 u := (toCoreArmCore_grp u).2 h
theorem toCoreS_all {us : List U} (h : us.length ≤ big ∧ ∀ x ∈ us, wt (.st 21) x) : PTo 53 (.sl 11 us) := toCoreS_step (fun a ha => ⟨wt_isSt (h.2 a ha), by rw [wt_sz a _ (h.2 a ha)]; rfl⟩) (fun a ha => toCore_all (h.2 a ha))
theorem eqType_step {f0 : Int} {f1 : List UInt8} {f2 : List U} {d0 : Int} {d1 : List UInt8} {d2 : List U} (h1 : f1.length ≤ big) (k1 : d1.length ≤ big) (h2 : PEq 38 (.sl 3 f2) (.sl 3 d2)) : PEq 11 (.st [.i .i64 f0, .s f1, .sl 3 f2]) (.st [.i .i64 d0, .s d1, .sl 3 d2]) := by
  refine SpecP_intro Try.func11 rfl (by kernel_rfl) rfl fun A _ => ?_
  (first | refine V_seq_region ?_ | refine V_seq (V_seq_region ?_) | refine V_seq_draw tmix (by kernel_rfl) ?_ | refine V_seq (V_seq_draw tmix (by kernel_rfl) ?_) | refine V_region ?_ | refine V_draw tmix (by kernel_rfl) ?_)
  repeat refine VO_d ?_
  (first | refine VO_nil ?_ | refine VQ_nil ?_)
  (first | refine V_seq_region ?_ | refine V_seq (V_seq_region ?_) | refine V_seq_draw tmix (by kernel_rfl) ?_ | refine V_seq (V_seq_draw tmix (by kernel_rfl) ?_) | refine V_region ?_ | refine V_draw tmix (by kernel_rfl) ?_)
  repeat (first | refine VO_d ?_ | refine VQ_d ?_)
  (first | refine VO_nil ?_ | refine VQ_nil ?_)
  refine V_cond rfl (fun hc => ?_) (fun hc => ?_)
  · (first | refine V_seq_region ?_ | refine V_seq (V_seq_region ?_) | refine V_seq_draw tmix (by kernel_rfl) ?_ | refine V_seq (V_seq_draw tmix (by kernel_rfl) ?_) | refine V_region ?_ | refine V_draw tmix (by kernel_rfl) ?_)
    repeat refine VO_d ?_
    (first | refine VO_nil ?_ | refine VQ_nil ?_)
    refine V_ret ?_
    exact ⟨trivial, ⟨_, rfl, congrArg U.b (deq_false.2 (by intro h; injection h with h; injection h with q0 h; injection q0 with _ hk; simp [hk] at hc)).symm⟩, trivial⟩
  refine V_skip ?_
  have e0 := (by simpa using hc : f0 = d0)
  clear hc
  (first | refine V_seq_region ?_ | refine V_seq (V_seq_region ?_) | refine V_seq_draw tmix (by kernel_rfl) ?_ | refine V_seq (V_seq_draw tmix (by kernel_rfl) ?_) | refine V_region ?_ | refine V_draw tmix (by kernel_rfl) ?_)
  repeat (first | refine VO_d ?_ | refine VQ_d ?_)
  (first | refine VO_nil ?_ | refine VQ_nil ?_)
  refine V_cond rfl (fun hc => ?_) (fun hc => ?_)
  · (first | refine V_seq_region ?_ | refine V_seq (V_seq_region ?_) | refine V_seq_draw tmix (by kernel_rfl) ?_ | refine V_seq (V_seq_draw tmix (by kernel_rfl) ?_) | refine V_region ?_ | refine V_draw tmix (by kernel_rfl) ?_)
    repeat refine VO_d ?_
    (first | refine VO_nil ?_ | refine VQ_nil ?_)
    refine V_ret ?_
    exact ⟨trivial, ⟨_, rfl, congrArg U.b (deq_false.2 (by intro h; injection h with h; injection h with q0 h; injection h with q1 h; injection q1 with hk; simp [hk] at hc)).symm⟩, trivial⟩
  refine V_skip ?_
  have e1 := (by simpa using hc : f1 = d1)
  clear hc
  (first | refine V_seq_region ?_ | refine V_seq (V_seq_region ?_) | refine V_seq_draw tmix (by kernel_rfl) ?_ | refine V_seq (V_seq_draw tmix (by kernel_rfl) ?_) | refine V_region ?_ | refine V_draw tmix (by kernel_rfl) ?_)
  repeat (first | refine VO_d ?_ | refine VQ_d ?_)
  (first | refine VO_q (Q_call rfl h2 (by (repeat (first | exact trivial | exact rfl | exact ⟨_, rfl⟩ | refine And.intro ?_ ?_)); first | done | fail)) rfl ?_ | refine VQ_q (Q_call rfl h2 (by (repeat (first | exact trivial | exact rfl | exact ⟨_, rfl⟩ | refine And.intro ?_ ?_)); first | done | fail)) rfl ?_ | (refine VO_bare rfl rfl rfl rfl ?_; refine VO_q (Q_call rfl h2 (by (repeat (first | exact trivial | exact rfl | exact ⟨_, rfl⟩ | refine And.intro ?_ ?_)); first | done | fail)) rfl ?_) | refine VQ_run rfl rfl rfl rfl (Q_call rfl h2 (by (repeat (first | exact trivial | exact rfl | exact ⟨_, rfl⟩ | refine And.intro ?_ ?_)); first | done | fail)) rfl ?_)
  repeat (first | refine VO_d ?_ | refine VQ_d ?_)
  (first | refine VO_nil ?_ | refine VQ_nil ?_)
  refine V_cond rfl (fun hc => ?_) (fun hc => ?_)
  · (first | refine V_seq_region ?_ | refine V_seq (V_seq_region ?_) | refine V_seq_draw tmix (by kernel_rfl) ?_ | refine V_seq (V_seq_draw tmix (by kernel_rfl) ?_) | refine V_region ?_ | refine V_draw tmix (by kernel_rfl) ?_)
    repeat refine VO_d ?_
    (first | refine VO_nil ?_ | refine VQ_nil ?_)
    refine V_ret ?_
    exact ⟨trivial, ⟨_, rfl, congrArg U.b (deq_false.2 (by intro h; injection h with h; injection h with q0 h; injection h with q1 h; injection h with q2 h; rw [q2, deq_self] at hc; cases hc)).symm⟩, trivial⟩
  refine V_skip ?_
  have e2 := deq_true.1 (by simpa using hc : deq _ _ = true)
  clear hc
  (first | refine V_seq_region ?_ | refine V_seq (V_seq_region ?_) | refine V_seq_draw tmix (by kernel_rfl) ?_ | refine V_seq (V_seq_draw tmix (by kernel_rfl) ?_) | refine V_region ?_ | refine V_draw tmix (by kernel_rfl) ?_)
  repeat refine VO_d ?_
  (first | refine VO_nil ?_ | refine VQ_nil ?_)
  refine V_ret ?_
  exact ⟨trivial, ⟨_, rfl, congrArg U.b (deq_true.2 (by rw [e0, e1, e2])).symm⟩, trivial⟩

theorem eqTypeS_step {us vs : List U} (hb1 : us.length ≤ big) (hb2 : vs.length ≤ big) (hz : ∀ a ∈ us, a.isSt = true ∧ a.sz = 3) (hz2 : ∀ a ∈ vs, a.isSt = true ∧ a.sz = 3) (ih : ∀ a ∈ us, ∀ b ∈ vs, PEq 11 a b) : PEq 38 (.sl 3 us) (.sl 3 vs) := by
  rw [big_eq] at hb1 hb2
  refine SpecP_intro Try.func38 rfl (by kernel_rfl) rfl fun A _ => ?_
  (first | refine V_seq_region ?_ | refine V_seq (V_seq_region ?_) | refine V_seq_draw tmix (by kernel_rfl) ?_ | refine V_seq (V_seq_draw tmix (by kernel_rfl) ?_) | refine V_region ?_ | refine V_draw tmix (by kernel_rfl) ?_)
  repeat refine VO_d ?_
  (first | refine VO_nil ?_ | refine VQ_nil ?_)
  (first | refine V_seq_region ?_ | refine V_seq (V_seq_region ?_) | refine V_seq_draw tmix (by kernel_rfl) ?_ | refine V_seq (V_seq_draw tmix (by kernel_rfl) ?_) | refine V_region ?_ | refine V_draw tmix (by kernel_rfl) ?_)
  repeat refine VO_d ?_
  (first | refine VO_nil ?_ | refine VQ_nil ?_)
  refine V_cond rfl (fun hc => ?_) (fun hc => ?_)
  · (first | refine V_seq_region ?_ | refine V_seq (V_seq_region ?_) | refine V_seq_draw tmix (by kernel_rfl) ?_ | refine V_seq (V_seq_draw tmix (by kernel_rfl) ?_) | refine V_region ?_ | refine V_draw tmix (by kernel_rfl) ?_)
    repeat refine VO_d ?_
    (first | refine VO_nil ?_ | refine VQ_nil ?_)
    refine V_ret ?_
    exact ⟨trivial, ⟨_, rfl, congrArg U.b (deq_false.2 (by intro h; injection h with _ h; subst h; simp at hc)).symm⟩, trivial⟩
  refine V_skip ?_
  have hll : us.length = vs.length := by simp at hc; omega
  (first | refine V_seq_region ?_ | refine V_seq (V_seq_region ?_) | refine V_seq_draw tmix (by kernel_rfl) ?_ | refine V_seq (V_seq_draw tmix (by kernel_rfl) ?_) | refine V_region ?_ | refine V_draw tmix (by kernel_rfl) ?_)
  repeat refine VO_d ?_
  (first | refine VO_nil ?_ | refine VQ_nil ?_)
  refine V_block ?_
  refine V_loop (α := Nat)
    (fun k => ⟨[(0, .d (.sl 3 us)), (1, .d (.sl 3 vs)), (5, .d (.i .i64 k))], [], Try.f38.ntmps⟩)
    (fun k => k ≤ us.length ∧ ∀ j, j < k → us[j]? = vs[j]?)
    (fun k => us.length - k) 0 ⟨rfl, ⟨⟨rfl, rfl⟩, ⟨rfl, rfl⟩, ⟨rfl, rfl⟩, trivial⟩, ⟨[], rfl⟩, rfl⟩ ⟨by simp, by simp⟩ ?_
  rintro k ⟨hk, hsame⟩
  (first | refine V_seq_region ?_ | refine V_seq (V_seq_region ?_) | refine V_seq_draw tmix (by kernel_rfl) ?_ | refine V_seq (V_seq_draw tmix (by kernel_rfl) ?_) | refine V_region ?_ | refine V_draw tmix (by kernel_rfl) ?_)
  repeat refine VO_d ?_
  (first | refine VO_nil ?_ | refine VQ_nil ?_)
  refine V_cond rfl (fun hc2 => ?_) (fun hc2 => ?_)
  · refine V_skip ?_
    simp only [decide_eq_true_eq] at hc2
    have hkl : k < us.length := by omega
    have hkv : k < vs.length := by omega
    have hget : us[k]? = some us[k] := List.getElem?_eq_getElem hkl
    have hgev : vs[k]? = some vs[k] := List.getElem?_eq_getElem hkv
    have hmem : us[k] ∈ us := List.getElem_mem hkl
    have hmev : vs[k] ∈ vs := List.getElem_mem hkv
    obtain ⟨hst, hsz⟩ := hz _ hmem
    obtain ⟨hst2, hsz2⟩ := hz2 _ hmev
    refine V_seq (V_block ?_)
    (first | refine V_seq_region ?_ | refine V_seq (V_seq_region ?_) | refine V_seq_draw tmix (by kernel_rfl) ?_ | refine V_seq (V_seq_draw tmix (by kernel_rfl) ?_) | refine V_region ?_ | refine V_draw tmix (by kernel_rfl) ?_)
    repeat (first | refine VO_d ?_ | refine VQ_d ?_)
    (first | refine VO_q (Q_index rfl rfl TE.h TI.h (by omega) hget) rfl ?_ | refine VQ_q (Q_index rfl rfl TE.h TI.h (by omega) hget) rfl ?_ | (refine VO_bare rfl rfl rfl rfl ?_; refine VO_q (Q_index rfl rfl TE.h TI.h (by omega) hget) rfl ?_) | refine VQ_run rfl rfl rfl rfl (Q_index rfl rfl TE.h TI.h (by omega) hget) rfl ?_)
    (first | refine VO_q (Q_load rfl TI.h hst hsz) rfl ?_ | refine VQ_q (Q_load rfl TI.h hst hsz) rfl ?_ | (refine VO_bare rfl rfl rfl rfl ?_; refine VO_q (Q_load rfl TI.h hst hsz) rfl ?_) | refine VQ_run rfl rfl rfl rfl (Q_load rfl TI.h hst hsz) rfl ?_)
    repeat (first | refine VO_d ?_ | refine VQ_d ?_)
    (first | refine VO_q (Q_index rfl rfl TE.h TI.h (by omega) hgev) rfl ?_ | refine VQ_q (Q_index rfl rfl TE.h TI.h (by omega) hgev) rfl ?_ | (refine VO_bare rfl rfl rfl rfl ?_; refine VO_q (Q_index rfl rfl TE.h TI.h (by omega) hgev) rfl ?_) | refine VQ_run rfl rfl rfl rfl (Q_index rfl rfl TE.h TI.h (by omega) hgev) rfl ?_)
    (first | refine VO_q (Q_load rfl TI.h hst2 hsz2) rfl ?_ | refine VQ_q (Q_load rfl TI.h hst2 hsz2) rfl ?_ | (refine VO_bare rfl rfl rfl rfl ?_; refine VO_q (Q_load rfl TI.h hst2 hsz2) rfl ?_) | refine VQ_run rfl rfl rfl rfl (Q_load rfl TI.h hst2 hsz2) rfl ?_)
    (first | refine VO_q (Q_call rfl (ih _ hmem _ hmev) (by (repeat (first | exact trivial | exact rfl | exact ⟨_, rfl⟩ | refine And.intro ?_ ?_)); first | done | fail)) rfl ?_ | refine VQ_q (Q_call rfl (ih _ hmem _ hmev) (by (repeat (first | exact trivial | exact rfl | exact ⟨_, rfl⟩ | refine And.intro ?_ ?_)); first | done | fail)) rfl ?_ | (refine VO_bare rfl rfl rfl rfl ?_; refine VO_q (Q_call rfl (ih _ hmem _ hmev) (by (repeat (first | exact trivial | exact rfl | exact ⟨_, rfl⟩ | refine And.intro ?_ ?_)); first | done | fail)) rfl ?_) | refine VQ_run rfl rfl rfl rfl (Q_call rfl (ih _ hmem _ hmev) (by (repeat (first | exact trivial | exact rfl | exact ⟨_, rfl⟩ | refine And.intro ?_ ?_)); first | done | fail)) rfl ?_)
    repeat (first | refine VO_d ?_ | refine VQ_d ?_)
    (first | refine VO_nil ?_ | refine VQ_nil ?_)
    refine V_cond rfl (fun hc3 => ?_) (fun hc3 => ?_)
    · (first | refine V_seq_region ?_ | refine V_seq (V_seq_region ?_) | refine V_seq_draw tmix (by kernel_rfl) ?_ | refine V_seq (V_seq_draw tmix (by kernel_rfl) ?_) | refine V_region ?_ | refine V_draw tmix (by kernel_rfl) ?_)
      repeat refine VO_d ?_
      (first | refine VO_nil ?_ | refine VQ_nil ?_)
      refine V_ret ?_
      exact ⟨trivial, ⟨_, rfl, congrArg U.b (deq_false.2 (by intro h; injection h with _ h; subst h; rw [deq_self] at hc3; cases hc3)).symm⟩, trivial⟩
    refine V_skip ?_
    have heq : us[k] = vs[k] := deq_true.1 (by simpa using hc3)
    (first | refine V_seq_region ?_ | refine V_seq (V_seq_region ?_) | refine V_seq_draw tmix (by kernel_rfl) ?_ | refine V_seq (V_seq_draw tmix (by kernel_rfl) ?_) | refine V_region ?_ | refine V_draw tmix (by kernel_rfl) ?_)
    repeat refine VO_d ?_
    (first | refine VO_nil ?_ | refine VQ_nil ?_)
    refine ⟨k + 1, ⟨by omega, fun j hj => ?_⟩, by omega, ⟨rfl, ⟨⟨rfl, rfl⟩, ⟨rfl, rfl⟩, ⟨rfl, rfl⟩, trivial⟩, ⟨[], rfl⟩, rfl⟩⟩
    by_cases hjk : j = k
    · subst hjk; rw [hget, hgev, heq]
    · exact hsame j (by omega)
  · refine V_exit ?_
    simp only [decide_eq_false_iff_not] at hc2
    have hkl : k = us.length := by omega
    subst hkl
    have hall : us = vs := by
      apply List.ext_getElem?
      intro j
      by_cases hj : j < us.length
      · exact hsame j hj
      · rw [List.getElem?_eq_none (by omega), List.getElem?_eq_none (by omega)]
    show V _ _ _ _ _
    (first | refine V_seq_region ?_ | refine V_seq (V_seq_region ?_) | refine V_seq_draw tmix (by kernel_rfl) ?_ | refine V_seq (V_seq_draw tmix (by kernel_rfl) ?_) | refine V_region ?_ | refine V_draw tmix (by kernel_rfl) ?_)
    repeat refine VO_d ?_
    (first | refine VO_nil ?_ | refine VQ_nil ?_)
    refine V_ret ?_
    exact ⟨trivial, ⟨_, rfl, congrArg U.b (deq_true.2 (by rw [hall])).symm⟩, trivial⟩

theorem eqType_grp (u : U) : (∀ v, wt (.st 1) u → wt (.st 1) v → PEq 11 u v) := by
  refine U.ind (M := fun u => (∀ v, wt (.st 1) u → wt (.st 1) v → PEq 11 u v)) (fun u ih => ?_) u
  refine ?_
  · intro v h h2
    obtain ⟨f0, f1, f2, rfl, p0, p1, p2⟩ := inv_Type h
    obtain ⟨d0, d1, d2, rfl, q0, q1, q2⟩ := inv_Type h2
    exact eqType_step p1 q1 (eqTypeS_step p2.1 q2.1 (fun a ha => ⟨wt_isSt (p2.2 a ha), by rw [wt_sz a _ (p2.2 a ha)]; rfl⟩) (fun a ha => ⟨wt_isSt (q2.2 a ha), by rw [wt_sz a _ (q2.2 a ha)]; rfl⟩) (fun a ha b hb => (ih a (by have := nn_of_mem ha; simp only [U.nn, U.nns]; omega)) b (p2.2 a ha) (q2.2 b hb)))
theorem eqType_all {u v : U} (h : wt (.st 1) u) (h2 : wt (.st 1) v) : PEq 11 u v := (eqType_grp u) v h h2
theorem eqTypeS_all {us vs : List U} (h : us.length ≤ big ∧ ∀ x ∈ us, wt (.st 1) x) (h2 : vs.length ≤ big ∧ ∀ x ∈ vs, wt (.st 1) x) : PEq 38 (.sl 3 us) (.sl 3 vs) := eqTypeS_step h.1 h2.1 (fun a ha => ⟨wt_isSt (h.2 a ha), by rw [wt_sz a _ (h.2 a ha)]; rfl⟩) (fun a ha => ⟨wt_isSt (h2.2 a ha), by rw [wt_sz a _ (h2.2 a ha)]; rfl⟩) (fun a ha b hb => eqType_all (h.2 a ha) (h2.2 b hb))
theorem eqBinding_step {f0 : List UInt8} {f1 : U} {d0 : List UInt8} {d1 : U} (h0 : f0.length ≤ big) (k0 : d0.length ≤ big) (g1 : wt (.st 1) f1) (j1 : wt (.st 1) d1) (h1 : PEq 11 f1 d1) : PEq 62 (.st [.s f0, f1]) (.st [.s d0, d1]) := by
  obtain ⟨e11_0, e11_1, e11_2, rfl, g11_0, g11_1, g11_2⟩ := inv_Type g1
  obtain ⟨e12_0, e12_1, e12_2, rfl, g12_0, g12_1, g12_2⟩ := inv_Type j1
  refine SpecP_intro Try.func62 rfl (by kernel_rfl) rfl fun A _ => ?_
  (first | refine V_seq_region ?_ | refine V_seq (V_seq_region ?_) | refine V_seq_draw tmix (by kernel_rfl) ?_ | refine V_seq (V_seq_draw tmix (by kernel_rfl) ?_) | refine V_region ?_ | refine V_draw tmix (by kernel_rfl) ?_)
  repeat refine VO_d ?_
  (first | refine VO_nil ?_ | refine VQ_nil ?_)
  (first | refine V_seq_region ?_ | refine V_seq (V_seq_region ?_) | refine V_seq_draw tmix (by kernel_rfl) ?_ | refine V_seq (V_seq_draw tmix (by kernel_rfl) ?_) | refine V_region ?_ | refine V_draw tmix (by kernel_rfl) ?_)
  repeat (first | refine VO_d ?_ | refine VQ_d ?_)
  (first | refine VO_nil ?_ | refine VQ_nil ?_)
  refine V_cond rfl (fun hc => ?_) (fun hc => ?_)
  · (first | refine V_seq_region ?_ | refine V_seq (V_seq_region ?_) | refine V_seq_draw tmix (by kernel_rfl) ?_ | refine V_seq (V_seq_draw tmix (by kernel_rfl) ?_) | refine V_region ?_ | refine V_draw tmix (by kernel_rfl) ?_)
    repeat refine VO_d ?_
    (first | refine VO_nil ?_ | refine VQ_nil ?_)
    refine V_ret ?_
    exact ⟨trivial, ⟨_, rfl, congrArg U.b (deq_false.2 (by intro h; injection h with h; injection h with q0 h; injection q0 with hk; simp [hk] at hc)).symm⟩, trivial⟩
  refine V_skip ?_
  have e0 := (by simpa using hc : f0 = d0)
  clear hc
  (first | refine V_seq_region ?_ | refine V_seq (V_seq_region ?_) | refine V_seq_draw tmix (by kernel_rfl) ?_ | refine V_seq (V_seq_draw tmix (by kernel_rfl) ?_) | refine V_region ?_ | refine V_draw tmix (by kernel_rfl) ?_)
  repeat (first | refine VO_d ?_ | refine VQ_d ?_)
  (first | refine VO_q (Q_call rfl h1 (by (repeat (first | exact trivial | exact rfl | exact ⟨_, rfl⟩ | refine And.intro ?_ ?_)); first | done | fail)) rfl ?_ | refine VQ_q (Q_call rfl h1 (by (repeat (first | exact trivial | exact rfl | exact ⟨_, rfl⟩ | refine And.intro ?_ ?_)); first | done | fail)) rfl ?_ | (refine VO_bare rfl rfl rfl rfl ?_; refine VO_q (Q_call rfl h1 (by (repeat (first | exact trivial | exact rfl | exact ⟨_, rfl⟩ | refine And.intro ?_ ?_)); first | done | fail)) rfl ?_) | refine VQ_run rfl rfl rfl rfl (Q_call rfl h1 (by (repeat (first | exact trivial | exact rfl | exact ⟨_, rfl⟩ | refine And.intro ?_ ?_)); first | done | fail)) rfl ?_)
  repeat (first | refine VO_d ?_ | refine VQ_d ?_)
  (first | refine VO_nil ?_ | refine VQ_nil ?_)
  refine V_cond rfl (fun hc => ?_) (fun hc => ?_)
  · (first | refine V_seq_region ?_ | refine V_seq (V_seq_region ?_) | refine V_seq_draw tmix (by kernel_rfl) ?_ | refine V_seq (V_seq_draw tmix (by kernel_rfl) ?_) | refine V_region ?_ | refine V_draw tmix (by kernel_rfl) ?_)
    repeat refine VO_d ?_
    (first | refine VO_nil ?_ | refine VQ_nil ?_)
    refine V_ret ?_
    exact ⟨trivial, ⟨_, rfl, congrArg U.b (deq_false.2 (by intro h; injection h with h; injection h with q0 h; injection h with q1 h; rw [q1, deq_self] at hc; cases hc)).symm⟩, trivial⟩
  refine V_skip ?_
  have e1 := deq_true.1 (by simpa using hc : deq _ _ = true)
  clear hc
  (first | refine V_seq_region ?_ | refine V_seq (V_seq_region ?_) | refine V_seq_draw tmix (by kernel_rfl) ?_ | refine V_seq (V_seq_draw tmix (by kernel_rfl) ?_) | refine V_region ?_ | refine V_draw tmix (by kernel_rfl) ?_)
  repeat refine VO_d ?_
  (first | refine VO_nil ?_ | refine VQ_nil ?_)
  refine V_ret ?_
  exact ⟨trivial, ⟨_, rfl, congrArg U.b (deq_true.2 (by rw [e0, e1])).symm⟩, trivial⟩

theorem eqBindingS_step {us vs : List U} (hb1 : us.length ≤ big) (hb2 : vs.length ≤ big) (hz : ∀ a ∈ us, a.isSt = true ∧ a.sz = 4) (hz2 : ∀ a ∈ vs, a.isSt = true ∧ a.sz = 4) (ih : ∀ a ∈ us, ∀ b ∈ vs, PEq 62 a b) : PEq 23 (.sl 4 us) (.sl 4 vs) := by
  rw [big_eq] at hb1 hb2
  refine SpecP_intro Try.func23 rfl (by kernel_rfl) rfl fun A _ => ?_
  (first | refine V_seq_region ?_ | refine V_seq (V_seq_region ?_) | refine V_seq_draw tmix (by kernel_rfl) ?_ | refine V_seq (V_seq_draw tmix (by kernel_rfl) ?_) | refine V_region ?_ | refine V_draw tmix (by kernel_rfl) ?_)
  repeat refine VO_d ?_
  (first | refine VO_nil ?_ | refine VQ_nil ?_)
  (first | refine V_seq_region ?_ | refine V_seq (V_seq_region ?_) | refine V_seq_draw tmix (by kernel_rfl) ?_ | refine V_seq (V_seq_draw tmix (by kernel_rfl) ?_) | refine V_region ?_ | refine V_draw tmix (by kernel_rfl) ?_)
  repeat refine VO_d ?_
  (first | refine VO_nil ?_ | refine VQ_nil ?_)
  refine V_cond rfl (fun hc => ?_) (fun hc => ?_)
  · (first | refine V_seq_region ?_ | refine V_seq (V_seq_region ?_) | refine V_seq_draw tmix (by kernel_rfl) ?_ | refine V_seq (V_seq_draw tmix (by kernel_rfl) ?_) | refine V_region ?_ | refine V_draw tmix (by kernel_rfl) ?_)
    repeat refine VO_d ?_
    (first | refine VO_nil ?_ | refine VQ_nil ?_)
    refine V_ret ?_
    exact ⟨trivial, ⟨_, rfl, congrArg U.b (deq_false.2 (by intro h; injection h with _ h; subst h; simp at hc)).symm⟩, trivial⟩
  refine V_skip ?_
  have hll : us.length = vs.length := by simp at hc; omega
  (first | refine V_seq_region ?_ | refine V_seq (V_seq_region ?_) | refine V_seq_draw tmix (by kernel_rfl) ?_ | refine V_seq (V_seq_draw tmix (by kernel_rfl) ?_) | refine V_region ?_ | refine V_draw tmix (by kernel_rfl) ?_)
  repeat refine VO_d ?_
  (first | refine VO_nil ?_ | refine VQ_nil ?_)
  refine V_block ?_
  refine V_loop (α := Nat)
    (fun k => ⟨[(0, .d (.sl 4 us)), (1, .d (.sl 4 vs)), (5, .d (.i .i64 k))], [], Try.f23.ntmps⟩)
    (fun k => k ≤ us.length ∧ ∀ j, j < k → us[j]? = vs[j]?)
    (fun k => us.length - k) 0 ⟨rfl, ⟨⟨rfl, rfl⟩, ⟨rfl, rfl⟩, ⟨rfl, rfl⟩, trivial⟩, ⟨[], rfl⟩, rfl⟩ ⟨by simp, by simp⟩ ?_
  rintro k ⟨hk, hsame⟩
  (first | refine V_seq_region ?_ | refine V_seq (V_seq_region ?_) | refine V_seq_draw tmix (by kernel_rfl) ?_ | refine V_seq (V_seq_draw tmix (by kernel_rfl) ?_) | refine V_region ?_ | refine V_draw tmix (by kernel_rfl) ?_)
  repeat refine VO_d ?_
  (first | refine VO_nil ?_ | refine VQ_nil ?_)
  refine V_cond rfl (fun hc2 => ?_) (fun hc2 => ?_)
  · refine V_skip ?_
    simp only [decide_eq_true_eq] at hc2
    have hkl : k < us.length := by omega
    have hkv : k < vs.length := by omega
    have hget : us[k]? = some us[k] := List.getElem?_eq_getElem hkl
    have hgev : vs[k]? = some vs[k] := List.getElem?_eq_getElem hkv
    have hmem : us[k] ∈ us := List.getElem_mem hkl
    have hmev : vs[k] ∈ vs := List.getElem_mem hkv
    obtain ⟨hst, hsz⟩ := hz _ hmem
    obtain ⟨hst2, hsz2⟩ := hz2 _ hmev
    refine V_seq (V_block ?_)
    (first | refine V_seq_region ?_ | refine V_seq (V_seq_region ?_) | refine V_seq_draw tmix (by kernel_rfl) ?_ | refine V_seq (V_seq_draw tmix (by kernel_rfl) ?_) | refine V_region ?_ | refine V_draw tmix (by kernel_rfl) ?_)
    repeat (first | refine VO_d ?_ | refine VQ_d ?_)
    (first | refine VO_q (Q_index rfl rfl TE.h TI.h (by omega) hget) rfl ?_ | refine VQ_q (Q_index rfl rfl TE.h TI.h (by omega) hget) rfl ?_ | (refine VO_bare rfl rfl rfl rfl ?_; refine VO_q (Q_index rfl rfl TE.h TI.h (by omega) hget) rfl ?_) | refine VQ_run rfl rfl rfl rfl (Q_index rfl rfl TE.h TI.h (by omega) hget) rfl ?_)
    (first | refine VO_q (Q_load rfl TI.h hst hsz) rfl ?_ | refine VQ_q (Q_load rfl TI.h hst hsz) rfl ?_ | (refine VO_bare rfl rfl rfl rfl ?_; refine VO_q (Q_load rfl TI.h hst hsz) rfl ?_) | refine VQ_run rfl rfl rfl rfl (Q_load rfl TI.h hst hsz) rfl ?_)
    repeat (first | refine VO_d ?_ | refine VQ_d ?_)
    (first | refine VO_q (Q_index rfl rfl TE.h TI.h (by omega) hgev) rfl ?_ | refine VQ_q (Q_index rfl rfl TE.h TI.h (by omega) hgev) rfl ?_ | (refine VO_bare rfl rfl rfl rfl ?_; refine VO_q (Q_index rfl rfl TE.h TI.h (by omega) hgev) rfl ?_) | refine VQ_run rfl rfl rfl rfl (Q_index rfl rfl TE.h TI.h (by omega) hgev) rfl ?_)
    (first | refine VO_q (Q_load rfl TI.h hst2 hsz2) rfl ?_ | refine VQ_q (Q_load rfl TI.h hst2 hsz2) rfl ?_ | (refine VO_bare rfl rfl rfl rfl ?_; refine VO_q (Q_load rfl TI.h hst2 hsz2) rfl ?_) | refine VQ_run rfl rfl rfl rfl (Q_load rfl TI.h hst2 hsz2) rfl ?_)
    (first | refine VO_q (Q_call rfl (ih _ hmem _ hmev) (by (repeat (first | exact trivial | exact rfl | exact ⟨_, rfl⟩ | refine And.intro ?_ ?_)); first | done | fail)) rfl ?_ | refine VQ_q (Q_call rfl (ih _ hmem _ hmev) (by (repeat (first | exact trivial | exact rfl | exact ⟨_, rfl⟩ | refine And.intro ?_ ?_)); first | done | fail)) rfl ?_ | (refine VO_bare rfl rfl rfl rfl ?_; refine VO_q (Q_call rfl (ih _ hmem _ hmev) (by (repeat (first | exact trivial | exact rfl | exact ⟨_, rfl⟩ | refine And.intro ?_ ?_)); first | done | fail)) rfl ?_) | refine VQ_run rfl rfl rfl rfl (Q_call rfl (ih _ hmem _ hmev) (by (repeat (first | exact trivial | exact rfl | exact ⟨_, rfl⟩ | refine And.intro ?_ ?_)); first | done | fail)) rfl ?_)
    repeat (first | refine VO_d ?_ | refine VQ_d ?_)
    (first | refine VO_nil ?_ | refine VQ_nil ?_)
    refine V_cond rfl (fun hc3 => ?_) (fun hc3 => ?_)
    · (first | refine V_seq_region ?_ | refine V_seq (V_seq_region ?_) | refine V_seq_draw tmix (by kernel_rfl) ?_ | refine V_seq (V_seq_draw tmix (by kernel_rfl) ?_) | refine V_region ?_ | refine V_draw tmix (by kernel_rfl) ?_)
      repeat refine VO_d ?_
      (first | refine VO_nil ?_ | refine VQ_nil ?_)
      refine V_ret ?_
      exact ⟨trivial, ⟨_, rfl, congrArg U.b (deq_false.2 (by intro h; injection h with _ h; subst h; rw [deq_self] at hc3; cases hc3)).symm⟩, trivial⟩
    refine V_skip ?_
    have heq : us[k] = vs[k] := deq_true.1 (by simpa using hc3)
    (first | refine V_seq_region ?_ | refine V_seq (V_seq_region ?_) | refine V_seq_draw tmix (by kernel_rfl) ?_ | refine V_seq (V_seq_draw tmix (by kernel_rfl) ?_) | refine V_region ?_ | refine V_draw tmix (by kernel_rfl) ?_)
    repeat refine VO_d ?_
    (first | refine VO_nil ?_ | refine VQ_nil ?_)
    refine ⟨k + 1, ⟨by omega, fun j hj => ?_⟩, by omega, ⟨rfl, ⟨⟨rfl, rfl⟩, ⟨rfl, rfl⟩, ⟨rfl, rfl⟩, trivial⟩, ⟨[], rfl⟩, rfl⟩⟩
    by_cases hjk : j = k
    · subst hjk; rw [hget, hgev, heq]
    · exact hsame j (by omega)
  · refine V_exit ?_
    simp only [decide_eq_false_iff_not] at hc2
    have hkl : k = us.length := by omega
    subst hkl
    have hall : us = vs := by
      apply List.ext_getElem?
      intro j
      by_cases hj : j < us.length
      · exact hsame j hj
      · rw [List.getElem?_eq_none (by omega), List.getElem?_eq_none (by omega)]
    show V _ _ _ _ _
    (first | refine V_seq_region ?_ | refine V_seq (V_seq_region ?_) | refine V_seq_draw tmix (by kernel_rfl) ?_ | refine V_seq (V_seq_draw tmix (by kernel_rfl) ?_) | refine V_region ?_ | refine V_draw tmix (by kernel_rfl) ?_)
    repeat refine VO_d ?_
    (first | refine VO_nil ?_ | refine VQ_nil ?_)
    refine V_ret ?_
    exact ⟨trivial, ⟨_, rfl, congrArg U.b (deq_true.2 (by rw [hall])).symm⟩, trivial⟩

theorem eqBinding_grp (u : U) : (∀ v, wt (.st 2) u → wt (.st 2) v → PEq 62 u v) := by
  refine U.ind (M := fun u => (∀ v, wt (.st 2) u → wt (.st 2) v → PEq 62 u v)) (fun u ih => ?_) u
  refine ?_
  · intro v h h2
    obtain ⟨f0, f1, rfl, p0, p1⟩ := inv_Binding h
    obtain ⟨d0, d1, rfl, q0, q1⟩ := inv_Binding h2
    exact eqBinding_step p0 q0 p1 q1 (eqType_all p1 q1)
theorem eqBinding_all {u v : U} (h : wt (.st 2) u) (h2 : wt (.st 2) v) : PEq 62 u v := (eqBinding_grp u) v h h2
theorem eqBindingS_all {us vs : List U} (h : us.length ≤ big ∧ ∀ x ∈ us, wt (.st 2) x) (h2 : vs.length ≤ big ∧ ∀ x ∈ vs, wt (.st 2) x) : PEq 23 (.sl 4 us) (.sl 4 vs) := eqBindingS_step h.1 h2.1 (fun a ha => ⟨wt_isSt (h.2 a ha), by rw [wt_sz a _ (h.2 a ha)]; rfl⟩) (fun a ha => ⟨wt_isSt (h2.2 a ha), by rw [wt_sz a _ (h2.2 a ha)]; rfl⟩) (fun a ha b hb => eqBinding_all (h.2 a ha) (h2.2 b hb))
theorem eqInstanceRef_step {f0 : Int} {f1 : Int} {d0 : Int} {d1 : Int}  : PEq 111 (.st [.i .i64 f0, .i .i64 f1]) (.st [.i .i64 d0, .i .i64 d1]) := by
  refine SpecP_intro Try.func111 rfl (by kernel_rfl) rfl fun A _ => ?_
  (first | refine V_seq_region ?_ | refine V_seq (V_seq_region ?_) | refine V_seq_draw tmix (by kernel_rfl) ?_ | refine V_seq (V_seq_draw tmix (by kernel_rfl) ?_) | refine V_region ?_ | refine V_draw tmix (by kernel_rfl) ?_)
  repeat refine VO_d ?_
  (first | refine VO_nil ?_ | refine VQ_nil ?_)
  (first | refine V_seq_region ?_ | refine V_seq (V_seq_region ?_) | refine V_seq_draw tmix (by kernel_rfl) ?_ | refine V_seq (V_seq_draw tmix (by kernel_rfl) ?_) | refine V_region ?_ | refine V_draw tmix (by kernel_rfl) ?_)
  repeat (first | refine VO_d ?_ | refine VQ_d ?_)
  (first | refine VO_nil ?_ | refine VQ_nil ?_)
  refine V_cond rfl (fun hc => ?_) (fun hc => ?_)
  · (first | refine V_seq_region ?_ | refine V_seq (V_seq_region ?_) | refine V_seq_draw tmix (by kernel_rfl) ?_ | refine V_seq (V_seq_draw tmix (by kernel_rfl) ?_) | refine V_region ?_ | refine V_draw tmix (by kernel_rfl) ?_)
    repeat refine VO_d ?_
    (first | refine VO_nil ?_ | refine VQ_nil ?_)
    refine V_ret ?_
    exact ⟨trivial, ⟨_, rfl, congrArg U.b (deq_false.2 (by intro h; injection h with h; injection h with q0 h; injection q0 with _ hk; simp [hk] at hc)).symm⟩, trivial⟩
  refine V_skip ?_
  have e0 := (by simpa using hc : f0 = d0)
  clear hc
  (first | refine V_seq_region ?_ | refine V_seq (V_seq_region ?_) | refine V_seq_draw tmix (by kernel_rfl) ?_ | refine V_seq (V_seq_draw tmix (by kernel_rfl) ?_) | refine V_region ?_ | refine V_draw tmix (by kernel_rfl) ?_)
  repeat (first | refine VO_d ?_ | refine VQ_d ?_)
  (first | refine VO_nil ?_ | refine VQ_nil ?_)
  refine V_cond rfl (fun hc => ?_) (fun hc => ?_)
  · (first | refine V_seq_region ?_ | refine V_seq (V_seq_region ?_) | refine V_seq_draw tmix (by kernel_rfl) ?_ | refine V_seq (V_seq_draw tmix (by kernel_rfl) ?_) | refine V_region ?_ | refine V_draw tmix (by kernel_rfl) ?_)
    repeat refine VO_d ?_
    (first | refine VO_nil ?_ | refine VQ_nil ?_)
    refine V_ret ?_
    exact ⟨trivial, ⟨_, rfl, congrArg U.b (deq_false.2 (by intro h; injection h with h; injection h with q0 h; injection h with q1 h; injection q1 with _ hk; simp [hk] at hc)).symm⟩, trivial⟩
  refine V_skip ?_
  have e1 := (by simpa using hc : f1 = d1)
  clear hc
  (first | refine V_seq_region ?_ | refine V_seq (V_seq_region ?_) | refine V_seq_draw tmix (by kernel_rfl) ?_ | refine V_seq (V_seq_draw tmix (by kernel_rfl) ?_) | refine V_region ?_ | refine V_draw tmix (by kernel_rfl) ?_)
  repeat refine VO_d ?_
  (first | refine VO_nil ?_ | refine VQ_nil ?_)
  refine V_ret ?_
  exact ⟨trivial, ⟨_, rfl, congrArg U.b (deq_true.2 (by rw [e0, e1])).symm⟩, trivial⟩

theorem eqInstanceRef_grp (u : U) : (∀ v, wt (.st 16) u → wt (.st 16) v → PEq 111 u v) := by
  refine U.ind (M := fun u => (∀ v, wt (.st 16) u → wt (.st 16) v → PEq 111 u v)) (fun u ih => ?_) u
  refine ?_
  · intro v h h2
    obtain ⟨f0, f1, rfl, p0, p1⟩ := inv_InstanceRef h
    obtain ⟨d0, d1, rfl, q0, q1⟩ := inv_InstanceRef h2
    exact eqInstanceRef_step 
theorem eqInstanceRef_all {u v : U} (h : wt (.st 16) u) (h2 : wt (.st 16) v) : PEq 111 u v := (eqInstanceRef_grp u) v h h2
theorem eqEvidence_step {f0 : Int} {f1 : Int} {f2 : U} {f3 : List U} {d0 : Int} {d1 : Int} {d2 : U} {d3 : List U} (g2 : wt (.st 16) f2) (j2 : wt (.st 16) d2) (h2 : PEq 111 f2 d2) (h3 : PEq 59 (.sl 5 f3) (.sl 5 d3)) : PEq 96 (.st [.i .i64 f0, .i .i64 f1, f2, .sl 5 f3]) (.st [.i .i64 d0, .i .i64 d1, d2, .sl 5 d3]) := by
  obtain ⟨e13_0, e13_1, rfl, g13_0, g13_1⟩ := inv_InstanceRef g2
  obtain ⟨e14_0, e14_1, rfl, g14_0, g14_1⟩ := inv_InstanceRef j2
  refine SpecP_intro Try.func96 rfl (by kernel_rfl) rfl fun A _ => ?_
  (first | refine V_seq_region ?_ | refine V_seq (V_seq_region ?_) | refine V_seq_draw tmix (by kernel_rfl) ?_ | refine V_seq (V_seq_draw tmix (by kernel_rfl) ?_) | refine V_region ?_ | refine V_draw tmix (by kernel_rfl) ?_)
  repeat refine VO_d ?_
  (first | refine VO_nil ?_ | refine VQ_nil ?_)
  (first | refine V_seq_region ?_ | refine V_seq (V_seq_region ?_) | refine V_seq_draw tmix (by kernel_rfl) ?_ | refine V_seq (V_seq_draw tmix (by kernel_rfl) ?_) | refine V_region ?_ | refine V_draw tmix (by kernel_rfl) ?_)
  repeat (first | refine VO_d ?_ | refine VQ_d ?_)
  (first | refine VO_nil ?_ | refine VQ_nil ?_)
  refine V_cond rfl (fun hc => ?_) (fun hc => ?_)
  · (first | refine V_seq_region ?_ | refine V_seq (V_seq_region ?_) | refine V_seq_draw tmix (by kernel_rfl) ?_ | refine V_seq (V_seq_draw tmix (by kernel_rfl) ?_) | refine V_region ?_ | refine V_draw tmix (by kernel_rfl) ?_)
    repeat refine VO_d ?_
    (first | refine VO_nil ?_ | refine VQ_nil ?_)
    refine V_ret ?_
    exact ⟨trivial, ⟨_, rfl, congrArg U.b (deq_false.2 (by intro h; injection h with h; injection h with q0 h; injection q0 with _ hk; simp [hk] at hc)).symm⟩, trivial⟩
  refine V_skip ?_
  have e0 := (by simpa using hc : f0 = d0)
  clear hc
  (first | refine V_seq_region ?_ | refine V_seq (V_seq_region ?_) | refine V_seq_draw tmix (by kernel_rfl) ?_ | refine V_seq (V_seq_draw tmix (by kernel_rfl) ?_) | refine V_region ?_ | refine V_draw tmix (by kernel_rfl) ?_)
  repeat (first | refine VO_d ?_ | refine VQ_d ?_)
  (first | refine VO_nil ?_ | refine VQ_nil ?_)
  refine V_cond rfl (fun hc => ?_) (fun hc => ?_)
  · (first | refine V_seq_region ?_ | refine V_seq (V_seq_region ?_) | refine V_seq_draw tmix (by kernel_rfl) ?_ | refine V_seq (V_seq_draw tmix (by kernel_rfl) ?_) | refine V_region ?_ | refine V_draw tmix (by kernel_rfl) ?_)
    repeat refine VO_d ?_
    (first | refine VO_nil ?_ | refine VQ_nil ?_)
    refine V_ret ?_
    exact ⟨trivial, ⟨_, rfl, congrArg U.b (deq_false.2 (by intro h; injection h with h; injection h with q0 h; injection h with q1 h; injection q1 with _ hk; simp [hk] at hc)).symm⟩, trivial⟩
  refine V_skip ?_
  have e1 := (by simpa using hc : f1 = d1)
  clear hc
  (first | refine V_seq_region ?_ | refine V_seq (V_seq_region ?_) | refine V_seq_draw tmix (by kernel_rfl) ?_ | refine V_seq (V_seq_draw tmix (by kernel_rfl) ?_) | refine V_region ?_ | refine V_draw tmix (by kernel_rfl) ?_)
  repeat (first | refine VO_d ?_ | refine VQ_d ?_)
  (first | refine VO_q (Q_call rfl h2 (by (repeat (first | exact trivial | exact rfl | exact ⟨_, rfl⟩ | refine And.intro ?_ ?_)); first | done | fail)) rfl ?_ | refine VQ_q (Q_call rfl h2 (by (repeat (first | exact trivial | exact rfl | exact ⟨_, rfl⟩ | refine And.intro ?_ ?_)); first | done | fail)) rfl ?_ | (refine VO_bare rfl rfl rfl rfl ?_; refine VO_q (Q_call rfl h2 (by (repeat (first | exact trivial | exact rfl | exact ⟨_, rfl⟩ | refine And.intro ?_ ?_)); first | done | fail)) rfl ?_) | refine VQ_run rfl rfl rfl rfl (Q_call rfl h2 (by (repeat (first | exact trivial | exact rfl | exact ⟨_, rfl⟩ | refine And.intro ?_ ?_)); first | done | fail)) rfl ?_)
  repeat (first | refine VO_d ?_ | refine VQ_d ?_)
  (first | refine VO_nil ?_ | refine VQ_nil ?_)
  refine V_cond rfl (fun hc => ?_) (fun hc => ?_)
  · (first | refine V_seq_region ?_ | refine V_seq (V_seq_region ?_) | refine V_seq_draw tmix (by kernel_rfl) ?_ | refine V_seq (V_seq_draw tmix (by kernel_rfl) ?_) | refine V_region ?_ | refine V_draw tmix (by kernel_rfl) ?_)
    repeat refine VO_d ?_
    (first | refine VO_nil ?_ | refine VQ_nil ?_)
    refine V_ret ?_
    exact ⟨trivial, ⟨_, rfl, congrArg U.b (deq_false.2 (by intro h; injection h with h; injection h with q0 h; injection h with q1 h; injection h with q2 h; rw [q2, deq_self] at hc; cases hc)).symm⟩, trivial⟩
  refine V_skip ?_
  have e2 := deq_true.1 (by simpa using hc : deq _ _ = true)
  clear hc
  (first | refine V_seq_region ?_ | refine V_seq (V_seq_region ?_) | refine V_seq_draw tmix (by kernel_rfl) ?_ | refine V_seq (V_seq_draw tmix (by kernel_rfl) ?_) | refine V_region ?_ | refine V_draw tmix (by kernel_rfl) ?_)
  repeat (first | refine VO_d ?_ | refine VQ_d ?_)
  (first | refine VO_q (Q_call rfl h3 (by (repeat (first | exact trivial | exact rfl | exact ⟨_, rfl⟩ | refine And.intro ?_ ?_)); first | done | fail)) rfl ?_ | refine VQ_q (Q_call rfl h3 (by (repeat (first | exact trivial | exact rfl | exact ⟨_, rfl⟩ | refine And.intro ?_ ?_)); first | done | fail)) rfl ?_ | (refine VO_bare rfl rfl rfl rfl ?_; refine VO_q (Q_call rfl h3 (by (repeat (first | exact trivial | exact rfl | exact ⟨_, rfl⟩ | refine And.intro ?_ ?_)); first | done | fail)) rfl ?_) | refine VQ_run rfl rfl rfl rfl (Q_call rfl h3 (by (repeat (first | exact trivial | exact rfl | exact ⟨_, rfl⟩ | refine And.intro ?_ ?_)); first | done | fail)) rfl ?_)
  repeat (first | refine VO_d ?_ | refine VQ_d ?_)
  (first | refine VO_nil ?_ | refine VQ_nil ?_)
  refine V_cond rfl (fun hc => ?_) (fun hc => ?_)
  · (first | refine V_seq_region ?_ | refine V_seq (V_seq_region ?_) | refine V_seq_draw tmix (by kernel_rfl) ?_ | refine V_seq (V_seq_draw tmix (by kernel_rfl) ?_) | refine V_region ?_ | refine V_draw tmix (by kernel_rfl) ?_)
    repeat refine VO_d ?_
    (first | refine VO_nil ?_ | refine VQ_nil ?_)
    refine V_ret ?_
    exact ⟨trivial, ⟨_, rfl, congrArg U.b (deq_false.2 (by intro h; injection h with h; injection h with q0 h; injection h with q1 h; injection h with q2 h; injection h with q3 h; rw [q3, deq_self] at hc; cases hc)).symm⟩, trivial⟩
  refine V_skip ?_
  have e3 := deq_true.1 (by simpa using hc : deq _ _ = true)
  clear hc
  (first | refine V_seq_region ?_ | refine V_seq (V_seq_region ?_) | refine V_seq_draw tmix (by kernel_rfl) ?_ | refine V_seq (V_seq_draw tmix (by kernel_rfl) ?_) | refine V_region ?_ | refine V_draw tmix (by kernel_rfl) ?_)
  repeat refine VO_d ?_
  (first | refine VO_nil ?_ | refine VQ_nil ?_)
  refine V_ret ?_
  exact ⟨trivial, ⟨_, rfl, congrArg U.b (deq_true.2 (by rw [e0, e1, e2, e3])).symm⟩, trivial⟩

theorem eqEvidenceS_step {us vs : List U} (hb1 : us.length ≤ big) (hb2 : vs.length ≤ big) (hz : ∀ a ∈ us, a.isSt = true ∧ a.sz = 5) (hz2 : ∀ a ∈ vs, a.isSt = true ∧ a.sz = 5) (ih : ∀ a ∈ us, ∀ b ∈ vs, PEq 96 a b) : PEq 59 (.sl 5 us) (.sl 5 vs) := by
  rw [big_eq] at hb1 hb2
  refine SpecP_intro Try.func59 rfl (by kernel_rfl) rfl fun A _ => ?_
  (first | refine V_seq_region ?_ | refine V_seq (V_seq_region ?_) | refine V_seq_draw tmix (by kernel_rfl) ?_ | refine V_seq (V_seq_draw tmix (by kernel_rfl) ?_) | refine V_region ?_ | refine V_draw tmix (by kernel_rfl) ?_)
  repeat refine VO_d ?_
  (first | refine VO_nil ?_ | refine VQ_nil ?_)
  (first | refine V_seq_region ?_ | refine V_seq (V_seq_region ?_) | refine V_seq_draw tmix (by kernel_rfl) ?_ | refine V_seq (V_seq_draw tmix (by kernel_rfl) ?_) | refine V_region ?_ | refine V_draw tmix (by kernel_rfl) ?_)
  repeat refine VO_d ?_
  (first | refine VO_nil ?_ | refine VQ_nil ?_)
  refine V_cond rfl (fun hc => ?_) (fun hc => ?_)
  · (first | refine V_seq_region ?_ | refine V_seq (V_seq_region ?_) | refine V_seq_draw tmix (by kernel_rfl) ?_ | refine V_seq (V_seq_draw tmix (by kernel_rfl) ?_) | refine V_region ?_ | refine V_draw tmix (by kernel_rfl) ?_)
    repeat refine VO_d ?_
    (first | refine VO_nil ?_ | refine VQ_nil ?_)
    refine V_ret ?_
    exact ⟨trivial, ⟨_, rfl, congrArg U.b (deq_false.2 (by intro h; injection h with _ h; subst h; simp at hc)).symm⟩, trivial⟩
  refine V_skip ?_
  have hll : us.length = vs.length := by simp at hc; omega
  (first | refine V_seq_region ?_ | refine V_seq (V_seq_region ?_) | refine V_seq_draw tmix (by kernel_rfl) ?_ | refine V_seq (V_seq_draw tmix (by kernel_rfl) ?_) | refine V_region ?_ | refine V_draw tmix (by kernel_rfl) ?_)
  repeat refine VO_d ?_
  (first | refine VO_nil ?_ | refine VQ_nil ?_)
  refine V_block ?_
  refine V_loop (α := Nat)
    (fun k => ⟨[(0, .d (.sl 5 us)), (1, .d (.sl 5 vs)), (5, .d (.i .i64 k))], [], Try.f59.ntmps⟩)
    (fun k => k ≤ us.length ∧ ∀ j, j < k → us[j]? = vs[j]?)
    (fun k => us.length - k) 0 ⟨rfl, ⟨⟨rfl, rfl⟩, ⟨rfl, rfl⟩, ⟨rfl, rfl⟩, trivial⟩, ⟨[], rfl⟩, rfl⟩ ⟨by simp, by simp⟩ ?_
  rintro k ⟨hk, hsame⟩
  (first | refine V_seq_region ?_ | refine V_seq (V_seq_region ?_) | refine V_seq_draw tmix (by kernel_rfl) ?_ | refine V_seq (V_seq_draw tmix (by kernel_rfl) ?_) | refine V_region ?_ | refine V_draw tmix (by kernel_rfl) ?_)
  repeat refine VO_d ?_
  (first | refine VO_nil ?_ | refine VQ_nil ?_)
  refine V_cond rfl (fun hc2 => ?_) (fun hc2 => ?_)
  · refine V_skip ?_
    simp only [decide_eq_true_eq] at hc2
    have hkl : k < us.length := by omega
    have hkv : k < vs.length := by omega
    have hget : us[k]? = some us[k] := List.getElem?_eq_getElem hkl
    have hgev : vs[k]? = some vs[k] := List.getElem?_eq_getElem hkv
    have hmem : us[k] ∈ us := List.getElem_mem hkl
    have hmev : vs[k] ∈ vs := List.getElem_mem hkv
    obtain ⟨hst, hsz⟩ := hz _ hmem
    obtain ⟨hst2, hsz2⟩ := hz2 _ hmev
    refine V_seq (V_block ?_)
    (first | refine V_seq_region ?_ | refine V_seq (V_seq_region ?_) | refine V_seq_draw tmix (by kernel_rfl) ?_ | refine V_seq (V_seq_draw tmix (by kernel_rfl) ?_) | refine V_region ?_ | refine V_draw tmix (by kernel_rfl) ?_)
    repeat (first | refine VO_d ?_ | refine VQ_d ?_)
    (first | refine VO_q (Q_index rfl rfl TE.h TI.h (by omega) hget) rfl ?_ | refine VQ_q (Q_index rfl rfl TE.h TI.h (by omega) hget) rfl ?_ | (refine VO_bare rfl rfl rfl rfl ?_; refine VO_q (Q_index rfl rfl TE.h TI.h (by omega) hget) rfl ?_) | refine VQ_run rfl rfl rfl rfl (Q_index rfl rfl TE.h TI.h (by omega) hget) rfl ?_)
    (first | refine VO_q (Q_load rfl TI.h hst hsz) rfl ?_ | refine VQ_q (Q_load rfl TI.h hst hsz) rfl ?_ | (refine VO_bare rfl rfl rfl rfl ?_; refine VO_q (Q_load rfl TI.h hst hsz) rfl ?_) | refine VQ_run rfl rfl rfl rfl (Q_load rfl TI.h hst hsz) rfl ?_)
    repeat (first | refine VO_d ?_ | refine VQ_d ?_)
    (first | refine VO_q (Q_index rfl rfl TE.h TI.h (by omega) hgev) rfl ?_ | refine VQ_q (Q_index rfl rfl TE.h TI.h (by omega) hgev) rfl ?_ | (refine VO_bare rfl rfl rfl rfl ?_; refine VO_q (Q_index rfl rfl TE.h TI.h (by omega) hgev) rfl ?_) | refine VQ_run rfl rfl rfl rfl (Q_index rfl rfl TE.h TI.h (by omega) hgev) rfl ?_)
    (first | refine VO_q (Q_load rfl TI.h hst2 hsz2) rfl ?_ | refine VQ_q (Q_load rfl TI.h hst2 hsz2) rfl ?_ | (refine VO_bare rfl rfl rfl rfl ?_; refine VO_q (Q_load rfl TI.h hst2 hsz2) rfl ?_) | refine VQ_run rfl rfl rfl rfl (Q_load rfl TI.h hst2 hsz2) rfl ?_)
    (first | refine VO_q (Q_call rfl (ih _ hmem _ hmev) (by (repeat (first | exact trivial | exact rfl | exact ⟨_, rfl⟩ | refine And.intro ?_ ?_)); first | done | fail)) rfl ?_ | refine VQ_q (Q_call rfl (ih _ hmem _ hmev) (by (repeat (first | exact trivial | exact rfl | exact ⟨_, rfl⟩ | refine And.intro ?_ ?_)); first | done | fail)) rfl ?_ | (refine VO_bare rfl rfl rfl rfl ?_; refine VO_q (Q_call rfl (ih _ hmem _ hmev) (by (repeat (first | exact trivial | exact rfl | exact ⟨_, rfl⟩ | refine And.intro ?_ ?_)); first | done | fail)) rfl ?_) | refine VQ_run rfl rfl rfl rfl (Q_call rfl (ih _ hmem _ hmev) (by (repeat (first | exact trivial | exact rfl | exact ⟨_, rfl⟩ | refine And.intro ?_ ?_)); first | done | fail)) rfl ?_)
    repeat (first | refine VO_d ?_ | refine VQ_d ?_)
    (first | refine VO_nil ?_ | refine VQ_nil ?_)
    refine V_cond rfl (fun hc3 => ?_) (fun hc3 => ?_)
    · (first | refine V_seq_region ?_ | refine V_seq (V_seq_region ?_) | refine V_seq_draw tmix (by kernel_rfl) ?_ | refine V_seq (V_seq_draw tmix (by kernel_rfl) ?_) | refine V_region ?_ | refine V_draw tmix (by kernel_rfl) ?_)
      repeat refine VO_d ?_
      (first | refine VO_nil ?_ | refine VQ_nil ?_)
      refine V_ret ?_
      exact ⟨trivial, ⟨_, rfl, congrArg U.b (deq_false.2 (by intro h; injection h with _ h; subst h; rw [deq_self] at hc3; cases hc3)).symm⟩, trivial⟩
    refine V_skip ?_
    have heq : us[k] = vs[k] := deq_true.1 (by simpa using hc3)
    (first | refine V_seq_region ?_ | refine V_seq (V_seq_region ?_) | refine V_seq_draw tmix (by kernel_rfl) ?_ | refine V_seq (V_seq_draw tmix (by kernel_rfl) ?_) | refine V_region ?_ | refine V_draw tmix (by kernel_rfl) ?_)
    repeat refine VO_d ?_
    (first | refine VO_nil ?_ | refine VQ_nil ?_)
    refine ⟨k + 1, ⟨by omega, fun j hj => ?_⟩, by omega, ⟨rfl, ⟨⟨rfl, rfl⟩, ⟨rfl, rfl⟩, ⟨rfl, rfl⟩, trivial⟩, ⟨[], rfl⟩, rfl⟩⟩
    by_cases hjk : j = k
    · subst hjk; rw [hget, hgev, heq]
    · exact hsame j (by omega)
  · refine V_exit ?_
    simp only [decide_eq_false_iff_not] at hc2
    have hkl : k = us.length := by omega
    subst hkl
    have hall : us = vs := by
      apply List.ext_getElem?
      intro j
      by_cases hj : j < us.length
      · exact hsame j hj
      · rw [List.getElem?_eq_none (by omega), List.getElem?_eq_none (by omega)]
    show V _ _ _ _ _
    (first | refine V_seq_region ?_ | refine V_seq (V_seq_region ?_) | refine V_seq_draw tmix (by kernel_rfl) ?_ | refine V_seq (V_seq_draw tmix (by kernel_rfl) ?_) | refine V_region ?_ | refine V_draw tmix (by kernel_rfl) ?_)
    repeat refine VO_d ?_
    (first | refine VO_nil ?_ | refine VQ_nil ?_)
    refine V_ret ?_
    exact ⟨trivial, ⟨_, rfl, congrArg U.b (deq_true.2 (by rw [hall])).symm⟩, trivial⟩

theorem eqEvidence_grp (u : U) : (∀ v, wt (.st 18) u → wt (.st 18) v → PEq 96 u v) := by
  refine U.ind (M := fun u => (∀ v, wt (.st 18) u → wt (.st 18) v → PEq 96 u v)) (fun u ih => ?_) u
  refine ?_
  · intro v h h2
    obtain ⟨f0, f1, f2, f3, rfl, p0, p1, p2, p3⟩ := inv_Evidence h
    obtain ⟨d0, d1, d2, d3, rfl, q0, q1, q2, q3⟩ := inv_Evidence h2
    exact eqEvidence_step p2 q2 (eqInstanceRef_all p2 q2) (eqEvidenceS_step p3.1 q3.1 (fun a ha => ⟨wt_isSt (p3.2 a ha), by rw [wt_sz a _ (p3.2 a ha)]; rfl⟩) (fun a ha => ⟨wt_isSt (q3.2 a ha), by rw [wt_sz a _ (q3.2 a ha)]; rfl⟩) (fun a ha b hb => (ih a (by have := nn_of_mem ha; simp only [U.nn, U.nns]; omega)) b (p3.2 a ha) (q3.2 b hb)))
theorem eqEvidence_all {u v : U} (h : wt (.st 18) u) (h2 : wt (.st 18) v) : PEq 96 u v := (eqEvidence_grp u) v h h2
theorem eqEvidenceS_all {us vs : List U} (h : us.length ≤ big ∧ ∀ x ∈ us, wt (.st 18) x) (h2 : vs.length ≤ big ∧ ∀ x ∈ vs, wt (.st 18) x) : PEq 59 (.sl 5 us) (.sl 5 vs) := eqEvidenceS_step h.1 h2.1 (fun a ha => ⟨wt_isSt (h.2 a ha), by rw [wt_sz a _ (h.2 a ha)]; rfl⟩) (fun a ha => ⟨wt_isSt (h2.2 a ha), by rw [wt_sz a _ (h2.2 a ha)]; rfl⟩) (fun a ha b hb => eqEvidence_all (h.2 a ha) (h2.2 b hb))
theorem eqStringS_step {us vs : List U} (hb1 : us.length ≤ big) (hb2 : vs.length ≤ big) (hz : ∀ a ∈ us, ∃ l : List UInt8, a = .s l ∧ l.length ≤ big) (hz2 : ∀ a ∈ vs, ∃ l : List UInt8, a = .s l ∧ l.length ≤ big) : PEq 112 (.sl 1 us) (.sl 1 vs) := by
  rw [big_eq] at hb1 hb2
  refine SpecP_intro Try.func112 rfl (by kernel_rfl) rfl fun A _ => ?_
  (first | refine V_seq_region ?_ | refine V_seq (V_seq_region ?_) | refine V_seq_draw tmix (by kernel_rfl) ?_ | refine V_seq (V_seq_draw tmix (by kernel_rfl) ?_) | refine V_region ?_ | refine V_draw tmix (by kernel_rfl) ?_)
  repeat refine VO_d ?_
  (first | refine VO_nil ?_ | refine VQ_nil ?_)
  (first | refine V_seq_region ?_ | refine V_seq (V_seq_region ?_) | refine V_seq_draw tmix (by kernel_rfl) ?_ | refine V_seq (V_seq_draw tmix (by kernel_rfl) ?_) | refine V_region ?_ | refine V_draw tmix (by kernel_rfl) ?_)
  repeat refine VO_d ?_
  (first | refine VO_nil ?_ | refine VQ_nil ?_)
  refine V_cond rfl (fun hc => ?_) (fun hc => ?_)
  · (first | refine V_seq_region ?_ | refine V_seq (V_seq_region ?_) | refine V_seq_draw tmix (by kernel_rfl) ?_ | refine V_seq (V_seq_draw tmix (by kernel_rfl) ?_) | refine V_region ?_ | refine V_draw tmix (by kernel_rfl) ?_)
    repeat refine VO_d ?_
    (first | refine VO_nil ?_ | refine VQ_nil ?_)
    refine V_ret ?_
    exact ⟨trivial, ⟨_, rfl, congrArg U.b (deq_false.2 (by intro h; injection h with _ h; subst h; simp at hc)).symm⟩, trivial⟩
  refine V_skip ?_
  have hll : us.length = vs.length := by simp at hc; omega
  (first | refine V_seq_region ?_ | refine V_seq (V_seq_region ?_) | refine V_seq_draw tmix (by kernel_rfl) ?_ | refine V_seq (V_seq_draw tmix (by kernel_rfl) ?_) | refine V_region ?_ | refine V_draw tmix (by kernel_rfl) ?_)
  repeat refine VO_d ?_
  (first | refine VO_nil ?_ | refine VQ_nil ?_)
  refine V_block ?_
  refine V_loop (α := Nat)
    (fun k => ⟨[(0, .d (.sl 1 us)), (1, .d (.sl 1 vs)), (5, .d (.i .i64 k))], [], Try.f112.ntmps⟩)
    (fun k => k ≤ us.length ∧ ∀ j, j < k → us[j]? = vs[j]?)
    (fun k => us.length - k) 0 ⟨rfl, ⟨⟨rfl, rfl⟩, ⟨rfl, rfl⟩, ⟨rfl, rfl⟩, trivial⟩, ⟨[], rfl⟩, rfl⟩ ⟨by simp, by simp⟩ ?_
  rintro k ⟨hk, hsame⟩
  (first | refine V_seq_region ?_ | refine V_seq (V_seq_region ?_) | refine V_seq_draw tmix (by kernel_rfl) ?_ | refine V_seq (V_seq_draw tmix (by kernel_rfl) ?_) | refine V_region ?_ | refine V_draw tmix (by kernel_rfl) ?_)
  repeat refine VO_d ?_
  (first | refine VO_nil ?_ | refine VQ_nil ?_)
  refine V_cond rfl (fun hc2 => ?_) (fun hc2 => ?_)
  · refine V_skip ?_
    simp only [decide_eq_true_eq] at hc2
    have hkl : k < us.length := by omega
    have hkv : k < vs.length := by omega
    have hget : us[k]? = some us[k] := List.getElem?_eq_getElem hkl
    have hgev : vs[k]? = some vs[k] := List.getElem?_eq_getElem hkv
    have hmem : us[k] ∈ us := List.getElem_mem hkl
    have hmev : vs[k] ∈ vs := List.getElem_mem hkv
    obtain ⟨l1, h1, _⟩ := hz _ hmem
    obtain ⟨l2, h2, _⟩ := hz2 _ hmev
    have hg1 : us[k]? = some (.s l1) := by rw [hget, h1]
    have hg2 : vs[k]? = some (.s l2) := by rw [hgev, h2]
    refine V_seq (V_block ?_)
    (first | refine V_seq_region ?_ | refine V_seq (V_seq_region ?_) | refine V_seq_draw tmix (by kernel_rfl) ?_ | refine V_seq (V_seq_draw tmix (by kernel_rfl) ?_) | refine V_region ?_ | refine V_draw tmix (by kernel_rfl) ?_)
    repeat (first | refine VO_d ?_ | refine VQ_d ?_)
    (first | refine VO_q (Q_index rfl rfl TE.h TI.h (by omega) hg1) rfl ?_ | refine VQ_q (Q_index rfl rfl TE.h TI.h (by omega) hg1) rfl ?_ | (refine VO_bare rfl rfl rfl rfl ?_; refine VO_q (Q_index rfl rfl TE.h TI.h (by omega) hg1) rfl ?_) | refine VQ_run rfl rfl rfl rfl (Q_index rfl rfl TE.h TI.h (by omega) hg1) rfl ?_)
    repeat (first | refine VO_d ?_ | refine VQ_d ?_)
    (first | refine VO_q (Q_index rfl rfl TE.h TI.h (by omega) hg2) rfl ?_ | refine VQ_q (Q_index rfl rfl TE.h TI.h (by omega) hg2) rfl ?_ | (refine VO_bare rfl rfl rfl rfl ?_; refine VO_q (Q_index rfl rfl TE.h TI.h (by omega) hg2) rfl ?_) | refine VQ_run rfl rfl rfl rfl (Q_index rfl rfl TE.h TI.h (by omega) hg2) rfl ?_)
    repeat (first | refine VO_d ?_ | refine VQ_d ?_)
    (first | refine VO_nil ?_ | refine VQ_nil ?_)
    refine V_cond rfl (fun hc3 => ?_) (fun hc3 => ?_)
    · (first | refine V_seq_region ?_ | refine V_seq (V_seq_region ?_) | refine V_seq_draw tmix (by kernel_rfl) ?_ | refine V_seq (V_seq_draw tmix (by kernel_rfl) ?_) | refine V_region ?_ | refine V_draw tmix (by kernel_rfl) ?_)
      repeat refine VO_d ?_
      (first | refine VO_nil ?_ | refine VQ_nil ?_)
      refine V_ret ?_
      exact ⟨trivial, ⟨_, rfl, congrArg U.b (deq_false.2 (by intro h; injection h with _ h; subst h; rw [hg1] at hg2; injection hg2 with hg2; injection hg2; simp_all)).symm⟩, trivial⟩
    refine V_skip ?_
    have heq : us[k] = vs[k] := by rw [h1, h2]; simp at hc3; rw [hc3]
    (first | refine V_seq_region ?_ | refine V_seq (V_seq_region ?_) | refine V_seq_draw tmix (by kernel_rfl) ?_ | refine V_seq (V_seq_draw tmix (by kernel_rfl) ?_) | refine V_region ?_ | refine V_draw tmix (by kernel_rfl) ?_)
    repeat refine VO_d ?_
    (first | refine VO_nil ?_ | refine VQ_nil ?_)
    refine ⟨k + 1, ⟨by omega, fun j hj => ?_⟩, by omega, ⟨rfl, ⟨⟨rfl, rfl⟩, ⟨rfl, rfl⟩, ⟨rfl, rfl⟩, trivial⟩, ⟨[], rfl⟩, rfl⟩⟩
    by_cases hjk : j = k
    · subst hjk; rw [hget, hgev, heq]
    · exact hsame j (by omega)
  · refine V_exit ?_
    simp only [decide_eq_false_iff_not] at hc2
    have hkl : k = us.length := by omega
    subst hkl
    have hall : us = vs := by
      apply List.ext_getElem?
      intro j
      by_cases hj : j < us.length
      · exact hsame j hj
      · rw [List.getElem?_eq_none (by omega), List.getElem?_eq_none (by omega)]
    show V _ _ _ _ _
    (first | refine V_seq_region ?_ | refine V_seq (V_seq_region ?_) | refine V_seq_draw tmix (by kernel_rfl) ?_ | refine V_seq (V_seq_draw tmix (by kernel_rfl) ?_) | refine V_region ?_ | refine V_draw tmix (by kernel_rfl) ?_)
    repeat refine VO_d ?_
    (first | refine VO_nil ?_ | refine VQ_nil ?_)
    refine V_ret ?_
    exact ⟨trivial, ⟨_, rfl, congrArg U.b (deq_true.2 (by rw [hall])).symm⟩, trivial⟩

theorem eqStringS_all {us vs : List U} (h : us.length ≤ big ∧ ∀ x ∈ us, wt .str x) (h2 : vs.length ≤ big ∧ ∀ x ∈ vs, wt .str x) : PEq 112 (.sl 1 us) (.sl 1 vs) := eqStringS_step h.1 h2.1 (fun a ha => inv_str (h.2 a ha)) (fun a ha => inv_str (h2.2 a ha))
theorem eqCoreArm_step {f0 : List UInt8} {f1 : List U} {f2 : U} {d0 : List UInt8} {d1 : List U} {d2 : U} (h0 : f0.length ≤ big) (k0 : d0.length ≤ big) (h1 : PEq 112 (.sl 1 f1) (.sl 1 d1)) (g2 : wt (.st 21) f2) (j2 : wt (.st 21) d2) (h2 : PEq 22 f2 d2) : PEq 97 (.st [.s f0, .sl 1 f1, f2]) (.st [.s d0, .sl 1 d1, d2]) := by
  obtain ⟨e15_0, e15_1, e15_2, e15_3, e15_4, e15_5, e15_6, e15_7, e15_8, rfl, g15_0, g15_1, g15_2, g15_3, g15_4, g15_5, g15_6, g15_7, g15_8⟩ := inv_Core g2
  obtain ⟨e16_0, e16_1, e16_2, rfl, g16_0, g16_1, g16_2⟩ := inv_Type g15_4
  obtain ⟨e17_0, e17_1, e17_2, e17_3, e17_4, e17_5, e17_6, e17_7, e17_8, rfl, g17_0, g17_1, g17_2, g17_3, g17_4, g17_5, g17_6, g17_7, g17_8⟩ := inv_Core j2
  obtain ⟨e18_0, e18_1, e18_2, rfl, g18_0, g18_1, g18_2⟩ := inv_Type g17_4
  refine SpecP_intro Try.func97 rfl (by kernel_rfl) rfl fun A _ => ?_
  (first | refine V_seq_region ?_ | refine V_seq (V_seq_region ?_) | refine V_seq_draw tmix (by kernel_rfl) ?_ | refine V_seq (V_seq_draw tmix (by kernel_rfl) ?_) | refine V_region ?_ | refine V_draw tmix (by kernel_rfl) ?_)
  repeat refine VO_d ?_
  (first | refine VO_nil ?_ | refine VQ_nil ?_)
  (first | refine V_seq_region ?_ | refine V_seq (V_seq_region ?_) | refine V_seq_draw tmix (by kernel_rfl) ?_ | refine V_seq (V_seq_draw tmix (by kernel_rfl) ?_) | refine V_region ?_ | refine V_draw tmix (by kernel_rfl) ?_)
  repeat (first | refine VO_d ?_ | refine VQ_d ?_)
  (first | refine VO_nil ?_ | refine VQ_nil ?_)
  refine V_cond rfl (fun hc => ?_) (fun hc => ?_)
  · (first | refine V_seq_region ?_ | refine V_seq (V_seq_region ?_) | refine V_seq_draw tmix (by kernel_rfl) ?_ | refine V_seq (V_seq_draw tmix (by kernel_rfl) ?_) | refine V_region ?_ | refine V_draw tmix (by kernel_rfl) ?_)
    repeat refine VO_d ?_
    (first | refine VO_nil ?_ | refine VQ_nil ?_)
    refine V_ret ?_
    exact ⟨trivial, ⟨_, rfl, congrArg U.b (deq_false.2 (by intro h; injection h with h; injection h with q0 h; injection q0 with hk; simp [hk] at hc)).symm⟩, trivial⟩
  refine V_skip ?_
  have e0 := (by simpa using hc : f0 = d0)
  clear hc
  (first | refine V_seq_region ?_ | refine V_seq (V_seq_region ?_) | refine V_seq_draw tmix (by kernel_rfl) ?_ | refine V_seq (V_seq_draw tmix (by kernel_rfl) ?_) | refine V_region ?_ | refine V_draw tmix (by kernel_rfl) ?_)
  repeat (first | refine VO_d ?_ | refine VQ_d ?_)
  (first | refine VO_q (Q_call rfl h1 (by (repeat (first | exact trivial | exact rfl | exact ⟨_, rfl⟩ | refine And.intro ?_ ?_)); first | done | fail)) rfl ?_ | refine VQ_q (Q_call rfl h1 (by (repeat (first | exact trivial | exact rfl | exact ⟨_, rfl⟩ | refine And.intro ?_ ?_)); first | done | fail)) rfl ?_ | (refine VO_bare rfl rfl rfl rfl ?_; refine VO_q (Q_call rfl h1 (by (repeat (first | exact trivial | exact rfl | exact ⟨_, rfl⟩ | refine And.intro ?_ ?_)); first | done | fail)) rfl ?_) | refine VQ_run rfl rfl rfl rfl (Q_call rfl h1 (by (repeat (first | exact trivial | exact rfl | exact ⟨_, rfl⟩ | refine And.intro ?_ ?_)); first | done | fail)) rfl ?_)
  repeat (first | refine VO_d ?_ | refine VQ_d ?_)
  (first | refine VO_nil ?_ | refine VQ_nil ?_)
  refine V_cond rfl (fun hc => ?_) (fun hc => ?_)
  · (first | refine V_seq_region ?_ | refine V_seq (V_seq_region ?_) | refine V_seq_draw tmix (by kernel_rfl) ?_ | refine V_seq (V_seq_draw tmix (by kernel_rfl) ?_) | refine V_region ?_ | refine V_draw tmix (by kernel_rfl) ?_)
    repeat refine VO_d ?_
    (first | refine VO_nil ?_ | refine VQ_nil ?_)
    refine V_ret ?_
    exact ⟨trivial, ⟨_, rfl, congrArg U.b (deq_false.2 (by intro h; injection h with h; injection h with q0 h; injection h with q1 h; rw [q1, deq_self] at hc; cases hc)).symm⟩, trivial⟩
  refine V_skip ?_
  have e1 := deq_true.1 (by simpa using hc : deq _ _ = true)
  clear hc
  (first | refine V_seq_region ?_ | refine V_seq (V_seq_region ?_) | refine V_seq_draw tmix (by kernel_rfl) ?_ | refine V_seq (V_seq_draw tmix (by kernel_rfl) ?_) | refine V_region ?_ | refine V_draw tmix (by kernel_rfl) ?_)
  repeat (first | refine VO_d ?_ | refine VQ_d ?_)
  (first | refine VO_q (Q_call rfl h2 (by (repeat (first | exact trivial | exact rfl | exact ⟨_, rfl⟩ | refine And.intro ?_ ?_)); first | done | fail)) rfl ?_ | refine VQ_q (Q_call rfl h2 (by (repeat (first | exact trivial | exact rfl | exact ⟨_, rfl⟩ | refine And.intro ?_ ?_)); first | done | fail)) rfl ?_ | (refine VO_bare rfl rfl rfl rfl ?_; refine VO_q (Q_call rfl h2 (by (repeat (first | exact trivial | exact rfl | exact ⟨_, rfl⟩ | refine And.intro ?_ ?_)); first | done | fail)) rfl ?_) | refine VQ_run rfl rfl rfl rfl (Q_call rfl h2 (by (repeat (first | exact trivial | exact rfl | exact ⟨_, rfl⟩ | refine And.intro ?_ ?_)); first | done | fail)) rfl ?_)
  repeat (first | refine VO_d ?_ | refine VQ_d ?_)
  (first | refine VO_nil ?_ | refine VQ_nil ?_)
  refine V_cond rfl (fun hc => ?_) (fun hc => ?_)
  · (first | refine V_seq_region ?_ | refine V_seq (V_seq_region ?_) | refine V_seq_draw tmix (by kernel_rfl) ?_ | refine V_seq (V_seq_draw tmix (by kernel_rfl) ?_) | refine V_region ?_ | refine V_draw tmix (by kernel_rfl) ?_)
    repeat refine VO_d ?_
    (first | refine VO_nil ?_ | refine VQ_nil ?_)
    refine V_ret ?_
    exact ⟨trivial, ⟨_, rfl, congrArg U.b (deq_false.2 (by intro h; injection h with h; injection h with q0 h; injection h with q1 h; injection h with q2 h; rw [q2, deq_self] at hc; cases hc)).symm⟩, trivial⟩
  refine V_skip ?_
  have e2 := deq_true.1 (by simpa using hc : deq _ _ = true)
  clear hc
  (first | refine V_seq_region ?_ | refine V_seq (V_seq_region ?_) | refine V_seq_draw tmix (by kernel_rfl) ?_ | refine V_seq (V_seq_draw tmix (by kernel_rfl) ?_) | refine V_region ?_ | refine V_draw tmix (by kernel_rfl) ?_)
  repeat refine VO_d ?_
  (first | refine VO_nil ?_ | refine VQ_nil ?_)
  refine V_ret ?_
  exact ⟨trivial, ⟨_, rfl, congrArg U.b (deq_true.2 (by rw [e0, e1, e2])).symm⟩, trivial⟩

theorem eqCoreArmS_step {us vs : List U} (hb1 : us.length ≤ big) (hb2 : vs.length ≤ big) (hz : ∀ a ∈ us, a.isSt = true ∧ a.sz = 13) (hz2 : ∀ a ∈ vs, a.isSt = true ∧ a.sz = 13) (ih : ∀ a ∈ us, ∀ b ∈ vs, PEq 97 a b) : PEq 61 (.sl 13 us) (.sl 13 vs) := by
  rw [big_eq] at hb1 hb2
  refine SpecP_intro Try.func61 rfl (by kernel_rfl) rfl fun A _ => ?_
  (first | refine V_seq_region ?_ | refine V_seq (V_seq_region ?_) | refine V_seq_draw tmix (by kernel_rfl) ?_ | refine V_seq (V_seq_draw tmix (by kernel_rfl) ?_) | refine V_region ?_ | refine V_draw tmix (by kernel_rfl) ?_)
  repeat refine VO_d ?_
  (first | refine VO_nil ?_ | refine VQ_nil ?_)
  (first | refine V_seq_region ?_ | refine V_seq (V_seq_region ?_) | refine V_seq_draw tmix (by kernel_rfl) ?_ | refine V_seq (V_seq_draw tmix (by kernel_rfl) ?_) | refine V_region ?_ | refine V_draw tmix (by kernel_rfl) ?_)
  repeat refine VO_d ?_
  (first | refine VO_nil ?_ | refine VQ_nil ?_)
  refine V_cond rfl (fun hc => ?_) (fun hc => ?_)
  · (first | refine V_seq_region ?_ | refine V_seq (V_seq_region ?_) | refine V_seq_draw tmix (by kernel_rfl) ?_ | refine V_seq (V_seq_draw tmix (by kernel_rfl) ?_) | refine V_region ?_ | refine V_draw tmix (by kernel_rfl) ?_)
    repeat refine VO_d ?_
    (first | refine VO_nil ?_ | refine VQ_nil ?_)
    refine V_ret ?_
    exact ⟨trivial, ⟨_, rfl, congrArg U.b (deq_false.2 (by intro h; injection h with _ h; subst h; simp at hc)).symm⟩, trivial⟩
  refine V_skip ?_
  have hll : us.length = vs.length := by simp at hc; omega
  (first | refine V_seq_region ?_ | refine V_seq (V_seq_region ?_) | refine V_seq_draw tmix (by kernel_rfl) ?_ | refine V_seq (V_seq_draw tmix (by kernel_rfl) ?_) | refine V_region ?_ | refine V_draw tmix (by kernel_rfl) ?_)
  repeat refine VO_d ?_
  (first | refine VO_nil ?_ | refine VQ_nil ?_)
  refine V_block ?_
  refine V_loop (α := Nat)
    (fun k => ⟨[(0, .d (.sl 13 us)), (1, .d (.sl 13 vs)), (5, .d (.i .i64 k))], [], Try.f61.ntmps⟩)
    (fun k => k ≤ us.length ∧ ∀ j, j < k → us[j]? = vs[j]?)
    (fun k => us.length - k) 0 ⟨rfl, ⟨⟨rfl, rfl⟩, ⟨rfl, rfl⟩, ⟨rfl, rfl⟩, trivial⟩, ⟨[], rfl⟩, rfl⟩ ⟨by simp, by simp⟩ ?_
  rintro k ⟨hk, hsame⟩
  (first | refine V_seq_region ?_ | refine V_seq (V_seq_region ?_) | refine V_seq_draw tmix (by kernel_rfl) ?_ | refine V_seq (V_seq_draw tmix (by kernel_rfl) ?_) | refine V_region ?_ | refine V_draw tmix (by kernel_rfl) ?_)
  repeat refine VO_d ?_
  (first | refine VO_nil ?_ | refine VQ_nil ?_)
  refine V_cond rfl (fun hc2 => ?_) (fun hc2 => ?_)
  · refine V_skip ?_
    simp only [decide_eq_true_eq] at hc2
    have hkl : k < us.length := by omega
    have hkv : k < vs.length := by omega
    have hget : us[k]? = some us[k] := List.getElem?_eq_getElem hkl
    have hgev : vs[k]? = some vs[k] := List.getElem?_eq_getElem hkv
    have hmem : us[k] ∈ us := List.getElem_mem hkl
    have hmev : vs[k] ∈ vs := List.getElem_mem hkv
    obtain ⟨hst, hsz⟩ := hz _ hmem
    obtain ⟨hst2, hsz2⟩ := hz2 _ hmev
    refine V_seq (V_block ?_)
    (first | refine V_seq_region ?_ | refine V_seq (V_seq_region ?_) | refine V_seq_draw tmix (by kernel_rfl) ?_ | refine V_seq (V_seq_draw tmix (by kernel_rfl) ?_) | refine V_region ?_ | refine V_draw tmix (by kernel_rfl) ?_)
    repeat (first | refine VO_d ?_ | refine VQ_d ?_)
    (first | refine VO_q (Q_index rfl rfl TE.h TI.h (by omega) hget) rfl ?_ | refine VQ_q (Q_index rfl rfl TE.h TI.h (by omega) hget) rfl ?_ | (refine VO_bare rfl rfl rfl rfl ?_; refine VO_q (Q_index rfl rfl TE.h TI.h (by omega) hget) rfl ?_) | refine VQ_run rfl rfl rfl rfl (Q_index rfl rfl TE.h TI.h (by omega) hget) rfl ?_)
    (first | refine VO_q (Q_load rfl TI.h hst hsz) rfl ?_ | refine VQ_q (Q_load rfl TI.h hst hsz) rfl ?_ | (refine VO_bare rfl rfl rfl rfl ?_; refine VO_q (Q_load rfl TI.h hst hsz) rfl ?_) | refine VQ_run rfl rfl rfl rfl (Q_load rfl TI.h hst hsz) rfl ?_)
    repeat (first | refine VO_d ?_ | refine VQ_d ?_)
    (first | refine VO_q (Q_index rfl rfl TE.h TI.h (by omega) hgev) rfl ?_ | refine VQ_q (Q_index rfl rfl TE.h TI.h (by omega) hgev) rfl ?_ | (refine VO_bare rfl rfl rfl rfl ?_; refine VO_q (Q_index rfl rfl TE.h TI.h (by omega) hgev) rfl ?_) | refine VQ_run rfl rfl rfl rfl (Q_index rfl rfl TE.h TI.h (by omega) hgev) rfl ?_)
    (first | refine VO_q (Q_load rfl TI.h hst2 hsz2) rfl ?_ | refine VQ_q (Q_load rfl TI.h hst2 hsz2) rfl ?_ | (refine VO_bare rfl rfl rfl rfl ?_; refine VO_q (Q_load rfl TI.h hst2 hsz2) rfl ?_) | refine VQ_run rfl rfl rfl rfl (Q_load rfl TI.h hst2 hsz2) rfl ?_)
    (first | refine VO_q (Q_call rfl (ih _ hmem _ hmev) (by (repeat (first | exact trivial | exact rfl | exact ⟨_, rfl⟩ | refine And.intro ?_ ?_)); first | done | fail)) rfl ?_ | refine VQ_q (Q_call rfl (ih _ hmem _ hmev) (by (repeat (first | exact trivial | exact rfl | exact ⟨_, rfl⟩ | refine And.intro ?_ ?_)); first | done | fail)) rfl ?_ | (refine VO_bare rfl rfl rfl rfl ?_; refine VO_q (Q_call rfl (ih _ hmem _ hmev) (by (repeat (first | exact trivial | exact rfl | exact ⟨_, rfl⟩ | refine And.intro ?_ ?_)); first | done | fail)) rfl ?_) | refine VQ_run rfl rfl rfl rfl (Q_call rfl (ih _ hmem _ hmev) (by (repeat (first | exact trivial | exact rfl | exact ⟨_, rfl⟩ | refine And.intro ?_ ?_)); first | done | fail)) rfl ?_)
    repeat (first | refine VO_d ?_ | refine VQ_d ?_)
    (first | refine VO_nil ?_ | refine VQ_nil ?_)
    refine V_cond rfl (fun hc3 => ?_) (fun hc3 => ?_)
    · (first | refine V_seq_region ?_ | refine V_seq (V_seq_region ?_) | refine V_seq_draw tmix (by kernel_rfl) ?_ | refine V_seq (V_seq_draw tmix (by kernel_rfl) ?_) | refine V_region ?_ | refine V_draw tmix (by kernel_rfl) ?_)
      repeat refine VO_d ?_
      (first | refine VO_nil ?_ | refine VQ_nil ?_)
      refine V_ret ?_
      exact ⟨trivial, ⟨_, rfl, congrArg U.b (deq_false.2 (by intro h; injection h with _ h; subst h; rw [deq_self] at hc3; cases hc3)).symm⟩, trivial⟩
    refine V_skip ?_
    have heq : us[k] = vs[k] := deq_true.1 (by simpa using hc3)
    (first | refine V_seq_region ?_ | refine V_seq (V_seq_region ?_) | refine V_seq_draw tmix (by kernel_rfl) ?_ | refine V_seq (V_seq_draw tmix (by kernel_rfl) ?_) | refine V_region ?_ | refine V_draw tmix (by kernel_rfl) ?_)
    repeat refine VO_d ?_
    (first | refine VO_nil ?_ | refine VQ_nil ?_)
    refine ⟨k + 1, ⟨by omega, fun j hj => ?_⟩, by omega, ⟨rfl, ⟨⟨rfl, rfl⟩, ⟨rfl, rfl⟩, ⟨rfl, rfl⟩, trivial⟩, ⟨[], rfl⟩, rfl⟩⟩
    by_cases hjk : j = k
    · subst hjk; rw [hget, hgev, heq]
    · exact hsame j (by omega)
  · refine V_exit ?_
    simp only [decide_eq_false_iff_not] at hc2
    have hkl : k = us.length := by omega
    subst hkl
    have hall : us = vs := by
      apply List.ext_getElem?
      intro j
      by_cases hj : j < us.length
      · exact hsame j hj
      · rw [List.getElem?_eq_none (by omega), List.getElem?_eq_none (by omega)]
    show V _ _ _ _ _
    (first | refine V_seq_region ?_ | refine V_seq (V_seq_region ?_) | refine V_seq_draw tmix (by kernel_rfl) ?_ | refine V_seq (V_seq_draw tmix (by kernel_rfl) ?_) | refine V_region ?_ | refine V_draw tmix (by kernel_rfl) ?_)
    repeat refine VO_d ?_
    (first | refine VO_nil ?_ | refine VQ_nil ?_)
    refine V_ret ?_
    exact ⟨trivial, ⟨_, rfl, congrArg U.b (deq_true.2 (by rw [hall])).symm⟩, trivial⟩

theorem eqCore_step {f0 : Int} {f1 : List UInt8} {f2 : List UInt8} {f3 : Int} {f4 : U} {f5 : List U} {f6 : List U} {f7 : List U} {f8 : List U} {d0 : Int} {d1 : List UInt8} {d2 : List UInt8} {d3 : Int} {d4 : U} {d5 : List U} {d6 : List U} {d7 : List U} {d8 : List U} (h1 : f1.length ≤ big) (k1 : d1.length ≤ big) (h2 : f2.length ≤ big) (k2 : d2.length ≤ big) (g4 : wt (.st 1) f4) (j4 : wt (.st 1) d4) (h4 : PEq 11 f4 d4) (h5 : PEq 38 (.sl 3 f5) (.sl 3 d5)) (h6 : PEq 59 (.sl 5 f6) (.sl 5 d6)) (h7 : PEq 60 (.sl 11 f7) (.sl 11 d7)) (h8 : PEq 61 (.sl 13 f8) (.sl 13 d8)) : PEq 22 (.st [.i .i64 f0, .s f1, .s f2, .i .i64 f3, f4, .sl 3 f5, .sl 5 f6, .sl 11 f7, .sl 13 f8]) (.st [.i .i64 d0, .s d1, .s d2, .i .i64 d3, d4, .sl 3 d5, .sl 5 d6, .sl 11 d7, .sl 13 d8]) := by
  obtain ⟨e19_0, e19_1, e19_2, rfl, g19_0, g19_1, g19_2⟩ := inv_Type g4
  obtain ⟨e20_0, e20_1, e20_2, rfl, g20_0, g20_1, g20_2⟩ := inv_Type j4
  refine SpecP_intro Try.func22 rfl (by kernel_rfl) rfl fun A _ => ?_
  (first | refine V_seq_region ?_ | refine V_seq (V_seq_region ?_) | refine V_seq_draw tmix (by kernel_rfl) ?_ | refine V_seq (V_seq_draw tmix (by kernel_rfl) ?_) | refine V_region ?_ | refine V_draw tmix (by kernel_rfl) ?_)
  repeat refine VO_d ?_
  (first | refine VO_nil ?_ | refine VQ_nil ?_)
  (first | refine V_seq_region ?_ | refine V_seq (V_seq_region ?_) | refine V_seq_draw tmix (by kernel_rfl) ?_ | refine V_seq (V_seq_draw tmix (by kernel_rfl) ?_) | refine V_region ?_ | refine V_draw tmix (by kernel_rfl) ?_)
  repeat (first | refine VO_d ?_ | refine VQ_d ?_)
  (first | refine VO_nil ?_ | refine VQ_nil ?_)
  refine V_cond rfl (fun hc => ?_) (fun hc => ?_)
  · (first | refine V_seq_region ?_ | refine V_seq (V_seq_region ?_) | refine V_seq_draw tmix (by kernel_rfl) ?_ | refine V_seq (V_seq_draw tmix (by kernel_rfl) ?_) | refine V_region ?_ | refine V_draw tmix (by kernel_rfl) ?_)
    repeat refine VO_d ?_
    (first | refine VO_nil ?_ | refine VQ_nil ?_)
    refine V_ret ?_
    exact ⟨trivial, ⟨_, rfl, congrArg U.b (deq_false.2 (by intro h; injection h with h; injection h with q0 h; injection q0 with _ hk; simp [hk] at hc)).symm⟩, trivial⟩
  refine V_skip ?_
  have e0 := (by simpa using hc : f0 = d0)
  clear hc
  (first | refine V_seq_region ?_ | refine V_seq (V_seq_region ?_) | refine V_seq_draw tmix (by kernel_rfl) ?_ | refine V_seq (V_seq_draw tmix (by kernel_rfl) ?_) | refine V_region ?_ | refine V_draw tmix (by kernel_rfl) ?_)
  repeat (first | refine VO_d ?_ | refine VQ_d ?_)
  (first | refine VO_nil ?_ | refine VQ_nil ?_)
  refine V_cond rfl (fun hc => ?_) (fun hc => ?_)
  · (first | refine V_seq_region ?_ | refine V_seq (V_seq_region ?_) | refine V_seq_draw tmix (by kernel_rfl) ?_ | refine V_seq (V_seq_draw tmix (by kernel_rfl) ?_) | refine V_region ?_ | refine V_draw tmix (by kernel_rfl) ?_)
    repeat refine VO_d ?_
    (first | refine VO_nil ?_ | refine VQ_nil ?_)
    refine V_ret ?_
    exact ⟨trivial, ⟨_, rfl, congrArg U.b (deq_false.2 (by intro h; injection h with h; injection h with q0 h; injection h with q1 h; injection q1 with hk; simp [hk] at hc)).symm⟩, trivial⟩
  refine V_skip ?_
  have e1 := (by simpa using hc : f1 = d1)
  clear hc
  (first | refine V_seq_region ?_ | refine V_seq (V_seq_region ?_) | refine V_seq_draw tmix (by kernel_rfl) ?_ | refine V_seq (V_seq_draw tmix (by kernel_rfl) ?_) | refine V_region ?_ | refine V_draw tmix (by kernel_rfl) ?_)
  repeat (first | refine VO_d ?_ | refine VQ_d ?_)
  (first | refine VO_nil ?_ | refine VQ_nil ?_)
  refine V_cond rfl (fun hc => ?_) (fun hc => ?_)
  · (first | refine V_seq_region ?_ | refine V_seq (V_seq_region ?_) | refine V_seq_draw tmix (by kernel_rfl) ?_ | refine V_seq (V_seq_draw tmix (by kernel_rfl) ?_) | refine V_region ?_ | refine V_draw tmix (by kernel_rfl) ?_)
    repeat refine VO_d ?_
    (first | refine VO_nil ?_ | refine VQ_nil ?_)
    refine V_ret ?_
    exact ⟨trivial, ⟨_, rfl, congrArg U.b (deq_false.2 (by intro h; injection h with h; injection h with q0 h; injection h with q1 h; injection h with q2 h; injection q2 with hk; simp [hk] at hc)).symm⟩, trivial⟩
  refine V_skip ?_
  have e2 := (by simpa using hc : f2 = d2)
  clear hc
  (first | refine V_seq_region ?_ | refine V_seq (V_seq_region ?_) | refine V_seq_draw tmix (by kernel_rfl) ?_ | refine V_seq (V_seq_draw tmix (by kernel_rfl) ?_) | refine V_region ?_ | refine V_draw tmix (by kernel_rfl) ?_)
  repeat (first | refine VO_d ?_ | refine VQ_d ?_)
  (first | refine VO_nil ?_ | refine VQ_nil ?_)
  refine V_cond rfl (fun hc => ?_) (fun hc => ?_)
  · (first | refine V_seq_region ?_ | refine V_seq (V_seq_region ?_) | refine V_seq_draw tmix (by kernel_rfl) ?_ | refine V_seq (V_seq_draw tmix (by kernel_rfl) ?_) | refine V_region ?_ | refine V_draw tmix (by kernel_rfl) ?_)
    repeat refine VO_d ?_
    (first | refine VO_nil ?_ | refine VQ_nil ?_)
    refine V_ret ?_
    exact ⟨trivial, ⟨_, rfl, congrArg U.b (deq_false.2 (by intro h; injection h with h; injection h with q0 h; injection h with q1 h; injection h with q2 h; injection h with q3 h; injection q3 with _ hk; simp [hk] at hc)).symm⟩, trivial⟩
  refine V_skip ?_
  have e3 := (by simpa using hc : f3 = d3)
  clear hc
  (first | refine V_seq_region ?_ | refine V_seq (V_seq_region ?_) | refine V_seq_draw tmix (by kernel_rfl) ?_ | refine V_seq (V_seq_draw tmix (by kernel_rfl) ?_) | refine V_region ?_ | refine V_draw tmix (by kernel_rfl) ?_)
  repeat (first | refine VO_d ?_ | refine VQ_d ?_)
  (first | refine VO_q (Q_call rfl h4 (by (repeat (first | exact trivial | exact rfl | exact ⟨_, rfl⟩ | refine And.intro ?_ ?_)); first | done | fail)) rfl ?_ | refine VQ_q (Q_call rfl h4 (by (repeat (first | exact trivial | exact rfl | exact ⟨_, rfl⟩ | refine And.intro ?_ ?_)); first | done | fail)) rfl ?_ | (refine VO_bare rfl rfl rfl rfl ?_; refine VO_q (Q_call rfl h4 (by (repeat (first | exact trivial | exact rfl | exact ⟨_, rfl⟩ | refine And.intro ?_ ?_)); first | done | fail)) rfl ?_) | refine VQ_run rfl rfl rfl rfl (Q_call rfl h4 (by (repeat (first | exact trivial | exact rfl | exact ⟨_, rfl⟩ | refine And.intro ?_ ?_)); first | done | fail)) rfl ?_)
  repeat (first | refine VO_d ?_ | refine VQ_d ?_)
  (first | refine VO_nil ?_ | refine VQ_nil ?_)
  refine V_cond rfl (fun hc => ?_) (fun hc => ?_)
  · (first | refine V_seq_region ?_ | refine V_seq (V_seq_region ?_) | refine V_seq_draw tmix (by kernel_rfl) ?_ | refine V_seq (V_seq_draw tmix (by kernel_rfl) ?_) | refine V_region ?_ | refine V_draw tmix (by kernel_rfl) ?_)
    repeat refine VO_d ?_
    (first | refine VO_nil ?_ | refine VQ_nil ?_)
    refine V_ret ?_
    exact ⟨trivial, ⟨_, rfl, congrArg U.b (deq_false.2 (by intro h; injection h with h; injection h with q0 h; injection h with q1 h; injection h with q2 h; injection h with q3 h; injection h with q4 h; rw [q4, deq_self] at hc; cases hc)).symm⟩, trivial⟩
  refine V_skip ?_
  have e4 := deq_true.1 (by simpa using hc : deq _ _ = true)
  clear hc
  (first | refine V_seq_region ?_ | refine V_seq (V_seq_region ?_) | refine V_seq_draw tmix (by kernel_rfl) ?_ | refine V_seq (V_seq_draw tmix (by kernel_rfl) ?_) | refine V_region ?_ | refine V_draw tmix (by kernel_rfl) ?_)
  repeat (first | refine VO_d ?_ | refine VQ_d ?_)
  (first | refine VO_q (Q_call rfl h5 (by (repeat (first | exact trivial | exact rfl | exact ⟨_, rfl⟩ | refine And.intro ?_ ?_)); first | done | fail)) rfl ?_ | refine VQ_q (Q_call rfl h5 (by (repeat (first | exact trivial | exact rfl | exact ⟨_, rfl⟩ | refine And.intro ?_ ?_)); first | done | fail)) rfl ?_ | (refine VO_bare rfl rfl rfl rfl ?_; refine VO_q (Q_call rfl h5 (by (repeat (first | exact trivial | exact rfl | exact ⟨_, rfl⟩ | refine And.intro ?_ ?_)); first | done | fail)) rfl ?_) | refine VQ_run rfl rfl rfl rfl (Q_call rfl h5 (by (repeat (first | exact trivial | exact rfl | exact ⟨_, rfl⟩ | refine And.intro ?_ ?_)); first | done | fail)) rfl ?_)
  repeat (first | refine VO_d ?_ | refine VQ_d ?_)
  (first | refine VO_nil ?_ | refine VQ_nil ?_)
  refine V_cond rfl (fun hc => ?_) (fun hc => ?_)
  · (first | refine V_seq_region ?_ | refine V_seq (V_seq_region ?_) | refine V_seq_draw tmix (by kernel_rfl) ?_ | refine V_seq (V_seq_draw tmix (by kernel_rfl) ?_) | refine V_region ?_ | refine V_draw tmix (by kernel_rfl) ?_)
    repeat refine VO_d ?_
    (first | refine VO_nil ?_ | refine VQ_nil ?_)
    refine V_ret ?_
    exact ⟨trivial, ⟨_, rfl, congrArg U.b (deq_false.2 (by intro h; injection h with h; injection h with q0 h; injection h with q1 h; injection h with q2 h; injection h with q3 h; injection h with q4 h; injection h with q5 h; rw [q5, deq_self] at hc; cases hc)).symm⟩, trivial⟩
  refine V_skip ?_
  have e5 := deq_true.1 (by simpa using hc : deq _ _ = true)
  clear hc
  (first | refine V_seq_region ?_ | refine V_seq (V_seq_region ?_) | refine V_seq_draw tmix (by kernel_rfl) ?_ | refine V_seq (V_seq_draw tmix (by kernel_rfl) ?_) | refine V_region ?_ | refine V_draw tmix (by kernel_rfl) ?_)
  repeat (first | refine VO_d ?_ | refine VQ_d ?_)
  (first | refine VO_q (Q_call rfl h6 (by (repeat (first | exact trivial | exact rfl | exact ⟨_, rfl⟩ | refine And.intro ?_ ?_)); first | done | fail)) rfl ?_ | refine VQ_q (Q_call rfl h6 (by (repeat (first | exact trivial | exact rfl | exact ⟨_, rfl⟩ | refine And.intro ?_ ?_)); first | done | fail)) rfl ?_ | (refine VO_bare rfl rfl rfl rfl ?_; refine VO_q (Q_call rfl h6 (by (repeat (first | exact trivial | exact rfl | exact ⟨_, rfl⟩ | refine And.intro ?_ ?_)); first | done | fail)) rfl ?_) | refine VQ_run rfl rfl rfl rfl (Q_call rfl h6 (by (repeat (first | exact trivial | exact rfl | exact ⟨_, rfl⟩ | refine And.intro ?_ ?_)); first | done | fail)) rfl ?_)
  repeat (first | refine VO_d ?_ | refine VQ_d ?_)
  (first | refine VO_nil ?_ | refine VQ_nil ?_)
  refine V_cond rfl (fun hc => ?_) (fun hc => ?_)
  · (first | refine V_seq_region ?_ | refine V_seq (V_seq_region ?_) | refine V_seq_draw tmix (by kernel_rfl) ?_ | refine V_seq (V_seq_draw tmix (by kernel_rfl) ?_) | refine V_region ?_ | refine V_draw tmix (by kernel_rfl) ?_)
    repeat refine VO_d ?_
    (first | refine VO_nil ?_ | refine VQ_nil ?_)
    refine V_ret ?_
    exact ⟨trivial, ⟨_, rfl, congrArg U.b (deq_false.2 (by intro h; injection h with h; injection h with q0 h; injection h with q1 h; injection h with q2 h; injection h with q3 h; injection h with q4 h; injection h with q5 h; injection h with q6 h; rw [q6, deq_self] at hc; cases hc)).symm⟩, trivial⟩
  refine V_skip ?_
  have e6 := deq_true.1 (by simpa using hc : deq _ _ = true)
  clear hc
  (first | refine V_seq_region ?_ | refine V_seq (V_seq_region ?_) | refine V_seq_draw tmix (by kernel_rfl) ?_ | refine V_seq (V_seq_draw tmix (by kernel_rfl) ?_) | refine V_region ?_ | refine V_draw tmix (by kernel_rfl) ?_)
  repeat (first | refine VO_d ?_ | refine VQ_d ?_)
  (first | refine VO_q (Q_call rfl h7 (by (repeat (first | exact trivial | exact rfl | exact ⟨_, rfl⟩ | refine And.intro ?_ ?_)); first | done | fail)) rfl ?_ | refine VQ_q (Q_call rfl h7 (by (repeat (first | exact trivial | exact rfl | exact ⟨_, rfl⟩ | refine And.intro ?_ ?_)); first | done | fail)) rfl ?_ | (refine VO_bare rfl rfl rfl rfl ?_; refine VO_q (Q_call rfl h7 (by (repeat (first | exact trivial | exact rfl | exact ⟨_, rfl⟩ | refine And.intro ?_ ?_)); first | done | fail)) rfl ?_) | refine VQ_run rfl rfl rfl rfl (Q_call rfl h7 (by (repeat (first | exact trivial | exact rfl | exact ⟨_, rfl⟩ | refine And.intro ?_ ?_)); first | done | fail)) rfl ?_)
  repeat (first | refine VO_d ?_ | refine VQ_d ?_)
  (first | refine VO_nil ?_ | refine VQ_nil ?_)
  refine V_cond rfl (fun hc => ?_) (fun hc => ?_)
  · (first | refine V_seq_region ?_ | refine V_seq (V_seq_region ?_) | refine V_seq_draw tmix (by kernel_rfl) ?_ | refine V_seq (V_seq_draw tmix (by kernel_rfl) ?_) | refine V_region ?_ | refine V_draw tmix (by kernel_rfl) ?_)
    repeat refine VO_d ?_
    (first | refine VO_nil ?_ | refine VQ_nil ?_)
    refine V_ret ?_
    exact ⟨trivial, ⟨_, rfl, congrArg U.b (deq_false.2 (by intro h; injection h with h; injection h with q0 h; injection h with q1 h; injection h with q2 h; injection h with q3 h; injection h with q4 h; injection h with q5 h; injection h with q6 h; injection h with q7 h; rw [q7, deq_self] at hc; cases hc)).symm⟩, trivial⟩
  refine V_skip ?_
  have e7 := deq_true.1 (by simpa using hc : deq _ _ = true)
  clear hc
  (first | refine V_seq_region ?_ | refine V_seq (V_seq_region ?_) | refine V_seq_draw tmix (by kernel_rfl) ?_ | refine V_seq (V_seq_draw tmix (by kernel_rfl) ?_) | refine V_region ?_ | refine V_draw tmix (by kernel_rfl) ?_)
  repeat (first | refine VO_d ?_ | refine VQ_d ?_)
  (first | refine VO_q (Q_call rfl h8 (by (repeat (first | exact trivial | exact rfl | exact ⟨_, rfl⟩ | refine And.intro ?_ ?_)); first | done | fail)) rfl ?_ | refine VQ_q (Q_call rfl h8 (by (repeat (first | exact trivial | exact rfl | exact ⟨_, rfl⟩ | refine And.intro ?_ ?_)); first | done | fail)) rfl ?_ | (refine VO_bare rfl rfl rfl rfl ?_; refine VO_q (Q_call rfl h8 (by (repeat (first | exact trivial | exact rfl | exact ⟨_, rfl⟩ | refine And.intro ?_ ?_)); first | done | fail)) rfl ?_) | refine VQ_run rfl rfl rfl rfl (Q_call rfl h8 (by (repeat (first | exact trivial | exact rfl | exact ⟨_, rfl⟩ | refine And.intro ?_ ?_)); first | done | fail)) rfl ?_)
  repeat (first | refine VO_d ?_ | refine VQ_d ?_)
  (first | refine VO_nil ?_ | refine VQ_nil ?_)
  refine V_cond rfl (fun hc => ?_) (fun hc => ?_)
  · (first | refine V_seq_region ?_ | refine V_seq (V_seq_region ?_) | refine V_seq_draw tmix (by kernel_rfl) ?_ | refine V_seq (V_seq_draw tmix (by kernel_rfl) ?_) | refine V_region ?_ | refine V_draw tmix (by kernel_rfl) ?_)
    repeat refine VO_d ?_
    (first | refine VO_nil ?_ | refine VQ_nil ?_)
    refine V_ret ?_
    exact ⟨trivial, ⟨_, rfl, congrArg U.b (deq_false.2 (by intro h; injection h with h; injection h with q0 h; injection h with q1 h; injection h with q2 h; injection h with q3 h; injection h with q4 h; injection h with q5 h; injection h with q6 h; injection h with q7 h; injection h with q8 h; rw [q8, deq_self] at hc; cases hc)).symm⟩, trivial⟩
  refine V_skip ?_
  have e8 := deq_true.1 (by simpa using hc : deq _ _ = true)
  clear hc
  (first | refine V_seq_region ?_ | refine V_seq (V_seq_region ?_) | refine V_seq_draw tmix (by kernel_rfl) ?_ | refine V_seq (V_seq_draw tmix (by kernel_rfl) ?_) | refine V_region ?_ | refine V_draw tmix (by kernel_rfl) ?_)
  repeat refine VO_d ?_
  (first | refine VO_nil ?_ | refine VQ_nil ?_)
  refine V_ret ?_
  exact ⟨trivial, ⟨_, rfl, congrArg U.b (deq_true.2 (by rw [e0, e1, e2, e3, e4, e5, e6, e7, e8])).symm⟩, trivial⟩

theorem eqCoreS_step {us vs : List U} (hb1 : us.length ≤ big) (hb2 : vs.length ≤ big) (hz : ∀ a ∈ us, a.isSt = true ∧ a.sz = 11) (hz2 : ∀ a ∈ vs, a.isSt = true ∧ a.sz = 11) (ih : ∀ a ∈ us, ∀ b ∈ vs, PEq 22 a b) : PEq 60 (.sl 11 us) (.sl 11 vs) := by
  rw [big_eq] at hb1 hb2
  refine SpecP_intro Try.func60 rfl (by kernel_rfl) rfl fun A _ => ?_
  (first | refine V_seq_region ?_ | refine V_seq (V_seq_region ?_) | refine V_seq_draw tmix (by kernel_rfl) ?_ | refine V_seq (V_seq_draw tmix (by kernel_rfl) ?_) | refine V_region ?_ | refine V_draw tmix (by kernel_rfl) ?_)
  repeat refine VO_d ?_
  (first | refine VO_nil ?_ | refine VQ_nil ?_)
  (first | refine V_seq_region ?_ | refine V_seq (V_seq_region ?_) | refine V_seq_draw tmix (by kernel_rfl) ?_ | refine V_seq (V_seq_draw tmix (by kernel_rfl) ?_) | refine V_region ?_ | refine V_draw tmix (by kernel_rfl) ?_)
  repeat refine VO_d ?_
  (first | refine VO_nil ?_ | refine VQ_nil ?_)
  refine V_cond rfl (fun hc => ?_) (fun hc => ?_)
  · (first | refine V_seq_region ?_ | refine V_seq (V_seq_region ?_) | refine V_seq_draw tmix (by kernel_rfl) ?_ | refine V_seq (V_seq_draw tmix (by kernel_rfl) ?_) | refine V_region ?_ | refine V_draw tmix (by kernel_rfl) ?_)
    repeat refine VO_d ?_
    (first | refine VO_nil ?_ | refine VQ_nil ?_)
    refine V_ret ?_
    exact ⟨trivial, ⟨_, rfl, congrArg U.b (deq_false.2 (by intro h; injection h with _ h; subst h; simp at hc)).symm⟩, trivial⟩
  refine V_skip ?_
  have hll : us.length = vs.length := by simp at hc; omega
  (first | refine V_seq_region ?_ | refine V_seq (V_seq_region ?_) | refine V_seq_draw tmix (by kernel_rfl) ?_ | refine V_seq (V_seq_draw tmix (by kernel_rfl) ?_) | refine V_region ?_ | refine V_draw tmix (by kernel_rfl) ?_)
  repeat refine VO_d ?_
  (first | refine VO_nil ?_ | refine VQ_nil ?_)
  refine V_block ?_
  refine V_loop (α := Nat)
    (fun k => ⟨[(0, .d (.sl 11 us)), (1, .d (.sl 11 vs)), (5, .d (.i .i64 k))], [], Try.f60.ntmps⟩)
    (fun k => k ≤ us.length ∧ ∀ j, j < k → us[j]? = vs[j]?)
    (fun k => us.length - k) 0 ⟨rfl, ⟨⟨rfl, rfl⟩, ⟨rfl, rfl⟩, ⟨rfl, rfl⟩, trivial⟩, ⟨[], rfl⟩, rfl⟩ ⟨by simp, by simp⟩ ?_
  rintro k ⟨hk, hsame⟩
  (first | refine V_seq_region ?_ | refine V_seq (V_seq_region ?_) | refine V_seq_draw tmix (by kernel_rfl) ?_ | refine V_seq (V_seq_draw tmix (by kernel_rfl) ?_) | refine V_region ?_ | refine V_draw tmix (by kernel_rfl) ?_)
  repeat refine VO_d ?_
  (first | refine VO_nil ?_ | refine VQ_nil ?_)
  refine V_cond rfl (fun hc2 => ?_) (fun hc2 => ?_)
  · refine V_skip ?_
    simp only [decide_eq_true_eq] at hc2
    have hkl : k < us.length := by omega
    have hkv : k < vs.length := by omega
    have hget : us[k]? = some us[k] := List.getElem?_eq_getElem hkl
    have hgev : vs[k]? = some vs[k] := List.getElem?_eq_getElem hkv
    have hmem : us[k] ∈ us := List.getElem_mem hkl
    have hmev : vs[k] ∈ vs := List.getElem_mem hkv
    obtain ⟨hst, hsz⟩ := hz _ hmem
    obtain ⟨hst2, hsz2⟩ := hz2 _ hmev
    refine V_seq (V_block ?_)
    (first | refine V_seq_region ?_ | refine V_seq (V_seq_region ?_) | refine V_seq_draw tmix (by kernel_rfl) ?_ | refine V_seq (V_seq_draw tmix (by kernel_rfl) ?_) | refine V_region ?_ | refine V_draw tmix (by kernel_rfl) ?_)
    repeat (first | refine VO_d ?_ | refine VQ_d ?_)
    (first | refine VO_q (Q_index rfl rfl TE.h TI.h (by omega) hget) rfl ?_ | refine VQ_q (Q_index rfl rfl TE.h TI.h (by omega) hget) rfl ?_ | (refine VO_bare rfl rfl rfl rfl ?_; refine VO_q (Q_index rfl rfl TE.h TI.h (by omega) hget) rfl ?_) | refine VQ_run rfl rfl rfl rfl (Q_index rfl rfl TE.h TI.h (by omega) hget) rfl ?_)
    (first | refine VO_q (Q_load rfl TI.h hst hsz) rfl ?_ | refine VQ_q (Q_load rfl TI.h hst hsz) rfl ?_ | (refine VO_bare rfl rfl rfl rfl ?_; refine VO_q (Q_load rfl TI.h hst hsz) rfl ?_) | refine VQ_run rfl rfl rfl rfl (Q_load rfl TI.h hst hsz) rfl ?_)
    repeat (first | refine VO_d ?_ | refine VQ_d ?_)
    (first | refine VO_q (Q_index rfl rfl TE.h TI.h (by omega) hgev) rfl ?_ | refine VQ_q (Q_index rfl rfl TE.h TI.h (by omega) hgev) rfl ?_ | (refine VO_bare rfl rfl rfl rfl ?_; refine VO_q (Q_index rfl rfl TE.h TI.h (by omega) hgev) rfl ?_) | refine VQ_run rfl rfl rfl rfl (Q_index rfl rfl TE.h TI.h (by omega) hgev) rfl ?_)
    (first | refine VO_q (Q_load rfl TI.h hst2 hsz2) rfl ?_ | refine VQ_q (Q_load rfl TI.h hst2 hsz2) rfl ?_ | (refine VO_bare rfl rfl rfl rfl ?_; refine VO_q (Q_load rfl TI.h hst2 hsz2) rfl ?_) | refine VQ_run rfl rfl rfl rfl (Q_load rfl TI.h hst2 hsz2) rfl ?_)
    (first | refine VO_q (Q_call rfl (ih _ hmem _ hmev) (by (repeat (first | exact trivial | exact rfl | exact ⟨_, rfl⟩ | refine And.intro ?_ ?_)); first | done | fail)) rfl ?_ | refine VQ_q (Q_call rfl (ih _ hmem _ hmev) (by (repeat (first | exact trivial | exact rfl | exact ⟨_, rfl⟩ | refine And.intro ?_ ?_)); first | done | fail)) rfl ?_ | (refine VO_bare rfl rfl rfl rfl ?_; refine VO_q (Q_call rfl (ih _ hmem _ hmev) (by (repeat (first | exact trivial | exact rfl | exact ⟨_, rfl⟩ | refine And.intro ?_ ?_)); first | done | fail)) rfl ?_) | refine VQ_run rfl rfl rfl rfl (Q_call rfl (ih _ hmem _ hmev) (by (repeat (first | exact trivial | exact rfl | exact ⟨_, rfl⟩ | refine And.intro ?_ ?_)); first | done | fail)) rfl ?_)
    repeat (first | refine VO_d ?_ | refine VQ_d ?_)
    (first | refine VO_nil ?_ | refine VQ_nil ?_)
    refine V_cond rfl (fun hc3 => ?_) (fun hc3 => ?_)
    · (first | refine V_seq_region ?_ | refine V_seq (V_seq_region ?_) | refine V_seq_draw tmix (by kernel_rfl) ?_ | refine V_seq (V_seq_draw tmix (by kernel_rfl) ?_) | refine V_region ?_ | refine V_draw tmix (by kernel_rfl) ?_)
      repeat refine VO_d ?_
      (first | refine VO_nil ?_ | refine VQ_nil ?_)
      refine V_ret ?_
      exact ⟨trivial, ⟨_, rfl, congrArg U.b (deq_false.2 (by intro h; injection h with _ h; subst h; rw [deq_self] at hc3; cases hc3)).symm⟩, trivial⟩
    refine V_skip ?_
    have heq : us[k] = vs[k] := deq_true.1 (by simpa using hc3)
    (first | refine V_seq_region ?_ | refine V_seq (V_seq_region ?_) | refine V_seq_draw tmix (by kernel_rfl) ?_ | refine V_seq (V_seq_draw tmix (by kernel_rfl) ?_) | refine V_region ?_ | refine V_draw tmix (by kernel_rfl) ?_)
    repeat refine VO_d ?_
    (first | refine VO_nil ?_ | refine VQ_nil ?_)
    refine ⟨k + 1, ⟨by omega, fun j hj => ?_⟩, by omega, ⟨rfl, ⟨⟨rfl, rfl⟩, ⟨rfl, rfl⟩, ⟨rfl, rfl⟩, trivial⟩, ⟨[], rfl⟩, rfl⟩⟩
    by_cases hjk : j = k
    · subst hjk; rw [hget, hgev, heq]
    · exact hsame j (by omega)
  · refine V_exit ?_
    simp only [decide_eq_false_iff_not] at hc2
    have hkl : k = us.length := by omega
    subst hkl
    have hall : us = vs := by
      apply List.ext_getElem?
      intro j
      by_cases hj : j < us.length
      · exact hsame j hj
      · rw [List.getElem?_eq_none (by omega), List.getElem?_eq_none (by omega)]
    show V _ _ _ _ _
    (first | refine V_seq_region ?_ | refine V_seq (V_seq_region ?_) | refine V_seq_draw tmix (by kernel_rfl) ?_ | refine V_seq (V_seq_draw tmix (by kernel_rfl) ?_) | refine V_region ?_ | refine V_draw tmix (by kernel_rfl) ?_)
    repeat refine VO_d ?_
    (first | refine VO_nil ?_ | refine VQ_nil ?_)
    refine V_ret ?_
    exact ⟨trivial, ⟨_, rfl, congrArg U.b (deq_true.2 (by rw [hall])).symm⟩, trivial⟩

theorem eqCoreArmCore_grp (u : U) : (∀ v, wt (.st 20) u → wt (.st 20) v → PEq 97 u v) ∧ (∀ v, wt (.st 21) u → wt (.st 21) v → PEq 22 u v) := by
  refine U.ind (M := fun u => (∀ v, wt (.st 20) u → wt (.st 20) v → PEq 97 u v) ∧ (∀ v, wt (.st 21) u → wt (.st 21) v → PEq 22 u v)) (fun u ih => ?_) u
  refine ⟨?_, ?_⟩
  · intro v h h2
    obtain ⟨f0, f1, f2, rfl, p0, p1, p2⟩ := inv_CoreArm h
    obtain ⟨d0, d1, d2, rfl, q0, q1, q2⟩ := inv_CoreArm h2
    exact eqCoreArm_step p0 q0 (eqStringS_all p1 q1) p2 q2 ((ih f2 (by simp only [U.nn, U.nns]; omega)).2 _ p2 q2)
  · intro v h h2
    obtain ⟨f0, f1, f2, f3, f4, f5, f6, f7, f8, rfl, p0, p1, p2, p3, p4, p5, p6, p7, p8⟩ := inv_Core h
    obtain ⟨d0, d1, d2, d3, d4, d5, d6, d7, d8, rfl, q0, q1, q2, q3, q4, q5, q6, q7, q8⟩ := inv_Core h2
    exact eqCore_step p1 q1 p2 q2 p4 q4 (eqType_all p4 q4) (eqTypeS_all p5 q5) (eqEvidenceS_all p6 q6) (eqCoreS_step p7.1 q7.1 (fun a ha => ⟨wt_isSt (p7.2 a ha), by rw [wt_sz a _ (p7.2 a ha)]; rfl⟩) (fun a ha => ⟨wt_isSt (q7.2 a ha), by rw [wt_sz a _ (q7.2 a ha)]; rfl⟩) (fun a ha b hb => (ih a (by have := nn_of_mem ha; simp only [U.nn, U.nns]; omega)).2 b (p7.2 a ha) (q7.2 b hb))) (eqCoreArmS_step p8.1 q8.1 (fun a ha => ⟨wt_isSt (p8.2 a ha), by rw [wt_sz a _ (p8.2 a ha)]; rfl⟩) (fun a ha => ⟨wt_isSt (q8.2 a ha), by rw [wt_sz a _ (q8.2 a ha)]; rfl⟩) (fun a ha b hb => (ih a (by have := nn_of_mem ha; simp only [U.nn, U.nns]; omega)).1 b (p8.2 a ha) (q8.2 b hb)))
theorem eqCoreArm_all {u v : U} (h : wt (.st 20) u) (h2 : wt (.st 20) v) : PEq 97 u v := (eqCoreArmCore_grp u).1 v h h2
theorem eqCoreArmS_all {us vs : List U} (h : us.length ≤ big ∧ ∀ x ∈ us, wt (.st 20) x) (h2 : vs.length ≤ big ∧ ∀ x ∈ vs, wt (.st 20) x) : PEq 61 (.sl 13 us) (.sl 13 vs) := eqCoreArmS_step h.1 h2.1 (fun a ha => ⟨wt_isSt (h.2 a ha), by rw [wt_sz a _ (h.2 a ha)]; rfl⟩) (fun a ha => ⟨wt_isSt (h2.2 a ha), by rw [wt_sz a _ (h2.2 a ha)]; rfl⟩) (fun a ha b hb => eqCoreArm_all (h.2 a ha) (h2.2 b hb))
theorem eqCore_all {u v : U} (h : wt (.st 21) u) (h2 : wt (.st 21) v) : PEq 22 u v := (eqCoreArmCore_grp u).2 v h h2
theorem eqCoreS_all {us vs : List U} (h : us.length ≤ big ∧ ∀ x ∈ us, wt (.st 21) x) (h2 : vs.length ≤ big ∧ ∀ x ∈ vs, wt (.st 21) x) : PEq 60 (.sl 11 us) (.sl 11 vs) := eqCoreS_step h.1 h2.1 (fun a ha => ⟨wt_isSt (h.2 a ha), by rw [wt_sz a _ (h.2 a ha)]; rfl⟩) (fun a ha => ⟨wt_isSt (h2.2 a ha), by rw [wt_sz a _ (h2.2 a ha)]; rfl⟩) (fun a ha b hb => eqCore_all (h.2 a ha) (h2.2 b hb))
end Go.Proofs.Ythojhakapbfbiaa
