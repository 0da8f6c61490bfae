/- The contracts of the laws' own helpers (size checks, copies, comparisons). Written by a program of mine (fam.py). -/
import Derived.Test.YthojhakapbfbiaaDoorFacts
import Derived.Test.YthojhakapbfbiaaDoorEng13
set_option linter.unusedVariables false
set_option linter.unusedSimpArgs false
namespace Go.Proofs.YthojhakapbfbiaaDoor
open Go Go.Eng
attribute [local irreducible] V VO VQ Quiet SpecP
abbrev PSz (f : Nat) (u : U) : Prop := ∀ l : Int, 0 ≤ l → l ≤ 4611686018427387904 → SpecP Tryd.prog f [.d u, .d (.i .i64 l)] [.i .i64 (if (W u : Int) ≤ l then l - W u else -1)]
abbrev PTo (f : Nat) (u : U) : Prop := W u ≤ 1048576 → SpecP Tryd.prog f [.d u] [u]
abbrev PEq (f : Nat) (u v : U) : Prop := SpecP Tryd.prog f [.d u, .d v] [.b (deq u v)]

theorem zI {S : Nat → Prop} {w : World} : Rd S w (.i .i64 0) [.int .i64 0] := by simp [Rd]
theorem zB {S : Nat → Prop} {w : World} : Rd S w (.b false) [.bool false] := by simp [Rd]
theorem zS {S : Nat → Prop} {w : World} : Rd S w (.s []) [.string ⟨#[]⟩] := by simp [Rd, big]
theorem zL {S : Nat → Prop} {w : World} {z : Nat} : Rd S w (.sl z []) [.slice none 0 0] := by
  simp only [Rd]
  exact ⟨by simp [big], none, 0, rfl, .inl trivial⟩
/-- What a copy holds after k rounds. -/
def fillU (us : List U) (zu : U) (k : Nat) : List U := us.take k ++ List.replicate (us.length - k) zu
theorem fillU_zero (us : List U) (zu : U) : List.replicate us.length zu = fillU us zu 0 := by simp [fillU]
theorem fillU_all (us : List U) (zu : U) : fillU us zu us.length = us := by simp [fillU]
theorem fillU_length {us : List U} {zu : U} {k : Nat} (h : k ≤ us.length) : (fillU us zu k).length = us.length := by simp [fillU]; omega
theorem fillU_set {us : List U} {zu u : U} {k : Nat} (h : us[k]? = some u) : (fillU us zu k).set k u = fillU us zu (k + 1) := by
  obtain ⟨hk, rfl⟩ := List.getElem?_eq_some_iff.1 h
  unfold fillU
  have hl : (us.take k).length = k := by simp; omega
  rw [List.set_append_right _ _ (by omega), hl, Nat.sub_self]
  rw [show us.length - k = (us.length - (k + 1)) + 1 by omega, List.replicate_succ, List.set_cons_zero, List.take_succ_eq_append_getElem hk, List.append_assoc]
  rfl

theorem szIntS_step {us : List U} (hl : us.length ≤ big) (hz : ∀ a ∈ us, W a = 0) : PSz 80 (.sl 1 us) := by
  intro left hl0 hl1
  have hW : W (.sl 1 us) = us.length + Ws us := rfl
  have hb : (us.length : Int) ≤ 140737488355328 := by rw [big_eq] at hl; omega
  refine SpecP_intro Tryd.func80 rfl (by kernel_rfl) rfl fun A _ => ?_
  refine V_seq_region ?_
  repeat refine VO_d ?_
  refine VO_nil ?_
  refine V_seq_region ?_
  repeat refine VO_d ?_
  refine VO_nil ?_
  refine V_seq (V_seq_region ?_)
  repeat refine VO_d ?_
  refine VO_nil ?_
  refine V_cond rfl (fun hc => ?_) (fun hc => ?_)
  · refine V_seq_region ?_
    repeat refine VO_d ?_
    refine VO_nil ?_
    refine V_ret ?_
    simp only [decide_eq_true_eq] at hc
    exact ⟨trivial, ⟨_, rfl, congrArg (U.i .i64) (by rw [if_neg (by omega)])⟩, trivial⟩
  refine V_skip ?_
  simp only [decide_eq_false_iff_not] at hc
  refine V_seq_region ?_
  repeat refine VO_d ?_
  refine VO_nil ?_
  refine V_ret ?_
  have h00 : Ws us = 0 := by
    have : ∀ vs : List U, (∀ a ∈ vs, W a = 0) → Ws vs = 0 := by
      intro vs
      induction vs with
      | nil => intro _; rfl
      | cons v vs ih => intro h; simp only [Ws]; rw [h v (by simp), ih (fun a ha => h a (by simp [ha]))]
    exact this us hz
  exact ⟨trivial, ⟨_, rfl, congrArg (U.i .i64) (by rw [if_pos (by omega)]; omega)⟩, trivial⟩
theorem szIntS_all {us : List U} (h : us.length ≤ big ∧ ∀ x ∈ us, wt .int x) : PSz 80 (.sl 1 us) := szIntS_step h.1 (fun a ha => by obtain ⟨n, rfl, _⟩ := inv_int (h.2 a ha); rfl)
theorem szDictionary_step {f0 : Int} {f1 : U} {f2 : List U} {f3 : List U} (g1 : wt (.st 16) f1) (h1 : W f1 = 0) (h2 : PSz 80 (.sl 1 f2)) (h3 : PSz 81 (.sl 5 f3)) : PSz 50 (.st [.i .i64 f0, f1, .sl 1 f2, .sl 5 f3]) := by
  intro left hl0 hl1
  have hW : W (.st [.i .i64 f0, f1, .sl 1 f2, .sl 5 f3]) = 0 + (W f1 + (W (U.sl 1 f2) + (W (U.sl 5 f3) + 0))) := rfl
  obtain ⟨e1_0, e1_1, rfl, g1_0, g1_1⟩ := inv_InstanceRef g1
  refine SpecP_intro Tryd.func50 rfl (by kernel_rfl) rfl fun A _ => ?_
  refine V_seq_region ?_
  repeat refine VO_d ?_
  refine VO_nil ?_
  refine V_seq_region ?_
  repeat refine VO_d ?_
  refine VO_q (Q_call rfl (h2 left (by omega) (by omega)) (by (repeat (first | exact trivial | exact rfl | exact ⟨_, rfl⟩ | refine And.intro ?_ ?_)); first | done | fail)) rfl ?_
  repeat refine VO_d ?_
  refine VO_nil ?_
  refine V_seq (V_seq_region ?_)
  repeat refine VO_d ?_
  refine VO_nil ?_
  refine V_cond rfl (fun hc => ?_) (fun hc => ?_)
  · refine V_seq_region ?_
    repeat refine VO_d ?_
    refine VO_nil ?_
    refine V_ret ?_
    simp only [decide_eq_true_eq] at hc
    exact ⟨trivial, ⟨_, rfl, congrArg (U.i .i64) (by split at hc <;> (rw [if_neg (by omega)]))⟩, trivial⟩
  refine V_skip ?_
  simp only [decide_eq_false_iff_not] at hc
  have hpos2 := hc
  have heq : ∀ (c : Prop) [Decidable c] (a : Int), ¬ (if c then a else -1) < 0 → (if c then a else -1) = a ∧ c := by
    intro c _ a h
    split at h
    · rename_i hc; exact ⟨if_pos hc, hc⟩
    · omega
  obtain ⟨e2, c2⟩ := heq _ _ hc
  rw [e2]
  clear heq hc
  refine V_seq_region ?_
  repeat refine VO_d ?_
  refine VO_q (Q_call rfl (h3 (left - (W (U.sl 1 f2) : Int)) (by omega) (by omega)) (by (repeat (first | exact trivial | exact rfl | exact ⟨_, rfl⟩ | refine And.intro ?_ ?_)); first | done | fail)) rfl ?_
  repeat refine VO_d ?_
  refine VO_nil ?_
  refine V_seq (V_seq_region ?_)
  repeat refine VO_d ?_
  refine VO_nil ?_
  refine V_cond rfl (fun hc => ?_) (fun hc => ?_)
  · refine V_seq_region ?_
    repeat refine VO_d ?_
    refine VO_nil ?_
    refine V_ret ?_
    simp only [decide_eq_true_eq] at hc
    exact ⟨trivial, ⟨_, rfl, congrArg (U.i .i64) (by split at hc <;> (rw [if_neg (by omega)]))⟩, trivial⟩
  refine V_skip ?_
  simp only [decide_eq_false_iff_not] at hc
  have hpos3 := hc
  have heq : ∀ (c : Prop) [Decidable c] (a : Int), ¬ (if c then a else -1) < 0 → (if c then a else -1) = a ∧ c := by
    intro c _ a h
    split at h
    · rename_i hc; exact ⟨if_pos hc, hc⟩
    · omega
  obtain ⟨e3, c3⟩ := heq _ _ hc
  rw [e3]
  clear heq hc
  refine V_seq_region ?_
  repeat refine VO_d ?_
  refine VO_nil ?_
  refine V_ret ?_
  exact ⟨trivial, ⟨_, rfl, congrArg (U.i .i64) (by rw [if_pos (by omega)]; omega)⟩, trivial⟩

theorem szDictionaryS_step {us : List U} (hl : us.length ≤ big) (hz : ∀ a ∈ us, a.isSt = true ∧ a.sz = 5) (ih : ∀ a ∈ us, PSz 50 a) : PSz 81 (.sl 5 us) := by
  intro left hl0 hl1
  have hW : W (.sl 5 us) = us.length + Ws us := rfl
  have hb : (us.length : Int) ≤ 140737488355328 := by rw [big_eq] at hl; omega
  refine SpecP_intro Tryd.func81 rfl (by kernel_rfl) rfl fun A _ => ?_
  refine V_seq_region ?_
  repeat refine VO_d ?_
  refine VO_nil ?_
  refine V_seq_region ?_
  repeat refine VO_d ?_
  refine VO_nil ?_
  refine V_seq (V_seq_region ?_)
  repeat refine VO_d ?_
  refine VO_nil ?_
  refine V_cond rfl (fun hc => ?_) (fun hc => ?_)
  · refine V_seq_region ?_
    repeat refine VO_d ?_
    refine VO_nil ?_
    refine V_ret ?_
    simp only [decide_eq_true_eq] at hc
    exact ⟨trivial, ⟨_, rfl, congrArg (U.i .i64) (by rw [if_neg (by omega)])⟩, trivial⟩
  refine V_skip ?_
  simp only [decide_eq_false_iff_not] at hc
  refine V_seq (V_seq_region ?_)
  repeat refine VO_d ?_
  refine VO_nil ?_
  refine V_block ?_
  refine V_loop (α := Nat × Int)
    (fun x => ⟨[(0, .d (.sl 5 us)), (5, .d (.i .i64 x.1)), (1, .d (.i .i64 x.2))], [], Tryd.f81.ntmps⟩)
    (fun x => x.1 ≤ us.length ∧ 0 ≤ x.2 ∧ x.2 = left - us.length - Ws (us.take x.1))
    (fun x => us.length - x.1) (0, left - us.length) ⟨rfl, ⟨⟨rfl, rfl⟩, ⟨rfl, rfl⟩, ⟨rfl, rfl⟩, trivial⟩, ⟨[], rfl⟩, rfl⟩ ⟨by simp, by simp only; omega, by simp [Ws]⟩ ?_
  rintro ⟨k, l⟩ ⟨hk, hq0, hq1⟩
  simp only at hk hq0 hq1
  refine V_seq (V_seq_region ?_)
  repeat refine VO_d ?_
  refine VO_nil ?_
  refine V_cond rfl (fun hc2 => ?_) (fun hc2 => ?_)
  · refine V_skip ?_
    simp only [decide_eq_true_eq] at hc2
    have hkl : k < us.length := by omega
    have hget : us[k]? = some us[k] := List.getElem?_eq_getElem hkl
    have hmem : us[k] ∈ us := List.getElem_mem hkl
    have htk := Ws_take_succ hget
    have hle := Ws_take_le us (k + 1)
    obtain ⟨hst, hsz⟩ := hz _ hmem
    refine V_seq (V_block (V_seq_region ?_))
    repeat refine VO_d ?_
    refine VO_q (Q_index rfl rfl TE.h TI.h (by omega) hget) rfl ?_
    refine VO_q (Q_load rfl TI.h hst hsz) rfl ?_
    repeat refine VO_d ?_
    refine VO_q (Q_call rfl (ih _ hmem l (by omega) (by omega)) (by (repeat (first | exact trivial | exact rfl | exact ⟨_, rfl⟩ | refine And.intro ?_ ?_)); first | done | fail)) rfl ?_
    repeat refine VO_d ?_
    refine VO_nil ?_
    refine V_seq_region ?_
    repeat refine VO_d ?_
    refine VO_nil ?_
    refine V_cond rfl (fun hc3 => ?_) (fun hc3 => ?_)
    · refine V_seq_region ?_
      repeat refine VO_d ?_
      refine VO_nil ?_
      refine V_ret ?_
      simp only [decide_eq_true_eq] at hc3
      exact ⟨trivial, ⟨_, rfl, congrArg (U.i .i64) (by
        rw [if_neg (by intro hle2; rw [if_pos (by omega)] at hc3; omega)])⟩, trivial⟩
    refine V_skip ?_
    simp only [decide_eq_false_iff_not] at hc3
    refine V_region ?_
    repeat refine VO_d ?_
    refine VO_nil ?_
    refine ⟨(k + 1, (if (W us[k] : Int) ≤ l then l - W us[k] else -1)), ?_, ?_, ⟨rfl, ⟨⟨rfl, rfl⟩, ⟨rfl, rfl⟩, ⟨rfl, rfl⟩, trivial⟩, ⟨[], rfl⟩, rfl⟩⟩
    · simp only
      refine ⟨by omega, by omega, ?_⟩
      rw [if_pos (by apply Classical.byContradiction; intro hn; rw [if_neg hn] at hc3; omega)]
      omega
    · simp only
      omega
  · refine V_exit ?_
    simp only [decide_eq_false_iff_not] at hc2
    have hkl : k = us.length := by omega
    subst hkl
    rw [List.take_length] at hq1
    show V _ _ _ _ _
    refine V_seq_region ?_
    repeat refine VO_d ?_
    refine VO_nil ?_
    refine V_ret ?_
    exact ⟨trivial, ⟨_, rfl, congrArg (U.i .i64) (by rw [if_pos (by omega)]; omega)⟩, trivial⟩

theorem szDictionary_grp (u : U) : (wt (.st 26) u → PSz 50 u) := by
  refine U.ind (M := fun u => (wt (.st 26) u → PSz 50 u)) (fun u ih => ?_) u
  refine ?_
  · intro h
    obtain ⟨f0, f1, f2, f3, rfl, p0, p1, p2, p3⟩ := inv_Dictionary h
    exact szDictionary_step p1 (by obtain ⟨y0, y1, rfl, _⟩ := inv_InstanceRef p1; rfl) (szIntS_all p2) (szDictionaryS_step p3.1 (fun a ha => ⟨wt_isSt (p3.2 a ha), by rw [wt_sz a _ (p3.2 a ha)]; rfl⟩) (fun a ha => (ih a (by have := nn_of_mem ha; simp only [U.nn, U.nns]; omega)) (p3.2 a ha)))
theorem szDictionary_all {u : U} (h : wt (.st 26) u) : PSz 50 u := (szDictionary_grp u) h
theorem szDictionaryS_all {us : List U} (h : us.length ≤ big ∧ ∀ x ∈ us, wt (.st 26) x) : PSz 81 (.sl 5 us) := szDictionaryS_step h.1 (fun a ha => ⟨wt_isSt (h.2 a ha), by rw [wt_sz a _ (h.2 a ha)]; rfl⟩) (fun a ha => szDictionary_all (h.2 a ha))
theorem szValue_step {f0 : Int} {f1 : Int} {f2 : List UInt8} {f3 : U} {f4 : List U} (h2 : f2.length ≤ big) (g3 : wt (.st 26) f3) (h3 : PSz 50 f3) (h4 : PSz 51 (.sl 9 f4)) : PSz 16 (.st [.i .i64 f0, .i .i64 f1, .s f2, f3, .sl 9 f4]) := by
  intro left hl0 hl1
  have hW : W (.st [.i .i64 f0, .i .i64 f1, .s f2, f3, .sl 9 f4]) = 0 + (0 + (f2.length + (W f3 + (W (U.sl 9 f4) + 0)))) := rfl
  have hb2 : f2.length ≤ 140737488355328 := by rw [big_eq] at h2; exact h2
  obtain ⟨m3, hm3⟩ : ∃ m, W f3 = m := ⟨_, rfl⟩
  rw [hm3] at hW
  have h3 : ∀ l : Int, 0 ≤ l → l ≤ 4611686018427387904 → SpecP Tryd.prog 50 [.d f3, .d (.i .i64 l)] [.i .i64 (if (m3 : Int) ≤ l then l - m3 else -1)] := by rw [← hm3]; exact h3
  obtain ⟨e2_0, e2_1, e2_2, e2_3, rfl, g2_0, g2_1, g2_2, g2_3⟩ := inv_Dictionary g3
  obtain ⟨e3_0, e3_1, rfl, g3_0, g3_1⟩ := inv_InstanceRef g2_1
  refine SpecP_intro Tryd.func16 rfl (by kernel_rfl) rfl fun A _ => ?_
  refine V_seq_region ?_
  repeat refine VO_d ?_
  refine VO_nil ?_
  refine V_seq_region ?_
  repeat refine VO_d ?_
  refine VO_nil ?_
  refine V_seq (V_seq_region ?_)
  repeat refine VO_d ?_
  refine VO_nil ?_
  refine V_cond rfl (fun hc => ?_) (fun hc => ?_)
  · refine V_seq_region ?_
    repeat refine VO_d ?_
    refine VO_nil ?_
    refine V_ret ?_
    simp only [decide_eq_true_eq] at hc
    exact ⟨trivial, ⟨_, rfl, congrArg (U.i .i64) (by rw [if_neg (by omega)])⟩, trivial⟩
  refine V_skip ?_
  simp only [decide_eq_false_iff_not] at hc
  refine V_seq_region ?_
  repeat refine VO_d ?_
  refine VO_q (Q_call rfl (h3 (left - (f2.length : Int)) (by omega) (by omega)) (by (repeat (first | exact trivial | exact rfl | exact ⟨_, rfl⟩ | refine And.intro ?_ ?_)); first | done | fail)) rfl ?_
  repeat refine VO_d ?_
  refine VO_nil ?_
  refine V_seq (V_seq_region ?_)
  repeat refine VO_d ?_
  refine VO_nil ?_
  refine V_cond rfl (fun hc => ?_) (fun hc => ?_)
  · refine V_seq_region ?_
    repeat refine VO_d ?_
    refine VO_nil ?_
    refine V_ret ?_
    simp only [decide_eq_true_eq] at hc
    exact ⟨trivial, ⟨_, rfl, congrArg (U.i .i64) (by split at hc <;> (rw [if_neg (by omega)]))⟩, trivial⟩
  refine V_skip ?_
  simp only [decide_eq_false_iff_not] at hc
  have hpos3 := hc
  have heq : ∀ (c : Prop) [Decidable c] (a : Int), ¬ (if c then a else -1) < 0 → (if c then a else -1) = a ∧ c := by
    intro c _ a h
    split at h
    · rename_i hc; exact ⟨if_pos hc, hc⟩
    · omega
  obtain ⟨e3, c3⟩ := heq _ _ hc
  rw [e3]
  clear heq hc
  refine V_seq_region ?_
  repeat refine VO_d ?_
  refine VO_q (Q_call rfl (h4 ((left - (f2.length : Int)) - (m3 : Int)) (by omega) (by omega)) (by (repeat (first | exact trivial | exact rfl | exact ⟨_, rfl⟩ | refine And.intro ?_ ?_)); first | done | fail)) rfl ?_
  repeat refine VO_d ?_
  refine VO_nil ?_
  refine V_seq (V_seq_region ?_)
  repeat refine VO_d ?_
  refine VO_nil ?_
  refine V_cond rfl (fun hc => ?_) (fun hc => ?_)
  · refine V_seq_region ?_
    repeat refine VO_d ?_
    refine VO_nil ?_
    refine V_ret ?_
    simp only [decide_eq_true_eq] at hc
    exact ⟨trivial, ⟨_, rfl, congrArg (U.i .i64) (by split at hc <;> (rw [if_neg (by omega)]))⟩, trivial⟩
  refine V_skip ?_
  simp only [decide_eq_false_iff_not] at hc
  have hpos4 := hc
  have heq : ∀ (c : Prop) [Decidable c] (a : Int), ¬ (if c then a else -1) < 0 → (if c then a else -1) = a ∧ c := by
    intro c _ a h
    split at h
    · rename_i hc; exact ⟨if_pos hc, hc⟩
    · omega
  obtain ⟨e4, c4⟩ := heq _ _ hc
  rw [e4]
  clear heq hc
  refine V_seq_region ?_
  repeat refine VO_d ?_
  refine VO_nil ?_
  refine V_ret ?_
  exact ⟨trivial, ⟨_, rfl, congrArg (U.i .i64) (by rw [if_pos (by omega)]; omega)⟩, trivial⟩

theorem szValueS_step {us : List U} (hl : us.length ≤ big) (hz : ∀ a ∈ us, a.isSt = true ∧ a.sz = 9) (ih : ∀ a ∈ us, PSz 16 a) : PSz 51 (.sl 9 us) := by
  intro left hl0 hl1
  have hW : W (.sl 9 us) = us.length + Ws us := rfl
  have hb : (us.length : Int) ≤ 140737488355328 := by rw [big_eq] at hl; omega
  refine SpecP_intro Tryd.func51 rfl (by kernel_rfl) rfl fun A _ => ?_
  refine V_seq_region ?_
  repeat refine VO_d ?_
  refine VO_nil ?_
  refine V_seq_region ?_
  repeat refine VO_d ?_
  refine VO_nil ?_
  refine V_seq (V_seq_region ?_)
  repeat refine VO_d ?_
  refine VO_nil ?_
  refine V_cond rfl (fun hc => ?_) (fun hc => ?_)
  · refine V_seq_region ?_
    repeat refine VO_d ?_
    refine VO_nil ?_
    refine V_ret ?_
    simp only [decide_eq_true_eq] at hc
    exact ⟨trivial, ⟨_, rfl, congrArg (U.i .i64) (by rw [if_neg (by omega)])⟩, trivial⟩
  refine V_skip ?_
  simp only [decide_eq_false_iff_not] at hc
  refine V_seq (V_seq_region ?_)
  repeat refine VO_d ?_
  refine VO_nil ?_
  refine V_block ?_
  refine V_loop (α := Nat × Int)
    (fun x => ⟨[(0, .d (.sl 9 us)), (5, .d (.i .i64 x.1)), (1, .d (.i .i64 x.2))], [], Tryd.f51.ntmps⟩)
    (fun x => x.1 ≤ us.length ∧ 0 ≤ x.2 ∧ x.2 = left - us.length - Ws (us.take x.1))
    (fun x => us.length - x.1) (0, left - us.length) ⟨rfl, ⟨⟨rfl, rfl⟩, ⟨rfl, rfl⟩, ⟨rfl, rfl⟩, trivial⟩, ⟨[], rfl⟩, rfl⟩ ⟨by simp, by simp only; omega, by simp [Ws]⟩ ?_
  rintro ⟨k, l⟩ ⟨hk, hq0, hq1⟩
  simp only at hk hq0 hq1
  refine V_seq (V_seq_region ?_)
  repeat refine VO_d ?_
  refine VO_nil ?_
  refine V_cond rfl (fun hc2 => ?_) (fun hc2 => ?_)
  · refine V_skip ?_
    simp only [decide_eq_true_eq] at hc2
    have hkl : k < us.length := by omega
    have hget : us[k]? = some us[k] := List.getElem?_eq_getElem hkl
    have hmem : us[k] ∈ us := List.getElem_mem hkl
    have htk := Ws_take_succ hget
    have hle := Ws_take_le us (k + 1)
    obtain ⟨hst, hsz⟩ := hz _ hmem
    refine V_seq (V_block (V_seq_region ?_))
    repeat refine VO_d ?_
    refine VO_q (Q_index rfl rfl TE.h TI.h (by omega) hget) rfl ?_
    refine VO_q (Q_load rfl TI.h hst hsz) rfl ?_
    repeat refine VO_d ?_
    refine VO_q (Q_call rfl (ih _ hmem l (by omega) (by omega)) (by (repeat (first | exact trivial | exact rfl | exact ⟨_, rfl⟩ | refine And.intro ?_ ?_)); first | done | fail)) rfl ?_
    repeat refine VO_d ?_
    refine VO_nil ?_
    refine V_seq_region ?_
    repeat refine VO_d ?_
    refine VO_nil ?_
    refine V_cond rfl (fun hc3 => ?_) (fun hc3 => ?_)
    · refine V_seq_region ?_
      repeat refine VO_d ?_
      refine VO_nil ?_
      refine V_ret ?_
      simp only [decide_eq_true_eq] at hc3
      exact ⟨trivial, ⟨_, rfl, congrArg (U.i .i64) (by
        rw [if_neg (by intro hle2; rw [if_pos (by omega)] at hc3; omega)])⟩, trivial⟩
    refine V_skip ?_
    simp only [decide_eq_false_iff_not] at hc3
    refine V_region ?_
    repeat refine VO_d ?_
    refine VO_nil ?_
    refine ⟨(k + 1, (if (W us[k] : Int) ≤ l then l - W us[k] else -1)), ?_, ?_, ⟨rfl, ⟨⟨rfl, rfl⟩, ⟨rfl, rfl⟩, ⟨rfl, rfl⟩, trivial⟩, ⟨[], rfl⟩, rfl⟩⟩
    · simp only
      refine ⟨by omega, by omega, ?_⟩
      rw [if_pos (by apply Classical.byContradiction; intro hn; rw [if_neg hn] at hc3; omega)]
      omega
    · simp only
      omega
  · refine V_exit ?_
    simp only [decide_eq_false_iff_not] at hc2
    have hkl : k = us.length := by omega
    subst hkl
    rw [List.take_length] at hq1
    show V _ _ _ _ _
    refine V_seq_region ?_
    repeat refine VO_d ?_
    refine VO_nil ?_
    refine V_ret ?_
    exact ⟨trivial, ⟨_, rfl, congrArg (U.i .i64) (by rw [if_pos (by omega)]; omega)⟩, trivial⟩

theorem szValue_grp (u : U) : (wt (.st 27) u → PSz 16 u) := by
  refine U.ind (M := fun u => (wt (.st 27) u → PSz 16 u)) (fun u ih => ?_) u
  refine ?_
  · intro h
    obtain ⟨f0, f1, f2, f3, f4, rfl, p0, p1, p2, p3, p4⟩ := inv_Value h
    exact szValue_step p2 p3 (szDictionary_all p3) (szValueS_step p4.1 (fun a ha => ⟨wt_isSt (p4.2 a ha), by rw [wt_sz a _ (p4.2 a ha)]; rfl⟩) (fun a ha => (ih a (by have := nn_of_mem ha; simp only [U.nn, U.nns]; omega)) (p4.2 a ha)))
theorem szValue_all {u : U} (h : wt (.st 27) u) : PSz 16 u := (szValue_grp u) h
theorem szValueS_all {us : List U} (h : us.length ≤ big ∧ ∀ x ∈ us, wt (.st 27) x) : PSz 51 (.sl 9 us) := szValueS_step h.1 (fun a ha => ⟨wt_isSt (h.2 a ha), by rw [wt_sz a _ (h.2 a ha)]; rfl⟩) (fun a ha => szValue_all (h.2 a ha))
theorem toInstanceRef_step {f0 : Int} {f1 : Int}  : PTo 82 (.st [.i .i64 f0, .i .i64 f1]) := by
  intro hw
  have hW : W (.st [.i .i64 f0, .i .i64 f1]) = 0 + (0 + 0) := rfl
  clear hW hw
  refine SpecP_intro Tryd.func82 rfl (by kernel_rfl) rfl fun A _ => ?_
  (first | refine V_seq_region ?_ | refine V_seq (V_seq_region ?_) | refine V_seq_draw tmix (by kernel_rfl) ?_ | refine V_seq (V_seq_draw tmix (by kernel_rfl) ?_) | refine V_region ?_ | refine V_draw tmix (by kernel_rfl) ?_)
  repeat refine VO_d ?_
  (first | refine VO_nil ?_ | refine VQ_nil ?_)
  (first | refine V_seq_region ?_ | refine V_seq (V_seq_region ?_) | refine V_seq_draw tmix (by kernel_rfl) ?_ | refine V_seq (V_seq_draw tmix (by kernel_rfl) ?_) | refine V_region ?_ | refine V_draw tmix (by kernel_rfl) ?_)
  repeat refine VO_d ?_
  (first | refine VO_nil ?_ | refine VQ_nil ?_)
  (first | refine V_seq_region ?_ | refine V_seq (V_seq_region ?_) | refine V_seq_draw tmix (by kernel_rfl) ?_ | refine V_seq (V_seq_draw tmix (by kernel_rfl) ?_) | refine V_region ?_ | refine V_draw tmix (by kernel_rfl) ?_)
  repeat refine VO_d ?_
  (first | refine VO_nil ?_ | refine VQ_nil ?_)
  (first | refine V_seq_region ?_ | refine V_seq (V_seq_region ?_) | refine V_seq_draw tmix (by kernel_rfl) ?_ | refine V_seq (V_seq_draw tmix (by kernel_rfl) ?_) | refine V_region ?_ | refine V_draw tmix (by kernel_rfl) ?_)
  repeat refine VO_d ?_
  (first | refine VO_nil ?_ | refine VQ_nil ?_)
  (first | refine V_seq_region ?_ | refine V_seq (V_seq_region ?_) | refine V_seq_draw tmix (by kernel_rfl) ?_ | refine V_seq (V_seq_draw tmix (by kernel_rfl) ?_) | refine V_region ?_ | refine V_draw tmix (by kernel_rfl) ?_)
  repeat refine VO_d ?_
  (first | refine VO_nil ?_ | refine VQ_nil ?_)
  refine V_ret ?_
  exact ⟨trivial, ⟨_, ResV_ag rfl rfl TI.h rfl rfl, (by (repeat (first | exact trivial | exact rfl | exact ⟨_, rfl⟩ | refine And.intro ?_ ?_)); first | done | fail)⟩, trivial⟩

theorem toInstanceRef_grp (u : U) : (wt (.st 16) u → PTo 82 u) := by
  refine U.ind (M := fun u => (wt (.st 16) u → PTo 82 u)) (fun u ih => ?_) u
  refine ?_
  · intro h
    obtain ⟨f0, f1, rfl, p0, p1⟩ := inv_InstanceRef h
    exact toInstanceRef_step 
theorem toInstanceRef_all {u : U} (h : wt (.st 16) u) : PTo 82 u := (toInstanceRef_grp u) h
theorem zu_Int : ZeroU (.i .i64 0) [.int .i64 0] := fun S w => Rd.of_leafs _ _ (And.intro zI (trivial))
theorem toIntS_step {us : List U} (hz : ∀ a ∈ us, ∃ n : Int, a = .i .i64 n ∧ inRange n) : PTo 83 (.sl 1 us) := by
  intro hw
  have hW : W (.sl 1 us) = us.length + Ws us := rfl
  refine SpecP_intro Tryd.func83 rfl (by kernel_rfl) rfl fun A _ => ?_
  (first | refine V_seq_region ?_ | refine V_seq (V_seq_region ?_) | refine V_seq_draw tmix (by kernel_rfl) ?_ | refine V_seq (V_seq_draw tmix (by kernel_rfl) ?_) | refine V_region ?_ | refine V_draw tmix (by kernel_rfl) ?_)
  repeat refine VO_d ?_
  (first | refine VO_nil ?_ | refine VQ_nil ?_)
  (first | refine V_seq_region ?_ | refine V_seq (V_seq_region ?_) | refine V_seq_draw tmix (by kernel_rfl) ?_ | refine V_seq (V_seq_draw tmix (by kernel_rfl) ?_) | refine V_region ?_ | refine V_draw tmix (by kernel_rfl) ?_)
  repeat refine VO_d ?_
  refine VO_make rfl rfl TE.h TI.h TZ.h rfl zu_Int (by omega) (by omega) (by rw [big_eq]; omega) (by omega) rfl (by simp only [List.length_nil, List.length_cons, List.nil_append, List.cons_append, List.set_cons_zero, List.set_cons_succ, List.take_zero, List.take_succ_cons, List.drop_zero, List.drop_succ_cons, Nat.reduceAdd, Nat.zero_add] <;> rfl) (by simp only [List.length_nil, List.length_cons, List.nil_append, List.cons_append, List.set_cons_zero, List.set_cons_succ, List.take_zero, List.take_succ_cons, List.drop_zero, List.drop_succ_cons, Nat.reduceAdd, Nat.zero_add] <;> rfl) ?_
  repeat refine VO_d ?_
  (first | refine VO_nil ?_ | refine VQ_nil ?_)
  rw [Int.toNat_natCast, fillU_zero]
  (first | refine V_seq_region ?_ | refine V_seq (V_seq_region ?_) | refine V_seq_draw tmix (by kernel_rfl) ?_ | refine V_seq (V_seq_draw tmix (by kernel_rfl) ?_) | refine V_region ?_ | refine V_draw tmix (by kernel_rfl) ?_)
  repeat refine VO_d ?_
  (first | refine VO_nil ?_ | refine VQ_nil ?_)
  refine V_block ?_
  refine V_loop (α := Nat)
    (fun k => ⟨[(0, .d (.sl 1 us)), (3, .sl 0 0), (4, .d (.i .i64 k))], [.arr 3 1 0 (fillU us (.i .i64 0) k)], Tryd.f83.ntmps⟩)
    (fun k => k ≤ us.length)
    (fun k => us.length - k) 0 ⟨rfl, ⟨⟨rfl, rfl⟩, ⟨rfl, rfl⟩, ⟨rfl, rfl⟩, trivial⟩, ⟨[], rfl⟩, rfl⟩ (by simp) ?_
  intro k hk
  (first | refine V_seq_region ?_ | refine V_seq (V_seq_region ?_) | refine V_seq_draw tmix (by kernel_rfl) ?_ | refine V_seq (V_seq_draw tmix (by kernel_rfl) ?_) | refine V_region ?_ | refine V_draw tmix (by kernel_rfl) ?_)
  repeat refine VO_d ?_
  (first | refine VO_nil ?_ | refine VQ_nil ?_)
  refine V_cond rfl (fun hc2 => ?_) (fun hc2 => ?_)
  · refine V_skip ?_
    simp only [decide_eq_true_eq] at hc2
    have hkl : k < us.length := by omega
    have hget : us[k]? = some us[k] := List.getElem?_eq_getElem hkl
    have hmem : us[k] ∈ us := List.getElem_mem hkl
    have hwk := W_le_of_mem hmem
    have hfl : (fillU us (.i .i64 0) k).length = us.length := fillU_length hk
    obtain ⟨n, hsl, hr⟩ := hz _ hmem
    have hget2 : us[k]? = some (.i .i64 n) := by rw [hget, hsl]
    refine V_seq (V_block ?_)
    (first | refine V_seq_region ?_ | refine V_seq (V_seq_region ?_) | refine V_seq_draw tmix (by kernel_rfl) ?_ | refine V_seq (V_seq_draw tmix (by kernel_rfl) ?_) | refine V_region ?_ | refine V_draw tmix (by kernel_rfl) ?_)
    repeat (first | refine VO_d ?_ | refine VQ_d ?_)
    (first | refine VO_q (Q_index rfl rfl TE.h TI.h (by omega) hget2) rfl ?_ | refine VQ_q (Q_index rfl rfl TE.h TI.h (by omega) hget2) rfl ?_ | (refine VO_bare rfl rfl rfl rfl ?_; refine VO_q (Q_index rfl rfl TE.h TI.h (by omega) hget2) rfl ?_) | refine VQ_run rfl rfl rfl rfl (Q_index rfl rfl TE.h TI.h (by omega) hget2) rfl ?_)
    repeat (first | refine VO_d ?_ | refine VQ_d ?_)
    (first | refine VO_q (Q_index_arr rfl rfl rfl TE.h TI.h (by omega) (by omega)) rfl ?_ | refine VQ_q (Q_index_arr rfl rfl rfl TE.h TI.h (by omega) (by omega)) rfl ?_ | (refine VO_bare rfl rfl rfl rfl ?_; refine VO_q (Q_index_arr rfl rfl rfl TE.h TI.h (by omega) (by omega)) rfl ?_) | refine VQ_run rfl rfl rfl rfl (Q_index_arr rfl rfl rfl TE.h TI.h (by omega) (by omega)) rfl ?_)
    refine VO_store_ep rfl rfl (by exact rfl) TI.h rfl (by omega) (by simp only [List.length_nil, List.length_cons, List.nil_append, List.cons_append, List.set_cons_zero, List.set_cons_succ, List.take_zero, List.take_succ_cons, List.drop_zero, List.drop_succ_cons, Nat.reduceAdd, Nat.zero_add] <;> rfl) ?_
    rw [← hsl]
    (first | refine VO_nil ?_ | refine VQ_nil ?_)
    (first | refine V_seq_region ?_ | refine V_seq (V_seq_region ?_) | refine V_seq_draw tmix (by kernel_rfl) ?_ | refine V_seq (V_seq_draw tmix (by kernel_rfl) ?_) | refine V_region ?_ | refine V_draw tmix (by kernel_rfl) ?_)
    repeat refine VO_d ?_
    (first | refine VO_nil ?_ | refine VQ_nil ?_)
    refine ⟨k + 1, by omega, by omega, ⟨rfl, ⟨⟨rfl, rfl⟩, ⟨rfl, rfl⟩, ⟨rfl, rfl⟩, trivial⟩, ⟨[], ?_⟩, rfl⟩⟩
    rw [Int.toNat_natCast, fillU_set hget]
    rfl
  · refine V_exit ?_
    simp only [decide_eq_false_iff_not] at hc2
    have hkl : k = us.length := by omega
    subst hkl
    rw [fillU_all]
    show V _ _ _ _ _
    (first | refine V_seq_region ?_ | refine V_seq (V_seq_region ?_) | refine V_seq_draw tmix (by kernel_rfl) ?_ | refine V_seq (V_seq_draw tmix (by kernel_rfl) ?_) | refine V_region ?_ | refine V_draw tmix (by kernel_rfl) ?_)
    repeat refine VO_d ?_
    (first | refine VO_nil ?_ | refine VQ_nil ?_)
    refine V_freeze 0 rfl (by simp only [List.length_nil, List.length_cons, List.nil_append, List.cons_append, List.set_cons_zero, List.set_cons_succ, List.take_zero, List.take_succ_cons, List.drop_zero, List.drop_succ_cons, Nat.reduceAdd, Nat.zero_add] <;> rfl) ?_
    refine V_ret ?_
    exact ⟨trivial, ⟨_, rfl, _, rfl⟩, trivial⟩

theorem toIntS_all {us : List U} (h : us.length ≤ big ∧ ∀ x ∈ us, wt .int x) : PTo 83 (.sl 1 us) := toIntS_step (fun a ha => inv_int (h.2 a ha))
theorem toDictionary_step {f0 : Int} {f1 : U} {f2 : List U} {f3 : List U} (g1 : wt (.st 16) f1) (h1 : PTo 82 f1) (h2 : PTo 83 (.sl 1 f2)) (h3 : PTo 84 (.sl 5 f3)) : PTo 52 (.st [.i .i64 f0, f1, .sl 1 f2, .sl 5 f3]) := by
  intro hw
  have hW : W (.st [.i .i64 f0, f1, .sl 1 f2, .sl 5 f3]) = 0 + (W f1 + (W (U.sl 1 f2) + (W (U.sl 5 f3) + 0))) := rfl
  have c1 := h1 (by omega)
  clear h1
  have c2 := h2 (by omega)
  clear h2
  have c3 := h3 (by omega)
  clear h3
  clear hW hw
  obtain ⟨e4_0, e4_1, rfl, g4_0, g4_1⟩ := inv_InstanceRef g1
  refine SpecP_intro Tryd.func52 rfl (by kernel_rfl) rfl fun A _ => ?_
  (first | refine V_seq_region ?_ | refine V_seq (V_seq_region ?_) | refine V_seq_draw tmix (by kernel_rfl) ?_ | refine V_seq (V_seq_draw tmix (by kernel_rfl) ?_) | refine V_region ?_ | refine V_draw tmix (by kernel_rfl) ?_)
  repeat refine VO_d ?_
  (first | refine VO_nil ?_ | refine VQ_nil ?_)
  (first | refine V_seq_region ?_ | refine V_seq (V_seq_region ?_) | refine V_seq_draw tmix (by kernel_rfl) ?_ | refine V_seq (V_seq_draw tmix (by kernel_rfl) ?_) | refine V_region ?_ | refine V_draw tmix (by kernel_rfl) ?_)
  repeat refine VO_d ?_
  (first | refine VO_nil ?_ | refine VQ_nil ?_)
  (first | refine V_seq_region ?_ | refine V_seq (V_seq_region ?_) | refine V_seq_draw tmix (by kernel_rfl) ?_ | refine V_seq (V_seq_draw tmix (by kernel_rfl) ?_) | refine V_region ?_ | refine V_draw tmix (by kernel_rfl) ?_)
  repeat refine VO_d ?_
  (first | refine VO_nil ?_ | refine VQ_nil ?_)
  (first | refine V_seq_region ?_ | refine V_seq (V_seq_region ?_) | refine V_seq_draw tmix (by kernel_rfl) ?_ | refine V_seq (V_seq_draw tmix (by kernel_rfl) ?_) | refine V_region ?_ | refine V_draw tmix (by kernel_rfl) ?_)
  repeat refine VO_d ?_
  (first | refine VO_q (Q_call rfl c1 (by (repeat (first | exact trivial | exact rfl | exact ⟨_, rfl⟩ | refine And.intro ?_ ?_)); first | done | fail)) rfl ?_ | refine VQ_q (Q_call rfl c1 (by (repeat (first | exact trivial | exact rfl | exact ⟨_, rfl⟩ | refine And.intro ?_ ?_)); first | done | fail)) rfl ?_ | (refine VO_bare rfl rfl rfl rfl ?_; refine VO_q (Q_call rfl c1 (by (repeat (first | exact trivial | exact rfl | exact ⟨_, rfl⟩ | refine And.intro ?_ ?_)); first | done | fail)) rfl ?_) | refine VQ_run rfl rfl rfl rfl (Q_call rfl c1 (by (repeat (first | exact trivial | exact rfl | exact ⟨_, rfl⟩ | refine And.intro ?_ ?_)); first | done | fail)) rfl ?_)
  repeat refine VO_d ?_
  (first | refine VO_nil ?_ | refine VQ_nil ?_)
  (first | refine V_seq_region ?_ | refine V_seq (V_seq_region ?_) | refine V_seq_draw tmix (by kernel_rfl) ?_ | refine V_seq (V_seq_draw tmix (by kernel_rfl) ?_) | refine V_region ?_ | refine V_draw tmix (by kernel_rfl) ?_)
  repeat refine VO_d ?_
  (first | refine VO_q (Q_call rfl c2 (by (repeat (first | exact trivial | exact rfl | exact ⟨_, rfl⟩ | refine And.intro ?_ ?_)); first | done | fail)) rfl ?_ | refine VQ_q (Q_call rfl c2 (by (repeat (first | exact trivial | exact rfl | exact ⟨_, rfl⟩ | refine And.intro ?_ ?_)); first | done | fail)) rfl ?_ | (refine VO_bare rfl rfl rfl rfl ?_; refine VO_q (Q_call rfl c2 (by (repeat (first | exact trivial | exact rfl | exact ⟨_, rfl⟩ | refine And.intro ?_ ?_)); first | done | fail)) rfl ?_) | refine VQ_run rfl rfl rfl rfl (Q_call rfl c2 (by (repeat (first | exact trivial | exact rfl | exact ⟨_, rfl⟩ | refine And.intro ?_ ?_)); first | done | fail)) rfl ?_)
  repeat refine VO_d ?_
  (first | refine VO_nil ?_ | refine VQ_nil ?_)
  (first | refine V_seq_region ?_ | refine V_seq (V_seq_region ?_) | refine V_seq_draw tmix (by kernel_rfl) ?_ | refine V_seq (V_seq_draw tmix (by kernel_rfl) ?_) | refine V_region ?_ | refine V_draw tmix (by kernel_rfl) ?_)
  repeat refine VO_d ?_
  (first | refine VO_q (Q_call rfl c3 (by (repeat (first | exact trivial | exact rfl | exact ⟨_, rfl⟩ | refine And.intro ?_ ?_)); first | done | fail)) rfl ?_ | refine VQ_q (Q_call rfl c3 (by (repeat (first | exact trivial | exact rfl | exact ⟨_, rfl⟩ | refine And.intro ?_ ?_)); first | done | fail)) rfl ?_ | (refine VO_bare rfl rfl rfl rfl ?_; refine VO_q (Q_call rfl c3 (by (repeat (first | exact trivial | exact rfl | exact ⟨_, rfl⟩ | refine And.intro ?_ ?_)); first | done | fail)) rfl ?_) | refine VQ_run rfl rfl rfl rfl (Q_call rfl c3 (by (repeat (first | exact trivial | exact rfl | exact ⟨_, rfl⟩ | refine And.intro ?_ ?_)); first | done | fail)) rfl ?_)
  repeat refine VO_d ?_
  (first | refine VO_nil ?_ | refine VQ_nil ?_)
  (first | refine V_seq_region ?_ | refine V_seq (V_seq_region ?_) | refine V_seq_draw tmix (by kernel_rfl) ?_ | refine V_seq (V_seq_draw tmix (by kernel_rfl) ?_) | refine V_region ?_ | refine V_draw tmix (by kernel_rfl) ?_)
  repeat refine VO_d ?_
  (first | refine VO_nil ?_ | refine VQ_nil ?_)
  refine V_ret ?_
  exact ⟨trivial, ⟨_, ResV_ag rfl rfl TI.h rfl rfl, (by (repeat (first | exact trivial | exact rfl | exact ⟨_, rfl⟩ | refine And.intro ?_ ?_)); first | done | fail)⟩, trivial⟩

theorem zu_Dictionary : ZeroU (.st [.i .i64 0, .st [.i .i64 0, .i .i64 0], .sl 1 [], .sl 5 []]) [.int .i64 0, .int .i64 0, .int .i64 0, .slice none 0 0, .slice none 0 0] := fun S w => Rd.of_leafs _ _ (And.intro zI (And.intro zI (And.intro zI (And.intro zL (And.intro zL (trivial))))))
theorem toDictionaryS_step {us : List U} (hz : ∀ a ∈ us, a.isSt = true ∧ a.sz = 5) (ih : ∀ a ∈ us, PTo 52 a) : PTo 84 (.sl 5 us) := by
  intro hw
  have hW : W (.sl 5 us) = us.length + Ws us := rfl
  refine SpecP_intro Tryd.func84 rfl (by kernel_rfl) rfl fun A _ => ?_
  (first | refine V_seq_region ?_ | refine V_seq (V_seq_region ?_) | refine V_seq_draw tmix (by kernel_rfl) ?_ | refine V_seq (V_seq_draw tmix (by kernel_rfl) ?_) | refine V_region ?_ | refine V_draw tmix (by kernel_rfl) ?_)
  repeat refine VO_d ?_
  (first | refine VO_nil ?_ | refine VQ_nil ?_)
  (first | refine V_seq_region ?_ | refine V_seq (V_seq_region ?_) | refine V_seq_draw tmix (by kernel_rfl) ?_ | refine V_seq (V_seq_draw tmix (by kernel_rfl) ?_) | refine V_region ?_ | refine V_draw tmix (by kernel_rfl) ?_)
  repeat refine VO_d ?_
  refine VO_make rfl rfl TE.h TI.h TZ.h rfl zu_Dictionary (by omega) (by omega) (by rw [big_eq]; omega) (by omega) rfl (by simp only [List.length_nil, List.length_cons, List.nil_append, List.cons_append, List.set_cons_zero, List.set_cons_succ, List.take_zero, List.take_succ_cons, List.drop_zero, List.drop_succ_cons, Nat.reduceAdd, Nat.zero_add] <;> rfl) (by simp only [List.length_nil, List.length_cons, List.nil_append, List.cons_append, List.set_cons_zero, List.set_cons_succ, List.take_zero, List.take_succ_cons, List.drop_zero, List.drop_succ_cons, Nat.reduceAdd, Nat.zero_add] <;> rfl) ?_
  repeat refine VO_d ?_
  (first | refine VO_nil ?_ | refine VQ_nil ?_)
  rw [Int.toNat_natCast, fillU_zero]
  (first | refine V_seq_region ?_ | refine V_seq (V_seq_region ?_) | refine V_seq_draw tmix (by kernel_rfl) ?_ | refine V_seq (V_seq_draw tmix (by kernel_rfl) ?_) | refine V_region ?_ | refine V_draw tmix (by kernel_rfl) ?_)
  repeat refine VO_d ?_
  (first | refine VO_nil ?_ | refine VQ_nil ?_)
  refine V_block ?_
  refine V_loop (α := Nat)
    (fun k => ⟨[(0, .d (.sl 5 us)), (3, .sl 0 0), (4, .d (.i .i64 k))], [.arr 58 5 0 (fillU us (.st [.i .i64 0, .st [.i .i64 0, .i .i64 0], .sl 1 [], .sl 5 []]) k)], Tryd.f84.ntmps⟩)
    (fun k => k ≤ us.length)
    (fun k => us.length - k) 0 ⟨rfl, ⟨⟨rfl, rfl⟩, ⟨rfl, rfl⟩, ⟨rfl, rfl⟩, trivial⟩, ⟨[], rfl⟩, rfl⟩ (by simp) ?_
  intro k hk
  (first | refine V_seq_region ?_ | refine V_seq (V_seq_region ?_) | refine V_seq_draw tmix (by kernel_rfl) ?_ | refine V_seq (V_seq_draw tmix (by kernel_rfl) ?_) | refine V_region ?_ | refine V_draw tmix (by kernel_rfl) ?_)
  repeat refine VO_d ?_
  (first | refine VO_nil ?_ | refine VQ_nil ?_)
  refine V_cond rfl (fun hc2 => ?_) (fun hc2 => ?_)
  · refine V_skip ?_
    simp only [decide_eq_true_eq] at hc2
    have hkl : k < us.length := by omega
    have hget : us[k]? = some us[k] := List.getElem?_eq_getElem hkl
    have hmem : us[k] ∈ us := List.getElem_mem hkl
    have hwk := W_le_of_mem hmem
    have hfl : (fillU us (.st [.i .i64 0, .st [.i .i64 0, .i .i64 0], .sl 1 [], .sl 5 []]) k).length = us.length := fillU_length hk
    obtain ⟨hst, hsz⟩ := hz _ hmem
    refine V_seq (V_block ?_)
    (first | refine V_seq_region ?_ | refine V_seq (V_seq_region ?_) | refine V_seq_draw tmix (by kernel_rfl) ?_ | refine V_seq (V_seq_draw tmix (by kernel_rfl) ?_) | refine V_region ?_ | refine V_draw tmix (by kernel_rfl) ?_)
    repeat refine VO_d ?_
    refine VO_q (Q_index rfl rfl TE.h TI.h (by omega) hget) rfl ?_
    refine VO_q (Q_load rfl TI.h hst hsz) rfl ?_
    refine VO_q (Q_call rfl (ih _ hmem (by omega)) (by (repeat (first | exact trivial | exact rfl | exact ⟨_, rfl⟩ | refine And.intro ?_ ?_)); first | done | fail)) rfl ?_
    refine VO_q (Q_index_arr rfl rfl rfl TE.h TI.h (by omega) (by omega)) rfl ?_
    refine VO_store_ep rfl rfl (by exact rfl) TI.h hsz (by omega) (by simp only [List.length_nil, List.length_cons, List.nil_append, List.cons_append, List.set_cons_zero, List.set_cons_succ, List.take_zero, List.take_succ_cons, List.drop_zero, List.drop_succ_cons, Nat.reduceAdd, Nat.zero_add] <;> rfl) ?_
    (first | refine VO_nil ?_ | refine VQ_nil ?_)
    (first | refine V_seq_region ?_ | refine V_seq (V_seq_region ?_) | refine V_seq_draw tmix (by kernel_rfl) ?_ | refine V_seq (V_seq_draw tmix (by kernel_rfl) ?_) | refine V_region ?_ | refine V_draw tmix (by kernel_rfl) ?_)
    repeat refine VO_d ?_
    (first | refine VO_nil ?_ | refine VQ_nil ?_)
    refine ⟨k + 1, by omega, by omega, ⟨rfl, ⟨⟨rfl, rfl⟩, ⟨rfl, rfl⟩, ⟨rfl, rfl⟩, trivial⟩, ⟨[], ?_⟩, rfl⟩⟩
    rw [Int.toNat_natCast, fillU_set hget]
    rfl
  · refine V_exit ?_
    simp only [decide_eq_false_iff_not] at hc2
    have hkl : k = us.length := by omega
    subst hkl
    rw [fillU_all]
    show V _ _ _ _ _
    (first | refine V_seq_region ?_ | refine V_seq (V_seq_region ?_) | refine V_seq_draw tmix (by kernel_rfl) ?_ | refine V_seq (V_seq_draw tmix (by kernel_rfl) ?_) | refine V_region ?_ | refine V_draw tmix (by kernel_rfl) ?_)
    repeat refine VO_d ?_
    (first | refine VO_nil ?_ | refine VQ_nil ?_)
    refine V_freeze 0 rfl (by simp only [List.length_nil, List.length_cons, List.nil_append, List.cons_append, List.set_cons_zero, List.set_cons_succ, List.take_zero, List.take_succ_cons, List.drop_zero, List.drop_succ_cons, Nat.reduceAdd, Nat.zero_add] <;> rfl) ?_
    refine V_ret ?_
    exact ⟨trivial, ⟨_, rfl, _, rfl⟩, trivial⟩

theorem toDictionary_grp (u : U) : (wt (.st 26) u → PTo 52 u) := by
  refine U.ind (M := fun u => (wt (.st 26) u → PTo 52 u)) (fun u ih => ?_) u
  refine ?_
  · intro h
    obtain ⟨f0, f1, f2, f3, rfl, p0, p1, p2, p3⟩ := inv_Dictionary h
    exact toDictionary_step p1 (toInstanceRef_all p1) (toIntS_all p2) (toDictionaryS_step (fun a ha => ⟨wt_isSt (p3.2 a ha), by rw [wt_sz a _ (p3.2 a ha)]; rfl⟩) (fun a ha => (ih a (by have := nn_of_mem ha; simp only [U.nn, U.nns]; omega)) (p3.2 a ha)))
theorem toDictionary_all {u : U} (h : wt (.st 26) u) : PTo 52 u := (toDictionary_grp u) h
theorem toDictionaryS_all {us : List U} (h : us.length ≤ big ∧ ∀ x ∈ us, wt (.st 26) x) : PTo 84 (.sl 5 us) := toDictionaryS_step (fun a ha => ⟨wt_isSt (h.2 a ha), by rw [wt_sz a _ (h.2 a ha)]; rfl⟩) (fun a ha => toDictionary_all (h.2 a ha))
theorem toValue_step {f0 : Int} {f1 : Int} {f2 : List UInt8} {f3 : U} {f4 : List U} (h2 : f2.length ≤ big) (g3 : wt (.st 26) f3) (h3 : PTo 52 f3) (h4 : PTo 53 (.sl 9 f4)) : PTo 18 (.st [.i .i64 f0, .i .i64 f1, .s f2, f3, .sl 9 f4]) := by
  intro hw
  have hW : W (.st [.i .i64 f0, .i .i64 f1, .s f2, f3, .sl 9 f4]) = 0 + (0 + (f2.length + (W f3 + (W (U.sl 9 f4) + 0)))) := rfl
  have c3 := h3 (by omega)
  clear h3
  have c4 := h4 (by omega)
  clear h4
  clear hW hw
  obtain ⟨e5_0, e5_1, e5_2, e5_3, rfl, g5_0, g5_1, g5_2, g5_3⟩ := inv_Dictionary g3
  obtain ⟨e6_0, e6_1, rfl, g6_0, g6_1⟩ := inv_InstanceRef g5_1
  refine SpecP_intro Tryd.func18 rfl (by kernel_rfl) rfl fun A _ => ?_
  (first | refine V_seq_region ?_ | refine V_seq (V_seq_region ?_) | refine V_seq_draw tmix (by kernel_rfl) ?_ | refine V_seq (V_seq_draw tmix (by kernel_rfl) ?_) | refine V_region ?_ | refine V_draw tmix (by kernel_rfl) ?_)
  repeat refine VO_d ?_
  (first | refine VO_nil ?_ | refine VQ_nil ?_)
  (first | refine V_seq_region ?_ | refine V_seq (V_seq_region ?_) | refine V_seq_draw tmix (by kernel_rfl) ?_ | refine V_seq (V_seq_draw tmix (by kernel_rfl) ?_) | refine V_region ?_ | refine V_draw tmix (by kernel_rfl) ?_)
  repeat refine VO_d ?_
  (first | refine VO_nil ?_ | refine VQ_nil ?_)
  (first | refine V_seq_region ?_ | refine V_seq (V_seq_region ?_) | refine V_seq_draw tmix (by kernel_rfl) ?_ | refine V_seq (V_seq_draw tmix (by kernel_rfl) ?_) | refine V_region ?_ | refine V_draw tmix (by kernel_rfl) ?_)
  repeat refine VO_d ?_
  (first | refine VO_nil ?_ | refine VQ_nil ?_)
  (first | refine V_seq_region ?_ | refine V_seq (V_seq_region ?_) | refine V_seq_draw tmix (by kernel_rfl) ?_ | refine V_seq (V_seq_draw tmix (by kernel_rfl) ?_) | refine V_region ?_ | refine V_draw tmix (by kernel_rfl) ?_)
  repeat refine VO_d ?_
  (first | refine VO_nil ?_ | refine VQ_nil ?_)
  (first | refine V_seq_region ?_ | refine V_seq (V_seq_region ?_) | refine V_seq_draw tmix (by kernel_rfl) ?_ | refine V_seq (V_seq_draw tmix (by kernel_rfl) ?_) | refine V_region ?_ | refine V_draw tmix (by kernel_rfl) ?_)
  repeat refine VO_d ?_
  (first | refine VO_nil ?_ | refine VQ_nil ?_)
  (first | refine V_seq_region ?_ | refine V_seq (V_seq_region ?_) | refine V_seq_draw tmix (by kernel_rfl) ?_ | refine V_seq (V_seq_draw tmix (by kernel_rfl) ?_) | refine V_region ?_ | refine V_draw tmix (by kernel_rfl) ?_)
  repeat refine VO_d ?_
  (first | refine VO_q (Q_call rfl c3 (by (repeat (first | exact trivial | exact rfl | exact ⟨_, rfl⟩ | refine And.intro ?_ ?_)); first | done | fail)) rfl ?_ | refine VQ_q (Q_call rfl c3 (by (repeat (first | exact trivial | exact rfl | exact ⟨_, rfl⟩ | refine And.intro ?_ ?_)); first | done | fail)) rfl ?_ | (refine VO_bare rfl rfl rfl rfl ?_; refine VO_q (Q_call rfl c3 (by (repeat (first | exact trivial | exact rfl | exact ⟨_, rfl⟩ | refine And.intro ?_ ?_)); first | done | fail)) rfl ?_) | refine VQ_run rfl rfl rfl rfl (Q_call rfl c3 (by (repeat (first | exact trivial | exact rfl | exact ⟨_, rfl⟩ | refine And.intro ?_ ?_)); first | done | fail)) rfl ?_)
  repeat refine VO_d ?_
  (first | refine VO_nil ?_ | refine VQ_nil ?_)
  (first | refine V_seq_region ?_ | refine V_seq (V_seq_region ?_) | refine V_seq_draw tmix (by kernel_rfl) ?_ | refine V_seq (V_seq_draw tmix (by kernel_rfl) ?_) | refine V_region ?_ | refine V_draw tmix (by kernel_rfl) ?_)
  repeat refine VO_d ?_
  (first | refine VO_q (Q_call rfl c4 (by (repeat (first | exact trivial | exact rfl | exact ⟨_, rfl⟩ | refine And.intro ?_ ?_)); first | done | fail)) rfl ?_ | refine VQ_q (Q_call rfl c4 (by (repeat (first | exact trivial | exact rfl | exact ⟨_, rfl⟩ | refine And.intro ?_ ?_)); first | done | fail)) rfl ?_ | (refine VO_bare rfl rfl rfl rfl ?_; refine VO_q (Q_call rfl c4 (by (repeat (first | exact trivial | exact rfl | exact ⟨_, rfl⟩ | refine And.intro ?_ ?_)); first | done | fail)) rfl ?_) | refine VQ_run rfl rfl rfl rfl (Q_call rfl c4 (by (repeat (first | exact trivial | exact rfl | exact ⟨_, rfl⟩ | refine And.intro ?_ ?_)); first | done | fail)) rfl ?_)
  repeat refine VO_d ?_
  (first | refine VO_nil ?_ | refine VQ_nil ?_)
  (first | refine V_seq_region ?_ | refine V_seq (V_seq_region ?_) | refine V_seq_draw tmix (by kernel_rfl) ?_ | refine V_seq (V_seq_draw tmix (by kernel_rfl) ?_) | refine V_region ?_ | refine V_draw tmix (by kernel_rfl) ?_)
  repeat refine VO_d ?_
  (first | refine VO_nil ?_ | refine VQ_nil ?_)
  refine V_ret ?_
  exact ⟨trivial, ⟨_, ResV_ag rfl rfl TI.h rfl rfl, (by (repeat (first | exact trivial | exact rfl | exact ⟨_, rfl⟩ | refine And.intro ?_ ?_)); first | done | fail)⟩, trivial⟩

theorem zu_Value : ZeroU (.st [.i .i64 0, .i .i64 0, .s [], .st [.i .i64 0, .st [.i .i64 0, .i .i64 0], .sl 1 [], .sl 5 []], .sl 9 []]) [.int .i64 0, .int .i64 0, .string ⟨#[]⟩, .int .i64 0, .int .i64 0, .int .i64 0, .slice none 0 0, .slice none 0 0, .slice none 0 0] := fun S w => Rd.of_leafs _ _ (And.intro zI (And.intro zI (And.intro zS (And.intro zI (And.intro zI (And.intro zI (And.intro zL (And.intro zL (And.intro zL (trivial))))))))))
theorem toValueS_step {us : List U} (hz : ∀ a ∈ us, a.isSt = true ∧ a.sz = 9) (ih : ∀ a ∈ us, PTo 18 a) : PTo 53 (.sl 9 us) := by
  intro hw
  have hW : W (.sl 9 us) = us.length + Ws us := rfl
  refine SpecP_intro Tryd.func53 rfl (by kernel_rfl) rfl fun A _ => ?_
  (first | refine V_seq_region ?_ | refine V_seq (V_seq_region ?_) | refine V_seq_draw tmix (by kernel_rfl) ?_ | refine V_seq (V_seq_draw tmix (by kernel_rfl) ?_) | refine V_region ?_ | refine V_draw tmix (by kernel_rfl) ?_)
  repeat refine VO_d ?_
  (first | refine VO_nil ?_ | refine VQ_nil ?_)
  (first | refine V_seq_region ?_ | refine V_seq (V_seq_region ?_) | refine V_seq_draw tmix (by kernel_rfl) ?_ | refine V_seq (V_seq_draw tmix (by kernel_rfl) ?_) | refine V_region ?_ | refine V_draw tmix (by kernel_rfl) ?_)
  repeat refine VO_d ?_
  refine VO_make rfl rfl TE.h TI.h TZ.h rfl zu_Value (by omega) (by omega) (by rw [big_eq]; omega) (by omega) rfl (by simp only [List.length_nil, List.length_cons, List.nil_append, List.cons_append, List.set_cons_zero, List.set_cons_succ, List.take_zero, List.take_succ_cons, List.drop_zero, List.drop_succ_cons, Nat.reduceAdd, Nat.zero_add] <;> rfl) (by simp only [List.length_nil, List.length_cons, List.nil_append, List.cons_append, List.set_cons_zero, List.set_cons_succ, List.take_zero, List.take_succ_cons, List.drop_zero, List.drop_succ_cons, Nat.reduceAdd, Nat.zero_add] <;> rfl) ?_
  repeat refine VO_d ?_
  (first | refine VO_nil ?_ | refine VQ_nil ?_)
  rw [Int.toNat_natCast, fillU_zero]
  (first | refine V_seq_region ?_ | refine V_seq (V_seq_region ?_) | refine V_seq_draw tmix (by kernel_rfl) ?_ | refine V_seq (V_seq_draw tmix (by kernel_rfl) ?_) | refine V_region ?_ | refine V_draw tmix (by kernel_rfl) ?_)
  repeat refine VO_d ?_
  (first | refine VO_nil ?_ | refine VQ_nil ?_)
  refine V_block ?_
  refine V_loop (α := Nat)
    (fun k => ⟨[(0, .d (.sl 9 us)), (3, .sl 0 0), (4, .d (.i .i64 k))], [.arr 61 9 0 (fillU us (.st [.i .i64 0, .i .i64 0, .s [], .st [.i .i64 0, .st [.i .i64 0, .i .i64 0], .sl 1 [], .sl 5 []], .sl 9 []]) k)], Tryd.f53.ntmps⟩)
    (fun k => k ≤ us.length)
    (fun k => us.length - k) 0 ⟨rfl, ⟨⟨rfl, rfl⟩, ⟨rfl, rfl⟩, ⟨rfl, rfl⟩, trivial⟩, ⟨[], rfl⟩, rfl⟩ (by simp) ?_
  intro k hk
  (first | refine V_seq_region ?_ | refine V_seq (V_seq_region ?_) | refine V_seq_draw tmix (by kernel_rfl) ?_ | refine V_seq (V_seq_draw tmix (by kernel_rfl) ?_) | refine V_region ?_ | refine V_draw tmix (by kernel_rfl) ?_)
  repeat refine VO_d ?_
  (first | refine VO_nil ?_ | refine VQ_nil ?_)
  refine V_cond rfl (fun hc2 => ?_) (fun hc2 => ?_)
  · refine V_skip ?_
    simp only [decide_eq_true_eq] at hc2
    have hkl : k < us.length := by omega
    have hget : us[k]? = some us[k] := List.getElem?_eq_getElem hkl
    have hmem : us[k] ∈ us := List.getElem_mem hkl
    have hwk := W_le_of_mem hmem
    have hfl : (fillU us (.st [.i .i64 0, .i .i64 0, .s [], .st [.i .i64 0, .st [.i .i64 0, .i .i64 0], .sl 1 [], .sl 5 []], .sl 9 []]) k).length = us.length := fillU_length hk
    obtain ⟨hst, hsz⟩ := hz _ hmem
    refine V_seq (V_block ?_)
    (first | refine V_seq_region ?_ | refine V_seq (V_seq_region ?_) | refine V_seq_draw tmix (by kernel_rfl) ?_ | refine V_seq (V_seq_draw tmix (by kernel_rfl) ?_) | refine V_region ?_ | refine V_draw tmix (by kernel_rfl) ?_)
    repeat refine VO_d ?_
    refine VO_q (Q_index rfl rfl TE.h TI.h (by omega) hget) rfl ?_
    refine VO_q (Q_load rfl TI.h hst hsz) rfl ?_
    refine VO_q (Q_call rfl (ih _ hmem (by omega)) (by (repeat (first | exact trivial | exact rfl | exact ⟨_, rfl⟩ | refine And.intro ?_ ?_)); first | done | fail)) rfl ?_
    refine VO_q (Q_index_arr rfl rfl rfl TE.h TI.h (by omega) (by omega)) rfl ?_
    refine VO_store_ep rfl rfl (by exact rfl) TI.h hsz (by omega) (by simp only [List.length_nil, List.length_cons, List.nil_append, List.cons_append, List.set_cons_zero, List.set_cons_succ, List.take_zero, List.take_succ_cons, List.drop_zero, List.drop_succ_cons, Nat.reduceAdd, Nat.zero_add] <;> rfl) ?_
    (first | refine VO_nil ?_ | refine VQ_nil ?_)
    (first | refine V_seq_region ?_ | refine V_seq (V_seq_region ?_) | refine V_seq_draw tmix (by kernel_rfl) ?_ | refine V_seq (V_seq_draw tmix (by kernel_rfl) ?_) | refine V_region ?_ | refine V_draw tmix (by kernel_rfl) ?_)
    repeat refine VO_d ?_
    (first | refine VO_nil ?_ | refine VQ_nil ?_)
    refine ⟨k + 1, by omega, by omega, ⟨rfl, ⟨⟨rfl, rfl⟩, ⟨rfl, rfl⟩, ⟨rfl, rfl⟩, trivial⟩, ⟨[], ?_⟩, rfl⟩⟩
    rw [Int.toNat_natCast, fillU_set hget]
    rfl
  · refine V_exit ?_
    simp only [decide_eq_false_iff_not] at hc2
    have hkl : k = us.length := by omega
    subst hkl
    rw [fillU_all]
    show V _ _ _ _ _
    (first | refine V_seq_region ?_ | refine V_seq (V_seq_region ?_) | refine V_seq_draw tmix (by kernel_rfl) ?_ | refine V_seq (V_seq_draw tmix (by kernel_rfl) ?_) | refine V_region ?_ | refine V_draw tmix (by kernel_rfl) ?_)
    repeat refine VO_d ?_
    (first | refine VO_nil ?_ | refine VQ_nil ?_)
    refine V_freeze 0 rfl (by simp only [List.length_nil, List.length_cons, List.nil_append, List.cons_append, List.set_cons_zero, List.set_cons_succ, List.take_zero, List.take_succ_cons, List.drop_zero, List.drop_succ_cons, Nat.reduceAdd, Nat.zero_add] <;> rfl) ?_
    refine V_ret ?_
    exact ⟨trivial, ⟨_, rfl, _, rfl⟩, trivial⟩

theorem toValue_grp (u : U) : (wt (.st 27) u → PTo 18 u) := by
  refine U.ind (M := fun u => (wt (.st 27) u → PTo 18 u)) (fun u ih => ?_) u
  refine ?_
  · intro h
    obtain ⟨f0, f1, f2, f3, f4, rfl, p0, p1, p2, p3, p4⟩ := inv_Value h
    exact toValue_step p2 p3 (toDictionary_all p3) (toValueS_step (fun a ha => ⟨wt_isSt (p4.2 a ha), by rw [wt_sz a _ (p4.2 a ha)]; rfl⟩) (fun a ha => (ih a (by have := nn_of_mem ha; simp only [U.nn, U.nns]; omega)) (p4.2 a ha)))
theorem toValue_all {u : U} (h : wt (.st 27) u) : PTo 18 u := (toValue_grp u) h
theorem toValueS_all {us : List U} (h : us.length ≤ big ∧ ∀ x ∈ us, wt (.st 27) x) : PTo 53 (.sl 9 us) := toValueS_step (fun a ha => ⟨wt_isSt (h.2 a ha), by rw [wt_sz a _ (h.2 a ha)]; rfl⟩) (fun a ha => toValue_all (h.2 a ha))
theorem eqInstanceRef_step {f0 : Int} {f1 : Int} {d0 : Int} {d1 : Int}  : PEq 87 (.st [.i .i64 f0, .i .i64 f1]) (.st [.i .i64 d0, .i .i64 d1]) := by
  refine SpecP_intro Tryd.func87 rfl (by kernel_rfl) rfl fun A _ => ?_
  (first | refine V_seq_region ?_ | refine V_seq (V_seq_region ?_) | refine V_seq_draw tmix (by kernel_rfl) ?_ | refine V_seq (V_seq_draw tmix (by kernel_rfl) ?_) | refine V_region ?_ | refine V_draw tmix (by kernel_rfl) ?_)
  repeat refine VO_d ?_
  (first | refine VO_nil ?_ | refine VQ_nil ?_)
  (first | refine V_seq_region ?_ | refine V_seq (V_seq_region ?_) | refine V_seq_draw tmix (by kernel_rfl) ?_ | refine V_seq (V_seq_draw tmix (by kernel_rfl) ?_) | refine V_region ?_ | refine V_draw tmix (by kernel_rfl) ?_)
  repeat (first | refine VO_d ?_ | refine VQ_d ?_)
  (first | refine VO_nil ?_ | refine VQ_nil ?_)
  refine V_cond rfl (fun hc => ?_) (fun hc => ?_)
  · (first | refine V_seq_region ?_ | refine V_seq (V_seq_region ?_) | refine V_seq_draw tmix (by kernel_rfl) ?_ | refine V_seq (V_seq_draw tmix (by kernel_rfl) ?_) | refine V_region ?_ | refine V_draw tmix (by kernel_rfl) ?_)
    repeat refine VO_d ?_
    (first | refine VO_nil ?_ | refine VQ_nil ?_)
    refine V_ret ?_
    exact ⟨trivial, ⟨_, rfl, congrArg U.b (deq_false.2 (by intro h; injection h with h; injection h with q0 h; injection q0 with _ hk; simp [hk] at hc)).symm⟩, trivial⟩
  refine V_skip ?_
  have e0 := (by simpa using hc : f0 = d0)
  clear hc
  (first | refine V_seq_region ?_ | refine V_seq (V_seq_region ?_) | refine V_seq_draw tmix (by kernel_rfl) ?_ | refine V_seq (V_seq_draw tmix (by kernel_rfl) ?_) | refine V_region ?_ | refine V_draw tmix (by kernel_rfl) ?_)
  repeat (first | refine VO_d ?_ | refine VQ_d ?_)
  (first | refine VO_nil ?_ | refine VQ_nil ?_)
  refine V_cond rfl (fun hc => ?_) (fun hc => ?_)
  · (first | refine V_seq_region ?_ | refine V_seq (V_seq_region ?_) | refine V_seq_draw tmix (by kernel_rfl) ?_ | refine V_seq (V_seq_draw tmix (by kernel_rfl) ?_) | refine V_region ?_ | refine V_draw tmix (by kernel_rfl) ?_)
    repeat refine VO_d ?_
    (first | refine VO_nil ?_ | refine VQ_nil ?_)
    refine V_ret ?_
    exact ⟨trivial, ⟨_, rfl, congrArg U.b (deq_false.2 (by intro h; injection h with h; injection h with q0 h; injection h with q1 h; injection q1 with _ hk; simp [hk] at hc)).symm⟩, trivial⟩
  refine V_skip ?_
  have e1 := (by simpa using hc : f1 = d1)
  clear hc
  (first | refine V_seq_region ?_ | refine V_seq (V_seq_region ?_) | refine V_seq_draw tmix (by kernel_rfl) ?_ | refine V_seq (V_seq_draw tmix (by kernel_rfl) ?_) | refine V_region ?_ | refine V_draw tmix (by kernel_rfl) ?_)
  repeat refine VO_d ?_
  (first | refine VO_nil ?_ | refine VQ_nil ?_)
  refine V_ret ?_
  exact ⟨trivial, ⟨_, rfl, congrArg U.b (deq_true.2 (by rw [e0, e1])).symm⟩, trivial⟩

theorem eqInstanceRef_grp (u : U) : (∀ v, wt (.st 16) u → wt (.st 16) v → PEq 87 u v) := by
  refine U.ind (M := fun u => (∀ v, wt (.st 16) u → wt (.st 16) v → PEq 87 u v)) (fun u ih => ?_) u
  refine ?_
  · intro v h h2
    obtain ⟨f0, f1, rfl, p0, p1⟩ := inv_InstanceRef h
    obtain ⟨d0, d1, rfl, q0, q1⟩ := inv_InstanceRef h2
    exact eqInstanceRef_step 
theorem eqInstanceRef_all {u v : U} (h : wt (.st 16) u) (h2 : wt (.st 16) v) : PEq 87 u v := (eqInstanceRef_grp u) v h h2
theorem eqIntS_step {us vs : List U} (hb1 : us.length ≤ big) (hb2 : vs.length ≤ big) (hz : ∀ a ∈ us, ∃ n : Int, a = .i .i64 n ∧ inRange n) (hz2 : ∀ a ∈ vs, ∃ n : Int, a = .i .i64 n ∧ inRange n) : PEq 88 (.sl 1 us) (.sl 1 vs) := by
  rw [big_eq] at hb1 hb2
  refine SpecP_intro Tryd.func88 rfl (by kernel_rfl) rfl fun A _ => ?_
  (first | refine V_seq_region ?_ | refine V_seq (V_seq_region ?_) | refine V_seq_draw tmix (by kernel_rfl) ?_ | refine V_seq (V_seq_draw tmix (by kernel_rfl) ?_) | refine V_region ?_ | refine V_draw tmix (by kernel_rfl) ?_)
  repeat refine VO_d ?_
  (first | refine VO_nil ?_ | refine VQ_nil ?_)
  (first | refine V_seq_region ?_ | refine V_seq (V_seq_region ?_) | refine V_seq_draw tmix (by kernel_rfl) ?_ | refine V_seq (V_seq_draw tmix (by kernel_rfl) ?_) | refine V_region ?_ | refine V_draw tmix (by kernel_rfl) ?_)
  repeat refine VO_d ?_
  (first | refine VO_nil ?_ | refine VQ_nil ?_)
  refine V_cond rfl (fun hc => ?_) (fun hc => ?_)
  · (first | refine V_seq_region ?_ | refine V_seq (V_seq_region ?_) | refine V_seq_draw tmix (by kernel_rfl) ?_ | refine V_seq (V_seq_draw tmix (by kernel_rfl) ?_) | refine V_region ?_ | refine V_draw tmix (by kernel_rfl) ?_)
    repeat refine VO_d ?_
    (first | refine VO_nil ?_ | refine VQ_nil ?_)
    refine V_ret ?_
    exact ⟨trivial, ⟨_, rfl, congrArg U.b (deq_false.2 (by intro h; injection h with _ h; subst h; simp at hc)).symm⟩, trivial⟩
  refine V_skip ?_
  have hll : us.length = vs.length := by simp at hc; omega
  (first | refine V_seq_region ?_ | refine V_seq (V_seq_region ?_) | refine V_seq_draw tmix (by kernel_rfl) ?_ | refine V_seq (V_seq_draw tmix (by kernel_rfl) ?_) | refine V_region ?_ | refine V_draw tmix (by kernel_rfl) ?_)
  repeat refine VO_d ?_
  (first | refine VO_nil ?_ | refine VQ_nil ?_)
  refine V_block ?_
  refine V_loop (α := Nat)
    (fun k => ⟨[(0, .d (.sl 1 us)), (1, .d (.sl 1 vs)), (5, .d (.i .i64 k))], [], Tryd.f88.ntmps⟩)
    (fun k => k ≤ us.length ∧ ∀ j, j < k → us[j]? = vs[j]?)
    (fun k => us.length - k) 0 ⟨rfl, ⟨⟨rfl, rfl⟩, ⟨rfl, rfl⟩, ⟨rfl, rfl⟩, trivial⟩, ⟨[], rfl⟩, rfl⟩ ⟨by simp, by simp⟩ ?_
  rintro k ⟨hk, hsame⟩
  (first | refine V_seq_region ?_ | refine V_seq (V_seq_region ?_) | refine V_seq_draw tmix (by kernel_rfl) ?_ | refine V_seq (V_seq_draw tmix (by kernel_rfl) ?_) | refine V_region ?_ | refine V_draw tmix (by kernel_rfl) ?_)
  repeat refine VO_d ?_
  (first | refine VO_nil ?_ | refine VQ_nil ?_)
  refine V_cond rfl (fun hc2 => ?_) (fun hc2 => ?_)
  · refine V_skip ?_
    simp only [decide_eq_true_eq] at hc2
    have hkl : k < us.length := by omega
    have hkv : k < vs.length := by omega
    have hget : us[k]? = some us[k] := List.getElem?_eq_getElem hkl
    have hgev : vs[k]? = some vs[k] := List.getElem?_eq_getElem hkv
    have hmem : us[k] ∈ us := List.getElem_mem hkl
    have hmev : vs[k] ∈ vs := List.getElem_mem hkv
    obtain ⟨l1, h1, _⟩ := hz _ hmem
    obtain ⟨l2, h2, _⟩ := hz2 _ hmev
    have hg1 : us[k]? = some (.i .i64 l1) := by rw [hget, h1]
    have hg2 : vs[k]? = some (.i .i64 l2) := by rw [hgev, h2]
    refine V_seq (V_block ?_)
    (first | refine V_seq_region ?_ | refine V_seq (V_seq_region ?_) | refine V_seq_draw tmix (by kernel_rfl) ?_ | refine V_seq (V_seq_draw tmix (by kernel_rfl) ?_) | refine V_region ?_ | refine V_draw tmix (by kernel_rfl) ?_)
    repeat (first | refine VO_d ?_ | refine VQ_d ?_)
    (first | refine VO_q (Q_index rfl rfl TE.h TI.h (by omega) hg1) rfl ?_ | refine VQ_q (Q_index rfl rfl TE.h TI.h (by omega) hg1) rfl ?_ | (refine VO_bare rfl rfl rfl rfl ?_; refine VO_q (Q_index rfl rfl TE.h TI.h (by omega) hg1) rfl ?_) | refine VQ_run rfl rfl rfl rfl (Q_index rfl rfl TE.h TI.h (by omega) hg1) rfl ?_)
    repeat (first | refine VO_d ?_ | refine VQ_d ?_)
    (first | refine VO_q (Q_index rfl rfl TE.h TI.h (by omega) hg2) rfl ?_ | refine VQ_q (Q_index rfl rfl TE.h TI.h (by omega) hg2) rfl ?_ | (refine VO_bare rfl rfl rfl rfl ?_; refine VO_q (Q_index rfl rfl TE.h TI.h (by omega) hg2) rfl ?_) | refine VQ_run rfl rfl rfl rfl (Q_index rfl rfl TE.h TI.h (by omega) hg2) rfl ?_)
    repeat (first | refine VO_d ?_ | refine VQ_d ?_)
    (first | refine VO_nil ?_ | refine VQ_nil ?_)
    refine V_cond rfl (fun hc3 => ?_) (fun hc3 => ?_)
    · (first | refine V_seq_region ?_ | refine V_seq (V_seq_region ?_) | refine V_seq_draw tmix (by kernel_rfl) ?_ | refine V_seq (V_seq_draw tmix (by kernel_rfl) ?_) | refine V_region ?_ | refine V_draw tmix (by kernel_rfl) ?_)
      repeat refine VO_d ?_
      (first | refine VO_nil ?_ | refine VQ_nil ?_)
      refine V_ret ?_
      exact ⟨trivial, ⟨_, rfl, congrArg U.b (deq_false.2 (by intro h; injection h with _ h; subst h; rw [hg1] at hg2; injection hg2 with hg2; injection hg2; simp_all)).symm⟩, trivial⟩
    refine V_skip ?_
    have heq : us[k] = vs[k] := by rw [h1, h2]; simp at hc3; rw [hc3]
    (first | refine V_seq_region ?_ | refine V_seq (V_seq_region ?_) | refine V_seq_draw tmix (by kernel_rfl) ?_ | refine V_seq (V_seq_draw tmix (by kernel_rfl) ?_) | refine V_region ?_ | refine V_draw tmix (by kernel_rfl) ?_)
    repeat refine VO_d ?_
    (first | refine VO_nil ?_ | refine VQ_nil ?_)
    refine ⟨k + 1, ⟨by omega, fun j hj => ?_⟩, by omega, ⟨rfl, ⟨⟨rfl, rfl⟩, ⟨rfl, rfl⟩, ⟨rfl, rfl⟩, trivial⟩, ⟨[], rfl⟩, rfl⟩⟩
    by_cases hjk : j = k
    · subst hjk; rw [hget, hgev, heq]
    · exact hsame j (by omega)
  · refine V_exit ?_
    simp only [decide_eq_false_iff_not] at hc2
    have hkl : k = us.length := by omega
    subst hkl
    have hall : us = vs := by
      apply List.ext_getElem?
      intro j
      by_cases hj : j < us.length
      · exact hsame j hj
      · rw [List.getElem?_eq_none (by omega), List.getElem?_eq_none (by omega)]
    show V _ _ _ _ _
    (first | refine V_seq_region ?_ | refine V_seq (V_seq_region ?_) | refine V_seq_draw tmix (by kernel_rfl) ?_ | refine V_seq (V_seq_draw tmix (by kernel_rfl) ?_) | refine V_region ?_ | refine V_draw tmix (by kernel_rfl) ?_)
    repeat refine VO_d ?_
    (first | refine VO_nil ?_ | refine VQ_nil ?_)
    refine V_ret ?_
    exact ⟨trivial, ⟨_, rfl, congrArg U.b (deq_true.2 (by rw [hall])).symm⟩, trivial⟩

theorem eqIntS_all {us vs : List U} (h : us.length ≤ big ∧ ∀ x ∈ us, wt .int x) (h2 : vs.length ≤ big ∧ ∀ x ∈ vs, wt .int x) : PEq 88 (.sl 1 us) (.sl 1 vs) := eqIntS_step h.1 h2.1 (fun a ha => inv_int (h.2 a ha)) (fun a ha => inv_int (h2.2 a ha))
theorem eqDictionary_step {f0 : Int} {f1 : U} {f2 : List U} {f3 : List U} {d0 : Int} {d1 : U} {d2 : List U} {d3 : List U} (g1 : wt (.st 16) f1) (j1 : wt (.st 16) d1) (h1 : PEq 87 f1 d1) (h2 : PEq 88 (.sl 1 f2) (.sl 1 d2)) (h3 : PEq 89 (.sl 5 f3) (.sl 5 d3)) : PEq 56 (.st [.i .i64 f0, f1, .sl 1 f2, .sl 5 f3]) (.st [.i .i64 d0, d1, .sl 1 d2, .sl 5 d3]) := by
  obtain ⟨e7_0, e7_1, rfl, g7_0, g7_1⟩ := inv_InstanceRef g1
  obtain ⟨e8_0, e8_1, rfl, g8_0, g8_1⟩ := inv_InstanceRef j1
  refine SpecP_intro Tryd.func56 rfl (by kernel_rfl) rfl fun A _ => ?_
  (first | refine V_seq_region ?_ | refine V_seq (V_seq_region ?_) | refine V_seq_draw tmix (by kernel_rfl) ?_ | refine V_seq (V_seq_draw tmix (by kernel_rfl) ?_) | refine V_region ?_ | refine V_draw tmix (by kernel_rfl) ?_)
  repeat refine VO_d ?_
  (first | refine VO_nil ?_ | refine VQ_nil ?_)
  (first | refine V_seq_region ?_ | refine V_seq (V_seq_region ?_) | refine V_seq_draw tmix (by kernel_rfl) ?_ | refine V_seq (V_seq_draw tmix (by kernel_rfl) ?_) | refine V_region ?_ | refine V_draw tmix (by kernel_rfl) ?_)
  repeat (first | refine VO_d ?_ | refine VQ_d ?_)
  (first | refine VO_nil ?_ | refine VQ_nil ?_)
  refine V_cond rfl (fun hc => ?_) (fun hc => ?_)
  · (first | refine V_seq_region ?_ | refine V_seq (V_seq_region ?_) | refine V_seq_draw tmix (by kernel_rfl) ?_ | refine V_seq (V_seq_draw tmix (by kernel_rfl) ?_) | refine V_region ?_ | refine V_draw tmix (by kernel_rfl) ?_)
    repeat refine VO_d ?_
    (first | refine VO_nil ?_ | refine VQ_nil ?_)
    refine V_ret ?_
    exact ⟨trivial, ⟨_, rfl, congrArg U.b (deq_false.2 (by intro h; injection h with h; injection h with q0 h; injection q0 with _ hk; simp [hk] at hc)).symm⟩, trivial⟩
  refine V_skip ?_
  have e0 := (by simpa using hc : f0 = d0)
  clear hc
  (first | refine V_seq_region ?_ | refine V_seq (V_seq_region ?_) | refine V_seq_draw tmix (by kernel_rfl) ?_ | refine V_seq (V_seq_draw tmix (by kernel_rfl) ?_) | refine V_region ?_ | refine V_draw tmix (by kernel_rfl) ?_)
  repeat (first | refine VO_d ?_ | refine VQ_d ?_)
  (first | refine VO_q (Q_call rfl h1 (by (repeat (first | exact trivial | exact rfl | exact ⟨_, rfl⟩ | refine And.intro ?_ ?_)); first | done | fail)) rfl ?_ | refine VQ_q (Q_call rfl h1 (by (repeat (first | exact trivial | exact rfl | exact ⟨_, rfl⟩ | refine And.intro ?_ ?_)); first | done | fail)) rfl ?_ | (refine VO_bare rfl rfl rfl rfl ?_; refine VO_q (Q_call rfl h1 (by (repeat (first | exact trivial | exact rfl | exact ⟨_, rfl⟩ | refine And.intro ?_ ?_)); first | done | fail)) rfl ?_) | refine VQ_run rfl rfl rfl rfl (Q_call rfl h1 (by (repeat (first | exact trivial | exact rfl | exact ⟨_, rfl⟩ | refine And.intro ?_ ?_)); first | done | fail)) rfl ?_)
  repeat (first | refine VO_d ?_ | refine VQ_d ?_)
  (first | refine VO_nil ?_ | refine VQ_nil ?_)
  refine V_cond rfl (fun hc => ?_) (fun hc => ?_)
  · (first | refine V_seq_region ?_ | refine V_seq (V_seq_region ?_) | refine V_seq_draw tmix (by kernel_rfl) ?_ | refine V_seq (V_seq_draw tmix (by kernel_rfl) ?_) | refine V_region ?_ | refine V_draw tmix (by kernel_rfl) ?_)
    repeat refine VO_d ?_
    (first | refine VO_nil ?_ | refine VQ_nil ?_)
    refine V_ret ?_
    exact ⟨trivial, ⟨_, rfl, congrArg U.b (deq_false.2 (by intro h; injection h with h; injection h with q0 h; injection h with q1 h; rw [q1, deq_self] at hc; cases hc)).symm⟩, trivial⟩
  refine V_skip ?_
  have e1 := deq_true.1 (by simpa using hc : deq _ _ = true)
  clear hc
  (first | refine V_seq_region ?_ | refine V_seq (V_seq_region ?_) | refine V_seq_draw tmix (by kernel_rfl) ?_ | refine V_seq (V_seq_draw tmix (by kernel_rfl) ?_) | refine V_region ?_ | refine V_draw tmix (by kernel_rfl) ?_)
  repeat (first | refine VO_d ?_ | refine VQ_d ?_)
  (first | refine VO_q (Q_call rfl h2 (by (repeat (first | exact trivial | exact rfl | exact ⟨_, rfl⟩ | refine And.intro ?_ ?_)); first | done | fail)) rfl ?_ | refine VQ_q (Q_call rfl h2 (by (repeat (first | exact trivial | exact rfl | exact ⟨_, rfl⟩ | refine And.intro ?_ ?_)); first | done | fail)) rfl ?_ | (refine VO_bare rfl rfl rfl rfl ?_; refine VO_q (Q_call rfl h2 (by (repeat (first | exact trivial | exact rfl | exact ⟨_, rfl⟩ | refine And.intro ?_ ?_)); first | done | fail)) rfl ?_) | refine VQ_run rfl rfl rfl rfl (Q_call rfl h2 (by (repeat (first | exact trivial | exact rfl | exact ⟨_, rfl⟩ | refine And.intro ?_ ?_)); first | done | fail)) rfl ?_)
  repeat (first | refine VO_d ?_ | refine VQ_d ?_)
  (first | refine VO_nil ?_ | refine VQ_nil ?_)
  refine V_cond rfl (fun hc => ?_) (fun hc => ?_)
  · (first | refine V_seq_region ?_ | refine V_seq (V_seq_region ?_) | refine V_seq_draw tmix (by kernel_rfl) ?_ | refine V_seq (V_seq_draw tmix (by kernel_rfl) ?_) | refine V_region ?_ | refine V_draw tmix (by kernel_rfl) ?_)
    repeat refine VO_d ?_
    (first | refine VO_nil ?_ | refine VQ_nil ?_)
    refine V_ret ?_
    exact ⟨trivial, ⟨_, rfl, congrArg U.b (deq_false.2 (by intro h; injection h with h; injection h with q0 h; injection h with q1 h; injection h with q2 h; rw [q2, deq_self] at hc; cases hc)).symm⟩, trivial⟩
  refine V_skip ?_
  have e2 := deq_true.1 (by simpa using hc : deq _ _ = true)
  clear hc
  (first | refine V_seq_region ?_ | refine V_seq (V_seq_region ?_) | refine V_seq_draw tmix (by kernel_rfl) ?_ | refine V_seq (V_seq_draw tmix (by kernel_rfl) ?_) | refine V_region ?_ | refine V_draw tmix (by kernel_rfl) ?_)
  repeat (first | refine VO_d ?_ | refine VQ_d ?_)
  (first | refine VO_q (Q_call rfl h3 (by (repeat (first | exact trivial | exact rfl | exact ⟨_, rfl⟩ | refine And.intro ?_ ?_)); first | done | fail)) rfl ?_ | refine VQ_q (Q_call rfl h3 (by (repeat (first | exact trivial | exact rfl | exact ⟨_, rfl⟩ | refine And.intro ?_ ?_)); first | done | fail)) rfl ?_ | (refine VO_bare rfl rfl rfl rfl ?_; refine VO_q (Q_call rfl h3 (by (repeat (first | exact trivial | exact rfl | exact ⟨_, rfl⟩ | refine And.intro ?_ ?_)); first | done | fail)) rfl ?_) | refine VQ_run rfl rfl rfl rfl (Q_call rfl h3 (by (repeat (first | exact trivial | exact rfl | exact ⟨_, rfl⟩ | refine And.intro ?_ ?_)); first | done | fail)) rfl ?_)
  repeat (first | refine VO_d ?_ | refine VQ_d ?_)
  (first | refine VO_nil ?_ | refine VQ_nil ?_)
  refine V_cond rfl (fun hc => ?_) (fun hc => ?_)
  · (first | refine V_seq_region ?_ | refine V_seq (V_seq_region ?_) | refine V_seq_draw tmix (by kernel_rfl) ?_ | refine V_seq (V_seq_draw tmix (by kernel_rfl) ?_) | refine V_region ?_ | refine V_draw tmix (by kernel_rfl) ?_)
    repeat refine VO_d ?_
    (first | refine VO_nil ?_ | refine VQ_nil ?_)
    refine V_ret ?_
    exact ⟨trivial, ⟨_, rfl, congrArg U.b (deq_false.2 (by intro h; injection h with h; injection h with q0 h; injection h with q1 h; injection h with q2 h; injection h with q3 h; rw [q3, deq_self] at hc; cases hc)).symm⟩, trivial⟩
  refine V_skip ?_
  have e3 := deq_true.1 (by simpa using hc : deq _ _ = true)
  clear hc
  (first | refine V_seq_region ?_ | refine V_seq (V_seq_region ?_) | refine V_seq_draw tmix (by kernel_rfl) ?_ | refine V_seq (V_seq_draw tmix (by kernel_rfl) ?_) | refine V_region ?_ | refine V_draw tmix (by kernel_rfl) ?_)
  repeat refine VO_d ?_
  (first | refine VO_nil ?_ | refine VQ_nil ?_)
  refine V_ret ?_
  exact ⟨trivial, ⟨_, rfl, congrArg U.b (deq_true.2 (by rw [e0, e1, e2, e3])).symm⟩, trivial⟩

theorem eqDictionaryS_step {us vs : List U} (hb1 : us.length ≤ big) (hb2 : vs.length ≤ big) (hz : ∀ a ∈ us, a.isSt = true ∧ a.sz = 5) (hz2 : ∀ a ∈ vs, a.isSt = true ∧ a.sz = 5) (ih : ∀ a ∈ us, ∀ b ∈ vs, PEq 56 a b) : PEq 89 (.sl 5 us) (.sl 5 vs) := by
  rw [big_eq] at hb1 hb2
  refine SpecP_intro Tryd.func89 rfl (by kernel_rfl) rfl fun A _ => ?_
  (first | refine V_seq_region ?_ | refine V_seq (V_seq_region ?_) | refine V_seq_draw tmix (by kernel_rfl) ?_ | refine V_seq (V_seq_draw tmix (by kernel_rfl) ?_) | refine V_region ?_ | refine V_draw tmix (by kernel_rfl) ?_)
  repeat refine VO_d ?_
  (first | refine VO_nil ?_ | refine VQ_nil ?_)
  (first | refine V_seq_region ?_ | refine V_seq (V_seq_region ?_) | refine V_seq_draw tmix (by kernel_rfl) ?_ | refine V_seq (V_seq_draw tmix (by kernel_rfl) ?_) | refine V_region ?_ | refine V_draw tmix (by kernel_rfl) ?_)
  repeat refine VO_d ?_
  (first | refine VO_nil ?_ | refine VQ_nil ?_)
  refine V_cond rfl (fun hc => ?_) (fun hc => ?_)
  · (first | refine V_seq_region ?_ | refine V_seq (V_seq_region ?_) | refine V_seq_draw tmix (by kernel_rfl) ?_ | refine V_seq (V_seq_draw tmix (by kernel_rfl) ?_) | refine V_region ?_ | refine V_draw tmix (by kernel_rfl) ?_)
    repeat refine VO_d ?_
    (first | refine VO_nil ?_ | refine VQ_nil ?_)
    refine V_ret ?_
    exact ⟨trivial, ⟨_, rfl, congrArg U.b (deq_false.2 (by intro h; injection h with _ h; subst h; simp at hc)).symm⟩, trivial⟩
  refine V_skip ?_
  have hll : us.length = vs.length := by simp at hc; omega
  (first | refine V_seq_region ?_ | refine V_seq (V_seq_region ?_) | refine V_seq_draw tmix (by kernel_rfl) ?_ | refine V_seq (V_seq_draw tmix (by kernel_rfl) ?_) | refine V_region ?_ | refine V_draw tmix (by kernel_rfl) ?_)
  repeat refine VO_d ?_
  (first | refine VO_nil ?_ | refine VQ_nil ?_)
  refine V_block ?_
  refine V_loop (α := Nat)
    (fun k => ⟨[(0, .d (.sl 5 us)), (1, .d (.sl 5 vs)), (5, .d (.i .i64 k))], [], Tryd.f89.ntmps⟩)
    (fun k => k ≤ us.length ∧ ∀ j, j < k → us[j]? = vs[j]?)
    (fun k => us.length - k) 0 ⟨rfl, ⟨⟨rfl, rfl⟩, ⟨rfl, rfl⟩, ⟨rfl, rfl⟩, trivial⟩, ⟨[], rfl⟩, rfl⟩ ⟨by simp, by simp⟩ ?_
  rintro k ⟨hk, hsame⟩
  (first | refine V_seq_region ?_ | refine V_seq (V_seq_region ?_) | refine V_seq_draw tmix (by kernel_rfl) ?_ | refine V_seq (V_seq_draw tmix (by kernel_rfl) ?_) | refine V_region ?_ | refine V_draw tmix (by kernel_rfl) ?_)
  repeat refine VO_d ?_
  (first | refine VO_nil ?_ | refine VQ_nil ?_)
  refine V_cond rfl (fun hc2 => ?_) (fun hc2 => ?_)
  · refine V_skip ?_
    simp only [decide_eq_true_eq] at hc2
    have hkl : k < us.length := by omega
    have hkv : k < vs.length := by omega
    have hget : us[k]? = some us[k] := List.getElem?_eq_getElem hkl
    have hgev : vs[k]? = some vs[k] := List.getElem?_eq_getElem hkv
    have hmem : us[k] ∈ us := List.getElem_mem hkl
    have hmev : vs[k] ∈ vs := List.getElem_mem hkv
    obtain ⟨hst, hsz⟩ := hz _ hmem
    obtain ⟨hst2, hsz2⟩ := hz2 _ hmev
    refine V_seq (V_block ?_)
    (first | refine V_seq_region ?_ | refine V_seq (V_seq_region ?_) | refine V_seq_draw tmix (by kernel_rfl) ?_ | refine V_seq (V_seq_draw tmix (by kernel_rfl) ?_) | refine V_region ?_ | refine V_draw tmix (by kernel_rfl) ?_)
    repeat (first | refine VO_d ?_ | refine VQ_d ?_)
    (first | refine VO_q (Q_index rfl rfl TE.h TI.h (by omega) hget) rfl ?_ | refine VQ_q (Q_index rfl rfl TE.h TI.h (by omega) hget) rfl ?_ | (refine VO_bare rfl rfl rfl rfl ?_; refine VO_q (Q_index rfl rfl TE.h TI.h (by omega) hget) rfl ?_) | refine VQ_run rfl rfl rfl rfl (Q_index rfl rfl TE.h TI.h (by omega) hget) rfl ?_)
    (first | refine VO_q (Q_load rfl TI.h hst hsz) rfl ?_ | refine VQ_q (Q_load rfl TI.h hst hsz) rfl ?_ | (refine VO_bare rfl rfl rfl rfl ?_; refine VO_q (Q_load rfl TI.h hst hsz) rfl ?_) | refine VQ_run rfl rfl rfl rfl (Q_load rfl TI.h hst hsz) rfl ?_)
    repeat (first | refine VO_d ?_ | refine VQ_d ?_)
    (first | refine VO_q (Q_index rfl rfl TE.h TI.h (by omega) hgev) rfl ?_ | refine VQ_q (Q_index rfl rfl TE.h TI.h (by omega) hgev) rfl ?_ | (refine VO_bare rfl rfl rfl rfl ?_; refine VO_q (Q_index rfl rfl TE.h TI.h (by omega) hgev) rfl ?_) | refine VQ_run rfl rfl rfl rfl (Q_index rfl rfl TE.h TI.h (by omega) hgev) rfl ?_)
    (first | refine VO_q (Q_load rfl TI.h hst2 hsz2) rfl ?_ | refine VQ_q (Q_load rfl TI.h hst2 hsz2) rfl ?_ | (refine VO_bare rfl rfl rfl rfl ?_; refine VO_q (Q_load rfl TI.h hst2 hsz2) rfl ?_) | refine VQ_run rfl rfl rfl rfl (Q_load rfl TI.h hst2 hsz2) rfl ?_)
    (first | refine VO_q (Q_call rfl (ih _ hmem _ hmev) (by (repeat (first | exact trivial | exact rfl | exact ⟨_, rfl⟩ | refine And.intro ?_ ?_)); first | done | fail)) rfl ?_ | refine VQ_q (Q_call rfl (ih _ hmem _ hmev) (by (repeat (first | exact trivial | exact rfl | exact ⟨_, rfl⟩ | refine And.intro ?_ ?_)); first | done | fail)) rfl ?_ | (refine VO_bare rfl rfl rfl rfl ?_; refine VO_q (Q_call rfl (ih _ hmem _ hmev) (by (repeat (first | exact trivial | exact rfl | exact ⟨_, rfl⟩ | refine And.intro ?_ ?_)); first | done | fail)) rfl ?_) | refine VQ_run rfl rfl rfl rfl (Q_call rfl (ih _ hmem _ hmev) (by (repeat (first | exact trivial | exact rfl | exact ⟨_, rfl⟩ | refine And.intro ?_ ?_)); first | done | fail)) rfl ?_)
    repeat (first | refine VO_d ?_ | refine VQ_d ?_)
    (first | refine VO_nil ?_ | refine VQ_nil ?_)
    refine V_cond rfl (fun hc3 => ?_) (fun hc3 => ?_)
    · (first | refine V_seq_region ?_ | refine V_seq (V_seq_region ?_) | refine V_seq_draw tmix (by kernel_rfl) ?_ | refine V_seq (V_seq_draw tmix (by kernel_rfl) ?_) | refine V_region ?_ | refine V_draw tmix (by kernel_rfl) ?_)
      repeat refine VO_d ?_
      (first | refine VO_nil ?_ | refine VQ_nil ?_)
      refine V_ret ?_
      exact ⟨trivial, ⟨_, rfl, congrArg U.b (deq_false.2 (by intro h; injection h with _ h; subst h; rw [deq_self] at hc3; cases hc3)).symm⟩, trivial⟩
    refine V_skip ?_
    have heq : us[k] = vs[k] := deq_true.1 (by simpa using hc3)
    (first | refine V_seq_region ?_ | refine V_seq (V_seq_region ?_) | refine V_seq_draw tmix (by kernel_rfl) ?_ | refine V_seq (V_seq_draw tmix (by kernel_rfl) ?_) | refine V_region ?_ | refine V_draw tmix (by kernel_rfl) ?_)
    repeat refine VO_d ?_
    (first | refine VO_nil ?_ | refine VQ_nil ?_)
    refine ⟨k + 1, ⟨by omega, fun j hj => ?_⟩, by omega, ⟨rfl, ⟨⟨rfl, rfl⟩, ⟨rfl, rfl⟩, ⟨rfl, rfl⟩, trivial⟩, ⟨[], rfl⟩, rfl⟩⟩
    by_cases hjk : j = k
    · subst hjk; rw [hget, hgev, heq]
    · exact hsame j (by omega)
  · refine V_exit ?_
    simp only [decide_eq_false_iff_not] at hc2
    have hkl : k = us.length := by omega
    subst hkl
    have hall : us = vs := by
      apply List.ext_getElem?
      intro j
      by_cases hj : j < us.length
      · exact hsame j hj
      · rw [List.getElem?_eq_none (by omega), List.getElem?_eq_none (by omega)]
    show V _ _ _ _ _
    (first | refine V_seq_region ?_ | refine V_seq (V_seq_region ?_) | refine V_seq_draw tmix (by kernel_rfl) ?_ | refine V_seq (V_seq_draw tmix (by kernel_rfl) ?_) | refine V_region ?_ | refine V_draw tmix (by kernel_rfl) ?_)
    repeat refine VO_d ?_
    (first | refine VO_nil ?_ | refine VQ_nil ?_)
    refine V_ret ?_
    exact ⟨trivial, ⟨_, rfl, congrArg U.b (deq_true.2 (by rw [hall])).symm⟩, trivial⟩

theorem eqDictionary_grp (u : U) : (∀ v, wt (.st 26) u → wt (.st 26) v → PEq 56 u v) := by
  refine U.ind (M := fun u => (∀ v, wt (.st 26) u → wt (.st 26) v → PEq 56 u v)) (fun u ih => ?_) u
  refine ?_
  · intro v h h2
    obtain ⟨f0, f1, f2, f3, rfl, p0, p1, p2, p3⟩ := inv_Dictionary h
    obtain ⟨d0, d1, d2, d3, rfl, q0, q1, q2, q3⟩ := inv_Dictionary h2
    exact eqDictionary_step p1 q1 (eqInstanceRef_all p1 q1) (eqIntS_all p2 q2) (eqDictionaryS_step p3.1 q3.1 (fun a ha => ⟨wt_isSt (p3.2 a ha), by rw [wt_sz a _ (p3.2 a ha)]; rfl⟩) (fun a ha => ⟨wt_isSt (q3.2 a ha), by rw [wt_sz a _ (q3.2 a ha)]; rfl⟩) (fun a ha b hb => (ih a (by have := nn_of_mem ha; simp only [U.nn, U.nns]; omega)) b (p3.2 a ha) (q3.2 b hb)))
theorem eqDictionary_all {u v : U} (h : wt (.st 26) u) (h2 : wt (.st 26) v) : PEq 56 u v := (eqDictionary_grp u) v h h2
theorem eqDictionaryS_all {us vs : List U} (h : us.length ≤ big ∧ ∀ x ∈ us, wt (.st 26) x) (h2 : vs.length ≤ big ∧ ∀ x ∈ vs, wt (.st 26) x) : PEq 89 (.sl 5 us) (.sl 5 vs) := eqDictionaryS_step h.1 h2.1 (fun a ha => ⟨wt_isSt (h.2 a ha), by rw [wt_sz a _ (h.2 a ha)]; rfl⟩) (fun a ha => ⟨wt_isSt (h2.2 a ha), by rw [wt_sz a _ (h2.2 a ha)]; rfl⟩) (fun a ha b hb => eqDictionary_all (h.2 a ha) (h2.2 b hb))
theorem eqValue_step {f0 : Int} {f1 : Int} {f2 : List UInt8} {f3 : U} {f4 : List U} {d0 : Int} {d1 : Int} {d2 : List UInt8} {d3 : U} {d4 : List U} (h2 : f2.length ≤ big) (k2 : d2.length ≤ big) (g3 : wt (.st 26) f3) (j3 : wt (.st 26) d3) (h3 : PEq 56 f3 d3) (h4 : PEq 57 (.sl 9 f4) (.sl 9 d4)) : PEq 20 (.st [.i .i64 f0, .i .i64 f1, .s f2, f3, .sl 9 f4]) (.st [.i .i64 d0, .i .i64 d1, .s d2, d3, .sl 9 d4]) := by
  obtain ⟨e9_0, e9_1, e9_2, e9_3, rfl, g9_0, g9_1, g9_2, g9_3⟩ := inv_Dictionary g3
  obtain ⟨e10_0, e10_1, rfl, g10_0, g10_1⟩ := inv_InstanceRef g9_1
  obtain ⟨e11_0, e11_1, e11_2, e11_3, rfl, g11_0, g11_1, g11_2, g11_3⟩ := inv_Dictionary j3
  obtain ⟨e12_0, e12_1, rfl, g12_0, g12_1⟩ := inv_InstanceRef g11_1
  refine SpecP_intro Tryd.func20 rfl (by kernel_rfl) rfl fun A _ => ?_
  (first | refine V_seq_region ?_ | refine V_seq (V_seq_region ?_) | refine V_seq_draw tmix (by kernel_rfl) ?_ | refine V_seq (V_seq_draw tmix (by kernel_rfl) ?_) | refine V_region ?_ | refine V_draw tmix (by kernel_rfl) ?_)
  repeat refine VO_d ?_
  (first | refine VO_nil ?_ | refine VQ_nil ?_)
  (first | refine V_seq_region ?_ | refine V_seq (V_seq_region ?_) | refine V_seq_draw tmix (by kernel_rfl) ?_ | refine V_seq (V_seq_draw tmix (by kernel_rfl) ?_) | refine V_region ?_ | refine V_draw tmix (by kernel_rfl) ?_)
  repeat (first | refine VO_d ?_ | refine VQ_d ?_)
  (first | refine VO_nil ?_ | refine VQ_nil ?_)
  refine V_cond rfl (fun hc => ?_) (fun hc => ?_)
  · (first | refine V_seq_region ?_ | refine V_seq (V_seq_region ?_) | refine V_seq_draw tmix (by kernel_rfl) ?_ | refine V_seq (V_seq_draw tmix (by kernel_rfl) ?_) | refine V_region ?_ | refine V_draw tmix (by kernel_rfl) ?_)
    repeat refine VO_d ?_
    (first | refine VO_nil ?_ | refine VQ_nil ?_)
    refine V_ret ?_
    exact ⟨trivial, ⟨_, rfl, congrArg U.b (deq_false.2 (by intro h; injection h with h; injection h with q0 h; injection q0 with _ hk; simp [hk] at hc)).symm⟩, trivial⟩
  refine V_skip ?_
  have e0 := (by simpa using hc : f0 = d0)
  clear hc
  (first | refine V_seq_region ?_ | refine V_seq (V_seq_region ?_) | refine V_seq_draw tmix (by kernel_rfl) ?_ | refine V_seq (V_seq_draw tmix (by kernel_rfl) ?_) | refine V_region ?_ | refine V_draw tmix (by kernel_rfl) ?_)
  repeat (first | refine VO_d ?_ | refine VQ_d ?_)
  (first | refine VO_nil ?_ | refine VQ_nil ?_)
  refine V_cond rfl (fun hc => ?_) (fun hc => ?_)
  · (first | refine V_seq_region ?_ | refine V_seq (V_seq_region ?_) | refine V_seq_draw tmix (by kernel_rfl) ?_ | refine V_seq (V_seq_draw tmix (by kernel_rfl) ?_) | refine V_region ?_ | refine V_draw tmix (by kernel_rfl) ?_)
    repeat refine VO_d ?_
    (first | refine VO_nil ?_ | refine VQ_nil ?_)
    refine V_ret ?_
    exact ⟨trivial, ⟨_, rfl, congrArg U.b (deq_false.2 (by intro h; injection h with h; injection h with q0 h; injection h with q1 h; injection q1 with _ hk; simp [hk] at hc)).symm⟩, trivial⟩
  refine V_skip ?_
  have e1 := (by simpa using hc : f1 = d1)
  clear hc
  (first | refine V_seq_region ?_ | refine V_seq (V_seq_region ?_) | refine V_seq_draw tmix (by kernel_rfl) ?_ | refine V_seq (V_seq_draw tmix (by kernel_rfl) ?_) | refine V_region ?_ | refine V_draw tmix (by kernel_rfl) ?_)
  repeat (first | refine VO_d ?_ | refine VQ_d ?_)
  (first | refine VO_nil ?_ | refine VQ_nil ?_)
  refine V_cond rfl (fun hc => ?_) (fun hc => ?_)
  · (first | refine V_seq_region ?_ | refine V_seq (V_seq_region ?_) | refine V_seq_draw tmix (by kernel_rfl) ?_ | refine V_seq (V_seq_draw tmix (by kernel_rfl) ?_) | refine V_region ?_ | refine V_draw tmix (by kernel_rfl) ?_)
    repeat refine VO_d ?_
    (first | refine VO_nil ?_ | refine VQ_nil ?_)
    refine V_ret ?_
    exact ⟨trivial, ⟨_, rfl, congrArg U.b (deq_false.2 (by intro h; injection h with h; injection h with q0 h; injection h with q1 h; injection h with q2 h; injection q2 with hk; simp [hk] at hc)).symm⟩, trivial⟩
  refine V_skip ?_
  have e2 := (by simpa using hc : f2 = d2)
  clear hc
  (first | refine V_seq_region ?_ | refine V_seq (V_seq_region ?_) | refine V_seq_draw tmix (by kernel_rfl) ?_ | refine V_seq (V_seq_draw tmix (by kernel_rfl) ?_) | refine V_region ?_ | refine V_draw tmix (by kernel_rfl) ?_)
  repeat (first | refine VO_d ?_ | refine VQ_d ?_)
  (first | refine VO_q (Q_call rfl h3 (by (repeat (first | exact trivial | exact rfl | exact ⟨_, rfl⟩ | refine And.intro ?_ ?_)); first | done | fail)) rfl ?_ | refine VQ_q (Q_call rfl h3 (by (repeat (first | exact trivial | exact rfl | exact ⟨_, rfl⟩ | refine And.intro ?_ ?_)); first | done | fail)) rfl ?_ | (refine VO_bare rfl rfl rfl rfl ?_; refine VO_q (Q_call rfl h3 (by (repeat (first | exact trivial | exact rfl | exact ⟨_, rfl⟩ | refine And.intro ?_ ?_)); first | done | fail)) rfl ?_) | refine VQ_run rfl rfl rfl rfl (Q_call rfl h3 (by (repeat (first | exact trivial | exact rfl | exact ⟨_, rfl⟩ | refine And.intro ?_ ?_)); first | done | fail)) rfl ?_)
  repeat (first | refine VO_d ?_ | refine VQ_d ?_)
  (first | refine VO_nil ?_ | refine VQ_nil ?_)
  refine V_cond rfl (fun hc => ?_) (fun hc => ?_)
  · (first | refine V_seq_region ?_ | refine V_seq (V_seq_region ?_) | refine V_seq_draw tmix (by kernel_rfl) ?_ | refine V_seq (V_seq_draw tmix (by kernel_rfl) ?_) | refine V_region ?_ | refine V_draw tmix (by kernel_rfl) ?_)
    repeat refine VO_d ?_
    (first | refine VO_nil ?_ | refine VQ_nil ?_)
    refine V_ret ?_
    exact ⟨trivial, ⟨_, rfl, congrArg U.b (deq_false.2 (by intro h; injection h with h; injection h with q0 h; injection h with q1 h; injection h with q2 h; injection h with q3 h; rw [q3, deq_self] at hc; cases hc)).symm⟩, trivial⟩
  refine V_skip ?_
  have e3 := deq_true.1 (by simpa using hc : deq _ _ = true)
  clear hc
  (first | refine V_seq_region ?_ | refine V_seq (V_seq_region ?_) | refine V_seq_draw tmix (by kernel_rfl) ?_ | refine V_seq (V_seq_draw tmix (by kernel_rfl) ?_) | refine V_region ?_ | refine V_draw tmix (by kernel_rfl) ?_)
  repeat (first | refine VO_d ?_ | refine VQ_d ?_)
  (first | refine VO_q (Q_call rfl h4 (by (repeat (first | exact trivial | exact rfl | exact ⟨_, rfl⟩ | refine And.intro ?_ ?_)); first | done | fail)) rfl ?_ | refine VQ_q (Q_call rfl h4 (by (repeat (first | exact trivial | exact rfl | exact ⟨_, rfl⟩ | refine And.intro ?_ ?_)); first | done | fail)) rfl ?_ | (refine VO_bare rfl rfl rfl rfl ?_; refine VO_q (Q_call rfl h4 (by (repeat (first | exact trivial | exact rfl | exact ⟨_, rfl⟩ | refine And.intro ?_ ?_)); first | done | fail)) rfl ?_) | refine VQ_run rfl rfl rfl rfl (Q_call rfl h4 (by (repeat (first | exact trivial | exact rfl | exact ⟨_, rfl⟩ | refine And.intro ?_ ?_)); first | done | fail)) rfl ?_)
  repeat (first | refine VO_d ?_ | refine VQ_d ?_)
  (first | refine VO_nil ?_ | refine VQ_nil ?_)
  refine V_cond rfl (fun hc => ?_) (fun hc => ?_)
  · (first | refine V_seq_region ?_ | refine V_seq (V_seq_region ?_) | refine V_seq_draw tmix (by kernel_rfl) ?_ | refine V_seq (V_seq_draw tmix (by kernel_rfl) ?_) | refine V_region ?_ | refine V_draw tmix (by kernel_rfl) ?_)
    repeat refine VO_d ?_
    (first | refine VO_nil ?_ | refine VQ_nil ?_)
    refine V_ret ?_
    exact ⟨trivial, ⟨_, rfl, congrArg U.b (deq_false.2 (by intro h; injection h with h; injection h with q0 h; injection h with q1 h; injection h with q2 h; injection h with q3 h; injection h with q4 h; rw [q4, deq_self] at hc; cases hc)).symm⟩, trivial⟩
  refine V_skip ?_
  have e4 := deq_true.1 (by simpa using hc : deq _ _ = true)
  clear hc
  (first | refine V_seq_region ?_ | refine V_seq (V_seq_region ?_) | refine V_seq_draw tmix (by kernel_rfl) ?_ | refine V_seq (V_seq_draw tmix (by kernel_rfl) ?_) | refine V_region ?_ | refine V_draw tmix (by kernel_rfl) ?_)
  repeat refine VO_d ?_
  (first | refine VO_nil ?_ | refine VQ_nil ?_)
  refine V_ret ?_
  exact ⟨trivial, ⟨_, rfl, congrArg U.b (deq_true.2 (by rw [e0, e1, e2, e3, e4])).symm⟩, trivial⟩

theorem eqValueS_step {us vs : List U} (hb1 : us.length ≤ big) (hb2 : vs.length ≤ big) (hz : ∀ a ∈ us, a.isSt = true ∧ a.sz = 9) (hz2 : ∀ a ∈ vs, a.isSt = true ∧ a.sz = 9) (ih : ∀ a ∈ us, ∀ b ∈ vs, PEq 20 a b) : PEq 57 (.sl 9 us) (.sl 9 vs) := by
  rw [big_eq] at hb1 hb2
  refine SpecP_intro Tryd.func57 rfl (by kernel_rfl) rfl fun A _ => ?_
  (first | refine V_seq_region ?_ | refine V_seq (V_seq_region ?_) | refine V_seq_draw tmix (by kernel_rfl) ?_ | refine V_seq (V_seq_draw tmix (by kernel_rfl) ?_) | refine V_region ?_ | refine V_draw tmix (by kernel_rfl) ?_)
  repeat refine VO_d ?_
  (first | refine VO_nil ?_ | refine VQ_nil ?_)
  (first | refine V_seq_region ?_ | refine V_seq (V_seq_region ?_) | refine V_seq_draw tmix (by kernel_rfl) ?_ | refine V_seq (V_seq_draw tmix (by kernel_rfl) ?_) | refine V_region ?_ | refine V_draw tmix (by kernel_rfl) ?_)
  repeat refine VO_d ?_
  (first | refine VO_nil ?_ | refine VQ_nil ?_)
  refine V_cond rfl (fun hc => ?_) (fun hc => ?_)
  · (first | refine V_seq_region ?_ | refine V_seq (V_seq_region ?_) | refine V_seq_draw tmix (by kernel_rfl) ?_ | refine V_seq (V_seq_draw tmix (by kernel_rfl) ?_) | refine V_region ?_ | refine V_draw tmix (by kernel_rfl) ?_)
    repeat refine VO_d ?_
    (first | refine VO_nil ?_ | refine VQ_nil ?_)
    refine V_ret ?_
    exact ⟨trivial, ⟨_, rfl, congrArg U.b (deq_false.2 (by intro h; injection h with _ h; subst h; simp at hc)).symm⟩, trivial⟩
  refine V_skip ?_
  have hll : us.length = vs.length := by simp at hc; omega
  (first | refine V_seq_region ?_ | refine V_seq (V_seq_region ?_) | refine V_seq_draw tmix (by kernel_rfl) ?_ | refine V_seq (V_seq_draw tmix (by kernel_rfl) ?_) | refine V_region ?_ | refine V_draw tmix (by kernel_rfl) ?_)
  repeat refine VO_d ?_
  (first | refine VO_nil ?_ | refine VQ_nil ?_)
  refine V_block ?_
  refine V_loop (α := Nat)
    (fun k => ⟨[(0, .d (.sl 9 us)), (1, .d (.sl 9 vs)), (5, .d (.i .i64 k))], [], Tryd.f57.ntmps⟩)
    (fun k => k ≤ us.length ∧ ∀ j, j < k → us[j]? = vs[j]?)
    (fun k => us.length - k) 0 ⟨rfl, ⟨⟨rfl, rfl⟩, ⟨rfl, rfl⟩, ⟨rfl, rfl⟩, trivial⟩, ⟨[], rfl⟩, rfl⟩ ⟨by simp, by simp⟩ ?_
  rintro k ⟨hk, hsame⟩
  (first | refine V_seq_region ?_ | refine V_seq (V_seq_region ?_) | refine V_seq_draw tmix (by kernel_rfl) ?_ | refine V_seq (V_seq_draw tmix (by kernel_rfl) ?_) | refine V_region ?_ | refine V_draw tmix (by kernel_rfl) ?_)
  repeat refine VO_d ?_
  (first | refine VO_nil ?_ | refine VQ_nil ?_)
  refine V_cond rfl (fun hc2 => ?_) (fun hc2 => ?_)
  · refine V_skip ?_
    simp only [decide_eq_true_eq] at hc2
    have hkl : k < us.length := by omega
    have hkv : k < vs.length := by omega
    have hget : us[k]? = some us[k] := List.getElem?_eq_getElem hkl
    have hgev : vs[k]? = some vs[k] := List.getElem?_eq_getElem hkv
    have hmem : us[k] ∈ us := List.getElem_mem hkl
    have hmev : vs[k] ∈ vs := List.getElem_mem hkv
    obtain ⟨hst, hsz⟩ := hz _ hmem
    obtain ⟨hst2, hsz2⟩ := hz2 _ hmev
    refine V_seq (V_block ?_)
    (first | refine V_seq_region ?_ | refine V_seq (V_seq_region ?_) | refine V_seq_draw tmix (by kernel_rfl) ?_ | refine V_seq (V_seq_draw tmix (by kernel_rfl) ?_) | refine V_region ?_ | refine V_draw tmix (by kernel_rfl) ?_)
    repeat (first | refine VO_d ?_ | refine VQ_d ?_)
    (first | refine VO_q (Q_index rfl rfl TE.h TI.h (by omega) hget) rfl ?_ | refine VQ_q (Q_index rfl rfl TE.h TI.h (by omega) hget) rfl ?_ | (refine VO_bare rfl rfl rfl rfl ?_; refine VO_q (Q_index rfl rfl TE.h TI.h (by omega) hget) rfl ?_) | refine VQ_run rfl rfl rfl rfl (Q_index rfl rfl TE.h TI.h (by omega) hget) rfl ?_)
    (first | refine VO_q (Q_load rfl TI.h hst hsz) rfl ?_ | refine VQ_q (Q_load rfl TI.h hst hsz) rfl ?_ | (refine VO_bare rfl rfl rfl rfl ?_; refine VO_q (Q_load rfl TI.h hst hsz) rfl ?_) | refine VQ_run rfl rfl rfl rfl (Q_load rfl TI.h hst hsz) rfl ?_)
    repeat (first | refine VO_d ?_ | refine VQ_d ?_)
    (first | refine VO_q (Q_index rfl rfl TE.h TI.h (by omega) hgev) rfl ?_ | refine VQ_q (Q_index rfl rfl TE.h TI.h (by omega) hgev) rfl ?_ | (refine VO_bare rfl rfl rfl rfl ?_; refine VO_q (Q_index rfl rfl TE.h TI.h (by omega) hgev) rfl ?_) | refine VQ_run rfl rfl rfl rfl (Q_index rfl rfl TE.h TI.h (by omega) hgev) rfl ?_)
    (first | refine VO_q (Q_load rfl TI.h hst2 hsz2) rfl ?_ | refine VQ_q (Q_load rfl TI.h hst2 hsz2) rfl ?_ | (refine VO_bare rfl rfl rfl rfl ?_; refine VO_q (Q_load rfl TI.h hst2 hsz2) rfl ?_) | refine VQ_run rfl rfl rfl rfl (Q_load rfl TI.h hst2 hsz2) rfl ?_)
    (first | refine VO_q (Q_call rfl (ih _ hmem _ hmev) (by (repeat (first | exact trivial | exact rfl | exact ⟨_, rfl⟩ | refine And.intro ?_ ?_)); first | done | fail)) rfl ?_ | refine VQ_q (Q_call rfl (ih _ hmem _ hmev) (by (repeat (first | exact trivial | exact rfl | exact ⟨_, rfl⟩ | refine And.intro ?_ ?_)); first | done | fail)) rfl ?_ | (refine VO_bare rfl rfl rfl rfl ?_; refine VO_q (Q_call rfl (ih _ hmem _ hmev) (by (repeat (first | exact trivial | exact rfl | exact ⟨_, rfl⟩ | refine And.intro ?_ ?_)); first | done | fail)) rfl ?_) | refine VQ_run rfl rfl rfl rfl (Q_call rfl (ih _ hmem _ hmev) (by (repeat (first | exact trivial | exact rfl | exact ⟨_, rfl⟩ | refine And.intro ?_ ?_)); first | done | fail)) rfl ?_)
    repeat (first | refine VO_d ?_ | refine VQ_d ?_)
    (first | refine VO_nil ?_ | refine VQ_nil ?_)
    refine V_cond rfl (fun hc3 => ?_) (fun hc3 => ?_)
    · (first | refine V_seq_region ?_ | refine V_seq (V_seq_region ?_) | refine V_seq_draw tmix (by kernel_rfl) ?_ | refine V_seq (V_seq_draw tmix (by kernel_rfl) ?_) | refine V_region ?_ | refine V_draw tmix (by kernel_rfl) ?_)
      repeat refine VO_d ?_
      (first | refine VO_nil ?_ | refine VQ_nil ?_)
      refine V_ret ?_
      exact ⟨trivial, ⟨_, rfl, congrArg U.b (deq_false.2 (by intro h; injection h with _ h; subst h; rw [deq_self] at hc3; cases hc3)).symm⟩, trivial⟩
    refine V_skip ?_
    have heq : us[k] = vs[k] := deq_true.1 (by simpa using hc3)
    (first | refine V_seq_region ?_ | refine V_seq (V_seq_region ?_) | refine V_seq_draw tmix (by kernel_rfl) ?_ | refine V_seq (V_seq_draw tmix (by kernel_rfl) ?_) | refine V_region ?_ | refine V_draw tmix (by kernel_rfl) ?_)
    repeat refine VO_d ?_
    (first | refine VO_nil ?_ | refine VQ_nil ?_)
    refine ⟨k + 1, ⟨by omega, fun j hj => ?_⟩, by omega, ⟨rfl, ⟨⟨rfl, rfl⟩, ⟨rfl, rfl⟩, ⟨rfl, rfl⟩, trivial⟩, ⟨[], rfl⟩, rfl⟩⟩
    by_cases hjk : j = k
    · subst hjk; rw [hget, hgev, heq]
    · exact hsame j (by omega)
  · refine V_exit ?_
    simp only [decide_eq_false_iff_not] at hc2
    have hkl : k = us.length := by omega
    subst hkl
    have hall : us = vs := by
      apply List.ext_getElem?
      intro j
      by_cases hj : j < us.length
      · exact hsame j hj
      · rw [List.getElem?_eq_none (by omega), List.getElem?_eq_none (by omega)]
    show V _ _ _ _ _
    (first | refine V_seq_region ?_ | refine V_seq (V_seq_region ?_) | refine V_seq_draw tmix (by kernel_rfl) ?_ | refine V_seq (V_seq_draw tmix (by kernel_rfl) ?_) | refine V_region ?_ | refine V_draw tmix (by kernel_rfl) ?_)
    repeat refine VO_d ?_
    (first | refine VO_nil ?_ | refine VQ_nil ?_)
    refine V_ret ?_
    exact ⟨trivial, ⟨_, rfl, congrArg U.b (deq_true.2 (by rw [hall])).symm⟩, trivial⟩

theorem eqValue_grp (u : U) : (∀ v, wt (.st 27) u → wt (.st 27) v → PEq 20 u v) := by
  refine U.ind (M := fun u => (∀ v, wt (.st 27) u → wt (.st 27) v → PEq 20 u v)) (fun u ih => ?_) u
  refine ?_
  · intro v h h2
    obtain ⟨f0, f1, f2, f3, f4, rfl, p0, p1, p2, p3, p4⟩ := inv_Value h
    obtain ⟨d0, d1, d2, d3, d4, rfl, q0, q1, q2, q3, q4⟩ := inv_Value h2
    exact eqValue_step p2 q2 p3 q3 (eqDictionary_all p3 q3) (eqValueS_step p4.1 q4.1 (fun a ha => ⟨wt_isSt (p4.2 a ha), by rw [wt_sz a _ (p4.2 a ha)]; rfl⟩) (fun a ha => ⟨wt_isSt (q4.2 a ha), by rw [wt_sz a _ (q4.2 a ha)]; rfl⟩) (fun a ha b hb => (ih a (by have := nn_of_mem ha; simp only [U.nn, U.nns]; omega)) b (p4.2 a ha) (q4.2 b hb)))
theorem eqValue_all {u v : U} (h : wt (.st 27) u) (h2 : wt (.st 27) v) : PEq 20 u v := (eqValue_grp u) v h h2
theorem eqValueS_all {us vs : List U} (h : us.length ≤ big ∧ ∀ x ∈ us, wt (.st 27) x) (h2 : vs.length ≤ big ∧ ∀ x ∈ vs, wt (.st 27) x) : PEq 57 (.sl 9 us) (.sl 9 vs) := eqValueS_step h.1 h2.1 (fun a ha => ⟨wt_isSt (h.2 a ha), by rw [wt_sz a _ (h.2 a ha)]; rfl⟩) (fun a ha => ⟨wt_isSt (h2.2 a ha), by rw [wt_sz a _ (h2.2 a ha)]; rfl⟩) (fun a ha b hb => eqValue_all (h.2 a ha) (h2.2 b hb))
end Go.Proofs.YthojhakapbfbiaaDoor
