/- The contracts of the laws' own helpers (size checks, copies, comparisons). Written by a program of mine (fam.py). -/
import Derived.Test.YtbloknibekeedaaFacts
import Derived.Test.YtbloknibekeedaaEng13
set_option linter.unusedVariables false
set_option linter.unusedSimpArgs false
namespace Go.Proofs.Ytbloknibekeedaa
open Go Go.Eng
attribute [local irreducible] V VO VQ Quiet SpecP
abbrev PSz (f : Nat) (u : U) : Prop := ∀ l : Int, 0 ≤ l → l ≤ 4611686018427387904 → SpecP Try.prog f [.d u, .d (.i .i64 l)] [.i .i64 (if (W u : Int) ≤ l then l - W u else -1)]
abbrev PTo (f : Nat) (u : U) : Prop := W u ≤ 1048576 → SpecP Try.prog f [.d u] [u]
abbrev PEq (f : Nat) (u v : U) : Prop := SpecP Try.prog f [.d u, .d v] [.b (deq u v)]

theorem zI {S : Nat → Prop} {w : World} : Rd S w (.i .i64 0) [.int .i64 0] := by simp [Rd]
theorem zB {S : Nat → Prop} {w : World} : Rd S w (.b false) [.bool false] := by simp [Rd]
theorem zS {S : Nat → Prop} {w : World} : Rd S w (.s []) [.string ⟨#[]⟩] := by simp [Rd, big]
theorem zL {S : Nat → Prop} {w : World} {z : Nat} : Rd S w (.sl z []) [.slice none 0 0] := by
  simp only [Rd]
  exact ⟨by simp [big], none, 0, rfl, .inl trivial⟩
/-- What a copy holds after k rounds. -/
def fillU (us : List U) (zu : U) (k : Nat) : List U := us.take k ++ List.replicate (us.length - k) zu
theorem fillU_zero (us : List U) (zu : U) : List.replicate us.length zu = fillU us zu 0 := by simp [fillU]
theorem fillU_all (us : List U) (zu : U) : fillU us zu us.length = us := by simp [fillU]
theorem fillU_length {us : List U} {zu : U} {k : Nat} (h : k ≤ us.length) : (fillU us zu k).length = us.length := by simp [fillU]; omega
theorem fillU_set {us : List U} {zu u : U} {k : Nat} (h : us[k]? = some u) : (fillU us zu k).set k u = fillU us zu (k + 1) := by
  obtain ⟨hk, rfl⟩ := List.getElem?_eq_some_iff.1 h
  unfold fillU
  have hl : (us.take k).length = k := by simp; omega
  rw [List.set_append_right _ _ (by omega), hl, Nat.sub_self]
  rw [show us.length - k = (us.length - (k + 1)) + 1 by omega, List.replicate_succ, List.set_cons_zero, List.take_succ_eq_append_getElem hk, List.append_assoc]
  rfl

theorem szType_step {f0 : Int} {f1 : List UInt8} {f2 : List U} (h1 : f1.length ≤ big) (h2 : PSz 39 (.sl 3 f2)) : PSz 8 (.st [.i .i64 f0, .s f1, .sl 3 f2]) := by
  intro left hl0 hl1
  have hW : W (.st [.i .i64 f0, .s f1, .sl 3 f2]) = 0 + (f1.length + (W (U.sl 3 f2) + 0)) := rfl
  have hb1 : f1.length ≤ 140737488355328 := by rw [big_eq] at h1; exact h1
  refine SpecP_intro Try.func8 rfl (by kernel_rfl) rfl fun A => ?_
  refine V_seq_region ?_
  repeat refine VO_d ?_
  refine VO_nil ?_
  refine V_seq_region ?_
  repeat refine VO_d ?_
  refine VO_nil ?_
  refine V_seq (V_seq_region ?_)
  repeat refine VO_d ?_
  refine VO_nil ?_
  refine V_cond rfl (fun hc => ?_) (fun hc => ?_)
  · refine V_seq_region ?_
    repeat refine VO_d ?_
    refine VO_nil ?_
    refine V_ret ?_
    simp only [decide_eq_true_eq] at hc
    exact ⟨trivial, ⟨_, rfl, congrArg (U.i .i64) (by rw [if_neg (by omega)])⟩, trivial⟩
  refine V_skip ?_
  simp only [decide_eq_false_iff_not] at hc
  refine V_seq_region ?_
  repeat refine VO_d ?_
  refine VO_q (Q_call rfl (h2 (left - (f1.length : Int)) (by omega) (by omega)) (by (repeat (first | exact trivial | exact rfl | exact ⟨_, rfl⟩ | refine And.intro ?_ ?_)); first | done | fail)) rfl ?_
  repeat refine VO_d ?_
  refine VO_nil ?_
  refine V_seq (V_seq_region ?_)
  repeat refine VO_d ?_
  refine VO_nil ?_
  refine V_cond rfl (fun hc => ?_) (fun hc => ?_)
  · refine V_seq_region ?_
    repeat refine VO_d ?_
    refine VO_nil ?_
    refine V_ret ?_
    simp only [decide_eq_true_eq] at hc
    exact ⟨trivial, ⟨_, rfl, congrArg (U.i .i64) (by split at hc <;> (rw [if_neg (by omega)]))⟩, trivial⟩
  refine V_skip ?_
  simp only [decide_eq_false_iff_not] at hc
  have hpos2 := hc
  have heq : ∀ (c : Prop) [Decidable c] (a : Int), ¬ (if c then a else -1) < 0 → (if c then a else -1) = a ∧ c := by
    intro c _ a h
    split at h
    · rename_i hc; exact ⟨if_pos hc, hc⟩
    · omega
  obtain ⟨e2, c2⟩ := heq _ _ hc
  rw [e2]
  clear heq hc
  refine V_seq_region ?_
  repeat refine VO_d ?_
  refine VO_nil ?_
  refine V_ret ?_
  exact ⟨trivial, ⟨_, rfl, congrArg (U.i .i64) (by rw [if_pos (by omega)]; omega)⟩, trivial⟩

theorem szTypeS_step {us : List U} (hl : us.length ≤ big) (hz : ∀ a ∈ us, a.isSt = true ∧ a.sz = 3) (ih : ∀ a ∈ us, PSz 8 a) : PSz 39 (.sl 3 us) := by
  intro left hl0 hl1
  have hW : W (.sl 3 us) = us.length + Ws us := rfl
  have hb : (us.length : Int) ≤ 140737488355328 := by rw [big_eq] at hl; omega
  refine SpecP_intro Try.func39 rfl (by kernel_rfl) rfl fun A => ?_
  refine V_seq_region ?_
  repeat refine VO_d ?_
  refine VO_nil ?_
  refine V_seq_region ?_
  repeat refine VO_d ?_
  refine VO_nil ?_
  refine V_seq (V_seq_region ?_)
  repeat refine VO_d ?_
  refine VO_nil ?_
  refine V_cond rfl (fun hc => ?_) (fun hc => ?_)
  · refine V_seq_region ?_
    repeat refine VO_d ?_
    refine VO_nil ?_
    refine V_ret ?_
    simp only [decide_eq_true_eq] at hc
    exact ⟨trivial, ⟨_, rfl, congrArg (U.i .i64) (by rw [if_neg (by omega)])⟩, trivial⟩
  refine V_skip ?_
  simp only [decide_eq_false_iff_not] at hc
  refine V_seq (V_seq_region ?_)
  repeat refine VO_d ?_
  refine VO_nil ?_
  refine V_block ?_
  refine V_loop (α := Nat × Int)
    (fun x => ⟨[(0, .d (.sl 3 us)), (5, .d (.i .i64 x.1)), (1, .d (.i .i64 x.2))], [], Try.f39.ntmps⟩)
    (fun x => x.1 ≤ us.length ∧ 0 ≤ x.2 ∧ x.2 = left - us.length - Ws (us.take x.1))
    (fun x => us.length - x.1) (0, left - us.length) ⟨rfl, ⟨⟨rfl, rfl⟩, ⟨rfl, rfl⟩, ⟨rfl, rfl⟩, trivial⟩, ⟨[], rfl⟩, rfl⟩ ⟨by simp, by simp only; omega, by simp [Ws]⟩ ?_
  rintro ⟨k, l⟩ ⟨hk, hq0, hq1⟩
  simp only at hk hq0 hq1
  refine V_seq (V_seq_region ?_)
  repeat refine VO_d ?_
  refine VO_nil ?_
  refine V_cond rfl (fun hc2 => ?_) (fun hc2 => ?_)
  · refine V_skip ?_
    simp only [decide_eq_true_eq] at hc2
    have hkl : k < us.length := by omega
    have hget : us[k]? = some us[k] := List.getElem?_eq_getElem hkl
    have hmem : us[k] ∈ us := List.getElem_mem hkl
    have htk := Ws_take_succ hget
    have hle := Ws_take_le us (k + 1)
    obtain ⟨hst, hsz⟩ := hz _ hmem
    refine V_seq (V_block (V_seq_region ?_))
    repeat refine VO_d ?_
    refine VO_q (Q_index rfl rfl TE.h TI.h (by omega) hget) rfl ?_
    refine VO_q (Q_load rfl TI.h hst hsz) rfl ?_
    repeat refine VO_d ?_
    refine VO_q (Q_call rfl (ih _ hmem l (by omega) (by omega)) (by (repeat (first | exact trivial | exact rfl | exact ⟨_, rfl⟩ | refine And.intro ?_ ?_)); first | done | fail)) rfl ?_
    repeat refine VO_d ?_
    refine VO_nil ?_
    refine V_seq_region ?_
    repeat refine VO_d ?_
    refine VO_nil ?_
    refine V_cond rfl (fun hc3 => ?_) (fun hc3 => ?_)
    · refine V_seq_region ?_
      repeat refine VO_d ?_
      refine VO_nil ?_
      refine V_ret ?_
      simp only [decide_eq_true_eq] at hc3
      exact ⟨trivial, ⟨_, rfl, congrArg (U.i .i64) (by
        rw [if_neg (by intro hle2; rw [if_pos (by omega)] at hc3; omega)])⟩, trivial⟩
    refine V_skip ?_
    simp only [decide_eq_false_iff_not] at hc3
    refine V_region ?_
    repeat refine VO_d ?_
    refine VO_nil ?_
    refine ⟨(k + 1, (if (W us[k] : Int) ≤ l then l - W us[k] else -1)), ?_, ?_, ⟨rfl, ⟨⟨rfl, rfl⟩, ⟨rfl, rfl⟩, ⟨rfl, rfl⟩, trivial⟩, ⟨[], rfl⟩, rfl⟩⟩
    · simp only
      refine ⟨by omega, by omega, ?_⟩
      rw [if_pos (by apply Classical.byContradiction; intro hn; rw [if_neg hn] at hc3; omega)]
      omega
    · simp only
      omega
  · refine V_exit ?_
    simp only [decide_eq_false_iff_not] at hc2
    have hkl : k = us.length := by omega
    subst hkl
    rw [List.take_length] at hq1
    show V _ _ _ _ _
    refine V_seq_region ?_
    repeat refine VO_d ?_
    refine VO_nil ?_
    refine V_ret ?_
    exact ⟨trivial, ⟨_, rfl, congrArg (U.i .i64) (by rw [if_pos (by omega)]; omega)⟩, trivial⟩

theorem szType_grp (u : U) : (wt (.st 1) u → PSz 8 u) := by
  refine U.ind (M := fun u => (wt (.st 1) u → PSz 8 u)) (fun u ih => ?_) u
  refine ?_
  · intro h
    obtain ⟨f0, f1, f2, rfl, p0, p1, p2⟩ := inv_Type h
    exact szType_step p1 (szTypeS_step p2.1 (fun a ha => ⟨wt_isSt (p2.2 a ha), by rw [wt_sz a _ (p2.2 a ha)]; rfl⟩) (fun a ha => (ih a (by have := nn_of_mem ha; simp only [U.nn, U.nns]; omega)) (p2.2 a ha)))
theorem szType_all {u : U} (h : wt (.st 1) u) : PSz 8 u := (szType_grp u) h
theorem szTypeS_all {us : List U} (h : us.length ≤ big ∧ ∀ x ∈ us, wt (.st 1) x) : PSz 39 (.sl 3 us) := szTypeS_step h.1 (fun a ha => ⟨wt_isSt (h.2 a ha), by rw [wt_sz a _ (h.2 a ha)]; rfl⟩) (fun a ha => szType_all (h.2 a ha))
theorem toType_step {f0 : Int} {f1 : List UInt8} {f2 : List U} (h1 : f1.length ≤ big) (h2 : PTo 41 (.sl 3 f2)) : PTo 10 (.st [.i .i64 f0, .s f1, .sl 3 f2]) := by
  intro hw
  have hW : W (.st [.i .i64 f0, .s f1, .sl 3 f2]) = 0 + (f1.length + (W (U.sl 3 f2) + 0)) := rfl
  have c2 := h2 (by omega)
  clear h2
  clear hW hw
  refine SpecP_intro Try.func10 rfl (by kernel_rfl) rfl fun A => ?_
  (first | refine V_seq_region ?_ | refine V_seq (V_seq_region ?_) | refine V_seq_draw tmix (by kernel_rfl) ?_ | refine V_seq (V_seq_draw tmix (by kernel_rfl) ?_) | refine V_region ?_ | refine V_draw tmix (by kernel_rfl) ?_)
  repeat refine VO_d ?_
  (first | refine VO_nil ?_ | refine VQ_nil ?_)
  (first | refine V_seq_region ?_ | refine V_seq (V_seq_region ?_) | refine V_seq_draw tmix (by kernel_rfl) ?_ | refine V_seq (V_seq_draw tmix (by kernel_rfl) ?_) | refine V_region ?_ | refine V_draw tmix (by kernel_rfl) ?_)
  repeat refine VO_d ?_
  (first | refine VO_nil ?_ | refine VQ_nil ?_)
  (first | refine V_seq_region ?_ | refine V_seq (V_seq_region ?_) | refine V_seq_draw tmix (by kernel_rfl) ?_ | refine V_seq (V_seq_draw tmix (by kernel_rfl) ?_) | refine V_region ?_ | refine V_draw tmix (by kernel_rfl) ?_)
  repeat refine VO_d ?_
  (first | refine VO_nil ?_ | refine VQ_nil ?_)
  (first | refine V_seq_region ?_ | refine V_seq (V_seq_region ?_) | refine V_seq_draw tmix (by kernel_rfl) ?_ | refine V_seq (V_seq_draw tmix (by kernel_rfl) ?_) | refine V_region ?_ | refine V_draw tmix (by kernel_rfl) ?_)
  repeat refine VO_d ?_
  (first | refine VO_nil ?_ | refine VQ_nil ?_)
  (first | refine V_seq_region ?_ | refine V_seq (V_seq_region ?_) | refine V_seq_draw tmix (by kernel_rfl) ?_ | refine V_seq (V_seq_draw tmix (by kernel_rfl) ?_) | refine V_region ?_ | refine V_draw tmix (by kernel_rfl) ?_)
  repeat refine VO_d ?_
  (first | refine VO_q (Q_call rfl c2 (by (repeat (first | exact trivial | exact rfl | exact ⟨_, rfl⟩ | refine And.intro ?_ ?_)); first | done | fail)) rfl ?_ | refine VQ_q (Q_call rfl c2 (by (repeat (first | exact trivial | exact rfl | exact ⟨_, rfl⟩ | refine And.intro ?_ ?_)); first | done | fail)) rfl ?_ | (refine VO_bare rfl rfl rfl rfl ?_; refine VO_q (Q_call rfl c2 (by (repeat (first | exact trivial | exact rfl | exact ⟨_, rfl⟩ | refine And.intro ?_ ?_)); first | done | fail)) rfl ?_) | refine VQ_run rfl rfl rfl rfl (Q_call rfl c2 (by (repeat (first | exact trivial | exact rfl | exact ⟨_, rfl⟩ | refine And.intro ?_ ?_)); first | done | fail)) rfl ?_)
  repeat refine VO_d ?_
  (first | refine VO_nil ?_ | refine VQ_nil ?_)
  (first | refine V_seq_region ?_ | refine V_seq (V_seq_region ?_) | refine V_seq_draw tmix (by kernel_rfl) ?_ | refine V_seq (V_seq_draw tmix (by kernel_rfl) ?_) | refine V_region ?_ | refine V_draw tmix (by kernel_rfl) ?_)
  repeat refine VO_d ?_
  (first | refine VO_nil ?_ | refine VQ_nil ?_)
  refine V_ret ?_
  exact ⟨trivial, ⟨_, ResV_ag rfl rfl TI.h rfl rfl, (by (repeat (first | exact trivial | exact rfl | exact ⟨_, rfl⟩ | refine And.intro ?_ ?_)); first | done | fail)⟩, trivial⟩

theorem zu_Type : ZeroU (.st [.i .i64 0, .s [], .sl 3 []]) [.int .i64 0, .string ⟨#[]⟩, .slice none 0 0] := fun S w => Rd.of_leafs _ _ (And.intro zI (And.intro zS (And.intro zL (trivial))))
theorem toTypeS_step {us : List U} (hz : ∀ a ∈ us, a.isSt = true ∧ a.sz = 3) (ih : ∀ a ∈ us, PTo 10 a) : PTo 41 (.sl 3 us) := by
  intro hw
  have hW : W (.sl 3 us) = us.length + Ws us := rfl
  refine SpecP_intro Try.func41 rfl (by kernel_rfl) rfl fun A => ?_
  (first | refine V_seq_region ?_ | refine V_seq (V_seq_region ?_) | refine V_seq_draw tmix (by kernel_rfl) ?_ | refine V_seq (V_seq_draw tmix (by kernel_rfl) ?_) | refine V_region ?_ | refine V_draw tmix (by kernel_rfl) ?_)
  repeat refine VO_d ?_
  (first | refine VO_nil ?_ | refine VQ_nil ?_)
  (first | refine V_seq_region ?_ | refine V_seq (V_seq_region ?_) | refine V_seq_draw tmix (by kernel_rfl) ?_ | refine V_seq (V_seq_draw tmix (by kernel_rfl) ?_) | refine V_region ?_ | refine V_draw tmix (by kernel_rfl) ?_)
  repeat refine VO_d ?_
  refine VO_make rfl rfl TE.h TI.h TZ.h rfl zu_Type (by omega) (by omega) (by rw [big_eq]; omega) (by omega) rfl (by simp only [List.length_nil, List.length_cons, List.nil_append, List.cons_append, List.set_cons_zero, List.set_cons_succ, List.take_zero, List.take_succ_cons, List.drop_zero, List.drop_succ_cons, Nat.reduceAdd, Nat.zero_add] <;> rfl) (by simp only [List.length_nil, List.length_cons, List.nil_append, List.cons_append, List.set_cons_zero, List.set_cons_succ, List.take_zero, List.take_succ_cons, List.drop_zero, List.drop_succ_cons, Nat.reduceAdd, Nat.zero_add] <;> rfl) ?_
  repeat refine VO_d ?_
  (first | refine VO_nil ?_ | refine VQ_nil ?_)
  rw [Int.toNat_natCast, fillU_zero]
  (first | refine V_seq_region ?_ | refine V_seq (V_seq_region ?_) | refine V_seq_draw tmix (by kernel_rfl) ?_ | refine V_seq (V_seq_draw tmix (by kernel_rfl) ?_) | refine V_region ?_ | refine V_draw tmix (by kernel_rfl) ?_)
  repeat refine VO_d ?_
  (first | refine VO_nil ?_ | refine VQ_nil ?_)
  refine V_block ?_
  refine V_loop (α := Nat)
    (fun k => ⟨[(0, .d (.sl 3 us)), (3, .sl 0 0), (4, .d (.i .i64 k))], [.arr 29 3 0 (fillU us (.st [.i .i64 0, .s [], .sl 3 []]) k)], Try.f41.ntmps⟩)
    (fun k => k ≤ us.length)
    (fun k => us.length - k) 0 ⟨rfl, ⟨⟨rfl, rfl⟩, ⟨rfl, rfl⟩, ⟨rfl, rfl⟩, trivial⟩, ⟨[], rfl⟩, rfl⟩ (by simp) ?_
  intro k hk
  (first | refine V_seq_region ?_ | refine V_seq (V_seq_region ?_) | refine V_seq_draw tmix (by kernel_rfl) ?_ | refine V_seq (V_seq_draw tmix (by kernel_rfl) ?_) | refine V_region ?_ | refine V_draw tmix (by kernel_rfl) ?_)
  repeat refine VO_d ?_
  (first | refine VO_nil ?_ | refine VQ_nil ?_)
  refine V_cond rfl (fun hc2 => ?_) (fun hc2 => ?_)
  · refine V_skip ?_
    simp only [decide_eq_true_eq] at hc2
    have hkl : k < us.length := by omega
    have hget : us[k]? = some us[k] := List.getElem?_eq_getElem hkl
    have hmem : us[k] ∈ us := List.getElem_mem hkl
    have hwk := W_le_of_mem hmem
    have hfl : (fillU us (.st [.i .i64 0, .s [], .sl 3 []]) k).length = us.length := fillU_length hk
    obtain ⟨hst, hsz⟩ := hz _ hmem
    refine V_seq (V_block ?_)
    (first | refine V_seq_region ?_ | refine V_seq (V_seq_region ?_) | refine V_seq_draw tmix (by kernel_rfl) ?_ | refine V_seq (V_seq_draw tmix (by kernel_rfl) ?_) | refine V_region ?_ | refine V_draw tmix (by kernel_rfl) ?_)
    repeat refine VO_d ?_
    refine VO_q (Q_index rfl rfl TE.h TI.h (by omega) hget) rfl ?_
    refine VO_q (Q_load rfl TI.h hst hsz) rfl ?_
    refine VO_q (Q_call rfl (ih _ hmem (by omega)) (by (repeat (first | exact trivial | exact rfl | exact ⟨_, rfl⟩ | refine And.intro ?_ ?_)); first | done | fail)) rfl ?_
    refine VO_q (Q_index_arr rfl rfl rfl TE.h TI.h (by omega) (by omega)) rfl ?_
    refine VO_store_ep rfl rfl (by exact rfl) TI.h hsz (by omega) (by simp only [List.length_nil, List.length_cons, List.nil_append, List.cons_append, List.set_cons_zero, List.set_cons_succ, List.take_zero, List.take_succ_cons, List.drop_zero, List.drop_succ_cons, Nat.reduceAdd, Nat.zero_add] <;> rfl) ?_
    (first | refine VO_nil ?_ | refine VQ_nil ?_)
    (first | refine V_seq_region ?_ | refine V_seq (V_seq_region ?_) | refine V_seq_draw tmix (by kernel_rfl) ?_ | refine V_seq (V_seq_draw tmix (by kernel_rfl) ?_) | refine V_region ?_ | refine V_draw tmix (by kernel_rfl) ?_)
    repeat refine VO_d ?_
    (first | refine VO_nil ?_ | refine VQ_nil ?_)
    refine ⟨k + 1, by omega, by omega, ⟨rfl, ⟨⟨rfl, rfl⟩, ⟨rfl, rfl⟩, ⟨rfl, rfl⟩, trivial⟩, ⟨[], ?_⟩, rfl⟩⟩
    rw [Int.toNat_natCast, fillU_set hget]
    rfl
  · refine V_exit ?_
    simp only [decide_eq_false_iff_not] at hc2
    have hkl : k = us.length := by omega
    subst hkl
    rw [fillU_all]
    show V _ _ _ _ _
    (first | refine V_seq_region ?_ | refine V_seq (V_seq_region ?_) | refine V_seq_draw tmix (by kernel_rfl) ?_ | refine V_seq (V_seq_draw tmix (by kernel_rfl) ?_) | refine V_region ?_ | refine V_draw tmix (by kernel_rfl) ?_)
    repeat refine VO_d ?_
    (first | refine VO_nil ?_ | refine VQ_nil ?_)
    refine V_freeze 0 rfl (by simp only [List.length_nil, List.length_cons, List.nil_append, List.cons_append, List.set_cons_zero, List.set_cons_succ, List.take_zero, List.take_succ_cons, List.drop_zero, List.drop_succ_cons, Nat.reduceAdd, Nat.zero_add] <;> rfl) ?_
    refine V_ret ?_
    exact ⟨trivial, ⟨_, rfl, _, rfl⟩, trivial⟩

theorem toType_grp (u : U) : (wt (.st 1) u → PTo 10 u) := by
  refine U.ind (M := fun u => (wt (.st 1) u → PTo 10 u)) (fun u ih => ?_) u
  refine ?_
  · intro h
    obtain ⟨f0, f1, f2, rfl, p0, p1, p2⟩ := inv_Type h
    exact toType_step p1 (toTypeS_step (fun a ha => ⟨wt_isSt (p2.2 a ha), by rw [wt_sz a _ (p2.2 a ha)]; rfl⟩) (fun a ha => (ih a (by have := nn_of_mem ha; simp only [U.nn, U.nns]; omega)) (p2.2 a ha)))
theorem toType_all {u : U} (h : wt (.st 1) u) : PTo 10 u := (toType_grp u) h
theorem toTypeS_all {us : List U} (h : us.length ≤ big ∧ ∀ x ∈ us, wt (.st 1) x) : PTo 41 (.sl 3 us) := toTypeS_step (fun a ha => ⟨wt_isSt (h.2 a ha), by rw [wt_sz a _ (h.2 a ha)]; rfl⟩) (fun a ha => toType_all (h.2 a ha))
theorem eqType_step {f0 : Int} {f1 : List UInt8} {f2 : List U} {d0 : Int} {d1 : List UInt8} {d2 : List U} (h1 : f1.length ≤ big) (k1 : d1.length ≤ big) (h2 : PEq 45 (.sl 3 f2) (.sl 3 d2)) : PEq 12 (.st [.i .i64 f0, .s f1, .sl 3 f2]) (.st [.i .i64 d0, .s d1, .sl 3 d2]) := by
  refine SpecP_intro Try.func12 rfl (by kernel_rfl) rfl fun A => ?_
  (first | refine V_seq_region ?_ | refine V_seq (V_seq_region ?_) | refine V_seq_draw tmix (by kernel_rfl) ?_ | refine V_seq (V_seq_draw tmix (by kernel_rfl) ?_) | refine V_region ?_ | refine V_draw tmix (by kernel_rfl) ?_)
  repeat refine VO_d ?_
  (first | refine VO_nil ?_ | refine VQ_nil ?_)
  (first | refine V_seq_region ?_ | refine V_seq (V_seq_region ?_) | refine V_seq_draw tmix (by kernel_rfl) ?_ | refine V_seq (V_seq_draw tmix (by kernel_rfl) ?_) | refine V_region ?_ | refine V_draw tmix (by kernel_rfl) ?_)
  repeat (first | refine VO_d ?_ | refine VQ_d ?_)
  (first | refine VO_nil ?_ | refine VQ_nil ?_)
  refine V_cond rfl (fun hc => ?_) (fun hc => ?_)
  · (first | refine V_seq_region ?_ | refine V_seq (V_seq_region ?_) | refine V_seq_draw tmix (by kernel_rfl) ?_ | refine V_seq (V_seq_draw tmix (by kernel_rfl) ?_) | refine V_region ?_ | refine V_draw tmix (by kernel_rfl) ?_)
    repeat refine VO_d ?_
    (first | refine VO_nil ?_ | refine VQ_nil ?_)
    refine V_ret ?_
    exact ⟨trivial, ⟨_, rfl, congrArg U.b (deq_false.2 (by intro h; injection h with h; injection h with q0 h; injection q0 with _ hk; simp [hk] at hc)).symm⟩, trivial⟩
  refine V_skip ?_
  have e0 := (by simpa using hc : f0 = d0)
  clear hc
  (first | refine V_seq_region ?_ | refine V_seq (V_seq_region ?_) | refine V_seq_draw tmix (by kernel_rfl) ?_ | refine V_seq (V_seq_draw tmix (by kernel_rfl) ?_) | refine V_region ?_ | refine V_draw tmix (by kernel_rfl) ?_)
  repeat (first | refine VO_d ?_ | refine VQ_d ?_)
  (first | refine VO_nil ?_ | refine VQ_nil ?_)
  refine V_cond rfl (fun hc => ?_) (fun hc => ?_)
  · (first | refine V_seq_region ?_ | refine V_seq (V_seq_region ?_) | refine V_seq_draw tmix (by kernel_rfl) ?_ | refine V_seq (V_seq_draw tmix (by kernel_rfl) ?_) | refine V_region ?_ | refine V_draw tmix (by kernel_rfl) ?_)
    repeat refine VO_d ?_
    (first | refine VO_nil ?_ | refine VQ_nil ?_)
    refine V_ret ?_
    exact ⟨trivial, ⟨_, rfl, congrArg U.b (deq_false.2 (by intro h; injection h with h; injection h with q0 h; injection h with q1 h; injection q1 with hk; simp [hk] at hc)).symm⟩, trivial⟩
  refine V_skip ?_
  have e1 := (by simpa using hc : f1 = d1)
  clear hc
  (first | refine V_seq_region ?_ | refine V_seq (V_seq_region ?_) | refine V_seq_draw tmix (by kernel_rfl) ?_ | refine V_seq (V_seq_draw tmix (by kernel_rfl) ?_) | refine V_region ?_ | refine V_draw tmix (by kernel_rfl) ?_)
  repeat (first | refine VO_d ?_ | refine VQ_d ?_)
  (first | refine VO_q (Q_call rfl h2 (by (repeat (first | exact trivial | exact rfl | exact ⟨_, rfl⟩ | refine And.intro ?_ ?_)); first | done | fail)) rfl ?_ | refine VQ_q (Q_call rfl h2 (by (repeat (first | exact trivial | exact rfl | exact ⟨_, rfl⟩ | refine And.intro ?_ ?_)); first | done | fail)) rfl ?_ | (refine VO_bare rfl rfl rfl rfl ?_; refine VO_q (Q_call rfl h2 (by (repeat (first | exact trivial | exact rfl | exact ⟨_, rfl⟩ | refine And.intro ?_ ?_)); first | done | fail)) rfl ?_) | refine VQ_run rfl rfl rfl rfl (Q_call rfl h2 (by (repeat (first | exact trivial | exact rfl | exact ⟨_, rfl⟩ | refine And.intro ?_ ?_)); first | done | fail)) rfl ?_)
  repeat (first | refine VO_d ?_ | refine VQ_d ?_)
  (first | refine VO_nil ?_ | refine VQ_nil ?_)
  refine V_cond rfl (fun hc => ?_) (fun hc => ?_)
  · (first | refine V_seq_region ?_ | refine V_seq (V_seq_region ?_) | refine V_seq_draw tmix (by kernel_rfl) ?_ | refine V_seq (V_seq_draw tmix (by kernel_rfl) ?_) | refine V_region ?_ | refine V_draw tmix (by kernel_rfl) ?_)
    repeat refine VO_d ?_
    (first | refine VO_nil ?_ | refine VQ_nil ?_)
    refine V_ret ?_
    exact ⟨trivial, ⟨_, rfl, congrArg U.b (deq_false.2 (by intro h; injection h with h; injection h with q0 h; injection h with q1 h; injection h with q2 h; rw [q2, deq_self] at hc; cases hc)).symm⟩, trivial⟩
  refine V_skip ?_
  have e2 := deq_true.1 (by simpa using hc : deq _ _ = true)
  clear hc
  (first | refine V_seq_region ?_ | refine V_seq (V_seq_region ?_) | refine V_seq_draw tmix (by kernel_rfl) ?_ | refine V_seq (V_seq_draw tmix (by kernel_rfl) ?_) | refine V_region ?_ | refine V_draw tmix (by kernel_rfl) ?_)
  repeat refine VO_d ?_
  (first | refine VO_nil ?_ | refine VQ_nil ?_)
  refine V_ret ?_
  exact ⟨trivial, ⟨_, rfl, congrArg U.b (deq_true.2 (by rw [e0, e1, e2])).symm⟩, trivial⟩

theorem eqTypeS_step {us vs : List U} (hb1 : us.length ≤ big) (hb2 : vs.length ≤ big) (hz : ∀ a ∈ us, a.isSt = true ∧ a.sz = 3) (hz2 : ∀ a ∈ vs, a.isSt = true ∧ a.sz = 3) (ih : ∀ a ∈ us, ∀ b ∈ vs, PEq 12 a b) : PEq 45 (.sl 3 us) (.sl 3 vs) := by
  rw [big_eq] at hb1 hb2
  refine SpecP_intro Try.func45 rfl (by kernel_rfl) rfl fun A => ?_
  (first | refine V_seq_region ?_ | refine V_seq (V_seq_region ?_) | refine V_seq_draw tmix (by kernel_rfl) ?_ | refine V_seq (V_seq_draw tmix (by kernel_rfl) ?_) | refine V_region ?_ | refine V_draw tmix (by kernel_rfl) ?_)
  repeat refine VO_d ?_
  (first | refine VO_nil ?_ | refine VQ_nil ?_)
  (first | refine V_seq_region ?_ | refine V_seq (V_seq_region ?_) | refine V_seq_draw tmix (by kernel_rfl) ?_ | refine V_seq (V_seq_draw tmix (by kernel_rfl) ?_) | refine V_region ?_ | refine V_draw tmix (by kernel_rfl) ?_)
  repeat refine VO_d ?_
  (first | refine VO_nil ?_ | refine VQ_nil ?_)
  refine V_cond rfl (fun hc => ?_) (fun hc => ?_)
  · (first | refine V_seq_region ?_ | refine V_seq (V_seq_region ?_) | refine V_seq_draw tmix (by kernel_rfl) ?_ | refine V_seq (V_seq_draw tmix (by kernel_rfl) ?_) | refine V_region ?_ | refine V_draw tmix (by kernel_rfl) ?_)
    repeat refine VO_d ?_
    (first | refine VO_nil ?_ | refine VQ_nil ?_)
    refine V_ret ?_
    exact ⟨trivial, ⟨_, rfl, congrArg U.b (deq_false.2 (by intro h; injection h with _ h; subst h; simp at hc)).symm⟩, trivial⟩
  refine V_skip ?_
  have hll : us.length = vs.length := by simp at hc; omega
  (first | refine V_seq_region ?_ | refine V_seq (V_seq_region ?_) | refine V_seq_draw tmix (by kernel_rfl) ?_ | refine V_seq (V_seq_draw tmix (by kernel_rfl) ?_) | refine V_region ?_ | refine V_draw tmix (by kernel_rfl) ?_)
  repeat refine VO_d ?_
  (first | refine VO_nil ?_ | refine VQ_nil ?_)
  refine V_block ?_
  refine V_loop (α := Nat)
    (fun k => ⟨[(0, .d (.sl 3 us)), (1, .d (.sl 3 vs)), (5, .d (.i .i64 k))], [], Try.f45.ntmps⟩)
    (fun k => k ≤ us.length ∧ ∀ j, j < k → us[j]? = vs[j]?)
    (fun k => us.length - k) 0 ⟨rfl, ⟨⟨rfl, rfl⟩, ⟨rfl, rfl⟩, ⟨rfl, rfl⟩, trivial⟩, ⟨[], rfl⟩, rfl⟩ ⟨by simp, by simp⟩ ?_
  rintro k ⟨hk, hsame⟩
  (first | refine V_seq_region ?_ | refine V_seq (V_seq_region ?_) | refine V_seq_draw tmix (by kernel_rfl) ?_ | refine V_seq (V_seq_draw tmix (by kernel_rfl) ?_) | refine V_region ?_ | refine V_draw tmix (by kernel_rfl) ?_)
  repeat refine VO_d ?_
  (first | refine VO_nil ?_ | refine VQ_nil ?_)
  refine V_cond rfl (fun hc2 => ?_) (fun hc2 => ?_)
  · refine V_skip ?_
    simp only [decide_eq_true_eq] at hc2
    have hkl : k < us.length := by omega
    have hkv : k < vs.length := by omega
    have hget : us[k]? = some us[k] := List.getElem?_eq_getElem hkl
    have hgev : vs[k]? = some vs[k] := List.getElem?_eq_getElem hkv
    have hmem : us[k] ∈ us := List.getElem_mem hkl
    have hmev : vs[k] ∈ vs := List.getElem_mem hkv
    obtain ⟨hst, hsz⟩ := hz _ hmem
    obtain ⟨hst2, hsz2⟩ := hz2 _ hmev
    refine V_seq (V_block ?_)
    (first | refine V_seq_region ?_ | refine V_seq (V_seq_region ?_) | refine V_seq_draw tmix (by kernel_rfl) ?_ | refine V_seq (V_seq_draw tmix (by kernel_rfl) ?_) | refine V_region ?_ | refine V_draw tmix (by kernel_rfl) ?_)
    repeat (first | refine VO_d ?_ | refine VQ_d ?_)
    (first | refine VO_q (Q_index rfl rfl TE.h TI.h (by omega) hget) rfl ?_ | refine VQ_q (Q_index rfl rfl TE.h TI.h (by omega) hget) rfl ?_ | (refine VO_bare rfl rfl rfl rfl ?_; refine VO_q (Q_index rfl rfl TE.h TI.h (by omega) hget) rfl ?_) | refine VQ_run rfl rfl rfl rfl (Q_index rfl rfl TE.h TI.h (by omega) hget) rfl ?_)
    (first | refine VO_q (Q_load rfl TI.h hst hsz) rfl ?_ | refine VQ_q (Q_load rfl TI.h hst hsz) rfl ?_ | (refine VO_bare rfl rfl rfl rfl ?_; refine VO_q (Q_load rfl TI.h hst hsz) rfl ?_) | refine VQ_run rfl rfl rfl rfl (Q_load rfl TI.h hst hsz) rfl ?_)
    repeat (first | refine VO_d ?_ | refine VQ_d ?_)
    (first | refine VO_q (Q_index rfl rfl TE.h TI.h (by omega) hgev) rfl ?_ | refine VQ_q (Q_index rfl rfl TE.h TI.h (by omega) hgev) rfl ?_ | (refine VO_bare rfl rfl rfl rfl ?_; refine VO_q (Q_index rfl rfl TE.h TI.h (by omega) hgev) rfl ?_) | refine VQ_run rfl rfl rfl rfl (Q_index rfl rfl TE.h TI.h (by omega) hgev) rfl ?_)
    (first | refine VO_q (Q_load rfl TI.h hst2 hsz2) rfl ?_ | refine VQ_q (Q_load rfl TI.h hst2 hsz2) rfl ?_ | (refine VO_bare rfl rfl rfl rfl ?_; refine VO_q (Q_load rfl TI.h hst2 hsz2) rfl ?_) | refine VQ_run rfl rfl rfl rfl (Q_load rfl TI.h hst2 hsz2) rfl ?_)
    (first | refine VO_q (Q_call rfl (ih _ hmem _ hmev) (by (repeat (first | exact trivial | exact rfl | exact ⟨_, rfl⟩ | refine And.intro ?_ ?_)); first | done | fail)) rfl ?_ | refine VQ_q (Q_call rfl (ih _ hmem _ hmev) (by (repeat (first | exact trivial | exact rfl | exact ⟨_, rfl⟩ | refine And.intro ?_ ?_)); first | done | fail)) rfl ?_ | (refine VO_bare rfl rfl rfl rfl ?_; refine VO_q (Q_call rfl (ih _ hmem _ hmev) (by (repeat (first | exact trivial | exact rfl | exact ⟨_, rfl⟩ | refine And.intro ?_ ?_)); first | done | fail)) rfl ?_) | refine VQ_run rfl rfl rfl rfl (Q_call rfl (ih _ hmem _ hmev) (by (repeat (first | exact trivial | exact rfl | exact ⟨_, rfl⟩ | refine And.intro ?_ ?_)); first | done | fail)) rfl ?_)
    repeat (first | refine VO_d ?_ | refine VQ_d ?_)
    (first | refine VO_nil ?_ | refine VQ_nil ?_)
    refine V_cond rfl (fun hc3 => ?_) (fun hc3 => ?_)
    · (first | refine V_seq_region ?_ | refine V_seq (V_seq_region ?_) | refine V_seq_draw tmix (by kernel_rfl) ?_ | refine V_seq (V_seq_draw tmix (by kernel_rfl) ?_) | refine V_region ?_ | refine V_draw tmix (by kernel_rfl) ?_)
      repeat refine VO_d ?_
      (first | refine VO_nil ?_ | refine VQ_nil ?_)
      refine V_ret ?_
      exact ⟨trivial, ⟨_, rfl, congrArg U.b (deq_false.2 (by intro h; injection h with _ h; subst h; rw [deq_self] at hc3; cases hc3)).symm⟩, trivial⟩
    refine V_skip ?_
    have heq : us[k] = vs[k] := deq_true.1 (by simpa using hc3)
    (first | refine V_seq_region ?_ | refine V_seq (V_seq_region ?_) | refine V_seq_draw tmix (by kernel_rfl) ?_ | refine V_seq (V_seq_draw tmix (by kernel_rfl) ?_) | refine V_region ?_ | refine V_draw tmix (by kernel_rfl) ?_)
    repeat refine VO_d ?_
    (first | refine VO_nil ?_ | refine VQ_nil ?_)
    refine ⟨k + 1, ⟨by omega, fun j hj => ?_⟩, by omega, ⟨rfl, ⟨⟨rfl, rfl⟩, ⟨rfl, rfl⟩, ⟨rfl, rfl⟩, trivial⟩, ⟨[], rfl⟩, rfl⟩⟩
    by_cases hjk : j = k
    · subst hjk; rw [hget, hgev, heq]
    · exact hsame j (by omega)
  · refine V_exit ?_
    simp only [decide_eq_false_iff_not] at hc2
    have hkl : k = us.length := by omega
    subst hkl
    have hall : us = vs := by
      apply List.ext_getElem?
      intro j
      by_cases hj : j < us.length
      · exact hsame j hj
      · rw [List.getElem?_eq_none (by omega), List.getElem?_eq_none (by omega)]
    show V _ _ _ _ _
    (first | refine V_seq_region ?_ | refine V_seq (V_seq_region ?_) | refine V_seq_draw tmix (by kernel_rfl) ?_ | refine V_seq (V_seq_draw tmix (by kernel_rfl) ?_) | refine V_region ?_ | refine V_draw tmix (by kernel_rfl) ?_)
    repeat refine VO_d ?_
    (first | refine VO_nil ?_ | refine VQ_nil ?_)
    refine V_ret ?_
    exact ⟨trivial, ⟨_, rfl, congrArg U.b (deq_true.2 (by rw [hall])).symm⟩, trivial⟩

theorem eqType_grp (u : U) : (∀ v, wt (.st 1) u → wt (.st 1) v → PEq 12 u v) := by
  refine U.ind (M := fun u => (∀ v, wt (.st 1) u → wt (.st 1) v → PEq 12 u v)) (fun u ih => ?_) u
  refine ?_
  · intro v h h2
    obtain ⟨f0, f1, f2, rfl, p0, p1, p2⟩ := inv_Type h
    obtain ⟨d0, d1, d2, rfl, q0, q1, q2⟩ := inv_Type h2
    exact eqType_step p1 q1 (eqTypeS_step p2.1 q2.1 (fun a ha => ⟨wt_isSt (p2.2 a ha), by rw [wt_sz a _ (p2.2 a ha)]; rfl⟩) (fun a ha => ⟨wt_isSt (q2.2 a ha), by rw [wt_sz a _ (q2.2 a ha)]; rfl⟩) (fun a ha b hb => (ih a (by have := nn_of_mem ha; simp only [U.nn, U.nns]; omega)) b (p2.2 a ha) (q2.2 b hb)))
theorem eqType_all {u v : U} (h : wt (.st 1) u) (h2 : wt (.st 1) v) : PEq 12 u v := (eqType_grp u) v h h2
theorem eqTypeS_all {us vs : List U} (h : us.length ≤ big ∧ ∀ x ∈ us, wt (.st 1) x) (h2 : vs.length ≤ big ∧ ∀ x ∈ vs, wt (.st 1) x) : PEq 45 (.sl 3 us) (.sl 3 vs) := eqTypeS_step h.1 h2.1 (fun a ha => ⟨wt_isSt (h.2 a ha), by rw [wt_sz a _ (h.2 a ha)]; rfl⟩) (fun a ha => ⟨wt_isSt (h2.2 a ha), by rw [wt_sz a _ (h2.2 a ha)]; rfl⟩) (fun a ha b hb => eqType_all (h.2 a ha) (h2.2 b hb))
end Go.Proofs.Ytbloknibekeedaa
