/- LookupVariable and the copies of types, of the program and of the reference. Written by a program of mine. -/
import Derived.Test.YtjckkahiapjkfaaMarkL
import Derived.Test.YtjckkahiapjkfaaEng29
set_option linter.unusedVariables false
set_option linter.unusedSimpArgs false
namespace Go.Proofs.Ytjckkahiapjkfaa
open Go Go.Eng
attribute [local irreducible] V VO VQ VY Quiet SpecP SpecO MSpec

set_option maxHeartbeats 4000000 in
theorem copyTypes_step {us : List U} (hz : ∀ a ∈ us, wt (.st 1) a) (ih : ∀ a ∈ us, PToO 34 [26] a) : PToO 76 [26] (.sl 3 us) := by
  intro hw
  have hW : W (.sl 3 us) = us.length + Ws us := rfl
  refine SpecO_intro Try.func76 rfl (by kernel_rfl) rfl (by simp) fun A => ?_
  repeat (first | refine VO_d ?_ | refine VQ_d ?_  | (first | refine VO_nil ?_ | refine VQ_nil ?_) | (first | refine V_seq_region ?_ | refine V_seq (V_seq_region ?_) | refine V_seq_draw tmix (by kernel_rfl) ?_ | refine V_seq (V_seq_draw tmix (by kernel_rfl) ?_) | refine V_region ?_ | refine V_draw tmix (by kernel_rfl) ?_))
  refine VR_make rfl rfl TE.h TI.h TZ.h rfl zt_Type (by omega) (by omega) (by rw [big_eq]; omega) (by omega) rfl (by repeat constructor) ?_
  rw [Int.toNat_natCast, fillU_zero]
  repeat (first | refine VO_d ?_ | refine VQ_d ?_  | (first | refine VO_nil ?_ | refine VQ_nil ?_) | (first | refine V_seq_region ?_ | refine V_seq (V_seq_region ?_) | refine V_seq_draw tmix (by kernel_rfl) ?_ | refine V_seq (V_seq_draw tmix (by kernel_rfl) ?_) | refine V_region ?_ | refine V_draw tmix (by kernel_rfl) ?_))
  refine V_block ?_
  refine V_loop (α := Nat)
    (fun k => ⟨[(3, .sl 0 0), (9, .d (.sl 3 us)), (10, .d (.i .i64 us.length)), (11, .d (.i .i64 k))], [.own 26 3 0 (fillU us (.st [.i .i64 0, .s [], .sl 3 []]) k)], Try.f76.ntmps⟩)
    (fun k => k ≤ us.length)
    (fun k => us.length - k) 0 ⟨rfl, ⟨⟨rfl, rfl⟩, ⟨rfl, rfl⟩, ⟨rfl, rfl⟩, ⟨rfl, rfl⟩, trivial⟩, ⟨[], rfl⟩, rfl⟩ (by simp) ?_
  intro k hk
  repeat (first | refine VO_d ?_ | refine VQ_d ?_  | (first | refine VO_nil ?_ | refine VQ_nil ?_) | (first | refine V_seq_region ?_ | refine V_seq (V_seq_region ?_) | refine V_seq_draw tmix (by kernel_rfl) ?_ | refine V_seq (V_seq_draw tmix (by kernel_rfl) ?_) | refine V_region ?_ | refine V_draw tmix (by kernel_rfl) ?_))
  (first | refine V_cond rfl (fun hc2 => ?_) (fun hc2 => ?_) | refine V_seq (V_cond rfl (fun hc2 => ?_) (fun hc2 => ?_)))
  · refine V_skip ?_
    simp only [decide_eq_true_eq] at hc2
    have hkl : k < us.length := by omega
    obtain ⟨a, hget⟩ : ∃ a, us[k]? = some a := ⟨_, List.getElem?_eq_getElem hkl⟩
    have hmem := List.mem_of_getElem? hget
    have hwk := W_le_of_mem hmem
    have hfl : (fillU us (.st [.i .i64 0, .s [], .sl 3 []]) k).length = us.length := fillU_length hk
    have hset := fillU_set (zu := .st [.i .i64 0, .s [], .sl 3 []]) hget
    have hcall := ih a hmem (by omega)
    have hwa := hz a hmem
    obtain ⟨a_0, a_1, a_2, rfl, hwa_0, hwa_1, hwa_2⟩ := inv_Type hwa
    refine V_seq (V_block ?_)
    repeat (first | refine VO_d ?_ | refine VQ_d ?_ | (first | refine VO_q (Q_index rfl rfl TE.h TI.h (by omega) hget) rfl ?_ | refine VQ_q (Q_index rfl rfl TE.h TI.h (by omega) hget) rfl ?_ | (refine VO_bare rfl rfl rfl rfl ?_; refine VO_q (Q_index rfl rfl TE.h TI.h (by omega) hget) rfl ?_) | refine VQ_run rfl rfl rfl rfl (Q_index rfl rfl TE.h TI.h (by omega) hget) rfl ?_) | (first | refine VO_nil ?_ | refine VQ_nil ?_) | (first | refine V_seq_region ?_ | refine V_seq (V_seq_region ?_) | refine V_seq_draw tmix (by kernel_rfl) ?_ | refine V_seq (V_seq_draw tmix (by kernel_rfl) ?_) | refine V_region ?_ | refine V_draw tmix (by kernel_rfl) ?_))
    refine VO_callO rfl hcall (by repeat (first | exact trivial | exact rfl | exact ⟨_, rfl⟩ | refine And.intro ?_ ?_)) (by repeat constructor) (by repeat (first | exact rfl | constructor)) (by repeat constructor) rfl ?_
    repeat (first | refine VO_d ?_ | refine VQ_d ?_ | (first | refine VO_q (Q_index_own rfl rfl .own rfl TE.h TI.h (by omega) (by omega)) rfl ?_ | refine VQ_q (Q_index_own rfl rfl .own rfl TE.h TI.h (by omega) (by omega)) rfl ?_ | (refine VO_bare rfl rfl rfl rfl ?_; refine VO_q (Q_index_own rfl rfl .own rfl TE.h TI.h (by omega) (by omega)) rfl ?_) | refine VQ_run rfl rfl rfl rfl (Q_index_own rfl rfl .own rfl TE.h TI.h (by omega) (by omega)) rfl ?_) | (first | refine VO_nil ?_ | refine VQ_nil ?_) | (first | refine V_seq_region ?_ | refine V_seq (V_seq_region ?_) | refine V_seq_draw tmix (by kernel_rfl) ?_ | refine V_seq (V_seq_draw tmix (by kernel_rfl) ?_) | refine V_region ?_ | refine V_draw tmix (by kernel_rfl) ?_))
    refine VR_store (u := .st [.i .i64 a_0, .s a_1, .sl 3 a_2]) rfl rfl (by repeat (first | exact rfl | constructor)) (by decide) TI.h rfl (by omega) (by repeat constructor) (by repeat constructor) ?_
    rw [Int.toNat_natCast, hset]
    repeat (first | refine VO_d ?_ | refine VQ_d ?_  | (first | refine VO_nil ?_ | refine VQ_nil ?_) | (first | refine V_seq_region ?_ | refine V_seq (V_seq_region ?_) | refine V_seq_draw tmix (by kernel_rfl) ?_ | refine V_seq (V_seq_draw tmix (by kernel_rfl) ?_) | refine V_region ?_ | refine V_draw tmix (by kernel_rfl) ?_))
    refine ⟨k + 1, by omega, by omega, ⟨rfl, ⟨⟨rfl, rfl⟩, ⟨rfl, rfl⟩, ⟨rfl, rfl⟩, ⟨rfl, rfl⟩, trivial⟩, ⟨_, rfl⟩, rfl⟩⟩
  · refine V_exit ?_
    simp only [decide_eq_false_iff_not] at hc2
    have hkl : k = us.length := by omega
    subst hkl
    show V _ _ _ _ _
    repeat (first | refine VO_d ?_ | refine VQ_d ?_  | (first | refine VO_nil ?_ | refine VQ_nil ?_) | (first | refine V_seq_region ?_ | refine V_seq (V_seq_region ?_) | refine V_seq_draw tmix (by kernel_rfl) ?_ | refine V_seq (V_seq_draw tmix (by kernel_rfl) ?_) | refine V_region ?_ | refine V_draw tmix (by kernel_rfl) ?_))
    refine V_cast [.own 26 3 0 us] (by rw [fillU_all]) ?_
    refine V_ret ?_
    exact ⟨trivial, _, (by repeat (first | exact rfl | exact ResV_ag rfl rfl TI.h rfl rfl | exact ResV_one rfl rfl TI.h rfl | constructor)), by decide⟩

set_option maxHeartbeats 4000000 in
theorem copyType_step {f0 : Int} {f1 : List UInt8} {f2 : List U} (h1 : f1.length ≤ big) (h2 : PToO 76 [26] (.sl 3 f2)) : PToO 34 [26] (.st [.i .i64 f0, .s f1, .sl 3 f2]) := by
  intro hw
  have hW : W (.st [.i .i64 f0, .s f1, .sl 3 f2]) = 0 + (f1.length + (W (.sl 3 f2) + 0)) := rfl
  have c2 := h2 (by omega)
  clear h2 hW hw
  refine SpecO_intro Try.func34 rfl (by kernel_rfl) rfl (by simp) fun A => ?_
  repeat (first | refine VO_d ?_ | refine VQ_d ?_  | (first | refine VO_nil ?_ | refine VQ_nil ?_) | (first | refine V_seq_region ?_ | refine V_seq (V_seq_region ?_) | refine V_seq_draw tmix (by kernel_rfl) ?_ | refine V_seq (V_seq_draw tmix (by kernel_rfl) ?_) | refine V_region ?_ | refine V_draw tmix (by kernel_rfl) ?_))
  refine VO_callO rfl c2 (by repeat (first | exact trivial | exact rfl | exact ⟨_, rfl⟩ | refine And.intro ?_ ?_)) (by repeat constructor) (by repeat (first | exact rfl | constructor)) (by repeat constructor) rfl ?_
  repeat (first | refine VO_d ?_ | refine VQ_d ?_  | (first | refine VO_nil ?_ | refine VQ_nil ?_) | (first | refine V_seq_region ?_ | refine V_seq (V_seq_region ?_) | refine V_seq_draw tmix (by kernel_rfl) ?_ | refine V_seq (V_seq_draw tmix (by kernel_rfl) ?_) | refine V_region ?_ | refine V_draw tmix (by kernel_rfl) ?_))
  refine V_ret ?_
  exact ⟨trivial, _, (by repeat (first | exact rfl | exact ResV_ag rfl rfl TI.h rfl rfl | exact ResV_one rfl rfl TI.h rfl | constructor)), by decide⟩

theorem copyType_grp (u : U) : wt (.st 1) u → PToO 34 [26] u := by
  refine U.ind (M := fun u => wt (.st 1) u → PToO 34 [26] u) (fun u ih h => ?_) u
  obtain ⟨f0, f1, f2, rfl, p0, p1, p2⟩ := inv_Type h
  exact copyType_step p1 (copyTypes_step p2.2 (fun a ha => ih a (by have := nn_of_mem ha; simp only [U.nn, U.nns]; omega) (p2.2 a ha)))
theorem copyType_all {u : U} (h : wt (.st 1) u) : PToO 34 [26] u := copyType_grp u h
theorem copyTypeS_all {us : List U} (h : us.length ≤ big ∧ ∀ x ∈ us, wt (.st 1) x) : PToO 76 [26] (.sl 3 us) := copyTypes_step h.2 (fun a ha => copyType_all (h.2 a ha))

set_option maxHeartbeats 4000000 in
theorem l4Copies_step {us : List U} (hz : ∀ a ∈ us, wt (.st 1) a) (ih : ∀ a ∈ us, PToO 32 [26] a) : PToO 75 [26] (.sl 3 us) := by
  intro hw
  have hW : W (.sl 3 us) = us.length + Ws us := rfl
  refine SpecO_intro Try.func75 rfl (by kernel_rfl) rfl (by simp) fun A => ?_
  repeat (first | refine VO_d ?_ | refine VQ_d ?_  | (first | refine VO_nil ?_ | refine VQ_nil ?_) | (first | refine V_seq_region ?_ | refine V_seq (V_seq_region ?_) | refine V_seq_draw tmix (by kernel_rfl) ?_ | refine V_seq (V_seq_draw tmix (by kernel_rfl) ?_) | refine V_region ?_ | refine V_draw tmix (by kernel_rfl) ?_))
  refine VO_slit0 TE.h TI.h rfl (by repeat constructor) ?_
  repeat (first | refine VO_d ?_ | refine VQ_d ?_  | (first | refine VO_nil ?_ | refine VQ_nil ?_) | (first | refine V_seq_region ?_ | refine V_seq (V_seq_region ?_) | refine V_seq_draw tmix (by kernel_rfl) ?_ | refine V_seq (V_seq_draw tmix (by kernel_rfl) ?_) | refine V_region ?_ | refine V_draw tmix (by kernel_rfl) ?_))
  refine V_block ?_
  refine V_loop (α := Nat)
    (fun k => ⟨[(0, .d (.sl 3 us)), (3, .sl 0 k), (4, .d (.i .i64 k))], [.own 26 3 k (us.take k)], Try.f75.ntmps⟩)
    (fun k => k ≤ us.length)
    (fun k => us.length - k) 0 ⟨rfl, ⟨⟨rfl, rfl⟩, ⟨rfl, rfl⟩, ⟨rfl, rfl⟩, trivial⟩, ⟨[], rfl⟩, rfl⟩ (by simp) ?_
  intro k hk
  repeat (first | refine VO_d ?_ | refine VQ_d ?_  | (first | refine VO_nil ?_ | refine VQ_nil ?_) | (first | refine V_seq_region ?_ | refine V_seq (V_seq_region ?_) | refine V_seq_draw tmix (by kernel_rfl) ?_ | refine V_seq (V_seq_draw tmix (by kernel_rfl) ?_) | refine V_region ?_ | refine V_draw tmix (by kernel_rfl) ?_))
  (first | refine V_cond rfl (fun hc2 => ?_) (fun hc2 => ?_) | refine V_seq (V_cond rfl (fun hc2 => ?_) (fun hc2 => ?_)))
  · refine V_skip ?_
    simp only [decide_eq_true_eq] at hc2
    have hkl : k < us.length := by omega
    obtain ⟨a, hget⟩ : ∃ a, us[k]? = some a := ⟨_, List.getElem?_eq_getElem hkl⟩
    have hmem := List.mem_of_getElem? hget
    have hwk := W_le_of_mem hmem
    have htk : (us.take k).length = k := by simp; omega
    have hnext := take_get hget
    have hcall := ih a hmem (by omega)
    have hwa := hz a hmem
    obtain ⟨a_0, a_1, a_2, rfl, hwa_0, hwa_1, hwa_2⟩ := inv_Type hwa
    refine V_seq (V_block ?_)
    repeat (first | refine VO_d ?_ | refine VQ_d ?_ | (first | refine VO_q (Q_index rfl rfl TE.h TI.h (by omega) hget) rfl ?_ | refine VQ_q (Q_index rfl rfl TE.h TI.h (by omega) hget) rfl ?_ | (refine VO_bare rfl rfl rfl rfl ?_; refine VO_q (Q_index rfl rfl TE.h TI.h (by omega) hget) rfl ?_) | refine VQ_run rfl rfl rfl rfl (Q_index rfl rfl TE.h TI.h (by omega) hget) rfl ?_) | (first | refine VO_nil ?_ | refine VQ_nil ?_) | (first | refine V_seq_region ?_ | refine V_seq (V_seq_region ?_) | refine V_seq_draw tmix (by kernel_rfl) ?_ | refine V_seq (V_seq_draw tmix (by kernel_rfl) ?_) | refine V_region ?_ | refine V_draw tmix (by kernel_rfl) ?_))
    refine VO_callO rfl hcall (by repeat (first | exact trivial | exact rfl | exact ⟨_, rfl⟩ | refine And.intro ?_ ?_)) (by repeat constructor) (by repeat (first | exact rfl | constructor)) (by repeat constructor) rfl ?_
    repeat (first | refine VO_d ?_ | refine VQ_d ?_  | (first | refine VO_nil ?_ | refine VQ_nil ?_) | (first | refine V_seq_region ?_ | refine V_seq (V_seq_region ?_) | refine V_seq_draw tmix (by kernel_rfl) ?_ | refine V_seq (V_seq_draw tmix (by kernel_rfl) ?_) | refine V_region ?_ | refine V_draw tmix (by kernel_rfl) ?_))
    refine VR_slit1 (u := .st [.i .i64 a_0, .s a_1, .sl 3 a_2]) (by repeat (first | exact rfl | constructor)) (by decide) TE.h TI.h TZ.h rfl rfl rfl (by repeat constructor) (by repeat constructor) ?_
    refine VR_append rfl rfl (.own rfl) (by decide) TE.h TI.h TZ.h rfl (by rw [big_eq, htk]; simp only [List.length_cons, List.length_nil]; omega) (by rw [htk]; simp only [List.length_cons, List.length_nil]; omega) rfl (by repeat constructor) (by repeat constructor) ?_
    rw [← hnext]
    repeat (first | refine VO_d ?_ | refine VQ_d ?_  | (first | refine VO_nil ?_ | refine VQ_nil ?_) | (first | refine V_seq_region ?_ | refine V_seq (V_seq_region ?_) | refine V_seq_draw tmix (by kernel_rfl) ?_ | refine V_seq (V_seq_draw tmix (by kernel_rfl) ?_) | refine V_region ?_ | refine V_draw tmix (by kernel_rfl) ?_))
    refine ⟨k + 1, by omega, by omega, ⟨rfl, ⟨⟨rfl, rfl⟩, ⟨rfl, rfl⟩, ⟨rfl, rfl⟩, trivial⟩, ⟨_, rfl⟩, rfl⟩⟩
  · refine V_exit ?_
    simp only [decide_eq_false_iff_not] at hc2
    have hkl : k = us.length := by omega
    subst hkl
    show V _ _ _ _ _
    repeat (first | refine VO_d ?_ | refine VQ_d ?_  | (first | refine VO_nil ?_ | refine VQ_nil ?_) | (first | refine V_seq_region ?_ | refine V_seq (V_seq_region ?_) | refine V_seq_draw tmix (by kernel_rfl) ?_ | refine V_seq (V_seq_draw tmix (by kernel_rfl) ?_) | refine V_region ?_ | refine V_draw tmix (by kernel_rfl) ?_))
    refine V_cast [.own 26 3 us.length us] (by rw [List.take_length]) ?_
    refine V_ret ?_
    exact ⟨trivial, _, (by repeat (first | exact rfl | exact ResV_ag rfl rfl TI.h rfl rfl | exact ResV_one rfl rfl TI.h rfl | constructor)), by decide⟩

set_option maxHeartbeats 4000000 in
theorem l4Copy_step {f0 : Int} {f1 : List UInt8} {f2 : List U} (h1 : f1.length ≤ big) (h2 : PToO 75 [26] (.sl 3 f2)) : PToO 32 [26] (.st [.i .i64 f0, .s f1, .sl 3 f2]) := by
  intro hw
  have hW : W (.st [.i .i64 f0, .s f1, .sl 3 f2]) = 0 + (f1.length + (W (.sl 3 f2) + 0)) := rfl
  have c2 := h2 (by omega)
  clear h2 hW hw
  refine SpecO_intro Try.func32 rfl (by kernel_rfl) rfl (by simp) fun A => ?_
  repeat (first | refine VO_d ?_  | refine VO_nil ?_ | refine V_seq_region ?_ | refine V_seq (V_seq_region ?_) | refine V_region ?_)
  (first | refine V_seq_drawX tmix [(0, true), (1, true), (2, true), (3, true), (4, true), (5, true), (6, false), (7, true), (8, false)] (by kernel_rfl) ?_ | refine V_drawX tmix [(0, true), (1, true), (2, true), (3, true), (4, true), (5, true), (6, false), (7, true), (8, false)] (by kernel_rfl) ?_ | refine V_seq (V_seq_drawX tmix [(0, true), (1, true), (2, true), (3, true), (4, true), (5, true), (6, false), (7, true), (8, false)] (by kernel_rfl) ?_))
  repeat (first | refine VY_d rfl ?_ | refine VY_h rfl (by repeat constructor) (by repeat (first | exact PfOk.nil | (apply PfOk.keep; focus ((repeat constructor); done)) | (apply PfOk.dep; focus kernel_rfl))) ?_)
  refine VY_hst rfl (HSt_callO rfl c2 (by repeat (first | exact trivial | exact rfl | exact ⟨_, rfl⟩ | refine And.intro ?_ ?_)) (by repeat constructor) (by repeat (first | exact rfl | constructor)) (by repeat constructor) rfl) (by repeat (first | exact PfOk.nil | (apply PfOk.keep; focus ((repeat constructor); done)) | (apply PfOk.dep; focus kernel_rfl))) ?_
  repeat (first | refine VY_d rfl ?_ | refine VY_h rfl (by repeat constructor) (by repeat (first | exact PfOk.nil | (apply PfOk.keep; focus ((repeat constructor); done)) | (apply PfOk.dep; focus kernel_rfl))) ?_)
  refine VY_nil ?_
  refine V_ret ?_
  exact ⟨trivial, _, (by repeat (first | exact rfl | exact ResV_ag rfl rfl TI.h rfl rfl | exact ResV_one rfl rfl TI.h rfl | constructor)), by decide⟩

theorem l4Copy_grp (u : U) : wt (.st 1) u → PToO 32 [26] u := by
  refine U.ind (M := fun u => wt (.st 1) u → PToO 32 [26] u) (fun u ih h => ?_) u
  obtain ⟨f0, f1, f2, rfl, p0, p1, p2⟩ := inv_Type h
  exact l4Copy_step p1 (l4Copies_step p2.2 (fun a ha => ih a (by have := nn_of_mem ha; simp only [U.nn, U.nns]; omega) (p2.2 a ha)))
theorem l4Copy_all {u : U} (h : wt (.st 1) u) : PToO 32 [26] u := l4Copy_grp u h
theorem l4CopyS_all {us : List U} (h : us.length ≤ big ∧ ∀ x ∈ us, wt (.st 1) x) : PToO 75 [26] (.sl 3 us) := l4Copies_step h.2 (fun a ha => l4Copy_all (h.2 a ha))

/-- The last entry of this name. -/
def lookP (nm : List UInt8) : List U → Nat → U × Bool
  | _, 0 => (.st [.i .i64 0, .s [], .sl 3 []], false)
  | us, k + 1 => match us[k]? with
    | some (.st [.s n, t]) => if n == nm then (t, true) else lookP nm us k
    | _ => lookP nm us k

set_option maxHeartbeats 4000000 in
theorem implLook {us : List U} {nm : List UInt8} (h : us.length ≤ big ∧ ∀ x ∈ us, wt (.st 12) x) (hn : nm.length ≤ big) (hw : W (.sl 4 us) ≤ 1048576) : SpecO Try.prog 9 [.d (.sl 4 us), .d (.s nm)] [26] [(lookP nm us us.length).1, .b (lookP nm us us.length).2] := by
  have hW : W (.sl 4 us) = us.length + Ws us := rfl
  obtain ⟨res, hres⟩ : ∃ res, lookP nm us us.length = res := ⟨_, rfl⟩
  rw [hres]
  obtain ⟨hl, hz⟩ := h
  rw [big_eq] at hl
  refine SpecO_intro Try.func9 rfl (by kernel_rfl) rfl (by simp) fun A => ?_
  repeat (first | refine VO_d ?_ | refine VQ_d ?_  | (first | refine VO_nil ?_ | refine VQ_nil ?_) | (first | refine V_seq_region ?_ | refine V_seq (V_seq_region ?_) | refine V_seq_draw tmix (by kernel_rfl) ?_ | refine V_seq (V_seq_draw tmix (by kernel_rfl) ?_) | refine V_region ?_ | refine V_draw tmix (by kernel_rfl) ?_))
  refine V_block ?_
  refine V_loop (α := Nat)
    (fun k => ⟨[(0, .d (.sl 4 us)), (1, .d (.s nm)), (4, .ptr 0 0), (6, .d (.i .i64 ((k : Int) - 1)))], [.box [.d (.i .i64 0), .d (.s []), .nilsl]], Try.f9.ntmps⟩)
    (fun k => k ≤ us.length ∧ lookP nm us k = res)
    (fun k => k) us.length ⟨rfl, ⟨⟨rfl, rfl⟩, ⟨rfl, rfl⟩, ⟨rfl, rfl⟩, ⟨rfl, rfl⟩, trivial⟩, ⟨[], rfl⟩, rfl⟩ ⟨Nat.le_refl _, hres⟩ ?_
  rintro k ⟨hk, hlk⟩
  repeat (first | refine VO_d ?_ | refine VQ_d ?_  | (first | refine VO_nil ?_ | refine VQ_nil ?_) | (first | refine V_seq_region ?_ | refine V_seq (V_seq_region ?_) | refine V_seq_draw tmix (by kernel_rfl) ?_ | refine V_seq (V_seq_draw tmix (by kernel_rfl) ?_) | refine V_region ?_ | refine V_draw tmix (by kernel_rfl) ?_))
  (first | refine V_cond rfl (fun hc2 => ?_) (fun hc2 => ?_) | refine V_seq (V_cond rfl (fun hc2 => ?_) (fun hc2 => ?_)))
  · refine V_skip ?_
    simp only [ge_iff_le, decide_eq_true_eq] at hc2
    obtain ⟨m, rfl⟩ : ∃ m, k = m + 1 := ⟨k - 1, by omega⟩
    have hm : ((m + 1 : Nat) : Int) - 1 = (m : Int) := by omega
    rw [hm]
    clear hm hc2
    obtain ⟨a, hget⟩ : ∃ a, us[m]? = some a := ⟨_, List.getElem?_eq_getElem (by omega)⟩
    have hmem := List.mem_of_getElem? hget
    have hwa := hz a hmem
    have hwk := W_le_of_mem hmem
    obtain ⟨n, t, rfl, hn0, ht⟩ := inv_Param hwa
    have hcall := copyType_all ht (by have : W (.st [.s n, t]) = n.length + (W t + 0) := rfl; omega)
    obtain ⟨t0, t1, t2, rfl, q0, q1, q2⟩ := inv_Type ht
    unfold lookP at hlk
    rw [hget] at hlk
    simp only at hlk
    refine V_seq (V_block ?_)
    repeat (first | refine VO_d ?_ | refine VQ_d ?_ | (first | refine VO_q (Q_index rfl rfl TE.h TI.h (by omega) hget) rfl ?_ | refine VQ_q (Q_index rfl rfl TE.h TI.h (by omega) hget) rfl ?_ | (refine VO_bare rfl rfl rfl rfl ?_; refine VO_q (Q_index rfl rfl TE.h TI.h (by omega) hget) rfl ?_) | refine VQ_run rfl rfl rfl rfl (Q_index rfl rfl TE.h TI.h (by omega) hget) rfl ?_) | (first | refine VO_nil ?_ | refine VQ_nil ?_) | (first | refine V_seq_region ?_ | refine V_seq (V_seq_region ?_) | refine V_seq_draw tmix (by kernel_rfl) ?_ | refine V_seq (V_seq_draw tmix (by kernel_rfl) ?_) | refine V_region ?_ | refine V_draw tmix (by kernel_rfl) ?_))
    (first | refine V_cond rfl (fun hc3 => ?_) (fun hc3 => ?_) | refine V_seq (V_cond rfl (fun hc3 => ?_) (fun hc3 => ?_)))
    · rw [if_pos hc3] at hlk
      subst hlk
      repeat (first | refine VO_d ?_ | refine VQ_d ?_ | (first | refine VO_q (Q_index rfl rfl TE.h TI.h (by omega) hget) rfl ?_ | refine VQ_q (Q_index rfl rfl TE.h TI.h (by omega) hget) rfl ?_ | (refine VO_bare rfl rfl rfl rfl ?_; refine VO_q (Q_index rfl rfl TE.h TI.h (by omega) hget) rfl ?_) | refine VQ_run rfl rfl rfl rfl (Q_index rfl rfl TE.h TI.h (by omega) hget) rfl ?_) | (first | refine VO_nil ?_ | refine VQ_nil ?_) | (first | refine V_seq_region ?_ | refine V_seq (V_seq_region ?_) | refine V_seq_draw tmix (by kernel_rfl) ?_ | refine V_seq (V_seq_draw tmix (by kernel_rfl) ?_) | refine V_region ?_ | refine V_draw tmix (by kernel_rfl) ?_))
      refine VO_callO rfl hcall (by repeat (first | exact trivial | exact rfl | exact ⟨_, rfl⟩ | refine And.intro ?_ ?_)) (by repeat constructor) (by repeat (first | exact rfl | constructor)) (by repeat constructor) rfl ?_
      repeat (first | refine VO_d ?_ | refine VQ_d ?_  | (first | refine VO_nil ?_ | refine VQ_nil ?_) | (first | refine V_seq_region ?_ | refine V_seq (V_seq_region ?_) | refine V_seq_draw tmix (by kernel_rfl) ?_ | refine V_seq (V_seq_draw tmix (by kernel_rfl) ?_) | refine V_region ?_ | refine V_draw tmix (by kernel_rfl) ?_))
      refine V_ret ?_
      exact ⟨trivial, _, (by repeat (first | exact rfl | exact ResV_ag rfl rfl TI.h rfl rfl | exact ResV_one rfl rfl TI.h rfl | constructor)), by decide⟩

    rw [if_neg (by rw [hc3]; simp)] at hlk
    refine V_skip ?_
    repeat (first | refine VO_d ?_ | refine VQ_d ?_  | (first | refine VO_nil ?_ | refine VQ_nil ?_) | (first | refine V_seq_region ?_ | refine V_seq (V_seq_region ?_) | refine V_seq_draw tmix (by kernel_rfl) ?_ | refine V_seq (V_seq_draw tmix (by kernel_rfl) ?_) | refine V_region ?_ | refine V_draw tmix (by kernel_rfl) ?_))
    refine ⟨m, ⟨by omega, hlk⟩, by omega, ⟨rfl, ⟨⟨rfl, rfl⟩, ⟨rfl, rfl⟩, ⟨rfl, rfl⟩, ⟨rfl, rfl⟩, trivial⟩, ⟨_, rfl⟩, rfl⟩⟩
  · refine V_exit ?_
    simp only [ge_iff_le, decide_eq_false_iff_not] at hc2
    have hk0 : k = 0 := by omega
    subst hk0
    unfold lookP at hlk
    subst hlk
    show V _ _ _ _ _
    repeat (first | refine VO_d ?_ | refine VQ_d ?_ | (first | refine VO_q (Q_build TBd.h TZ.h rfl (by repeat constructor)) rfl ?_ | refine VQ_q (Q_build TBd.h TZ.h rfl (by repeat constructor)) rfl ?_ | (refine VO_bare rfl rfl rfl rfl ?_; refine VO_q (Q_build TBd.h TZ.h rfl (by repeat constructor)) rfl ?_) | refine VQ_run rfl rfl rfl rfl (Q_build TBd.h TZ.h rfl (by repeat constructor)) rfl ?_) | (first | refine VO_nil ?_ | refine VQ_nil ?_) | (first | refine V_seq_region ?_ | refine V_seq (V_seq_region ?_) | refine V_seq_draw tmix (by kernel_rfl) ?_ | refine V_seq (V_seq_draw tmix (by kernel_rfl) ?_) | refine V_region ?_ | refine V_draw tmix (by kernel_rfl) ?_))
    refine V_adopt 26 3 0 2 rfl rfl (by repeat constructor) (by repeat constructor) (by repeat constructor) (by repeat constructor) ?_
    refine V_ret ?_
    exact ⟨trivial, _, (by repeat (first | exact rfl | exact ResV_ag rfl rfl TI.h rfl rfl | exact ResV_one rfl rfl TI.h rfl | constructor)), by decide⟩

set_option maxHeartbeats 4000000 in
theorem specLook {us : List U} {nm : List UInt8} (h : us.length ≤ big ∧ ∀ x ∈ us, wt (.st 12) x) (hn : nm.length ≤ big) (hw : W (.sl 4 us) ≤ 1048576) : SpecO Try.prog 7 [.d (.sl 4 us), .d (.s nm)] [26] [(lookP nm us us.length).1, .b (lookP nm us us.length).2] := by
  have hW : W (.sl 4 us) = us.length + Ws us := rfl
  obtain ⟨res, hres⟩ : ∃ res, lookP nm us us.length = res := ⟨_, rfl⟩
  rw [hres]
  obtain ⟨hl, hz⟩ := h
  rw [big_eq] at hl
  refine SpecO_intro Try.func7 rfl (by kernel_rfl) rfl (by simp) fun A => ?_
  repeat (first | refine VO_d ?_ | refine VQ_d ?_  | (first | refine VO_nil ?_ | refine VQ_nil ?_) | (first | refine V_seq_region ?_ | refine V_seq (V_seq_region ?_) | refine V_seq_draw tmix (by kernel_rfl) ?_ | refine V_seq (V_seq_draw tmix (by kernel_rfl) ?_) | refine V_region ?_ | refine V_draw tmix (by kernel_rfl) ?_))
  refine V_block ?_
  refine V_loop (α := Nat)
    (fun k => ⟨[(0, .d (.sl 4 us)), (1, .d (.s nm)), (4, .ptr 0 0), (6, .d (.i .i64 ((k : Int) - 1)))], [.box [.d (.i .i64 0), .d (.s []), .nilsl]], Try.f7.ntmps⟩)
    (fun k => k ≤ us.length ∧ lookP nm us k = res)
    (fun k => k) us.length ⟨rfl, ⟨⟨rfl, rfl⟩, ⟨rfl, rfl⟩, ⟨rfl, rfl⟩, ⟨rfl, rfl⟩, trivial⟩, ⟨[], rfl⟩, rfl⟩ ⟨Nat.le_refl _, hres⟩ ?_
  rintro k ⟨hk, hlk⟩
  repeat (first | refine VO_d ?_ | refine VQ_d ?_  | (first | refine VO_nil ?_ | refine VQ_nil ?_) | (first | refine V_seq_region ?_ | refine V_seq (V_seq_region ?_) | refine V_seq_draw tmix (by kernel_rfl) ?_ | refine V_seq (V_seq_draw tmix (by kernel_rfl) ?_) | refine V_region ?_ | refine V_draw tmix (by kernel_rfl) ?_))
  (first | refine V_cond rfl (fun hc2 => ?_) (fun hc2 => ?_) | refine V_seq (V_cond rfl (fun hc2 => ?_) (fun hc2 => ?_)))
  · refine V_skip ?_
    simp only [ge_iff_le, decide_eq_true_eq] at hc2
    obtain ⟨m, rfl⟩ : ∃ m, k = m + 1 := ⟨k - 1, by omega⟩
    have hm : ((m + 1 : Nat) : Int) - 1 = (m : Int) := by omega
    rw [hm]
    clear hm hc2
    obtain ⟨a, hget⟩ : ∃ a, us[m]? = some a := ⟨_, List.getElem?_eq_getElem (by omega)⟩
    have hmem := List.mem_of_getElem? hget
    have hwa := hz a hmem
    have hwk := W_le_of_mem hmem
    obtain ⟨n, t, rfl, hn0, ht⟩ := inv_Param hwa
    have hcall := l4Copy_all ht (by have : W (.st [.s n, t]) = n.length + (W t + 0) := rfl; omega)
    obtain ⟨t0, t1, t2, rfl, q0, q1, q2⟩ := inv_Type ht
    unfold lookP at hlk
    rw [hget] at hlk
    simp only at hlk
    refine V_seq (V_block ?_)
    repeat (first | refine VO_d ?_ | refine VQ_d ?_ | (first | refine VO_q (Q_index rfl rfl TE.h TI.h (by omega) hget) rfl ?_ | refine VQ_q (Q_index rfl rfl TE.h TI.h (by omega) hget) rfl ?_ | (refine VO_bare rfl rfl rfl rfl ?_; refine VO_q (Q_index rfl rfl TE.h TI.h (by omega) hget) rfl ?_) | refine VQ_run rfl rfl rfl rfl (Q_index rfl rfl TE.h TI.h (by omega) hget) rfl ?_) | (first | refine VO_nil ?_ | refine VQ_nil ?_) | (first | refine V_seq_region ?_ | refine V_seq (V_seq_region ?_) | refine V_seq_draw tmix (by kernel_rfl) ?_ | refine V_seq (V_seq_draw tmix (by kernel_rfl) ?_) | refine V_region ?_ | refine V_draw tmix (by kernel_rfl) ?_))
    (first | refine V_cond rfl (fun hc3 => ?_) (fun hc3 => ?_) | refine V_seq (V_cond rfl (fun hc3 => ?_) (fun hc3 => ?_)))
    · rw [if_pos hc3] at hlk
      subst hlk
      repeat (first | refine VO_d ?_ | refine VQ_d ?_ | (first | refine VO_q (Q_index rfl rfl TE.h TI.h (by omega) hget) rfl ?_ | refine VQ_q (Q_index rfl rfl TE.h TI.h (by omega) hget) rfl ?_ | (refine VO_bare rfl rfl rfl rfl ?_; refine VO_q (Q_index rfl rfl TE.h TI.h (by omega) hget) rfl ?_) | refine VQ_run rfl rfl rfl rfl (Q_index rfl rfl TE.h TI.h (by omega) hget) rfl ?_) | (first | refine VO_nil ?_ | refine VQ_nil ?_) | (first | refine V_seq_region ?_ | refine V_seq (V_seq_region ?_) | refine V_seq_draw tmix (by kernel_rfl) ?_ | refine V_seq (V_seq_draw tmix (by kernel_rfl) ?_) | refine V_region ?_ | refine V_draw tmix (by kernel_rfl) ?_))
      refine VO_callO rfl hcall (by repeat (first | exact trivial | exact rfl | exact ⟨_, rfl⟩ | refine And.intro ?_ ?_)) (by repeat constructor) (by repeat (first | exact rfl | constructor)) (by repeat constructor) rfl ?_
      repeat (first | refine VO_d ?_ | refine VQ_d ?_  | (first | refine VO_nil ?_ | refine VQ_nil ?_) | (first | refine V_seq_region ?_ | refine V_seq (V_seq_region ?_) | refine V_seq_draw tmix (by kernel_rfl) ?_ | refine V_seq (V_seq_draw tmix (by kernel_rfl) ?_) | refine V_region ?_ | refine V_draw tmix (by kernel_rfl) ?_))
      refine V_ret ?_
      exact ⟨trivial, _, (by repeat (first | exact rfl | exact ResV_ag rfl rfl TI.h rfl rfl | exact ResV_one rfl rfl TI.h rfl | constructor)), by decide⟩

    rw [if_neg (by rw [hc3]; simp)] at hlk
    refine V_skip ?_
    repeat (first | refine VO_d ?_ | refine VQ_d ?_  | (first | refine VO_nil ?_ | refine VQ_nil ?_) | (first | refine V_seq_region ?_ | refine V_seq (V_seq_region ?_) | refine V_seq_draw tmix (by kernel_rfl) ?_ | refine V_seq (V_seq_draw tmix (by kernel_rfl) ?_) | refine V_region ?_ | refine V_draw tmix (by kernel_rfl) ?_))
    refine ⟨m, ⟨by omega, hlk⟩, by omega, ⟨rfl, ⟨⟨rfl, rfl⟩, ⟨rfl, rfl⟩, ⟨rfl, rfl⟩, ⟨rfl, rfl⟩, trivial⟩, ⟨_, rfl⟩, rfl⟩⟩
  · refine V_exit ?_
    simp only [ge_iff_le, decide_eq_false_iff_not] at hc2
    have hk0 : k = 0 := by omega
    subst hk0
    unfold lookP at hlk
    subst hlk
    show V _ _ _ _ _
    repeat (first | refine VO_d ?_ | refine VQ_d ?_ | (first | refine VO_q (Q_build TBd.h TZ.h rfl (by repeat constructor)) rfl ?_ | refine VQ_q (Q_build TBd.h TZ.h rfl (by repeat constructor)) rfl ?_ | (refine VO_bare rfl rfl rfl rfl ?_; refine VO_q (Q_build TBd.h TZ.h rfl (by repeat constructor)) rfl ?_) | refine VQ_run rfl rfl rfl rfl (Q_build TBd.h TZ.h rfl (by repeat constructor)) rfl ?_) | (first | refine VO_nil ?_ | refine VQ_nil ?_) | (first | refine V_seq_region ?_ | refine V_seq (V_seq_region ?_) | refine V_seq_draw tmix (by kernel_rfl) ?_ | refine V_seq (V_seq_draw tmix (by kernel_rfl) ?_) | refine V_region ?_ | refine V_draw tmix (by kernel_rfl) ?_))
    refine V_adopt 26 3 0 2 rfl rfl (by repeat constructor) (by repeat constructor) (by repeat constructor) (by repeat constructor) ?_
    refine V_ret ?_
    exact ⟨trivial, _, (by repeat (first | exact rfl | exact ResV_ag rfl rfl TI.h rfl rfl | exact ResV_one rfl rfl TI.h rfl | constructor)), by decide⟩

theorem look_ok {us : List U} {nm : List UInt8} (hz : ∀ x ∈ us, wt (.st 12) x) : ∀ k, wt (.st 1) (lookP nm us k).1 ∧ W (lookP nm us k).1 ≤ Ws us
  | 0 => ⟨⟨⟨rfl, by simp [inRange]⟩, by simp [wt], ⟨rfl, by simp, trivial⟩, trivial⟩, by simp [lookP, W, Ws]⟩
  | k + 1 => by
    unfold lookP
    split
    · rename_i n t hget
      have hm := List.mem_of_getElem? hget
      have hw := hz _ hm
      obtain ⟨_, _, hx, _, ht⟩ := inv_Param hw
      cases hx
      split
      · refine ⟨ht, ?_⟩
        have h1 := W_le_of_mem hm
        have h2 : W (.st [.s n, t]) = n.length + (W t + 0) := rfl
        show W t ≤ Ws us
        omega
      · exact look_ok hz k
    · exact look_ok hz k
theorem bothLook {us : List U} {nm : List UInt8} (h : us.length ≤ big ∧ ∀ x ∈ us, wt (.st 12) x) (hn : nm.length ≤ big) : ∃ (r0 : U) (r1 : Bool), wt (.st 1) r0 ∧ (W (.sl 4 us) ≤ 1048576 → SpecP Try.prog 7 [.d (.sl 4 us), .d (.s nm)] [r0, .b r1] ∧ SpecO Try.prog 9 [.d (.sl 4 us), .d (.s nm)] [26] [r0, .b r1] ∧ W r0 ≤ 1048576) := by
  obtain ⟨h1, h2⟩ := look_ok (nm := nm) h.2 us.length
  refine ⟨_, _, h1, fun hw => ⟨(specLook h hn hw).p, implLook h hn hw, ?_⟩⟩
  have hW : W (.sl 4 us) = us.length + Ws us := rfl
  omega

end Go.Proofs.Ytjckkahiapjkfaa
