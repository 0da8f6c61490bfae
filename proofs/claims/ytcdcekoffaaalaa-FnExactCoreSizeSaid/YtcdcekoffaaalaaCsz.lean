/- The program's and the reference's CoreSize. Written by a program of mine. -/
import Derived.Test.YtcdcekoffaaalaaFamC
set_option linter.unusedVariables false
set_option linter.unusedSimpArgs false
namespace Go.Proofs.Ytcdcekoffaaalaa
open Go Go.Eng
attribute [local irreducible] V VO VQ Quiet SpecP
mutual
/-- 1 plus the sizes of all arguments and arm bodies. -/
def csz : U → Nat
  | .st us => cst us
  | _ => 0
def cst : List U → Nat
  | [_, _, b] => csz b
  | [_, _, _, _, _, _, _, a, b] => 1 + csl a + csl b
  | _ => 0
def csl : U → Nat
  | .sl _ us => cszs us
  | _ => 0
def cszs : List U → Nat
  | [] => 0
  | u :: us => csz u + cszs us
end
theorem cszs_append : ∀ (us vs : List U), cszs (us ++ vs) = cszs us + cszs vs
  | [], vs => by simp [cszs]
  | u :: us, vs => by simp [cszs, cszs_append us vs, Nat.add_assoc]
theorem cszs_take_succ {us : List U} {k : Nat} {u : U} (h : us[k]? = some u) : cszs (us.take (k + 1)) = cszs (us.take k) + csz u := by
  obtain ⟨hk, rfl⟩ := List.getElem?_eq_some_iff.1 h
  rw [List.take_succ_eq_append_getElem hk, cszs_append]
  simp [cszs]
theorem cszs_take_le (us : List U) (k : Nat) : cszs (us.take k) ≤ cszs us := by
  have := cszs_append (us.take k) (us.drop k)
  rw [List.take_append_drop] at this
  omega
theorem cszs_le : ∀ (us : List U), (∀ a ∈ us, csz a ≤ 1 + W a) → cszs us ≤ us.length + Ws us
  | [], _ => by simp [cszs]
  | u :: us, h => by
    have h1 := h u (by simp)
    have h2 := cszs_le us (fun a ha => h a (by simp [ha]))
    simp only [cszs, Ws, List.length_cons]
    omega
theorem csz_le (u : U) : csz u ≤ 1 + W u := by
  refine U.ind (M := fun u => csz u ≤ 1 + W u) (fun u ih => ?_) u
  have hl : ∀ a : U, a.nn < u.nn → csl a ≤ W a := by
    intro a ha
    cases a with
    | sl z us =>
      have := cszs_le us (fun a h => ih a (by have := nn_of_mem h; simp only [U.nn] at ha; omega))
      simp only [csl, W]
      exact this
    | _ => simp [csl]
  cases u with
  | st us =>
    simp only [csz, W]
    unfold cst
    split
    · rename_i x y b
      have := ih b (by simp only [U.nn, U.nns]; omega)
      simp only [Ws]; omega
    · rename_i x1 x2 x3 x4 x5 x6 x7 a b
      have h1 := hl a (by simp only [U.nn, U.nns]; omega)
      have h2 := hl b (by simp only [U.nn, U.nns]; omega)
      simp only [Ws]; omega
    · omega
  | _ => simp [csz]
abbrev PCs (f : Nat) (u : U) : Prop := W u ≤ 1048576 → SpecP Try.prog f [.d u] [.i .i64 (csz u)]

set_option maxHeartbeats 8000000 in
theorem specCoreSize (u : U) : wt (.st 21) u → PCs 13 u := by
  refine U.ind (M := fun u => wt (.st 21) u → PCs 13 u) (fun u ih h hW => ?_) u
  obtain ⟨f0, f1, f2, f3, f4, f5, f6, f7, f8, rfl, p0, p1, p2, p3, p4, p5, p6, p7, p8⟩ := inv_Core h
  obtain ⟨t0, t1, t2, rfl, _⟩ := inv_Type p4
  have hc0 : csz (.st [.i .i64 f0, .s f1, .s f2, .i .i64 f3, .st [.i .i64 t0, .s t1, .sl 3 t2], .sl 3 f5, .sl 5 f6, .sl 11 f7, .sl 13 f8]) = 1 + cszs f7 + cszs f8 := by simp only [csz, cst, csl]
  have hl := csz_le (.st [.i .i64 f0, .s f1, .s f2, .i .i64 f3, .st [.i .i64 t0, .s t1, .sl 3 t2], .sl 3 f5, .sl 5 f6, .sl 11 f7, .sl 13 f8])
  have hw7 : Ws f7 ≤ 1048576 ∧ Ws f8 ≤ 1048576 := by simp only [W, Ws] at hW; omega
  have hI : ∀ a ∈ f7, SpecP Try.prog 13 [.d a] [.i .i64 (csz a)] := fun a ha => ih a (by have := nn_of_mem ha; simp only [U.nn, U.nns]; omega) (p7.2 a ha) (by have := W_le_of_mem ha; omega)
  have hJ : ∀ x y b, .st [x, y, b] ∈ f8 → wt (.st 21) b → SpecP Try.prog 13 [.d b] [.i .i64 (csz b)] := fun x y b ha hb => ih b (by have := nn_of_mem ha; simp only [U.nn, U.nns] at this ⊢; omega) hb (by have := W_le_of_mem ha; simp only [W, Ws] at this; omega)
  unfold PCs at *
  rw [hc0] at hl ⊢
  clear hc0
  obtain ⟨hb7, hz7⟩ := p7
  obtain ⟨hb8, hz8⟩ := p8
  rw [big_eq] at hb7 hb8
  clear ih h
  refine SpecP_intro Try.func13 rfl (by kernel_rfl) rfl fun A => ?_
  (first | refine V_seq_region ?_ | refine V_seq (V_seq_region ?_) | refine V_seq_draw tmix (by kernel_rfl) ?_ | refine V_seq (V_seq_draw tmix (by kernel_rfl) ?_) | refine V_region ?_ | refine V_draw tmix (by kernel_rfl) ?_)
  repeat refine VO_d (by (repeat (first | exact Rng.mk (by omega) (by omega) | constructor)); first | done | fail) ?_
  (first | refine VO_nil ?_ | refine VQ_nil ?_)
  (first | refine V_seq_region ?_ | refine V_seq (V_seq_region ?_) | refine V_seq_draw tmix (by kernel_rfl) ?_ | refine V_seq (V_seq_draw tmix (by kernel_rfl) ?_) | refine V_region ?_ | refine V_draw tmix (by kernel_rfl) ?_)
  repeat refine VO_d (by (repeat (first | exact Rng.mk (by omega) (by omega) | constructor)); first | done | fail) ?_
  (first | refine VO_nil ?_ | refine VQ_nil ?_)
  refine V_seq ?_
  (first | refine V_seq_region ?_ | refine V_seq (V_seq_region ?_) | refine V_seq_draw tmix (by kernel_rfl) ?_ | refine V_seq (V_seq_draw tmix (by kernel_rfl) ?_) | refine V_region ?_ | refine V_draw tmix (by kernel_rfl) ?_)
  repeat refine VO_d (by (repeat (first | exact Rng.mk (by omega) (by omega) | constructor)); first | done | fail) ?_
  (first | refine VO_nil ?_ | refine VQ_nil ?_)
  refine V_block ?_
  refine V_loop (α := Nat × Int)
    (fun x => ⟨[(1, .ptr 0 0), (3, .d (.i .i64 x.2)), (4, .d (.i .i64 x.1))], [.box [.d (.i .i64 f0), .d (.s f1), .d (.s f2), .d (.i .i64 f3), .d (.i .i64 t0), .d (.s t1), .d (.sl 3 t2), .d (.sl 3 f5), .d (.sl 5 f6), .d (.sl 11 f7), .d (.sl 13 f8)]], Try.f13.ntmps⟩)
    (fun x => x.1 ≤ f7.length ∧ x.2 = 1 + cszs (f7.take x.1))
    (fun x => f7.length - x.1) (0, 1) ⟨rfl, ⟨⟨rfl, rfl⟩, ⟨rfl, rfl⟩, ⟨rfl, rfl⟩, trivial⟩, ⟨[], rfl⟩, rfl⟩ ⟨by simp, by simp [cszs]⟩ ?_
  rintro ⟨k, n⟩ ⟨hk, hn⟩
  simp only at hk hn
  (first | refine V_seq_region ?_ | refine V_seq (V_seq_region ?_) | refine V_seq_draw tmix (by kernel_rfl) ?_ | refine V_seq (V_seq_draw tmix (by kernel_rfl) ?_) | refine V_region ?_ | refine V_draw tmix (by kernel_rfl) ?_)
  repeat refine VO_d (by (repeat (first | exact Rng.mk (by omega) (by omega) | constructor)); first | done | fail) ?_
  (first | refine VO_nil ?_ | refine VQ_nil ?_)
  (first | refine V_cond rfl (fun hc2 => ?_) (fun hc2 => ?_) | refine V_seq (V_cond rfl (fun hc2 => ?_) (fun hc2 => ?_)))
  · refine V_skip ?_
    simp only [decide_eq_true_eq] at hc2
    obtain ⟨a, hget⟩ : ∃ a, f7[k]? = some a := ⟨_, List.getElem?_eq_getElem (by omega)⟩
    have hmem := List.mem_of_getElem? hget
    have hts := cszs_take_succ hget
    have htl := cszs_take_le f7 (k + 1)
    obtain ⟨c, hc⟩ : ∃ c, csz a = c := ⟨_, rfl⟩
    rw [hc] at hts
    have hcall := hI a hmem
    rw [hc] at hcall
    have hwa := hz7 a hmem
    clear hc
    refine V_seq (V_block ?_)
    (first | refine V_seq_region ?_ | refine V_seq (V_seq_region ?_) | refine V_seq_draw tmix (by kernel_rfl) ?_ | refine V_seq (V_seq_draw tmix (by kernel_rfl) ?_) | refine V_region ?_ | refine V_draw tmix (by kernel_rfl) ?_)
    repeat (first | refine VO_d (by (repeat (first | exact Rng.mk (by omega) (by omega) | constructor)); first | done | fail) ?_ | refine VQ_d (by (repeat (first | exact Rng.mk (by omega) (by omega) | constructor)); first | done | fail) ?_)
    (first | refine VO_q (Q_index rfl rfl TE.h TI.h (by omega) hget) rfl ?_ | refine VQ_q (Q_index rfl rfl TE.h TI.h (by omega) hget) rfl ?_ | (refine VO_bare rfl rfl rfl rfl ?_; refine VO_q (Q_index rfl rfl TE.h TI.h (by omega) hget) rfl ?_) | refine VQ_run rfl rfl rfl rfl (Q_index rfl rfl TE.h TI.h (by omega) hget) rfl ?_)
    (first | refine VO_q (Q_load rfl TI.h (wt_isSt hwa) (wt_sz _ _ hwa)) rfl ?_ | refine VQ_q (Q_load rfl TI.h (wt_isSt hwa) (wt_sz _ _ hwa)) rfl ?_ | (refine VO_bare rfl rfl rfl rfl ?_; refine VO_q (Q_load rfl TI.h (wt_isSt hwa) (wt_sz _ _ hwa)) rfl ?_) | refine VQ_run rfl rfl rfl rfl (Q_load rfl TI.h (wt_isSt hwa) (wt_sz _ _ hwa)) rfl ?_)
    (first | refine VO_q (Q_call rfl hcall (by repeat (first | exact trivial | exact rfl | exact ⟨_, rfl⟩ | refine And.intro ?_ ?_))) rfl ?_ | refine VQ_q (Q_call rfl hcall (by repeat (first | exact trivial | exact rfl | exact ⟨_, rfl⟩ | refine And.intro ?_ ?_))) rfl ?_ | (refine VO_bare rfl rfl rfl rfl ?_; refine VO_q (Q_call rfl hcall (by repeat (first | exact trivial | exact rfl | exact ⟨_, rfl⟩ | refine And.intro ?_ ?_))) rfl ?_) | refine VQ_run rfl rfl rfl rfl (Q_call rfl hcall (by repeat (first | exact trivial | exact rfl | exact ⟨_, rfl⟩ | refine And.intro ?_ ?_))) rfl ?_)
    repeat (first | refine VO_d (by (repeat (first | exact Rng.mk (by omega) (by omega) | constructor)); first | done | fail) ?_ | refine VQ_d (by (repeat (first | exact Rng.mk (by omega) (by omega) | constructor)); first | done | fail) ?_)
    (first | refine VO_nil ?_ | refine VQ_nil ?_)
    (first | refine V_seq_region ?_ | refine V_seq (V_seq_region ?_) | refine V_seq_draw tmix (by kernel_rfl) ?_ | refine V_seq (V_seq_draw tmix (by kernel_rfl) ?_) | refine V_region ?_ | refine V_draw tmix (by kernel_rfl) ?_)
    repeat refine VO_d (by (repeat (first | exact Rng.mk (by omega) (by omega) | constructor)); first | done | fail) ?_
    (first | refine VO_nil ?_ | refine VQ_nil ?_)
    refine ⟨(k + 1, n + (c : Int)), ?_, ?_, ⟨rfl, ⟨⟨rfl, rfl⟩, ⟨rfl, rfl⟩, ⟨rfl, rfl⟩, trivial⟩, ⟨_, rfl⟩, rfl⟩⟩
    · simp only
      refine ⟨by omega, ?_⟩
      rw [hn, hts]
      omega
    · simp only
      omega
  refine V_exit ?_
  simp only [decide_eq_false_iff_not] at hc2
  have hkl : k = f7.length := by omega
  subst hkl
  rw [List.take_length] at hn
  show V _ _ _ _ _
  refine V_seq ?_
  (first | refine V_seq_region ?_ | refine V_seq (V_seq_region ?_) | refine V_seq_draw tmix (by kernel_rfl) ?_ | refine V_seq (V_seq_draw tmix (by kernel_rfl) ?_) | refine V_region ?_ | refine V_draw tmix (by kernel_rfl) ?_)
  repeat refine VO_d (by (repeat (first | exact Rng.mk (by omega) (by omega) | constructor)); first | done | fail) ?_
  (first | refine VO_nil ?_ | refine VQ_nil ?_)
  refine V_block ?_
  refine V_loop (α := Nat × Int)
    (fun x => ⟨[(1, .ptr 0 0), (3, .d (.i .i64 x.2)), (5, .d (.i .i64 x.1))], [.box [.d (.i .i64 f0), .d (.s f1), .d (.s f2), .d (.i .i64 f3), .d (.i .i64 t0), .d (.s t1), .d (.sl 3 t2), .d (.sl 3 f5), .d (.sl 5 f6), .d (.sl 11 f7), .d (.sl 13 f8)]], Try.f13.ntmps⟩)
    (fun x => x.1 ≤ f8.length ∧ x.2 = 1 + cszs f7 + cszs (f8.take x.1))
    (fun x => f8.length - x.1) (0, n) ⟨rfl, ⟨⟨rfl, rfl⟩, ⟨rfl, rfl⟩, ⟨rfl, rfl⟩, trivial⟩, ⟨[], rfl⟩, rfl⟩ ⟨by simp, by simp [cszs, hn]⟩ ?_
  clear hk hc2 hn
  rintro ⟨k, n⟩ ⟨hk, hn⟩
  simp only at hk hn
  (first | refine V_seq_region ?_ | refine V_seq (V_seq_region ?_) | refine V_seq_draw tmix (by kernel_rfl) ?_ | refine V_seq (V_seq_draw tmix (by kernel_rfl) ?_) | refine V_region ?_ | refine V_draw tmix (by kernel_rfl) ?_)
  repeat refine VO_d (by (repeat (first | exact Rng.mk (by omega) (by omega) | constructor)); first | done | fail) ?_
  (first | refine VO_nil ?_ | refine VQ_nil ?_)
  (first | refine V_cond rfl (fun hc2 => ?_) (fun hc2 => ?_) | refine V_seq (V_cond rfl (fun hc2 => ?_) (fun hc2 => ?_)))
  · refine V_skip ?_
    simp only [decide_eq_true_eq] at hc2
    obtain ⟨a, hget⟩ : ∃ a, f8[k]? = some a := ⟨_, List.getElem?_eq_getElem (by omega)⟩
    have hmem := List.mem_of_getElem? hget
    have hts := cszs_take_succ hget
    have htl := cszs_take_le f8 (k + 1)
    obtain ⟨c, hc⟩ : ∃ c, csz a = c := ⟨_, rfl⟩
    rw [hc] at hts
    obtain ⟨x0, x1, x2, rfl, y0, y1, y2⟩ := inv_CoreArm (hz8 a hmem)
    have hcall := hJ _ _ _ hmem y2
    rw [show csz x2 = c from by rw [← hc]; simp only [csz, cst]] at hcall
    clear hc
    refine V_seq (V_block ?_)
    (first | refine V_seq_region ?_ | refine V_seq (V_seq_region ?_) | refine V_seq_draw tmix (by kernel_rfl) ?_ | refine V_seq (V_seq_draw tmix (by kernel_rfl) ?_) | refine V_region ?_ | refine V_draw tmix (by kernel_rfl) ?_)
    repeat (first | refine VO_d (by (repeat (first | exact Rng.mk (by omega) (by omega) | constructor)); first | done | fail) ?_ | refine VQ_d (by (repeat (first | exact Rng.mk (by omega) (by omega) | constructor)); first | done | fail) ?_)
    (first | refine VO_q (Q_index rfl rfl TE.h TI.h (by omega) hget) rfl ?_ | refine VQ_q (Q_index rfl rfl TE.h TI.h (by omega) hget) rfl ?_ | (refine VO_bare rfl rfl rfl rfl ?_; refine VO_q (Q_index rfl rfl TE.h TI.h (by omega) hget) rfl ?_) | refine VQ_run rfl rfl rfl rfl (Q_index rfl rfl TE.h TI.h (by omega) hget) rfl ?_)
    repeat (first | refine VO_d (by (repeat (first | exact Rng.mk (by omega) (by omega) | constructor)); first | done | fail) ?_ | refine VQ_d (by (repeat (first | exact Rng.mk (by omega) (by omega) | constructor)); first | done | fail) ?_)
    (first | refine VO_q (Q_load rfl TI.h (wt_isSt y2) (wt_sz _ _ y2)) rfl ?_ | refine VQ_q (Q_load rfl TI.h (wt_isSt y2) (wt_sz _ _ y2)) rfl ?_ | (refine VO_bare rfl rfl rfl rfl ?_; refine VO_q (Q_load rfl TI.h (wt_isSt y2) (wt_sz _ _ y2)) rfl ?_) | refine VQ_run rfl rfl rfl rfl (Q_load rfl TI.h (wt_isSt y2) (wt_sz _ _ y2)) rfl ?_)
    (first | refine VO_q (Q_call rfl hcall (by repeat (first | exact trivial | exact rfl | exact ⟨_, rfl⟩ | refine And.intro ?_ ?_))) rfl ?_ | refine VQ_q (Q_call rfl hcall (by repeat (first | exact trivial | exact rfl | exact ⟨_, rfl⟩ | refine And.intro ?_ ?_))) rfl ?_ | (refine VO_bare rfl rfl rfl rfl ?_; refine VO_q (Q_call rfl hcall (by repeat (first | exact trivial | exact rfl | exact ⟨_, rfl⟩ | refine And.intro ?_ ?_))) rfl ?_) | refine VQ_run rfl rfl rfl rfl (Q_call rfl hcall (by repeat (first | exact trivial | exact rfl | exact ⟨_, rfl⟩ | refine And.intro ?_ ?_))) rfl ?_)
    repeat (first | refine VO_d (by (repeat (first | exact Rng.mk (by omega) (by omega) | constructor)); first | done | fail) ?_ | refine VQ_d (by (repeat (first | exact Rng.mk (by omega) (by omega) | constructor)); first | done | fail) ?_)
    (first | refine VO_nil ?_ | refine VQ_nil ?_)
    (first | refine V_seq_region ?_ | refine V_seq (V_seq_region ?_) | refine V_seq_draw tmix (by kernel_rfl) ?_ | refine V_seq (V_seq_draw tmix (by kernel_rfl) ?_) | refine V_region ?_ | refine V_draw tmix (by kernel_rfl) ?_)
    repeat refine VO_d (by (repeat (first | exact Rng.mk (by omega) (by omega) | constructor)); first | done | fail) ?_
    (first | refine VO_nil ?_ | refine VQ_nil ?_)
    refine ⟨(k + 1, n + (c : Int)), ?_, ?_, ⟨rfl, ⟨⟨rfl, rfl⟩, ⟨rfl, rfl⟩, ⟨rfl, rfl⟩, trivial⟩, ⟨_, rfl⟩, rfl⟩⟩
    · simp only
      refine ⟨by omega, ?_⟩
      rw [hn, hts]
      omega
    · simp only
      omega
  refine V_exit ?_
  simp only [decide_eq_false_iff_not] at hc2
  have hkl : k = f8.length := by omega
  subst hkl
  rw [List.take_length] at hn
  show V _ _ _ _ _
  (first | refine V_seq_region ?_ | refine V_seq (V_seq_region ?_) | refine V_seq_draw tmix (by kernel_rfl) ?_ | refine V_seq (V_seq_draw tmix (by kernel_rfl) ?_) | refine V_region ?_ | refine V_draw tmix (by kernel_rfl) ?_)
  repeat refine VO_d (by (repeat (first | exact Rng.mk (by omega) (by omega) | constructor)); first | done | fail) ?_
  (first | refine VO_nil ?_ | refine VQ_nil ?_)
  refine V_ret ?_
  exact ⟨trivial, ⟨_, rfl, congrArg (U.i .i64) (by rw [hn]; omega)⟩, trivial⟩

set_option maxHeartbeats 8000000 in
theorem implCoreSize (u : U) : wt (.st 21) u → PCs 15 u := by
  refine U.ind (M := fun u => wt (.st 21) u → PCs 15 u) (fun u ih h hW => ?_) u
  obtain ⟨f0, f1, f2, f3, f4, f5, f6, f7, f8, rfl, p0, p1, p2, p3, p4, p5, p6, p7, p8⟩ := inv_Core h
  obtain ⟨t0, t1, t2, rfl, _⟩ := inv_Type p4
  have hc0 : csz (.st [.i .i64 f0, .s f1, .s f2, .i .i64 f3, .st [.i .i64 t0, .s t1, .sl 3 t2], .sl 3 f5, .sl 5 f6, .sl 11 f7, .sl 13 f8]) = 1 + cszs f7 + cszs f8 := by simp only [csz, cst, csl]
  have hl := csz_le (.st [.i .i64 f0, .s f1, .s f2, .i .i64 f3, .st [.i .i64 t0, .s t1, .sl 3 t2], .sl 3 f5, .sl 5 f6, .sl 11 f7, .sl 13 f8])
  have hw7 : Ws f7 ≤ 1048576 ∧ Ws f8 ≤ 1048576 := by simp only [W, Ws] at hW; omega
  have hI : ∀ a ∈ f7, SpecP Try.prog 15 [.d a] [.i .i64 (csz a)] := fun a ha => ih a (by have := nn_of_mem ha; simp only [U.nn, U.nns]; omega) (p7.2 a ha) (by have := W_le_of_mem ha; omega)
  have hJ : ∀ x y b, .st [x, y, b] ∈ f8 → wt (.st 21) b → SpecP Try.prog 15 [.d b] [.i .i64 (csz b)] := fun x y b ha hb => ih b (by have := nn_of_mem ha; simp only [U.nn, U.nns] at this ⊢; omega) hb (by have := W_le_of_mem ha; simp only [W, Ws] at this; omega)
  unfold PCs at *
  rw [hc0] at hl ⊢
  clear hc0
  obtain ⟨hb7, hz7⟩ := p7
  obtain ⟨hb8, hz8⟩ := p8
  rw [big_eq] at hb7 hb8
  clear ih h
  refine SpecP_intro Try.func15 rfl (by kernel_rfl) rfl fun A => ?_
  (first | refine V_seq_region ?_ | refine V_seq (V_seq_region ?_) | refine V_seq_draw tmix (by kernel_rfl) ?_ | refine V_seq (V_seq_draw tmix (by kernel_rfl) ?_) | refine V_region ?_ | refine V_draw tmix (by kernel_rfl) ?_)
  repeat refine VO_d (by (repeat (first | exact Rng.mk (by omega) (by omega) | constructor)); first | done | fail) ?_
  (first | refine VO_nil ?_ | refine VQ_nil ?_)
  (first | refine V_seq_region ?_ | refine V_seq (V_seq_region ?_) | refine V_seq_draw tmix (by kernel_rfl) ?_ | refine V_seq (V_seq_draw tmix (by kernel_rfl) ?_) | refine V_region ?_ | refine V_draw tmix (by kernel_rfl) ?_)
  repeat refine VO_d (by (repeat (first | exact Rng.mk (by omega) (by omega) | constructor)); first | done | fail) ?_
  (first | refine VO_nil ?_ | refine VQ_nil ?_)
  refine V_seq ?_
  (first | refine V_seq_region ?_ | refine V_seq (V_seq_region ?_) | refine V_seq_draw tmix (by kernel_rfl) ?_ | refine V_seq (V_seq_draw tmix (by kernel_rfl) ?_) | refine V_region ?_ | refine V_draw tmix (by kernel_rfl) ?_)
  repeat refine VO_d (by (repeat (first | exact Rng.mk (by omega) (by omega) | constructor)); first | done | fail) ?_
  (first | refine VO_nil ?_ | refine VQ_nil ?_)
  refine V_block ?_
  refine V_loop (α := Nat × Int)
    (fun x => ⟨[(1, .ptr 0 0), (3, .d (.i .i64 x.2)), (9, .d (.sl 11 f7)), (10, .d (.i .i64 f7.length)), (11, .d (.i .i64 x.1))], [.box [.d (.i .i64 f0), .d (.s f1), .d (.s f2), .d (.i .i64 f3), .d (.i .i64 t0), .d (.s t1), .d (.sl 3 t2), .d (.sl 3 f5), .d (.sl 5 f6), .d (.sl 11 f7), .d (.sl 13 f8)]], Try.f15.ntmps⟩)
    (fun x => x.1 ≤ f7.length ∧ x.2 = 1 + cszs (f7.take x.1))
    (fun x => f7.length - x.1) (0, 1) ⟨rfl, ⟨⟨rfl, rfl⟩, ⟨rfl, rfl⟩, ⟨rfl, rfl⟩, ⟨rfl, rfl⟩, ⟨rfl, rfl⟩, trivial⟩, ⟨[], rfl⟩, rfl⟩ ⟨by simp, by simp [cszs]⟩ ?_
  rintro ⟨k, n⟩ ⟨hk, hn⟩
  simp only at hk hn
  (first | refine V_seq_region ?_ | refine V_seq (V_seq_region ?_) | refine V_seq_draw tmix (by kernel_rfl) ?_ | refine V_seq (V_seq_draw tmix (by kernel_rfl) ?_) | refine V_region ?_ | refine V_draw tmix (by kernel_rfl) ?_)
  repeat refine VO_d (by (repeat (first | exact Rng.mk (by omega) (by omega) | constructor)); first | done | fail) ?_
  (first | refine VO_nil ?_ | refine VQ_nil ?_)
  (first | refine V_cond rfl (fun hc2 => ?_) (fun hc2 => ?_) | refine V_seq (V_cond rfl (fun hc2 => ?_) (fun hc2 => ?_)))
  · refine V_skip ?_
    simp only [decide_eq_true_eq] at hc2
    obtain ⟨a, hget⟩ : ∃ a, f7[k]? = some a := ⟨_, List.getElem?_eq_getElem (by omega)⟩
    have hmem := List.mem_of_getElem? hget
    have hts := cszs_take_succ hget
    have htl := cszs_take_le f7 (k + 1)
    obtain ⟨c, hc⟩ : ∃ c, csz a = c := ⟨_, rfl⟩
    rw [hc] at hts
    have hcall := hI a hmem
    rw [hc] at hcall
    have hwa := hz7 a hmem
    clear hc
    obtain ⟨e1_0, e1_1, e1_2, e1_3, e1_4, e1_5, e1_6, e1_7, e1_8, rfl, g1_0, g1_1, g1_2, g1_3, g1_4, g1_5, g1_6, g1_7, g1_8⟩ := inv_Core hwa
    obtain ⟨e2_0, e2_1, e2_2, rfl, g2_0, g2_1, g2_2⟩ := inv_Type g1_4
    refine V_seq (V_block ?_)
    (first | refine V_seq_region ?_ | refine V_seq (V_seq_region ?_) | refine V_seq_draw tmix (by kernel_rfl) ?_ | refine V_seq (V_seq_draw tmix (by kernel_rfl) ?_) | refine V_region ?_ | refine V_draw tmix (by kernel_rfl) ?_)
    repeat (first | refine VO_d (by (repeat (first | exact Rng.mk (by omega) (by omega) | constructor)); first | done | fail) ?_ | refine VQ_d (by (repeat (first | exact Rng.mk (by omega) (by omega) | constructor)); first | done | fail) ?_)
    (first | refine VO_q (Q_index rfl rfl TE.h TI.h (by omega) hget) rfl ?_ | refine VQ_q (Q_index rfl rfl TE.h TI.h (by omega) hget) rfl ?_ | (refine VO_bare rfl rfl rfl rfl ?_; refine VO_q (Q_index rfl rfl TE.h TI.h (by omega) hget) rfl ?_) | refine VQ_run rfl rfl rfl rfl (Q_index rfl rfl TE.h TI.h (by omega) hget) rfl ?_)
    repeat (first | refine VO_d (by (repeat (first | exact Rng.mk (by omega) (by omega) | constructor)); first | done | fail) ?_ | refine VQ_d (by (repeat (first | exact Rng.mk (by omega) (by omega) | constructor)); first | done | fail) ?_)
    (first | refine VO_nil ?_ | refine VQ_nil ?_)
    (first | refine V_seq_region ?_ | refine V_seq (V_seq_region ?_) | refine V_seq_draw tmix (by kernel_rfl) ?_ | refine V_seq (V_seq_draw tmix (by kernel_rfl) ?_) | refine V_region ?_ | refine V_draw tmix (by kernel_rfl) ?_)
    repeat (first | refine VO_d (by (repeat (first | exact Rng.mk (by omega) (by omega) | constructor)); first | done | fail) ?_ | refine VQ_d (by (repeat (first | exact Rng.mk (by omega) (by omega) | constructor)); first | done | fail) ?_)
    (first | refine VO_q (Q_call rfl hcall (by repeat (first | exact trivial | exact rfl | exact ⟨_, rfl⟩ | refine And.intro ?_ ?_))) rfl ?_ | refine VQ_q (Q_call rfl hcall (by repeat (first | exact trivial | exact rfl | exact ⟨_, rfl⟩ | refine And.intro ?_ ?_))) rfl ?_ | (refine VO_bare rfl rfl rfl rfl ?_; refine VO_q (Q_call rfl hcall (by repeat (first | exact trivial | exact rfl | exact ⟨_, rfl⟩ | refine And.intro ?_ ?_))) rfl ?_) | refine VQ_run rfl rfl rfl rfl (Q_call rfl hcall (by repeat (first | exact trivial | exact rfl | exact ⟨_, rfl⟩ | refine And.intro ?_ ?_))) rfl ?_)
    repeat (first | refine VO_d (by (repeat (first | exact Rng.mk (by omega) (by omega) | constructor)); first | done | fail) ?_ | refine VQ_d (by (repeat (first | exact Rng.mk (by omega) (by omega) | constructor)); first | done | fail) ?_)
    (first | refine VO_nil ?_ | refine VQ_nil ?_)
    (first | refine V_seq_region ?_ | refine V_seq (V_seq_region ?_) | refine V_seq_draw tmix (by kernel_rfl) ?_ | refine V_seq (V_seq_draw tmix (by kernel_rfl) ?_) | refine V_region ?_ | refine V_draw tmix (by kernel_rfl) ?_)
    repeat refine VO_d (by (repeat (first | exact Rng.mk (by omega) (by omega) | constructor)); first | done | fail) ?_
    (first | refine VO_nil ?_ | refine VQ_nil ?_)
    refine ⟨(k + 1, n + (c : Int)), ?_, ?_, ⟨rfl, ⟨⟨rfl, rfl⟩, ⟨rfl, rfl⟩, ⟨rfl, rfl⟩, ⟨rfl, rfl⟩, ⟨rfl, rfl⟩, trivial⟩, ⟨_, rfl⟩, rfl⟩⟩
    · simp only
      refine ⟨by omega, ?_⟩
      rw [hn, hts]
      omega
    · simp only
      omega
  refine V_exit ?_
  simp only [decide_eq_false_iff_not] at hc2
  have hkl : k = f7.length := by omega
  subst hkl
  rw [List.take_length] at hn
  show V _ _ _ _ _
  refine V_seq ?_
  (first | refine V_seq_region ?_ | refine V_seq (V_seq_region ?_) | refine V_seq_draw tmix (by kernel_rfl) ?_ | refine V_seq (V_seq_draw tmix (by kernel_rfl) ?_) | refine V_region ?_ | refine V_draw tmix (by kernel_rfl) ?_)
  repeat refine VO_d (by (repeat (first | exact Rng.mk (by omega) (by omega) | constructor)); first | done | fail) ?_
  (first | refine VO_nil ?_ | refine VQ_nil ?_)
  refine V_block ?_
  refine V_loop (α := Nat × Int)
    (fun x => ⟨[(1, .ptr 0 0), (3, .d (.i .i64 x.2)), (21, .d (.sl 13 f8)), (22, .d (.i .i64 f8.length)), (23, .d (.i .i64 x.1))], [.box [.d (.i .i64 f0), .d (.s f1), .d (.s f2), .d (.i .i64 f3), .d (.i .i64 t0), .d (.s t1), .d (.sl 3 t2), .d (.sl 3 f5), .d (.sl 5 f6), .d (.sl 11 f7), .d (.sl 13 f8)]], Try.f15.ntmps⟩)
    (fun x => x.1 ≤ f8.length ∧ x.2 = 1 + cszs f7 + cszs (f8.take x.1))
    (fun x => f8.length - x.1) (0, n) ⟨rfl, ⟨⟨rfl, rfl⟩, ⟨rfl, rfl⟩, ⟨rfl, rfl⟩, ⟨rfl, rfl⟩, ⟨rfl, rfl⟩, trivial⟩, ⟨[], rfl⟩, rfl⟩ ⟨by simp, by simp [cszs, hn]⟩ ?_
  clear hk hc2 hn
  rintro ⟨k, n⟩ ⟨hk, hn⟩
  simp only at hk hn
  (first | refine V_seq_region ?_ | refine V_seq (V_seq_region ?_) | refine V_seq_draw tmix (by kernel_rfl) ?_ | refine V_seq (V_seq_draw tmix (by kernel_rfl) ?_) | refine V_region ?_ | refine V_draw tmix (by kernel_rfl) ?_)
  repeat refine VO_d (by (repeat (first | exact Rng.mk (by omega) (by omega) | constructor)); first | done | fail) ?_
  (first | refine VO_nil ?_ | refine VQ_nil ?_)
  (first | refine V_cond rfl (fun hc2 => ?_) (fun hc2 => ?_) | refine V_seq (V_cond rfl (fun hc2 => ?_) (fun hc2 => ?_)))
  · refine V_skip ?_
    simp only [decide_eq_true_eq] at hc2
    obtain ⟨a, hget⟩ : ∃ a, f8[k]? = some a := ⟨_, List.getElem?_eq_getElem (by omega)⟩
    have hmem := List.mem_of_getElem? hget
    have hts := cszs_take_succ hget
    have htl := cszs_take_le f8 (k + 1)
    obtain ⟨c, hc⟩ : ∃ c, csz a = c := ⟨_, rfl⟩
    rw [hc] at hts
    obtain ⟨x0, x1, x2, rfl, y0, y1, y2⟩ := inv_CoreArm (hz8 a hmem)
    have hcall := hJ _ _ _ hmem y2
    rw [show csz x2 = c from by rw [← hc]; simp only [csz, cst]] at hcall
    clear hc
    obtain ⟨e3_0, e3_1, e3_2, e3_3, e3_4, e3_5, e3_6, e3_7, e3_8, rfl, g3_0, g3_1, g3_2, g3_3, g3_4, g3_5, g3_6, g3_7, g3_8⟩ := inv_Core y2
    obtain ⟨e4_0, e4_1, e4_2, rfl, g4_0, g4_1, g4_2⟩ := inv_Type g3_4
    refine V_seq (V_block ?_)
    (first | refine V_seq_region ?_ | refine V_seq (V_seq_region ?_) | refine V_seq_draw tmix (by kernel_rfl) ?_ | refine V_seq (V_seq_draw tmix (by kernel_rfl) ?_) | refine V_region ?_ | refine V_draw tmix (by kernel_rfl) ?_)
    repeat (first | refine VO_d (by (repeat (first | exact Rng.mk (by omega) (by omega) | constructor)); first | done | fail) ?_ | refine VQ_d (by (repeat (first | exact Rng.mk (by omega) (by omega) | constructor)); first | done | fail) ?_)
    (first | refine VO_q (Q_index rfl rfl TE.h TI.h (by omega) hget) rfl ?_ | refine VQ_q (Q_index rfl rfl TE.h TI.h (by omega) hget) rfl ?_ | (refine VO_bare rfl rfl rfl rfl ?_; refine VO_q (Q_index rfl rfl TE.h TI.h (by omega) hget) rfl ?_) | refine VQ_run rfl rfl rfl rfl (Q_index rfl rfl TE.h TI.h (by omega) hget) rfl ?_)
    repeat (first | refine VO_d (by (repeat (first | exact Rng.mk (by omega) (by omega) | constructor)); first | done | fail) ?_ | refine VQ_d (by (repeat (first | exact Rng.mk (by omega) (by omega) | constructor)); first | done | fail) ?_)
    (first | refine VO_nil ?_ | refine VQ_nil ?_)
    (first | refine V_seq_region ?_ | refine V_seq (V_seq_region ?_) | refine V_seq_draw tmix (by kernel_rfl) ?_ | refine V_seq (V_seq_draw tmix (by kernel_rfl) ?_) | refine V_region ?_ | refine V_draw tmix (by kernel_rfl) ?_)
    repeat (first | refine VO_d (by (repeat (first | exact Rng.mk (by omega) (by omega) | constructor)); first | done | fail) ?_ | refine VQ_d (by (repeat (first | exact Rng.mk (by omega) (by omega) | constructor)); first | done | fail) ?_)
    (first | refine VO_q (Q_call rfl hcall (by repeat (first | exact trivial | exact rfl | exact ⟨_, rfl⟩ | refine And.intro ?_ ?_))) rfl ?_ | refine VQ_q (Q_call rfl hcall (by repeat (first | exact trivial | exact rfl | exact ⟨_, rfl⟩ | refine And.intro ?_ ?_))) rfl ?_ | (refine VO_bare rfl rfl rfl rfl ?_; refine VO_q (Q_call rfl hcall (by repeat (first | exact trivial | exact rfl | exact ⟨_, rfl⟩ | refine And.intro ?_ ?_))) rfl ?_) | refine VQ_run rfl rfl rfl rfl (Q_call rfl hcall (by repeat (first | exact trivial | exact rfl | exact ⟨_, rfl⟩ | refine And.intro ?_ ?_))) rfl ?_)
    repeat (first | refine VO_d (by (repeat (first | exact Rng.mk (by omega) (by omega) | constructor)); first | done | fail) ?_ | refine VQ_d (by (repeat (first | exact Rng.mk (by omega) (by omega) | constructor)); first | done | fail) ?_)
    (first | refine VO_nil ?_ | refine VQ_nil ?_)
    (first | refine V_seq_region ?_ | refine V_seq (V_seq_region ?_) | refine V_seq_draw tmix (by kernel_rfl) ?_ | refine V_seq (V_seq_draw tmix (by kernel_rfl) ?_) | refine V_region ?_ | refine V_draw tmix (by kernel_rfl) ?_)
    repeat refine VO_d (by (repeat (first | exact Rng.mk (by omega) (by omega) | constructor)); first | done | fail) ?_
    (first | refine VO_nil ?_ | refine VQ_nil ?_)
    refine ⟨(k + 1, n + (c : Int)), ?_, ?_, ⟨rfl, ⟨⟨rfl, rfl⟩, ⟨rfl, rfl⟩, ⟨rfl, rfl⟩, ⟨rfl, rfl⟩, ⟨rfl, rfl⟩, trivial⟩, ⟨_, rfl⟩, rfl⟩⟩
    · simp only
      refine ⟨by omega, ?_⟩
      rw [hn, hts]
      omega
    · simp only
      omega
  refine V_exit ?_
  simp only [decide_eq_false_iff_not] at hc2
  have hkl : k = f8.length := by omega
  subst hkl
  rw [List.take_length] at hn
  show V _ _ _ _ _
  (first | refine V_seq_region ?_ | refine V_seq (V_seq_region ?_) | refine V_seq_draw tmix (by kernel_rfl) ?_ | refine V_seq (V_seq_draw tmix (by kernel_rfl) ?_) | refine V_region ?_ | refine V_draw tmix (by kernel_rfl) ?_)
  repeat refine VO_d (by (repeat (first | exact Rng.mk (by omega) (by omega) | constructor)); first | done | fail) ?_
  (first | refine VO_nil ?_ | refine VQ_nil ?_)
  refine V_ret ?_
  exact ⟨trivial, ⟨_, rfl, congrArg (U.i .i64) (by rw [hn]; omega)⟩, trivial⟩

end Go.Proofs.Ytcdcekoffaaalaa
