/- The specification's FormatInt gives the plain numeral. -/
import Derived.Test.YtgmlpaaklnkghaaGreatUn1
import Derived.Lib.ItoaLen
import Derived.Lib.AppendIntMem
import Derived.Lib.ItoaNum
set_option linter.unusedVariables false
set_option linter.unusedSimpArgs false
namespace Go.Proofs.YtgmlpaaklnkghaaGreat
open Go Go.Eng Go.RowKit
attribute [local irreducible] V VO VQ VY Quiet QR SpecP SpecO Rng PostP PostO PostG
instance (n : Int) : Decidable (inRange n) := inferInstanceAs (Decidable (_ ∧ _))
def dgs (u : Nat) : List UInt8 := if u = 0 then [] else Lib.decDigits u
theorem dgs_step {u : Nat} (h : u ≠ 0) : dgs u = dgs (u / 10) ++ [UInt8.ofNat (48 + u % 10)] := by
  unfold dgs
  rw [if_neg h, Lib.decDigits]
  by_cases h1 : u < 10
  · rw [dif_pos h1, if_pos (by omega), Nat.mod_eq_of_lt h1]; rfl
  · rw [dif_neg h1, if_neg (by omega)]
theorem dgs_len {n : Int} (h : inRange n) : (dgs n.natAbs).length ≤ 21 := by
  unfold dgs
  split
  · simp
  · have := Lib.itoa_length_le n h.1 h.2
    unfold Lib.itoa at this
    split at this
    · simp at this; omega
    · have e : n.natAbs = n.toNat := by omega
      rw [e]; exact this
theorem itoa_neg {n : Int} (h : n < 0) : Lib.itoa n = 45 :: dgs n.natAbs := by unfold Lib.itoa dgs; rw [if_pos h, if_neg (by omega)]
theorem itoa_pos {n : Int} (h : 0 < n) : Lib.itoa n = dgs n.natAbs := by unfold Lib.itoa dgs; rw [if_neg (by omega), if_neg (by omega)]; congr 1; omega
theorem itoa_zero : Lib.itoa 0 = [48] := by unfold Lib.itoa; rw [if_neg (by omega), Lib.decDigits]; rfl
theorem digit_neg {m : Int} (h : m.tmod 10 < 0) : IntKind.i64.wrap (0 - m.tmod 10) = ((m.natAbs % 10 : Nat) : Int) := by
  have e : m.tmod 10 = -((m.natAbs % 10 : Nat) : Int) := by
    rcases Int.natAbs_eq m with h1 | h1
    · rw [h1] at h
      have := Int.tmod_nonneg (a := (m.natAbs : Int)) 10 (by omega)
      omega
    · conv => lhs; rw [h1]
      rw [Int.neg_tmod]
      have : ((m.natAbs : Int)).tmod 10 = ((m.natAbs % 10 : Nat) : Int) := by rw [show (10 : Int) = ((10 : Nat) : Int) from rfl, ← Int.ofNat_tmod]; 
      rw [this]
  rw [e, wrap_in _ (by omega) (by omega)]
  omega
theorem digit_pos {m : Int} (h : ¬ m.tmod 10 < 0) : m.tmod 10 = ((m.natAbs % 10 : Nat) : Int) := by
  have key : ((m.natAbs : Int)).tmod 10 = ((m.natAbs % 10 : Nat) : Int) := by rw [show (10 : Int) = ((10 : Nat) : Int) from rfl, ← Int.ofNat_tmod]
  rcases Int.natAbs_eq m with h1 | h1
  · conv => lhs; rw [h1]
    exact key
  · have e : m.tmod 10 = -((m.natAbs % 10 : Nat) : Int) := by
      conv => lhs; rw [h1]
      rw [Int.neg_tmod, key]
    omega
theorem div_ten (m : Int) : (m.tdiv 10).natAbs = m.natAbs / 10 := by simp [Int.natAbs_tdiv]; rfl
theorem div_range {m : Int} (h : inRange m) : inRange (m.tdiv 10) ∧ IntKind.i64.wrap (m.tdiv 10) = m.tdiv 10 := by
  have := div_ten m
  have hr : inRange (m.tdiv 10) := by
    obtain ⟨h1, h2⟩ := h
    unfold inRange
    omega
  exact ⟨hr, wrap_in _ hr.1 hr.2⟩
theorem byte_of (u : Nat) : UInt8.ofNat (IntKind.u8.wrap (IntKind.i64.wrap (48 + ((u % 10 : Nat) : Int)))).toNat = UInt8.ofNat (48 + u % 10) := by
  have : u % 10 < 10 := Nat.mod_lt _ (by decide)
  generalize u % 10 = k at this
  match k, this with
  | 0, _ | 1, _ | 2, _ | 3, _ | 4, _ | 5, _ | 6, _ | 7, _ | 8, _ | 9, _ => rfl
/-- What the loop's round puts ahead. -/
theorem round_eq {n m : Int} {out : List UInt8} (hm : m ≠ 0) (h : dgs n.natAbs = dgs m.natAbs ++ out) : dgs n.natAbs = dgs (m.tdiv 10).natAbs ++ ([UInt8.ofNat (48 + m.natAbs % 10)] ++ out) := by
  rw [h, dgs_step (u := m.natAbs) (by omega), div_ten, List.append_assoc]
set_option maxHeartbeats 4000000 in
theorem t_sFormatInt (n : Int) (hn : inRange n) : SpecP Tryz.prog 59 [.d (.i .i64 n)] [.s (Lib.itoa n)] := by
  refine SpecP_intro Tryz.func59 rfl (by kernel_rfl) rfl fun A _ => ?_
  refine goL ?_
  refine V_cb (fun c1 => ?_) (fun c1 => ?_)
  · have : n = 0 := by simpa using c1
    subst this
    rw [itoa_zero]
    refine goL ?_
    refine V_ret ?_
    exact R_rP
  refine V_skip ?_
  show V _ _ _ _ _
  have hn0 : n ≠ 0 := by simpa using c1
  refine goL ?_
  refine V_seq (V_block ?_)
  refine V_loop1 (fun (x : Int × List UInt8) => ⟨[(0, .d (.i .i64 x.1)), (2, .d (.s [])), (3, .d (.b (decide (n < 0)))), (4, .d (.s x.2))], [], Tryz.f59.ntmps⟩) (fun x => inRange x.1 ∧ dgs n.natAbs = dgs x.1.natAbs ++ x.2) (fun x => x.1.natAbs) (n, []) ⟨rfl, ⟨⟨rfl, rfl⟩, ⟨rfl, rfl⟩, ⟨rfl, rfl⟩, ⟨rfl, rfl⟩, trivial⟩, ⟨_, rfl⟩, rfl⟩ ⟨hn, by simp⟩ ?_
  rintro ⟨m, out⟩ ⟨hr, hd⟩
  have hl := dgs_len hn
  have hol : out.length ≤ 21 := by rw [hd] at hl; simp at hl; omega
  dsimp only
  refine goL ?_
  refine V_cb (fun c2 => ?_) (fun c2 => ?_)
  · have hm : m ≠ 0 := by simpa using c2
    refine V_skip ?_
    show V _ _ _ _ _
    refine V_block ?_
    refine goL ?_
    refine VO_k Q_remT ?_
    refine goL ?_
    refine V_cb (fun c3 => ?_) (fun c3 => ?_)
    · have hd3 := digit_neg (of_decide_eq_true c3)
      refine goL ?_
      refine VO_r QR_ar ?_
      rw [hd3]
      refine goL ?_
      refine VO_r QR_ar ?_
      refine goL ?_
      refine VO_k (Q_convI rfl Tryz.underlying3 Tryz.underlying5) ?_
      refine goL ?_
      refine VO_l1 (u := .i .u8 _) ?_
      refine VO_k (Q_convB1 rfl rfl Tryz.underlying22 Tryz.underlying5 Tryz.underlying9) ?_
      rw [byte_of]
      refine goL ?_
      refine VO_r (QR_cat (a := [_]) (b := out) (by simp; omega)) ?_
      refine goL ?_
      refine VO_k (Q_quoT (div_range hr).2) ?_
      refine goL ?_
      exact ⟨(m.tdiv 10, _), ⟨(div_range hr).1, round_eq hm hd⟩, by have := div_ten m; simp only; omega, ⟨rfl, ⟨⟨rfl, rfl⟩, ⟨rfl, rfl⟩, ⟨rfl, rfl⟩, ⟨rfl, rfl⟩, trivial⟩, ⟨_, rfl⟩, rfl⟩⟩
    · have hd3 := digit_pos (of_decide_eq_false c3)
      refine V_skip ?_
      show V _ _ _ _ _
      refine goL ?_
      rw [hd3]
      refine VO_r QR_ar ?_
      refine goL ?_
      refine VO_k (Q_convI rfl Tryz.underlying3 Tryz.underlying5) ?_
      refine goL ?_
      refine VO_l1 (u := .i .u8 _) ?_
      refine VO_k (Q_convB1 rfl rfl Tryz.underlying22 Tryz.underlying5 Tryz.underlying9) ?_
      rw [byte_of]
      refine goL ?_
      refine VO_r (QR_cat (a := [_]) (b := out) (by simp; omega)) ?_
      refine goL ?_
      refine VO_k (Q_quoT (div_range hr).2) ?_
      refine goL ?_
      exact ⟨(m.tdiv 10, _), ⟨(div_range hr).1, round_eq hm hd⟩, by have := div_ten m; simp only; omega, ⟨rfl, ⟨⟨rfl, rfl⟩, ⟨rfl, rfl⟩, ⟨rfl, rfl⟩, ⟨rfl, rfl⟩, trivial⟩, ⟨_, rfl⟩, rfl⟩⟩
  · have hm : m = 0 := by simpa using c2
    subst hm
    refine V_exit ?_
    show V _ _ _ _ _
    refine goL ?_
    simp [dgs] at hd
    refine V_cb (fun c3 => ?_) (fun c3 => ?_)
    · have h0 := of_decide_eq_true c3
      rw [itoa_neg h0, show dgs n.natAbs = out by simp [dgs, hd]]
      refine goL ?_
      refine VO_r (QR_cat (a := [45]) (b := out) (by simp; omega)) ?_
      refine goL ?_
      refine V_ret ?_
      exact R_rP
    · have h0 := of_decide_eq_false c3
      rw [itoa_pos (by omega), show dgs n.natAbs = out by simp [dgs, hd]]
      refine V_skip ?_
      show V _ _ _ _ _
      refine goL ?_
      refine V_ret ?_
      exact R_rP
end Go.Proofs.YtgmlpaaklnkghaaGreat
