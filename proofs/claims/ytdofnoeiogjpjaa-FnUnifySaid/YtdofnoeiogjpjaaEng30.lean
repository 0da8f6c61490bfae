/- The engine, part 30: how many scalars data of a weight holds; what marks leave of plain numbers. -/
import Derived.Test.YtdofnoeiogjpjaaEng29
namespace Go.Eng
open Go Go.RowKit
theorem cz_le (n : Nat) : cz n ≤ 64 := by
  unfold cz
  split <;> decide
theorem shz_le (s : Sh) : shz s ≤ 64 := by
  cases s with
  | st n => exact cz_le n
  | _ => simp [shz]
mutual
theorem lf_le : ∀ (u : U) (s : Sh), wt s u → u.lf ≤ 64 * W u + u.sz
  | .i _ _, _, _ => by simp [U.lf, W, U.sz]
  | .b _, _, _ => by simp [U.lf, W, U.sz]
  | .s l, _, _ => by simp only [U.lf, W, U.sz]; omega
  | .st us, s, h => by
    cases s with
    | st n =>
      simp only [wt] at h
      simp only [U.lf, W, U.sz]
      exact lfs_le us _ h
    | _ => exact h.elim
  | .sl z us, s, h => by
    cases s with
    | sl s =>
      simp only [wt] at h
      simp only [U.lf, W, U.sz]
      have := lfa_le us s h.2.2
      omega
    | _ => exact h.elim
theorem lfs_le : ∀ (us : List U) (ss : List Sh), wts ss us → U.lfs us ≤ 64 * Ws us + U.szs us
  | [], _, _ => by simp [U.lfs]
  | u :: us, ss, h => by
    cases ss with
    | nil => exact h.elim
    | cons s ss =>
      simp only [wts] at h
      have h1 := lf_le u s h.1
      have h2 := lfs_le us ss h.2
      simp only [U.lfs, Ws, U.szs]
      omega
theorem lfa_le : ∀ (us : List U) (s : Sh), wta s us → U.lfs us ≤ 64 * Ws us + 64 * us.length
  | [], _, _ => by simp [U.lfs]
  | u :: us, s, h => by
    simp only [wta] at h
    have h1 := lf_le u s h.1
    have h2 := lfa_le us s h.2
    have h3 := wt_sz u s h.1
    have h4 := shz_le s
    simp only [U.lfs, Ws, List.length_cons]
    omega
end
theorem mkt_snd_sl (z : Nat) (us : List U) (k : Int) : ((U.sl z us).mkt k).2 = k + (U.sl z us).lf := by simp only [U.mkt, U.lf]; exact mks_snd us k
mutual
theorem mkt_snd_le : ∀ (u : U) (k : Int), k ≤ (u.mkt k).2
  | .i _ _, k => Int.le_refl _
  | .b _, k => Int.le_refl _
  | .s _, k => Int.le_refl _
  | .st us, k => by simp only [U.mkt]; exact mkts_snd_le us k
  | .sl _ us, k => by simp only [U.mkt]; rw [mks_snd]; omega
theorem mkts_snd_le : ∀ (us : List U) (k : Int), k ≤ (U.mkts us k).2
  | [], k => by simp [U.mkts]
  | u :: us, k => by simp only [U.mkts]; have h1 := mkt_snd_le u k; have h2 := mkts_snd_le us (u.mkt k).2; omega
end
mutual
theorem mkt_snd_ge : ∀ (u : U) (k : Int), (u.mkt k).2 ≤ k + u.lf
  | .i _ _, k => by simp only [U.mkt, U.lf]; omega
  | .b _, k => by simp only [U.mkt, U.lf]; omega
  | .s _, k => by simp only [U.mkt, U.lf]; omega
  | .st us, k => by simp only [U.mkt, U.lf]; exact mkts_snd_ge us k
  | .sl _ us, k => by simp only [U.mkt, U.lf]; rw [mks_snd]; omega
theorem mkts_snd_ge : ∀ (us : List U) (k : Int), (U.mkts us k).2 ≤ k + U.lfs us
  | [], k => by simp [U.mkts, U.lfs]
  | u :: us, k => by simp only [U.mkts, U.lfs]; have h1 := mkt_snd_ge u k; have h2 := mkts_snd_ge us (u.mkt k).2; omega
end
end Go.Eng
