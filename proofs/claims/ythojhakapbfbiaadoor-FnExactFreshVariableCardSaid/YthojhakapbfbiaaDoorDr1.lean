/- What the library contracts say at this program; FormatInt. -/
import Derived.Test.YthojhakapbfbiaaDoorFacts
import Derived.Test.YthojhakapbfbiaaDoorEng49
import Derived.Shelf.Lay
import Derived.Shelf.Strings.SplitShaped
import Derived.Shelf.Strings.OnBuilder
import Derived.Shelf.Strings.PiecesUse
import Derived.Shelf.Strconv.Itoa3
import Derived.Shelf.LaysM
import Derived.Lib.ItoaLen
import Derived.Lib.AppendIntMem
namespace Go.Proofs
open Go.Shelf Go.RowKit
shelf_lay LaysM.n171 Nm 171 at Tryd as Tryd.laysItoa
shelf_lay Lays.n156 Nm 156 at Tryd as Tryd.laysJoin
theorem Tryd.extra : Builder.Extra Tryd.prog Tryd.laysJoin_ren where
  sizeBuilder := by kernel_rfl
  liesBuilder := by kernel_rfl
  t5 := Tryd.underlying5
  a5 := Tryd.isAgg5
  z5 := Tryd.sizeOf5
  v5 := Tryd.zeroValue5
  infoByte := by kernel_rfl
  cellsByte := by kernel_rfl
  sizeByte := by kernel_rfl
  neB5 := by decide
theorem Tryd.strconv_Itoa (n : Int) (h0 : -9223372036854775808 ≤ n) (h1 : n ≤ 9223372036854775807) (w : World) (htab : Lib.TabIs Tryd.prog w "internal/strconv.uint64pow10" .u64 Lib.pow10Tab) :
    Calls Tryd.prog 85 #[.int .i64 n] w fun e w' => e = .returned (.string ⟨(Lib.itoa n).toArray⟩) ∧ ∃ k os, w' = Sort.grow (w.drewN k) os := Any.strconv_Itoa Tryd.laysItoa n h0 h1 w htab
theorem Tryd.strings_Join (bk o c : Nat) (xs : List ByteArray) (sep : ByteArray) (w : World)
    (hcells : ∀ (j : Nat) x, xs[j]? = some x → w.cell? ⟨bk, o + j, none⟩ = some (.string x))
    (hbk : bk < w.heap.size) (hN : xs.length ≤ 140737488355328) (hcap : xs.length ≤ c)
    (hlen : (Lib.join (xs.map (·.data.toList)) sep.data.toList).length ≤ 140737488355328) :
    Calls Tryd.prog 86 #[.slice (some ⟨bk, o, none⟩) xs.length c, .string sep] w fun e w' => e = .returned (.string ⟨(Lib.join (xs.map (·.data.toList)) sep.data.toList).toArray⟩) ∧ Below w.heap.size w w' := Any.strings_Join Tryd.laysJoin Tryd.extra bk o c xs sep w hcells hbk hN hcap hlen
theorem Tryd.strings_Join_none (a : Option Addr) (c : Nat) (sep : ByteArray) (w : World) :
    Calls Tryd.prog 86 #[.slice a 0 c, .string sep] w fun e w' => e = .returned (.string ⟨#[]⟩) ∧ w' = w := Any.strings_Join_none Tryd.laysJoin Tryd.extra a c sep w
end Go.Proofs

set_option linter.unusedVariables false
set_option linter.unusedSimpArgs false
namespace Go.Proofs.YthojhakapbfbiaaDoor
open Go Go.Eng Go.RowKit
theorem t_Itoa (n : Int) (h : inRange n) : SpecP Tryd.prog 85 [.d (.i .i64 n)] [.s (Lib.itoa n)] := by
  have hl := Lib.itoa_length_le n h.1 h.2
  refine SpecP_str ⟨_, Tryd.func85, by kernel_rfl, by kernel_rfl⟩ (by rw [big_eq]; omega) fun S w vs hv hS hg => ?_
  match vs, hv with
  | [v], hv =>
    simp only [SVrs, and_true] at hv
    rw [SVr.int] at hv
    subst hv
    refine (Tryd.strconv_Itoa n h.1 h.2 w hg.1).mono ?_
    rintro e w' ⟨rfl, k, os, rfl⟩
    exact ⟨rfl, Lib.below_grow _ w (Nat.le_refl _) k os⟩
/-- What the library's Join gives; the list lies as it lay. -/
def joinL (l : List (List UInt8)) (sep : List UInt8) : List UInt8 × List (List UInt8) := (Lib.join l sep, l)
theorem t_Join (l : List (List UInt8)) (sep : List UInt8) (v : Nat) (h : (Lib.join l sep).length ≤ 4294967296) : Go.Eng.Spec Tryd.prog 86 [.sl 0 v, .d (.s sep)] [.own 9 1 v (eStrs l)] (fun sv Lo => ∃ v'0, sv = .d (.s (joinL l sep).1) ∧ Lo = [.own 9 1 v'0 (eStrs (joinL l sep).2)]) := by
  refine Spec_strL ⟨_, Tryd.func86, by kernel_rfl, by kernel_rfl⟩ (l := Lib.join l sep) (by rw [big_eq]; omega) ⟨v, rfl, rfl⟩ fun A S env w vs hH hv => ?_
  match vs, hv with
  | [a, b], hv =>
    simp only [SVrs, and_true] at hv
    obtain ⟨hv1, hv2⟩ := hv
    rw [SVr.str] at hv2
    obtain ⟨_, rfl⟩ := hv2
    simp only [SVr] at hv1
    obtain ⟨hv, o, k1, k2, k3, k5, k4⟩ := hv1
    simp only [List.getElem?_cons_zero, Option.some.injEq] at k2
    subst k2
    obtain rfl := k4 rfl
    obtain ⟨m1, m2, ⟨xs, m3, m4⟩, _⟩ := hH.objs 0 _ _ rfl k1
    have hlen : (eStrs l).length = l.length := Enc.len l
    rcases m3.2 with ⟨rfl, h0⟩ | ⟨g, cap, cur, rfl, r1, r2, r3, r4, r5, r6⟩
    · have : l = [] := List.eq_nil_of_length_eq_zero (by omega)
      subst this
      refine (Tryd.strings_Join_none none 0 _ w).mono ?_
      rintro e w' ⟨rfl, rfl⟩
      exact ⟨rfl, Below.refl _ _⟩
    · have hg : g < w.heap.size := (Array.getElem?_eq_some_iff.1 r2).1
      have key : ∀ (ls : List (List UInt8)) (cs : List Value), Trs w (eStrs ls) cs → ∀ (j : Nat) x, ls[j]? = some x → cs[j]? = some (.string ⟨x.toArray⟩) := by
        intro ls
        induction ls with
        | nil => intro cs _ j x h; simp at h
        | cons y ls ih =>
          intro cs hc j x hj
          simp only [eStrs, List.map_cons, Trs, Tr, U.sz] at hc
          obtain ⟨⟨_, c1⟩, c2⟩ := hc
          cases cs with
          | nil => simp at c1
          | cons c cs =>
            simp only [List.take_succ_cons, List.take_zero, List.cons.injEq, and_true, List.drop_succ_cons, List.drop_zero] at c1 c2
            cases j with
            | zero => simp only [List.getElem?_cons_zero, Option.some.injEq] at hj; subst hj; simp [c1]
            | succ j => simp only [List.getElem?_cons_succ] at hj ⊢; exact ih cs c2 j x hj
      have hmap : (l.map fun x => (⟨x.toArray⟩ : ByteArray)).map (·.data.toList) = l := by simp [Function.comp_def]
      have := Tryd.strings_Join g 0 cap (l.map fun x => ⟨x.toArray⟩) ⟨sep.toArray⟩ w (fun j x hj => ?_) hg (by rw [List.length_map, ← hlen]; rw [big_eq] at m1; exact m1) (by rw [List.length_map, ← hlen]; exact r3) (by rw [hmap]; simp only [List.toList_toArray]; omega)
      · rw [hmap, List.length_map, ← hlen] at this
        simp only [List.toList_toArray] at this
        exact this
      · rw [List.getElem?_map, Option.map_eq_some_iff] at hj
        obtain ⟨y, hy, rfl⟩ := hj
        have hx := m3.cells (g := g) rfl j _ (key l xs m4 j y hy)
        rcases Nat.eq_zero_or_pos j with h0 | h0
        · subst h0; simpa [Addr.add] using hx
        · have h0 : j ≠ 0 := by omega
          simpa [Addr.add, h0] using hx
end Go.Proofs.YthojhakapbfbiaaDoor

set_option linter.unusedVariables false
set_option linter.unusedSimpArgs false
namespace Go.Proofs.YthojhakapbfbiaaDoor
open Go Go.Eng Go.RowKit
attribute [local irreducible] V VO VQ VY Quiet QR SpecP SpecO MSpec Rng PostP PostO PostG

instance (n : Int) : Decidable (inRange n) := inferInstanceAs (Decidable (_ ∧ _))
def dgs (u : Nat) : List UInt8 := if u = 0 then [] else Lib.decDigits u
theorem dgs_step {u : Nat} (h : u ≠ 0) : dgs u = dgs (u / 10) ++ [UInt8.ofNat (48 + u % 10)] := by
  unfold dgs
  rw [if_neg h, Lib.decDigits]
  by_cases h1 : u < 10
  · rw [dif_pos h1, if_pos (by omega), Nat.mod_eq_of_lt h1]; rfl
  · rw [dif_neg h1, if_neg (by omega)]
theorem dgs_len {n : Int} (h : inRange n) : (dgs n.natAbs).length ≤ 21 := by
  unfold dgs
  split
  · simp
  · have := Lib.itoa_length_le n h.1 h.2
    unfold Lib.itoa at this
    split at this
    · simp at this; omega
    · have e : n.natAbs = n.toNat := by omega
      rw [e]; exact this
theorem itoa_neg {n : Int} (h : n < 0) : Lib.itoa n = 45 :: dgs n.natAbs := by unfold Lib.itoa dgs; rw [if_pos h, if_neg (by omega)]
theorem itoa_pos {n : Int} (h : 0 < n) : Lib.itoa n = dgs n.natAbs := by unfold Lib.itoa dgs; rw [if_neg (by omega), if_neg (by omega)]; congr 1; omega
theorem itoa_zero : Lib.itoa 0 = [48] := by unfold Lib.itoa; rw [if_neg (by omega), Lib.decDigits]; rfl
theorem digit_neg {m : Int} (h : m.tmod 10 < 0) : IntKind.i64.wrap (0 - m.tmod 10) = ((m.natAbs % 10 : Nat) : Int) := by
  have e : m.tmod 10 = -((m.natAbs % 10 : Nat) : Int) := by
    rcases Int.natAbs_eq m with h1 | h1
    · rw [h1] at h
      have := Int.tmod_nonneg (a := (m.natAbs : Int)) 10 (by omega)
      omega
    · conv => lhs; rw [h1]
      rw [Int.neg_tmod]
      have : ((m.natAbs : Int)).tmod 10 = ((m.natAbs % 10 : Nat) : Int) := by rw [show (10 : Int) = ((10 : Nat) : Int) from rfl, ← Int.ofNat_tmod]; 
      rw [this]
  rw [e, wrap_in _ (by omega) (by omega)]
  omega
theorem digit_pos {m : Int} (h : ¬ m.tmod 10 < 0) : m.tmod 10 = ((m.natAbs % 10 : Nat) : Int) := by
  have key : ((m.natAbs : Int)).tmod 10 = ((m.natAbs % 10 : Nat) : Int) := by rw [show (10 : Int) = ((10 : Nat) : Int) from rfl, ← Int.ofNat_tmod]
  rcases Int.natAbs_eq m with h1 | h1
  · conv => lhs; rw [h1]
    exact key
  · have e : m.tmod 10 = -((m.natAbs % 10 : Nat) : Int) := by
      conv => lhs; rw [h1]
      rw [Int.neg_tmod, key]
    omega
theorem div_ten (m : Int) : (m.tdiv 10).natAbs = m.natAbs / 10 := by simp [Int.natAbs_tdiv]; rfl
theorem div_range {m : Int} (h : inRange m) : inRange (m.tdiv 10) ∧ IntKind.i64.wrap (m.tdiv 10) = m.tdiv 10 := by
  have := div_ten m
  have hr : inRange (m.tdiv 10) := by
    obtain ⟨h1, h2⟩ := h
    unfold inRange
    omega
  exact ⟨hr, wrap_in _ hr.1 hr.2⟩
theorem byte_of (u : Nat) : UInt8.ofNat (IntKind.u8.wrap (IntKind.i64.wrap (48 + ((u % 10 : Nat) : Int)))).toNat = UInt8.ofNat (48 + u % 10) := by
  have : u % 10 < 10 := Nat.mod_lt _ (by decide)
  generalize u % 10 = k at this
  match k, this with
  | 0, _ | 1, _ | 2, _ | 3, _ | 4, _ | 5, _ | 6, _ | 7, _ | 8, _ | 9, _ => rfl
/-- What the loop's round puts ahead. -/
theorem round_eq {n m : Int} {out : List UInt8} (hm : m ≠ 0) (h : dgs n.natAbs = dgs m.natAbs ++ out) : dgs n.natAbs = dgs (m.tdiv 10).natAbs ++ ([UInt8.ofNat (48 + m.natAbs % 10)] ++ out) := by
  rw [h, dgs_step (u := m.natAbs) (by omega), div_ten, List.append_assoc]
set_option maxHeartbeats 4000000 in
theorem t_sFormatInt (n : Int) (hn : inRange n) : SpecP Tryd.prog 32 [.d (.i .i64 n)] [.s (Lib.itoa n)] := by
  refine SpecP_intro Tryd.func32 rfl (by kernel_rfl) rfl fun A _ => ?_
  refine goL ?_
  refine V_cb (fun c1 => ?_) (fun c1 => ?_)
  · have : n = 0 := by simpa using c1
    subst this
    rw [itoa_zero]
    refine goL ?_
    refine V_ret ?_
    exact R_rP
  refine V_skip ?_
  show V _ _ _ _ _
  have hn0 : n ≠ 0 := by simpa using c1
  refine goL ?_
  refine V_seq (V_block ?_)
  refine V_loop1 (fun (x : Int × List UInt8) => ⟨[(0, .d (.i .i64 x.1)), (2, .d (.s [])), (3, .d (.b (decide (n < 0)))), (4, .d (.s x.2))], [], Tryd.f32.ntmps⟩) (fun x => inRange x.1 ∧ dgs n.natAbs = dgs x.1.natAbs ++ x.2) (fun x => x.1.natAbs) (n, []) ⟨rfl, ⟨⟨rfl, rfl⟩, ⟨rfl, rfl⟩, ⟨rfl, rfl⟩, ⟨rfl, rfl⟩, trivial⟩, ⟨_, rfl⟩, rfl⟩ ⟨hn, by simp⟩ ?_
  rintro ⟨m, out⟩ ⟨hr, hd⟩
  have hl := dgs_len hn
  have hol : out.length ≤ 21 := by rw [hd] at hl; simp at hl; omega
  dsimp only
  refine goL ?_
  refine V_cb (fun c2 => ?_) (fun c2 => ?_)
  · have hm : m ≠ 0 := by simpa using c2
    refine V_skip ?_
    show V _ _ _ _ _
    refine V_block ?_
    refine goL ?_
    refine VO_k Q_remT ?_
    refine goL ?_
    refine V_cb (fun c3 => ?_) (fun c3 => ?_)
    · have hd3 := digit_neg (of_decide_eq_true c3)
      refine goL ?_
      refine VO_r QR_ar ?_
      rw [hd3]
      refine goL ?_
      refine VO_r QR_ar ?_
      refine goL ?_
      refine VO_k (Q_convI rfl Tryd.underlying3 Tryd.underlying5) ?_
      refine goL ?_
      refine VO_l1 (u := .i .u8 _) ?_
      refine VO_k (Q_convB1 rfl rfl Tryd.underlying65 Tryd.underlying5 Tryd.underlying9) ?_
      rw [byte_of]
      refine goL ?_
      refine VO_r (QR_cat (a := [_]) (b := out) (by simp; omega)) ?_
      refine goL ?_
      refine VO_k (Q_quoT (div_range hr).2) ?_
      refine goL ?_
      exact ⟨(m.tdiv 10, _), ⟨(div_range hr).1, round_eq hm hd⟩, by have := div_ten m; simp only; omega, ⟨rfl, ⟨⟨rfl, rfl⟩, ⟨rfl, rfl⟩, ⟨rfl, rfl⟩, ⟨rfl, rfl⟩, trivial⟩, ⟨_, rfl⟩, rfl⟩⟩
    · have hd3 := digit_pos (of_decide_eq_false c3)
      refine V_skip ?_
      show V _ _ _ _ _
      refine goL ?_
      rw [hd3]
      refine VO_r QR_ar ?_
      refine goL ?_
      refine VO_k (Q_convI rfl Tryd.underlying3 Tryd.underlying5) ?_
      refine goL ?_
      refine VO_l1 (u := .i .u8 _) ?_
      refine VO_k (Q_convB1 rfl rfl Tryd.underlying65 Tryd.underlying5 Tryd.underlying9) ?_
      rw [byte_of]
      refine goL ?_
      refine VO_r (QR_cat (a := [_]) (b := out) (by simp; omega)) ?_
      refine goL ?_
      refine VO_k (Q_quoT (div_range hr).2) ?_
      refine goL ?_
      exact ⟨(m.tdiv 10, _), ⟨(div_range hr).1, round_eq hm hd⟩, by have := div_ten m; simp only; omega, ⟨rfl, ⟨⟨rfl, rfl⟩, ⟨rfl, rfl⟩, ⟨rfl, rfl⟩, ⟨rfl, rfl⟩, trivial⟩, ⟨_, rfl⟩, rfl⟩⟩
  · have hm : m = 0 := by simpa using c2
    subst hm
    refine V_exit ?_
    show V _ _ _ _ _
    refine goL ?_
    simp [dgs] at hd
    refine V_cb (fun c3 => ?_) (fun c3 => ?_)
    · have h0 := of_decide_eq_true c3
      rw [itoa_neg h0, show dgs n.natAbs = out by simp [dgs, hd]]
      refine goL ?_
      refine VO_r (QR_cat (a := [45]) (b := out) (by simp; omega)) ?_
      refine goL ?_
      refine V_ret ?_
      exact R_rP
    · have h0 := of_decide_eq_false c3
      rw [itoa_pos (by omega), show dgs n.natAbs = out by simp [dgs, hd]]
      refine V_skip ?_
      show V _ _ _ _ _
      refine goL ?_
      refine V_ret ?_
      exact R_rP
end Go.Proofs.YthojhakapbfbiaaDoor
