/- The engine, part 11: shapes of data, weights. Written by a program of mine (shapes.py) from the mirrors of the program's types. -/
import Derived.Test.YtopgfacbgbmloaaEng10
namespace Go.Eng
open Go Go.RowKit
inductive Sh where
  | int
  | bool
  | str
  | st (n : Nat)
  | sl (s : Sh)
def flds : Nat → List Sh
  | 0 => [.str, .sl (.st 0)]
  | 1 => [.int, .str, .sl (.st 1)]
  | 2 => [.str, .st 1]
  | 3 => [.str, .sl (.str), .st 4]
  | 4 => [.int, .str, .str, .int, .st 1, .sl (.st 4), .sl (.st 3)]
  | 5 => [.str, .sl (.st 1), .st 1, .bool, .sl (.str), .st 4]
  | 6 => [.str, .sl (.str), .bool, .bool, .sl (.st 5)]
  | 7 => [.str, .sl (.st 1)]
  | 8 => [.str, .sl (.str), .sl (.st 7)]
  | 9 => [.str, .st 1]
  | 10 => [.str, .sl (.str), .st 4]
  | 11 => [.str, .sl (.str), .st 1, .sl (.st 9), .bool, .bool, .st 1, .sl (.st 10)]
  | 12 => [.str, .st 1]
  | 13 => [.str, .sl (.str), .sl (.st 9), .sl (.st 12), .st 1, .st 4]
  | 14 => [.str, .sl (.str), .sl (.st 6), .sl (.st 8), .sl (.st 11), .sl (.st 13)]
  | 15 => [.sl (.st 14)]
  | 16 => [.int, .int]
  | 17 => [.st 9, .int, .sl (.int)]
  | 18 => [.int, .int, .st 16, .sl (.st 18)]
  | 19 => [.sl (.st 9), .sl (.int), .sl (.st 18)]
  | 20 => [.str, .sl (.str), .st 21]
  | 21 => [.int, .str, .str, .int, .st 1, .sl (.st 1), .sl (.st 18), .sl (.st 21), .sl (.st 20)]
  | 22 => [.st 1, .st 1, .int]
  | 23 => [.st 9, .int]
  | 24 => [.int, .int, .int, .sl (.st 2), .sl (.st 22), .sl (.st 23), .int, .int]
  | 25 => [.int, .int, .int, .int, .sl (.str), .sl (.st 9), .sl (.st 12), .st 1, .st 21]
  | 26 => [.int, .st 16, .sl (.int), .sl (.st 26)]
  | 27 => [.int, .int, .str, .st 26, .sl (.st 27)]
  | 28 => [.int, .sl (.st 1), .sl (.str), .st 21]
  | 29 => [.str, .str, .int]
  | 30 => [.str, .st 1, .sl (.st 29)]
  | 31 => [.sl (.st 28), .sl (.st 30)]
  | 32 => [.int, .int, .int, .str, .str]
  | 33 => [.int, .sl (.st 32)]
  | 34 => [.sl (.st 33), .sl (.st 30)]
  | 35 => [.int, .int, .int, .sl (.st 27)]
  | 36 => [.sl (.st 27), .sl (.st 35), .int, .int, .bool]
  | 37 => [.int, .int, .int, .int, .int, .int]
  | 38 => [.str, .str, .sl (.st 25), .sl (.st 37)]
  | 39 => [.sl (.st 38)]
  | _ => []
def cz : Nat → Nat
  | 0 => 2
  | 1 => 3
  | 2 => 4
  | 3 => 11
  | 4 => 9
  | 5 => 16
  | 6 => 5
  | 7 => 2
  | 8 => 3
  | 9 => 4
  | 10 => 11
  | 11 => 12
  | 12 => 4
  | 13 => 16
  | 14 => 6
  | 15 => 1
  | 16 => 2
  | 17 => 6
  | 18 => 5
  | 19 => 3
  | 20 => 13
  | 21 => 11
  | 22 => 7
  | 23 => 5
  | 24 => 8
  | 25 => 21
  | 26 => 5
  | 27 => 9
  | 28 => 14
  | 29 => 3
  | 30 => 5
  | 31 => 2
  | 32 => 5
  | 33 => 2
  | 34 => 2
  | 35 => 4
  | 36 => 5
  | 37 => 6
  | 38 => 4
  | 39 => 1
  | _ => 0
def shz : Sh → Nat
  | .st n => cz n
  | _ => 1
theorem cz_ok : ∀ n, ((flds n).map shz).sum = cz n
  | 0 => rfl
  | 1 => rfl
  | 2 => rfl
  | 3 => rfl
  | 4 => rfl
  | 5 => rfl
  | 6 => rfl
  | 7 => rfl
  | 8 => rfl
  | 9 => rfl
  | 10 => rfl
  | 11 => rfl
  | 12 => rfl
  | 13 => rfl
  | 14 => rfl
  | 15 => rfl
  | 16 => rfl
  | 17 => rfl
  | 18 => rfl
  | 19 => rfl
  | 20 => rfl
  | 21 => rfl
  | 22 => rfl
  | 23 => rfl
  | 24 => rfl
  | 25 => rfl
  | 26 => rfl
  | 27 => rfl
  | 28 => rfl
  | 29 => rfl
  | 30 => rfl
  | 31 => rfl
  | 32 => rfl
  | 33 => rfl
  | 34 => rfl
  | 35 => rfl
  | 36 => rfl
  | 37 => rfl
  | 38 => rfl
  | 39 => rfl
  | _ + 40 => rfl
def inRange (n : Int) : Prop := -9223372036854775808 ≤ n ∧ n ≤ 9223372036854775807
mutual
def wt : Sh → U → Prop
  | .int, .i k n => k = .i64 ∧ inRange n
  | .bool, .b _ => True
  | .str, .s l => l.length ≤ big
  | .st n, .st us => wts (flds n) us
  | .sl s, .sl z us => z = shz s ∧ us.length ≤ big ∧ wta s us
  | _, _ => False
def wts : List Sh → List U → Prop
  | [], [] => True
  | s :: ss, u :: us => wt s u ∧ wts ss us
  | _, _ => False
def wta : Sh → List U → Prop
  | _, [] => True
  | s, u :: us => wt s u ∧ wta s us
end
theorem wta_iff {s : Sh} : ∀ {us : List U}, wta s us ↔ ∀ u ∈ us, wt s u
  | [] => by simp [wta]
  | u :: us => by simp [wta, wta_iff (us := us)]
theorem inv_int {u : U} (h : wt .int u) : ∃ n, u = .i .i64 n ∧ inRange n := by
  cases u with
  | i k n => obtain ⟨rfl, h⟩ := h; exact ⟨n, rfl, h⟩
  | _ => exact h.elim
theorem inv_bool {u : U} (h : wt .bool u) : ∃ x, u = .b x := by
  cases u with
  | b x => exact ⟨x, rfl⟩
  | _ => exact h.elim
theorem inv_str {u : U} (h : wt .str u) : ∃ l, u = .s l ∧ l.length ≤ big := by
  cases u with
  | s l => exact ⟨l, rfl, h⟩
  | _ => exact h.elim
theorem inv_st {n : Nat} {u : U} (h : wt (.st n) u) : ∃ us, u = .st us ∧ wts (flds n) us := by
  cases u with
  | st us => exact ⟨us, rfl, h⟩
  | _ => exact h.elim
theorem inv_sl {s : Sh} {u : U} (h : wt (.sl s) u) : ∃ us, u = .sl (shz s) us ∧ us.length ≤ big ∧ ∀ x ∈ us, wt s x := by
  cases u with
  | sl z us => obtain ⟨rfl, h1, h2⟩ := h; exact ⟨us, rfl, h1, wta_iff.1 h2⟩
  | _ => exact h.elim
theorem inv_cons {s : Sh} {ss : List Sh} {us : List U} (h : wts (s :: ss) us) : ∃ u vs, us = u :: vs ∧ wt s u ∧ wts ss vs := by
  cases us with
  | nil => exact h.elim
  | cons u vs => exact ⟨u, vs, rfl, h.1, h.2⟩
theorem inv_nil {us : List U} (h : wts [] us) : us = [] := by
  cases us with
  | nil => rfl
  | cons u vs => exact h.elim
mutual
theorem wt_sz : ∀ (u : U) (s : Sh), wt s u → u.sz = shz s
  | .i k n, s, h => by cases s <;> first | rfl | exact h.elim
  | .b x, s, h => by cases s <;> first | rfl | exact h.elim
  | .s l, s, h => by cases s <;> first | rfl | exact h.elim
  | .sl z us, s, h => by cases s <;> first | rfl | exact h.elim
  | .st us, s, h => by
    cases s with
    | st n =>
      simp only [U.sz, shz]
      rw [← cz_ok n]
      exact wts_sz us (flds n) h
    | _ => exact h.elim
theorem wts_sz : ∀ (us : List U) (ss : List Sh), wts ss us → U.szs us = (ss.map shz).sum
  | [], ss, h => by
    cases ss with
    | nil => rfl
    | cons s ss => exact h.elim
  | u :: us, ss, h => by
    cases ss with
    | nil => exact h.elim
    | cons s ss =>
      simp only [U.szs, List.map_cons, List.sum_cons]
      rw [wt_sz u s h.1, wts_sz us ss h.2]
end
theorem wt_isSt {n : Nat} {u : U} (h : wt (.st n) u) : u.isSt = true := by
  obtain ⟨us, rfl, _⟩ := inv_st h
  rfl
/-! ### weights: what the size check of the laws counts -/
mutual
def W : U → Nat
  | .i _ _ => 0
  | .b _ => 0
  | .s l => l.length
  | .st us => Ws us
  | .sl _ us => us.length + Ws us
def Ws : List U → Nat
  | [] => 0
  | u :: us => W u + Ws us
end
theorem Ws_append : ∀ (us vs : List U), Ws (us ++ vs) = Ws us + Ws vs
  | [], vs => by simp [Ws]
  | u :: us, vs => by simp [Ws, Ws_append us vs, Nat.add_assoc]
theorem Ws_take_succ {us : List U} {k : Nat} {u : U} (h : us[k]? = some u) : Ws (us.take (k + 1)) = Ws (us.take k) + W u := by
  obtain ⟨hk, rfl⟩ := List.getElem?_eq_some_iff.1 h
  rw [List.take_succ_eq_append_getElem hk, Ws_append]
  simp [Ws]
theorem Ws_take_le (us : List U) (k : Nat) : Ws (us.take k) ≤ Ws us := by
  have := Ws_append (us.take k) (us.drop k)
  rw [List.take_append_drop] at this
  omega
theorem W_le_of_mem : ∀ {us : List U} {u : U}, u ∈ us → W u ≤ Ws us
  | v :: us, u, h => by
    simp only [Ws]
    rcases List.mem_cons.1 h with rfl | h
    · omega
    · have := W_le_of_mem h; omega
/-! ### how many nodes -/
mutual
def U.nn : U → Nat
  | .i _ _ => 1
  | .b _ => 1
  | .s _ => 1
  | .st us => U.nns us + 1
  | .sl _ us => U.nns us + 1
def U.nns : List U → Nat
  | [] => 0
  | u :: us => u.nn + U.nns us
end
theorem nn_of_mem : ∀ {us : List U} {u : U}, u ∈ us → u.nn ≤ U.nns us
  | v :: us, u, h => by
    simp only [U.nns]
    rcases List.mem_cons.1 h with rfl | h
    · omega
    · have := nn_of_mem h; omega
/-- Induction on the number of nodes. -/
theorem U.ind {M : U → Prop} (h : ∀ u, (∀ v : U, v.nn < u.nn → M v) → M u) (u : U) : M u := by
  have : ∀ n (u : U), u.nn ≤ n → M u := by
    intro n
    induction n with
    | zero => intro u hu; cases u <;> simp [U.nn] at hu
    | succ n ih => intro u hu; exact h u (fun v hv => ih v (by omega))
  exact this u.nn u (Nat.le_refl _)
open Classical in
noncomputable def deq (u v : U) : Bool := decide (u = v)
theorem deq_true {u v : U} : deq u v = true ↔ u = v := by simp [deq]
theorem deq_false {u v : U} : deq u v = false ↔ u ≠ v := by simp [deq]
theorem deq_self (u : U) : deq u u = true := deq_true.2 rfl
/-- A size check that went through. -/
theorem ite_pos {c : Prop} [Decidable c] {a : Int} (h : ¬ (if c then a else -1) < 0) : (if c then a else -1) = a ∧ c := by
  split at h
  · rename_i hc; exact ⟨if_pos hc, hc⟩
  · omega

theorem inv_SExpr {u : U} (h : wt (.st 0) u) : ∃ (f0 : List UInt8) (f1 : List U), u = .st [.s f0, .sl 2 f1] ∧ f0.length ≤ big ∧ (f1.length ≤ big ∧ ∀ x ∈ f1, wt (.st 0) x) := by
  obtain ⟨us0, rfl, h0⟩ := inv_st h
  obtain ⟨x0, us1, rfl, q0, h1⟩ := inv_cons h0
  obtain ⟨f0, rfl, p0⟩ := inv_str q0
  obtain ⟨x1, us2, rfl, q1, h2⟩ := inv_cons h1
  obtain ⟨f1, rfl, p1⟩ := inv_sl q1
  obtain rfl := inv_nil h2
  exact ⟨f0, f1, rfl, p0, p1⟩
theorem inv_Type {u : U} (h : wt (.st 1) u) : ∃ (f0 : Int) (f1 : List UInt8) (f2 : List U), u = .st [.i .i64 f0, .s f1, .sl 3 f2] ∧ inRange f0 ∧ f1.length ≤ big ∧ (f2.length ≤ big ∧ ∀ x ∈ f2, wt (.st 1) x) := by
  obtain ⟨us0, rfl, h0⟩ := inv_st h
  obtain ⟨x0, us1, rfl, q0, h1⟩ := inv_cons h0
  obtain ⟨f0, rfl, p0⟩ := inv_int q0
  obtain ⟨x1, us2, rfl, q1, h2⟩ := inv_cons h1
  obtain ⟨f1, rfl, p1⟩ := inv_str q1
  obtain ⟨x2, us3, rfl, q2, h3⟩ := inv_cons h2
  obtain ⟨f2, rfl, p2⟩ := inv_sl q2
  obtain rfl := inv_nil h3
  exact ⟨f0, f1, f2, rfl, p0, p1, p2⟩
theorem inv_Binding {u : U} (h : wt (.st 2) u) : ∃ (f0 : List UInt8) (f1 : U), u = .st [.s f0, f1] ∧ f0.length ≤ big ∧ wt (.st 1) f1 := by
  obtain ⟨us0, rfl, h0⟩ := inv_st h
  obtain ⟨x0, us1, rfl, q0, h1⟩ := inv_cons h0
  obtain ⟨f0, rfl, p0⟩ := inv_str q0
  obtain ⟨x1, us2, rfl, q1, h2⟩ := inv_cons h1
  have p1 := q1
  obtain rfl := inv_nil h2
  exact ⟨f0, x1, rfl, p0, p1⟩
theorem inv_Arm {u : U} (h : wt (.st 3) u) : ∃ (f0 : List UInt8) (f1 : List U) (f2 : U), u = .st [.s f0, .sl 1 f1, f2] ∧ f0.length ≤ big ∧ (f1.length ≤ big ∧ ∀ x ∈ f1, wt (.str) x) ∧ wt (.st 4) f2 := by
  obtain ⟨us0, rfl, h0⟩ := inv_st h
  obtain ⟨x0, us1, rfl, q0, h1⟩ := inv_cons h0
  obtain ⟨f0, rfl, p0⟩ := inv_str q0
  obtain ⟨x1, us2, rfl, q1, h2⟩ := inv_cons h1
  obtain ⟨f1, rfl, p1⟩ := inv_sl q1
  obtain ⟨x2, us3, rfl, q2, h3⟩ := inv_cons h2
  have p2 := q2
  obtain rfl := inv_nil h3
  exact ⟨f0, f1, x2, rfl, p0, p1, p2⟩
theorem inv_Expr {u : U} (h : wt (.st 4) u) : ∃ (f0 : Int) (f1 : List UInt8) (f2 : List UInt8) (f3 : Int) (f4 : U) (f5 : List U) (f6 : List U), u = .st [.i .i64 f0, .s f1, .s f2, .i .i64 f3, f4, .sl 9 f5, .sl 11 f6] ∧ inRange f0 ∧ f1.length ≤ big ∧ f2.length ≤ big ∧ inRange f3 ∧ wt (.st 1) f4 ∧ (f5.length ≤ big ∧ ∀ x ∈ f5, wt (.st 4) x) ∧ (f6.length ≤ big ∧ ∀ x ∈ f6, wt (.st 3) x) := by
  obtain ⟨us0, rfl, h0⟩ := inv_st h
  obtain ⟨x0, us1, rfl, q0, h1⟩ := inv_cons h0
  obtain ⟨f0, rfl, p0⟩ := inv_int q0
  obtain ⟨x1, us2, rfl, q1, h2⟩ := inv_cons h1
  obtain ⟨f1, rfl, p1⟩ := inv_str q1
  obtain ⟨x2, us3, rfl, q2, h3⟩ := inv_cons h2
  obtain ⟨f2, rfl, p2⟩ := inv_str q2
  obtain ⟨x3, us4, rfl, q3, h4⟩ := inv_cons h3
  obtain ⟨f3, rfl, p3⟩ := inv_int q3
  obtain ⟨x4, us5, rfl, q4, h5⟩ := inv_cons h4
  have p4 := q4
  obtain ⟨x5, us6, rfl, q5, h6⟩ := inv_cons h5
  obtain ⟨f5, rfl, p5⟩ := inv_sl q5
  obtain ⟨x6, us7, rfl, q6, h7⟩ := inv_cons h6
  obtain ⟨f6, rfl, p6⟩ := inv_sl q6
  obtain rfl := inv_nil h7
  exact ⟨f0, f1, f2, f3, x4, f5, f6, rfl, p0, p1, p2, p3, p4, p5, p6⟩
theorem inv_Signature {u : U} (h : wt (.st 5) u) : ∃ (f0 : List UInt8) (f1 : List U) (f2 : U) (f3 : Bool) (f4 : List U) (f5 : U), u = .st [.s f0, .sl 3 f1, f2, .b f3, .sl 1 f4, f5] ∧ f0.length ≤ big ∧ (f1.length ≤ big ∧ ∀ x ∈ f1, wt (.st 1) x) ∧ wt (.st 1) f2 ∧ (f4.length ≤ big ∧ ∀ x ∈ f4, wt (.str) x) ∧ wt (.st 4) f5 := by
  obtain ⟨us0, rfl, h0⟩ := inv_st h
  obtain ⟨x0, us1, rfl, q0, h1⟩ := inv_cons h0
  obtain ⟨f0, rfl, p0⟩ := inv_str q0
  obtain ⟨x1, us2, rfl, q1, h2⟩ := inv_cons h1
  obtain ⟨f1, rfl, p1⟩ := inv_sl q1
  obtain ⟨x2, us3, rfl, q2, h3⟩ := inv_cons h2
  have p2 := q2
  obtain ⟨x3, us4, rfl, q3, h4⟩ := inv_cons h3
  obtain ⟨f3, rfl⟩ := inv_bool q3
  obtain ⟨x4, us5, rfl, q4, h5⟩ := inv_cons h4
  obtain ⟨f4, rfl, p4⟩ := inv_sl q4
  obtain ⟨x5, us6, rfl, q5, h6⟩ := inv_cons h5
  have p5 := q5
  obtain rfl := inv_nil h6
  exact ⟨f0, f1, x2, f3, f4, x5, rfl, p0, p1, p2, p4, p5⟩
theorem inv_Trait {u : U} (h : wt (.st 6) u) : ∃ (f0 : List UInt8) (f1 : List U) (f2 : Bool) (f3 : Bool) (f4 : List U), u = .st [.s f0, .sl 1 f1, .b f2, .b f3, .sl 16 f4] ∧ f0.length ≤ big ∧ (f1.length ≤ big ∧ ∀ x ∈ f1, wt (.str) x) ∧ (f4.length ≤ big ∧ ∀ x ∈ f4, wt (.st 5) x) := by
  obtain ⟨us0, rfl, h0⟩ := inv_st h
  obtain ⟨x0, us1, rfl, q0, h1⟩ := inv_cons h0
  obtain ⟨f0, rfl, p0⟩ := inv_str q0
  obtain ⟨x1, us2, rfl, q1, h2⟩ := inv_cons h1
  obtain ⟨f1, rfl, p1⟩ := inv_sl q1
  obtain ⟨x2, us3, rfl, q2, h3⟩ := inv_cons h2
  obtain ⟨f2, rfl⟩ := inv_bool q2
  obtain ⟨x3, us4, rfl, q3, h4⟩ := inv_cons h3
  obtain ⟨f3, rfl⟩ := inv_bool q3
  obtain ⟨x4, us5, rfl, q4, h5⟩ := inv_cons h4
  obtain ⟨f4, rfl, p4⟩ := inv_sl q4
  obtain rfl := inv_nil h5
  exact ⟨f0, f1, f2, f3, f4, rfl, p0, p1, p4⟩
theorem inv_Constructor {u : U} (h : wt (.st 7) u) : ∃ (f0 : List UInt8) (f1 : List U), u = .st [.s f0, .sl 3 f1] ∧ f0.length ≤ big ∧ (f1.length ≤ big ∧ ∀ x ∈ f1, wt (.st 1) x) := by
  obtain ⟨us0, rfl, h0⟩ := inv_st h
  obtain ⟨x0, us1, rfl, q0, h1⟩ := inv_cons h0
  obtain ⟨f0, rfl, p0⟩ := inv_str q0
  obtain ⟨x1, us2, rfl, q1, h2⟩ := inv_cons h1
  obtain ⟨f1, rfl, p1⟩ := inv_sl q1
  obtain rfl := inv_nil h2
  exact ⟨f0, f1, rfl, p0, p1⟩
theorem inv_DataType {u : U} (h : wt (.st 8) u) : ∃ (f0 : List UInt8) (f1 : List U) (f2 : List U), u = .st [.s f0, .sl 1 f1, .sl 2 f2] ∧ f0.length ≤ big ∧ (f1.length ≤ big ∧ ∀ x ∈ f1, wt (.str) x) ∧ (f2.length ≤ big ∧ ∀ x ∈ f2, wt (.st 7) x) := by
  obtain ⟨us0, rfl, h0⟩ := inv_st h
  obtain ⟨x0, us1, rfl, q0, h1⟩ := inv_cons h0
  obtain ⟨f0, rfl, p0⟩ := inv_str q0
  obtain ⟨x1, us2, rfl, q1, h2⟩ := inv_cons h1
  obtain ⟨f1, rfl, p1⟩ := inv_sl q1
  obtain ⟨x2, us3, rfl, q2, h3⟩ := inv_cons h2
  obtain ⟨f2, rfl, p2⟩ := inv_sl q2
  obtain rfl := inv_nil h3
  exact ⟨f0, f1, f2, rfl, p0, p1, p2⟩
theorem inv_Bound {u : U} (h : wt (.st 9) u) : ∃ (f0 : List UInt8) (f1 : U), u = .st [.s f0, f1] ∧ f0.length ≤ big ∧ wt (.st 1) f1 := by
  obtain ⟨us0, rfl, h0⟩ := inv_st h
  obtain ⟨x0, us1, rfl, q0, h1⟩ := inv_cons h0
  obtain ⟨f0, rfl, p0⟩ := inv_str q0
  obtain ⟨x1, us2, rfl, q1, h2⟩ := inv_cons h1
  have p1 := q1
  obtain rfl := inv_nil h2
  exact ⟨f0, x1, rfl, p0, p1⟩
theorem inv_Method {u : U} (h : wt (.st 10) u) : ∃ (f0 : List UInt8) (f1 : List U) (f2 : U), u = .st [.s f0, .sl 1 f1, f2] ∧ f0.length ≤ big ∧ (f1.length ≤ big ∧ ∀ x ∈ f1, wt (.str) x) ∧ wt (.st 4) f2 := by
  obtain ⟨us0, rfl, h0⟩ := inv_st h
  obtain ⟨x0, us1, rfl, q0, h1⟩ := inv_cons h0
  obtain ⟨f0, rfl, p0⟩ := inv_str q0
  obtain ⟨x1, us2, rfl, q1, h2⟩ := inv_cons h1
  obtain ⟨f1, rfl, p1⟩ := inv_sl q1
  obtain ⟨x2, us3, rfl, q2, h3⟩ := inv_cons h2
  have p2 := q2
  obtain rfl := inv_nil h3
  exact ⟨f0, f1, x2, rfl, p0, p1, p2⟩
theorem inv_Instance {u : U} (h : wt (.st 11) u) : ∃ (f0 : List UInt8) (f1 : List U) (f2 : U) (f3 : List U) (f4 : Bool) (f5 : Bool) (f6 : U) (f7 : List U), u = .st [.s f0, .sl 1 f1, f2, .sl 4 f3, .b f4, .b f5, f6, .sl 11 f7] ∧ f0.length ≤ big ∧ (f1.length ≤ big ∧ ∀ x ∈ f1, wt (.str) x) ∧ wt (.st 1) f2 ∧ (f3.length ≤ big ∧ ∀ x ∈ f3, wt (.st 9) x) ∧ wt (.st 1) f6 ∧ (f7.length ≤ big ∧ ∀ x ∈ f7, wt (.st 10) x) := by
  obtain ⟨us0, rfl, h0⟩ := inv_st h
  obtain ⟨x0, us1, rfl, q0, h1⟩ := inv_cons h0
  obtain ⟨f0, rfl, p0⟩ := inv_str q0
  obtain ⟨x1, us2, rfl, q1, h2⟩ := inv_cons h1
  obtain ⟨f1, rfl, p1⟩ := inv_sl q1
  obtain ⟨x2, us3, rfl, q2, h3⟩ := inv_cons h2
  have p2 := q2
  obtain ⟨x3, us4, rfl, q3, h4⟩ := inv_cons h3
  obtain ⟨f3, rfl, p3⟩ := inv_sl q3
  obtain ⟨x4, us5, rfl, q4, h5⟩ := inv_cons h4
  obtain ⟨f4, rfl⟩ := inv_bool q4
  obtain ⟨x5, us6, rfl, q5, h6⟩ := inv_cons h5
  obtain ⟨f5, rfl⟩ := inv_bool q5
  obtain ⟨x6, us7, rfl, q6, h7⟩ := inv_cons h6
  have p6 := q6
  obtain ⟨x7, us8, rfl, q7, h8⟩ := inv_cons h7
  obtain ⟨f7, rfl, p7⟩ := inv_sl q7
  obtain rfl := inv_nil h8
  exact ⟨f0, f1, x2, f3, f4, f5, x6, f7, rfl, p0, p1, p2, p3, p6, p7⟩
theorem inv_Param {u : U} (h : wt (.st 12) u) : ∃ (f0 : List UInt8) (f1 : U), u = .st [.s f0, f1] ∧ f0.length ≤ big ∧ wt (.st 1) f1 := by
  obtain ⟨us0, rfl, h0⟩ := inv_st h
  obtain ⟨x0, us1, rfl, q0, h1⟩ := inv_cons h0
  obtain ⟨f0, rfl, p0⟩ := inv_str q0
  obtain ⟨x1, us2, rfl, q1, h2⟩ := inv_cons h1
  have p1 := q1
  obtain rfl := inv_nil h2
  exact ⟨f0, x1, rfl, p0, p1⟩
theorem inv_Function {u : U} (h : wt (.st 13) u) : ∃ (f0 : List UInt8) (f1 : List U) (f2 : List U) (f3 : List U) (f4 : U) (f5 : U), u = .st [.s f0, .sl 1 f1, .sl 4 f2, .sl 4 f3, f4, f5] ∧ f0.length ≤ big ∧ (f1.length ≤ big ∧ ∀ x ∈ f1, wt (.str) x) ∧ (f2.length ≤ big ∧ ∀ x ∈ f2, wt (.st 9) x) ∧ (f3.length ≤ big ∧ ∀ x ∈ f3, wt (.st 12) x) ∧ wt (.st 1) f4 ∧ wt (.st 4) f5 := by
  obtain ⟨us0, rfl, h0⟩ := inv_st h
  obtain ⟨x0, us1, rfl, q0, h1⟩ := inv_cons h0
  obtain ⟨f0, rfl, p0⟩ := inv_str q0
  obtain ⟨x1, us2, rfl, q1, h2⟩ := inv_cons h1
  obtain ⟨f1, rfl, p1⟩ := inv_sl q1
  obtain ⟨x2, us3, rfl, q2, h3⟩ := inv_cons h2
  obtain ⟨f2, rfl, p2⟩ := inv_sl q2
  obtain ⟨x3, us4, rfl, q3, h4⟩ := inv_cons h3
  obtain ⟨f3, rfl, p3⟩ := inv_sl q3
  obtain ⟨x4, us5, rfl, q4, h5⟩ := inv_cons h4
  have p4 := q4
  obtain ⟨x5, us6, rfl, q5, h6⟩ := inv_cons h5
  have p5 := q5
  obtain rfl := inv_nil h6
  exact ⟨f0, f1, f2, f3, x4, x5, rfl, p0, p1, p2, p3, p4, p5⟩
theorem inv_Package {u : U} (h : wt (.st 14) u) : ∃ (f0 : List UInt8) (f1 : List U) (f2 : List U) (f3 : List U) (f4 : List U) (f5 : List U), u = .st [.s f0, .sl 1 f1, .sl 5 f2, .sl 3 f3, .sl 12 f4, .sl 16 f5] ∧ f0.length ≤ big ∧ (f1.length ≤ big ∧ ∀ x ∈ f1, wt (.str) x) ∧ (f2.length ≤ big ∧ ∀ x ∈ f2, wt (.st 6) x) ∧ (f3.length ≤ big ∧ ∀ x ∈ f3, wt (.st 8) x) ∧ (f4.length ≤ big ∧ ∀ x ∈ f4, wt (.st 11) x) ∧ (f5.length ≤ big ∧ ∀ x ∈ f5, wt (.st 13) x) := by
  obtain ⟨us0, rfl, h0⟩ := inv_st h
  obtain ⟨x0, us1, rfl, q0, h1⟩ := inv_cons h0
  obtain ⟨f0, rfl, p0⟩ := inv_str q0
  obtain ⟨x1, us2, rfl, q1, h2⟩ := inv_cons h1
  obtain ⟨f1, rfl, p1⟩ := inv_sl q1
  obtain ⟨x2, us3, rfl, q2, h3⟩ := inv_cons h2
  obtain ⟨f2, rfl, p2⟩ := inv_sl q2
  obtain ⟨x3, us4, rfl, q3, h4⟩ := inv_cons h3
  obtain ⟨f3, rfl, p3⟩ := inv_sl q3
  obtain ⟨x4, us5, rfl, q4, h5⟩ := inv_cons h4
  obtain ⟨f4, rfl, p4⟩ := inv_sl q4
  obtain ⟨x5, us6, rfl, q5, h6⟩ := inv_cons h5
  obtain ⟨f5, rfl, p5⟩ := inv_sl q5
  obtain rfl := inv_nil h6
  exact ⟨f0, f1, f2, f3, f4, f5, rfl, p0, p1, p2, p3, p4, p5⟩
theorem inv_Program {u : U} (h : wt (.st 15) u) : ∃ (f0 : List U), u = .st [.sl 6 f0] ∧ (f0.length ≤ big ∧ ∀ x ∈ f0, wt (.st 14) x) := by
  obtain ⟨us0, rfl, h0⟩ := inv_st h
  obtain ⟨x0, us1, rfl, q0, h1⟩ := inv_cons h0
  obtain ⟨f0, rfl, p0⟩ := inv_sl q0
  obtain rfl := inv_nil h1
  exact ⟨f0, rfl, p0⟩
theorem inv_InstanceRef {u : U} (h : wt (.st 16) u) : ∃ (f0 : Int) (f1 : Int), u = .st [.i .i64 f0, .i .i64 f1] ∧ inRange f0 ∧ inRange f1 := by
  obtain ⟨us0, rfl, h0⟩ := inv_st h
  obtain ⟨x0, us1, rfl, q0, h1⟩ := inv_cons h0
  obtain ⟨f0, rfl, p0⟩ := inv_int q0
  obtain ⟨x1, us2, rfl, q1, h2⟩ := inv_cons h1
  obtain ⟨f1, rfl, p1⟩ := inv_int q1
  obtain rfl := inv_nil h2
  exact ⟨f0, f1, rfl, p0, p1⟩
theorem inv_Assumption {u : U} (h : wt (.st 17) u) : ∃ (f0 : U) (f1 : Int) (f2 : List U), u = .st [f0, .i .i64 f1, .sl 1 f2] ∧ wt (.st 9) f0 ∧ inRange f1 ∧ (f2.length ≤ big ∧ ∀ x ∈ f2, wt (.int) x) := by
  obtain ⟨us0, rfl, h0⟩ := inv_st h
  obtain ⟨x0, us1, rfl, q0, h1⟩ := inv_cons h0
  have p0 := q0
  obtain ⟨x1, us2, rfl, q1, h2⟩ := inv_cons h1
  obtain ⟨f1, rfl, p1⟩ := inv_int q1
  obtain ⟨x2, us3, rfl, q2, h3⟩ := inv_cons h2
  obtain ⟨f2, rfl, p2⟩ := inv_sl q2
  obtain rfl := inv_nil h3
  exact ⟨x0, f1, f2, rfl, p0, p1, p2⟩
theorem inv_Evidence {u : U} (h : wt (.st 18) u) : ∃ (f0 : Int) (f1 : Int) (f2 : U) (f3 : List U), u = .st [.i .i64 f0, .i .i64 f1, f2, .sl 5 f3] ∧ inRange f0 ∧ inRange f1 ∧ wt (.st 16) f2 ∧ (f3.length ≤ big ∧ ∀ x ∈ f3, wt (.st 18) x) := by
  obtain ⟨us0, rfl, h0⟩ := inv_st h
  obtain ⟨x0, us1, rfl, q0, h1⟩ := inv_cons h0
  obtain ⟨f0, rfl, p0⟩ := inv_int q0
  obtain ⟨x1, us2, rfl, q1, h2⟩ := inv_cons h1
  obtain ⟨f1, rfl, p1⟩ := inv_int q1
  obtain ⟨x2, us3, rfl, q2, h3⟩ := inv_cons h2
  have p2 := q2
  obtain ⟨x3, us4, rfl, q3, h4⟩ := inv_cons h3
  obtain ⟨f3, rfl, p3⟩ := inv_sl q3
  obtain rfl := inv_nil h4
  exact ⟨f0, f1, x2, f3, rfl, p0, p1, p2, p3⟩
theorem inv_Cache {u : U} (h : wt (.st 19) u) : ∃ (f0 : List U) (f1 : List U) (f2 : List U), u = .st [.sl 4 f0, .sl 1 f1, .sl 5 f2] ∧ (f0.length ≤ big ∧ ∀ x ∈ f0, wt (.st 9) x) ∧ (f1.length ≤ big ∧ ∀ x ∈ f1, wt (.int) x) ∧ (f2.length ≤ big ∧ ∀ x ∈ f2, wt (.st 18) x) := by
  obtain ⟨us0, rfl, h0⟩ := inv_st h
  obtain ⟨x0, us1, rfl, q0, h1⟩ := inv_cons h0
  obtain ⟨f0, rfl, p0⟩ := inv_sl q0
  obtain ⟨x1, us2, rfl, q1, h2⟩ := inv_cons h1
  obtain ⟨f1, rfl, p1⟩ := inv_sl q1
  obtain ⟨x2, us3, rfl, q2, h3⟩ := inv_cons h2
  obtain ⟨f2, rfl, p2⟩ := inv_sl q2
  obtain rfl := inv_nil h3
  exact ⟨f0, f1, f2, rfl, p0, p1, p2⟩
theorem inv_CoreArm {u : U} (h : wt (.st 20) u) : ∃ (f0 : List UInt8) (f1 : List U) (f2 : U), u = .st [.s f0, .sl 1 f1, f2] ∧ f0.length ≤ big ∧ (f1.length ≤ big ∧ ∀ x ∈ f1, wt (.str) x) ∧ wt (.st 21) f2 := by
  obtain ⟨us0, rfl, h0⟩ := inv_st h
  obtain ⟨x0, us1, rfl, q0, h1⟩ := inv_cons h0
  obtain ⟨f0, rfl, p0⟩ := inv_str q0
  obtain ⟨x1, us2, rfl, q1, h2⟩ := inv_cons h1
  obtain ⟨f1, rfl, p1⟩ := inv_sl q1
  obtain ⟨x2, us3, rfl, q2, h3⟩ := inv_cons h2
  have p2 := q2
  obtain rfl := inv_nil h3
  exact ⟨f0, f1, x2, rfl, p0, p1, p2⟩
theorem inv_Core {u : U} (h : wt (.st 21) u) : ∃ (f0 : Int) (f1 : List UInt8) (f2 : List UInt8) (f3 : Int) (f4 : U) (f5 : List U) (f6 : List U) (f7 : List U) (f8 : List U), u = .st [.i .i64 f0, .s f1, .s f2, .i .i64 f3, f4, .sl 3 f5, .sl 5 f6, .sl 11 f7, .sl 13 f8] ∧ inRange f0 ∧ f1.length ≤ big ∧ f2.length ≤ big ∧ inRange f3 ∧ wt (.st 1) f4 ∧ (f5.length ≤ big ∧ ∀ x ∈ f5, wt (.st 1) x) ∧ (f6.length ≤ big ∧ ∀ x ∈ f6, wt (.st 18) x) ∧ (f7.length ≤ big ∧ ∀ x ∈ f7, wt (.st 21) x) ∧ (f8.length ≤ big ∧ ∀ x ∈ f8, wt (.st 20) x) := by
  obtain ⟨us0, rfl, h0⟩ := inv_st h
  obtain ⟨x0, us1, rfl, q0, h1⟩ := inv_cons h0
  obtain ⟨f0, rfl, p0⟩ := inv_int q0
  obtain ⟨x1, us2, rfl, q1, h2⟩ := inv_cons h1
  obtain ⟨f1, rfl, p1⟩ := inv_str q1
  obtain ⟨x2, us3, rfl, q2, h3⟩ := inv_cons h2
  obtain ⟨f2, rfl, p2⟩ := inv_str q2
  obtain ⟨x3, us4, rfl, q3, h4⟩ := inv_cons h3
  obtain ⟨f3, rfl, p3⟩ := inv_int q3
  obtain ⟨x4, us5, rfl, q4, h5⟩ := inv_cons h4
  have p4 := q4
  obtain ⟨x5, us6, rfl, q5, h6⟩ := inv_cons h5
  obtain ⟨f5, rfl, p5⟩ := inv_sl q5
  obtain ⟨x6, us7, rfl, q6, h7⟩ := inv_cons h6
  obtain ⟨f6, rfl, p6⟩ := inv_sl q6
  obtain ⟨x7, us8, rfl, q7, h8⟩ := inv_cons h7
  obtain ⟨f7, rfl, p7⟩ := inv_sl q7
  obtain ⟨x8, us9, rfl, q8, h9⟩ := inv_cons h8
  obtain ⟨f8, rfl, p8⟩ := inv_sl q8
  obtain rfl := inv_nil h9
  exact ⟨f0, f1, f2, f3, x4, f5, f6, f7, f8, rfl, p0, p1, p2, p3, p4, p5, p6, p7, p8⟩
theorem inv_Equation {u : U} (h : wt (.st 22) u) : ∃ (f0 : U) (f1 : U) (f2 : Int), u = .st [f0, f1, .i .i64 f2] ∧ wt (.st 1) f0 ∧ wt (.st 1) f1 ∧ inRange f2 := by
  obtain ⟨us0, rfl, h0⟩ := inv_st h
  obtain ⟨x0, us1, rfl, q0, h1⟩ := inv_cons h0
  have p0 := q0
  obtain ⟨x1, us2, rfl, q1, h2⟩ := inv_cons h1
  have p1 := q1
  obtain ⟨x2, us3, rfl, q2, h3⟩ := inv_cons h2
  obtain ⟨f2, rfl, p2⟩ := inv_int q2
  obtain rfl := inv_nil h3
  exact ⟨x0, x1, f2, rfl, p0, p1, p2⟩
theorem inv_Obligation {u : U} (h : wt (.st 23) u) : ∃ (f0 : U) (f1 : Int), u = .st [f0, .i .i64 f1] ∧ wt (.st 9) f0 ∧ inRange f1 := by
  obtain ⟨us0, rfl, h0⟩ := inv_st h
  obtain ⟨x0, us1, rfl, q0, h1⟩ := inv_cons h0
  have p0 := q0
  obtain ⟨x1, us2, rfl, q1, h2⟩ := inv_cons h1
  obtain ⟨f1, rfl, p1⟩ := inv_int q1
  obtain rfl := inv_nil h2
  exact ⟨x0, f1, rfl, p0, p1⟩
theorem inv_InferState {u : U} (h : wt (.st 24) u) : ∃ (f0 : Int) (f1 : Int) (f2 : Int) (f3 : List U) (f4 : List U) (f5 : List U) (f6 : Int) (f7 : Int), u = .st [.i .i64 f0, .i .i64 f1, .i .i64 f2, .sl 4 f3, .sl 7 f4, .sl 5 f5, .i .i64 f6, .i .i64 f7] ∧ inRange f0 ∧ inRange f1 ∧ inRange f2 ∧ (f3.length ≤ big ∧ ∀ x ∈ f3, wt (.st 2) x) ∧ (f4.length ≤ big ∧ ∀ x ∈ f4, wt (.st 22) x) ∧ (f5.length ≤ big ∧ ∀ x ∈ f5, wt (.st 23) x) ∧ inRange f6 ∧ inRange f7 := by
  obtain ⟨us0, rfl, h0⟩ := inv_st h
  obtain ⟨x0, us1, rfl, q0, h1⟩ := inv_cons h0
  obtain ⟨f0, rfl, p0⟩ := inv_int q0
  obtain ⟨x1, us2, rfl, q1, h2⟩ := inv_cons h1
  obtain ⟨f1, rfl, p1⟩ := inv_int q1
  obtain ⟨x2, us3, rfl, q2, h3⟩ := inv_cons h2
  obtain ⟨f2, rfl, p2⟩ := inv_int q2
  obtain ⟨x3, us4, rfl, q3, h4⟩ := inv_cons h3
  obtain ⟨f3, rfl, p3⟩ := inv_sl q3
  obtain ⟨x4, us5, rfl, q4, h5⟩ := inv_cons h4
  obtain ⟨f4, rfl, p4⟩ := inv_sl q4
  obtain ⟨x5, us6, rfl, q5, h6⟩ := inv_cons h5
  obtain ⟨f5, rfl, p5⟩ := inv_sl q5
  obtain ⟨x6, us7, rfl, q6, h7⟩ := inv_cons h6
  obtain ⟨f6, rfl, p6⟩ := inv_int q6
  obtain ⟨x7, us8, rfl, q7, h8⟩ := inv_cons h7
  obtain ⟨f7, rfl, p7⟩ := inv_int q7
  obtain rfl := inv_nil h8
  exact ⟨f0, f1, f2, f3, f4, f5, f6, f7, rfl, p0, p1, p2, p3, p4, p5, p6, p7⟩
theorem inv_Unit {u : U} (h : wt (.st 25) u) : ∃ (f0 : Int) (f1 : Int) (f2 : Int) (f3 : Int) (f4 : List U) (f5 : List U) (f6 : List U) (f7 : U) (f8 : U), u = .st [.i .i64 f0, .i .i64 f1, .i .i64 f2, .i .i64 f3, .sl 1 f4, .sl 4 f5, .sl 4 f6, f7, f8] ∧ inRange f0 ∧ inRange f1 ∧ inRange f2 ∧ inRange f3 ∧ (f4.length ≤ big ∧ ∀ x ∈ f4, wt (.str) x) ∧ (f5.length ≤ big ∧ ∀ x ∈ f5, wt (.st 9) x) ∧ (f6.length ≤ big ∧ ∀ x ∈ f6, wt (.st 12) x) ∧ wt (.st 1) f7 ∧ wt (.st 21) f8 := by
  obtain ⟨us0, rfl, h0⟩ := inv_st h
  obtain ⟨x0, us1, rfl, q0, h1⟩ := inv_cons h0
  obtain ⟨f0, rfl, p0⟩ := inv_int q0
  obtain ⟨x1, us2, rfl, q1, h2⟩ := inv_cons h1
  obtain ⟨f1, rfl, p1⟩ := inv_int q1
  obtain ⟨x2, us3, rfl, q2, h3⟩ := inv_cons h2
  obtain ⟨f2, rfl, p2⟩ := inv_int q2
  obtain ⟨x3, us4, rfl, q3, h4⟩ := inv_cons h3
  obtain ⟨f3, rfl, p3⟩ := inv_int q3
  obtain ⟨x4, us5, rfl, q4, h5⟩ := inv_cons h4
  obtain ⟨f4, rfl, p4⟩ := inv_sl q4
  obtain ⟨x5, us6, rfl, q5, h6⟩ := inv_cons h5
  obtain ⟨f5, rfl, p5⟩ := inv_sl q5
  obtain ⟨x6, us7, rfl, q6, h7⟩ := inv_cons h6
  obtain ⟨f6, rfl, p6⟩ := inv_sl q6
  obtain ⟨x7, us8, rfl, q7, h8⟩ := inv_cons h7
  have p7 := q7
  obtain ⟨x8, us9, rfl, q8, h9⟩ := inv_cons h8
  have p8 := q8
  obtain rfl := inv_nil h9
  exact ⟨f0, f1, f2, f3, f4, f5, f6, x7, x8, rfl, p0, p1, p2, p3, p4, p5, p6, p7, p8⟩
theorem inv_Dictionary {u : U} (h : wt (.st 26) u) : ∃ (f0 : Int) (f1 : U) (f2 : List U) (f3 : List U), u = .st [.i .i64 f0, f1, .sl 1 f2, .sl 5 f3] ∧ inRange f0 ∧ wt (.st 16) f1 ∧ (f2.length ≤ big ∧ ∀ x ∈ f2, wt (.int) x) ∧ (f3.length ≤ big ∧ ∀ x ∈ f3, wt (.st 26) x) := by
  obtain ⟨us0, rfl, h0⟩ := inv_st h
  obtain ⟨x0, us1, rfl, q0, h1⟩ := inv_cons h0
  obtain ⟨f0, rfl, p0⟩ := inv_int q0
  obtain ⟨x1, us2, rfl, q1, h2⟩ := inv_cons h1
  have p1 := q1
  obtain ⟨x2, us3, rfl, q2, h3⟩ := inv_cons h2
  obtain ⟨f2, rfl, p2⟩ := inv_sl q2
  obtain ⟨x3, us4, rfl, q3, h4⟩ := inv_cons h3
  obtain ⟨f3, rfl, p3⟩ := inv_sl q3
  obtain rfl := inv_nil h4
  exact ⟨f0, x1, f2, f3, rfl, p0, p1, p2, p3⟩
theorem inv_Value {u : U} (h : wt (.st 27) u) : ∃ (f0 : Int) (f1 : Int) (f2 : List UInt8) (f3 : U) (f4 : List U), u = .st [.i .i64 f0, .i .i64 f1, .s f2, f3, .sl 9 f4] ∧ inRange f0 ∧ inRange f1 ∧ f2.length ≤ big ∧ wt (.st 26) f3 ∧ (f4.length ≤ big ∧ ∀ x ∈ f4, wt (.st 27) x) := by
  obtain ⟨us0, rfl, h0⟩ := inv_st h
  obtain ⟨x0, us1, rfl, q0, h1⟩ := inv_cons h0
  obtain ⟨f0, rfl, p0⟩ := inv_int q0
  obtain ⟨x1, us2, rfl, q1, h2⟩ := inv_cons h1
  obtain ⟨f1, rfl, p1⟩ := inv_int q1
  obtain ⟨x2, us3, rfl, q2, h3⟩ := inv_cons h2
  obtain ⟨f2, rfl, p2⟩ := inv_str q2
  obtain ⟨x3, us4, rfl, q3, h4⟩ := inv_cons h3
  have p3 := q3
  obtain ⟨x4, us5, rfl, q4, h5⟩ := inv_cons h4
  obtain ⟨f4, rfl, p4⟩ := inv_sl q4
  obtain rfl := inv_nil h5
  exact ⟨f0, f1, f2, x3, f4, rfl, p0, p1, p2, p3, p4⟩
theorem inv_Specialization {u : U} (h : wt (.st 28) u) : ∃ (f0 : Int) (f1 : List U) (f2 : List U) (f3 : U), u = .st [.i .i64 f0, .sl 3 f1, .sl 1 f2, f3] ∧ inRange f0 ∧ (f1.length ≤ big ∧ ∀ x ∈ f1, wt (.st 1) x) ∧ (f2.length ≤ big ∧ ∀ x ∈ f2, wt (.str) x) ∧ wt (.st 21) f3 := by
  obtain ⟨us0, rfl, h0⟩ := inv_st h
  obtain ⟨x0, us1, rfl, q0, h1⟩ := inv_cons h0
  obtain ⟨f0, rfl, p0⟩ := inv_int q0
  obtain ⟨x1, us2, rfl, q1, h2⟩ := inv_cons h1
  obtain ⟨f1, rfl, p1⟩ := inv_sl q1
  obtain ⟨x2, us3, rfl, q2, h3⟩ := inv_cons h2
  obtain ⟨f2, rfl, p2⟩ := inv_sl q2
  obtain ⟨x3, us4, rfl, q3, h4⟩ := inv_cons h3
  have p3 := q3
  obtain rfl := inv_nil h4
  exact ⟨f0, f1, f2, x3, rfl, p0, p1, p2, p3⟩
theorem inv_MethodEntry {u : U} (h : wt (.st 29) u) : ∃ (f0 : List UInt8) (f1 : List UInt8) (f2 : Int), u = .st [.s f0, .s f1, .i .i64 f2] ∧ f0.length ≤ big ∧ f1.length ≤ big ∧ inRange f2 := by
  obtain ⟨us0, rfl, h0⟩ := inv_st h
  obtain ⟨x0, us1, rfl, q0, h1⟩ := inv_cons h0
  obtain ⟨f0, rfl, p0⟩ := inv_str q0
  obtain ⟨x1, us2, rfl, q1, h2⟩ := inv_cons h1
  obtain ⟨f1, rfl, p1⟩ := inv_str q1
  obtain ⟨x2, us3, rfl, q2, h3⟩ := inv_cons h2
  obtain ⟨f2, rfl, p2⟩ := inv_int q2
  obtain rfl := inv_nil h3
  exact ⟨f0, f1, f2, rfl, p0, p1, p2⟩
theorem inv_MethodTable {u : U} (h : wt (.st 30) u) : ∃ (f0 : List UInt8) (f1 : U) (f2 : List U), u = .st [.s f0, f1, .sl 3 f2] ∧ f0.length ≤ big ∧ wt (.st 1) f1 ∧ (f2.length ≤ big ∧ ∀ x ∈ f2, wt (.st 29) x) := by
  obtain ⟨us0, rfl, h0⟩ := inv_st h
  obtain ⟨x0, us1, rfl, q0, h1⟩ := inv_cons h0
  obtain ⟨f0, rfl, p0⟩ := inv_str q0
  obtain ⟨x1, us2, rfl, q1, h2⟩ := inv_cons h1
  have p1 := q1
  obtain ⟨x2, us3, rfl, q2, h3⟩ := inv_cons h2
  obtain ⟨f2, rfl, p2⟩ := inv_sl q2
  obtain rfl := inv_nil h3
  exact ⟨f0, x1, f2, rfl, p0, p1, p2⟩
theorem inv_MonoProgram {u : U} (h : wt (.st 31) u) : ∃ (f0 : List U) (f1 : List U), u = .st [.sl 14 f0, .sl 5 f1] ∧ (f0.length ≤ big ∧ ∀ x ∈ f0, wt (.st 28) x) ∧ (f1.length ≤ big ∧ ∀ x ∈ f1, wt (.st 30) x) := by
  obtain ⟨us0, rfl, h0⟩ := inv_st h
  obtain ⟨x0, us1, rfl, q0, h1⟩ := inv_cons h0
  obtain ⟨f0, rfl, p0⟩ := inv_sl q0
  obtain ⟨x1, us2, rfl, q1, h2⟩ := inv_cons h1
  obtain ⟨f1, rfl, p1⟩ := inv_sl q1
  obtain rfl := inv_nil h2
  exact ⟨f0, f1, rfl, p0, p1⟩
theorem inv_Instr {u : U} (h : wt (.st 32) u) : ∃ (f0 : Int) (f1 : Int) (f2 : Int) (f3 : List UInt8) (f4 : List UInt8), u = .st [.i .i64 f0, .i .i64 f1, .i .i64 f2, .s f3, .s f4] ∧ inRange f0 ∧ inRange f1 ∧ inRange f2 ∧ f3.length ≤ big ∧ f4.length ≤ big := by
  obtain ⟨us0, rfl, h0⟩ := inv_st h
  obtain ⟨x0, us1, rfl, q0, h1⟩ := inv_cons h0
  obtain ⟨f0, rfl, p0⟩ := inv_int q0
  obtain ⟨x1, us2, rfl, q1, h2⟩ := inv_cons h1
  obtain ⟨f1, rfl, p1⟩ := inv_int q1
  obtain ⟨x2, us3, rfl, q2, h3⟩ := inv_cons h2
  obtain ⟨f2, rfl, p2⟩ := inv_int q2
  obtain ⟨x3, us4, rfl, q3, h4⟩ := inv_cons h3
  obtain ⟨f3, rfl, p3⟩ := inv_str q3
  obtain ⟨x4, us5, rfl, q4, h5⟩ := inv_cons h4
  obtain ⟨f4, rfl, p4⟩ := inv_str q4
  obtain rfl := inv_nil h5
  exact ⟨f0, f1, f2, f3, f4, rfl, p0, p1, p2, p3, p4⟩
theorem inv_Code {u : U} (h : wt (.st 33) u) : ∃ (f0 : Int) (f1 : List U), u = .st [.i .i64 f0, .sl 5 f1] ∧ inRange f0 ∧ (f1.length ≤ big ∧ ∀ x ∈ f1, wt (.st 32) x) := by
  obtain ⟨us0, rfl, h0⟩ := inv_st h
  obtain ⟨x0, us1, rfl, q0, h1⟩ := inv_cons h0
  obtain ⟨f0, rfl, p0⟩ := inv_int q0
  obtain ⟨x1, us2, rfl, q1, h2⟩ := inv_cons h1
  obtain ⟨f1, rfl, p1⟩ := inv_sl q1
  obtain rfl := inv_nil h2
  exact ⟨f0, f1, rfl, p0, p1⟩
theorem inv_Machine {u : U} (h : wt (.st 34) u) : ∃ (f0 : List U) (f1 : List U), u = .st [.sl 2 f0, .sl 5 f1] ∧ (f0.length ≤ big ∧ ∀ x ∈ f0, wt (.st 33) x) ∧ (f1.length ≤ big ∧ ∀ x ∈ f1, wt (.st 30) x) := by
  obtain ⟨us0, rfl, h0⟩ := inv_st h
  obtain ⟨x0, us1, rfl, q0, h1⟩ := inv_cons h0
  obtain ⟨f0, rfl, p0⟩ := inv_sl q0
  obtain ⟨x1, us2, rfl, q1, h2⟩ := inv_cons h1
  obtain ⟨f1, rfl, p1⟩ := inv_sl q1
  obtain rfl := inv_nil h2
  exact ⟨f0, f1, rfl, p0, p1⟩
theorem inv_Frame {u : U} (h : wt (.st 35) u) : ∃ (f0 : Int) (f1 : Int) (f2 : Int) (f3 : List U), u = .st [.i .i64 f0, .i .i64 f1, .i .i64 f2, .sl 9 f3] ∧ inRange f0 ∧ inRange f1 ∧ inRange f2 ∧ (f3.length ≤ big ∧ ∀ x ∈ f3, wt (.st 27) x) := by
  obtain ⟨us0, rfl, h0⟩ := inv_st h
  obtain ⟨x0, us1, rfl, q0, h1⟩ := inv_cons h0
  obtain ⟨f0, rfl, p0⟩ := inv_int q0
  obtain ⟨x1, us2, rfl, q1, h2⟩ := inv_cons h1
  obtain ⟨f1, rfl, p1⟩ := inv_int q1
  obtain ⟨x2, us3, rfl, q2, h3⟩ := inv_cons h2
  obtain ⟨f2, rfl, p2⟩ := inv_int q2
  obtain ⟨x3, us4, rfl, q3, h4⟩ := inv_cons h3
  obtain ⟨f3, rfl, p3⟩ := inv_sl q3
  obtain rfl := inv_nil h4
  exact ⟨f0, f1, f2, f3, rfl, p0, p1, p2, p3⟩
theorem inv_VM {u : U} (h : wt (.st 36) u) : ∃ (f0 : List U) (f1 : List U) (f2 : Int) (f3 : Int) (f4 : Bool), u = .st [.sl 9 f0, .sl 4 f1, .i .i64 f2, .i .i64 f3, .b f4] ∧ (f0.length ≤ big ∧ ∀ x ∈ f0, wt (.st 27) x) ∧ (f1.length ≤ big ∧ ∀ x ∈ f1, wt (.st 35) x) ∧ inRange f2 ∧ inRange f3 := by
  obtain ⟨us0, rfl, h0⟩ := inv_st h
  obtain ⟨x0, us1, rfl, q0, h1⟩ := inv_cons h0
  obtain ⟨f0, rfl, p0⟩ := inv_sl q0
  obtain ⟨x1, us2, rfl, q1, h2⟩ := inv_cons h1
  obtain ⟨f1, rfl, p1⟩ := inv_sl q1
  obtain ⟨x2, us3, rfl, q2, h3⟩ := inv_cons h2
  obtain ⟨f2, rfl, p2⟩ := inv_int q2
  obtain ⟨x3, us4, rfl, q3, h4⟩ := inv_cons h3
  obtain ⟨f3, rfl, p3⟩ := inv_int q3
  obtain ⟨x4, us5, rfl, q4, h5⟩ := inv_cons h4
  obtain ⟨f4, rfl⟩ := inv_bool q4
  obtain rfl := inv_nil h5
  exact ⟨f0, f1, f2, f3, f4, rfl, p0, p1, p2, p3⟩
theorem inv_UnitError {u : U} (h : wt (.st 37) u) : ∃ (f0 : Int) (f1 : Int) (f2 : Int) (f3 : Int) (f4 : Int) (f5 : Int), u = .st [.i .i64 f0, .i .i64 f1, .i .i64 f2, .i .i64 f3, .i .i64 f4, .i .i64 f5] ∧ inRange f0 ∧ inRange f1 ∧ inRange f2 ∧ inRange f3 ∧ inRange f4 ∧ inRange f5 := by
  obtain ⟨us0, rfl, h0⟩ := inv_st h
  obtain ⟨x0, us1, rfl, q0, h1⟩ := inv_cons h0
  obtain ⟨f0, rfl, p0⟩ := inv_int q0
  obtain ⟨x1, us2, rfl, q1, h2⟩ := inv_cons h1
  obtain ⟨f1, rfl, p1⟩ := inv_int q1
  obtain ⟨x2, us3, rfl, q2, h3⟩ := inv_cons h2
  obtain ⟨f2, rfl, p2⟩ := inv_int q2
  obtain ⟨x3, us4, rfl, q3, h4⟩ := inv_cons h3
  obtain ⟨f3, rfl, p3⟩ := inv_int q3
  obtain ⟨x4, us5, rfl, q4, h5⟩ := inv_cons h4
  obtain ⟨f4, rfl, p4⟩ := inv_int q4
  obtain ⟨x5, us6, rfl, q5, h6⟩ := inv_cons h5
  obtain ⟨f5, rfl, p5⟩ := inv_int q5
  obtain rfl := inv_nil h6
  exact ⟨f0, f1, f2, f3, f4, f5, rfl, p0, p1, p2, p3, p4, p5⟩
theorem inv_BuiltPackage {u : U} (h : wt (.st 38) u) : ∃ (f0 : List UInt8) (f1 : List UInt8) (f2 : List U) (f3 : List U), u = .st [.s f0, .s f1, .sl 21 f2, .sl 6 f3] ∧ f0.length ≤ big ∧ f1.length ≤ big ∧ (f2.length ≤ big ∧ ∀ x ∈ f2, wt (.st 25) x) ∧ (f3.length ≤ big ∧ ∀ x ∈ f3, wt (.st 37) x) := by
  obtain ⟨us0, rfl, h0⟩ := inv_st h
  obtain ⟨x0, us1, rfl, q0, h1⟩ := inv_cons h0
  obtain ⟨f0, rfl, p0⟩ := inv_str q0
  obtain ⟨x1, us2, rfl, q1, h2⟩ := inv_cons h1
  obtain ⟨f1, rfl, p1⟩ := inv_str q1
  obtain ⟨x2, us3, rfl, q2, h3⟩ := inv_cons h2
  obtain ⟨f2, rfl, p2⟩ := inv_sl q2
  obtain ⟨x3, us4, rfl, q3, h4⟩ := inv_cons h3
  obtain ⟨f3, rfl, p3⟩ := inv_sl q3
  obtain rfl := inv_nil h4
  exact ⟨f0, f1, f2, f3, rfl, p0, p1, p2, p3⟩
theorem inv_Build {u : U} (h : wt (.st 39) u) : ∃ (f0 : List U), u = .st [.sl 4 f0] ∧ (f0.length ≤ big ∧ ∀ x ∈ f0, wt (.st 38) x) := by
  obtain ⟨us0, rfl, h0⟩ := inv_st h
  obtain ⟨x0, us1, rfl, q0, h1⟩ := inv_cons h0
  obtain ⟨f0, rfl, p0⟩ := inv_sl q0
  obtain rfl := inv_nil h1
  exact ⟨f0, rfl, p0⟩
end Go.Eng

