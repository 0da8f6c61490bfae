/- The engine, part 36: loops with several ghosts, ways that meet again, lists by number. -/
import Derived.Test.YtdofnoeiogjpjaaEng35
set_option linter.unusedVariables false
set_option linter.unusedSimpArgs false
namespace Go.Eng
open Go Go.RowKit

theorem lt_x {α β : Type} {v : α} {k : α → β} {r : β} (h : lt_ v k = r) : ∃ x, v = x ∧ k x = r := ⟨v, rfl, h⟩
theorem klt {α : Type} {e : α → U} {es : List α → List U} {z : Nat} [E : Enc α e es z] {l : List α} {k : Nat} (h : decide ((k : Int) < ((es l).length : Int)) = true) : k < l.length := by
  have h := of_decide_eq_true h
  rw [E.h, List.length_map] at h
  omega
theorem kge {α : Type} {e : α → U} {es : List α → List U} {z : Nat} [E : Enc α e es z] {l : List α} {k : Nat} (h : decide ((k : Int) < ((es l).length : Int)) = false) : l.length ≤ k := by
  have h := of_decide_eq_false h
  rw [E.h, List.length_map] at h
  omega
section
variable {l : List UInt8} {k n : Nat}
theorem kltS (h : decide ((k : Int) < (l.length : Int)) = true) : k < l.length := by have h := of_decide_eq_true h; omega
theorem kgeS (h : decide ((k : Int) < (l.length : Int)) = false) : l.length ≤ k := by have h := of_decide_eq_false h; omega
theorem kltN (h : decide ((k : Int) < (n : Int)) = true) : k < n := by have h := of_decide_eq_true h; omega
theorem kgeN (h : decide ((k : Int) < (n : Int)) = false) : n ≤ k := by have h := of_decide_eq_false h; omega
end

section
variable {P : Program} {A : Amb} {ops : Array Oper} {K : St → Prop} {Q : Exit → St → Prop} {rest : List Oper} {σ : St} {c : Code}
theorem VO_join (σJ : St) (h1 : VO P A ops rest σ (fun s => Le s σJ)) (h2 : K σJ) (hA : A.L0.length ≤ σJ.L.length := by rw [BaseN.h (A := A)]; exact Nat.le_of_ble_eq_true rfl) : VO P A ops rest σ K :=
  fun R hR a w hr => h1 R (fun σ' a' w' hle hr' => hR σJ a' w' h2 (hr'.le hle hA)) a w hr
theorem V_seqJ {x y : Code} (σJ : St) (h1 : V P A x σ (thenS (fun s => Le s σJ) Q)) (h2 : V P A y σJ Q) (hA : A.L0.length ≤ σJ.L.length := by rw [BaseN.h (A := A)]; exact Nat.le_of_ble_eq_true rfl) : V P A (.seq x y) σ Q :=
  V_seq (V.mono h1 (fun e s hq => by
    cases e with
    | normal => exact V_le hq h2 hA
    | _ => exact hq))
theorem V_loop1 {α0 : Type} (I : α0 → St) (J : α0 → Prop) (μ : α0 → Nat) (x0 : α0) (h0 : Le σ (I x0)) (hJ : J x0)
    (round : ∀ a0, J a0 → V P A c (I a0) (thenS (fun s => ∃ b0, J b0 ∧ μ b0 < μ a0 ∧ Le s (I b0)) Q)) (hA : ∀ a0, A.L0.length ≤ (I a0).L.length := by intros; rw [BaseN.h (A := A)]; exact Nat.le_of_ble_eq_true rfl) : V P A (.loop c) σ Q :=
  V_loop (α := α0) (fun x => I (x)) (fun x => J (x)) (fun x => μ (x)) (x0) h0 hJ (fun x hx => V.mono (round (x) hx) (fun e s hq => by
    cases e with
    | normal =>
      obtain ⟨b0, h1, h2, h3⟩ := hq
      exact ⟨(b0), h1, h2, h3⟩
    | _ => exact hq)) (fun x => hA (x))
theorem V_loop2 {α0 α1 : Type} (I : α0 → α1 → St) (J : α0 → α1 → Prop) (μ : α0 → α1 → Nat) (x0 : α0) (x1 : α1) (h0 : Le σ (I x0 x1)) (hJ : J x0 x1)
    (round : ∀ a0 a1, J a0 a1 → V P A c (I a0 a1) (thenS (fun s => ∃ b0 b1, J b0 b1 ∧ μ b0 b1 < μ a0 a1 ∧ Le s (I b0 b1)) Q)) (hA : ∀ a0 a1, A.L0.length ≤ (I a0 a1).L.length := by intros; rw [BaseN.h (A := A)]; exact Nat.le_of_ble_eq_true rfl) : V P A (.loop c) σ Q :=
  V_loop (α := α0 × α1) (fun x => I (x.1) (x.2)) (fun x => J (x.1) (x.2)) (fun x => μ (x.1) (x.2)) (x0, x1) h0 hJ (fun x hx => V.mono (round (x.1) (x.2) hx) (fun e s hq => by
    cases e with
    | normal =>
      obtain ⟨b0, b1, h1, h2, h3⟩ := hq
      exact ⟨(b0, b1), h1, h2, h3⟩
    | _ => exact hq)) (fun x => hA (x.1) (x.2))
theorem V_loop3 {α0 α1 α2 : Type} (I : α0 → α1 → α2 → St) (J : α0 → α1 → α2 → Prop) (μ : α0 → α1 → α2 → Nat) (x0 : α0) (x1 : α1) (x2 : α2) (h0 : Le σ (I x0 x1 x2)) (hJ : J x0 x1 x2)
    (round : ∀ a0 a1 a2, J a0 a1 a2 → V P A c (I a0 a1 a2) (thenS (fun s => ∃ b0 b1 b2, J b0 b1 b2 ∧ μ b0 b1 b2 < μ a0 a1 a2 ∧ Le s (I b0 b1 b2)) Q)) (hA : ∀ a0 a1 a2, A.L0.length ≤ (I a0 a1 a2).L.length := by intros; rw [BaseN.h (A := A)]; exact Nat.le_of_ble_eq_true rfl) : V P A (.loop c) σ Q :=
  V_loop (α := α0 × α1 × α2) (fun x => I (x.1) (x.2.1) (x.2.2)) (fun x => J (x.1) (x.2.1) (x.2.2)) (fun x => μ (x.1) (x.2.1) (x.2.2)) (x0, x1, x2) h0 hJ (fun x hx => V.mono (round (x.1) (x.2.1) (x.2.2) hx) (fun e s hq => by
    cases e with
    | normal =>
      obtain ⟨b0, b1, b2, h1, h2, h3⟩ := hq
      exact ⟨(b0, b1, b2), h1, h2, h3⟩
    | _ => exact hq)) (fun x => hA (x.1) (x.2.1) (x.2.2))
theorem V_loop4 {α0 α1 α2 α3 : Type} (I : α0 → α1 → α2 → α3 → St) (J : α0 → α1 → α2 → α3 → Prop) (μ : α0 → α1 → α2 → α3 → Nat) (x0 : α0) (x1 : α1) (x2 : α2) (x3 : α3) (h0 : Le σ (I x0 x1 x2 x3)) (hJ : J x0 x1 x2 x3)
    (round : ∀ a0 a1 a2 a3, J a0 a1 a2 a3 → V P A c (I a0 a1 a2 a3) (thenS (fun s => ∃ b0 b1 b2 b3, J b0 b1 b2 b3 ∧ μ b0 b1 b2 b3 < μ a0 a1 a2 a3 ∧ Le s (I b0 b1 b2 b3)) Q)) (hA : ∀ a0 a1 a2 a3, A.L0.length ≤ (I a0 a1 a2 a3).L.length := by intros; rw [BaseN.h (A := A)]; exact Nat.le_of_ble_eq_true rfl) : V P A (.loop c) σ Q :=
  V_loop (α := α0 × α1 × α2 × α3) (fun x => I (x.1) (x.2.1) (x.2.2.1) (x.2.2.2)) (fun x => J (x.1) (x.2.1) (x.2.2.1) (x.2.2.2)) (fun x => μ (x.1) (x.2.1) (x.2.2.1) (x.2.2.2)) (x0, x1, x2, x3) h0 hJ (fun x hx => V.mono (round (x.1) (x.2.1) (x.2.2.1) (x.2.2.2) hx) (fun e s hq => by
    cases e with
    | normal =>
      obtain ⟨b0, b1, b2, b3, h1, h2, h3⟩ := hq
      exact ⟨(b0, b1, b2, b3), h1, h2, h3⟩
    | _ => exact hq)) (fun x => hA (x.1) (x.2.1) (x.2.2.1) (x.2.2.2))
theorem V_loop5 {α0 α1 α2 α3 α4 : Type} (I : α0 → α1 → α2 → α3 → α4 → St) (J : α0 → α1 → α2 → α3 → α4 → Prop) (μ : α0 → α1 → α2 → α3 → α4 → Nat) (x0 : α0) (x1 : α1) (x2 : α2) (x3 : α3) (x4 : α4) (h0 : Le σ (I x0 x1 x2 x3 x4)) (hJ : J x0 x1 x2 x3 x4)
    (round : ∀ a0 a1 a2 a3 a4, J a0 a1 a2 a3 a4 → V P A c (I a0 a1 a2 a3 a4) (thenS (fun s => ∃ b0 b1 b2 b3 b4, J b0 b1 b2 b3 b4 ∧ μ b0 b1 b2 b3 b4 < μ a0 a1 a2 a3 a4 ∧ Le s (I b0 b1 b2 b3 b4)) Q)) (hA : ∀ a0 a1 a2 a3 a4, A.L0.length ≤ (I a0 a1 a2 a3 a4).L.length := by intros; rw [BaseN.h (A := A)]; exact Nat.le_of_ble_eq_true rfl) : V P A (.loop c) σ Q :=
  V_loop (α := α0 × α1 × α2 × α3 × α4) (fun x => I (x.1) (x.2.1) (x.2.2.1) (x.2.2.2.1) (x.2.2.2.2)) (fun x => J (x.1) (x.2.1) (x.2.2.1) (x.2.2.2.1) (x.2.2.2.2)) (fun x => μ (x.1) (x.2.1) (x.2.2.1) (x.2.2.2.1) (x.2.2.2.2)) (x0, x1, x2, x3, x4) h0 hJ (fun x hx => V.mono (round (x.1) (x.2.1) (x.2.2.1) (x.2.2.2.1) (x.2.2.2.2) hx) (fun e s hq => by
    cases e with
    | normal =>
      obtain ⟨b0, b1, b2, b3, b4, h1, h2, h3⟩ := hq
      exact ⟨(b0, b1, b2, b3, b4), h1, h2, h3⟩
    | _ => exact hq)) (fun x => hA (x.1) (x.2.1) (x.2.2.1) (x.2.2.2.1) (x.2.2.2.2))
theorem V_loop6 {α0 α1 α2 α3 α4 α5 : Type} (I : α0 → α1 → α2 → α3 → α4 → α5 → St) (J : α0 → α1 → α2 → α3 → α4 → α5 → Prop) (μ : α0 → α1 → α2 → α3 → α4 → α5 → Nat) (x0 : α0) (x1 : α1) (x2 : α2) (x3 : α3) (x4 : α4) (x5 : α5) (h0 : Le σ (I x0 x1 x2 x3 x4 x5)) (hJ : J x0 x1 x2 x3 x4 x5)
    (round : ∀ a0 a1 a2 a3 a4 a5, J a0 a1 a2 a3 a4 a5 → V P A c (I a0 a1 a2 a3 a4 a5) (thenS (fun s => ∃ b0 b1 b2 b3 b4 b5, J b0 b1 b2 b3 b4 b5 ∧ μ b0 b1 b2 b3 b4 b5 < μ a0 a1 a2 a3 a4 a5 ∧ Le s (I b0 b1 b2 b3 b4 b5)) Q)) (hA : ∀ a0 a1 a2 a3 a4 a5, A.L0.length ≤ (I a0 a1 a2 a3 a4 a5).L.length := by intros; rw [BaseN.h (A := A)]; exact Nat.le_of_ble_eq_true rfl) : V P A (.loop c) σ Q :=
  V_loop (α := α0 × α1 × α2 × α3 × α4 × α5) (fun x => I (x.1) (x.2.1) (x.2.2.1) (x.2.2.2.1) (x.2.2.2.2.1) (x.2.2.2.2.2)) (fun x => J (x.1) (x.2.1) (x.2.2.1) (x.2.2.2.1) (x.2.2.2.2.1) (x.2.2.2.2.2)) (fun x => μ (x.1) (x.2.1) (x.2.2.1) (x.2.2.2.1) (x.2.2.2.2.1) (x.2.2.2.2.2)) (x0, x1, x2, x3, x4, x5) h0 hJ (fun x hx => V.mono (round (x.1) (x.2.1) (x.2.2.1) (x.2.2.2.1) (x.2.2.2.2.1) (x.2.2.2.2.2) hx) (fun e s hq => by
    cases e with
    | normal =>
      obtain ⟨b0, b1, b2, b3, b4, b5, h1, h2, h3⟩ := hq
      exact ⟨(b0, b1, b2, b3, b4, b5), h1, h2, h3⟩
    | _ => exact hq)) (fun x => hA (x.1) (x.2.1) (x.2.2.1) (x.2.2.2.1) (x.2.2.2.2.1) (x.2.2.2.2.2))
theorem V_loop7 {α0 α1 α2 α3 α4 α5 α6 : Type} (I : α0 → α1 → α2 → α3 → α4 → α5 → α6 → St) (J : α0 → α1 → α2 → α3 → α4 → α5 → α6 → Prop) (μ : α0 → α1 → α2 → α3 → α4 → α5 → α6 → Nat) (x0 : α0) (x1 : α1) (x2 : α2) (x3 : α3) (x4 : α4) (x5 : α5) (x6 : α6) (h0 : Le σ (I x0 x1 x2 x3 x4 x5 x6)) (hJ : J x0 x1 x2 x3 x4 x5 x6)
    (round : ∀ a0 a1 a2 a3 a4 a5 a6, J a0 a1 a2 a3 a4 a5 a6 → V P A c (I a0 a1 a2 a3 a4 a5 a6) (thenS (fun s => ∃ b0 b1 b2 b3 b4 b5 b6, J b0 b1 b2 b3 b4 b5 b6 ∧ μ b0 b1 b2 b3 b4 b5 b6 < μ a0 a1 a2 a3 a4 a5 a6 ∧ Le s (I b0 b1 b2 b3 b4 b5 b6)) Q)) (hA : ∀ a0 a1 a2 a3 a4 a5 a6, A.L0.length ≤ (I a0 a1 a2 a3 a4 a5 a6).L.length := by intros; rw [BaseN.h (A := A)]; exact Nat.le_of_ble_eq_true rfl) : V P A (.loop c) σ Q :=
  V_loop (α := α0 × α1 × α2 × α3 × α4 × α5 × α6) (fun x => I (x.1) (x.2.1) (x.2.2.1) (x.2.2.2.1) (x.2.2.2.2.1) (x.2.2.2.2.2.1) (x.2.2.2.2.2.2)) (fun x => J (x.1) (x.2.1) (x.2.2.1) (x.2.2.2.1) (x.2.2.2.2.1) (x.2.2.2.2.2.1) (x.2.2.2.2.2.2)) (fun x => μ (x.1) (x.2.1) (x.2.2.1) (x.2.2.2.1) (x.2.2.2.2.1) (x.2.2.2.2.2.1) (x.2.2.2.2.2.2)) (x0, x1, x2, x3, x4, x5, x6) h0 hJ (fun x hx => V.mono (round (x.1) (x.2.1) (x.2.2.1) (x.2.2.2.1) (x.2.2.2.2.1) (x.2.2.2.2.2.1) (x.2.2.2.2.2.2) hx) (fun e s hq => by
    cases e with
    | normal =>
      obtain ⟨b0, b1, b2, b3, b4, b5, b6, h1, h2, h3⟩ := hq
      exact ⟨(b0, b1, b2, b3, b4, b5, b6), h1, h2, h3⟩
    | _ => exact hq)) (fun x => hA (x.1) (x.2.1) (x.2.2.1) (x.2.2.2.1) (x.2.2.2.2.1) (x.2.2.2.2.2.1) (x.2.2.2.2.2.2))
theorem V_loop8 {α0 α1 α2 α3 α4 α5 α6 α7 : Type} (I : α0 → α1 → α2 → α3 → α4 → α5 → α6 → α7 → St) (J : α0 → α1 → α2 → α3 → α4 → α5 → α6 → α7 → Prop) (μ : α0 → α1 → α2 → α3 → α4 → α5 → α6 → α7 → Nat) (x0 : α0) (x1 : α1) (x2 : α2) (x3 : α3) (x4 : α4) (x5 : α5) (x6 : α6) (x7 : α7) (h0 : Le σ (I x0 x1 x2 x3 x4 x5 x6 x7)) (hJ : J x0 x1 x2 x3 x4 x5 x6 x7)
    (round : ∀ a0 a1 a2 a3 a4 a5 a6 a7, J a0 a1 a2 a3 a4 a5 a6 a7 → V P A c (I a0 a1 a2 a3 a4 a5 a6 a7) (thenS (fun s => ∃ b0 b1 b2 b3 b4 b5 b6 b7, J b0 b1 b2 b3 b4 b5 b6 b7 ∧ μ b0 b1 b2 b3 b4 b5 b6 b7 < μ a0 a1 a2 a3 a4 a5 a6 a7 ∧ Le s (I b0 b1 b2 b3 b4 b5 b6 b7)) Q)) (hA : ∀ a0 a1 a2 a3 a4 a5 a6 a7, A.L0.length ≤ (I a0 a1 a2 a3 a4 a5 a6 a7).L.length := by intros; rw [BaseN.h (A := A)]; exact Nat.le_of_ble_eq_true rfl) : V P A (.loop c) σ Q :=
  V_loop (α := α0 × α1 × α2 × α3 × α4 × α5 × α6 × α7) (fun x => I (x.1) (x.2.1) (x.2.2.1) (x.2.2.2.1) (x.2.2.2.2.1) (x.2.2.2.2.2.1) (x.2.2.2.2.2.2.1) (x.2.2.2.2.2.2.2)) (fun x => J (x.1) (x.2.1) (x.2.2.1) (x.2.2.2.1) (x.2.2.2.2.1) (x.2.2.2.2.2.1) (x.2.2.2.2.2.2.1) (x.2.2.2.2.2.2.2)) (fun x => μ (x.1) (x.2.1) (x.2.2.1) (x.2.2.2.1) (x.2.2.2.2.1) (x.2.2.2.2.2.1) (x.2.2.2.2.2.2.1) (x.2.2.2.2.2.2.2)) (x0, x1, x2, x3, x4, x5, x6, x7) h0 hJ (fun x hx => V.mono (round (x.1) (x.2.1) (x.2.2.1) (x.2.2.2.1) (x.2.2.2.2.1) (x.2.2.2.2.2.1) (x.2.2.2.2.2.2.1) (x.2.2.2.2.2.2.2) hx) (fun e s hq => by
    cases e with
    | normal =>
      obtain ⟨b0, b1, b2, b3, b4, b5, b6, b7, h1, h2, h3⟩ := hq
      exact ⟨(b0, b1, b2, b3, b4, b5, b6, b7), h1, h2, h3⟩
    | _ => exact hq)) (fun x => hA (x.1) (x.2.1) (x.2.2.1) (x.2.2.2.1) (x.2.2.2.2.1) (x.2.2.2.2.2.1) (x.2.2.2.2.2.2.1) (x.2.2.2.2.2.2.2))
end
end Go.Eng
