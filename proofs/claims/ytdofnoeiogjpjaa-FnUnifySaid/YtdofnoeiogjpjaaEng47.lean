/- The engine, part 47: loops whose objects change places; nil adopted in a temporary. -/
import Derived.Test.YtdofnoeiogjpjaaEng46
namespace Go.Eng
open Go Go.RowKit
section
variable {P : Program} {A : Amb} {Q : Exit → St → Prop} {c : Code} {σ : St}
theorem V_loopR {α : Type} (I : α → St) (J : α → Prop) (μ : α → Nat) (x0 : α) (h0 : Le σ (I x0)) (hJ : J x0)
    (round : ∀ x, J x → V P A c (I x) (thenS (fun s => ∃ y, J y ∧ μ y < μ x ∧ ∀ a w, Realz A s a w → Realz A (I y) a w) Q)) (hA : ∀ x, A.L0.length ≤ (I x).L.length := by intro x; rw [BaseN.h (A := A)]; exact Nat.le_of_ble_eq_true rfl) : V P A (.loop c) σ Q := by
  intro a w hr
  refine wp_loop_ghost (fun n a w => ∃ x, μ x = n ∧ J x ∧ Realz A (I x) a w) (μ x0) ⟨x0, rfl, hJ, hr.le h0 (hA _)⟩ ?_
  intro n a w ⟨x, hn, hx, hr⟩
  refine wp_mono (round x hx a w hr) ?_
  intro e a' w' ⟨s, hq, hs⟩
  cases e with
  | normal =>
    obtain ⟨y, hJy, hlt, hle⟩ := hq
    exact ⟨μ y, hn ▸ hlt, y, rfl, hJy, hle _ _ hs⟩
  | exit id => exact ⟨s, hq, hs⟩
  | goto l => exact ⟨s, hq, hs⟩
  | ret => exact ⟨s, hq, hs⟩
  | panic ch => exact ⟨s, hq, hs⟩
  | outgrown => exact ⟨s, hq, hs⟩
theorem V_loopR1 {α0 : Type} (I : α0 → St) (J : α0 → Prop) (μ : α0 → Nat) (x0 : α0) (h0 : Le σ (I x0)) (hJ : J x0)
    (round : ∀ a0, J a0 → V P A c (I a0) (thenS (fun s => ∃ b0, J b0 ∧ μ b0 < μ a0 ∧ ∀ a w, Realz A s a w → Realz A (I b0) a w) Q)) (hA : ∀ a0, A.L0.length ≤ (I a0).L.length := by intros; rw [BaseN.h (A := A)]; exact Nat.le_of_ble_eq_true rfl) : V P A (.loop c) σ Q :=
  V_loopR (α := α0) (fun x => I (x)) (fun x => J (x)) (fun x => μ (x)) (x0) h0 hJ (fun x hx => V.mono (round (x) hx) (fun e s hq => by
    cases e with
    | normal =>
      obtain ⟨b0, h1, h2, h3⟩ := hq
      exact ⟨(b0), h1, h2, h3⟩
    | _ => exact hq)) (fun x => hA (x))
theorem V_loopR2 {α0 α1 : Type} (I : α0 → α1 → St) (J : α0 → α1 → Prop) (μ : α0 → α1 → Nat) (x0 : α0) (x1 : α1) (h0 : Le σ (I x0 x1)) (hJ : J x0 x1)
    (round : ∀ a0 a1, J a0 a1 → V P A c (I a0 a1) (thenS (fun s => ∃ b0 b1, J b0 b1 ∧ μ b0 b1 < μ a0 a1 ∧ ∀ a w, Realz A s a w → Realz A (I b0 b1) a w) Q)) (hA : ∀ a0 a1, A.L0.length ≤ (I a0 a1).L.length := by intros; rw [BaseN.h (A := A)]; exact Nat.le_of_ble_eq_true rfl) : V P A (.loop c) σ Q :=
  V_loopR (α := α0 × α1) (fun x => I (x.1) (x.2)) (fun x => J (x.1) (x.2)) (fun x => μ (x.1) (x.2)) (x0, x1) h0 hJ (fun x hx => V.mono (round (x.1) (x.2) hx) (fun e s hq => by
    cases e with
    | normal =>
      obtain ⟨b0, b1, h1, h2, h3⟩ := hq
      exact ⟨(b0, b1), h1, h2, h3⟩
    | _ => exact hq)) (fun x => hA (x.1) (x.2))
theorem V_loopR3 {α0 α1 α2 : Type} (I : α0 → α1 → α2 → St) (J : α0 → α1 → α2 → Prop) (μ : α0 → α1 → α2 → Nat) (x0 : α0) (x1 : α1) (x2 : α2) (h0 : Le σ (I x0 x1 x2)) (hJ : J x0 x1 x2)
    (round : ∀ a0 a1 a2, J a0 a1 a2 → V P A c (I a0 a1 a2) (thenS (fun s => ∃ b0 b1 b2, J b0 b1 b2 ∧ μ b0 b1 b2 < μ a0 a1 a2 ∧ ∀ a w, Realz A s a w → Realz A (I b0 b1 b2) a w) Q)) (hA : ∀ a0 a1 a2, A.L0.length ≤ (I a0 a1 a2).L.length := by intros; rw [BaseN.h (A := A)]; exact Nat.le_of_ble_eq_true rfl) : V P A (.loop c) σ Q :=
  V_loopR (α := α0 × α1 × α2) (fun x => I (x.1) (x.2.1) (x.2.2)) (fun x => J (x.1) (x.2.1) (x.2.2)) (fun x => μ (x.1) (x.2.1) (x.2.2)) (x0, x1, x2) h0 hJ (fun x hx => V.mono (round (x.1) (x.2.1) (x.2.2) hx) (fun e s hq => by
    cases e with
    | normal =>
      obtain ⟨b0, b1, b2, h1, h2, h3⟩ := hq
      exact ⟨(b0, b1, b2), h1, h2, h3⟩
    | _ => exact hq)) (fun x => hA (x.1) (x.2.1) (x.2.2))
theorem V_loopR4 {α0 α1 α2 α3 : Type} (I : α0 → α1 → α2 → α3 → St) (J : α0 → α1 → α2 → α3 → Prop) (μ : α0 → α1 → α2 → α3 → Nat) (x0 : α0) (x1 : α1) (x2 : α2) (x3 : α3) (h0 : Le σ (I x0 x1 x2 x3)) (hJ : J x0 x1 x2 x3)
    (round : ∀ a0 a1 a2 a3, J a0 a1 a2 a3 → V P A c (I a0 a1 a2 a3) (thenS (fun s => ∃ b0 b1 b2 b3, J b0 b1 b2 b3 ∧ μ b0 b1 b2 b3 < μ a0 a1 a2 a3 ∧ ∀ a w, Realz A s a w → Realz A (I b0 b1 b2 b3) a w) Q)) (hA : ∀ a0 a1 a2 a3, A.L0.length ≤ (I a0 a1 a2 a3).L.length := by intros; rw [BaseN.h (A := A)]; exact Nat.le_of_ble_eq_true rfl) : V P A (.loop c) σ Q :=
  V_loopR (α := α0 × α1 × α2 × α3) (fun x => I (x.1) (x.2.1) (x.2.2.1) (x.2.2.2)) (fun x => J (x.1) (x.2.1) (x.2.2.1) (x.2.2.2)) (fun x => μ (x.1) (x.2.1) (x.2.2.1) (x.2.2.2)) (x0, x1, x2, x3) h0 hJ (fun x hx => V.mono (round (x.1) (x.2.1) (x.2.2.1) (x.2.2.2) hx) (fun e s hq => by
    cases e with
    | normal =>
      obtain ⟨b0, b1, b2, b3, h1, h2, h3⟩ := hq
      exact ⟨(b0, b1, b2, b3), h1, h2, h3⟩
    | _ => exact hq)) (fun x => hA (x.1) (x.2.1) (x.2.2.1) (x.2.2.2))
theorem V_loopR5 {α0 α1 α2 α3 α4 : Type} (I : α0 → α1 → α2 → α3 → α4 → St) (J : α0 → α1 → α2 → α3 → α4 → Prop) (μ : α0 → α1 → α2 → α3 → α4 → Nat) (x0 : α0) (x1 : α1) (x2 : α2) (x3 : α3) (x4 : α4) (h0 : Le σ (I x0 x1 x2 x3 x4)) (hJ : J x0 x1 x2 x3 x4)
    (round : ∀ a0 a1 a2 a3 a4, J a0 a1 a2 a3 a4 → V P A c (I a0 a1 a2 a3 a4) (thenS (fun s => ∃ b0 b1 b2 b3 b4, J b0 b1 b2 b3 b4 ∧ μ b0 b1 b2 b3 b4 < μ a0 a1 a2 a3 a4 ∧ ∀ a w, Realz A s a w → Realz A (I b0 b1 b2 b3 b4) a w) Q)) (hA : ∀ a0 a1 a2 a3 a4, A.L0.length ≤ (I a0 a1 a2 a3 a4).L.length := by intros; rw [BaseN.h (A := A)]; exact Nat.le_of_ble_eq_true rfl) : V P A (.loop c) σ Q :=
  V_loopR (α := α0 × α1 × α2 × α3 × α4) (fun x => I (x.1) (x.2.1) (x.2.2.1) (x.2.2.2.1) (x.2.2.2.2)) (fun x => J (x.1) (x.2.1) (x.2.2.1) (x.2.2.2.1) (x.2.2.2.2)) (fun x => μ (x.1) (x.2.1) (x.2.2.1) (x.2.2.2.1) (x.2.2.2.2)) (x0, x1, x2, x3, x4) h0 hJ (fun x hx => V.mono (round (x.1) (x.2.1) (x.2.2.1) (x.2.2.2.1) (x.2.2.2.2) hx) (fun e s hq => by
    cases e with
    | normal =>
      obtain ⟨b0, b1, b2, b3, b4, h1, h2, h3⟩ := hq
      exact ⟨(b0, b1, b2, b3, b4), h1, h2, h3⟩
    | _ => exact hq)) (fun x => hA (x.1) (x.2.1) (x.2.2.1) (x.2.2.2.1) (x.2.2.2.2))
theorem V_loopR6 {α0 α1 α2 α3 α4 α5 : Type} (I : α0 → α1 → α2 → α3 → α4 → α5 → St) (J : α0 → α1 → α2 → α3 → α4 → α5 → Prop) (μ : α0 → α1 → α2 → α3 → α4 → α5 → Nat) (x0 : α0) (x1 : α1) (x2 : α2) (x3 : α3) (x4 : α4) (x5 : α5) (h0 : Le σ (I x0 x1 x2 x3 x4 x5)) (hJ : J x0 x1 x2 x3 x4 x5)
    (round : ∀ a0 a1 a2 a3 a4 a5, J a0 a1 a2 a3 a4 a5 → V P A c (I a0 a1 a2 a3 a4 a5) (thenS (fun s => ∃ b0 b1 b2 b3 b4 b5, J b0 b1 b2 b3 b4 b5 ∧ μ b0 b1 b2 b3 b4 b5 < μ a0 a1 a2 a3 a4 a5 ∧ ∀ a w, Realz A s a w → Realz A (I b0 b1 b2 b3 b4 b5) a w) Q)) (hA : ∀ a0 a1 a2 a3 a4 a5, A.L0.length ≤ (I a0 a1 a2 a3 a4 a5).L.length := by intros; rw [BaseN.h (A := A)]; exact Nat.le_of_ble_eq_true rfl) : V P A (.loop c) σ Q :=
  V_loopR (α := α0 × α1 × α2 × α3 × α4 × α5) (fun x => I (x.1) (x.2.1) (x.2.2.1) (x.2.2.2.1) (x.2.2.2.2.1) (x.2.2.2.2.2)) (fun x => J (x.1) (x.2.1) (x.2.2.1) (x.2.2.2.1) (x.2.2.2.2.1) (x.2.2.2.2.2)) (fun x => μ (x.1) (x.2.1) (x.2.2.1) (x.2.2.2.1) (x.2.2.2.2.1) (x.2.2.2.2.2)) (x0, x1, x2, x3, x4, x5) h0 hJ (fun x hx => V.mono (round (x.1) (x.2.1) (x.2.2.1) (x.2.2.2.1) (x.2.2.2.2.1) (x.2.2.2.2.2) hx) (fun e s hq => by
    cases e with
    | normal =>
      obtain ⟨b0, b1, b2, b3, b4, b5, h1, h2, h3⟩ := hq
      exact ⟨(b0, b1, b2, b3, b4, b5), h1, h2, h3⟩
    | _ => exact hq)) (fun x => hA (x.1) (x.2.1) (x.2.2.1) (x.2.2.2.1) (x.2.2.2.2.1) (x.2.2.2.2.2))
theorem V_loopR7 {α0 α1 α2 α3 α4 α5 α6 : Type} (I : α0 → α1 → α2 → α3 → α4 → α5 → α6 → St) (J : α0 → α1 → α2 → α3 → α4 → α5 → α6 → Prop) (μ : α0 → α1 → α2 → α3 → α4 → α5 → α6 → Nat) (x0 : α0) (x1 : α1) (x2 : α2) (x3 : α3) (x4 : α4) (x5 : α5) (x6 : α6) (h0 : Le σ (I x0 x1 x2 x3 x4 x5 x6)) (hJ : J x0 x1 x2 x3 x4 x5 x6)
    (round : ∀ a0 a1 a2 a3 a4 a5 a6, J a0 a1 a2 a3 a4 a5 a6 → V P A c (I a0 a1 a2 a3 a4 a5 a6) (thenS (fun s => ∃ b0 b1 b2 b3 b4 b5 b6, J b0 b1 b2 b3 b4 b5 b6 ∧ μ b0 b1 b2 b3 b4 b5 b6 < μ a0 a1 a2 a3 a4 a5 a6 ∧ ∀ a w, Realz A s a w → Realz A (I b0 b1 b2 b3 b4 b5 b6) a w) Q)) (hA : ∀ a0 a1 a2 a3 a4 a5 a6, A.L0.length ≤ (I a0 a1 a2 a3 a4 a5 a6).L.length := by intros; rw [BaseN.h (A := A)]; exact Nat.le_of_ble_eq_true rfl) : V P A (.loop c) σ Q :=
  V_loopR (α := α0 × α1 × α2 × α3 × α4 × α5 × α6) (fun x => I (x.1) (x.2.1) (x.2.2.1) (x.2.2.2.1) (x.2.2.2.2.1) (x.2.2.2.2.2.1) (x.2.2.2.2.2.2)) (fun x => J (x.1) (x.2.1) (x.2.2.1) (x.2.2.2.1) (x.2.2.2.2.1) (x.2.2.2.2.2.1) (x.2.2.2.2.2.2)) (fun x => μ (x.1) (x.2.1) (x.2.2.1) (x.2.2.2.1) (x.2.2.2.2.1) (x.2.2.2.2.2.1) (x.2.2.2.2.2.2)) (x0, x1, x2, x3, x4, x5, x6) h0 hJ (fun x hx => V.mono (round (x.1) (x.2.1) (x.2.2.1) (x.2.2.2.1) (x.2.2.2.2.1) (x.2.2.2.2.2.1) (x.2.2.2.2.2.2) hx) (fun e s hq => by
    cases e with
    | normal =>
      obtain ⟨b0, b1, b2, b3, b4, b5, b6, h1, h2, h3⟩ := hq
      exact ⟨(b0, b1, b2, b3, b4, b5, b6), h1, h2, h3⟩
    | _ => exact hq)) (fun x => hA (x.1) (x.2.1) (x.2.2.1) (x.2.2.2.1) (x.2.2.2.2.1) (x.2.2.2.2.2.1) (x.2.2.2.2.2.2))
/-! ### nil seen as an owned array: in a temporary -/
inductive AdT (n : Nat) : SV → SV → Prop
  | one : AdT n .nilsl (.sl n 0)
  | ag {cs : List SV} (k : Nat) (h : cs[k]? = some .nilsl) : AdT n (.ag cs) (.ag (cs.set k (.sl n 0)))
theorem Realz.adT {a : Act} {w : World} {fr : List (Nat × SV)} {L : List LO} {N e z t : Nat} {sv' : SV} (hs : AdT L.length (look fr t) sv') (h : Realz A ⟨fr, L, N⟩ a w) : Realz A ⟨(t, sv') :: fr, L ++ [.own e z 0 []], N⟩ a w := by
  obtain ⟨S, env, hH, hf, hN, hd⟩ := h
  obtain ⟨hH1, C1⟩ := hH.newO [] (.own e z 0 []) (.slice none 0 0) (Nat.le_refl _) (fun _ _ => rfl) rfl rfl rfl (fun b hb => by simp only [LO.ft] at hb; rw [(Tr.nil w z).2] at hb; cases hb) (fun _ => nil_own e z 0)
  rw [kill_nil] at hH1 C1
  have hnil : SVr S (L ++ [LO.own e z 0 []]) (env ++ [Value.slice none 0 0]) w (.sl L.length 0) (.slice none 0 0) := by
    simp only [SVr]
    exact ⟨.slice none 0 0, .own e z 0 [], by rw [← hH.len]; simp, by simp, Nat.le_refl _, rfl, fun _ => rfl⟩
  refine ⟨S, _, hH1, fun t' => ?_, hN, hd⟩
  have ht := SVr.carry C1 _ _ (hf t')
  simp only at ht
  by_cases he : t' = t
  · subst he
    simp only [Go.Eng.look, if_true]
    generalize look fr t' = sv at hs ht
    cases hs with
    | one =>
      simp only [SVr] at ht
      rw [ht]
      exact hnil
    | ag k hk =>
      simp only [SVr] at ht ⊢
      obtain ⟨vs, h1, h2⟩ := ht
      rw [SVrs.iff] at h2
      obtain ⟨v, v1, v2⟩ := All2.get h2 k _ hk
      simp only [SVr] at v2
      subst v2
      refine ⟨vs, h1, ?_⟩
      rw [SVrs.iff]
      have hset := All2.set k (.sl L.length 0) (.slice none 0 0) h2 hnil
      have hk' : k < vs.length := (List.getElem?_eq_some_iff.1 v1).1
      have : vs.set k (.slice none 0 0) = vs := by
        apply List.ext_getElem?
        intro m
        rw [List.getElem?_set]
        by_cases hm : k = m
        · subst hm; rw [if_pos rfl, if_pos hk', v1]
        · rw [if_neg hm]
      rwa [this] at hset
  · simp only [Go.Eng.look, if_neg he]
    exact ht
theorem V_adT {fr : List (Nat × SV)} {L L' : List LO} {N n : Nat} {sv' : SV} (e z t : Nat) (h : V P A c ⟨(t, sv') :: fr, L', N⟩ Q) (hn : Ln L n := by repeat constructor) (hs : AdT n (look fr t) sv' := by first | exact AdT.one | exact AdT.ag 0 rfl | exact AdT.ag 1 rfl | exact AdT.ag 2 rfl | exact AdT.ag 3 rfl | exact AdT.ag 4 rfl | exact AdT.ag 5 rfl | exact AdT.ag 6 rfl | exact AdT.ag 7 rfl | exact AdT.ag 8 rfl)
    (h2 : Jn L [.own e z 0 []] L' := by repeat constructor) : V P A c ⟨fr, L, N⟩ Q := by
  have e1 := hn.eq
  have e4 := h2.spec
  subst e1; subst e4
  exact fun a w hr => h a w (hr.adT hs)
theorem VO_adT {ops : Array Oper} {K : St → Prop} {rest : List Oper} {fr : List (Nat × SV)} {L L' : List LO} {N n : Nat} {sv' : SV} (e z t : Nat) (h : VO P A ops rest ⟨(t, sv') :: fr, L', N⟩ K) (hn : Ln L n := by repeat constructor) (hs : AdT n (look fr t) sv' := by first | exact AdT.one | exact AdT.ag 0 rfl | exact AdT.ag 1 rfl | exact AdT.ag 2 rfl | exact AdT.ag 3 rfl | exact AdT.ag 4 rfl | exact AdT.ag 5 rfl | exact AdT.ag 6 rfl | exact AdT.ag 7 rfl | exact AdT.ag 8 rfl)
    (h2 : Jn L [.own e z 0 []] L' := by repeat constructor) : VO P A ops rest ⟨fr, L, N⟩ K := by
  have e1 := hn.eq
  have e4 := h2.spec
  subst e1; subst e4
  exact fun R hR a w hr => h R hR a w (hr.adT hs)
end
/-! ### the look at a pointer ahead of its use -/
section
variable {P : Program} {A : Amb} {σ : St} {dst : Option Nat} {ty : TypeId} {pos : String} {af : Array Edge} {g : Option (Nat × Bool)} {x : Operand}
inductive IsPtr : SV → Prop
  | ptr {i off : Nat} : IsPtr (.ptr i off)
  | dp {u : U} : IsPtr (.dp u)
theorem IsPtr.r {S : Nat → Prop} {L : List LO} {env : List Value} {w : World} {sv : SV} {v : Value} (h : IsPtr sv) (hv : SVr S L env w sv v) : ∃ a, v = .pointer (some a) := by
  cases h with
  | ptr =>
    simp only [SVr] at hv
    obtain ⟨b, _, rfl⟩ := hv
    exact ⟨_, rfl⟩
  | dp =>
    simp only [SVr] at hv
    obtain ⟨b, off, cs, rfl, _⟩ := hv
    exact ⟨_, rfl⟩
theorem QR_nc {sv : SV} (hx : σ.ev x = sv := by rfl) (hp : IsPtr sv := by first | exact .ptr | exact .dp) : QR P σ ⟨dst, .nilCheck x, ty, pos, af, g⟩ sv := fun A fr' L' he _ => Quiet.pure fun S env a w hH ho => by
  have h1 := ho x (by simp [Op.operands])
  rw [he x (by simp [Op.operands]), hx] at h1
  obtain ⟨ad, hv⟩ := hp.r h1
  refine ⟨a.eval x, ?_, h1⟩
  simp [execOp, hv]
end
/-! ### the end of a function that hands over -/
section
variable {P : Program} {σ : St}
theorem N_rH {fn : Func} {Q : SV → List LO → Prop} {n : Nat} (svs : List SV) (Lo : List LO) (hq : Q (mkG svs) Lo) (hL : ∃ L2, σ.L = Lo ++ L2 := by exact ⟨_, rfl⟩) (hl : (LO.lts Lo.length Lo && SV.lts Lo.length svs && Nat.ble n Lo.length) = true := by rfl)
    (hr : ResG P σ fn.results.toList svs := by ((repeat (first | exact .nil | refine .data rfl rfl ?_ | refine .same rfl ?_ | refine .same (ResV_ag rfl rfl TI.h rfl rfl) ?_ | refine .same (ResV_one rfl rfl TI.h rfl) ?_ | refine .data (ResV_ag rfl rfl TI.h rfl rfl) (by ((repeat (first | exact trivial | exact rfl | exact ⟨_, rfl⟩ | refine And.intro ?_ ?_)); first | done | fail)) ?_ | refine .data (ResV_one rfl rfl TI.h rfl) (by ((repeat (first | exact trivial | exact rfl | exact ⟨_, rfl⟩ | refine And.intro ?_ ?_)); first | done | fail)) ?_)); first | done | fail)) : PostG P fn Q n .normal σ := N_rG svs Lo hq hL hl hr
theorem R_rH {fn : Func} {Q : SV → List LO → Prop} {n : Nat} (svs : List SV) (Lo : List LO) (hq : Q (mkG svs) Lo) (hL : ∃ L2, σ.L = Lo ++ L2 := by exact ⟨_, rfl⟩) (hl : (LO.lts Lo.length Lo && SV.lts Lo.length svs && Nat.ble n Lo.length) = true := by rfl)
    (hr : ResG P σ fn.results.toList svs := by ((repeat (first | exact .nil | refine .data rfl rfl ?_ | refine .same rfl ?_ | refine .same (ResV_ag rfl rfl TI.h rfl rfl) ?_ | refine .same (ResV_one rfl rfl TI.h rfl) ?_ | refine .data (ResV_ag rfl rfl TI.h rfl rfl) (by ((repeat (first | exact trivial | exact rfl | exact ⟨_, rfl⟩ | refine And.intro ?_ ?_)); first | done | fail)) ?_ | refine .data (ResV_one rfl rfl TI.h rfl) (by ((repeat (first | exact trivial | exact rfl | exact ⟨_, rfl⟩ | refine And.intro ?_ ?_)); first | done | fail)) ?_)); first | done | fail)) : PostG P fn Q n .ret σ := R_rG svs Lo hq hL hl hr
end
end Go.Eng
