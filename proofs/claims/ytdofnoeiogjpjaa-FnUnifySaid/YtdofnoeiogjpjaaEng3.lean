/- The engine, part 3: rules for code; the ground of the rules for operations. -/
import Derived.Test.YtdofnoeiogjpjaaEng2
import Derived.Deep.LoopGhost
namespace Go.Eng
open Go Go.RowKit

section
variable {P : Program} {A : Amb} {σ σ' : St} {Q Q' : Exit → St → Prop} {K K' : St → Prop}

def thenS (next : St → Prop) (Q : Exit → St → Prop) : Exit → St → Prop
  | .normal, σ => next σ
  | e, σ => Q e σ
def blockS (id : Nat) (Q : Exit → St → Prop) : Exit → St → Prop
  | .exit id', σ => if id' = id then Q .normal σ else Q (.exit id') σ
  | e, σ => Q e σ

theorem V.mono {c : Code} (h : V P A c σ Q) (hq : ∀ e s, Q e s → Q' e s) : V P A c σ Q' := fun a w hr =>
  wp_mono (h a w hr) fun e _ _ ⟨s, h1, h2⟩ => ⟨s, hq e s h1, h2⟩

theorem V_seq {x y : Code} (h : V P A x σ (thenS (fun s => V P A y s Q) Q)) : V P A (.seq x y) σ Q := fun a w hr =>
  wp_seq (wp_mono (h a w hr) fun e a' w' ⟨s, h1, h2⟩ => by
    cases e with
    | normal => exact h1 a' w' h2
    | exit id => exact ⟨s, h1, h2⟩
    | goto l => exact ⟨s, h1, h2⟩
    | ret => exact ⟨s, h1, h2⟩
    | panic c => exact ⟨s, h1, h2⟩
    | outgrown => exact ⟨s, h1, h2⟩)
theorem V_region {id : Nat} {l : List Oper} (h : VO P A l.toArray l σ (Q .normal)) : V P A (.region id l.toArray false) σ Q := fun a w hr =>
  wp_region_lit (h _ (fun s _ _ h1 h2 => ⟨s, h1, h2⟩) a w hr)
/-- The same, what is behind it in sequence. -/
theorem V_seq_region {id : Nat} {l : List Oper} {y : Code} (h : VO P A l.toArray l σ (fun s => V P A y s Q)) : V P A (.seq (.region id l.toArray false) y) σ Q :=
  V_seq (V_region h)
theorem V_skip (h : Q .normal σ) : V P A .skip σ Q := fun _ _ hr => wp_skip ⟨σ, h, hr⟩
theorem V_label {l : Nat} (h : Q .normal σ) : V P A (.label l) σ Q := fun _ _ hr => wp_label ⟨σ, h, hr⟩
theorem V_exit {id : Nat} (h : Q (.exit id) σ) : V P A (.exit id) σ Q := fun _ _ hr => wp_exit ⟨σ, h, hr⟩
theorem V_ret (h : Q .ret σ) : V P A .ret σ Q := fun _ _ hr => wp_ret ⟨σ, h, hr⟩
theorem V_block {id : Nat} {c : Code} (h : V P A c σ (blockS id Q)) : V P A (.block id c) σ Q := fun a w hr =>
  wp_block (wp_mono (h a w hr) fun e a' w' ⟨s, h1, h2⟩ => by
    cases e with
    | exit id' =>
      simp only [Exit.inBlock]
      simp only [blockS] at h1
      split
      · rename_i he; rw [if_pos he] at h1; exact ⟨s, h1, h2⟩
      · rename_i he; rw [if_neg he] at h1; exact ⟨s, h1, h2⟩
    | normal => exact ⟨s, h1, h2⟩
    | goto l => exact ⟨s, h1, h2⟩
    | ret => exact ⟨s, h1, h2⟩
    | panic c => exact ⟨s, h1, h2⟩
    | outgrown => exact ⟨s, h1, h2⟩)
theorem V_cond {c : Operand} {x y : Code} {t : Bool} (hc : σ.ev c = .d (.b t)) (ht : t = true → V P A x σ Q) (hf : t = false → V P A y σ Q) : V P A (.cond c x y) σ Q := by
  intro a w hr
  have hr' := hr
  obtain ⟨S, env, hH, hfr, hN, hd⟩ := hr
  have h1 := Realz.ev hfr hH c
  rw [hc] at h1
  simp only [SVr] at h1
  obtain ⟨cs, h2, h3⟩ := h1
  simp only [Rd] at h3
  subst h3
  have h4 : a.eval c = .bool t := by rw [h2]; rfl
  exact wp_cond_split h4 (fun h => ht h a w hr') (fun h => hf h a w hr')

mutual
def SV.lt (n : Nat) : SV → Bool
  | .junk => true
  | .d _ => true
  | .ag cs => SV.lts n cs
  | .ptr i _ => Nat.blt i n
  | .sl i _ => Nat.blt i n
  | .dp _ => true
  | .ep i _ _ _ _ => Nat.blt i n
  | .fn _ cs => SV.lts n cs
  | .tup cs => SV.lts n cs
  | .nilsl => true
def SV.lts (n : Nat) : List SV → Bool
  | [] => true
  | c :: cs => SV.lt n c && SV.lts n cs
end
mutual
theorem SVr.cut {S : Nat → Prop} {L L2 : List LO} {env : List Value} {w : World} (hl : env.length = (L ++ L2).length) : ∀ (sv : SV) (v : Value), sv.lt L.length = true → SVr S (L ++ L2) env w sv v → SVr S L (env.take L.length) w sv v
  | .junk, v, _, h => by simp only [SVr]
  | .d u, v, _, h => by simpa only [SVr] using h
  | .ag cs, v, hlt, h => by
    simp only [SVr] at h ⊢
    obtain ⟨vs, h1, h2⟩ := h
    exact ⟨vs, h1, SVrs.cut hl cs vs (by simpa only [SV.lt] using hlt) h2⟩
  | .ptr i off, v, hlt, h => by
    simp only [SV.lt, Nat.blt_eq] at hlt
    simp only [SVr] at h ⊢
    obtain ⟨b, h1, h2⟩ := h
    exact ⟨b, by rw [List.getElem?_take_of_lt hlt]; exact h1, h2⟩
  | .sl i ver, v, hlt, h => by
    simp only [SV.lt, Nat.blt_eq] at hlt
    simp only [SVr] at h ⊢
    obtain ⟨hv, o, h1, h2, h3⟩ := h
    exact ⟨hv, o, by rw [List.getElem?_take_of_lt hlt]; exact h1, by rw [List.getElem?_append_left hlt] at h2; exact h2, h3⟩
  | .dp u, v, _, h => by simpa only [SVr] using h
  | .ep i ver z k off, v, hlt, h => by
    simp only [SV.lt, Nat.blt_eq] at hlt
    simp only [SVr] at h ⊢
    obtain ⟨hv, o, h1, h2, h3⟩ := h
    exact ⟨hv, o, by rw [List.getElem?_take_of_lt hlt]; exact h1, by rw [List.getElem?_append_left hlt] at h2; exact h2, h3⟩
  | .fn f cs, v, hlt, h => by
    simp only [SVr] at h ⊢
    obtain ⟨vs, h1, h2⟩ := h
    exact ⟨vs, h1, SVrs.cut hl cs vs (by simpa only [SV.lt] using hlt) h2⟩
  | .tup cs, v, hlt, h => by
    simp only [SVr] at h ⊢
    obtain ⟨vs, h1, h2⟩ := h
    exact ⟨vs, h1, SVrs.cut hl cs vs (by simpa only [SV.lt] using hlt) h2⟩
  | .nilsl, v, _, h => by simpa only [SVr] using h
theorem SVrs.cut {S : Nat → Prop} {L L2 : List LO} {env : List Value} {w : World} (hl : env.length = (L ++ L2).length) : ∀ (svs : List SV) (vs : List Value), SV.lts L.length svs = true → SVrs S (L ++ L2) env w svs vs → SVrs S L (env.take L.length) w svs vs
  | [], [], _, h => by simp only [SVrs]
  | sv :: svs, v :: vs, hlt, h => by
    simp only [SV.lts, Bool.and_eq_true] at hlt
    simp only [SVrs] at h ⊢
    exact ⟨SVr.cut hl sv v hlt.1 h.1, SVrs.cut hl svs vs hlt.2 h.2⟩
  | [], _ :: _, _, h => by simp [SVrs] at h
  | _ :: _, [], _, h => by simp [SVrs] at h
end
def LO.lt (n : Nat) : LO → Bool
  | .box cs => SV.lts n cs
  | _ => true
def LO.lts (n : Nat) : List LO → Bool
  | [] => true
  | o :: os => LO.lt n o && LO.lts n os
theorem LO.lts_get {n : Nat} : ∀ (L : List LO), LO.lts n L = true → ∀ (i : Nat) (o : LO), L[i]? = some o → o.lt n = true
  | [], _, i, o, h => by simp at h
  | o0 :: L, hl, 0, o, h => by simp at h; subst h; simp only [LO.lts, Bool.and_eq_true] at hl; exact hl.1
  | o0 :: L, hl, i + 1, o, h => by simp only [LO.lts, Bool.and_eq_true] at hl; exact LO.lts_get L hl.2 i o (by simpa using h)

theorem HeapR.cut {A : Amb} {S : Nat → Prop} {L L2 : List LO} {env : List Value} {w : World} (h : HeapR A S (L ++ L2) env w) (hL : LO.lts L.length L = true) (hA : A.L0.length ≤ L.length) : HeapR A S L (env.take L.length) w := by
  have hlen := h.len
  have pL : ∀ (i : Nat) (o : LO), L[i]? = some o → (L ++ L2)[i]? = some o := fun i o ho => by
    rw [List.getElem?_append_left (List.getElem?_eq_some_iff.1 ho).1]; exact ho
  have pE : ∀ (i : Nat) (hv : Value), (env.take L.length)[i]? = some hv → env[i]? = some hv := fun i hv he => by
    rw [List.getElem?_take] at he
    split at he
    · exact he
    · cases he
  refine ⟨by rw [List.length_take, hlen, List.length_append]; omega, ?_, ?_, ?_, h.sS, h.sA, h.frame, h.size, h.os, h.tape, h.output, ⟨hA, fun i hv o hv' o' k1 k2 k3 k4 => h.base.2 i hv o hv' o' k1 k2 (pE i hv' k3) (pL i o' k4)⟩, h.glob⟩
  · intro i o hv ho he
    have hob := h.objs i o hv (pL i o ho) (pE i hv he)
    have hlt := LO.lts_get L hL i o ho
    cases o with
    | box cs =>
      obtain ⟨b, vals, e, h1, h2, h3, h4⟩ := hob
      exact ⟨b, vals, e, h1, h2, SVrs.cut hlen _ _ (by simpa only [LO.lt] using hlt) h3, h4⟩
    | arr e z ver es => exact hob
    | frz e z ver es => exact hob
    | own e z ver es => exact hob
    | dead ver => exact hob
    | ownp h e z es => exact hob
    | mix e z ver fs es => exact hob
  · intro i o hv b ho hl he hb
    exact h.excl i o hv b (pL i o ho) hl (pE i hv he) hb
  · intro i j o o' hv hv' b ho ho' hl hl' he he' hb hb'
    exact h.dist i j o o' hv hv' b (pL i o ho) (pL j o' ho') hl hl' (pE i hv he) (pE j hv' he') hb hb'

/-- A state that says less. -/
def LeF (fr : List (Nat × SV)) (n : Nat) : List (Nat × SV) → Prop
  | [] => True
  | p :: r => (look fr p.1 = p.2 ∧ p.2.lt n = true) ∧ LeF fr n r
structure Le (σ σ' : St) : Prop where
  N : σ.N = σ'.N
  fr : LeF σ.fr σ'.L.length σ'.fr
  L : ∃ L2, σ.L = σ'.L ++ L2
  lt : LO.lts σ'.L.length σ'.L = true
theorem LeF.look {fr : List (Nat × SV)} {n : Nat} : ∀ {fr' : List (Nat × SV)}, LeF fr n fr' → ∀ t, look fr' t = .junk ∨ (look fr t = look fr' t ∧ (look fr' t).lt n = true)
  | [], _, t => .inl rfl
  | p :: r, h, t => by
    simp only [Go.Eng.look]
    by_cases ht : t = p.1
    · simp only [ht, if_true]; exact .inr h.1
    · simp only [if_neg ht]; exact LeF.look h.2 t
theorem Realz.le {a : Act} {w : World} (hle : Le σ σ') (hA : A.L0.length ≤ σ'.L.length) (h : Realz A σ a w) : Realz A σ' a w := by
  obtain ⟨S, env, hH, hfr, hN, hd⟩ := h
  obtain ⟨L2, hL⟩ := hle.L
  rw [hL] at hH hfr
  refine ⟨S, env.take σ'.L.length, hH.cut hle.lt hA, fun t => ?_, by rw [← hle.N]; exact hN, hd⟩
  rcases LeF.look hle.fr t with hj | ⟨h1, h2⟩
  · rw [hj]; simp only [SVr]
  · rw [← h1] at h2 ⊢
    exact SVr.cut hH.len _ _ h2 (hfr t)
theorem V_le {c : Code} (hle : Le σ σ') (h : V P A c σ' Q) (hA : A.L0.length ≤ σ'.L.length := by rw [BaseN.h (A := A)]; exact Nat.le_of_ble_eq_true rfl) : V P A c σ Q := fun a w hr => h a w (hr.le hle hA)
theorem VO_le {ops : Array Oper} {l : List Oper} (hle : Le σ σ') (h : VO P A ops l σ' K) (hA : A.L0.length ≤ σ'.L.length := by rw [BaseN.h (A := A)]; exact Nat.le_of_ble_eq_true rfl) : VO P A ops l σ K := fun R hR a w hr => h R hR a w (hr.le hle hA)

/-- A loop: the states at its head are I x, for x with J x; each round lowers μ. -/
theorem V_loop {α : Type} {c : Code} (I : α → St) (J : α → Prop) (μ : α → Nat) (x0 : α) (h0 : Le σ (I x0)) (hJ : J x0)
    (round : ∀ x, J x → V P A c (I x) (thenS (fun s => ∃ y, J y ∧ μ y < μ x ∧ Le s (I y)) Q)) (hA : ∀ x, A.L0.length ≤ (I x).L.length := by intro x; rw [BaseN.h (A := A)]; exact Nat.le_of_ble_eq_true rfl) : V P A (.loop c) σ Q := by
  intro a w hr
  refine wp_loop_ghost (fun n a w => ∃ x, μ x = n ∧ J x ∧ Realz A (I x) a w) (μ x0) ⟨x0, rfl, hJ, hr.le h0 (hA _)⟩ ?_
  intro n a w ⟨x, hn, hx, hr⟩
  refine wp_mono (round x hx a w hr) ?_
  intro e a' w' ⟨s, hq, hs⟩
  cases e with
  | normal =>
    obtain ⟨y, hJy, hlt, hle⟩ := hq
    exact ⟨μ y, hn ▸ hlt, y, rfl, hJy, hs.le hle (hA _)⟩
  | exit id => exact ⟨s, hq, hs⟩
  | goto l => exact ⟨s, hq, hs⟩
  | ret => exact ⟨s, hq, hs⟩
  | panic ch => exact ⟨s, hq, hs⟩
  | outgrown => exact ⟨s, hq, hs⟩
end
end Go.Eng
