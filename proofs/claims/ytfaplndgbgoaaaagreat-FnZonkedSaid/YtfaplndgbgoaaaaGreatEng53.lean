import Derived.Test.YtfaplndgbgoaaaaGreatEng46
import Derived.Lib.SliceRun
namespace Go.Eng
open Go Go.RowKit
section
variable {P : Program} {A : Amb} {Q : Exit → St → Prop} {c : Code} {σ : St}
theorem gYh {α : Type} (I : α → St) (J : α → Prop) (μ : α → Nat) (x0 : α) (h0 : Le σ (I x0)) (hJ : J x0)
  (round : ∀ x, J x → V P A c (I x) (thenS (fun s => ∃ y, J y ∧ μ y < μ x ∧ ∀ a w, mM A s a w → mM A (I y) a w) Q)) (hA : ∀ x, A.L0.length ≤ (I x).L.length := by intro x; rw [gBl.h (A := A)]; exact Nat.le_of_ble_eq_true rfl) : V P A (.loop c) σ Q := by
 intro a w hr
 refine wp_loop_ghost (fun n a w => ∃ x, μ x = n ∧ J x ∧ mM A (I x) a w) (μ x0) ⟨x0, rfl, hJ, hr.le h0 (hA _)⟩ ?_
 intro n a w ⟨x, hn, hx, hr⟩
 refine wp_mono (round x hx a w hr) ?_
 intro e a' w' ⟨s, hq, hs⟩
 cases e with
 | normal =>
   obtain ⟨y, hJy, hlt, hle⟩ := hq
   exact ⟨μ y, hn ▸ hlt, y, rfl, hJy, hle _ _ hs⟩
 | exit id => exact ⟨s, hq, hs⟩
 | goto l => exact ⟨s, hq, hs⟩
 | ret => exact ⟨s, hq, hs⟩
 | panic ch => exact ⟨s, hq, hs⟩
 | outgrown => exact ⟨s, hq, hs⟩
theorem hBo {α0 α1 α2 α3 α4 : Type} (I : α0 → α1 → α2 → α3 → α4 → St) (J : α0 → α1 → α2 → α3 → α4 → Prop) (μ : α0 → α1 → α2 → α3 → α4 → Nat) (x0 : α0) (x1 : α1) (x2 : α2) (x3 : α3) (x4 : α4) (h0 : Le σ (I x0 x1 x2 x3 x4)) (hJ : J x0 x1 x2 x3 x4)
  (round : ∀ a0 a1 a2 a3 a4, J a0 a1 a2 a3 a4 → V P A c (I a0 a1 a2 a3 a4) (thenS (fun s => ∃ b0 b1 b2 b3 b4, J b0 b1 b2 b3 b4 ∧ μ b0 b1 b2 b3 b4 < μ a0 a1 a2 a3 a4 ∧ ∀ a w, mM A s a w → mM A (I b0 b1 b2 b3 b4) a w) Q)) (hA : ∀ a0 a1 a2 a3 a4, A.L0.length ≤ (I a0 a1 a2 a3 a4).L.length := by intros; rw [gBl.h (A := A)]; exact Nat.le_of_ble_eq_true rfl) : V P A (.loop c) σ Q :=
 gYh (α := α0 × α1 × α2 × α3 × α4) (fun x => I (x.1) (x.2.1) (x.2.2.1) (x.2.2.2.1) (x.2.2.2.2)) (fun x => J (x.1) (x.2.1) (x.2.2.1) (x.2.2.2.1) (x.2.2.2.2)) (fun x => μ (x.1) (x.2.1) (x.2.2.1) (x.2.2.2.1) (x.2.2.2.2)) (x0, x1, x2, x3, x4) h0 hJ (fun x hx => V.mono (round (x.1) (x.2.1) (x.2.2.1) (x.2.2.2.1) (x.2.2.2.2) hx) (fun e s hq => by
  cases e with
  | normal =>
    obtain ⟨b0, b1, b2, b3, b4, h1, h2, h3⟩ := hq
    exact ⟨(b0, b1, b2, b3, b4), h1, h2, h3⟩
  | _ => exact hq)) (fun x => hA (x.1) (x.2.1) (x.2.2.1) (x.2.2.2.1) (x.2.2.2.2))
theorem hBp {α0 α1 α2 α3 α4 α5 α6 : Type} (I : α0 → α1 → α2 → α3 → α4 → α5 → α6 → St) (J : α0 → α1 → α2 → α3 → α4 → α5 → α6 → Prop) (μ : α0 → α1 → α2 → α3 → α4 → α5 → α6 → Nat) (x0 : α0) (x1 : α1) (x2 : α2) (x3 : α3) (x4 : α4) (x5 : α5) (x6 : α6) (h0 : Le σ (I x0 x1 x2 x3 x4 x5 x6)) (hJ : J x0 x1 x2 x3 x4 x5 x6)
  (round : ∀ a0 a1 a2 a3 a4 a5 a6, J a0 a1 a2 a3 a4 a5 a6 → V P A c (I a0 a1 a2 a3 a4 a5 a6) (thenS (fun s => ∃ b0 b1 b2 b3 b4 b5 b6, J b0 b1 b2 b3 b4 b5 b6 ∧ μ b0 b1 b2 b3 b4 b5 b6 < μ a0 a1 a2 a3 a4 a5 a6 ∧ ∀ a w, mM A s a w → mM A (I b0 b1 b2 b3 b4 b5 b6) a w) Q)) (hA : ∀ a0 a1 a2 a3 a4 a5 a6, A.L0.length ≤ (I a0 a1 a2 a3 a4 a5 a6).L.length := by intros; rw [gBl.h (A := A)]; exact Nat.le_of_ble_eq_true rfl) : V P A (.loop c) σ Q :=
 gYh (α := α0 × α1 × α2 × α3 × α4 × α5 × α6) (fun x => I (x.1) (x.2.1) (x.2.2.1) (x.2.2.2.1) (x.2.2.2.2.1) (x.2.2.2.2.2.1) (x.2.2.2.2.2.2)) (fun x => J (x.1) (x.2.1) (x.2.2.1) (x.2.2.2.1) (x.2.2.2.2.1) (x.2.2.2.2.2.1) (x.2.2.2.2.2.2)) (fun x => μ (x.1) (x.2.1) (x.2.2.1) (x.2.2.2.1) (x.2.2.2.2.1) (x.2.2.2.2.2.1) (x.2.2.2.2.2.2)) (x0, x1, x2, x3, x4, x5, x6) h0 hJ (fun x hx => V.mono (round (x.1) (x.2.1) (x.2.2.1) (x.2.2.2.1) (x.2.2.2.2.1) (x.2.2.2.2.2.1) (x.2.2.2.2.2.2) hx) (fun e s hq => by
  cases e with
  | normal =>
    obtain ⟨b0, b1, b2, b3, b4, b5, b6, h1, h2, h3⟩ := hq
    exact ⟨(b0, b1, b2, b3, b4, b5, b6), h1, h2, h3⟩
  | _ => exact hq)) (fun x => hA (x.1) (x.2.1) (x.2.2.1) (x.2.2.2.1) (x.2.2.2.2.1) (x.2.2.2.2.2.1) (x.2.2.2.2.2.2))
end
section
variable {P : Program} {A : Amb} {σ : St} {dst : Option Nat} {ty : TypeId} {pos : String} {af : Array Edge} {g : Option (Nat × Bool)} {x : Operand}
end
section
variable {P : Program} {σ : St}
theorem hKw {fn : Func} {Q : SV → List LO → Prop} {n : Nat} (svs : List SV) (Lo : List LO) (hq : Q (mkG svs) Lo) (hL : ∃ L2, σ.L = Lo ++ L2 := by exact ⟨_, rfl⟩) (hl : (LO.lts Lo.length Lo && SV.lts Lo.length svs && Nat.ble n Lo.length) = true := by rfl)
  (hr : gS3 P σ fn.results.toList svs := by ((repeat (first | exact .nil | refine .data rfl rfl ?_ | refine .same rfl ?_ | refine .same (gGd rfl rfl TI.h rfl rfl) ?_ | refine .same (ResV_one rfl rfl TI.h rfl) ?_ | refine .data (gGd rfl rfl TI.h rfl rfl) (by ((repeat (first | exact trivial | exact rfl | exact ⟨_, rfl⟩ | refine And.intro ?_ ?_)); first | done | fail)) ?_ | refine .data (ResV_one rfl rfl TI.h rfl) (by ((repeat (first | exact trivial | exact rfl | exact ⟨_, rfl⟩ | refine And.intro ?_ ?_)); first | done | fail)) ?_)); first | done | fail)) : qY P fn Q n .normal σ := hQe svs Lo hq hL hl hr
theorem gEl {fn : Func} {Q : SV → List LO → Prop} {n : Nat} (svs : List SV) (Lo : List LO) (hq : Q (mkG svs) Lo) (hL : ∃ L2, σ.L = Lo ++ L2 := by exact ⟨_, rfl⟩) (hl : (LO.lts Lo.length Lo && SV.lts Lo.length svs && Nat.ble n Lo.length) = true := by rfl)
  (hr : gS3 P σ fn.results.toList svs := by ((repeat (first | exact .nil | refine .data rfl rfl ?_ | refine .same rfl ?_ | refine .same (gGd rfl rfl TI.h rfl rfl) ?_ | refine .same (ResV_one rfl rfl TI.h rfl) ?_ | refine .data (gGd rfl rfl TI.h rfl rfl) (by ((repeat (first | exact trivial | exact rfl | exact ⟨_, rfl⟩ | refine And.intro ?_ ?_)); first | done | fail)) ?_ | refine .data (ResV_one rfl rfl TI.h rfl) (by ((repeat (first | exact trivial | exact rfl | exact ⟨_, rfl⟩ | refine And.intro ?_ ?_)); first | done | fail)) ?_)); first | done | fail)) : qY P fn Q n .ret σ := hQf svs Lo hq hL hl hr
end
end Go.Eng
set_option linter.unusedVariables false
set_option linter.unusedSimpArgs false
namespace Go.Eng
open Go Go.RowKit
mutual
inductive Rv (j v : Nat) : SV → SV → Prop
 | sl : Rv j v (.sl j v) (.sl j 0)
 | ne {i ver : Nat} (h : (i == j) = false) : Rv j v (.sl i ver) (.sl i ver)
 | d {u : U} : Rv j v (.d u) (.d u)
 | ptr {i off : Nat} : Rv j v (.ptr i off) (.ptr i off)
 | dp {u : U} : Rv j v (.dp u) (.dp u)
 | nil : Rv j v .nilsl .nilsl
 | ag {cs cs' : List SV} (h : Rvs j v cs cs') : Rv j v (.ag cs) (.ag cs')
 | tup {cs cs' : List SV} (h : Rvs j v cs cs') : Rv j v (.tup cs) (.tup cs')
 | fn {f : Nat} {cs cs' : List SV} (h : Rvs j v cs cs') : Rv j v (.fn f cs) (.fn f cs')
inductive Rvs (j v : Nat) : List SV → List SV → Prop
 | nil : Rvs j v [] []
 | cons {a b : SV} {az bs : List SV} (h : Rv j v a b) (h2 : Rvs j v az bs) : Rvs j v (a :: az) (b :: bs)
end
inductive RvO (j v : Nat) : Nat → LO → LO → Prop
 | own {e z : Nat} {es : List U} : RvO j v j (.own e z v es) (.own e z 0 es)
 | arrj {e z : Nat} {es : List U} : RvO j v j (.arr e z v es) (.arr e z 0 es)
 | box {i : Nat} {cs cs' : List SV} (hi : (i == j) = false) (h : Rvs j v cs cs') : RvO j v i (.box cs) (.box cs')
 | owns {i e z ver : Nat} {es : List U} (hi : (i == j) = false) : RvO j v i (.own e z ver es) (.own e z ver es)
 | arr {i e z ver : Nat} {es : List U} (hi : (i == j) = false) : RvO j v i (.arr e z ver es) (.arr e z ver es)
 | frz {i e z ver : Nat} {es : List U} (hi : (i == j) = false) : RvO j v i (.frz e z ver es) (.frz e z ver es)
 | dead {i ver : Nat} (hi : (i == j) = false) : RvO j v i (.dead ver) (.dead ver)
inductive RvL (j v : Nat) : Nat → List LO → List LO → Prop
 | nil {i : Nat} : RvL j v i [] []
 | cons {i : Nat} {a b : LO} {az bs : List LO} (h : RvO j v i a b) (h2 : RvL j v (i + 1) az bs) : RvL j v i (a :: az) (b :: bs)
inductive RvF (j v : Nat) : List (Nat × SV) → List (Nat × SV) → Prop
 | nil : RvF j v [] []
 | cons {t : Nat} {a b : SV} {az bs : List (Nat × SV)} (h : Rv j v a b) (h2 : RvF j v az bs) : RvF j v ((t, a) :: az) ((t, b) :: bs)
section
variable {j v : Nat} {S : Nat → Prop} {L L' : List LO} {env : List Value} {w : World}
theorem RvL.get : ∀ {i : Nat} {az bs : List LO}, RvL j v i az bs → az.length = bs.length ∧ ∀ (m : Nat) (b : LO), bs[m]? = some b → ∃ a, az[m]? = some a ∧ RvO j v (i + m) a b
 | i, _, _, .nil => ⟨rfl, fun m b h => by simp at h⟩
 | i, _, _, .cons (a := a0) (b := b0) (az := az) (bs := bs) h h2 => by
   obtain ⟨k1, k2⟩ := RvL.get h2
   refine ⟨by simp [k1], fun m b hb => ?_⟩
   cases m with
   | zero => simp at hb; subst hb; exact ⟨a0, by simp, by simpa using h⟩
   | succ m =>
     obtain ⟨a, q1, q2⟩ := k2 m b (by simpa using hb)
     exact ⟨a, by simpa using q1, by rwa [show i + (m + 1) = i + 1 + m by omega]⟩
theorem RvF.look : ∀ {az bs : List (Nat × SV)}, RvF j v az bs → ∀ t, Go.Eng.look bs t = .junk ∨ Rv j v (Go.Eng.look az t) (Go.Eng.look bs t)
 | _, _, .nil, t => .inl rfl
 | _, _, .cons (t := t0) h h2, t => by
   simp only [Go.Eng.look]
   by_cases ht : t = t0
   ·simp only [ht, if_true]; exact .inr h
   ·simp only [if_neg ht]; exact RvF.look h2 t
mutual
theorem Rv.r (hj : ∃ o o' : LO, L[j]? = some o ∧ L'[j]? = some o' ∧ o.ver = v ∧ o'.ver = 0) (ho : ∀ (i : Nat) (o : LO), i ≠ j → L[i]? = some o → ∃ o', L'[i]? = some o' ∧ o'.ver = o.ver) : ∀ {a b : SV} {x : Value}, Rv j v a b → SVr S L env w a x → SVr S L' env w b x
 | _, _, x, .sl, h => by
   obtain ⟨o1, o2, h1, h2, h3, h4⟩ := hj
   simp only [SVr] at h ⊢
   obtain ⟨hv, o, k1, k2, k3, k4, k5⟩ := h
   rw [h1] at k2
   obtain rfl := Option.some.inj k2
   exact ⟨hv, _, k1, h2, Nat.zero_le _, k4, fun _ => k5 h3.symm⟩
 | _, _, x, .ne hi, h => by
   simp only [SVr] at h ⊢
   obtain ⟨hv, o, k1, k2, k3, k4, k5⟩ := h
   obtain ⟨o', q1, q2⟩ := ho _ o (by simpa using hi) k2
   exact ⟨hv, o', k1, q1, by rw [q2]; exact k3, k4, by rw [q2]; exact k5⟩
 | _, _, x, .d, h => by simpa only [SVr] using h
 | _, _, x, .ptr, h => by simpa only [SVr] using h
 | _, _, x, .dp, h => by simpa only [SVr] using h
 | _, _, x, .nil, h => by simpa only [SVr] using h
 | _, _, x, .ag hs, h => by
   simp only [SVr] at h ⊢
   obtain ⟨vs, h1, h2⟩ := h
   exact ⟨vs, h1, Rvs.r hj ho hs h2⟩
 | _, _, x, .tup hs, h => by
   simp only [SVr] at h ⊢
   obtain ⟨vs, h1, h2⟩ := h
   exact ⟨vs, h1, Rvs.r hj ho hs h2⟩
 | _, _, x, .fn hs, h => by
   simp only [SVr] at h ⊢
   obtain ⟨vs, h1, h2⟩ := h
   exact ⟨vs, h1, Rvs.r hj ho hs h2⟩
theorem Rvs.r (hj : ∃ o o' : LO, L[j]? = some o ∧ L'[j]? = some o' ∧ o.ver = v ∧ o'.ver = 0) (ho : ∀ (i : Nat) (o : LO), i ≠ j → L[i]? = some o → ∃ o', L'[i]? = some o' ∧ o'.ver = o.ver) : ∀ {az bs : List SV} {xs : List Value}, Rvs j v az bs → jW S L env w az xs → jW S L' env w bs xs
 | _, _, [], .nil, h => by simp only [jW]
 | _, _, _ :: _, .nil, h => by simp only [jW] at h
 | _, _, [], .cons _ _, h => by simp only [jW] at h
 | _, _, _ :: _, .cons h1 h2, h => by
   simp only [jW] at h ⊢
   exact ⟨Rv.r hj ho h1 h.1, Rvs.r hj ho h2 h.2⟩
end
theorem mM.rv {A : Amb} {a : Act} {fr fr' : List (Nat × SV)} {N n : Nat} [hb : gBl A n] (hn : n ≤ j) (hjl : j < L.length) (hL : RvL j v 0 L L') (hfr : RvF j v fr fr') (h : mM A ⟨fr, L, N⟩ a w) : mM A ⟨fr', L', N⟩ a w := by
 obtain ⟨S, env, hH, hf, hN, hd⟩ := h
 obtain ⟨hlen, hget⟩ := hL.get
 have hback : ∀ (m : Nat) (o : LO), L[m]? = some o → ∃ o', L'[m]? = some o' ∧ RvO j v m o o' := by
  intro m o ho
  have hm : m < L'.length := by rw [← hlen]; exact (List.getElem?_eq_some_iff.1 ho).1
  obtain ⟨o0, k1, k2⟩ := hget m _ (List.getElem?_eq_getElem hm)
  rw [ho] at k1
  obtain rfl := Option.some.inj k1
  exact ⟨_, List.getElem?_eq_getElem hm, by simpa using k2⟩
 have hj : ∃ o o' : LO, L[j]? = some o ∧ L'[j]? = some o' ∧ o.ver = v ∧ o'.ver = 0 := by
  obtain ⟨o', k1, k2⟩ := hback j _ (List.getElem?_eq_getElem hjl)
  generalize ho : L[j] = o at k2
  have hoj : L[j]? = some o := by rw [List.getElem?_eq_getElem hjl, ho]
  cases k2 with
  | own => exact ⟨_, _, hoj, k1, rfl, rfl⟩
  | arrj => exact ⟨_, _, hoj, k1, rfl, rfl⟩
  | box hi => simp at hi
  | owns hi => simp at hi
  | arr hi => simp at hi
  | frz hi => simp at hi
  | dead hi => simp at hi
 have ho : ∀ (i : Nat) (o : LO), i ≠ j → L[i]? = some o → ∃ o', L'[i]? = some o' ∧ o'.ver = o.ver := by
  intro i o hi h
  obtain ⟨o', k1, k2⟩ := hback i o h
  refine ⟨o', k1, ?_⟩
  cases k2 with
  | own => exact absurd rfl hi
  | arrj => exact absurd rfl hi
  | _ => rfl
 have hlive : ∀ {i : Nat} {o o' : LO}, RvO j v i o o' → o'.live = o.live ∧ ∀ hv b, o'.ft w hv b ↔ o.ft w hv b := by
  intro i o o' h
  cases h with
  | _ => exact ⟨rfl, fun _ _ => Iff.rfl⟩
 refine ⟨S, env, ⟨by rw [← hlen]; exact hH.len, fun i o' hv h1 h2 => ?_, fun i o' hv b h1 h2 h3 h4 => ?_, fun i k o1 o2 hv1 hv2 b h1 h2 h3 h4 h5 h6 h7 h8 => ?_, hH.sS, hH.sA, hH.frame, hH.size, hH.os, hH.tape, hH.output, ?_, hH.glob⟩, fun t => ?_, hN, hd⟩
 ·obtain ⟨o, k1, k2⟩ := hget i o' h1
  simp only [Nat.zero_add] at k2
  have hob := hH.objs i o hv k1 h2
  cases k2 with
  | own => exact hob
  | arrj => exact hob
  | owns hi => exact hob
  | arr hi => exact hob
  | frz hi => exact hob
  | dead hi => exact hob
  | box hi hs =>
    obtain ⟨b, vals, e, r1, r2, r3, r4⟩ := hob
    exact ⟨b, vals, e, r1, r2, Rvs.r hj ho hs r3, r4⟩
 ·obtain ⟨o, k1, k2⟩ := hget i o' h1
  obtain ⟨q1, q2⟩ := hlive k2
  exact hH.excl i o hv b k1 (by rw [← q1]; exact h2) h3 ((q2 hv b).1 h4)
 ·obtain ⟨p1, k1, k2⟩ := hget i o1 h1
  obtain ⟨p2, k3, k4⟩ := hget k o2 h2
  obtain ⟨q1, q2⟩ := hlive k2
  obtain ⟨q3, q4⟩ := hlive k4
  exact hH.dist i k p1 p2 hv1 hv2 b k1 k3 (by rw [← q1]; exact h3) (by rw [← q3]; exact h4) h5 h6 ((q2 _ _).1 h7) ((q4 _ _).1 h8)
 ·refine ⟨by rw [← hlen]; exact hH.base.1, fun i hv o hv' o' h1 h2 h3 h4 => ?_⟩
  have hi : i < n := by rw [← hb.h]; exact (List.getElem?_eq_some_iff.1 h2).1
  obtain ⟨o0, k1, k2⟩ := hget i o' h4
  obtain ⟨o1, k3, k4⟩ := ho i o0 (by omega) k1
  rw [h4] at k3
  obtain rfl := Option.some.inj k3
  have := hH.base.2 i hv o hv' o0 h1 h2 h3 k1
  rw [k4]
  exact this
 ·rcases hfr.look t with hjk | hr
  ·show SVr S L' env w (Go.Eng.look fr' t) _
   rw [hjk]
   simp only [SVr]
  ·exact Rv.r hj ho hr (hf t)
end
theorem hO7 {P : Program} {A : Amb} {c : Code} {Q : Exit → St → Prop} {fr fr' : List (Nat × SV)} {L L' : List LO} {N v : Nat} (n : Nat) [gBl A n] (j : Nat) (h : V P A c ⟨fr', L', N⟩ Q)
  (hL : RvL j v 0 L L' := by (repeat (first | exact Rv.sl | exact Rv.ne rfl | exact Rv.d | exact RvO.own | exact RvO.arrj | refine RvO.box rfl ?_ | exact RvO.owns rfl | exact RvO.arr rfl | exact RvO.frz rfl | exact RvO.dead rfl | constructor)); first | done | fail)
  (hfr : RvF j v fr fr' := by (repeat (first | exact Rv.sl | exact Rv.ne rfl | exact Rv.d | constructor)); first | done | fail) (hn : (Nat.ble n j && Nat.blt j L.length) = true := by rfl) : V P A c ⟨fr, L, N⟩ Q := by
 simp only [Bool.and_eq_true, Nat.blt_eq] at hn
 exact fun a w hr => h a w (hr.rv (n := n) (Nat.le_of_ble_eq_true hn.1) hn.2 hL hfr)
section
variable {P : Program} {A : Amb} {ops : Array Oper} {K : St → Prop} {r : List (Nat × Bool)} {pf : PF} {fr : List (Nat × SV)} {L L' : List LO} {N i t : Nat} {sv : SV}
variable {ty : TypeId} {pos : String} {af : Array Edge}
theorem gYi {f : Operand} {fi : Nat} {caps : List SV} {args : Array Operand} {at_ : Array TypeId} {cargs : List SV} {Lc Lo : List LO} {sv0 : SV} (js : List Nat) (hspec : Spec P fi cargs Lc (fun sv Lo' => sv = sv0 ∧ Lo' = Lo))
  (hsv : sv0.ren (rn js L.length) = sv) (hL' : gHo js (Lo.map (LO.ren (rn js L.length))) L = L')
  (hf : (St.mk fr L N).ev f = .fn fi caps) (hp : gOo L (rn js L.length) 0 Lc)
  (hjs : (decide js.Nodup && (js.all fun j => Nat.blt j L.length) && js.length == Lc.length && LO.lts Lc.length Lc) = true)
  (hargs : AGs L (rn js L.length) Lc.length (args.toList.map (St.mk fr L N).ev ++ caps) cargs) (ht : Nat.blt t N = true) :
  HSt P A ops ⟨fr, L, N⟩ ⟨some t, .call { callee := .value f, args := args, argTypes := at_ }, ty, pos, af, none⟩ sv L' := by
 intro fr' he K hK
 have hm : args.toList.map (St.mk fr' L N).ev = args.toList.map (St.mk fr L N).ev := List.map_congr_left fun x hx => he x (by simp only [Op.operands, Call.operands]; simp; exact .inr (by simpa using hx))
 refine gGc (caps := caps) js hspec ?_ (by rw [he f (by simp [Op.operands, Call.operands])]; exact hf) hp hjs (by rw [hm]; exact hargs) ht
 rintro _ _ ⟨rfl, rfl⟩
 rw [hsv, hL']
 exact gFi hK
theorem gBy {f : Operand} {fi : Nat} {caps : List SV} {args : Array Operand} {at_ : Array TypeId} {cargs : List SV} {Lc Lo : List LO} {sv0 : SV} (js : List Nat) (hspec : Spec P fi cargs Lc (fun sv Lo' => sv = sv0 ∧ Lo' = Lo)) (h : VY P A ops K r pf ⟨(t, sv) :: fr, L', N⟩)
  (hi : ops[i]? = some ⟨some t, .call { callee := .value f, args := args, argTypes := at_ }, ty, pos, af, none⟩ := by rfl) (hsv : sv0.ren (rn js L.length) = sv := by rfl) (hL' : gHo js (Lo.map (LO.ren (rn js L.length))) L = L' := by rfl)
  (hf : (St.mk fr L N).ev f = .fn fi caps := by rfl) (hp : gOo L (rn js L.length) 0 Lc := by ((repeat (first | exact trivial | exact rfl | refine And.intro ?_ ?_)); first | done | fail))
  (hjs : (decide js.Nodup && (js.all fun j => Nat.blt j L.length) && js.length == Lc.length && LO.lts Lc.length Lc) = true := by rfl)
  (hargs : AGs L (rn js L.length) Lc.length (args.toList.map (St.mk fr L N).ev ++ caps) cargs := by ((repeat (first | exact trivial | exact .inl ⟨rfl, rfl⟩ | exact .inr ⟨_, rfl, by ((repeat (first | exact trivial | exact rfl | exact ⟨_, rfl⟩ | refine And.intro ?_ ?_)); first | done | fail)⟩ | refine And.intro ?_ ?_)); first | done | fail))
  (ht : Nat.blt t N = true := by rfl) (hpf : zL ops i L' pf := by (repeat (first | exact zL.nil | (apply zL.keep; focus ((repeat constructor); done)) | (apply zL.dep; focus kernel_rfl)))) :
  VY P A ops K ((i, false) :: r) pf ⟨fr, L, N⟩ := gIc hi (gYi js hspec hsv hL' hf hp hjs hargs ht) hpf h
end
section
variable {P : Program} {A : Amb} {ops : Array Oper} {K : St → Prop} {rest : List Oper} {fr : List (Nat × SV)} {L : List LO} {N t : Nat} {sv : SV} {ty : TypeId} {pos : String} {af : Array Edge} {op : Op}
end
section
variable {P : Program} {A : Amb} {σ : St} {dst : Option Nat} {ty T T' : TypeId} {pos : String} {af : Array Edge} {g : Option (Nat × Bool)} {x y : Operand}
end
end Go.Eng
set_option linter.unusedVariables false
set_option linter.unusedSimpArgs false
namespace Go.Eng
open Go Go.RowKit
section
variable {P : Program} {A : Amb} {σ : St} {dst : Option Nat} {ty T T' : TypeId} {pos : String} {af : Array Edge} {g : Option (Nat × Bool)} {x y : Operand}
theorem hDf {m n r : Int} (hr : IntKind.i64.wrap (m.tdiv n) = r) (hx : σ.ev x = .d (.i .i64 m) := by rfl) (hy : σ.ev y = .d (.i .i64 n) := by rfl) (hn : decide (0 < n) = true := by rfl) : Quiet P A σ ⟨dst, .binOp .quo T x y T', ty, pos, af, g⟩ (.d (.i .i64 r)) := Quiet.pure fun S env a w hH ho => by
 have h1 := ho x (by simp [Op.operands])
 have h2 := ho y (by simp [Op.operands])
 rw [hx, SVr.int] at h1
 rw [hy, SVr.int] at h2
 have h0 : ¬ n = 0 := by have := of_decide_eq_true hn; omega
 subst hr
 exact ⟨_, by simp [execOp, h1, h2, eqGuard, binOp, Op.intDiv, h0], SVr.int.2 rfl⟩
theorem hHg {m n : Int} (hx : σ.ev x = .d (.i .i64 m) := by rfl) (hy : σ.ev y = .d (.i .i64 n) := by rfl) (hn : decide (0 < n) = true := by rfl) : Quiet P A σ ⟨dst, .binOp .rem T x y T', ty, pos, af, g⟩ (.d (.i .i64 (m.tmod n))) := Quiet.pure fun S env a w hH ho => by
 have h1 := ho x (by simp [Op.operands])
 have h2 := ho y (by simp [Op.operands])
 rw [hx, SVr.int] at h1
 rw [hy, SVr.int] at h2
 have h0 : ¬ n = 0 := by have := of_decide_eq_true hn; omega
 exact ⟨_, by simp [execOp, h1, h2, eqGuard, binOp, Op.intDiv, h0], SVr.int.2 rfl⟩
theorem vK {a b : List UInt8} (hl : a.length + b.length ≤ 4294967296) (hx : σ.ev x = .d (.s a) := by rfl) (hy : σ.ev y = .d (.s b) := by rfl) : QR P σ ⟨dst, .binOp .add T x y T', ty, pos, af, g⟩ (.d (.s (a ++ b))) :=
 fun A fr' L' he _ => hGx (by rw [he x (by simp [Op.operands])]; exact hx) (by rw [he y (by simp [Op.operands])]; exact hy) (by rw [yN]; omega)
end
end Go.Eng
set_option linter.unusedVariables false
set_option linter.unusedSimpArgs false
namespace Go.Eng
open Go Go.RowKit
def hHh (a : UInt8) : U := .i .u8 (a.toNat : Int)
def kN : List UInt8 → List U
 | [] => []
 | a :: l => .i .u8 (a.toNat : Int) :: kN l
instance : Enc UInt8 hHh kN 1 := ⟨fun l => by induction l with | nil => rfl | cons a l ih => simp [kN, ih, hHh], fun _ => rfl⟩
theorem hE3 {l : List UInt8} {k : Nat} {x : UInt8} (h : l[k]? = some x) : (kN l)[k]? = some (.i .u8 (x.toNat : Int)) := Enc.get h
structure jA where
 b : List UInt8
 i : Int
 h : Int
def gWn (m n : Int) : Int := IntKind.i64.wrap (BitVec.ofInt 64 m &&& BitVec.ofInt 64 n).toNat
def hHl (m n : Int) : Int := IntKind.i64.wrap (BitVec.ofInt 64 m ^^^ BitVec.ofInt 64 n).toNat
def hBq (m n : Int) : Int := m.fdiv (2 ^ (min n.toNat 64))
theorem gMa (m : Int) : 0 ≤ gWn m 255 ∧ gWn m 255 ≤ 255 := by
 have h : (BitVec.ofInt 64 m &&& BitVec.ofInt 64 255).toNat ≤ 255 := by
  rw [BitVec.toNat_and]
  exact Nat.and_le_right
 unfold gWn
 rw [wM _ (by omega) (by omega)]
 omega
section
variable {P : Program} {A : Amb} {σ : St} {dst : Option Nat} {ty T T' : TypeId} {pos : String} {af : Array Edge} {g : Option (Nat × Bool)} {x y : Operand}
theorem hE4 : QR P σ ⟨dst, .assign (.const (.pointer none)), ty, pos, af, g⟩ .junk :=
 fun A fr' L' he _ => Quiet.pure fun S env a w hH ho => ⟨.pointer none, by simp [execOp, Act.eval], by simp only [SVr]⟩
theorem gYj {m n : Int} (hx : σ.ev x = .d (.i .i64 m) := by rfl) (hy : σ.ev y = .d (.i .i64 n) := by rfl) : QR P σ ⟨dst, .binOp .and T x y T', ty, pos, af, g⟩ (.d (.i .i64 (gWn m n))) :=
 fun A fr' L' he _ => Quiet.pure fun S env a w hH ho => by
  have h1 := ho x (by simp [Op.operands])
  have h2 := ho y (by simp [Op.operands])
  rw [he x (by simp [Op.operands]), hx, SVr.int] at h1
  rw [he y (by simp [Op.operands]), hy, SVr.int] at h2
  exact ⟨_, by simp [execOp, h1, h2, eqGuard, binOp, Op.intBits]; rfl, SVr.int.2 rfl⟩
theorem hHm {m n : Int} (hx : σ.ev x = .d (.i .i64 m) := by rfl) (hy : σ.ev y = .d (.i .i64 n) := by rfl) : QR P σ ⟨dst, .binOp .xor T x y T', ty, pos, af, g⟩ (.d (.i .i64 (hHl m n))) :=
 fun A fr' L' he _ => Quiet.pure fun S env a w hH ho => by
  have h1 := ho x (by simp [Op.operands])
  have h2 := ho y (by simp [Op.operands])
  rw [he x (by simp [Op.operands]), hx, SVr.int] at h1
  rw [he y (by simp [Op.operands]), hy, SVr.int] at h2
  exact ⟨_, by simp [execOp, h1, h2, eqGuard, binOp, Op.intBits]; rfl, SVr.int.2 rfl⟩
theorem hDg {m n : Int} {k : IntKind} (hx : σ.ev x = .d (.i .i64 m) := by rfl) (hy : σ.ev y = .d (.i k n) := by rfl) (hn : decide (0 ≤ n) = true := by rfl) : QR P σ ⟨dst, .binOp .shr T x y T', ty, pos, af, g⟩ (.d (.i .i64 (hBq m n))) :=
 fun A fr' L' he _ => Quiet.pure fun S env a w hH ho => by
  have h1 := ho x (by simp [Op.operands])
  have h2 := ho y (by simp [Op.operands])
  rw [he x (by simp [Op.operands]), hx, SVr.int] at h1
  rw [he y (by simp [Op.operands]), hy, SVr.int] at h2
  have h0 : ¬ n < 0 := by have := of_decide_eq_true hn; omega
  exact ⟨_, by simp [execOp, h1, h2, eqGuard, binOp, Op.shift, h0]; rfl, SVr.int.2 rfl⟩
theorem hDh {m n : Int} (h0 : n ≠ 0) (hx : σ.ev x = .d (.i .i64 m) := by rfl) (hy : σ.ev y = .d (.i .i64 n) := by rfl) : QR P σ ⟨dst, .binOp .rem T x y T', ty, pos, af, g⟩ (.d (.i .i64 (m.tmod n))) :=
 fun A fr' L' he _ => Quiet.pure fun S env a w hH ho => by
  have h1 := ho x (by simp [Op.operands])
  have h2 := ho y (by simp [Op.operands])
  rw [he x (by simp [Op.operands]), hx, SVr.int] at h1
  rw [he y (by simp [Op.operands]), hy, SVr.int] at h2
  exact ⟨_, by simp [execOp, h1, h2, eqGuard, binOp, Op.intDiv, h0], SVr.int.2 rfl⟩
theorem hE5 {T2 : TypeId} {k k1 k2 : IntKind} {m : Int} (h1 : P.underlying T = some (.int k1)) (h2 : P.underlying T2 = some (.int k2)) (hx : σ.ev x = .d (.i k m) := by rfl) : QR P σ ⟨dst, .convert T T2 x, ty, pos, af, g⟩ (.d (.i k2 (k2.wrap m))) :=
 fun A fr' L' he _ => gS2 (by rw [he x (by simp [Op.operands])]; exact hx) h1 h2
end
end Go.Eng
set_option linter.unusedVariables false
set_option linter.unusedSimpArgs false
namespace Go.Eng
open Go Go.RowKit
section
variable {P : Program} {A : Amb} {σ : St} {K : St → Prop} {Q : Exit → St → Prop}
variable {ops : Array Oper} {rest : List Oper} {t : Nat} {ty : TypeId} {pos : String} {af : Array Edge} {x y : Operand} {sv : SV} {dst : Option Nat} {g : Option (Nat × Bool)}
end
section
variable {P : Program} {A : Amb} {ops : Array Oper} {K : St → Prop} {r : List (Nat × Bool)} {pf : PF} {fr : List (Nat × SV)} {L L1 L' : List LO} {N i t m : Nat}
variable {ty : TypeId} {pos : String} {af : Array Edge} {x y : Operand} {T : TypeId}
theorem mX {op : Op} {sv : SV} (hv : VY P A ops K r pf ⟨(t, sv) :: fr, L, N⟩) (hi : ops[i]? = some ⟨some t, op, ty, pos, af, none⟩ := by rfl) (h : QF P ops ⟨some t, op, ty, pos, af, none⟩ ⟨fr, L, N⟩ t sv := by (repeat (first | exact Rng.mk (by omega) (by omega) | constructor)); first | done | fail)
  (hp : zL ops i L pf := by (repeat (first | exact zL.nil | (apply zL.keep; focus ((repeat constructor); done)) | (apply zL.dep; focus kernel_rfl)))) : VY P A ops K ((i, false) :: r) pf ⟨fr, L, N⟩ := by
 refine gIc hi (fun fr' he' K' hK => ?_) hp hv
 obtain ⟨h1, _, h3 | h3⟩ := h.pst (A := A)
 ·exact hG9 (h3.2 fr' L he' (gNc.refl _)) (h1 t rfl) (gFi hK)
 ·exact absurd h3.1 (by simp [Gd])
end
end Go.Eng
set_option linter.unusedVariables false
set_option linter.unusedSimpArgs false
namespace Go.Eng
open Go Go.RowKit
section
variable {P : Program} {A : Amb} {σ : St} {K : St → Prop} {Q : Exit → St → Prop}
variable {ops : Array Oper} {rest : List Oper} {t : Nat} {ty : TypeId} {pos : String} {af : Array Edge} {x y : Operand} {sv : SV} {dst : Option Nat} {g : Option (Nat × Bool)}
end
section
variable {P : Program} {A : Amb} {Q : Exit → St → Prop} {c : Code}
end
theorem VDs.same {σ σ' : St} (hL : σ'.L = σ.L) {l : List Operand} {us : List U} (h : VDs σ l us) : (∀ x ∈ l, σ'.ev x = σ.ev x) → VDs σ' l us := by
 induction h with
 | nil => exact fun _ => .nil
 | @cons x l u us h h2 ih => exact fun he => .cons (by rw [hL, he x (by simp)]; exact h) (ih fun y hy => he y (by simp [hy]))
section
variable {P : Program} {A : Amb} {ops : Array Oper} {K : St → Prop} {r : List (Nat × Bool)} {pf : PF} {fr : List (Nat × SV)} {L L1 L' : List LO} {N i t m : Nat}
variable {ty : TypeId} {pos : String} {af : Array Edge} {x y : Operand} {T : TypeId}
theorem pY {e z bs n : Nat} {gg : Bool} [TE P T e] [TI P e gg z bs] {zs : List Value} [TZ P e zs] {us : List U} {ps : Array (Nat × Operand)} (h : VY P A ops K r pf ⟨(t, .sl m 0) :: fr, L', N⟩) (hi : ops[i]? = some ⟨some t, .buildSlice T n ps, ty, pos, af, none⟩ := by rfl) (hps : ps.toList = ((ps.toList.map Prod.snd).zipIdx 0).map (fun p => (p.2, p.1)) := by rfl)
  (hy : VDs ⟨fr, L, N⟩ (ps.toList.map Prod.snd) us := by (repeat (first | exact .nil | refine .cons (by ((repeat (first | exact trivial | exact rfl | exact ⟨_, rfl⟩ | refine And.intro ?_ ?_)); first | done | fail)) ?_))) (hu : (us.all fun u => u.sz == z) = true := by rfl) (hn : ((ps.toList.map Prod.snd).length == n && Nat.blt 0 n) = true := by rfl)
  (hz : (Nat.blt 0 z && Nat.ble (n * z) 16777216 && zs.length == z) = true := by rfl) (ht : Nat.blt t N = true := by rfl) (hL' : Sn (.arr e z 0 us) L m L' := by repeat constructor)
  (hp : zL ops i L' pf := by (repeat (first | exact zL.nil | (apply zL.keep; focus ((repeat constructor); done)) | (apply zL.dep; focus kernel_rfl)))) : VY P A ops K ((i, false) :: r) pf ⟨fr, L, N⟩ :=
 gIc hi (fun fr' he' K' hK => gNn (gFi hK) hps (VDs.same (σ := ⟨fr, L, N⟩) (σ' := ⟨fr', L, N⟩) rfl hy (fun x hx => he' x (by simpa [Op.operands] using hx))) hu hn hz ht hL') hp h
theorem pV {α : Type} {en : α → U} {es : List α → List U} {z : Nat} [E : Enc α en es z] {l l2 : List α} (hg : l.length + l2.length ≤ 4294967296) {e bs ver : Nat} {T' : TypeId} {gg : Bool} [TE P T e] [TI P e gg z bs] {zs : List Value} [TZ P e zs]
  (h : VY P A ops K r pf ⟨(t, .sl m (ver + 1)) :: fr, L', N⟩) (hi : ops[i]? = some ⟨some t, .call { callee := .builtin .append, args := #[x, y], argTypes := #[T, T] }, T', pos, af, none⟩ := by rfl) (hx : (St.mk fr L N).ev x = .sl m ver := by rfl) (hL : L[m]? = some (.arr e z ver (es l)) := by rfl) (hs : SrcOf ⟨fr, L, N⟩ z (es l2) ((St.mk fr L N).ev y) := by first | exact ⟨_, rfl⟩ | exact ⟨rfl, rfl, Enc.all _⟩ | exact rfl)
  (hz : (Nat.blt 0 z && zs.length == z) = true := by rfl) (hb : Nat.ble bs 32768 = true := by rfl) (ht : Nat.blt t N = true := by rfl) (hL' : L.set m (.arr e z (ver + 1) (es (l ++ l2))) = L' := by rfl)
  (hp : zL ops i L' pf := by (repeat (first | exact zL.nil | (apply zL.keep; focus ((repeat constructor); done)) | (apply zL.dep; focus kernel_rfl)))) : VY P A ops K ((i, false) :: r) pf ⟨fr, L, N⟩ :=
 gIc hi (fun fr' he' K' hK => gBu (l := l) (r := l2) hg (gFi hK) (by rw [he' x (by simp [Op.operands, Call.operands])]; exact hx) hL (by rw [he' y (by simp [Op.operands, Call.operands])]; exact hs) hz hb ht hL') hp h
end
section
variable {P : Program} {A : Amb} {ops : Array Oper} {K : St → Prop} {r : List (Nat × Bool)} {pf : PF} {o : Oper} {fr : List (Nat × SV)} {L L1 L' : List LO} {N i t j : Nat} {sv : SV}
theorem mM.adoptA {a : Act} {w : World} {cs cs' : List SV} {e z : Nat} (hL : L[j]? = some (.box cs)) (k : Nat) (hc : cs[k]? = some .nilsl) (hcs : cs.set k (.sl L.length 0) = cs') (h : mM A ⟨fr, L, N⟩ a w) : mM A ⟨fr, L.set j (.box cs') ++ [.arr e z 0 []], N⟩ a w := by
 subst hcs
 obtain ⟨S, env, hH, hf, hN, hd⟩ := h
 have hj := (List.getElem?_eq_some_iff.1 hL).1
 obtain ⟨hH1, C1⟩ := hH.newO [] (.arr e z 0 []) (.slice none 0 0) (Nat.le_refl _) (fun _ _ => rfl) rfl rfl rfl (fun b hb => by simp [LO.ft, blk] at hb) (fun _ => ⟨by simp [yN], by simp, [], World.ownsRow_nil w 0 e z, by simp [Rds]⟩)
 rw [gPz] at hH1 C1
 have hL1 : (L ++ [LO.arr e z 0 []])[j]? = some (.box cs) := by rw [List.getElem?_append_left hj]; exact hL
 have hje : j < (env ++ [Value.slice none 0 0]).length := by rw [hH1.len]; simp; omega
 obtain ⟨hv, he⟩ : ∃ hv, (env ++ [Value.slice none 0 0])[j]? = some hv := ⟨_, List.getElem?_eq_getElem hje⟩
 obtain ⟨b, vals, e', r1, r2, r3, r4⟩ := hH1.objs j _ hv hL1 he
 obtain ⟨hH2, C2⟩ := hH1.turnF (w' := w) j (.box cs) (.box (cs.set k (.sl L.length 0))) hv hL1 rfl he rfl rfl (fun _ _ => rfl) rfl rfl rfl (fun k hk => hk) (fun C => ⟨b, vals, e', r1, r2, by
  have r3' := jW.carry C _ _ r3
  rw [jW.iff] at r3' ⊢
  obtain ⟨v, v1, v2⟩ := wH.get ((jW.iff _ _).1 r3) k _ hc
  simp only [SVr] at v2
  subst v2
  have hset := wH.set k (.sl L.length 0) (.slice none 0 0) r3' (by
   simp only [SVr]
   refine ⟨.slice none 0 0, .arr e z 0 [], by rw [← hH.len]; simp, ?_, Nat.le_refl _, rfl, fun _ => rfl⟩
   rw [List.getElem?_set_ne (by omega)]
   simp)
  have hk : k < vals.toList.length := (List.getElem?_eq_some_iff.1 v1).1
  have : vals.toList.set k (.slice none 0 0) = vals.toList := by
   apply List.ext_getElem?
   intro m
   rw [List.getElem?_set]
   by_cases hm : k = m
   ·subst hm; rw [if_pos rfl, if_pos hk, v1]
   ·rw [if_neg hm]
  rwa [this] at hset, r4⟩)
 have hse : (L ++ [LO.arr e z 0 []]).set j (.box (cs.set k (.sl L.length 0))) = L.set j (.box (cs.set k (.sl L.length 0))) ++ [.arr e z 0 []] := by rw [List.set_append_left _ _ hj]
 rw [hse] at hH2 C2
 exact ⟨S, _, hH2, fun t => SVr.carry C2 _ _ (SVr.carry C1 _ _ (hf t)), hN, hd⟩
theorem yF {Q : Exit → St → Prop} {c : Code} {cs cs' : List SV} {n : Nat} (e z : Nat) (j k : Nat) (hL : L[j]? = some (.box cs)) (hc : cs[k]? = some .nilsl) (hn : Ln L n) (hcs : St1 (.sl n 0) k cs cs') (h1 : St1 (.box cs') j L L1) (h2 : Jn L1 [.arr e z 0 []] L')
  (h : V P A c ⟨fr, L', N⟩ Q) : V P A c ⟨fr, L, N⟩ Q := by
 have e1 := hn.eq
 have e2 := hcs.spec
 have e3 := h1.spec
 have e4 := h2.spec
 subst e1; subst e2; subst e3; subst e4
 exact fun a w hr => h a w (mM.adoptA hL k hc rfl hr)
end
section
variable {P : Program} {A : Amb} {σ : St} {K : St → Prop}
variable {ops : Array Oper} {rest : List Oper} {t : Nat} {ty : TypeId} {pos : String} {af : Array Edge} {x y : Operand} {dst : Option Nat} {g : Option (Nat × Bool)}
end
theorem jM (l : List gD) : (gJ l).length = l.length := Enc.len l
theorem gZ (l : List gH) : (gP l).length = l.length := Enc.len l
section
variable {P : Program} {A : Amb} {ops : Array Oper} {K : St → Prop} {r : List (Nat × Bool)} {pf : PF} {fr : List (Nat × SV)} {L L1 L' : List LO} {N i : Nat} {o : Oper} {sv : SV}
theorem gYk (zi : Nat) {e z ver : Nat} {es : List U} (hz : L[zi]? = some (.own e z ver es)) (hL1 : L.set zi (.frz e z ver es) = L1) (h : VY P A ops K ((i, false) :: r) pf ⟨fr, L1, N⟩) : VY P A ops K ((i, false) :: r) pf ⟨fr, L, N⟩ := by
 obtain ⟨o, Z, h1, h2, h3⟩ := h
 exact ⟨o, Z, h1, fun fr' he K' hK => gIw zi hz hL1 (h2 fr' he K' hK), h3⟩
theorem zO (zi : Nat) {e z ver : Nat} {es : List U} (hz : L[zi]? = some (.arr e z ver es)) (hL1 : L.set zi (.frz e z ver es) = L1) (h : VY P A ops K ((i, false) :: r) pf ⟨fr, L1, N⟩) : VY P A ops K ((i, false) :: r) pf ⟨fr, L, N⟩ := by
 obtain ⟨o, Z, h1, h2, h3⟩ := h
 exact ⟨o, Z, h1, fun fr' he K' hK => vL zi hz hL1 (h2 fr' he K' hK), h3⟩
end
section
variable {P : Program} {σ : St}
theorem hO8 {fn : Func} {Q : SV → List LO → Prop} {n : Nat} (svs : List SV) (Lo : List LO) (hq : Q (mkG svs) Lo) (hL : ∃ L2, σ.L = Lo ++ L2 := by exact ⟨_, rfl⟩) (hl : (LO.lts Lo.length Lo && SV.lts Lo.length svs && Nat.ble n Lo.length) = true := by rfl)
  (hr : gS3 P σ fn.results.toList svs := by ((repeat (first | exact .nil | refine .data rfl rfl ?_ | refine .data rfl (by ((repeat (first | exact trivial | exact rfl | exact ⟨_, rfl⟩ | refine And.intro ?_ ?_)); first | done | fail)) ?_ | refine .same rfl ?_ | refine .same (gGd rfl rfl TI.h rfl rfl) ?_ | refine .same (ResV_one rfl rfl TI.h rfl) ?_ | refine .data (gGd rfl rfl TI.h rfl rfl) (by ((repeat (first | exact trivial | exact rfl | exact ⟨_, rfl⟩ | refine And.intro ?_ ?_)); first | done | fail)) ?_ | refine .data (ResV_one rfl rfl TI.h rfl) (by ((repeat (first | exact trivial | exact rfl | exact ⟨_, rfl⟩ | refine And.intro ?_ ?_)); first | done | fail)) ?_)); first | done | fail)) : qY P fn Q n .ret σ := hQf svs Lo hq hL hl hr
end
end Go.Eng
set_option linter.unusedVariables false
set_option linter.unusedSimpArgs false
namespace Go.Eng
open Go Go.RowKit
theorem RdE.take {S : Nat → Prop} {w : World} {z b : Nat} : ∀ (us : List U) (off k : Nat), RdE S w z b off us → RdE S w z b off (us.take k)
 | _, _, 0, _ => by simp [RdE]
 | [], _, _ + 1, _ => by simp [RdE]
 | u :: us, off, k + 1, h => by
   simp only [RdE] at h
   simp only [List.take_succ_cons, RdE]
   exact ⟨h.1, RdE.take us (off + z) k h.2⟩
section
variable {P : Program} {σ : St} {dst : Option Nat} {ty T : TypeId} {pos : String} {af : Array Edge} {g : Option (Nat × Bool)} {x y h : Operand}
theorem hHn {α : Type} {en : α → U} {es : List α → List U} {z : Nat} [E : Enc α en es z] {e bs : Nat} {gg : Bool} {l : List α} {k : Int} (hk : 0 ≤ k ∧ k ≤ l.length) [TE P T e] [TI P e gg z bs] (hx : σ.ev x = .d (.sl z (es l)) := by rfl) (hh : σ.ev h = .d (.i .i64 k) := by rfl) :
  QR P σ ⟨dst, .slice T x none (some h) none, ty, pos, af, g⟩ (.d (.sl z (es (l.take k.toNat)))) := fun A fr' L' he _ => Quiet.pure fun S env a w hH ho => by
 have h1 := ho x (by simp [Op.operands])
 have h2 := ho h (by simp [Op.operands])
 rw [he x (by simp [Op.operands]), hx] at h1
 rw [he h (by simp [Op.operands]), hh, SVr.int] at h2
 rw [SVr.slice] at h1
 obtain ⟨hbg, base, cap, h3, h4⟩ := h1
 have hlen : (es l).length = l.length := Enc.len l
 have htk : es (l.take k.toNat) = (es l).take k.toNat := by rw [E.h, E.h, List.map_take]
 have hT : P.underlying T = some (.slice e) := zG TE.h
 have hel : P.elem T = e := by simp [Program.elem, hT]
 have hT' : P.underlying T = some (.slice (P.elem T)) := by rw [hel]; exact hT
 obtain ⟨hk0, hk1⟩ := hk
 have hkn : k.toNat ≤ (es l).length := by omega
 have hrun := run_slice_h (w := w) T base (es l).length ((es l).length + cap) hT' .i64 k hk0 (by omega)
 have hsz := run_sizeOf (w := w) (TI.h : tyI P e = some (gg, z, bs))
 rw [hel, hsz] at hrun
 simp only [Result.andThen] at hrun
 refine ⟨sliced base 0 k.toNat ((es l).length + cap) z, ?_, ?_⟩
 ·simp [execOp, h3, h2, Instr.sliceAt, run_underlying hT, hrun]
 ·rw [SVr.slice, htk]
  have htl : ((es l).take k.toNat).length = k.toNat := by rw [List.length_take]; omega
  refine ⟨by omega, ?_⟩
  rcases h4 with h4 | ⟨b, off, rfl, h5, h6⟩
  ·have hl0 : (es l).length = 0 := by rw [h4]; rfl
   have hk2 : k.toNat = 0 := by omega
   refine ⟨if 0 + cap = 0 then base else base.map (·.add (0 * z)), cap, ?_, .inl (by rw [h4]; simp)⟩
   rw [htl, hl0, hk2]
   simp [sliced]
  ·by_cases hc : (es l).length + cap = 0
   ·have hk2 : k.toNat = 0 := by omega
    have hnil : (es l).take k.toNat = [] := List.eq_nil_of_length_eq_zero (by omega)
    refine ⟨some ⟨b, off, none⟩, 0, ?_, .inl hnil⟩
    rw [htl, hc, hk2]
    simp [sliced]
   ·refine ⟨some ⟨b, off, none⟩, (es l).length + cap - k.toNat, ?_, .inr ⟨b, off, rfl, h5, RdE.take _ _ _ h6⟩⟩
    rw [htl]
    have : k.toNat + ((es l).length + cap - k.toNat) = (es l).length + cap := by omega
    rw [this]
    simp [sliced, hc, Addr.add_lit]
end
section
variable {P : Program} {A : Amb} {ops : Array Oper} {K : St → Prop} {r : List (Nat × Bool)} {pf : PF} {fr : List (Nat × SV)} {L L1 L' : List LO} {N i t m : Nat}
variable {ty : TypeId} {pos : String} {af : Array Edge} {x y : Operand} {T : TypeId}
end
end Go.Eng
