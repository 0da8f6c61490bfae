/- The engine, part 32: calls that hand objects over to the callee. -/
import Derived.Test.YtdofnoeiogjpjaaEng31
set_option linter.unusedVariables false
set_option linter.unusedSimpArgs false
namespace Go.Eng
open Go Go.RowKit

mutual
def SV.ren (ρ : Nat → Nat) : SV → SV
  | .junk => .junk
  | .d u => .d u
  | .ag cs => .ag (SV.rens ρ cs)
  | .ptr i off => .ptr (ρ i) off
  | .sl i ver => .sl (ρ i) ver
  | .dp u => .dp u
  | .ep i ver z k off => .ep (ρ i) ver z k off
  | .fn f cs => .fn f (SV.rens ρ cs)
  | .tup cs => .tup (SV.rens ρ cs)
  | .nilsl => .nilsl
def SV.rens (ρ : Nat → Nat) : List SV → List SV
  | [] => []
  | c :: cs => SV.ren ρ c :: SV.rens ρ cs
end
def LO.ren (ρ : Nat → Nat) : LO → LO
  | .box cs => .box (SV.rens ρ cs)
  | o => o
section
variable {ρ : Nat → Nat} {S : Nat → Prop} {L L' : List LO} {env env' : List Value} {w : World}
theorem LO.ren_ver (o : LO) : (o.ren ρ).ver = o.ver := by cases o <;> rfl
theorem LO.ren_live (o : LO) : (o.ren ρ).live = o.live := by cases o <;> rfl
theorem LO.ren_ft (o : LO) (hv : Value) (b : Nat) : (o.ren ρ).ft w hv b ↔ o.ft w hv b := by cases o <;> exact Iff.rfl
theorem ver_get {o : LO} {i : Nat} (h : (L'[ρ i]?).map LO.ver = (L[i]?).map LO.ver) (ho : L[i]? = some o) : ∃ o', L'[ρ i]? = some o' ∧ o'.ver = o.ver := by
  rw [ho] at h
  cases h' : L'[ρ i]? with
  | none => rw [h'] at h; cases h
  | some o' => rw [h'] at h; exact ⟨o', rfl, by simpa using h⟩
mutual
/-- From the callee's numbers to the caller's. -/
theorem SVr.ren (H : ∀ i, i < env.length → env'[ρ i]? = env[i]? ∧ (L'[ρ i]?).map LO.ver = (L[i]?).map LO.ver) : ∀ (sv : SV) (v : Value), SVr S L env w sv v → SVr S L' env' w (sv.ren ρ) v
  | .junk, v, _ => by simp only [SV.ren, SVr]
  | .d u, v, h => by simpa only [SV.ren, SVr] using h
  | .ag cs, v, h => by
    simp only [SV.ren, SVr] at h ⊢
    obtain ⟨vs, h1, h2⟩ := h
    exact ⟨vs, h1, SVrs.ren H cs vs h2⟩
  | .ptr i off, v, h => by
    simp only [SV.ren, SVr] at h ⊢
    obtain ⟨b, h1, h2⟩ := h
    exact ⟨b, by rw [(H i (List.getElem?_eq_some_iff.1 h1).1).1]; exact h1, h2⟩
  | .sl i ver, v, h => by
    simp only [SV.ren, SVr] at h ⊢
    obtain ⟨hv, o, h1, h2, h3, h5, h4⟩ := h
    obtain ⟨k1, k2⟩ := H i (List.getElem?_eq_some_iff.1 h1).1
    obtain ⟨o', k3, k4⟩ := ver_get k2 h2
    exact ⟨hv, o', by rw [k1]; exact h1, k3, by omega, h5, fun he => h4 (by omega)⟩
  | .dp u, v, h => by simpa only [SV.ren, SVr] using h
  | .ep i ver z k off, v, h => by
    simp only [SV.ren, SVr] at h ⊢
    obtain ⟨hv, o, h1, h2, h3, h5, h4⟩ := h
    obtain ⟨k1, k2⟩ := H i (List.getElem?_eq_some_iff.1 h1).1
    obtain ⟨o', k3, k4⟩ := ver_get k2 h2
    exact ⟨hv, o', by rw [k1]; exact h1, k3, by omega, h5, fun he => h4 (by omega)⟩
  | .fn f cs, v, h => by
    simp only [SV.ren, SVr] at h ⊢
    obtain ⟨vs, h1, h2⟩ := h
    exact ⟨vs, h1, SVrs.ren H cs vs h2⟩
  | .tup cs, v, h => by
    simp only [SV.ren, SVr] at h ⊢
    obtain ⟨vs, h1, h2⟩ := h
    exact ⟨vs, h1, SVrs.ren H cs vs h2⟩
  | .nilsl, v, h => by simpa only [SV.ren, SVr] using h
theorem SVrs.ren (H : ∀ i, i < env.length → env'[ρ i]? = env[i]? ∧ (L'[ρ i]?).map LO.ver = (L[i]?).map LO.ver) : ∀ (svs : List SV) (vs : List Value), SVrs S L env w svs vs → SVrs S L' env' w (SV.rens ρ svs) vs
  | [], [], _ => by simp only [SV.rens, SVrs]
  | sv :: svs, v :: vs, h => by
    simp only [SV.rens, SVrs] at h ⊢
    exact ⟨SVr.ren H sv v h.1, SVrs.ren H svs vs h.2⟩
  | [], _ :: _, h => by simp [SVrs] at h
  | _ :: _, [], h => by simp [SVrs] at h
end
mutual
/-- From the caller's numbers to the callee's. -/
theorem SVr.unren {n : Nat} (H : ∀ i, i < n → env'[ρ i]? = env[i]? ∧ (L'[ρ i]?).map LO.ver = (L[i]?).map LO.ver) : ∀ (sv : SV) (v : Value), sv.lt n = true → SVr S L' env' w (sv.ren ρ) v → SVr S L env w sv v
  | .junk, v, _, _ => by simp only [SVr]
  | .d u, v, _, h => by simpa only [SV.ren, SVr] using h
  | .ag cs, v, hl, h => by
    simp only [SV.ren, SVr] at h ⊢
    obtain ⟨vs, h1, h2⟩ := h
    exact ⟨vs, h1, SVrs.unren H cs vs (by simpa only [SV.lt] using hl) h2⟩
  | .ptr i off, v, hl, h => by
    simp only [SV.lt, Nat.blt_eq] at hl
    simp only [SV.ren, SVr] at h ⊢
    obtain ⟨b, h1, h2⟩ := h
    exact ⟨b, by rw [← (H i hl).1]; exact h1, h2⟩
  | .sl i ver, v, hl, h => by
    simp only [SV.lt, Nat.blt_eq] at hl
    simp only [SV.ren, SVr] at h ⊢
    obtain ⟨hv, o, h1, h2, h3, h5, h4⟩ := h
    obtain ⟨k1, k2⟩ := H i hl
    obtain ⟨o', k3, k4⟩ := ver_get (L' := L) (L := L') (ρ := fun _ => i) (i := ρ i) k2.symm h2
    exact ⟨hv, o', by rw [← k1]; exact h1, k3, by omega, h5, fun he => h4 (by omega)⟩
  | .dp u, v, _, h => by simpa only [SV.ren, SVr] using h
  | .ep i ver z k off, v, hl, h => by
    simp only [SV.lt, Nat.blt_eq] at hl
    simp only [SV.ren, SVr] at h ⊢
    obtain ⟨hv, o, h1, h2, h3, h5, h4⟩ := h
    obtain ⟨k1, k2⟩ := H i hl
    obtain ⟨o', k3, k4⟩ := ver_get (L' := L) (L := L') (ρ := fun _ => i) (i := ρ i) k2.symm h2
    exact ⟨hv, o', by rw [← k1]; exact h1, k3, by omega, h5, fun he => h4 (by omega)⟩
  | .fn f cs, v, hl, h => by
    simp only [SV.ren, SVr] at h ⊢
    obtain ⟨vs, h1, h2⟩ := h
    exact ⟨vs, h1, SVrs.unren H cs vs (by simpa only [SV.lt] using hl) h2⟩
  | .tup cs, v, hl, h => by
    simp only [SV.ren, SVr] at h ⊢
    obtain ⟨vs, h1, h2⟩ := h
    exact ⟨vs, h1, SVrs.unren H cs vs (by simpa only [SV.lt] using hl) h2⟩
  | .nilsl, v, _, h => by simpa only [SV.ren, SVr] using h
theorem SVrs.unren {n : Nat} (H : ∀ i, i < n → env'[ρ i]? = env[i]? ∧ (L'[ρ i]?).map LO.ver = (L[i]?).map LO.ver) : ∀ (svs : List SV) (vs : List Value), SV.lts n svs = true → SVrs S L' env' w (SV.rens ρ svs) vs → SVrs S L env w svs vs
  | [], [], _, _ => by simp only [SVrs]
  | sv :: svs, v :: vs, hl, h => by
    simp only [SV.lts, Bool.and_eq_true] at hl
    simp only [SV.rens, SVrs] at h ⊢
    exact ⟨SVr.unren H sv v hl.1 h.1, SVrs.unren H svs vs hl.2 h.2⟩
  | [], _ :: _, _, h => by simp [SV.rens, SVrs] at h
  | _ :: _, [], _, h => by simp [SV.rens, SVrs] at h
end
end

/-! ### objects picked out -/
structure PickR (ρ : Nat → Nat) (L Lc : List LO) : Prop where
  get : ∀ (m : Nat) (o : LO), Lc[m]? = some o → L[ρ m]? = some (o.ren ρ)
  inj : ∀ (m m' : Nat), m < Lc.length → m' < Lc.length → ρ m = ρ m' → m = m'
  lt : LO.lts Lc.length Lc = true
def pickE (ρ : Nat → Nat) (n : Nat) (env : List Value) : List Value := (List.range n).map fun m => env.getD (ρ m) undef
section
variable {ρ : Nat → Nat} {A A' : Amb} {S : Nat → Prop} {L Lc : List LO} {env : List Value} {w : World}
theorem pickE_get {n : Nat} (hH : HeapR A S L env w) {m : Nat} (hm : m < n) {o : LO} (ho : L[ρ m]? = some o) : (pickE ρ n env)[m]? = env[ρ m]? := by
  have hj := (List.getElem?_eq_some_iff.1 ho).1
  rw [← hH.len] at hj
  simp only [pickE, List.getElem?_map, List.getElem?_range hm, Option.map_some]
  rw [List.getElem?_eq_getElem hj]
  simp [List.getD_eq_getElem?_getD, List.getElem?_eq_getElem hj]
theorem PickR.H (hH : HeapR A S L env w) (hp : PickR ρ L Lc) : ∀ i, i < Lc.length → env[ρ i]? = (pickE ρ Lc.length env)[i]? ∧ (L[ρ i]?).map LO.ver = (Lc[i]?).map LO.ver := by
  intro i hi
  obtain ⟨o, ho⟩ : ∃ o, Lc[i]? = some o := ⟨_, List.getElem?_eq_getElem hi⟩
  have h1 := hp.get i o ho
  exact ⟨(pickE_get hH hi h1).symm, by rw [h1, ho]; simp [LO.ren_ver]⟩
/-- The heap of the objects picked out. -/
theorem HeapR.pick (hH : HeapR A S L env w) (hp : PickR ρ L Lc) (hw : A'.w0.heap.size ≤ w.heap.size)
    (hexcl : ∀ (m : Nat) (b : Nat), m < Lc.length → OwnB L env w (ρ m) b → A'.E b ∨ A'.w0.heap.size ≤ b) (hsA : ∀ b, S b → A'.S0 b ∨ A'.E b ∨ A'.w0.heap.size ≤ b)
    (hframe : ∀ b, b < A'.w0.heap.size → ¬ A'.E b → w.heap[b]? = A'.w0.heap[b]?) (hos : w.os = A'.w0.os) (htape : w.tape = A'.w0.tape) (hout : w.output = A'.w0.output)
    (hbase : Base A' Lc (pickE ρ Lc.length env)) (hglob : Gok A'.E A'.w0) : HeapR A' S Lc (pickE ρ Lc.length env) w := by
  have H := hp.H hH
  have key : ∀ (m : Nat) (o : LO) (hv : Value), Lc[m]? = some o → (pickE ρ Lc.length env)[m]? = some hv → m < Lc.length ∧ L[ρ m]? = some (o.ren ρ) ∧ env[ρ m]? = some hv := by
    intro m o hv h1 h2
    have hm := (List.getElem?_eq_some_iff.1 h1).1
    exact ⟨hm, hp.get m o h1, by rw [(H m hm).1]; exact h2⟩
  refine ⟨by simp [pickE], ?_, ?_, ?_, hH.sS, hsA, hframe, hw, hos, htape, hout, hbase, hglob⟩
  · intro m o hv h1 h2
    obtain ⟨hm, k1, k2⟩ := key m o hv h1 h2
    have hob := hH.objs _ _ _ k1 k2
    cases o with
    | box cs =>
      obtain ⟨b, vals, e, r1, r2, r3, r4⟩ := hob
      refine ⟨b, vals, e, r1, r2, SVrs.unren H _ _ ?_ r3, r4⟩
      have := LO.lts_get Lc hp.lt m _ h1
      simpa only [LO.lt] using this
    | arr e z ver es => exact hob
    | frz e z ver es => exact hob
    | own e z ver es => exact hob
    | dead ver => exact hob
    | ownp h e z es => exact hob
    | mix e z ver fs es => exact hob
  · intro m o hv b h1 hl h2 hb
    obtain ⟨hm, k1, k2⟩ := key m o hv h1 h2
    have hl' : (o.ren ρ).live = true := by rw [LO.ren_live]; exact hl
    have hb' := (LO.ren_ft (ρ := ρ) o hv b).2 hb
    have := hH.excl _ _ _ b k1 hl' k2 hb'
    exact ⟨this.1, hexcl m b hm ⟨_, _, k1, hl', k2, hb'⟩, this.2.2⟩
  · intro m m' o o' hv hv' b h1 h2 hl1 hl2 e1 e2 b1 b2
    obtain ⟨hm, k1, k2⟩ := key m o hv h1 e1
    obtain ⟨hm', k1', k2'⟩ := key m' o' hv' h2 e2
    exact hp.inj m m' hm hm' (hH.dist _ _ _ _ _ _ b k1 k1' (by rw [LO.ren_live]; exact hl1) (by rw [LO.ren_live]; exact hl2) k2 k2' ((LO.ren_ft o hv b).2 b1) ((LO.ren_ft o' hv' b).2 b2))
end

/-! ### lists, partly laid anew -/
def putA {α : Type} : List Nat → List α → List α → List α
  | [], new, old => old ++ new
  | j :: js, x :: new, old => putA js new (old.set j x)
  | _ :: _, [], old => old
def rn (js : List Nat) (n0 m : Nat) : Nat := (js[m]?).getD (n0 + (m - js.length))
section
variable {α : Type}
theorem putA_len : ∀ (js : List Nat) (new old : List α), js.length ≤ new.length → (putA js new old).length = old.length + (new.length - js.length)
  | [], new, old, _ => by simp [putA]
  | j :: js, x :: new, old, h => by
    simp only [putA]
    rw [putA_len js new (old.set j x) (by simpa using h)]
    simp
  | _ :: _, [], _, h => by simp at h
theorem putA_old : ∀ (js : List Nat) (new old : List α) (j : Nat), j < old.length → j ∉ js → (putA js new old)[j]? = old[j]?
  | [], new, old, j, h, _ => by simp only [putA]; exact List.getElem?_append_left h
  | i :: js, x :: new, old, j, h, hn => by
    simp only [List.mem_cons, not_or] at hn
    simp only [putA]
    rw [putA_old js new (old.set i x) j (by simpa using h) hn.2, List.getElem?_set_ne (fun e => hn.1 e.symm)]
  | _ :: _, [], _, _, _, _ => rfl
theorem putA_new : ∀ (js : List Nat) (new old : List α) (m : Nat), js.length ≤ new.length → (∀ j ∈ js, j < old.length) → js.Nodup → (putA js new old)[rn js old.length m]? = new[m]?
  | [], new, old, m, _, _, _ => by
    simp only [putA, rn, List.getElem?_nil, Option.getD_none, List.length_nil, Nat.sub_zero]
    rw [List.getElem?_append_right (by omega)]
    congr 1
    omega
  | j :: js, x :: new, old, m, hl, hlt, hnd => by
    simp only [putA]
    simp only [List.nodup_cons] at hnd
    cases m with
    | zero =>
      simp only [rn, List.getElem?_cons_zero, Option.getD_some]
      rw [putA_old js new _ j (by simpa using hlt j (by simp)) hnd.1]
      simp [hlt j (by simp)]
    | succ m =>
      have := putA_new js new (old.set j x) m (by simpa using hl) (fun i hi => by simpa using hlt i (by simp [hi])) hnd.2
      simp only [List.length_set] at this
      rw [List.getElem?_cons_succ, ← this]
      congr 1
      simp only [rn, List.getElem?_cons_succ, List.length_cons]
      congr 2
      omega
  | _ :: _, [], _, _, h, _, _ => by simp at h
theorem putA_cases (js : List Nat) (new old : List α) (hl : js.length ≤ new.length) (i : Nat) (hi : i < (putA js new old).length) : (i < old.length ∧ i ∉ js) ∨ ∃ m, m < new.length ∧ rn js old.length m = i := by
  rw [putA_len _ _ _ hl] at hi
  by_cases h1 : i ∈ js
  · obtain ⟨m, hm, rfl⟩ := List.mem_iff_getElem.1 h1
    exact .inr ⟨m, by omega, by simp [rn, List.getElem?_eq_getElem hm]⟩
  · by_cases h2 : i < old.length
    · exact .inl ⟨h2, h1⟩
    · refine .inr ⟨js.length + (i - old.length), by omega, ?_⟩
      simp only [rn]
      rw [List.getElem?_eq_none (by omega)]
      simp only [Option.getD_none]
      omega
theorem nodup_inj {l : List Nat} (h : l.Nodup) {i j : Nat} (hi : i < l.length) (hj : j < l.length) (he : l[i] = l[j]) : i = j := by
  have hp := List.pairwise_iff_getElem.1 h
  rcases Nat.lt_trichotomy i j with h1 | h1 | h1
  · exact absurd he (hp i j hi hj h1)
  · exact h1
  · exact absurd he.symm (hp j i hj hi h1)
theorem rn_inj {js : List Nat} {n0 : Nat} (hlt : ∀ j ∈ js, j < n0) (hnd : js.Nodup) {m m' : Nat} (h : rn js n0 m = rn js n0 m') : m = m' := by
  simp only [rn] at h
  by_cases h1 : m < js.length <;> by_cases h2 : m' < js.length
  · rw [List.getElem?_eq_getElem h1, List.getElem?_eq_getElem h2] at h
    exact nodup_inj hnd h1 h2 (by simpa using h)
  · rw [List.getElem?_eq_getElem h1, List.getElem?_eq_none (by omega)] at h
    have := hlt _ (List.getElem_mem h1)
    simp at h
    omega
  · rw [List.getElem?_eq_getElem h2, List.getElem?_eq_none (by omega)] at h
    have := hlt _ (List.getElem_mem h2)
    simp at h
    omega
  · rw [List.getElem?_eq_none (by omega), List.getElem?_eq_none (by omega)] at h
    simp at h
    omega
end
end Go.Eng
