/- The engine, part 31: an element of plain data in a region that draws its order. -/
import Derived.Test.YtiaghdodeinecaaEng30
namespace Go.Eng
open Go Go.RowKit
section
variable {P : Program} {A : Amb} {ops : Array Oper} {K : St → Prop} {r : List (Nat × Bool)} {pf : PF} {fr : List (Nat × SV)} {L : List LO} {N i t : Nat}
variable {ty : TypeId} {pos : String} {af : Array Edge} {x y : Operand}
/-- A quiet operation by a rule that looks at its operands alone. -/
theorem VY_qr {o : Oper} {sv : SV} (hi : ops[i]? = some o) (hd : o.dst = some t) (hg : o.guard = none) (h : ∀ fr' L', (∀ x ∈ o.op.operands.toList, St.ev ⟨fr', L', N⟩ x = St.ev ⟨fr, L, N⟩ x) → Keep L L' → Quiet P A ⟨fr', L', N⟩ o sv) (ht : Nat.blt t N = true) (hv : VY P A ops K r ((i, L) :: pf) ⟨(t, sv) :: fr, L, N⟩) : VY P A ops K ((i, true) :: r) pf ⟨fr, L, N⟩ := by
  refine ⟨o, sv, hi, ⟨fun d h' => (by rw [hd] at h'; cases h'; exact ht), Keep.refl _, .inl ⟨by unfold Gd; simp only [hg], h⟩⟩, ?_⟩
  rw [hd]
  exact hv
end
end Go.Eng
set_option linter.unusedVariables false
set_option linter.unusedSimpArgs false
namespace Go.Eng
open Go Go.RowKit
mutual
def SV.ren (ρ : Nat → Nat) : SV → SV
  | .junk => .junk
  | .d u => .d u
  | .ag cs => .ag (SV.rens ρ cs)
  | .ptr i off => .ptr (ρ i) off
  | .sl i ver => .sl (ρ i) ver
  | .dp u => .dp u
  | .ep i ver z k off => .ep (ρ i) ver z k off
  | .fn f cs => .fn f (SV.rens ρ cs)
  | .tup cs => .tup (SV.rens ρ cs)
  | .nilsl => .nilsl
def SV.rens (ρ : Nat → Nat) : List SV → List SV
  | [] => []
  | c :: cs => SV.ren ρ c :: SV.rens ρ cs
end
def LO.ren (ρ : Nat → Nat) : LO → LO
  | .box cs => .box (SV.rens ρ cs)
  | o => o
section
variable {ρ : Nat → Nat} {S : Nat → Prop} {L L' : List LO} {env env' : List Value} {w : World}
theorem LO.ren_ver (o : LO) : (o.ren ρ).ver = o.ver := by cases o <;> rfl
theorem LO.ren_live (o : LO) : (o.ren ρ).live = o.live := by cases o <;> rfl
theorem LO.ren_ft (o : LO) (hv : Value) (b : Nat) : (o.ren ρ).ft w hv b ↔ o.ft w hv b := by cases o <;> exact Iff.rfl
theorem ver_get {o : LO} {i : Nat} (h : (L'[ρ i]?).map LO.ver = (L[i]?).map LO.ver) (ho : L[i]? = some o) : ∃ o', L'[ρ i]? = some o' ∧ o'.ver = o.ver := by
  rw [ho] at h
  cases h' : L'[ρ i]? with
  | none => rw [h'] at h; cases h
  | some o' => rw [h'] at h; exact ⟨o', rfl, by simpa using h⟩
mutual
/-- From the callee's numbers to the caller's. -/
theorem SVr.ren (H : ∀ i, i < env.length → env'[ρ i]? = env[i]? ∧ (L'[ρ i]?).map LO.ver = (L[i]?).map LO.ver) : ∀ (sv : SV) (v : Value), SVr S L env w sv v → SVr S L' env' w (sv.ren ρ) v
  | .junk, v, _ => by simp only [SV.ren, SVr]
  | .d u, v, h => by simpa only [SV.ren, SVr] using h
  | .ag cs, v, h => by
    simp only [SV.ren, SVr] at h ⊢
    obtain ⟨vs, h1, h2⟩ := h
    exact ⟨vs, h1, SVrs.ren H cs vs h2⟩
  | .ptr i off, v, h => by
    simp only [SV.ren, SVr] at h ⊢
    obtain ⟨b, h1, h2⟩ := h
    exact ⟨b, by rw [(H i (List.getElem?_eq_some_iff.1 h1).1).1]; exact h1, h2⟩
  | .sl i ver, v, h => by
    simp only [SV.ren, SVr] at h ⊢
    obtain ⟨hv, o, h1, h2, h3, h5, h4⟩ := h
    obtain ⟨k1, k2⟩ := H i (List.getElem?_eq_some_iff.1 h1).1
    obtain ⟨o', k3, k4⟩ := ver_get k2 h2
    exact ⟨hv, o', by rw [k1]; exact h1, k3, by omega, h5, fun he => h4 (by omega)⟩
  | .dp u, v, h => by simpa only [SV.ren, SVr] using h
  | .ep i ver z k off, v, h => by
    simp only [SV.ren, SVr] at h ⊢
    obtain ⟨hv, o, h1, h2, h3, h5, h4⟩ := h
    obtain ⟨k1, k2⟩ := H i (List.getElem?_eq_some_iff.1 h1).1
    obtain ⟨o', k3, k4⟩ := ver_get k2 h2
    exact ⟨hv, o', by rw [k1]; exact h1, k3, by omega, h5, fun he => h4 (by omega)⟩
  | .fn f cs, v, h => by
    simp only [SV.ren, SVr] at h ⊢
    obtain ⟨vs, h1, h2⟩ := h
    exact ⟨vs, h1, SVrs.ren H cs vs h2⟩
  | .tup cs, v, h => by
    simp only [SV.ren, SVr] at h ⊢
    obtain ⟨vs, h1, h2⟩ := h
    exact ⟨vs, h1, SVrs.ren H cs vs h2⟩
  | .nilsl, v, h => by simpa only [SV.ren, SVr] using h
theorem SVrs.ren (H : ∀ i, i < env.length → env'[ρ i]? = env[i]? ∧ (L'[ρ i]?).map LO.ver = (L[i]?).map LO.ver) : ∀ (svs : List SV) (vs : List Value), SVrs S L env w svs vs → SVrs S L' env' w (SV.rens ρ svs) vs
  | [], [], _ => by simp only [SV.rens, SVrs]
  | sv :: svs, v :: vs, h => by
    simp only [SV.rens, SVrs] at h ⊢
    exact ⟨SVr.ren H sv v h.1, SVrs.ren H svs vs h.2⟩
  | [], _ :: _, h => by simp [SVrs] at h
  | _ :: _, [], h => by simp [SVrs] at h
end
mutual
/-- From the caller's numbers to the callee's. -/
theorem SVr.unren {n : Nat} (H : ∀ i, i < n → env'[ρ i]? = env[i]? ∧ (L'[ρ i]?).map LO.ver = (L[i]?).map LO.ver) : ∀ (sv : SV) (v : Value), sv.lt n = true → SVr S L' env' w (sv.ren ρ) v → SVr S L env w sv v
  | .junk, v, _, _ => by simp only [SVr]
  | .d u, v, _, h => by simpa only [SV.ren, SVr] using h
  | .ag cs, v, hl, h => by
    simp only [SV.ren, SVr] at h ⊢
    obtain ⟨vs, h1, h2⟩ := h
    exact ⟨vs, h1, SVrs.unren H cs vs (by simpa only [SV.lt] using hl) h2⟩
  | .ptr i off, v, hl, h => by
    simp only [SV.lt, Nat.blt_eq] at hl
    simp only [SV.ren, SVr] at h ⊢
    obtain ⟨b, h1, h2⟩ := h
    exact ⟨b, by rw [← (H i hl).1]; exact h1, h2⟩
  | .sl i ver, v, hl, h => by
    simp only [SV.lt, Nat.blt_eq] at hl
    simp only [SV.ren, SVr] at h ⊢
    obtain ⟨hv, o, h1, h2, h3, h5, h4⟩ := h
    obtain ⟨k1, k2⟩ := H i hl
    obtain ⟨o', k3, k4⟩ := ver_get (L' := L) (L := L') (ρ := fun _ => i) (i := ρ i) k2.symm h2
    exact ⟨hv, o', by rw [← k1]; exact h1, k3, by omega, h5, fun he => h4 (by omega)⟩
  | .dp u, v, _, h => by simpa only [SV.ren, SVr] using h
  | .ep i ver z k off, v, hl, h => by
    simp only [SV.lt, Nat.blt_eq] at hl
    simp only [SV.ren, SVr] at h ⊢
    obtain ⟨hv, o, h1, h2, h3, h5, h4⟩ := h
    obtain ⟨k1, k2⟩ := H i hl
    obtain ⟨o', k3, k4⟩ := ver_get (L' := L) (L := L') (ρ := fun _ => i) (i := ρ i) k2.symm h2
    exact ⟨hv, o', by rw [← k1]; exact h1, k3, by omega, h5, fun he => h4 (by omega)⟩
  | .fn f cs, v, hl, h => by
    simp only [SV.ren, SVr] at h ⊢
    obtain ⟨vs, h1, h2⟩ := h
    exact ⟨vs, h1, SVrs.unren H cs vs (by simpa only [SV.lt] using hl) h2⟩
  | .tup cs, v, hl, h => by
    simp only [SV.ren, SVr] at h ⊢
    obtain ⟨vs, h1, h2⟩ := h
    exact ⟨vs, h1, SVrs.unren H cs vs (by simpa only [SV.lt] using hl) h2⟩
  | .nilsl, v, _, h => by simpa only [SV.ren, SVr] using h
theorem SVrs.unren {n : Nat} (H : ∀ i, i < n → env'[ρ i]? = env[i]? ∧ (L'[ρ i]?).map LO.ver = (L[i]?).map LO.ver) : ∀ (svs : List SV) (vs : List Value), SV.lts n svs = true → SVrs S L' env' w (SV.rens ρ svs) vs → SVrs S L env w svs vs
  | [], [], _, _ => by simp only [SVrs]
  | sv :: svs, v :: vs, hl, h => by
    simp only [SV.lts, Bool.and_eq_true] at hl
    simp only [SV.rens, SVrs] at h ⊢
    exact ⟨SVr.unren H sv v hl.1 h.1, SVrs.unren H svs vs hl.2 h.2⟩
  | [], _ :: _, _, h => by simp [SV.rens, SVrs] at h
  | _ :: _, [], _, h => by simp [SV.rens, SVrs] at h
end
end
/-! ### objects picked out -/
structure PickR (ρ : Nat → Nat) (L Lc : List LO) : Prop where
  get : ∀ (m : Nat) (o : LO), Lc[m]? = some o → L[ρ m]? = some (o.ren ρ)
  inj : ∀ (m m' : Nat), m < Lc.length → m' < Lc.length → ρ m = ρ m' → m = m'
  lt : LO.lts Lc.length Lc = true
def pickE (ρ : Nat → Nat) (n : Nat) (env : List Value) : List Value := (List.range n).map fun m => env.getD (ρ m) undef
section
variable {ρ : Nat → Nat} {A A' : Amb} {S : Nat → Prop} {L Lc : List LO} {env : List Value} {w : World}
theorem pickE_get {n : Nat} (hH : HeapR A S L env w) {m : Nat} (hm : m < n) {o : LO} (ho : L[ρ m]? = some o) : (pickE ρ n env)[m]? = env[ρ m]? := by
  have hj := (List.getElem?_eq_some_iff.1 ho).1
  rw [← hH.len] at hj
  simp only [pickE, List.getElem?_map, List.getElem?_range hm, Option.map_some]
  rw [List.getElem?_eq_getElem hj]
  simp [List.getD_eq_getElem?_getD, List.getElem?_eq_getElem hj]
theorem PickR.H (hH : HeapR A S L env w) (hp : PickR ρ L Lc) : ∀ i, i < Lc.length → env[ρ i]? = (pickE ρ Lc.length env)[i]? ∧ (L[ρ i]?).map LO.ver = (Lc[i]?).map LO.ver := by
  intro i hi
  obtain ⟨o, ho⟩ : ∃ o, Lc[i]? = some o := ⟨_, List.getElem?_eq_getElem hi⟩
  have h1 := hp.get i o ho
  exact ⟨(pickE_get hH hi h1).symm, by rw [h1, ho]; simp [LO.ren_ver]⟩
/-- The heap of the objects picked out. -/
theorem HeapR.pick (hH : HeapR A S L env w) (hp : PickR ρ L Lc) (hw : A'.w0.heap.size ≤ w.heap.size)
    (hexcl : ∀ (m : Nat) (b : Nat), m < Lc.length → OwnB L env w (ρ m) b → A'.E b ∨ A'.w0.heap.size ≤ b) (hsA : ∀ b, S b → A'.S0 b ∨ A'.E b ∨ A'.w0.heap.size ≤ b)
    (hframe : ∀ b, b < A'.w0.heap.size → ¬ A'.E b → w.heap[b]? = A'.w0.heap[b]?) (hos : w.os = A'.w0.os) (htape : w.tape = A'.w0.tape) (hout : w.output = A'.w0.output)
    (hbase : Base A' Lc (pickE ρ Lc.length env)) (hglob : Gok A'.E A'.w0) : HeapR A' S Lc (pickE ρ Lc.length env) w := by
  have H := hp.H hH
  have key : ∀ (m : Nat) (o : LO) (hv : Value), Lc[m]? = some o → (pickE ρ Lc.length env)[m]? = some hv → m < Lc.length ∧ L[ρ m]? = some (o.ren ρ) ∧ env[ρ m]? = some hv := by
    intro m o hv h1 h2
    have hm := (List.getElem?_eq_some_iff.1 h1).1
    exact ⟨hm, hp.get m o h1, by rw [(H m hm).1]; exact h2⟩
  refine ⟨by simp [pickE], ?_, ?_, ?_, hH.sS, hsA, hframe, hw, hos, htape, hout, hbase, hglob⟩
  · intro m o hv h1 h2
    obtain ⟨hm, k1, k2⟩ := key m o hv h1 h2
    have hob := hH.objs _ _ _ k1 k2
    cases o with
    | box cs =>
      obtain ⟨b, vals, e, r1, r2, r3, r4⟩ := hob
      refine ⟨b, vals, e, r1, r2, SVrs.unren H _ _ ?_ r3, r4⟩
      have := LO.lts_get Lc hp.lt m _ h1
      simpa only [LO.lt] using this
    | arr e z ver es => exact hob
    | frz e z ver es => exact hob
    | own e z ver es => exact hob
    | dead ver => exact hob
    | ownp h e z es => exact hob
    | mix e z ver fs es => exact hob
    | set ks => exact hob
  · intro m o hv b h1 hl h2 hb
    obtain ⟨hm, k1, k2⟩ := key m o hv h1 h2
    have hl' : (o.ren ρ).live = true := by rw [LO.ren_live]; exact hl
    have hb' := (LO.ren_ft (ρ := ρ) o hv b).2 hb
    have := hH.excl _ _ _ b k1 hl' k2 hb'
    exact ⟨this.1, hexcl m b hm ⟨_, _, k1, hl', k2, hb'⟩, this.2.2⟩
  · intro m m' o o' hv hv' b h1 h2 hl1 hl2 e1 e2 b1 b2
    obtain ⟨hm, k1, k2⟩ := key m o hv h1 e1
    obtain ⟨hm', k1', k2'⟩ := key m' o' hv' h2 e2
    exact hp.inj m m' hm hm' (hH.dist _ _ _ _ _ _ b k1 k1' (by rw [LO.ren_live]; exact hl1) (by rw [LO.ren_live]; exact hl2) k2 k2' ((LO.ren_ft o hv b).2 b1) ((LO.ren_ft o' hv' b).2 b2))
end
/-! ### lists, partly laid anew -/
def putA {α : Type} : List Nat → List α → List α → List α
  | [], new, old => old ++ new
  | j :: js, x :: new, old => putA js new (old.set j x)
  | _ :: _, [], old => old
def rn (js : List Nat) (n0 m : Nat) : Nat := (js[m]?).getD (n0 + (m - js.length))
section
variable {α : Type}
theorem putA_len : ∀ (js : List Nat) (new old : List α), js.length ≤ new.length → (putA js new old).length = old.length + (new.length - js.length)
  | [], new, old, _ => by simp [putA]
  | j :: js, x :: new, old, h => by
    simp only [putA]
    rw [putA_len js new (old.set j x) (by simpa using h)]
    simp
  | _ :: _, [], _, h => by simp at h
theorem putA_old : ∀ (js : List Nat) (new old : List α) (j : Nat), j < old.length → j ∉ js → (putA js new old)[j]? = old[j]?
  | [], new, old, j, h, _ => by simp only [putA]; exact List.getElem?_append_left h
  | i :: js, x :: new, old, j, h, hn => by
    simp only [List.mem_cons, not_or] at hn
    simp only [putA]
    rw [putA_old js new (old.set i x) j (by simpa using h) hn.2, List.getElem?_set_ne (fun e => hn.1 e.symm)]
  | _ :: _, [], _, _, _, _ => rfl
theorem putA_new : ∀ (js : List Nat) (new old : List α) (m : Nat), js.length ≤ new.length → (∀ j ∈ js, j < old.length) → js.Nodup → (putA js new old)[rn js old.length m]? = new[m]?
  | [], new, old, m, _, _, _ => by
    simp only [putA, rn, List.getElem?_nil, Option.getD_none, List.length_nil, Nat.sub_zero]
    rw [List.getElem?_append_right (by omega)]
    congr 1
    omega
  | j :: js, x :: new, old, m, hl, hlt, hnd => by
    simp only [putA]
    simp only [List.nodup_cons] at hnd
    cases m with
    | zero =>
      simp only [rn, List.getElem?_cons_zero, Option.getD_some]
      rw [putA_old js new _ j (by simpa using hlt j (by simp)) hnd.1]
      simp [hlt j (by simp)]
    | succ m =>
      have := putA_new js new (old.set j x) m (by simpa using hl) (fun i hi => by simpa using hlt i (by simp [hi])) hnd.2
      simp only [List.length_set] at this
      rw [List.getElem?_cons_succ, ← this]
      congr 1
      simp only [rn, List.getElem?_cons_succ, List.length_cons]
      congr 2
      omega
  | _ :: _, [], _, _, h, _, _ => by simp at h
theorem putA_cases (js : List Nat) (new old : List α) (hl : js.length ≤ new.length) (i : Nat) (hi : i < (putA js new old).length) : (i < old.length ∧ i ∉ js) ∨ ∃ m, m < new.length ∧ rn js old.length m = i := by
  rw [putA_len _ _ _ hl] at hi
  by_cases h1 : i ∈ js
  · obtain ⟨m, hm, rfl⟩ := List.mem_iff_getElem.1 h1
    exact .inr ⟨m, by omega, by simp [rn, List.getElem?_eq_getElem hm]⟩
  · by_cases h2 : i < old.length
    · exact .inl ⟨h2, h1⟩
    · refine .inr ⟨js.length + (i - old.length), by omega, ?_⟩
      simp only [rn]
      rw [List.getElem?_eq_none (by omega)]
      simp only [Option.getD_none]
      omega
theorem nodup_inj {l : List Nat} (h : l.Nodup) {i j : Nat} (hi : i < l.length) (hj : j < l.length) (he : l[i] = l[j]) : i = j := by
  have hp := List.pairwise_iff_getElem.1 h
  rcases Nat.lt_trichotomy i j with h1 | h1 | h1
  · exact absurd he (hp i j hi hj h1)
  · exact h1
  · exact absurd he.symm (hp j i hj hi h1)
theorem rn_inj {js : List Nat} {n0 : Nat} (hlt : ∀ j ∈ js, j < n0) (hnd : js.Nodup) {m m' : Nat} (h : rn js n0 m = rn js n0 m') : m = m' := by
  simp only [rn] at h
  by_cases h1 : m < js.length <;> by_cases h2 : m' < js.length
  · rw [List.getElem?_eq_getElem h1, List.getElem?_eq_getElem h2] at h
    exact nodup_inj hnd h1 h2 (by simpa using h)
  · rw [List.getElem?_eq_getElem h1, List.getElem?_eq_none (by omega)] at h
    have := hlt _ (List.getElem_mem h1)
    simp at h
    omega
  · rw [List.getElem?_eq_getElem h2, List.getElem?_eq_none (by omega)] at h
    have := hlt _ (List.getElem_mem h2)
    simp at h
    omega
  · rw [List.getElem?_eq_none (by omega), List.getElem?_eq_none (by omega)] at h
    simp at h
    omega
end
end Go.Eng
set_option linter.unusedVariables false
set_option linter.unusedSimpArgs false
namespace Go.Eng
open Go Go.RowKit
section
variable {A : Amb} {S S' : Nat → Prop} {L Lc Lo : List LO} {env envo : List Value} {w w' : World} {js : List Nat}
/-- The blocks of the objects handed over. -/
def given (js : List Nat) (L : List LO) (env : List Value) (w : World) (n b : Nat) : Prop := ∃ m, m < n ∧ OwnB L env w (rn js L.length m) b
theorem HeapR.hand (hH : HeapR A S L env w) (hp : PickR (rn js L.length) L Lc) : HeapR ⟨w, S, given js L env w Lc.length, Lc, pickE (rn js L.length) Lc.length env⟩ S Lc (pickE (rn js L.length) Lc.length env) w :=
  hH.pick hp (Nat.le_refl _) (fun m b hm h => .inl ⟨m, hm, h⟩) (fun b hb => .inl hb) (fun _ _ _ => rfl) rfl rfl rfl (Base.refl rfl rfl) (hH.gok fun b ⟨m, _, o, hv, k1, k2, k3, k4⟩ => (hH.excl _ o hv b k1 k2 k3 k4).2.1)
theorem HeapR.back (hH : HeapR A S L env w) (hp : PickR (rn js L.length) L Lc) (hn : js.length = Lc.length) (hlt : ∀ j ∈ js, j < L.length) (hnd : js.Nodup)
    (hC : HeapR ⟨w, S, given js L env w Lc.length, Lc, pickE (rn js L.length) Lc.length env⟩ S' Lo envo w') :
    HeapR A (fun b => S b ∨ S' b) (putA js (Lo.map (LO.ren (rn js L.length))) L) (putA js envo env) w' ∧
    Carry S L env w (fun b => S b ∨ S' b) (putA js (Lo.map (LO.ren (rn js L.length))) L) (putA js envo env) w' ∧
    ∀ (sv : SV) (v : Value), SVr S' Lo envo w' sv v → SVr (fun b => S b ∨ S' b) (putA js (Lo.map (LO.ren (rn js L.length))) L) (putA js envo env) w' (sv.ren (rn js L.length)) v := by
  have hlen := hH.len
  have hleno := hC.len
  have hge : js.length ≤ Lo.length := by rw [hn]; exact hC.base.1
  generalize hρ : rn js L.length = ρ at hp hC ⊢
  have hltE : ∀ j ∈ js, j < env.length := fun j hj => by rw [hlen]; exact hlt j hj
  have gL : ∀ m, (putA js (Lo.map (LO.ren ρ)) L)[ρ m]? = (Lo[m]?).map (LO.ren ρ) := fun m => by
    have := putA_new js (Lo.map (LO.ren ρ)) L m (by simpa using hge) hlt hnd
    rw [hρ] at this
    rw [this, List.getElem?_map]
  have gE : ∀ m, (putA js envo env)[ρ m]? = envo[m]? := fun m => by
    have := putA_new js envo env m (by omega) hltE hnd
    rw [hlen, hρ] at this
    exact this
  have H : ∀ i, i < envo.length → (putA js envo env)[ρ i]? = envo[i]? ∧ ((putA js (Lo.map (LO.ren ρ)) L)[ρ i]?).map LO.ver = (Lo[i]?).map LO.ver := fun i _ => by
    refine ⟨gE i, ?_⟩
    rw [gL i]
    cases Lo[i]? with
    | none => rfl
    | some o => simp [LO.ren_ver]
  have split : ∀ (J : Nat) (o : LO) (hv : Value), (putA js (Lo.map (LO.ren ρ)) L)[J]? = some o → (putA js envo env)[J]? = some hv →
      (J < L.length ∧ J ∉ js ∧ L[J]? = some o ∧ env[J]? = some hv) ∨ ∃ m oo, ρ m = J ∧ Lo[m]? = some oo ∧ o = oo.ren ρ ∧ envo[m]? = some hv := by
    intro J o hv h1 h2
    rcases putA_cases js (Lo.map (LO.ren ρ)) L (by simpa using hge) J (List.getElem?_eq_some_iff.1 h1).1 with ⟨k1, k2⟩ | ⟨m, k1, k2⟩
    · rw [putA_old _ _ _ _ k1 k2] at h1
      rw [putA_old _ _ _ _ (by omega) k2] at h2
      exact .inl ⟨k1, k2, h1, h2⟩
    · rw [hρ] at k2
      subst k2
      rw [gL m] at h1
      rw [gE m] at h2
      cases hm : Lo[m]? with
      | none => rw [hm] at h1; cases h1
      | some oo =>
        rw [hm] at h1
        exact .inr ⟨m, oo, rfl, hm, by simpa using h1.symm, h2⟩
  have giv : ∀ (J : Nat) (b : Nat), given js L env w Lc.length b → OwnB L env w J b → J ∈ js := by
    rintro J b ⟨m, hm, h1⟩ h2
    have := OwnB.inj hH h1 h2
    subst this
    simp only [rn]
    rw [List.getElem?_eq_getElem (by omega)]
    exact List.getElem_mem _
  have keep : ∀ b, b < w.heap.size → ¬ given js L env w Lc.length b → w'.heap[b]? = w.heap[b]? := fun b h1 h2 => hC.frame b h1 h2
  have C : Carry S L env w (fun b => S b ∨ S' b) (putA js (Lo.map (LO.ren ρ)) L) (putA js envo env) w' := by
    refine ⟨fun b hb _ => .inl hb, fun b hb hlt => keep b hlt (fun ⟨m, _, o, hv, k1, k2, k3, k4⟩ => (hH.excl _ o hv b k1 k2 k3 k4).1 hb), fun i b hi => ?_, fun i hv o h1 h2 => ?_⟩
    · by_cases hj : i ∈ js
      · obtain ⟨m, hm, rfl⟩ := List.mem_iff_getElem.1 hj
        have hr : ρ m = js[m] := by rw [← hρ]; simp [rn, List.getElem?_eq_getElem hm]
        have hmc : m < Lc.length := by omega
        obtain ⟨o, ho⟩ : ∃ o, Lc[m]? = some o := ⟨_, List.getElem?_eq_getElem hmc⟩
        have q1 := hp.get m o ho
        have q2 := pickE_get hH hmc q1
        rw [hr] at q2
        obtain ⟨oo, hoo⟩ : ∃ oo, Lo[m]? = some oo := ⟨_, List.getElem?_eq_getElem (by omega)⟩
        obtain ⟨vv, hvv⟩ : ∃ vv, envo[m]? = some vv := ⟨_, List.getElem?_eq_getElem (by omega)⟩
        have q3 := (hC.base.2 m _ o vv oo (by rw [q2]; exact hi) ho hvv hoo).2.2 b rfl
        subst q3
        have := gE m
        rw [hr] at this
        rw [this]
        exact hvv
      · rw [putA_old _ _ _ _ (List.getElem?_eq_some_iff.1 hi).1 hj]
        exact hi
    · by_cases hj : i ∈ js
      · obtain ⟨m, hm, rfl⟩ := List.mem_iff_getElem.1 hj
        have hr : ρ m = js[m] := by rw [← hρ]; simp [rn, List.getElem?_eq_getElem hm]
        have hmc : m < Lc.length := by omega
        obtain ⟨oc, hoc⟩ : ∃ o, Lc[m]? = some o := ⟨_, List.getElem?_eq_getElem hmc⟩
        have q1 := hp.get m oc hoc
        have q2 := pickE_get hH hmc q1
        rw [hr] at q1 q2
        rw [h2] at q1
        have q1' := Option.some.inj q1
        obtain ⟨oo, hoo⟩ : ∃ oo, Lo[m]? = some oo := ⟨_, List.getElem?_eq_getElem (by omega)⟩
        obtain ⟨vv, hvv⟩ : ∃ vv, envo[m]? = some vv := ⟨_, List.getElem?_eq_getElem (by omega)⟩
        obtain ⟨b1, b2, _⟩ := hC.base.2 m hv oc vv oo (by rw [q2]; exact h1) hoc hvv hoo
        have hver : o.ver = oc.ver := by rw [q1', LO.ren_ver]
        refine ⟨vv, oo.ren ρ, ?_, ?_, by rw [LO.ren_ver]; omega, fun he => b2 (by rw [LO.ren_ver] at he; omega)⟩
        · have := gE m
          rw [hr] at this
          rw [this]
          exact hvv
        · have := gL m
          rw [hr] at this
          rw [this, hoo]
          rfl
      · have hi := (List.getElem?_eq_some_iff.1 h2).1
        exact ⟨hv, o, by rw [putA_old _ _ _ _ (by omega) hj]; exact h1, by rw [putA_old _ _ _ _ hi hj]; exact h2, Nat.le_refl _, fun _ => rfl⟩
  have hkeep : ∀ (J : Nat) (o : LO) (hv : Value), J ∉ js → L[J]? = some o → o.live = true → env[J]? = some hv → ∀ b, o.ft w hv b → w'.heap[b]? = w.heap[b]? := fun J o hv hj h1 hl h2 b hb =>
    keep b (hH.excl J o hv b h1 hl h2 hb).2.2 (fun hg => hj (giv J b hg ⟨o, hv, h1, hl, h2, hb⟩))
  have hfe : ∀ (J : Nat) (o : LO) (hv : Value), J ∉ js → L[J]? = some o → o.live = true → env[J]? = some hv → ∀ b, o.ft w' hv b → o.ft w hv b := fun J o hv hj h1 hl h2 b hb =>
    (LO.ft_eq (hH.objs J o hv h1 h2) (hkeep J o hv hj h1 hl h2) b).1 hb
  have C2 : Carry S' Lo envo w' (fun b => S b ∨ S' b) Lo envo w' := ⟨fun b hb _ => .inr hb, fun _ _ _ => rfl, fun _ _ h => h, fun _ _ _ h1 h2 => ⟨_, _, h1, h2, Nat.le_refl _, fun _ => rfl⟩⟩
  have back : ∀ (sv : SV) (v : Value), SVr S' Lo envo w' sv v → SVr (fun b => S b ∨ S' b) (putA js (Lo.map (LO.ren ρ)) L) (putA js envo env) w' (sv.ren ρ) v := fun sv v h =>
    SVr.ren (S := fun b => S b ∨ S' b) H sv v (SVr.carry C2 _ _ h)
  have hlenN : (putA js (Lo.map (LO.ren ρ)) L).length = L.length + (Lo.length - js.length) := by rw [putA_len _ _ _ (by simpa using hge)]; simp
  have howner : ∀ (m : Nat) (oo : LO) (hv : Value) (b : Nat), Lo[m]? = some oo → oo.live = true → envo[m]? = some hv → oo.ft w' hv b → given js L env w Lc.length b ∨ w.heap.size ≤ b := fun m oo hv b h1 hl h2 hb => (hC.excl m oo hv b h1 hl h2 hb).2.1
  have hnS : ∀ b, given js L env w Lc.length b → ¬ S b := fun b ⟨m, _, o, hv, k1, k2, k3, k4⟩ => (hH.excl _ o hv b k1 k2 k3 k4).1
  refine ⟨⟨by rw [hlenN, putA_len _ _ _ (by omega)]; omega, ?_, ?_, ?_, ?_, ?_, ?_, Nat.le_trans hH.size hC.size, hC.os.trans hH.os, hC.tape.trans hH.tape, hC.output.trans hH.output, hH.base.carry C hlen (by rw [hlenN]; omega), hH.glob⟩, C, back⟩
  · intro J o hv h1 h2
    rcases split J o hv h1 h2 with ⟨k1, k2, k3, k4⟩ | ⟨m, oo, rfl, k2, rfl, k4⟩
    · exact ObjR.carry C (fun b hl hb => hkeep J o hv k2 k3 hl k4 b hb) (hH.objs J o hv k3 k4)
    · have hob := hC.objs m oo hv k2 k4
      cases oo with
      | box cs =>
        obtain ⟨b, vals, e, r1, r2, r3, r4⟩ := hob
        exact ⟨b, vals, e, r1, r2, SVrs.ren (S := fun b => S b ∨ S' b) H _ _ (SVrs.carry C2 _ _ r3), r4⟩
      | arr e z ver es => exact ObjR.carry C2 (fun _ _ _ => rfl) hob
      | frz e z ver es => exact ObjR.carry C2 (fun _ _ _ => rfl) hob
      | own e z ver es => exact ObjR.carry C2 (fun _ _ _ => rfl) hob
      | dead ver => exact hob
      | ownp h e z es => exact ObjR.carry C2 (fun _ _ _ => rfl) hob
      | mix e z ver fs es => exact ObjR.carry C2 (fun _ _ _ => rfl) hob
      | set ks => exact ObjR.carry C2 (fun _ _ _ => rfl) hob
  · intro J o hv b h1 hl h2 hb
    rcases split J o hv h1 h2 with ⟨k1, k2, k3, k4⟩ | ⟨m, oo, rfl, k2, rfl, k4⟩
    · have hb' := hfe J o hv k2 k3 hl k4 b hb
      have := hH.excl J o hv b k3 hl k4 hb'
      refine ⟨fun hs => hs.elim this.1 (fun hs => ?_), this.2.1, Nat.lt_of_lt_of_le this.2.2 hC.size⟩
      rcases hC.sA b hs with h | h | h
      · exact this.1 h
      · exact k2 (giv J b h ⟨o, hv, k3, hl, k4, hb'⟩)
      · have h' : w.heap.size ≤ b := h
        omega
    · rw [LO.ren_live] at hl
      rw [LO.ren_ft] at hb
      have := hC.excl m oo hv b k2 hl k4 hb
      refine ⟨fun hs => hs.elim (fun hs => ?_) this.1, ?_, this.2.2⟩
      · rcases this.2.1 with h | h
        · exact hnS b h hs
        · have := hH.sS b hs
          have h' : w.heap.size ≤ b := h
          omega
      · rcases this.2.1 with ⟨m', _, o', hv', q1, q2, q3, q4⟩ | h
        · exact (hH.excl _ o' hv' b q1 q2 q3 q4).2.1
        · exact .inr (Nat.le_trans hH.size h)
  · intro J J' o o' hv hv' b h1 h2 hl1 hl2 e1 e2 b1 b2
    have mix : ∀ (J : Nat) (o : LO) (hv : Value) (m : Nat) (oo : LO) (hv' : Value), J ∉ js → L[J]? = some o → o.live = true → env[J]? = some hv → o.ft w' hv b → Lo[m]? = some oo → oo.live = true → envo[m]? = some hv' → oo.ft w' hv' b → False := by
      intro J o hv m oo hv' k2 k3 hl k4 hb m1 ml m2 mb
      have hb' := hfe J o hv k2 k3 hl k4 b hb
      rcases howner m oo hv' b m1 ml m2 mb with h | h
      · exact k2 (giv J b h ⟨o, hv, k3, hl, k4, hb'⟩)
      · have := (hH.excl J o hv b k3 hl k4 hb').2.2
        omega
    rcases split J o hv h1 e1 with ⟨k1, k2, k3, k4⟩ | ⟨m, oo, rfl, k2, rfl, k4⟩ <;> rcases split J' o' hv' h2 e2 with ⟨k1', k2', k3', k4'⟩ | ⟨m', oo', rfl, k2', rfl, k4'⟩
    · exact hH.dist J J' o o' hv hv' b k3 k3' hl1 hl2 k4 k4' (hfe J o hv k2 k3 hl1 k4 b b1) (hfe J' o' hv' k2' k3' hl2 k4' b b2)
    · rw [LO.ren_live] at hl2
      rw [LO.ren_ft] at b2
      exact (mix J o hv m' oo' hv' k2 k3 hl1 k4 b1 k2' hl2 k4' b2).elim
    · rw [LO.ren_live] at hl1
      rw [LO.ren_ft] at b1
      exact (mix J' o' hv' m oo hv k2' k3' hl2 k4' b2 k2 hl1 k4 b1).elim
    · rw [LO.ren_live] at hl1 hl2
      rw [LO.ren_ft] at b1 b2
      rw [hC.dist m m' oo oo' hv hv' b k2 k2' hl1 hl2 k4 k4' b1 b2]
  · rintro b (hb | hb)
    · exact Nat.lt_of_lt_of_le (hH.sS b hb) hC.size
    · exact hC.sS b hb
  · rintro b (hb | hb)
    · exact hH.sA b hb
    · rcases hC.sA b hb with h | ⟨m', _, o', hv', q1, q2, q3, q4⟩ | h
      · exact hH.sA b h
      · exact .inr (hH.excl _ o' hv' b q1 q2 q3 q4).2.1
      · exact .inr (.inr (Nat.le_trans hH.size h))
  · intro b h1 h2
    have hlt' : b < w.heap.size := Nat.lt_of_lt_of_le h1 hH.size
    rw [keep b hlt' ?_]
    · exact hH.frame b h1 h2
    · rintro ⟨m', _, o', hv', q1, q2, q3, q4⟩
      rcases (hH.excl _ o' hv' b q1 q2 q3 q4).2.1 with h | h
      · exact h2 h
      · omega
end
/-! ### the call -/
/-- An argument as the callee sees it: an object handed over, or data. -/
def AG (L : List LO) (ρ : Nat → Nat) (n : Nat) (sv sv' : SV) : Prop := (sv'.ren ρ = sv ∧ sv'.lt n = true) ∨ ∃ u, sv' = .d u ∧ VD L sv u
def AGs (L : List LO) (ρ : Nat → Nat) (n : Nat) : List SV → List SV → Prop
  | [], [] => True
  | a :: az, b :: bs => AG L ρ n a b ∧ AGs L ρ n az bs
  | _, _ => False
theorem AGs.r {A : Amb} {S : Nat → Prop} {L Lc : List LO} {env : List Value} {w : World} {ρ : Nat → Nat} (hH : HeapR A S L env w) (hp : PickR ρ L Lc) : ∀ {svs svs' : List SV} {vs : List Value}, AGs L ρ Lc.length svs svs' → SVrs S L env w svs vs → SVrs S Lc (pickE ρ Lc.length env) w svs' vs
  | [], [], [], _, _ => by simp [SVrs]
  | sv :: svs, sv' :: svs', v :: vs, h, hv => by
    simp only [SVrs] at hv ⊢
    refine ⟨?_, AGs.r hH hp h.2 hv.2⟩
    rcases h.1 with ⟨h1, h2⟩ | ⟨u, rfl, h2⟩
    · rw [← h1] at hv
      exact SVr.unren (hp.H hH) _ _ h2 hv.1
    · have := VD.r hH h2 hv.1
      simpa only [SVr] using this
  | [], _ :: _, _, h, _ => h.elim
  | _ :: _, [], _, h, _ => h.elim
  | [], [], _ :: _, _, h => by simp [SVrs] at h
  | _ :: _, _ :: _, [], _, h => by simp [SVrs] at h
section
variable {P : Program} {A : Amb} {K : St → Prop} {ops : Array Oper} {rest : List Oper}
variable {t : Nat} {ty : TypeId} {pos : String} {af : Array Edge} {dst : Option Nat} {g : Option (Nat × Bool)}
theorem callc_run {a : Act} {w : World} {f : Operand} {fi : Nat} {cvs : List Value} {args : Array Operand} {at_ : Array TypeId} (h1 : a.eval f = .func (.func fi) #[] cvs.toArray) (hc : CallOk P fi) :
    (execOp a.eval ⟨dst, .call { callee := .value f, args := args, argTypes := at_ }, ty, pos, af, g⟩).run P w = .ok (.enter fi (args.toList.map a.eval ++ cvs).toArray) w := by
  obtain ⟨fn, c1, c2, c3⟩ := hc
  have harr : args.map a.eval ++ cvs.toArray = (args.toList.map a.eval ++ cvs).toArray := by apply Array.ext'; simp
  simp only [execOp, resolve, h1, Deferred.ofValue, Sem.run_bind, Sem.run_pure, Result.andThen_ok, invoke, callFunc, run_program, c1, c2, c3, Bool.false_eq_true, if_false, Array.empty_append, harr]
/-- A call that hands over the objects js. -/
theorem VO_callG {f : Operand} {fi : Nat} {caps : List SV} {args : Array Operand} {at_ : Array TypeId} {cargs : List SV} {Lc : List LO} {Q : SV → List LO → Prop} {fr : List (Nat × SV)} {L : List LO} {N : Nat} (js : List Nat) (hf : (St.mk fr L N).ev f = .fn fi caps)
    (hspec : Spec P fi cargs Lc Q) (hp : PickR (rn js L.length) L Lc) (hjs : (decide js.Nodup && (js.all fun j => Nat.blt j L.length) && js.length == Lc.length) = true) (hargs : AGs L (rn js L.length) Lc.length (args.toList.map (St.mk fr L N).ev ++ caps) cargs) (ht : Nat.blt t N = true)
    (h : ∀ (sv : SV) (Lo : List LO), Q sv Lo → VO P A ops rest ⟨(t, sv.ren (rn js L.length)) :: fr, putA js (Lo.map (LO.ren (rn js L.length))) L, N⟩ K) :
    VO P A ops (⟨some t, .call { callee := .value f, args := args, argTypes := at_ }, ty, pos, af, none⟩ :: rest) ⟨fr, L, N⟩ K := by
  simp only [Bool.and_eq_true, decide_eq_true_eq, List.all_eq_true, Nat.blt_eq, beq_iff_eq] at hjs
  obtain ⟨⟨hnd, hlt⟩, hn⟩ := hjs
  intro R hR a w ⟨S, env, hH, hfr, hN, hd⟩
  refine wpList_plain rfl fun K' hK' => ?_
  have h1 := Realz.ev hfr hH f
  rw [hf] at h1
  simp only [SVr] at h1
  obtain ⟨cvs, h1, h2⟩ := h1
  have h3 : SVrs S L env w (args.toList.map (St.mk fr L N).ev) (args.toList.map a.eval) := SVrs.evals (σ := ⟨fr, L, N⟩) _ fun x _ => Realz.ev hfr hH x
  have h4 : SVrs S L env w (args.toList.map (St.mk fr L N).ev ++ caps) (args.toList.map a.eval ++ cvs) := by
    rw [SVrs.iff] at h2 h3 ⊢
    exact All2.append h3 h2
  have h5 := AGs.r hH hp hargs h4
  obtain ⟨hc, hs⟩ := hspec
  unfold Oper.wp
  rw [callc_run h1 hc]
  simp only [Oper.upon]
  refine (hs _ S _ w _ rfl rfl rfl rfl (hH.hand hp) h5).mono ?_
  rintro e w' ⟨r, sv', S', Lo, envo, rfl, hq, hH', hr⟩
  obtain ⟨b1, b2, b3⟩ := hH.back hp hn hlt hnd hH'
  exact hK' _ _ (h _ _ hq R hR _ _ (realz_put (σ := ⟨fr, L, N⟩) hfr hN hd ht b1 b2 (b3 _ _ hr)))
end
/-! ### a function that is handed objects -/
inductive ResG (P : Program) (σ : St) : List ResultVar → List SV → Prop
  | nil : ResG P σ [] []
  | data {r : ResultVar} {rs : List ResultVar} {sv0 : SV} {u : U} {svs : List SV} (h : ResV P σ r sv0) (hu : VD σ.L sv0 u) (h2 : ResG P σ rs svs) : ResG P σ (r :: rs) (.d u :: svs)
  | same {r : ResultVar} {rs : List ResultVar} {sv : SV} {svs : List SV} (h : ResV P σ r sv) (h2 : ResG P σ rs svs) : ResG P σ (r :: rs) (sv :: svs)
  | junk {r : ResultVar} {rs : List ResultVar} {sv0 : SV} {svs : List SV} (h : ResV P σ r sv0) (h2 : ResG P σ rs svs) : ResG P σ (r :: rs) (.junk :: svs)
def mkG : List SV → SV
  | [sv] => sv
  | svs => .tup svs
def PostG (P : Program) (fn : Func) (Q : SV → List LO → Prop) (n : Nat) (e : Exit) (σ : St) : Prop :=
  (match e with | .normal => True | .ret => True | _ => False) ∧ ∃ svs Lo L2, σ.L = Lo ++ L2 ∧ (LO.lts Lo.length Lo && SV.lts Lo.length svs && Nat.ble n Lo.length) = true ∧ Q (mkG svs) Lo ∧ ResG P σ fn.results.toList svs
theorem mkG_r {S : Nat → Prop} {L : List LO} {env : List Value} {w : World} {svs : List SV} {vs : List Value} (h : SVrs S L env w svs vs) : SVr S L env w (mkG svs) (if h : vs.toArray.size = 1 then vs.toArray[0] else .tuple vs.toArray) := by
  match svs, vs, h with
  | [], [], _ => simp only [mkG, SVr]; exact ⟨[], by simp, by simp [SVrs]⟩
  | [u], [v], h => simpa [mkG, SVrs] using h
  | u :: u' :: us, v :: v' :: vs, h => simp only [mkG, SVr]; exact ⟨v :: v' :: vs, by simp, h⟩
  | [_], [], h => simp [SVrs] at h
  | [_], _ :: _ :: _, h => simp [SVrs] at h
  | _ :: _ :: _, [_], h => simp [SVrs] at h
  | [], _ :: _, h => simp [SVrs] at h
  | _ :: _ :: _, [], h => simp [SVrs] at h
theorem ResG.run {P : Program} {A : Amb} {σ : St} {S : Nat → Prop} {env : List Value} {a : Act} {w : World} (hH : HeapR A S σ.L env w) (hf : ∀ t, SVr S σ.L env w (look σ.fr t) (a.tmps.getD t undef)) {rs : List ResultVar} {svs : List SV} (h : ResG P σ rs svs) :
    ∃ vs : List Value, (rs.mapM (getR a.tmps)).run P w = .ok vs w ∧ SVrs S σ.L env w svs vs := by
  induction h with
  | nil => exact ⟨[], by simp, by simp [SVrs]⟩
  | data h hu _ ih =>
    obtain ⟨v, k1, k2⟩ := ResV.run hH hf h
    obtain ⟨vs, k3, k4⟩ := ih
    refine ⟨v :: vs, ?_, ?_⟩
    · simp only [List.mapM_cons, Sem.run_bind]
      rw [k1]
      simp only [Result.andThen_ok]
      rw [k3]
      rfl
    · simp only [SVrs]
      exact ⟨VD.r hH hu k2, k4⟩
  | same h _ ih =>
    obtain ⟨v, k1, k2⟩ := ResV.run hH hf h
    obtain ⟨vs, k3, k4⟩ := ih
    refine ⟨v :: vs, ?_, ?_⟩
    · simp only [List.mapM_cons, Sem.run_bind]
      rw [k1]
      simp only [Result.andThen_ok]
      rw [k3]
      rfl
    · simp only [SVrs]
      exact ⟨k2, k4⟩
  | junk h _ ih =>
    obtain ⟨v, k1, k2⟩ := ResV.run hH hf h
    obtain ⟨vs, k3, k4⟩ := ih
    refine ⟨v :: vs, ?_, ?_⟩
    · simp only [List.mapM_cons, Sem.run_bind]
      rw [k1]
      simp only [Result.andThen_ok]
      rw [k3]
      rfl
    · simp only [SVrs]
      exact ⟨trivial, k4⟩
theorem Spec_intro {P : Program} {f : Nat} {fn : Func} {c : Code} {args : List SV} {L : List LO} {Q : SV → List LO → Prop} (n : Nat) (hf : P.funcs[f]? = some fn) (hb : fn.body = some c) (hname : (fn.name == "runtime.NumGoroutine") = false)
    (hn : Nat.ble args.length fn.ntmps = true) (hL : L.length = n) (h : ∀ A [BaseN A n], V P A c ⟨frameOf 0 args, L, fn.ntmps⟩ (PostG P fn Q n)) : Spec P f args L Q := by
  refine ⟨⟨fn, hf, hname, by rw [hb]; rfl⟩, ?_⟩
  intro A S env w vs hw hS hA0 he hH hargs
  have hb0 : BaseN A n := ⟨by rw [hA0]; exact hL⟩
  have hlen := SVrs.length hargs
  have hn' := Nat.le_of_ble_eq_true hn
  refine calls_of_wp hf hb ?_
  refine wp_mono (h A _ w ⟨S, env, hH, fun t => ?_, ?_, rfl⟩) ?_
  · have := frameOf_look args vs 0 [] (List.replicate (fn.ntmps - vs.length) undef) rfl hargs t
    have e : vs.toArray ++ Array.replicate (fn.ntmps - vs.toArray.size) undef = ([] ++ vs ++ List.replicate (fn.ntmps - vs.length) undef).toArray := by apply Array.ext'; simp
    rw [e]
    exact this
  · simp; omega
  · rintro e a' w' ⟨σ', ⟨hex, svs, Lo, L2, hLe, hlts, hq, hres⟩, S', env', hH', hf', hN', hd'⟩
    simp only [Bool.and_eq_true] at hlts
    obtain ⟨rvs, k1, k2⟩ := hres.run hH' hf'
    have hrun : (results fn a'.tmps).run P w' = .ok (if h : rvs.toArray.size = 1 then rvs.toArray[0] else .tuple rvs.toArray) w' := by
      rw [results_eq]
      simp only [Sem.run_bind]
      rw [← Array.toArray_toList (xs := fn.results)]
      simp only [List.mapM_toArray, Sem.run_map]
      rw [k1]
      rfl
    rw [hLe] at hH' k2
    have hcut := SVrs.cut hH'.len svs rvs hlts.1.2 k2
    have fin : ∃ r sv S'' L' env'', (Ending.returned (if h : rvs.toArray.size = 1 then rvs.toArray[0] else .tuple rvs.toArray)) = .returned r ∧ Q sv L' ∧ HeapR A S'' L' env'' w' ∧ SVr S'' L' env'' w' sv r :=
      ⟨_, mkG svs, S', Lo, env'.take Lo.length, rfl, hq, hH'.cut hlts.1.1 (by rw [hb0.h]; exact Nat.le_of_ble_eq_true hlts.2), mkG_r hcut⟩
    cases e with
    | normal => exact ⟨hd', _, hrun, fin⟩
    | ret => exact ⟨hd', _, hrun, fin⟩
    | exit id => exact hex.elim
    | goto l => exact hex.elim
    | panic c => exact hex.elim
    | outgrown => exact hex.elim
/-! ### objects picked out of a state -/
def LePF (ρ : Nat → Nat) (fr : List (Nat × SV)) (n : Nat) : List (Nat × SV) → Prop
  | [] => True
  | p :: r => (look fr p.1 = p.2.ren ρ ∧ p.2.lt n = true) ∧ LePF ρ fr n r
theorem LePF.look {ρ : Nat → Nat} {fr : List (Nat × SV)} {n : Nat} : ∀ {fr' : List (Nat × SV)}, LePF ρ fr n fr' → ∀ t, look fr' t = .junk ∨ (look fr t = (look fr' t).ren ρ ∧ (look fr' t).lt n = true)
  | [], _, t => .inl rfl
  | p :: r, h, t => by
    simp only [Go.Eng.look]
    by_cases ht : t = p.1
    · simp only [ht, if_true]; exact .inr h.1
    · simp only [if_neg ht]; exact LePF.look h.2 t
/-- A state of some of the objects, in a new order: those of the start (n) stay where they are. -/
theorem Realz.pick {A : Amb} {a : Act} {w : World} {fr fr' : List (Nat × SV)} {L Lc : List LO} {N n : Nat} [hb : BaseN A n] (js : List Nat) (hp : PickR (rn js L.length) L Lc) (hn : (js.length == Lc.length && Nat.ble n Lc.length && (List.range n).all fun i => js[i]? == some i) = true) (hfr : LePF (rn js L.length) fr Lc.length fr') (h : Realz A ⟨fr, L, N⟩ a w) : Realz A ⟨fr', Lc, N⟩ a w := by
  obtain ⟨S, env, hH, hf, hN, hd⟩ := h
  simp only [Bool.and_eq_true, beq_iff_eq, List.all_eq_true, List.mem_range] at hn
  obtain ⟨⟨hl, hle⟩, hid⟩ := hn
  have hle' := Nat.le_of_ble_eq_true hle
  have H := hp.H hH
  refine ⟨S, _, hH.pick hp hH.size (fun m b hm ⟨o, hv, k1, k2, k3, k4⟩ => (hH.excl _ o hv b k1 k2 k3 k4).2.1) hH.sA hH.frame hH.os hH.tape hH.output ⟨by rw [hb.h]; exact hle', fun i hv o hv' o' k1 k2 k3 k4 => ?_⟩ hH.glob, fun t => ?_, hN, hd⟩
  · have hi : i < n := by rw [← hb.h]; exact (List.getElem?_eq_some_iff.1 k2).1
    have hr : rn js L.length i = i := by simp [rn, hid i hi]
    have q1 := hp.get i o' k4
    have q2 := (H i (by omega)).1
    rw [hr] at q1 q2
    have := hH.base.2 i hv o hv' _ k1 k2 (by rw [q2]; exact k3) q1
    rw [LO.ren_ver] at this
    exact this
  · rcases LePF.look hfr t with hj | ⟨h1, h2⟩
    · rw [hj]; simp only [SVr]
    · have := hf t
      simp only at this
      rw [h1] at this
      exact SVr.unren H _ _ h2 this
theorem V_pick {P : Program} {A : Amb} {c : Code} {Q : Exit → St → Prop} {fr fr' : List (Nat × SV)} {L Lc : List LO} {N n : Nat} [BaseN A n] (js : List Nat) (h : V P A c ⟨fr', Lc, N⟩ Q) (hp : PickR (rn js L.length) L Lc) (hn : (js.length == Lc.length && Nat.ble n Lc.length && (List.range n).all fun i => js[i]? == some i) = true) (hfr : LePF (rn js L.length) fr Lc.length fr') : V P A c ⟨fr, L, N⟩ Q := fun a w hr => h a w (hr.pick js hp hn hfr)
end Go.Eng
