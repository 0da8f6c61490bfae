/- The engine, part 28: the places in elements, found by 'constructor'. -/
import Derived.Test.YtgmlpaaklnkghaaGreatEng27
namespace Go.Eng
open Go Go.RowKit
inductive WK (v : U) : List U → Option Nat → List U → Option Nat → Prop
  | done {us : List U} : WK v us none us none
  | nil {o : Nat} : WK v [] (some o) [] (some o)
  | hitI {k : IntKind} {n : Int} {us : List U} : WK v (.i k n :: us) (some 0) (v :: us) none
  | hitS {l : List UInt8} {us : List U} : WK v (.s l :: us) (some 0) (v :: us) none
  | hitB {x : Bool} {us : List U} : WK v (.b x :: us) (some 0) (v :: us) none
  | skI {k : IntKind} {n : Int} {us r : List U} {o : Nat} {s : Option Nat} (h : WK v us (some o) r s) : WK v (.i k n :: us) (some (o + 1)) (.i k n :: r) s
  | skS {l : List UInt8} {us r : List U} {o : Nat} {s : Option Nat} (h : WK v us (some o) r s) : WK v (.s l :: us) (some (o + 1)) (.s l :: r) s
  | skB {x : Bool} {us r : List U} {o : Nat} {s : Option Nat} (h : WK v us (some o) r s) : WK v (.b x :: us) (some (o + 1)) (.b x :: r) s
  | skL {z : Nat} {xs us r : List U} {o : Nat} {s : Option Nat} (h : WK v us (some o) r s) : WK v (.sl z xs :: us) (some (o + 1)) (.sl z xs :: r) s
  | st {ws ws' us us' : List U} {o : Nat} {s1 s2 : Option Nat} (h : WK v ws (some o) ws' s1) (h2 : WK v us s1 us' s2) : WK v (.st ws :: us) (some o) (.st ws' :: us') s2
theorem SL.lt {v : U} {us us' : List U} {o : Nat} (h : SL v us o us') : o < U.szs us := by
  induction h with
  | hitI => simp only [U.szs, U.sz]; omega
  | hitS => simp only [U.szs, U.sz]; omega
  | hitB => simp only [U.szs, U.sz]; omega
  | skI h ih => simp only [U.szs, U.sz]; omega
  | skS h ih => simp only [U.szs, U.sz]; omega
  | skB h ih => simp only [U.szs, U.sz]; omega
  | skL h ih => simp only [U.szs, U.sz]; omega
  | into hlt h ih => simp only [U.szs, U.sz]; omega
  | over hlt ho h ih => have := Nat.le_of_ble_eq_true hlt; simp only [U.szs, U.sz]; omega
theorem WK.spec {v : U} {us us' : List U} {s s' : Option Nat} (h : WK v us s us' s') : (s = none → us' = us ∧ s' = none) ∧ ∀ o, s = some o → (s' = none → SL v us o us') ∧ ∀ o', s' = some o' → us' = us ∧ o = U.szs us + o' := by
  induction h with
  | done => exact ⟨fun _ => ⟨rfl, rfl⟩, fun o h => by cases h⟩
  | nil => exact ⟨fun h => (by cases h), fun o h => by cases h; exact ⟨fun h => (by cases h), fun o' h => by cases h; exact ⟨rfl, by simp [U.szs]⟩⟩⟩
  | hitI => exact ⟨fun h => (by cases h), fun o h => by cases h; exact ⟨fun _ => .hitI, fun o' h => by cases h⟩⟩
  | hitS => exact ⟨fun h => (by cases h), fun o h => by cases h; exact ⟨fun _ => .hitS, fun o' h => by cases h⟩⟩
  | hitB => exact ⟨fun h => (by cases h), fun o h => by cases h; exact ⟨fun _ => .hitB, fun o' h => by cases h⟩⟩
  | skI h ih => exact ⟨fun h => (by cases h), fun o h => by cases h; exact ⟨fun hs => .skI ((ih.2 _ rfl).1 hs), fun o' ho => by obtain ⟨h1, h2⟩ := (ih.2 _ rfl).2 o' ho; exact ⟨by rw [h1], by simp only [U.szs, U.sz]; omega⟩⟩⟩
  | skS h ih => exact ⟨fun h => (by cases h), fun o h => by cases h; exact ⟨fun hs => .skS ((ih.2 _ rfl).1 hs), fun o' ho => by obtain ⟨h1, h2⟩ := (ih.2 _ rfl).2 o' ho; exact ⟨by rw [h1], by simp only [U.szs, U.sz]; omega⟩⟩⟩
  | skB h ih => exact ⟨fun h => (by cases h), fun o h => by cases h; exact ⟨fun hs => .skB ((ih.2 _ rfl).1 hs), fun o' ho => by obtain ⟨h1, h2⟩ := (ih.2 _ rfl).2 o' ho; exact ⟨by rw [h1], by simp only [U.szs, U.sz]; omega⟩⟩⟩
  | skL h ih => exact ⟨fun h => (by cases h), fun o h => by cases h; exact ⟨fun hs => .skL ((ih.2 _ rfl).1 hs), fun o' ho => by obtain ⟨h1, h2⟩ := (ih.2 _ rfl).2 o' ho; exact ⟨by rw [h1], by simp only [U.szs, U.sz]; omega⟩⟩⟩
  | @st ws ws' us us' o s1 s2 h h2 ih ih2 =>
    refine ⟨fun h => (by cases h), fun o0 h0 => ?_⟩
    cases h0
    obtain ⟨i1, i2⟩ := ih.2 o rfl
    cases s1 with
    | none =>
      obtain ⟨j1, j2⟩ := ih2.1 rfl
      subst j1; subst j2
      have := i1 rfl
      exact ⟨fun _ => .into (by simpa [Nat.blt_eq] using this.lt) this, fun o' h => by cases h⟩
    | some o1 =>
      obtain ⟨k1, k2⟩ := i2 o1 rfl
      subst k1
      obtain ⟨j1, j2⟩ := ih2.2 o1 rfl
      refine ⟨fun hs => .over (Nat.ble_eq_true_of_le (by omega)) (by omega) (j1 hs), fun o' ho => ?_⟩
      obtain ⟨m1, m2⟩ := j2 o' ho
      exact ⟨by rw [m1], by simp only [U.szs, U.sz]; omega⟩
inductive SU2 (v : U) : U → Nat → U → Prop
  | st {us us' : List U} {o : Nat} (h : WK v us (some o) us' none) : SU2 v (.st us) o (.st us')
  | i {k : IntKind} {n : Int} : SU2 v (.i k n) 0 v
  | s {l : List UInt8} : SU2 v (.s l) 0 v
  | b {x : Bool} : SU2 v (.b x) 0 v
theorem SU2.su {v u u' : U} {o : Nat} (h : SU2 v u o u') : SU v u o u' := by
  cases h with
  | st h => exact .st ((h.spec.2 _ rfl).1 rfl)
  | i => exact .one rfl
  | s => exact .one rfl
  | b => exact .one rfl
inductive WH (old new : U) : List U → Option Nat → List U → Option Nat → Prop
  | done {us : List U} : WH old new us none us none
  | nil {o : Nat} : WH old new [] (some o) [] (some o)
  | hit {us : List U} : WH old new (old :: us) (some 0) (new :: us) none
  | skI {k : IntKind} {n : Int} {us r : List U} {o : Nat} {s : Option Nat} (h : WH old new us (some o) r s) : WH old new (.i k n :: us) (some (o + 1)) (.i k n :: r) s
  | skS {l : List UInt8} {us r : List U} {o : Nat} {s : Option Nat} (h : WH old new us (some o) r s) : WH old new (.s l :: us) (some (o + 1)) (.s l :: r) s
  | skB {x : Bool} {us r : List U} {o : Nat} {s : Option Nat} (h : WH old new us (some o) r s) : WH old new (.b x :: us) (some (o + 1)) (.b x :: r) s
  | skL {z : Nat} {xs us r : List U} {o : Nat} {s : Option Nat} (h : WH old new us (some o) r s) : WH old new (.sl z xs :: us) (some (o + 1)) (.sl z xs :: r) s
  | st {ws ws' us us' : List U} {o : Nat} {s1 s2 : Option Nat} (h : WH old new ws (some o) ws' s1) (h2 : WH old new us s1 us' s2) : WH old new (.st ws :: us) (some o) (.st ws' :: us') s2
theorem HS.lt {old new : U} (h1 : 0 < old.sz) {us us' : List U} {o : Nat} (h : HS old new us o us') : o < U.szs us := by
  induction h with
  | hit => simp only [U.szs]; omega
  | into hlt h ih => simp only [U.szs, U.sz]; omega
  | over hlt ho h ih => have := Nat.le_of_ble_eq_true hlt; simp only [U.szs]; omega
theorem WH.spec {old new : U} (hold : 0 < old.sz) {us us' : List U} {s s' : Option Nat} (h : WH old new us s us' s') : (s = none → us' = us ∧ s' = none) ∧ ∀ o, s = some o → (s' = none → HS old new us o us') ∧ ∀ o', s' = some o' → us' = us ∧ o = U.szs us + o' := by
  have sk : ∀ (u0 : U) (us r : List U) (o : Nat) (s : Option Nat), u0.sz = 1 → ((s = none → HS old new us o r) ∧ ∀ o', s = some o' → r = us ∧ o = U.szs us + o') →
      (s = none → HS old new (u0 :: us) (o + 1) (u0 :: r)) ∧ ∀ o', s = some o' → u0 :: r = u0 :: us ∧ o + 1 = U.szs (u0 :: us) + o' := by
    intro u0 us r o s h1 ih
    refine ⟨fun hs => .over (by rw [h1]; exact Nat.ble_eq_true_of_le (by omega)) (by rw [h1]; rfl) (ih.1 hs), fun o' ho => ?_⟩
    obtain ⟨h2, h3⟩ := ih.2 o' ho
    exact ⟨by rw [h2], by simp only [U.szs, h1]; omega⟩
  induction h with
  | done => exact ⟨fun _ => ⟨rfl, rfl⟩, fun o h => by cases h⟩
  | nil => exact ⟨fun h => (by cases h), fun o h => by cases h; exact ⟨fun h => (by cases h), fun o' h => by cases h; exact ⟨rfl, by simp [U.szs]⟩⟩⟩
  | hit => exact ⟨fun h => (by cases h), fun o h => by cases h; exact ⟨fun _ => .hit, fun o' h => by cases h⟩⟩
  | skI h ih => exact ⟨fun h => (by cases h), fun o h => by cases h; exact sk _ _ _ _ _ rfl (ih.2 _ rfl)⟩
  | skS h ih => exact ⟨fun h => (by cases h), fun o h => by cases h; exact sk _ _ _ _ _ rfl (ih.2 _ rfl)⟩
  | skB h ih => exact ⟨fun h => (by cases h), fun o h => by cases h; exact sk _ _ _ _ _ rfl (ih.2 _ rfl)⟩
  | skL h ih => exact ⟨fun h => (by cases h), fun o h => by cases h; exact sk _ _ _ _ _ rfl (ih.2 _ rfl)⟩
  | @st ws ws' us us' o s1 s2 h h2 ih ih2 =>
    refine ⟨fun h => (by cases h), fun o0 h0 => ?_⟩
    cases h0
    obtain ⟨i1, i2⟩ := ih.2 o rfl
    cases s1 with
    | none =>
      obtain ⟨j1, j2⟩ := ih2.1 rfl
      subst j1; subst j2
      have := i1 rfl
      exact ⟨fun _ => .into (by simpa [Nat.blt_eq] using this.lt hold) this, fun o' h => by cases h⟩
    | some o1 =>
      obtain ⟨k1, k2⟩ := i2 o1 rfl
      subst k1
      obtain ⟨j1, j2⟩ := ih2.2 o1 rfl
      refine ⟨fun hs => .over (Nat.ble_eq_true_of_le (by simp only [U.sz]; omega)) (by simp only [U.sz]; omega) (j1 hs), fun o' ho => ?_⟩
      obtain ⟨m1, m2⟩ := j2 o' ho
      exact ⟨by rw [m1], by simp only [U.szs, U.sz]; omega⟩
section
variable {P : Program} {A : Amb} {σ : St} {K : St → Prop}
variable {ops : Array Oper} {rest : List Oper} {t : Nat} {ty : TypeId} {pos : String} {af : Array Edge} {x y : Operand} {sv : SV}
end
end Go.Eng
namespace Go.Eng
open Go Go.RowKit
section
variable {P : Program} {A : Amb} {ops : Array Oper} {K : St → Prop} {r : List (Nat × Bool)} {pf : PF} {o : Oper} {fr : List (Nat × SV)} {L L1 L' : List LO} {N i t j : Nat} {sv : SV}
variable {ty : TypeId} {pos : String} {af : Array Edge} {x y : Operand}
theorem VY_hst (hi : ops[i]? = some o) (h : HSt P A ops ⟨fr, L, N⟩ o sv L') (hp : PfOk ops i L' pf) (hv : VY P A ops K r pf (St.setO ⟨fr, L', N⟩ o.dst sv)) : VY P A ops K ((i, false) :: r) pf ⟨fr, L, N⟩ := VY_h0 ⟨hi, h, hp.ok, hv⟩
theorem HSt_append {T e T' : TypeId} {gg : Bool} {z bs ver : Nat} {zs : List Value} {es us : List U} {js : List Nat} (hx : (St.mk fr L N).ev x = .sl i ver) (hL : L[i]? = some (.own e z ver es)) (hs : SrcO L z ((St.mk fr L N).ev y) us js)
    (hjs : (decide js.Nodup && !js.contains i) = true) (hT : tyE P T = some e) (he : tyI P e = some (gg, z, bs)) (hZ : tyZ P e = some zs) (hz : (Nat.blt 0 z && zs.length == z) = true)
    (hbig : es.length + us.length ≤ big) (hbytes : (es.length + us.length) * bs ≤ 140737488355328) (ht : Nat.blt t N = true) (hk1 : KR js L L1) (hL' : St1 (.own e z (ver + 1) (es ++ us)) i L1 L') :
    HSt P A ops ⟨fr, L, N⟩ ⟨some t, .call { callee := .builtin .append, args := #[x, y], argTypes := #[T, T] }, T', pos, af, none⟩ (.sl i (ver + 1)) L' := fun _ he' _ hK =>
  VR_append (by rw [he' x (by simp [Op.operands, Call.operands])]; exact hx) hL (by rw [he' y (by simp [Op.operands, Call.operands])]; exact hs) hjs hT he hZ hz hbig hbytes ht hk1 hL' (VO_nil hK)
theorem HSt_slit1 {T e : TypeId} {gg : Bool} {z bs : Nat} {zs : List Value} {u : U} {js : List Nat} (hy : OV L ((St.mk fr L N).ev x) u js) (hjs : decide js.Nodup = true) (hT : tyE P T = some e) (he : tyI P e = some (gg, z, bs)) (hZ : tyZ P e = some zs)
    (hz : (Nat.blt 0 z && Nat.blt z 16777216 && zs.length == z) = true) (hu : u.sz = z) (ht : Nat.blt t N = true) (hk1 : KR js L L1) (hL' : Sn (.own e z 0 [u]) L1 i L') :
    HSt P A ops ⟨fr, L, N⟩ ⟨some t, .buildSlice T 1 #[(0, x)], ty, pos, af, none⟩ (.sl i 0) L' := fun _ he' _ hK =>
  VR_slit1 (by rw [he' x (by simp [Op.operands])]; exact hy) hjs hT he hZ hz hu ht hk1 hL' (VO_nil hK)
/-- nil seen as an owned array: a cell of a variable. -/
theorem Realz.adopt {a : Act} {w : World} {cs cs' : List SV} {e z : Nat} (hL : L[j]? = some (.box cs)) (k : Nat) (hc : cs[k]? = some .nilsl) (hcs : cs.set k (.sl L.length 0) = cs') (h : Realz A ⟨fr, L, N⟩ a w) : Realz A ⟨fr, L.set j (.box cs') ++ [.own e z 0 []], N⟩ a w := by
  subst hcs
  obtain ⟨S, env, hH, hf, hN, hd⟩ := h
  have hj := (List.getElem?_eq_some_iff.1 hL).1
  -- the new object
  obtain ⟨hH1, C1⟩ := hH.newO [] (.own e z 0 []) (.slice none 0 0) (Nat.le_refl _) (fun _ _ => rfl) rfl rfl rfl (fun b hb => by simp only [LO.ft] at hb; rw [(Tr.nil w z).2] at hb; cases hb) (fun _ => nil_own e z 0)
  rw [kill_nil] at hH1 C1
  have hL1 : (L ++ [LO.own e z 0 []])[j]? = some (.box cs) := by rw [List.getElem?_append_left hj]; exact hL
  have hje : j < (env ++ [Value.slice none 0 0]).length := by rw [hH1.len]; simp; omega
  obtain ⟨hv, he⟩ : ∃ hv, (env ++ [Value.slice none 0 0])[j]? = some hv := ⟨_, List.getElem?_eq_getElem hje⟩
  obtain ⟨b, vals, e', r1, r2, r3, r4⟩ := hH1.objs j _ hv hL1 he
  obtain ⟨hH2, C2⟩ := hH1.turnF (w' := w) j (.box cs) (.box (cs.set k (.sl L.length 0))) hv hL1 rfl he rfl rfl (fun _ _ => rfl) rfl rfl rfl (fun k hk => hk) (fun C => ⟨b, vals, e', r1, r2, by
    have r3' := SVrs.carry C _ _ r3
    rw [SVrs.iff] at r3' ⊢
    obtain ⟨v, v1, v2⟩ := All2.get ((SVrs.iff _ _).1 r3) k _ hc
    simp only [SVr] at v2
    subst v2
    have hset := All2.set k (.sl L.length 0) (.slice none 0 0) r3' (by
      simp only [SVr]
      refine ⟨.slice none 0 0, .own e z 0 [], by rw [← hH.len]; simp, ?_, Nat.le_refl _, rfl, fun _ => rfl⟩
      rw [List.getElem?_set_ne (by omega)]
      simp)
    have hk : k < vals.toList.length := (List.getElem?_eq_some_iff.1 v1).1
    have : vals.toList.set k (.slice none 0 0) = vals.toList := by
      apply List.ext_getElem?
      intro m
      rw [List.getElem?_set]
      by_cases hm : k = m
      · subst hm; rw [if_pos rfl, if_pos hk, v1]
      · rw [if_neg hm]
    rwa [this] at hset, r4⟩)
  have hse : (L ++ [LO.own e z 0 []]).set j (.box (cs.set k (.sl L.length 0))) = L.set j (.box (cs.set k (.sl L.length 0))) ++ [.own e z 0 []] := by rw [List.set_append_left _ _ hj]
  rw [hse] at hH2 C2
  exact ⟨S, _, hH2, fun t => SVr.carry C2 _ _ (SVr.carry C1 _ _ (hf t)), hN, hd⟩
theorem V_adopt {Q : Exit → St → Prop} {c : Code} {cs cs' : List SV} {n : Nat} (e z : Nat) (j k : Nat) (hL : L[j]? = some (.box cs)) (hc : cs[k]? = some .nilsl) (hn : Ln L n) (hcs : St1 (.sl n 0) k cs cs') (h1 : St1 (.box cs') j L L1) (h2 : Jn L1 [.own e z 0 []] L')
    (h : V P A c ⟨fr, L', N⟩ Q) : V P A c ⟨fr, L, N⟩ Q := by
  have e1 := hn.eq
  have e2 := hcs.spec
  have e3 := h1.spec
  have e4 := h2.spec
  subst e1; subst e2; subst e3; subst e4
  exact fun a w hr => h a w (Realz.adopt hL k hc rfl hr)
end
end Go.Eng
namespace Go.Eng
open Go Go.RowKit
end Go.Eng
namespace Go.Eng
open Go Go.RowKit
section
variable {P : Program} {A : Amb} {ops : Array Oper} {K : St → Prop} {r : List (Nat × Bool)} {pf : PF} {fr : List (Nat × SV)} {L : List LO} {N i t : Nat}
variable {ty : TypeId} {pos : String} {af : Array Edge} {x y : Operand}
/-- A quiet operation by a rule that looks at its operands alone. -/
theorem VY_qr {o : Oper} {sv : SV} (hi : ops[i]? = some o) (hd : o.dst = some t) (hg : o.guard = none) (h : ∀ fr' L', (∀ x ∈ o.op.operands.toList, St.ev ⟨fr', L', N⟩ x = St.ev ⟨fr, L, N⟩ x) → Keep L L' → Quiet P A ⟨fr', L', N⟩ o sv) (ht : Nat.blt t N = true) (hv : VY P A ops K r ((i, L) :: pf) ⟨(t, sv) :: fr, L, N⟩) : VY P A ops K ((i, true) :: r) pf ⟨fr, L, N⟩ := by
  refine ⟨o, sv, hi, ⟨fun d h' => (by rw [hd] at h'; cases h'; exact ht), Keep.refl _, .inl ⟨by unfold Gd; simp only [hg], h⟩⟩, ?_⟩
  rw [hd]
  exact hv
end
end Go.Eng
set_option linter.unusedVariables false
set_option linter.unusedSimpArgs false
namespace Go.Eng
open Go Go.RowKit
mutual
def SV.ren (ρ : Nat → Nat) : SV → SV
  | .junk => .junk
  | .d u => .d u
  | .ag cs => .ag (SV.rens ρ cs)
  | .ptr i off => .ptr (ρ i) off
  | .sl i ver => .sl (ρ i) ver
  | .dp u => .dp u
  | .ep i ver z k off => .ep (ρ i) ver z k off
  | .fn f cs => .fn f (SV.rens ρ cs)
  | .tup cs => .tup (SV.rens ρ cs)
  | .nilsl => .nilsl
def SV.rens (ρ : Nat → Nat) : List SV → List SV
  | [] => []
  | c :: cs => SV.ren ρ c :: SV.rens ρ cs
end
def LO.ren (ρ : Nat → Nat) : LO → LO
  | .box cs => .box (SV.rens ρ cs)
  | o => o
section
variable {ρ : Nat → Nat} {S : Nat → Prop} {L L' : List LO} {env env' : List Value} {w : World}
theorem LO.ren_ver (o : LO) : (o.ren ρ).ver = o.ver := by cases o <;> rfl
theorem LO.ren_live (o : LO) : (o.ren ρ).live = o.live := by cases o <;> rfl
theorem LO.ren_ft (o : LO) (hv : Value) (b : Nat) : (o.ren ρ).ft w hv b ↔ o.ft w hv b := by cases o <;> exact Iff.rfl
theorem ver_get {o : LO} {i : Nat} (h : (L'[ρ i]?).map LO.ver = (L[i]?).map LO.ver) (ho : L[i]? = some o) : ∃ o', L'[ρ i]? = some o' ∧ o'.ver = o.ver := by
  rw [ho] at h
  cases h' : L'[ρ i]? with
  | none => rw [h'] at h; cases h
  | some o' => rw [h'] at h; exact ⟨o', rfl, by simpa using h⟩
mutual
/-- From the callee's numbers to the caller's. -/
theorem SVr.ren (H : ∀ i, i < env.length → env'[ρ i]? = env[i]? ∧ (L'[ρ i]?).map LO.ver = (L[i]?).map LO.ver) : ∀ (sv : SV) (v : Value), SVr S L env w sv v → SVr S L' env' w (sv.ren ρ) v
  | .junk, v, _ => by simp only [SV.ren, SVr]
  | .d u, v, h => by simpa only [SV.ren, SVr] using h
  | .ag cs, v, h => by
    simp only [SV.ren, SVr] at h ⊢
    obtain ⟨vs, h1, h2⟩ := h
    exact ⟨vs, h1, SVrs.ren H cs vs h2⟩
  | .ptr i off, v, h => by
    simp only [SV.ren, SVr] at h ⊢
    obtain ⟨b, h1, h2⟩ := h
    exact ⟨b, by rw [(H i (List.getElem?_eq_some_iff.1 h1).1).1]; exact h1, h2⟩
  | .sl i ver, v, h => by
    simp only [SV.ren, SVr] at h ⊢
    obtain ⟨hv, o, h1, h2, h3, h5, h4⟩ := h
    obtain ⟨k1, k2⟩ := H i (List.getElem?_eq_some_iff.1 h1).1
    obtain ⟨o', k3, k4⟩ := ver_get k2 h2
    exact ⟨hv, o', by rw [k1]; exact h1, k3, by omega, h5, fun he => h4 (by omega)⟩
  | .dp u, v, h => by simpa only [SV.ren, SVr] using h
  | .ep i ver z k off, v, h => by
    simp only [SV.ren, SVr] at h ⊢
    obtain ⟨hv, o, h1, h2, h3, h5, h4⟩ := h
    obtain ⟨k1, k2⟩ := H i (List.getElem?_eq_some_iff.1 h1).1
    obtain ⟨o', k3, k4⟩ := ver_get k2 h2
    exact ⟨hv, o', by rw [k1]; exact h1, k3, by omega, h5, fun he => h4 (by omega)⟩
  | .fn f cs, v, h => by
    simp only [SV.ren, SVr] at h ⊢
    obtain ⟨vs, h1, h2⟩ := h
    exact ⟨vs, h1, SVrs.ren H cs vs h2⟩
  | .tup cs, v, h => by
    simp only [SV.ren, SVr] at h ⊢
    obtain ⟨vs, h1, h2⟩ := h
    exact ⟨vs, h1, SVrs.ren H cs vs h2⟩
  | .nilsl, v, h => by simpa only [SV.ren, SVr] using h
theorem SVrs.ren (H : ∀ i, i < env.length → env'[ρ i]? = env[i]? ∧ (L'[ρ i]?).map LO.ver = (L[i]?).map LO.ver) : ∀ (svs : List SV) (vs : List Value), SVrs S L env w svs vs → SVrs S L' env' w (SV.rens ρ svs) vs
  | [], [], _ => by simp only [SV.rens, SVrs]
  | sv :: svs, v :: vs, h => by
    simp only [SV.rens, SVrs] at h ⊢
    exact ⟨SVr.ren H sv v h.1, SVrs.ren H svs vs h.2⟩
  | [], _ :: _, h => by simp [SVrs] at h
  | _ :: _, [], h => by simp [SVrs] at h
end
mutual
/-- From the caller's numbers to the callee's. -/
theorem SVr.unren {n : Nat} (H : ∀ i, i < n → env'[ρ i]? = env[i]? ∧ (L'[ρ i]?).map LO.ver = (L[i]?).map LO.ver) : ∀ (sv : SV) (v : Value), sv.lt n = true → SVr S L' env' w (sv.ren ρ) v → SVr S L env w sv v
  | .junk, v, _, _ => by simp only [SVr]
  | .d u, v, _, h => by simpa only [SV.ren, SVr] using h
  | .ag cs, v, hl, h => by
    simp only [SV.ren, SVr] at h ⊢
    obtain ⟨vs, h1, h2⟩ := h
    exact ⟨vs, h1, SVrs.unren H cs vs (by simpa only [SV.lt] using hl) h2⟩
  | .ptr i off, v, hl, h => by
    simp only [SV.lt, Nat.blt_eq] at hl
    simp only [SV.ren, SVr] at h ⊢
    obtain ⟨b, h1, h2⟩ := h
    exact ⟨b, by rw [← (H i hl).1]; exact h1, h2⟩
  | .sl i ver, v, hl, h => by
    simp only [SV.lt, Nat.blt_eq] at hl
    simp only [SV.ren, SVr] at h ⊢
    obtain ⟨hv, o, h1, h2, h3, h5, h4⟩ := h
    obtain ⟨k1, k2⟩ := H i hl
    obtain ⟨o', k3, k4⟩ := ver_get (L' := L) (L := L') (ρ := fun _ => i) (i := ρ i) k2.symm h2
    exact ⟨hv, o', by rw [← k1]; exact h1, k3, by omega, h5, fun he => h4 (by omega)⟩
  | .dp u, v, _, h => by simpa only [SV.ren, SVr] using h
  | .ep i ver z k off, v, hl, h => by
    simp only [SV.lt, Nat.blt_eq] at hl
    simp only [SV.ren, SVr] at h ⊢
    obtain ⟨hv, o, h1, h2, h3, h5, h4⟩ := h
    obtain ⟨k1, k2⟩ := H i hl
    obtain ⟨o', k3, k4⟩ := ver_get (L' := L) (L := L') (ρ := fun _ => i) (i := ρ i) k2.symm h2
    exact ⟨hv, o', by rw [← k1]; exact h1, k3, by omega, h5, fun he => h4 (by omega)⟩
  | .fn f cs, v, hl, h => by
    simp only [SV.ren, SVr] at h ⊢
    obtain ⟨vs, h1, h2⟩ := h
    exact ⟨vs, h1, SVrs.unren H cs vs (by simpa only [SV.lt] using hl) h2⟩
  | .tup cs, v, hl, h => by
    simp only [SV.ren, SVr] at h ⊢
    obtain ⟨vs, h1, h2⟩ := h
    exact ⟨vs, h1, SVrs.unren H cs vs (by simpa only [SV.lt] using hl) h2⟩
  | .nilsl, v, _, h => by simpa only [SV.ren, SVr] using h
theorem SVrs.unren {n : Nat} (H : ∀ i, i < n → env'[ρ i]? = env[i]? ∧ (L'[ρ i]?).map LO.ver = (L[i]?).map LO.ver) : ∀ (svs : List SV) (vs : List Value), SV.lts n svs = true → SVrs S L' env' w (SV.rens ρ svs) vs → SVrs S L env w svs vs
  | [], [], _, _ => by simp only [SVrs]
  | sv :: svs, v :: vs, hl, h => by
    simp only [SV.lts, Bool.and_eq_true] at hl
    simp only [SV.rens, SVrs] at h ⊢
    exact ⟨SVr.unren H sv v hl.1 h.1, SVrs.unren H svs vs hl.2 h.2⟩
  | [], _ :: _, _, h => by simp [SV.rens, SVrs] at h
  | _ :: _, [], _, h => by simp [SV.rens, SVrs] at h
end
end
/-! ### objects picked out -/
structure PickR (ρ : Nat → Nat) (L Lc : List LO) : Prop where
  get : ∀ (m : Nat) (o : LO), Lc[m]? = some o → L[ρ m]? = some (o.ren ρ)
  inj : ∀ (m m' : Nat), m < Lc.length → m' < Lc.length → ρ m = ρ m' → m = m'
  lt : LO.lts Lc.length Lc = true
def pickE (ρ : Nat → Nat) (n : Nat) (env : List Value) : List Value := (List.range n).map fun m => env.getD (ρ m) undef
section
variable {ρ : Nat → Nat} {A A' : Amb} {S : Nat → Prop} {L Lc : List LO} {env : List Value} {w : World}
theorem pickE_get {n : Nat} (hH : HeapR A S L env w) {m : Nat} (hm : m < n) {o : LO} (ho : L[ρ m]? = some o) : (pickE ρ n env)[m]? = env[ρ m]? := by
  have hj := (List.getElem?_eq_some_iff.1 ho).1
  rw [← hH.len] at hj
  simp only [pickE, List.getElem?_map, List.getElem?_range hm, Option.map_some]
  rw [List.getElem?_eq_getElem hj]
  simp [List.getD_eq_getElem?_getD, List.getElem?_eq_getElem hj]
theorem PickR.H (hH : HeapR A S L env w) (hp : PickR ρ L Lc) : ∀ i, i < Lc.length → env[ρ i]? = (pickE ρ Lc.length env)[i]? ∧ (L[ρ i]?).map LO.ver = (Lc[i]?).map LO.ver := by
  intro i hi
  obtain ⟨o, ho⟩ : ∃ o, Lc[i]? = some o := ⟨_, List.getElem?_eq_getElem hi⟩
  have h1 := hp.get i o ho
  exact ⟨(pickE_get hH hi h1).symm, by rw [h1, ho]; simp [LO.ren_ver]⟩
/-- The heap of the objects picked out. -/
theorem HeapR.pick (hH : HeapR A S L env w) (hp : PickR ρ L Lc) (hw : A'.w0.heap.size ≤ w.heap.size)
    (hexcl : ∀ (m : Nat) (b : Nat), m < Lc.length → OwnB L env w (ρ m) b → A'.E b ∨ A'.w0.heap.size ≤ b) (hsA : ∀ b, S b → A'.S0 b ∨ A'.E b ∨ A'.w0.heap.size ≤ b)
    (hframe : ∀ b, b < A'.w0.heap.size → ¬ A'.E b → w.heap[b]? = A'.w0.heap[b]?) (hos : w.os = A'.w0.os) (htape : w.tape = A'.w0.tape) (hout : w.output = A'.w0.output)
    (hbase : Base A' Lc (pickE ρ Lc.length env)) (hglob : Gok A'.E A'.w0) : HeapR A' S Lc (pickE ρ Lc.length env) w := by
  have H := hp.H hH
  have key : ∀ (m : Nat) (o : LO) (hv : Value), Lc[m]? = some o → (pickE ρ Lc.length env)[m]? = some hv → m < Lc.length ∧ L[ρ m]? = some (o.ren ρ) ∧ env[ρ m]? = some hv := by
    intro m o hv h1 h2
    have hm := (List.getElem?_eq_some_iff.1 h1).1
    exact ⟨hm, hp.get m o h1, by rw [(H m hm).1]; exact h2⟩
  refine ⟨by simp [pickE], ?_, ?_, ?_, hH.sS, hsA, hframe, hw, hos, htape, hout, hbase, hglob⟩
  · intro m o hv h1 h2
    obtain ⟨hm, k1, k2⟩ := key m o hv h1 h2
    have hob := hH.objs _ _ _ k1 k2
    cases o with
    | box cs =>
      obtain ⟨b, vals, e, r1, r2, r3, r4⟩ := hob
      refine ⟨b, vals, e, r1, r2, SVrs.unren H _ _ ?_ r3, r4⟩
      have := LO.lts_get Lc hp.lt m _ h1
      simpa only [LO.lt] using this
    | arr e z ver es => exact hob
    | frz e z ver es => exact hob
    | own e z ver es => exact hob
    | dead ver => exact hob
    | ownp h e z es => exact hob
    | mix e z ver fs es => exact hob
    | set ks => exact hob
    | bld e T l => exact hob
  · intro m o hv b h1 hl h2 hb
    obtain ⟨hm, k1, k2⟩ := key m o hv h1 h2
    have hl' : (o.ren ρ).live = true := by rw [LO.ren_live]; exact hl
    have hb' := (LO.ren_ft (ρ := ρ) o hv b).2 hb
    have := hH.excl _ _ _ b k1 hl' k2 hb'
    exact ⟨this.1, hexcl m b hm ⟨_, _, k1, hl', k2, hb'⟩, this.2.2⟩
  · intro m m' o o' hv hv' b h1 h2 hl1 hl2 e1 e2 b1 b2
    obtain ⟨hm, k1, k2⟩ := key m o hv h1 e1
    obtain ⟨hm', k1', k2'⟩ := key m' o' hv' h2 e2
    exact hp.inj m m' hm hm' (hH.dist _ _ _ _ _ _ b k1 k1' (by rw [LO.ren_live]; exact hl1) (by rw [LO.ren_live]; exact hl2) k2 k2' ((LO.ren_ft o hv b).2 b1) ((LO.ren_ft o' hv' b).2 b2))
end
/-! ### lists, partly laid anew -/
def putA {α : Type} : List Nat → List α → List α → List α
  | [], new, old => old ++ new
  | j :: js, x :: new, old => putA js new (old.set j x)
  | _ :: _, [], old => old
def rn (js : List Nat) (n0 m : Nat) : Nat := (js[m]?).getD (n0 + (m - js.length))
section
variable {α : Type}
theorem putA_len : ∀ (js : List Nat) (new old : List α), js.length ≤ new.length → (putA js new old).length = old.length + (new.length - js.length)
  | [], new, old, _ => by simp [putA]
  | j :: js, x :: new, old, h => by
    simp only [putA]
    rw [putA_len js new (old.set j x) (by simpa using h)]
    simp
  | _ :: _, [], _, h => by simp at h
theorem putA_old : ∀ (js : List Nat) (new old : List α) (j : Nat), j < old.length → j ∉ js → (putA js new old)[j]? = old[j]?
  | [], new, old, j, h, _ => by simp only [putA]; exact List.getElem?_append_left h
  | i :: js, x :: new, old, j, h, hn => by
    simp only [List.mem_cons, not_or] at hn
    simp only [putA]
    rw [putA_old js new (old.set i x) j (by simpa using h) hn.2, List.getElem?_set_ne (fun e => hn.1 e.symm)]
  | _ :: _, [], _, _, _, _ => rfl
theorem putA_new : ∀ (js : List Nat) (new old : List α) (m : Nat), js.length ≤ new.length → (∀ j ∈ js, j < old.length) → js.Nodup → (putA js new old)[rn js old.length m]? = new[m]?
  | [], new, old, m, _, _, _ => by
    simp only [putA, rn, List.getElem?_nil, Option.getD_none, List.length_nil, Nat.sub_zero]
    rw [List.getElem?_append_right (by omega)]
    congr 1
    omega
  | j :: js, x :: new, old, m, hl, hlt, hnd => by
    simp only [putA]
    simp only [List.nodup_cons] at hnd
    cases m with
    | zero =>
      simp only [rn, List.getElem?_cons_zero, Option.getD_some]
      rw [putA_old js new _ j (by simpa using hlt j (by simp)) hnd.1]
      simp [hlt j (by simp)]
    | succ m =>
      have := putA_new js new (old.set j x) m (by simpa using hl) (fun i hi => by simpa using hlt i (by simp [hi])) hnd.2
      simp only [List.length_set] at this
      rw [List.getElem?_cons_succ, ← this]
      congr 1
      simp only [rn, List.getElem?_cons_succ, List.length_cons]
      congr 2
      omega
  | _ :: _, [], _, _, h, _, _ => by simp at h
theorem putA_cases (js : List Nat) (new old : List α) (hl : js.length ≤ new.length) (i : Nat) (hi : i < (putA js new old).length) : (i < old.length ∧ i ∉ js) ∨ ∃ m, m < new.length ∧ rn js old.length m = i := by
  rw [putA_len _ _ _ hl] at hi
  by_cases h1 : i ∈ js
  · obtain ⟨m, hm, rfl⟩ := List.mem_iff_getElem.1 h1
    exact .inr ⟨m, by omega, by simp [rn, List.getElem?_eq_getElem hm]⟩
  · by_cases h2 : i < old.length
    · exact .inl ⟨h2, h1⟩
    · refine .inr ⟨js.length + (i - old.length), by omega, ?_⟩
      simp only [rn]
      rw [List.getElem?_eq_none (by omega)]
      simp only [Option.getD_none]
      omega
theorem nodup_inj {l : List Nat} (h : l.Nodup) {i j : Nat} (hi : i < l.length) (hj : j < l.length) (he : l[i] = l[j]) : i = j := by
  have hp := List.pairwise_iff_getElem.1 h
  rcases Nat.lt_trichotomy i j with h1 | h1 | h1
  · exact absurd he (hp i j hi hj h1)
  · exact h1
  · exact absurd he.symm (hp j i hj hi h1)
theorem rn_inj {js : List Nat} {n0 : Nat} (hlt : ∀ j ∈ js, j < n0) (hnd : js.Nodup) {m m' : Nat} (h : rn js n0 m = rn js n0 m') : m = m' := by
  simp only [rn] at h
  by_cases h1 : m < js.length <;> by_cases h2 : m' < js.length
  · rw [List.getElem?_eq_getElem h1, List.getElem?_eq_getElem h2] at h
    exact nodup_inj hnd h1 h2 (by simpa using h)
  · rw [List.getElem?_eq_getElem h1, List.getElem?_eq_none (by omega)] at h
    have := hlt _ (List.getElem_mem h1)
    simp at h
    omega
  · rw [List.getElem?_eq_getElem h2, List.getElem?_eq_none (by omega)] at h
    have := hlt _ (List.getElem_mem h2)
    simp at h
    omega
  · rw [List.getElem?_eq_none (by omega), List.getElem?_eq_none (by omega)] at h
    simp at h
    omega
end
end Go.Eng
