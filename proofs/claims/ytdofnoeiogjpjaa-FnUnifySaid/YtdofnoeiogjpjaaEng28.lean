/- The engine, part 28: the places in elements, found by 'constructor'. -/
import Derived.Test.YtdofnoeiogjpjaaEng27
namespace Go.Eng
open Go Go.RowKit

inductive WK (v : U) : List U → Option Nat → List U → Option Nat → Prop
  | done {us : List U} : WK v us none us none
  | nil {o : Nat} : WK v [] (some o) [] (some o)
  | hitI {k : IntKind} {n : Int} {us : List U} : WK v (.i k n :: us) (some 0) (v :: us) none
  | hitS {l : List UInt8} {us : List U} : WK v (.s l :: us) (some 0) (v :: us) none
  | hitB {x : Bool} {us : List U} : WK v (.b x :: us) (some 0) (v :: us) none
  | skI {k : IntKind} {n : Int} {us r : List U} {o : Nat} {s : Option Nat} (h : WK v us (some o) r s) : WK v (.i k n :: us) (some (o + 1)) (.i k n :: r) s
  | skS {l : List UInt8} {us r : List U} {o : Nat} {s : Option Nat} (h : WK v us (some o) r s) : WK v (.s l :: us) (some (o + 1)) (.s l :: r) s
  | skB {x : Bool} {us r : List U} {o : Nat} {s : Option Nat} (h : WK v us (some o) r s) : WK v (.b x :: us) (some (o + 1)) (.b x :: r) s
  | skL {z : Nat} {xs us r : List U} {o : Nat} {s : Option Nat} (h : WK v us (some o) r s) : WK v (.sl z xs :: us) (some (o + 1)) (.sl z xs :: r) s
  | st {ws ws' us us' : List U} {o : Nat} {s1 s2 : Option Nat} (h : WK v ws (some o) ws' s1) (h2 : WK v us s1 us' s2) : WK v (.st ws :: us) (some o) (.st ws' :: us') s2
theorem SL.lt {v : U} {us us' : List U} {o : Nat} (h : SL v us o us') : o < U.szs us := by
  induction h with
  | hitI => simp only [U.szs, U.sz]; omega
  | hitS => simp only [U.szs, U.sz]; omega
  | hitB => simp only [U.szs, U.sz]; omega
  | skI h ih => simp only [U.szs, U.sz]; omega
  | skS h ih => simp only [U.szs, U.sz]; omega
  | skB h ih => simp only [U.szs, U.sz]; omega
  | skL h ih => simp only [U.szs, U.sz]; omega
  | into hlt h ih => simp only [U.szs, U.sz]; omega
  | over hlt ho h ih => have := Nat.le_of_ble_eq_true hlt; simp only [U.szs, U.sz]; omega
theorem WK.spec {v : U} {us us' : List U} {s s' : Option Nat} (h : WK v us s us' s') : (s = none → us' = us ∧ s' = none) ∧ ∀ o, s = some o → (s' = none → SL v us o us') ∧ ∀ o', s' = some o' → us' = us ∧ o = U.szs us + o' := by
  induction h with
  | done => exact ⟨fun _ => ⟨rfl, rfl⟩, fun o h => by cases h⟩
  | nil => exact ⟨fun h => (by cases h), fun o h => by cases h; exact ⟨fun h => (by cases h), fun o' h => by cases h; exact ⟨rfl, by simp [U.szs]⟩⟩⟩
  | hitI => exact ⟨fun h => (by cases h), fun o h => by cases h; exact ⟨fun _ => .hitI, fun o' h => by cases h⟩⟩
  | hitS => exact ⟨fun h => (by cases h), fun o h => by cases h; exact ⟨fun _ => .hitS, fun o' h => by cases h⟩⟩
  | hitB => exact ⟨fun h => (by cases h), fun o h => by cases h; exact ⟨fun _ => .hitB, fun o' h => by cases h⟩⟩
  | skI h ih => exact ⟨fun h => (by cases h), fun o h => by cases h; exact ⟨fun hs => .skI ((ih.2 _ rfl).1 hs), fun o' ho => by obtain ⟨h1, h2⟩ := (ih.2 _ rfl).2 o' ho; exact ⟨by rw [h1], by simp only [U.szs, U.sz]; omega⟩⟩⟩
  | skS h ih => exact ⟨fun h => (by cases h), fun o h => by cases h; exact ⟨fun hs => .skS ((ih.2 _ rfl).1 hs), fun o' ho => by obtain ⟨h1, h2⟩ := (ih.2 _ rfl).2 o' ho; exact ⟨by rw [h1], by simp only [U.szs, U.sz]; omega⟩⟩⟩
  | skB h ih => exact ⟨fun h => (by cases h), fun o h => by cases h; exact ⟨fun hs => .skB ((ih.2 _ rfl).1 hs), fun o' ho => by obtain ⟨h1, h2⟩ := (ih.2 _ rfl).2 o' ho; exact ⟨by rw [h1], by simp only [U.szs, U.sz]; omega⟩⟩⟩
  | skL h ih => exact ⟨fun h => (by cases h), fun o h => by cases h; exact ⟨fun hs => .skL ((ih.2 _ rfl).1 hs), fun o' ho => by obtain ⟨h1, h2⟩ := (ih.2 _ rfl).2 o' ho; exact ⟨by rw [h1], by simp only [U.szs, U.sz]; omega⟩⟩⟩
  | @st ws ws' us us' o s1 s2 h h2 ih ih2 =>
    refine ⟨fun h => (by cases h), fun o0 h0 => ?_⟩
    cases h0
    obtain ⟨i1, i2⟩ := ih.2 o rfl
    cases s1 with
    | none =>
      obtain ⟨j1, j2⟩ := ih2.1 rfl
      subst j1; subst j2
      have := i1 rfl
      exact ⟨fun _ => .into (by simpa [Nat.blt_eq] using this.lt) this, fun o' h => by cases h⟩
    | some o1 =>
      obtain ⟨k1, k2⟩ := i2 o1 rfl
      subst k1
      obtain ⟨j1, j2⟩ := ih2.2 o1 rfl
      refine ⟨fun hs => .over (Nat.ble_eq_true_of_le (by omega)) (by omega) (j1 hs), fun o' ho => ?_⟩
      obtain ⟨m1, m2⟩ := j2 o' ho
      exact ⟨by rw [m1], by simp only [U.szs, U.sz]; omega⟩
inductive SU2 (v : U) : U → Nat → U → Prop
  | st {us us' : List U} {o : Nat} (h : WK v us (some o) us' none) : SU2 v (.st us) o (.st us')
  | i {k : IntKind} {n : Int} : SU2 v (.i k n) 0 v
  | s {l : List UInt8} : SU2 v (.s l) 0 v
  | b {x : Bool} : SU2 v (.b x) 0 v
theorem SU2.su {v u u' : U} {o : Nat} (h : SU2 v u o u') : SU v u o u' := by
  cases h with
  | st h => exact .st ((h.spec.2 _ rfl).1 rfl)
  | i => exact .one rfl
  | s => exact .one rfl
  | b => exact .one rfl

inductive WH (old new : U) : List U → Option Nat → List U → Option Nat → Prop
  | done {us : List U} : WH old new us none us none
  | nil {o : Nat} : WH old new [] (some o) [] (some o)
  | hit {us : List U} : WH old new (old :: us) (some 0) (new :: us) none
  | skI {k : IntKind} {n : Int} {us r : List U} {o : Nat} {s : Option Nat} (h : WH old new us (some o) r s) : WH old new (.i k n :: us) (some (o + 1)) (.i k n :: r) s
  | skS {l : List UInt8} {us r : List U} {o : Nat} {s : Option Nat} (h : WH old new us (some o) r s) : WH old new (.s l :: us) (some (o + 1)) (.s l :: r) s
  | skB {x : Bool} {us r : List U} {o : Nat} {s : Option Nat} (h : WH old new us (some o) r s) : WH old new (.b x :: us) (some (o + 1)) (.b x :: r) s
  | skL {z : Nat} {xs us r : List U} {o : Nat} {s : Option Nat} (h : WH old new us (some o) r s) : WH old new (.sl z xs :: us) (some (o + 1)) (.sl z xs :: r) s
  | st {ws ws' us us' : List U} {o : Nat} {s1 s2 : Option Nat} (h : WH old new ws (some o) ws' s1) (h2 : WH old new us s1 us' s2) : WH old new (.st ws :: us) (some o) (.st ws' :: us') s2
theorem HS.lt {old new : U} (h1 : 0 < old.sz) {us us' : List U} {o : Nat} (h : HS old new us o us') : o < U.szs us := by
  induction h with
  | hit => simp only [U.szs]; omega
  | into hlt h ih => simp only [U.szs, U.sz]; omega
  | over hlt ho h ih => have := Nat.le_of_ble_eq_true hlt; simp only [U.szs]; omega
theorem WH.spec {old new : U} (hold : 0 < old.sz) {us us' : List U} {s s' : Option Nat} (h : WH old new us s us' s') : (s = none → us' = us ∧ s' = none) ∧ ∀ o, s = some o → (s' = none → HS old new us o us') ∧ ∀ o', s' = some o' → us' = us ∧ o = U.szs us + o' := by
  have sk : ∀ (u0 : U) (us r : List U) (o : Nat) (s : Option Nat), u0.sz = 1 → ((s = none → HS old new us o r) ∧ ∀ o', s = some o' → r = us ∧ o = U.szs us + o') →
      (s = none → HS old new (u0 :: us) (o + 1) (u0 :: r)) ∧ ∀ o', s = some o' → u0 :: r = u0 :: us ∧ o + 1 = U.szs (u0 :: us) + o' := by
    intro u0 us r o s h1 ih
    refine ⟨fun hs => .over (by rw [h1]; exact Nat.ble_eq_true_of_le (by omega)) (by rw [h1]; rfl) (ih.1 hs), fun o' ho => ?_⟩
    obtain ⟨h2, h3⟩ := ih.2 o' ho
    exact ⟨by rw [h2], by simp only [U.szs, h1]; omega⟩
  induction h with
  | done => exact ⟨fun _ => ⟨rfl, rfl⟩, fun o h => by cases h⟩
  | nil => exact ⟨fun h => (by cases h), fun o h => by cases h; exact ⟨fun h => (by cases h), fun o' h => by cases h; exact ⟨rfl, by simp [U.szs]⟩⟩⟩
  | hit => exact ⟨fun h => (by cases h), fun o h => by cases h; exact ⟨fun _ => .hit, fun o' h => by cases h⟩⟩
  | skI h ih => exact ⟨fun h => (by cases h), fun o h => by cases h; exact sk _ _ _ _ _ rfl (ih.2 _ rfl)⟩
  | skS h ih => exact ⟨fun h => (by cases h), fun o h => by cases h; exact sk _ _ _ _ _ rfl (ih.2 _ rfl)⟩
  | skB h ih => exact ⟨fun h => (by cases h), fun o h => by cases h; exact sk _ _ _ _ _ rfl (ih.2 _ rfl)⟩
  | skL h ih => exact ⟨fun h => (by cases h), fun o h => by cases h; exact sk _ _ _ _ _ rfl (ih.2 _ rfl)⟩
  | @st ws ws' us us' o s1 s2 h h2 ih ih2 =>
    refine ⟨fun h => (by cases h), fun o0 h0 => ?_⟩
    cases h0
    obtain ⟨i1, i2⟩ := ih.2 o rfl
    cases s1 with
    | none =>
      obtain ⟨j1, j2⟩ := ih2.1 rfl
      subst j1; subst j2
      have := i1 rfl
      exact ⟨fun _ => .into (by simpa [Nat.blt_eq] using this.lt hold) this, fun o' h => by cases h⟩
    | some o1 =>
      obtain ⟨k1, k2⟩ := i2 o1 rfl
      subst k1
      obtain ⟨j1, j2⟩ := ih2.2 o1 rfl
      refine ⟨fun hs => .over (Nat.ble_eq_true_of_le (by simp only [U.sz]; omega)) (by simp only [U.sz]; omega) (j1 hs), fun o' ho => ?_⟩
      obtain ⟨m1, m2⟩ := j2 o' ho
      exact ⟨by rw [m1], by simp only [U.szs, U.sz]; omega⟩

section
variable {P : Program} {A : Amb} {σ : St} {K : St → Prop}
variable {ops : Array Oper} {rest : List Oper} {t : Nat} {ty : TypeId} {pos : String} {af : Array Edge} {x y : Operand} {sv : SV}
theorem VR_storeF {T : TypeId} {i ver z k off bs : Nat} {o o' : LO} {pre post : List U} {u u' v : U} {fr : List (Nat × SV)} {L L' : List LO} {N : Nat} (hx : (St.mk fr L N).ev x = .ep i ver z k off) (hL : L[i]? = some o) (ha : AsO o z ver (pre ++ u :: post)) (hk : pre.length = k) (hy : (St.mk fr L N).ev y = .d v) (hv : v.scal = true)
    (hT : tyI P T = some (false, 1, bs)) (hu : SU2 v u off u') (hp : PutO o (pre ++ u' :: post) o') (hL' : St1 o' i L L') (h : VO P A ops rest ⟨fr, L', N⟩ K) : VO P A ops (⟨none, .store T x y, ty, pos, af, none⟩ :: rest) ⟨fr, L, N⟩ K :=
  VO_storeF hx hL ha hk hy hv hT hu.su hp hL' h
theorem VR_markcall {T : TypeId} {tl tm tc : Nat} {ty1 ty2 : TypeId} {pos1 pos2 : String} {af1 af2 : Array Edge} {i ver z k off bs z' : Nat} {o o' : LO} {pre post us us' olds news : List U} {kk kk' : Int} {f : Operand} {fi : Nat} {at_ : Array TypeId} {fr : List (Nat × SV)} {L L' : List LO} {N : Nat}
    (hspec : MSpec P fi (.sl z' olds) kk (.sl z' news) kk') (hx : (St.mk fr L N).ev x = .ep i ver z k off) (hL : L[i]? = some o) (ha : AsO o z ver (pre ++ .st us :: post)) (hk : pre.length = k) (hT : tyI P T = some (false, 1, bs)) (hu : WH (.sl z' olds) (.sl z' news) us (some off) us' none)
    (hy : (St.mk fr L N).ev y = .d (.i .i64 kk)) (hf : f = .func fi) (hyl : y ≠ .tmp tl) (hp : PutO o (pre ++ .st us' :: post) o') (hL' : St1 o' i L L') (htl : Nat.blt tl N = true) (htm : Nat.blt tm N = true) (htc : Nat.blt tc N = true) (hne : tl ≠ tm)
    (h : VO P A ops rest ⟨(tc, .d (.i .i64 kk')) :: (tm, .d (.i .i64 kk)) :: (tl, .junk) :: fr, L', N⟩ K) :
    VO P A ops (⟨some tl, .load T x, ty, pos, af, none⟩ :: ⟨some tm, .move y, ty1, pos1, af1, none⟩ :: ⟨some tc, .call { callee := .value f, args := #[.tmp tl, .tmp tm], argTypes := at_ }, ty2, pos2, af2, none⟩ :: rest) ⟨fr, L, N⟩ K :=
  VO_markcall hx hL ha hk hT ((hu.spec (by simp only [U.sz]; omega)).2 _ rfl |>.1 rfl) rfl rfl rfl hy hf hyl hspec hp hL' htl htm htc hne h
end
end Go.Eng
