/- The engine, part 27: the rules for owned arrays once more, their lists of objects found by 'constructor'. -/
import Derived.Test.YthojhakapbfbiaaGreatEng26
import Derived.KernelRfl
namespace Go.Eng
open Go Go.RowKit
inductive KR : List Nat → List LO → List LO → Prop
  | nil {L : List LO} : KR [] L L
  | cons {j : Nat} {js : List Nat} {o : LO} {L L1 L' : List LO} (h : L[j]? = some o) (hs : St1 (.dead (o.ver + 1)) j L L1) (r : KR js L1 L') : KR (j :: js) L L'
theorem KR.spec {js : List Nat} {L L' : List LO} (h : KR js L L') (hn : js.Nodup) : kill js 0 L = L' := by
  have key : ∀ {js : List Nat} {L L' : List LO}, KR js L L' → js.Nodup → L'.length = L.length ∧ ∀ i, L'[i]? = L[i]?.map (fun o => if js.contains i then .dead (o.ver + 1) else o) := by
    intro js L L' h
    induction h with
    | nil => intro _; exact ⟨rfl, fun i => by cases h : (_ : List LO)[i]? <;> simp⟩
    | @cons j js o L L1 L' h hs r ih =>
      intro hn
      have h1 := hs.spec
      subst h1
      obtain ⟨n1, n2⟩ := List.nodup_cons.1 hn
      obtain ⟨i1, i2⟩ := ih n2
      refine ⟨by rw [i1, List.length_set], fun i => ?_⟩
      rw [i2 i]
      by_cases hij : j = i
      · subst hij
        have hlt := (List.getElem?_eq_some_iff.1 h).1
        have hc : js.contains j = false := by simpa using n1
        rw [List.getElem?_set_self hlt, h]
        simp only [Option.map_some, hc, List.contains_cons, beq_self_eq_true, Bool.true_or, if_true, Bool.false_eq_true, if_false]
      · rw [List.getElem?_set_ne hij]
        have : (j :: js).contains i = js.contains i := by
          have : (i == j) = false := by simpa using fun e => hij e.symm
          simp only [List.contains_cons, this, Bool.false_or]
        rw [this]
  obtain ⟨k1, k2⟩ := key h hn
  apply List.ext_getElem?
  intro i
  rw [kill_get, Nat.zero_add, k2 i]
section
variable {P : Program} {A : Amb} {σ : St} {K : St → Prop}
variable {ops : Array Oper} {rest : List Oper} {t : Nat} {ty : TypeId} {pos : String} {af : Array Edge} {x y : Operand} {sv : SV}
theorem VR_store {T : TypeId} {gg : Bool} {i ver z k e bs : Nat} {es : List U} {u : U} {js : List Nat} {fr : List (Nat × SV)} {L L1 L' : List LO} {N : Nat} (hx : (St.mk fr L N).ev x = .ep i ver z k 0) (hL : L[i]? = some (.own e z ver es)) (hy : OV L ((St.mk fr L N).ev y) u js)
    (hjs : (decide js.Nodup && !js.contains i) = true) (hT : tyI P T = some (gg, z, bs)) (hu : u.sz = z) (hk : k < es.length) (hk1 : KR js L L1) (hL' : St1 (.own e z ver (es.set k u)) i L1 L')
    (h : VO P A ops rest ⟨fr, L', N⟩ K) : VO P A ops (⟨none, .store T x y, ty, pos, af, none⟩ :: rest) ⟨fr, L, N⟩ K := by
  have hjs' := hjs
  simp only [Bool.and_eq_true, decide_eq_true_eq] at hjs'
  exact VO_storeO hx hL hy hjs hT hu hk (by rw [hk1.spec hjs'.1]; exact hL'.spec) h
theorem VR_make {T e : TypeId} {gg : Bool} {z bs : Nat} {zs : List Value} {zu : U} {k k' : IntKind} {l c : Int} {fr : List (Nat × SV)} {L L' : List LO} {N i : Nat} (hx : (St.mk fr L N).ev x = .d (.i k l)) (hy : (St.mk fr L N).ev y = .d (.i k' c))
    (hT : tyE P T = some e) (he : tyI P e = some (gg, z, bs)) (hZ : tyZ P e = some zs) (hz : (Nat.blt 0 z && zs.length == z) = true) (hzu : ZeroT zu zs)
    (h0 : 0 ≤ l) (hlc : l ≤ c) (hc : c ≤ big) (hbytes : (bs : Int) * c ≤ 281474976710656) (ht : Nat.blt t N = true) (hL' : Sn (.own e z 0 (List.replicate l.toNat zu)) L i L')
    (h : VO P A ops rest ⟨(t, .sl i 0) :: fr, L', N⟩ K) : VO P A ops (⟨some t, .makeSlice T x y, ty, pos, af, none⟩ :: rest) ⟨fr, L, N⟩ K := VO_makeO hx hy hT he hZ hz hzu h0 hlc hc hbytes ht hL'.spec.1 hL' h
theorem VR_append {T e T' : TypeId} {gg : Bool} {z bs i ver : Nat} {zs : List Value} {es us : List U} {js : List Nat} {fr : List (Nat × SV)} {L L1 L' : List LO} {N : Nat} (hx : (St.mk fr L N).ev x = .sl i ver) (hL : L[i]? = some (.own e z ver es)) (hs : SrcO L z ((St.mk fr L N).ev y) us js)
    (hjs : (decide js.Nodup && !js.contains i) = true) (hT : tyE P T = some e) (he : tyI P e = some (gg, z, bs)) (hZ : tyZ P e = some zs) (hz : (Nat.blt 0 z && zs.length == z) = true)
    (hbig : es.length + us.length ≤ big) (hbytes : (es.length + us.length) * bs ≤ 140737488355328) (ht : Nat.blt t N = true) (hk1 : KR js L L1) (hL' : St1 (.own e z (ver + 1) (es ++ us)) i L1 L')
    (h : VO P A ops rest ⟨(t, .sl i (ver + 1)) :: fr, L', N⟩ K) : VO P A ops (⟨some t, .call { callee := .builtin .append, args := #[x, y], argTypes := #[T, T] }, T', pos, af, none⟩ :: rest) ⟨fr, L, N⟩ K := by
  simp only [Bool.and_eq_true, decide_eq_true_eq] at hjs
  exact VO_appendO hx hL hs hjs.2 hT he hZ hz hbig hbytes ht (by rw [hk1.spec hjs.1]; exact hL'.spec) h
theorem VR_slit1 {T e : TypeId} {gg : Bool} {z bs i : Nat} {zs : List Value} {u : U} {js : List Nat} {fr : List (Nat × SV)} {L L1 L' : List LO} {N : Nat} (hy : OV L ((St.mk fr L N).ev x) u js) (hjs : decide js.Nodup = true) (hT : tyE P T = some e) (he : tyI P e = some (gg, z, bs)) (hZ : tyZ P e = some zs)
    (hz : (Nat.blt 0 z && Nat.blt z 16777216 && zs.length == z) = true) (hu : u.sz = z) (ht : Nat.blt t N = true) (hk1 : KR js L L1) (hL' : Sn (.own e z 0 [u]) L1 i L')
    (h : VO P A ops rest ⟨(t, .sl i 0) :: fr, L', N⟩ K) : VO P A ops (⟨some t, .buildSlice T 1 #[(0, x)], ty, pos, af, none⟩ :: rest) ⟨fr, L, N⟩ K := by
  have hk := hk1.spec (of_decide_eq_true hjs)
  obtain ⟨h1, h2⟩ := hL'.spec
  exact VO_slit1 hy hjs hT he hZ hz hu ht (by rw [← h1, ← hk, kill_len]) (by rw [hk]; exact h2) h
end
theorem tI : ∀ w, Tr w (.i .i64 0) [.int .i64 0] ∧ (U.i .i64 0).fp w [.int .i64 0] = [] := fun w => ⟨by simp [Tr], rfl⟩
theorem tB : ∀ w, Tr w (.b false) [.bool false] ∧ (U.b false).fp w [.bool false] = [] := fun w => ⟨by simp [Tr], rfl⟩
theorem tS : ∀ w, Tr w (.s []) [.string ⟨#[]⟩] ∧ (U.s []).fp w [.string ⟨#[]⟩] = [] := fun w => ⟨by simp [Tr, big], rfl⟩
theorem tL (z : Nat) : ∀ w, Tr w (.sl z []) [.slice none 0 0] ∧ (U.sl z []).fp w [.slice none 0 0] = [] := fun w => Tr.nil w z
/-- Zero values, leaf by leaf. -/
inductive ZL : List U → List Value → Prop
  | nil : ZL [] []
  | i {us : List U} {vs : List Value} (h : ZL us vs) : ZL (.i .i64 0 :: us) (.int .i64 0 :: vs)
  | b {us : List U} {vs : List Value} (h : ZL us vs) : ZL (.b false :: us) (.bool false :: vs)
  | s {us : List U} {vs : List Value} (h : ZL us vs) : ZL (.s [] :: us) (.string ⟨#[]⟩ :: vs)
  | l {z : Nat} {us : List U} {vs : List Value} (h : ZL us vs) : ZL (.sl z [] :: us) (.slice none 0 0 :: vs)
theorem ZL.r {us : List U} {vs : List Value} (h : ZL us vs) (w : World) : All2 (fun u c => Tr w u [c]) us vs ∧ fpl w us vs = [] := by
  induction h with
  | nil => exact ⟨trivial, rfl⟩
  | i h ih => exact ⟨⟨(tI w).1, ih.1⟩, by simp only [fpl, (tI w).2, ih.2, List.nil_append]⟩
  | b h ih => exact ⟨⟨(tB w).1, ih.1⟩, by simp only [fpl, (tB w).2, ih.2, List.nil_append]⟩
  | s h ih => exact ⟨⟨(tS w).1, ih.1⟩, by simp only [fpl, (tS w).2, ih.2, List.nil_append]⟩
  | l h ih => exact ⟨⟨(tL _ w).1, ih.1⟩, by simp only [fpl, (tL _ w).2, ih.2, List.nil_append]⟩
theorem zeroT {u : U} {fl : List U} {vs : List Value} (hl : Lv u fl) (h : ZL fl vs) : ZeroT u vs := fun w => by
  have := hl.eq
  subst this
  obtain ⟨h1, h2⟩ := h.r w
  exact ⟨Tr.of_leafs _ _ h1, by rw [fp_flat _ _ (by rw [← h1.length, U.flat_len]), h2]⟩
/-- What a copy holds after k rounds. -/
def fillU (us : List U) (zu : U) (k : Nat) : List U := us.take k ++ List.replicate (us.length - k) zu
theorem fillU_zero (us : List U) (zu : U) : List.replicate us.length zu = fillU us zu 0 := by simp [fillU]
theorem fillU_all (us : List U) (zu : U) : fillU us zu us.length = us := by simp [fillU]
end Go.Eng
namespace Go.Eng
open Go Go.RowKit
inductive WK (v : U) : List U → Option Nat → List U → Option Nat → Prop
  | done {us : List U} : WK v us none us none
  | nil {o : Nat} : WK v [] (some o) [] (some o)
  | hitI {k : IntKind} {n : Int} {us : List U} : WK v (.i k n :: us) (some 0) (v :: us) none
  | hitS {l : List UInt8} {us : List U} : WK v (.s l :: us) (some 0) (v :: us) none
  | hitB {x : Bool} {us : List U} : WK v (.b x :: us) (some 0) (v :: us) none
  | skI {k : IntKind} {n : Int} {us r : List U} {o : Nat} {s : Option Nat} (h : WK v us (some o) r s) : WK v (.i k n :: us) (some (o + 1)) (.i k n :: r) s
  | skS {l : List UInt8} {us r : List U} {o : Nat} {s : Option Nat} (h : WK v us (some o) r s) : WK v (.s l :: us) (some (o + 1)) (.s l :: r) s
  | skB {x : Bool} {us r : List U} {o : Nat} {s : Option Nat} (h : WK v us (some o) r s) : WK v (.b x :: us) (some (o + 1)) (.b x :: r) s
  | skL {z : Nat} {xs us r : List U} {o : Nat} {s : Option Nat} (h : WK v us (some o) r s) : WK v (.sl z xs :: us) (some (o + 1)) (.sl z xs :: r) s
  | st {ws ws' us us' : List U} {o : Nat} {s1 s2 : Option Nat} (h : WK v ws (some o) ws' s1) (h2 : WK v us s1 us' s2) : WK v (.st ws :: us) (some o) (.st ws' :: us') s2
theorem SL.lt {v : U} {us us' : List U} {o : Nat} (h : SL v us o us') : o < U.szs us := by
  induction h with
  | hitI => simp only [U.szs, U.sz]; omega
  | hitS => simp only [U.szs, U.sz]; omega
  | hitB => simp only [U.szs, U.sz]; omega
  | skI h ih => simp only [U.szs, U.sz]; omega
  | skS h ih => simp only [U.szs, U.sz]; omega
  | skB h ih => simp only [U.szs, U.sz]; omega
  | skL h ih => simp only [U.szs, U.sz]; omega
  | into hlt h ih => simp only [U.szs, U.sz]; omega
  | over hlt ho h ih => have := Nat.le_of_ble_eq_true hlt; simp only [U.szs, U.sz]; omega
theorem WK.spec {v : U} {us us' : List U} {s s' : Option Nat} (h : WK v us s us' s') : (s = none → us' = us ∧ s' = none) ∧ ∀ o, s = some o → (s' = none → SL v us o us') ∧ ∀ o', s' = some o' → us' = us ∧ o = U.szs us + o' := by
  induction h with
  | done => exact ⟨fun _ => ⟨rfl, rfl⟩, fun o h => by cases h⟩
  | nil => exact ⟨fun h => (by cases h), fun o h => by cases h; exact ⟨fun h => (by cases h), fun o' h => by cases h; exact ⟨rfl, by simp [U.szs]⟩⟩⟩
  | hitI => exact ⟨fun h => (by cases h), fun o h => by cases h; exact ⟨fun _ => .hitI, fun o' h => by cases h⟩⟩
  | hitS => exact ⟨fun h => (by cases h), fun o h => by cases h; exact ⟨fun _ => .hitS, fun o' h => by cases h⟩⟩
  | hitB => exact ⟨fun h => (by cases h), fun o h => by cases h; exact ⟨fun _ => .hitB, fun o' h => by cases h⟩⟩
  | skI h ih => exact ⟨fun h => (by cases h), fun o h => by cases h; exact ⟨fun hs => .skI ((ih.2 _ rfl).1 hs), fun o' ho => by obtain ⟨h1, h2⟩ := (ih.2 _ rfl).2 o' ho; exact ⟨by rw [h1], by simp only [U.szs, U.sz]; omega⟩⟩⟩
  | skS h ih => exact ⟨fun h => (by cases h), fun o h => by cases h; exact ⟨fun hs => .skS ((ih.2 _ rfl).1 hs), fun o' ho => by obtain ⟨h1, h2⟩ := (ih.2 _ rfl).2 o' ho; exact ⟨by rw [h1], by simp only [U.szs, U.sz]; omega⟩⟩⟩
  | skB h ih => exact ⟨fun h => (by cases h), fun o h => by cases h; exact ⟨fun hs => .skB ((ih.2 _ rfl).1 hs), fun o' ho => by obtain ⟨h1, h2⟩ := (ih.2 _ rfl).2 o' ho; exact ⟨by rw [h1], by simp only [U.szs, U.sz]; omega⟩⟩⟩
  | skL h ih => exact ⟨fun h => (by cases h), fun o h => by cases h; exact ⟨fun hs => .skL ((ih.2 _ rfl).1 hs), fun o' ho => by obtain ⟨h1, h2⟩ := (ih.2 _ rfl).2 o' ho; exact ⟨by rw [h1], by simp only [U.szs, U.sz]; omega⟩⟩⟩
  | @st ws ws' us us' o s1 s2 h h2 ih ih2 =>
    refine ⟨fun h => (by cases h), fun o0 h0 => ?_⟩
    cases h0
    obtain ⟨i1, i2⟩ := ih.2 o rfl
    cases s1 with
    | none =>
      obtain ⟨j1, j2⟩ := ih2.1 rfl
      subst j1; subst j2
      have := i1 rfl
      exact ⟨fun _ => .into (by simpa [Nat.blt_eq] using this.lt) this, fun o' h => by cases h⟩
    | some o1 =>
      obtain ⟨k1, k2⟩ := i2 o1 rfl
      subst k1
      obtain ⟨j1, j2⟩ := ih2.2 o1 rfl
      refine ⟨fun hs => .over (Nat.ble_eq_true_of_le (by omega)) (by omega) (j1 hs), fun o' ho => ?_⟩
      obtain ⟨m1, m2⟩ := j2 o' ho
      exact ⟨by rw [m1], by simp only [U.szs, U.sz]; omega⟩
inductive SU2 (v : U) : U → Nat → U → Prop
  | st {us us' : List U} {o : Nat} (h : WK v us (some o) us' none) : SU2 v (.st us) o (.st us')
  | i {k : IntKind} {n : Int} : SU2 v (.i k n) 0 v
  | s {l : List UInt8} : SU2 v (.s l) 0 v
  | b {x : Bool} : SU2 v (.b x) 0 v
theorem SU2.su {v u u' : U} {o : Nat} (h : SU2 v u o u') : SU v u o u' := by
  cases h with
  | st h => exact .st ((h.spec.2 _ rfl).1 rfl)
  | i => exact .one rfl
  | s => exact .one rfl
  | b => exact .one rfl
inductive WH (old new : U) : List U → Option Nat → List U → Option Nat → Prop
  | done {us : List U} : WH old new us none us none
  | nil {o : Nat} : WH old new [] (some o) [] (some o)
  | hit {us : List U} : WH old new (old :: us) (some 0) (new :: us) none
  | skI {k : IntKind} {n : Int} {us r : List U} {o : Nat} {s : Option Nat} (h : WH old new us (some o) r s) : WH old new (.i k n :: us) (some (o + 1)) (.i k n :: r) s
  | skS {l : List UInt8} {us r : List U} {o : Nat} {s : Option Nat} (h : WH old new us (some o) r s) : WH old new (.s l :: us) (some (o + 1)) (.s l :: r) s
  | skB {x : Bool} {us r : List U} {o : Nat} {s : Option Nat} (h : WH old new us (some o) r s) : WH old new (.b x :: us) (some (o + 1)) (.b x :: r) s
  | skL {z : Nat} {xs us r : List U} {o : Nat} {s : Option Nat} (h : WH old new us (some o) r s) : WH old new (.sl z xs :: us) (some (o + 1)) (.sl z xs :: r) s
  | st {ws ws' us us' : List U} {o : Nat} {s1 s2 : Option Nat} (h : WH old new ws (some o) ws' s1) (h2 : WH old new us s1 us' s2) : WH old new (.st ws :: us) (some o) (.st ws' :: us') s2
theorem HS.lt {old new : U} (h1 : 0 < old.sz) {us us' : List U} {o : Nat} (h : HS old new us o us') : o < U.szs us := by
  induction h with
  | hit => simp only [U.szs]; omega
  | into hlt h ih => simp only [U.szs, U.sz]; omega
  | over hlt ho h ih => have := Nat.le_of_ble_eq_true hlt; simp only [U.szs]; omega
theorem WH.spec {old new : U} (hold : 0 < old.sz) {us us' : List U} {s s' : Option Nat} (h : WH old new us s us' s') : (s = none → us' = us ∧ s' = none) ∧ ∀ o, s = some o → (s' = none → HS old new us o us') ∧ ∀ o', s' = some o' → us' = us ∧ o = U.szs us + o' := by
  have sk : ∀ (u0 : U) (us r : List U) (o : Nat) (s : Option Nat), u0.sz = 1 → ((s = none → HS old new us o r) ∧ ∀ o', s = some o' → r = us ∧ o = U.szs us + o') →
      (s = none → HS old new (u0 :: us) (o + 1) (u0 :: r)) ∧ ∀ o', s = some o' → u0 :: r = u0 :: us ∧ o + 1 = U.szs (u0 :: us) + o' := by
    intro u0 us r o s h1 ih
    refine ⟨fun hs => .over (by rw [h1]; exact Nat.ble_eq_true_of_le (by omega)) (by rw [h1]; rfl) (ih.1 hs), fun o' ho => ?_⟩
    obtain ⟨h2, h3⟩ := ih.2 o' ho
    exact ⟨by rw [h2], by simp only [U.szs, h1]; omega⟩
  induction h with
  | done => exact ⟨fun _ => ⟨rfl, rfl⟩, fun o h => by cases h⟩
  | nil => exact ⟨fun h => (by cases h), fun o h => by cases h; exact ⟨fun h => (by cases h), fun o' h => by cases h; exact ⟨rfl, by simp [U.szs]⟩⟩⟩
  | hit => exact ⟨fun h => (by cases h), fun o h => by cases h; exact ⟨fun _ => .hit, fun o' h => by cases h⟩⟩
  | skI h ih => exact ⟨fun h => (by cases h), fun o h => by cases h; exact sk _ _ _ _ _ rfl (ih.2 _ rfl)⟩
  | skS h ih => exact ⟨fun h => (by cases h), fun o h => by cases h; exact sk _ _ _ _ _ rfl (ih.2 _ rfl)⟩
  | skB h ih => exact ⟨fun h => (by cases h), fun o h => by cases h; exact sk _ _ _ _ _ rfl (ih.2 _ rfl)⟩
  | skL h ih => exact ⟨fun h => (by cases h), fun o h => by cases h; exact sk _ _ _ _ _ rfl (ih.2 _ rfl)⟩
  | @st ws ws' us us' o s1 s2 h h2 ih ih2 =>
    refine ⟨fun h => (by cases h), fun o0 h0 => ?_⟩
    cases h0
    obtain ⟨i1, i2⟩ := ih.2 o rfl
    cases s1 with
    | none =>
      obtain ⟨j1, j2⟩ := ih2.1 rfl
      subst j1; subst j2
      have := i1 rfl
      exact ⟨fun _ => .into (by simpa [Nat.blt_eq] using this.lt hold) this, fun o' h => by cases h⟩
    | some o1 =>
      obtain ⟨k1, k2⟩ := i2 o1 rfl
      subst k1
      obtain ⟨j1, j2⟩ := ih2.2 o1 rfl
      refine ⟨fun hs => .over (Nat.ble_eq_true_of_le (by simp only [U.sz]; omega)) (by simp only [U.sz]; omega) (j1 hs), fun o' ho => ?_⟩
      obtain ⟨m1, m2⟩ := j2 o' ho
      exact ⟨by rw [m1], by simp only [U.szs, U.sz]; omega⟩
section
variable {P : Program} {A : Amb} {σ : St} {K : St → Prop}
variable {ops : Array Oper} {rest : List Oper} {t : Nat} {ty : TypeId} {pos : String} {af : Array Edge} {x y : Operand} {sv : SV}
theorem VR_storeF {T : TypeId} {i ver z k off bs : Nat} {o o' : LO} {pre post : List U} {u u' v : U} {fr : List (Nat × SV)} {L L' : List LO} {N : Nat} (hx : (St.mk fr L N).ev x = .ep i ver z k off) (hL : L[i]? = some o) (ha : AsO o z ver (pre ++ u :: post)) (hk : pre.length = k) (hy : (St.mk fr L N).ev y = .d v) (hv : v.scal = true)
    (hT : tyI P T = some (false, 1, bs)) (hu : SU2 v u off u') (hp : PutO o (pre ++ u' :: post) o') (hL' : St1 o' i L L') (h : VO P A ops rest ⟨fr, L', N⟩ K) : VO P A ops (⟨none, .store T x y, ty, pos, af, none⟩ :: rest) ⟨fr, L, N⟩ K :=
  VO_storeF hx hL ha hk hy hv hT hu.su hp hL' h
theorem VR_markcall {T : TypeId} {tl tm tc : Nat} {ty1 ty2 : TypeId} {pos1 pos2 : String} {af1 af2 : Array Edge} {i ver z k off bs z' : Nat} {o o' : LO} {pre post us us' olds news : List U} {kk kk' : Int} {f : Operand} {fi : Nat} {at_ : Array TypeId} {fr : List (Nat × SV)} {L L' : List LO} {N : Nat}
    (hspec : MSpec P fi (.sl z' olds) kk (.sl z' news) kk') (hx : (St.mk fr L N).ev x = .ep i ver z k off) (hL : L[i]? = some o) (ha : AsO o z ver (pre ++ .st us :: post)) (hk : pre.length = k) (hT : tyI P T = some (false, 1, bs)) (hu : WH (.sl z' olds) (.sl z' news) us (some off) us' none)
    (hy : (St.mk fr L N).ev y = .d (.i .i64 kk)) (hf : f = .func fi) (hyl : y ≠ .tmp tl) (hp : PutO o (pre ++ .st us' :: post) o') (hL' : St1 o' i L L') (htl : Nat.blt tl N = true) (htm : Nat.blt tm N = true) (htc : Nat.blt tc N = true) (hne : tl ≠ tm)
    (h : VO P A ops rest ⟨(tc, .d (.i .i64 kk')) :: (tm, .d (.i .i64 kk)) :: (tl, .junk) :: fr, L', N⟩ K) :
    VO P A ops (⟨some tl, .load T x, ty, pos, af, none⟩ :: ⟨some tm, .move y, ty1, pos1, af1, none⟩ :: ⟨some tc, .call { callee := .value f, args := #[.tmp tl, .tmp tm], argTypes := at_ }, ty2, pos2, af2, none⟩ :: rest) ⟨fr, L, N⟩ K :=
  VO_markcall hx hL ha hk hT ((hu.spec (by simp only [U.sz]; omega)).2 _ rfl |>.1 rfl) rfl rfl rfl hy hf hyl hspec hp hL' htl htm htc hne h
end
end Go.Eng
namespace Go.Eng
open Go Go.RowKit
section
variable {P : Program} {A : Amb} {ops : Array Oper} {K : St → Prop} {r : List (Nat × Bool)} {pf : PF} {o : Oper} {fr : List (Nat × SV)} {L L1 L' : List LO} {N i t j : Nat} {sv : SV}
variable {ty : TypeId} {pos : String} {af : Array Edge} {x y : Operand}
end
end Go.Eng
namespace Go.Eng
open Go Go.RowKit
theorem cz_le (n : Nat) : cz n ≤ 64 := by
  unfold cz
  split <;> decide
theorem shz_le (s : Sh) : shz s ≤ 64 := by
  cases s with
  | st n => exact cz_le n
  | _ => simp [shz]
mutual
theorem lf_le : ∀ (u : U) (s : Sh), wt s u → u.lf ≤ 64 * W u + u.sz
  | .i _ _, _, _ => by simp [U.lf, W, U.sz]
  | .b _, _, _ => by simp [U.lf, W, U.sz]
  | .s l, _, _ => by simp only [U.lf, W, U.sz]; omega
  | .st us, s, h => by
    cases s with
    | st n =>
      simp only [wt] at h
      simp only [U.lf, W, U.sz]
      exact lfs_le us _ h
    | _ => exact h.elim
  | .sl z us, s, h => by
    cases s with
    | sl s =>
      simp only [wt] at h
      simp only [U.lf, W, U.sz]
      have := lfa_le us s h.2.2
      omega
    | _ => exact h.elim
theorem lfs_le : ∀ (us : List U) (ss : List Sh), wts ss us → U.lfs us ≤ 64 * Ws us + U.szs us
  | [], _, _ => by simp [U.lfs]
  | u :: us, ss, h => by
    cases ss with
    | nil => exact h.elim
    | cons s ss =>
      simp only [wts] at h
      have h1 := lf_le u s h.1
      have h2 := lfs_le us ss h.2
      simp only [U.lfs, Ws, U.szs]
      omega
theorem lfa_le : ∀ (us : List U) (s : Sh), wta s us → U.lfs us ≤ 64 * Ws us + 64 * us.length
  | [], _, _ => by simp [U.lfs]
  | u :: us, s, h => by
    simp only [wta] at h
    have h1 := lf_le u s h.1
    have h2 := lfa_le us s h.2
    have h3 := wt_sz u s h.1
    have h4 := shz_le s
    simp only [U.lfs, Ws, List.length_cons]
    omega
end
end Go.Eng
namespace Go.Eng
open Go Go.RowKit
section
variable {P : Program} {A : Amb} {ops : Array Oper} {K : St → Prop} {r : List (Nat × Bool)} {pf : PF} {fr : List (Nat × SV)} {L : List LO} {N i t : Nat}
variable {ty : TypeId} {pos : String} {af : Array Edge} {x y : Operand}
/-- A quiet operation by a rule that looks at its operands alone. -/
theorem VY_qr {o : Oper} {sv : SV} (hi : ops[i]? = some o) (hd : o.dst = some t) (hg : o.guard = none) (h : ∀ fr' L', (∀ x ∈ o.op.operands.toList, St.ev ⟨fr', L', N⟩ x = St.ev ⟨fr, L, N⟩ x) → Keep L L' → Quiet P A ⟨fr', L', N⟩ o sv) (ht : Nat.blt t N = true) (hv : VY P A ops K r ((i, L) :: pf) ⟨(t, sv) :: fr, L, N⟩) : VY P A ops K ((i, true) :: r) pf ⟨fr, L, N⟩ := by
  refine ⟨o, sv, hi, ⟨fun d h' => (by rw [hd] at h'; cases h'; exact ht), Keep.refl _, .inl ⟨by unfold Gd; simp only [hg], h⟩⟩, ?_⟩
  rw [hd]
  exact hv
end
end Go.Eng
set_option linter.unusedVariables false
set_option linter.unusedSimpArgs false
namespace Go.Eng
open Go Go.RowKit
section
variable {ρ : Nat → Nat} {S : Nat → Prop} {L L' : List LO} {env env' : List Value} {w : World}
end
/-! ### objects picked out -/
section
variable {ρ : Nat → Nat} {A A' : Amb} {S : Nat → Prop} {L Lc : List LO} {env : List Value} {w : World}
end
/-! ### lists, partly laid anew -/
section
variable {α : Type}
end
end Go.Eng
set_option linter.unusedVariables false
set_option linter.unusedSimpArgs false
namespace Go.Eng
open Go Go.RowKit
section
variable {A : Amb} {S S' : Nat → Prop} {L Lc Lo : List LO} {env envo : List Value} {w w' : World} {js : List Nat}
end
/-! ### the call -/
section
variable {P : Program} {A : Amb} {K : St → Prop} {ops : Array Oper} {rest : List Oper}
variable {t : Nat} {ty : TypeId} {pos : String} {af : Array Edge} {dst : Option Nat} {g : Option (Nat × Bool)}
end
/-! ### a function that is handed objects -/
/-! ### objects picked out of a state -/
end Go.Eng
set_option linter.unusedVariables false
set_option linter.unusedSimpArgs false
namespace Go.Eng
open Go Go.RowKit
class Mix (P : Program) : Prop where
  h : P.follows .mixedOrders = true
theorem V_seqseq {P : Program} {A : Amb} {σ : St} {Q : Exit → St → Prop} {x y z : Code} (h : V P A (.seq x y) σ (thenS (fun s => V P A z s Q) Q)) : V P A (.seq (.seq x y) z) σ Q := V_seq h
/-! ### models -/
def cnd {α : Type} (c : Bool) (x y : α) : α := match c with
  | true => x
  | false => y
def bnd {α β : Type} (o : Option α) (k : α → Option β) : Option β := match o with
  | some x => k x
  | none => none
def lt_ {α β : Type} (x : α) (k : α → β) : β := k x
def gd {α : Type} (c : Prop) [Decidable c] (k : Option α) : Option α := if c then k else none
theorem cnd_t {α : Type} {c : Bool} {x y r : α} (hc : c = true) (h : cnd c x y = r) : x = r := by subst hc; exact h
theorem cnd_f {α : Type} {c : Bool} {x y r : α} (hc : c = false) (h : cnd c x y = r) : y = r := by subst hc; exact h
theorem bnd_s {α β : Type} {o : Option α} {k : α → Option β} {r : β} (h : bnd o k = some r) : ∃ x, o = some x ∧ k x = some r := by
  cases o with
  | none => cases h
  | some x => exact ⟨x, rfl, h⟩
theorem gd_s {α : Type} {c : Prop} [Decidable c] {k : Option α} {r : α} (h : gd c k = some r) : c ∧ k = some r := by
  unfold gd at h
  split at h
  · exact ⟨by assumption, h⟩
  · cases h
theorem gd_eq {α : Type} {c : Prop} [Decidable c] {k : Option α} (hc : c) : gd c k = k := by unfold gd; rw [if_pos hc]
theorem cnd_true {α : Type} {x y : α} : cnd true x y = x := rfl
theorem cnd_false {α : Type} {x y : α} : cnd false x y = y := rfl
/-- An element by a number that may be anything. -/
def at? {α : Type} (l : List α) (i : Int) : Option α := if 0 ≤ i then l[i.toNat]? else none
theorem at_s {α : Type} {l : List α} {i : Int} {x : α} (h : at? l i = some x) : 0 ≤ i ∧ l[i.toNat]? = some x := by
  unfold at? at h
  split at h
  · exact ⟨by assumption, h⟩
  · cases h
theorem at_nat {α : Type} (l : List α) (k : Nat) : at? l (k : Int) = l[k]? := by unfold at?; rw [if_pos (Int.natCast_nonneg k)]; rfl
theorem drop_at {α : Type} {l : List α} {k : Nat} (h : k < l.length) : ∃ x, l[k]? = some x ∧ l.drop k = x :: l.drop (k + 1) :=
  ⟨l[k], List.getElem?_eq_getElem h, List.drop_eq_getElem_cons h⟩
theorem drop_end {α : Type} {l : List α} {k : Nat} (h : l.length ≤ k) : l.drop k = [] := List.drop_eq_nil_of_le h
section
variable {P : Program} {A : Amb} {ops : Array Oper} {K : St → Prop} {Q : Exit → St → Prop} {rest : List Oper} {σ : St} {fr : List (Nat × SV)} {L L' : List LO} {N i t : Nat} {sv : SV} {o : Oper}
variable {ty T : TypeId} {pos : String} {af : Array Edge} {x y : Operand} {g : Option (Nat × Bool)} {dst : Option Nat} {op : Op}
/-! ### quiet operations that look at their operands alone -/
def QR (P : Program) (σ : St) (o : Oper) (sv : SV) : Prop := ∀ A fr' L', (∀ x ∈ o.op.operands.toList, St.ev ⟨fr', L', σ.N⟩ x = σ.ev x) → Keep σ.L L' → Quiet P A ⟨fr', L', σ.N⟩ o sv
theorem QR.q (h : QR P σ o sv) : Quiet P A σ o sv := h A σ.fr σ.L (fun _ _ => rfl) (Keep.refl _)
theorem VO_r (hq : QR P ⟨fr, L, N⟩ ⟨some t, op, ty, pos, af, none⟩ sv) (h : VO P A ops rest ⟨(t, sv) :: fr, L, N⟩ K) (ht : Nat.blt t N = true := by rfl) : VO P A ops (⟨some t, op, ty, pos, af, none⟩ :: rest) ⟨fr, L, N⟩ K := VO_q hq.q ht h
theorem VQ_r (hq : QR P ⟨fr, L, N⟩ ⟨some t, op, ty, pos, af, none⟩ sv) (h : VQ P A ops rest ⟨(t, sv) :: fr, L, N⟩ K) (ht : Nat.blt t N = true := by rfl) : VQ P A ops (⟨some t, op, ty, pos, af, none⟩ :: rest) ⟨fr, L, N⟩ K := VQ_q hq.q ht h
theorem VY_r {r : List (Nat × Bool)} {pf : PF} (hq : QR P ⟨fr, L, N⟩ ⟨some t, op, ty, pos, af, none⟩ sv) (hv : VY P A ops K r ((i, L) :: pf) ⟨(t, sv) :: fr, L, N⟩) (hi : ops[i]? = some ⟨some t, op, ty, pos, af, none⟩ := by rfl) (ht : Nat.blt t N = true := by rfl) : VY P A ops K ((i, true) :: r) pf ⟨fr, L, N⟩ :=
  VY_qr hi rfl rfl (fun fr' L' he hk => hq A fr' L' he hk) ht hv
theorem VO_k (hq : Quiet P A ⟨fr, L, N⟩ ⟨some t, op, ty, pos, af, none⟩ sv) (h : VO P A ops rest ⟨(t, sv) :: fr, L, N⟩ K) (ht : Nat.blt t N = true := by rfl) : VO P A ops (⟨some t, op, ty, pos, af, none⟩ :: rest) ⟨fr, L, N⟩ K := VO_q hq ht h
/-- A guarded operation that runs, laid bare. -/
theorem VO_b {j tj : Nat} {want : Bool} {o' : Oper} (h : VO P A ops (⟨dst, op, ty, pos, af, none⟩ :: rest) ⟨fr, L, N⟩ K) (hj : ops[j]? = some o' := by rfl) (hdst : o'.dst = some tj := by rfl) (htj : Nat.blt tj N = true := by rfl) (hb : look fr tj = .d (.b want) := by rfl) :
    VO P A ops (⟨dst, op, ty, pos, af, some (j, want)⟩ :: rest) ⟨fr, L, N⟩ K := VO_bare hj hdst htj hb h
section
variable {e z bs k : Nat} {gg : Bool} {kd : IntKind} {us : List U} {u : U}
theorem QR_ixn [TE P T e] [TI P e gg z bs] (k : Nat) (hu : us[k]? = some u) (hx : σ.ev x = .d (.sl z us) := by rfl) (hy : σ.ev y = .d (.i kd (k : Int)) := by rfl) : QR P σ ⟨dst, .indexAddr T x y, ty, pos, af, g⟩ (.dp u) :=
  fun A fr' L' he _ => Q_index (by rw [he x (by simp [Op.operands])]; exact hx) (by rw [he y (by simp [Op.operands])]; exact hy) TE.h TI.h (Int.natCast_nonneg k) hu
theorem QR_ixi [TE P T e] [TI P e gg z bs] {n : Int} (h0 : 0 ≤ n) (hu : us[n.toNat]? = some u) (hx : σ.ev x = .d (.sl z us) := by rfl) (hy : σ.ev y = .d (.i kd n) := by rfl) : QR P σ ⟨dst, .indexAddr T x y, ty, pos, af, g⟩ (.dp u) :=
  fun A fr' L' he _ => Q_index (by rw [he x (by simp [Op.operands])]; exact hx) (by rw [he y (by simp [Op.operands])]; exact hy) TE.h TI.h h0 hu
end
/-- Arithmetic that wraps. -/
theorem QR_ar {b : BinOp} {T' : TypeId} {k : IntKind} {m n r : Int} (h : arI b k m n = some r := by rfl) (hx : σ.ev x = .d (.i k m) := by rfl) (hy : σ.ev y = .d (.i k n) := by rfl) : QR P σ ⟨dst, .binOp b T x y T', ty, pos, af, g⟩ (.d (.i k r)) :=
  fun A fr' L' he _ => Q_ar (by rw [he x (by simp [Op.operands])]; exact hx) (by rw [he y (by simp [Op.operands])]; exact hy) h
/-- Counting on by one. -/
theorem QR_inc {T' : TypeId} (k : Nat) (hk : k < 9223372036854775807) (hx : σ.ev x = .d (.i .i64 (k : Int)) := by rfl) (hy : σ.ev y = .d (.i .i64 1) := by rfl) : QR P σ ⟨dst, .binOp .add T x y T', ty, pos, af, g⟩ (.d (.i .i64 ((k + 1 : Nat) : Int))) :=
  fun A fr' L' he _ => by
    have := Q_add (P := P) (A := A) (dst := dst) (ty := ty) (pos := pos) (af := af) (g := g) (T := T) (T' := T') (σ := ⟨fr', L', σ.N⟩) (m := (k : Int)) (n := 1) (by rw [he x (by simp [Op.operands])]; exact hx) (by rw [he y (by simp [Op.operands])]; exact hy) (by omega) (by omega)
    simpa using this
/-- A closure is made. -/
theorem QR_fn {f : Nat} {cs : Array Operand} {svs : List SV} (h : NfL σ cs.toList svs := by repeat constructor) : QR P σ ⟨dst, .makeFunc (.func f) #[] cs, ty, pos, af, g⟩ (.fn f svs) :=
  fun A fr' L' he _ => Q_mkfn (by
    have key : ∀ (l : List Operand) (svs : List SV), (∀ x ∈ l, St.ev ⟨fr', L', σ.N⟩ x = σ.ev x) → NfL σ l svs → NfL ⟨fr', L', σ.N⟩ l svs := by
      intro l svs hl h
      induction h with
      | nil => exact .nil
      | cons h1 h2 ih => exact .cons (by rw [hl _ (by simp)]; exact h1) (ih fun x hx => hl x (by simp [hx]))
    exact key _ _ (fun x hx => he x (by simpa [Op.operands] using hx)) h)
/-- A call of a pure function, its arguments plain data. -/
theorem QR_call {f : Operand} {fi : Nat} {caps : List SV} {args : Array Operand} {at_ : Array TypeId} {dargs : List SV} {us : List U}
    (hspec : SpecP P fi dargs us) (hf : σ.ev f = .fn fi caps := by rfl) (hargs : ∀ L', VAs L' (args.toList.map σ.ev ++ caps) dargs := by (intro L'; (repeat (first | exact trivial | exact rfl | exact ⟨_, rfl⟩ | exact (‹∀ n, SV.lts n _ = true› _) | refine And.intro ?_ ?_)); first | done | fail)) :
    QR P σ ⟨dst, .call { callee := .value f, args := args, argTypes := at_ }, ty, pos, af, g⟩ (mkR us) :=
  fun A fr' L' he _ => Q_call (by rw [he f (by simp [Op.operands, Call.operands])]; exact hf) hspec (by
    have : args.toList.map (St.ev ⟨fr', L', σ.N⟩) = args.toList.map σ.ev := List.map_congr_left fun x hx => he x (by simp only [Op.operands, Call.operands]; simp; exact .inr (by simpa using hx))
    rw [this]
    exact hargs L')
/-- A slot that holds a bool: both ways. -/
theorem VO_case {c : Bool} (tj : Nat) (ht : c = true → VO P A ops rest ⟨(tj, .d (.b true)) :: fr, L, N⟩ K) (hf : c = false → VO P A ops rest ⟨(tj, .d (.b false)) :: fr, L, N⟩ K) (hb : look fr tj = .d (.b c) := by rfl) : VO P A ops rest ⟨fr, L, N⟩ K := by
  intro R hR a w hr
  have key : ∀ c', c = c' → Realz A ⟨(tj, .d (.b c')) :: fr, L, N⟩ a w := by
    intro c' hc
    obtain ⟨S, env, hH, hfr, hN, hd⟩ := hr
    refine ⟨S, env, hH, fun t => ?_, hN, hd⟩
    simp only [look]
    by_cases h : t = tj
    · subst h
      rw [if_pos rfl, ← hc, ← hb]
      exact hfr t
    · rw [if_neg h]
      exact hfr t
  cases hc : c with
  | true => exact ht hc R hR a w (key true hc)
  | false => exact hf hc R hR a w (key false hc)
theorem V_ct {c : Operand} {x y : Code} (h : V P A x σ Q) (hc : σ.ev c = .d (.b true) := by rfl) : V P A (.cond c x y) σ Q := V_cond hc (fun _ => h) (fun h => by cases h)
theorem V_cf {c : Operand} {x y : Code} (h : V P A y σ Q) (hc : σ.ev c = .d (.b false) := by rfl) : V P A (.cond c x y) σ Q := V_cond hc (fun h => by cases h) (fun _ => h)
theorem V_cb {c : Operand} {x y : Code} {t : Bool} (ht : t = true → V P A x σ Q) (hf : t = false → V P A y σ Q) (hc : σ.ev c = .d (.b t) := by rfl) : V P A (.cond c x y) σ Q := V_cond hc ht hf
end
end Go.Eng
