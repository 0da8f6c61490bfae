/- The engine, part 27: the rules for owned arrays once more, their lists of objects found by 'constructor'. -/
import Derived.Test.YtopgfacbgbmloaaEng26
namespace Go.Eng
open Go Go.RowKit

inductive KR : List Nat → List LO → List LO → Prop
  | nil {L : List LO} : KR [] L L
  | cons {j : Nat} {js : List Nat} {o : LO} {L L1 L' : List LO} (h : L[j]? = some o) (hs : St1 (.dead (o.ver + 1)) j L L1) (r : KR js L1 L') : KR (j :: js) L L'
theorem KR.spec {js : List Nat} {L L' : List LO} (h : KR js L L') (hn : js.Nodup) : kill js 0 L = L' := by
  have key : ∀ {js : List Nat} {L L' : List LO}, KR js L L' → js.Nodup → L'.length = L.length ∧ ∀ i, L'[i]? = L[i]?.map (fun o => if js.contains i then .dead (o.ver + 1) else o) := by
    intro js L L' h
    induction h with
    | nil => intro _; exact ⟨rfl, fun i => by cases h : (_ : List LO)[i]? <;> simp⟩
    | @cons j js o L L1 L' h hs r ih =>
      intro hn
      have h1 := hs.spec
      subst h1
      obtain ⟨n1, n2⟩ := List.nodup_cons.1 hn
      obtain ⟨i1, i2⟩ := ih n2
      refine ⟨by rw [i1, List.length_set], fun i => ?_⟩
      rw [i2 i]
      by_cases hij : j = i
      · subst hij
        have hlt := (List.getElem?_eq_some_iff.1 h).1
        have hc : js.contains j = false := by simpa using n1
        rw [List.getElem?_set_self hlt, h]
        simp only [Option.map_some, hc, List.contains_cons, beq_self_eq_true, Bool.true_or, if_true, Bool.false_eq_true, if_false]
      · rw [List.getElem?_set_ne hij]
        have : (j :: js).contains i = js.contains i := by
          have : (i == j) = false := by simpa using fun e => hij e.symm
          simp only [List.contains_cons, this, Bool.false_or]
        rw [this]
  obtain ⟨k1, k2⟩ := key h hn
  apply List.ext_getElem?
  intro i
  rw [kill_get, Nat.zero_add, k2 i]

section
variable {P : Program} {A : Amb} {σ : St} {K : St → Prop}
variable {ops : Array Oper} {rest : List Oper} {t : Nat} {ty : TypeId} {pos : String} {af : Array Edge} {x y : Operand} {sv : SV}
theorem VR_store {T : TypeId} {gg : Bool} {i ver z k e bs : Nat} {es : List U} {u : U} {js : List Nat} {fr : List (Nat × SV)} {L L1 L' : List LO} {N : Nat} (hx : (St.mk fr L N).ev x = .ep i ver z k 0) (hL : L[i]? = some (.own e z ver es)) (hy : OV L ((St.mk fr L N).ev y) u js)
    (hjs : (decide js.Nodup && !js.contains i) = true) (hT : tyI P T = some (gg, z, bs)) (hu : u.sz = z) (hk : k < es.length) (hk1 : KR js L L1) (hL' : St1 (.own e z ver (es.set k u)) i L1 L')
    (h : VO P A ops rest ⟨fr, L', N⟩ K) : VO P A ops (⟨none, .store T x y, ty, pos, af, none⟩ :: rest) ⟨fr, L, N⟩ K := by
  have hjs' := hjs
  simp only [Bool.and_eq_true, decide_eq_true_eq] at hjs'
  exact VO_storeO hx hL hy hjs hT hu hk (by rw [hk1.spec hjs'.1]; exact hL'.spec) h
theorem VR_make {T e : TypeId} {gg : Bool} {z bs : Nat} {zs : List Value} {zu : U} {k k' : IntKind} {l c : Int} {fr : List (Nat × SV)} {L L' : List LO} {N i : Nat} (hx : (St.mk fr L N).ev x = .d (.i k l)) (hy : (St.mk fr L N).ev y = .d (.i k' c))
    (hT : tyE P T = some e) (he : tyI P e = some (gg, z, bs)) (hZ : tyZ P e = some zs) (hz : (Nat.blt 0 z && zs.length == z) = true) (hzu : ZeroT zu zs)
    (h0 : 0 ≤ l) (hlc : l ≤ c) (hc : c ≤ big) (hbytes : (bs : Int) * c ≤ 281474976710656) (ht : Nat.blt t N = true) (hL' : Sn (.own e z 0 (List.replicate l.toNat zu)) L i L')
    (h : VO P A ops rest ⟨(t, .sl i 0) :: fr, L', N⟩ K) : VO P A ops (⟨some t, .makeSlice T x y, ty, pos, af, none⟩ :: rest) ⟨fr, L, N⟩ K := VO_makeO hx hy hT he hZ hz hzu h0 hlc hc hbytes ht hL'.spec.1 hL' h
theorem VR_append {T e T' : TypeId} {gg : Bool} {z bs i ver : Nat} {zs : List Value} {es us : List U} {js : List Nat} {fr : List (Nat × SV)} {L L1 L' : List LO} {N : Nat} (hx : (St.mk fr L N).ev x = .sl i ver) (hL : L[i]? = some (.own e z ver es)) (hs : SrcO L z ((St.mk fr L N).ev y) us js)
    (hjs : (decide js.Nodup && !js.contains i) = true) (hT : tyE P T = some e) (he : tyI P e = some (gg, z, bs)) (hZ : tyZ P e = some zs) (hz : (Nat.blt 0 z && zs.length == z) = true)
    (hbig : es.length + us.length ≤ big) (hbytes : (es.length + us.length) * bs ≤ 140737488355328) (ht : Nat.blt t N = true) (hk1 : KR js L L1) (hL' : St1 (.own e z (ver + 1) (es ++ us)) i L1 L')
    (h : VO P A ops rest ⟨(t, .sl i (ver + 1)) :: fr, L', N⟩ K) : VO P A ops (⟨some t, .call { callee := .builtin .append, args := #[x, y], argTypes := #[T, T] }, T', pos, af, none⟩ :: rest) ⟨fr, L, N⟩ K := by
  simp only [Bool.and_eq_true, decide_eq_true_eq] at hjs
  exact VO_appendO hx hL hs hjs.2 hT he hZ hz hbig hbytes ht (by rw [hk1.spec hjs.1]; exact hL'.spec) h
theorem VR_append_nil {T e T' : TypeId} {gg : Bool} {z bs i : Nat} {zs : List Value} {us : List U} {js : List Nat} {fr : List (Nat × SV)} {L L1 L' : List LO} {N : Nat} (hx : (St.mk fr L N).ev x = .nilsl) (hs : SrcO L z ((St.mk fr L N).ev y) us js) (hjs : decide js.Nodup = true)
    (hT : tyE P T = some e) (he : tyI P e = some (gg, z, bs)) (hZ : tyZ P e = some zs) (hz : (Nat.blt 0 z && zs.length == z) = true)
    (hbig : us.length ≤ big) (hbytes : us.length * bs ≤ 140737488355328) (ht : Nat.blt t N = true) (hk1 : KR js L L1) (hL' : Sn (.own e z 0 us) L1 i L')
    (h : VO P A ops rest ⟨(t, .sl i 0) :: fr, L', N⟩ K) : VO P A ops (⟨some t, .call { callee := .builtin .append, args := #[x, y], argTypes := #[T, T] }, T', pos, af, none⟩ :: rest) ⟨fr, L, N⟩ K := by
  have hk := hk1.spec (of_decide_eq_true hjs)
  obtain ⟨h1, h2⟩ := hL'.spec
  exact VO_appendO_nil hx hs hT he hZ hz hbig hbytes ht (by rw [← h1, ← hk, kill_len]) (by rw [hk]; exact h2) h
theorem VR_slit1 {T e : TypeId} {gg : Bool} {z bs i : Nat} {zs : List Value} {u : U} {js : List Nat} {fr : List (Nat × SV)} {L L1 L' : List LO} {N : Nat} (hy : OV L ((St.mk fr L N).ev x) u js) (hjs : decide js.Nodup = true) (hT : tyE P T = some e) (he : tyI P e = some (gg, z, bs)) (hZ : tyZ P e = some zs)
    (hz : (Nat.blt 0 z && Nat.blt z 16777216 && zs.length == z) = true) (hu : u.sz = z) (ht : Nat.blt t N = true) (hk1 : KR js L L1) (hL' : Sn (.own e z 0 [u]) L1 i L')
    (h : VO P A ops rest ⟨(t, .sl i 0) :: fr, L', N⟩ K) : VO P A ops (⟨some t, .buildSlice T 1 #[(0, x)], ty, pos, af, none⟩ :: rest) ⟨fr, L, N⟩ K := by
  have hk := hk1.spec (of_decide_eq_true hjs)
  obtain ⟨h1, h2⟩ := hL'.spec
  exact VO_slit1 hy hjs hT he hZ hz hu ht (by rw [← h1, ← hk, kill_len]) (by rw [hk]; exact h2) h
end
theorem tI : ∀ w, Tr w (.i .i64 0) [.int .i64 0] ∧ (U.i .i64 0).fp w [.int .i64 0] = [] := fun w => ⟨by simp [Tr], rfl⟩
theorem tB : ∀ w, Tr w (.b false) [.bool false] ∧ (U.b false).fp w [.bool false] = [] := fun w => ⟨by simp [Tr], rfl⟩
theorem tS : ∀ w, Tr w (.s []) [.string ⟨#[]⟩] ∧ (U.s []).fp w [.string ⟨#[]⟩] = [] := fun w => ⟨by simp [Tr, big], rfl⟩
theorem tL (z : Nat) : ∀ w, Tr w (.sl z []) [.slice none 0 0] ∧ (U.sl z []).fp w [.slice none 0 0] = [] := fun w => Tr.nil w z
/-- Zero values, leaf by leaf. -/
inductive ZL : List U → List Value → Prop
  | nil : ZL [] []
  | i {us : List U} {vs : List Value} (h : ZL us vs) : ZL (.i .i64 0 :: us) (.int .i64 0 :: vs)
  | b {us : List U} {vs : List Value} (h : ZL us vs) : ZL (.b false :: us) (.bool false :: vs)
  | s {us : List U} {vs : List Value} (h : ZL us vs) : ZL (.s [] :: us) (.string ⟨#[]⟩ :: vs)
  | l {z : Nat} {us : List U} {vs : List Value} (h : ZL us vs) : ZL (.sl z [] :: us) (.slice none 0 0 :: vs)
theorem ZL.r {us : List U} {vs : List Value} (h : ZL us vs) (w : World) : All2 (fun u c => Tr w u [c]) us vs ∧ fpl w us vs = [] := by
  induction h with
  | nil => exact ⟨trivial, rfl⟩
  | i h ih => exact ⟨⟨(tI w).1, ih.1⟩, by simp only [fpl, (tI w).2, ih.2, List.nil_append]⟩
  | b h ih => exact ⟨⟨(tB w).1, ih.1⟩, by simp only [fpl, (tB w).2, ih.2, List.nil_append]⟩
  | s h ih => exact ⟨⟨(tS w).1, ih.1⟩, by simp only [fpl, (tS w).2, ih.2, List.nil_append]⟩
  | l h ih => exact ⟨⟨(tL _ w).1, ih.1⟩, by simp only [fpl, (tL _ w).2, ih.2, List.nil_append]⟩
theorem zeroT {u : U} {fl : List U} {vs : List Value} (hl : Lv u fl) (h : ZL fl vs) : ZeroT u vs := fun w => by
  have := hl.eq
  subst this
  obtain ⟨h1, h2⟩ := h.r w
  exact ⟨Tr.of_leafs _ _ h1, by rw [fp_flat _ _ (by rw [← h1.length, U.flat_len]), h2]⟩
/-- What a copy holds after k rounds. -/
def fillU (us : List U) (zu : U) (k : Nat) : List U := us.take k ++ List.replicate (us.length - k) zu
theorem fillU_zero (us : List U) (zu : U) : List.replicate us.length zu = fillU us zu 0 := by simp [fillU]
theorem fillU_all (us : List U) (zu : U) : fillU us zu us.length = us := by simp [fillU]
theorem fillU_length {us : List U} {zu : U} {k : Nat} (h : k ≤ us.length) : (fillU us zu k).length = us.length := by simp [fillU]; omega
theorem fillU_set {us : List U} {zu u : U} {k : Nat} (h : us[k]? = some u) : (fillU us zu k).set k u = fillU us zu (k + 1) := by
  obtain ⟨hk, rfl⟩ := List.getElem?_eq_some_iff.1 h
  unfold fillU
  have hl : (us.take k).length = k := by simp; omega
  rw [List.set_append_right _ _ (by omega), hl, Nat.sub_self]
  rw [show us.length - k = (us.length - (k + 1)) + 1 by omega, List.replicate_succ, List.set_cons_zero, List.take_succ_eq_append_getElem hk, List.append_assoc]
  rfl
end Go.Eng
namespace Go.Eng
open Go Go.RowKit

inductive WK (v : U) : List U → Option Nat → List U → Option Nat → Prop
  | done {us : List U} : WK v us none us none
  | nil {o : Nat} : WK v [] (some o) [] (some o)
  | hitI {k : IntKind} {n : Int} {us : List U} : WK v (.i k n :: us) (some 0) (v :: us) none
  | hitS {l : List UInt8} {us : List U} : WK v (.s l :: us) (some 0) (v :: us) none
  | hitB {x : Bool} {us : List U} : WK v (.b x :: us) (some 0) (v :: us) none
  | skI {k : IntKind} {n : Int} {us r : List U} {o : Nat} {s : Option Nat} (h : WK v us (some o) r s) : WK v (.i k n :: us) (some (o + 1)) (.i k n :: r) s
  | skS {l : List UInt8} {us r : List U} {o : Nat} {s : Option Nat} (h : WK v us (some o) r s) : WK v (.s l :: us) (some (o + 1)) (.s l :: r) s
  | skB {x : Bool} {us r : List U} {o : Nat} {s : Option Nat} (h : WK v us (some o) r s) : WK v (.b x :: us) (some (o + 1)) (.b x :: r) s
  | skL {z : Nat} {xs us r : List U} {o : Nat} {s : Option Nat} (h : WK v us (some o) r s) : WK v (.sl z xs :: us) (some (o + 1)) (.sl z xs :: r) s
  | st {ws ws' us us' : List U} {o : Nat} {s1 s2 : Option Nat} (h : WK v ws (some o) ws' s1) (h2 : WK v us s1 us' s2) : WK v (.st ws :: us) (some o) (.st ws' :: us') s2
theorem SL.lt {v : U} {us us' : List U} {o : Nat} (h : SL v us o us') : o < U.szs us := by
  induction h with
  | hitI => simp only [U.szs, U.sz]; omega
  | hitS => simp only [U.szs, U.sz]; omega
  | hitB => simp only [U.szs, U.sz]; omega
  | skI h ih => simp only [U.szs, U.sz]; omega
  | skS h ih => simp only [U.szs, U.sz]; omega
  | skB h ih => simp only [U.szs, U.sz]; omega
  | skL h ih => simp only [U.szs, U.sz]; omega
  | into hlt h ih => simp only [U.szs, U.sz]; omega
  | over hlt ho h ih => have := Nat.le_of_ble_eq_true hlt; simp only [U.szs, U.sz]; omega
theorem WK.spec {v : U} {us us' : List U} {s s' : Option Nat} (h : WK v us s us' s') : (s = none → us' = us ∧ s' = none) ∧ ∀ o, s = some o → (s' = none → SL v us o us') ∧ ∀ o', s' = some o' → us' = us ∧ o = U.szs us + o' := by
  induction h with
  | done => exact ⟨fun _ => ⟨rfl, rfl⟩, fun o h => by cases h⟩
  | nil => exact ⟨fun h => (by cases h), fun o h => by cases h; exact ⟨fun h => (by cases h), fun o' h => by cases h; exact ⟨rfl, by simp [U.szs]⟩⟩⟩
  | hitI => exact ⟨fun h => (by cases h), fun o h => by cases h; exact ⟨fun _ => .hitI, fun o' h => by cases h⟩⟩
  | hitS => exact ⟨fun h => (by cases h), fun o h => by cases h; exact ⟨fun _ => .hitS, fun o' h => by cases h⟩⟩
  | hitB => exact ⟨fun h => (by cases h), fun o h => by cases h; exact ⟨fun _ => .hitB, fun o' h => by cases h⟩⟩
  | skI h ih => exact ⟨fun h => (by cases h), fun o h => by cases h; exact ⟨fun hs => .skI ((ih.2 _ rfl).1 hs), fun o' ho => by obtain ⟨h1, h2⟩ := (ih.2 _ rfl).2 o' ho; exact ⟨by rw [h1], by simp only [U.szs, U.sz]; omega⟩⟩⟩
  | skS h ih => exact ⟨fun h => (by cases h), fun o h => by cases h; exact ⟨fun hs => .skS ((ih.2 _ rfl).1 hs), fun o' ho => by obtain ⟨h1, h2⟩ := (ih.2 _ rfl).2 o' ho; exact ⟨by rw [h1], by simp only [U.szs, U.sz]; omega⟩⟩⟩
  | skB h ih => exact ⟨fun h => (by cases h), fun o h => by cases h; exact ⟨fun hs => .skB ((ih.2 _ rfl).1 hs), fun o' ho => by obtain ⟨h1, h2⟩ := (ih.2 _ rfl).2 o' ho; exact ⟨by rw [h1], by simp only [U.szs, U.sz]; omega⟩⟩⟩
  | skL h ih => exact ⟨fun h => (by cases h), fun o h => by cases h; exact ⟨fun hs => .skL ((ih.2 _ rfl).1 hs), fun o' ho => by obtain ⟨h1, h2⟩ := (ih.2 _ rfl).2 o' ho; exact ⟨by rw [h1], by simp only [U.szs, U.sz]; omega⟩⟩⟩
  | @st ws ws' us us' o s1 s2 h h2 ih ih2 =>
    refine ⟨fun h => (by cases h), fun o0 h0 => ?_⟩
    cases h0
    obtain ⟨i1, i2⟩ := ih.2 o rfl
    cases s1 with
    | none =>
      obtain ⟨j1, j2⟩ := ih2.1 rfl
      subst j1; subst j2
      have := i1 rfl
      exact ⟨fun _ => .into (by simpa [Nat.blt_eq] using this.lt) this, fun o' h => by cases h⟩
    | some o1 =>
      obtain ⟨k1, k2⟩ := i2 o1 rfl
      subst k1
      obtain ⟨j1, j2⟩ := ih2.2 o1 rfl
      refine ⟨fun hs => .over (Nat.ble_eq_true_of_le (by omega)) (by omega) (j1 hs), fun o' ho => ?_⟩
      obtain ⟨m1, m2⟩ := j2 o' ho
      exact ⟨by rw [m1], by simp only [U.szs, U.sz]; omega⟩
inductive SU2 (v : U) : U → Nat → U → Prop
  | st {us us' : List U} {o : Nat} (h : WK v us (some o) us' none) : SU2 v (.st us) o (.st us')
  | i {k : IntKind} {n : Int} : SU2 v (.i k n) 0 v
  | s {l : List UInt8} : SU2 v (.s l) 0 v
  | b {x : Bool} : SU2 v (.b x) 0 v
theorem SU2.su {v u u' : U} {o : Nat} (h : SU2 v u o u') : SU v u o u' := by
  cases h with
  | st h => exact .st ((h.spec.2 _ rfl).1 rfl)
  | i => exact .one rfl
  | s => exact .one rfl
  | b => exact .one rfl

inductive WH (old new : U) : List U → Option Nat → List U → Option Nat → Prop
  | done {us : List U} : WH old new us none us none
  | nil {o : Nat} : WH old new [] (some o) [] (some o)
  | hit {us : List U} : WH old new (old :: us) (some 0) (new :: us) none
  | skI {k : IntKind} {n : Int} {us r : List U} {o : Nat} {s : Option Nat} (h : WH old new us (some o) r s) : WH old new (.i k n :: us) (some (o + 1)) (.i k n :: r) s
  | skS {l : List UInt8} {us r : List U} {o : Nat} {s : Option Nat} (h : WH old new us (some o) r s) : WH old new (.s l :: us) (some (o + 1)) (.s l :: r) s
  | skB {x : Bool} {us r : List U} {o : Nat} {s : Option Nat} (h : WH old new us (some o) r s) : WH old new (.b x :: us) (some (o + 1)) (.b x :: r) s
  | skL {z : Nat} {xs us r : List U} {o : Nat} {s : Option Nat} (h : WH old new us (some o) r s) : WH old new (.sl z xs :: us) (some (o + 1)) (.sl z xs :: r) s
  | st {ws ws' us us' : List U} {o : Nat} {s1 s2 : Option Nat} (h : WH old new ws (some o) ws' s1) (h2 : WH old new us s1 us' s2) : WH old new (.st ws :: us) (some o) (.st ws' :: us') s2
theorem HS.lt {old new : U} (h1 : 0 < old.sz) {us us' : List U} {o : Nat} (h : HS old new us o us') : o < U.szs us := by
  induction h with
  | hit => simp only [U.szs]; omega
  | into hlt h ih => simp only [U.szs, U.sz]; omega
  | over hlt ho h ih => have := Nat.le_of_ble_eq_true hlt; simp only [U.szs]; omega
theorem WH.spec {old new : U} (hold : 0 < old.sz) {us us' : List U} {s s' : Option Nat} (h : WH old new us s us' s') : (s = none → us' = us ∧ s' = none) ∧ ∀ o, s = some o → (s' = none → HS old new us o us') ∧ ∀ o', s' = some o' → us' = us ∧ o = U.szs us + o' := by
  have sk : ∀ (u0 : U) (us r : List U) (o : Nat) (s : Option Nat), u0.sz = 1 → ((s = none → HS old new us o r) ∧ ∀ o', s = some o' → r = us ∧ o = U.szs us + o') →
      (s = none → HS old new (u0 :: us) (o + 1) (u0 :: r)) ∧ ∀ o', s = some o' → u0 :: r = u0 :: us ∧ o + 1 = U.szs (u0 :: us) + o' := by
    intro u0 us r o s h1 ih
    refine ⟨fun hs => .over (by rw [h1]; exact Nat.ble_eq_true_of_le (by omega)) (by rw [h1]; rfl) (ih.1 hs), fun o' ho => ?_⟩
    obtain ⟨h2, h3⟩ := ih.2 o' ho
    exact ⟨by rw [h2], by simp only [U.szs, h1]; omega⟩
  induction h with
  | done => exact ⟨fun _ => ⟨rfl, rfl⟩, fun o h => by cases h⟩
  | nil => exact ⟨fun h => (by cases h), fun o h => by cases h; exact ⟨fun h => (by cases h), fun o' h => by cases h; exact ⟨rfl, by simp [U.szs]⟩⟩⟩
  | hit => exact ⟨fun h => (by cases h), fun o h => by cases h; exact ⟨fun _ => .hit, fun o' h => by cases h⟩⟩
  | skI h ih => exact ⟨fun h => (by cases h), fun o h => by cases h; exact sk _ _ _ _ _ rfl (ih.2 _ rfl)⟩
  | skS h ih => exact ⟨fun h => (by cases h), fun o h => by cases h; exact sk _ _ _ _ _ rfl (ih.2 _ rfl)⟩
  | skB h ih => exact ⟨fun h => (by cases h), fun o h => by cases h; exact sk _ _ _ _ _ rfl (ih.2 _ rfl)⟩
  | skL h ih => exact ⟨fun h => (by cases h), fun o h => by cases h; exact sk _ _ _ _ _ rfl (ih.2 _ rfl)⟩
  | @st ws ws' us us' o s1 s2 h h2 ih ih2 =>
    refine ⟨fun h => (by cases h), fun o0 h0 => ?_⟩
    cases h0
    obtain ⟨i1, i2⟩ := ih.2 o rfl
    cases s1 with
    | none =>
      obtain ⟨j1, j2⟩ := ih2.1 rfl
      subst j1; subst j2
      have := i1 rfl
      exact ⟨fun _ => .into (by simpa [Nat.blt_eq] using this.lt hold) this, fun o' h => by cases h⟩
    | some o1 =>
      obtain ⟨k1, k2⟩ := i2 o1 rfl
      subst k1
      obtain ⟨j1, j2⟩ := ih2.2 o1 rfl
      refine ⟨fun hs => .over (Nat.ble_eq_true_of_le (by simp only [U.sz]; omega)) (by simp only [U.sz]; omega) (j1 hs), fun o' ho => ?_⟩
      obtain ⟨m1, m2⟩ := j2 o' ho
      exact ⟨by rw [m1], by simp only [U.szs, U.sz]; omega⟩

section
variable {P : Program} {A : Amb} {σ : St} {K : St → Prop}
variable {ops : Array Oper} {rest : List Oper} {t : Nat} {ty : TypeId} {pos : String} {af : Array Edge} {x y : Operand} {sv : SV}
theorem VR_storeF {T : TypeId} {i ver z k off bs : Nat} {o o' : LO} {pre post : List U} {u u' v : U} {fr : List (Nat × SV)} {L L' : List LO} {N : Nat} (hx : (St.mk fr L N).ev x = .ep i ver z k off) (hL : L[i]? = some o) (ha : AsO o z ver (pre ++ u :: post)) (hk : pre.length = k) (hy : (St.mk fr L N).ev y = .d v) (hv : v.scal = true)
    (hT : tyI P T = some (false, 1, bs)) (hu : SU2 v u off u') (hp : PutO o (pre ++ u' :: post) o') (hL' : St1 o' i L L') (h : VO P A ops rest ⟨fr, L', N⟩ K) : VO P A ops (⟨none, .store T x y, ty, pos, af, none⟩ :: rest) ⟨fr, L, N⟩ K :=
  VO_storeF hx hL ha hk hy hv hT hu.su hp hL' h
theorem VR_markcall {T : TypeId} {tl tm tc : Nat} {ty1 ty2 : TypeId} {pos1 pos2 : String} {af1 af2 : Array Edge} {i ver z k off bs z' : Nat} {o o' : LO} {pre post us us' olds news : List U} {kk kk' : Int} {f : Operand} {fi : Nat} {at_ : Array TypeId} {fr : List (Nat × SV)} {L L' : List LO} {N : Nat}
    (hspec : MSpec P fi (.sl z' olds) kk (.sl z' news) kk') (hx : (St.mk fr L N).ev x = .ep i ver z k off) (hL : L[i]? = some o) (ha : AsO o z ver (pre ++ .st us :: post)) (hk : pre.length = k) (hT : tyI P T = some (false, 1, bs)) (hu : WH (.sl z' olds) (.sl z' news) us (some off) us' none)
    (hy : (St.mk fr L N).ev y = .d (.i .i64 kk)) (hf : f = .func fi) (hyl : y ≠ .tmp tl) (hp : PutO o (pre ++ .st us' :: post) o') (hL' : St1 o' i L L') (htl : Nat.blt tl N = true) (htm : Nat.blt tm N = true) (htc : Nat.blt tc N = true) (hne : tl ≠ tm)
    (h : VO P A ops rest ⟨(tc, .d (.i .i64 kk')) :: (tm, .d (.i .i64 kk)) :: (tl, .junk) :: fr, L', N⟩ K) :
    VO P A ops (⟨some tl, .load T x, ty, pos, af, none⟩ :: ⟨some tm, .move y, ty1, pos1, af1, none⟩ :: ⟨some tc, .call { callee := .value f, args := #[.tmp tl, .tmp tm], argTypes := at_ }, ty2, pos2, af2, none⟩ :: rest) ⟨fr, L, N⟩ K :=
  VO_markcall hx hL ha hk hT ((hu.spec (by simp only [U.sz]; omega)).2 _ rfl |>.1 rfl) rfl rfl rfl hy hf hyl hspec hp hL' htl htm htc hne h
end
end Go.Eng
namespace Go.Eng
open Go Go.RowKit
section
variable {P : Program} {A : Amb} {ops : Array Oper} {K : St → Prop} {r : List (Nat × Bool)} {pf : PF} {o : Oper} {fr : List (Nat × SV)} {L L1 L' : List LO} {N i t j : Nat} {sv : SV}
variable {ty : TypeId} {pos : String} {af : Array Edge} {x y : Operand}
theorem VY_hst (hi : ops[i]? = some o) (h : HSt P A ops ⟨fr, L, N⟩ o sv L') (hp : PfOk ops i L' pf) (hv : VY P A ops K r pf (St.setO ⟨fr, L', N⟩ o.dst sv)) : VY P A ops K ((i, false) :: r) pf ⟨fr, L, N⟩ := VY_h0 ⟨hi, h, hp.ok, hv⟩
theorem HSt_append {T e T' : TypeId} {gg : Bool} {z bs ver : Nat} {zs : List Value} {es us : List U} {js : List Nat} (hx : (St.mk fr L N).ev x = .sl i ver) (hL : L[i]? = some (.own e z ver es)) (hs : SrcO L z ((St.mk fr L N).ev y) us js)
    (hjs : (decide js.Nodup && !js.contains i) = true) (hT : tyE P T = some e) (he : tyI P e = some (gg, z, bs)) (hZ : tyZ P e = some zs) (hz : (Nat.blt 0 z && zs.length == z) = true)
    (hbig : es.length + us.length ≤ big) (hbytes : (es.length + us.length) * bs ≤ 140737488355328) (ht : Nat.blt t N = true) (hk1 : KR js L L1) (hL' : St1 (.own e z (ver + 1) (es ++ us)) i L1 L') :
    HSt P A ops ⟨fr, L, N⟩ ⟨some t, .call { callee := .builtin .append, args := #[x, y], argTypes := #[T, T] }, T', pos, af, none⟩ (.sl i (ver + 1)) L' := fun _ he' _ hK =>
  VR_append (by rw [he' x (by simp [Op.operands, Call.operands])]; exact hx) hL (by rw [he' y (by simp [Op.operands, Call.operands])]; exact hs) hjs hT he hZ hz hbig hbytes ht hk1 hL' (VO_nil hK)
theorem HSt_append_nil {T e T' : TypeId} {gg : Bool} {z bs : Nat} {zs : List Value} {us : List U} {js : List Nat} (hx : (St.mk fr L N).ev x = .nilsl) (hs : SrcO L z ((St.mk fr L N).ev y) us js) (hjs : decide js.Nodup = true)
    (hT : tyE P T = some e) (he : tyI P e = some (gg, z, bs)) (hZ : tyZ P e = some zs) (hz : (Nat.blt 0 z && zs.length == z) = true)
    (hbig : us.length ≤ big) (hbytes : us.length * bs ≤ 140737488355328) (ht : Nat.blt t N = true) (hk1 : KR js L L1) (hL' : Sn (.own e z 0 us) L1 i L') :
    HSt P A ops ⟨fr, L, N⟩ ⟨some t, .call { callee := .builtin .append, args := #[x, y], argTypes := #[T, T] }, T', pos, af, none⟩ (.sl i 0) L' := fun _ he' _ hK =>
  VR_append_nil (by rw [he' x (by simp [Op.operands, Call.operands])]; exact hx) (by rw [he' y (by simp [Op.operands, Call.operands])]; exact hs) hjs hT he hZ hz hbig hbytes ht hk1 hL' (VO_nil hK)
theorem HSt_slit1 {T e : TypeId} {gg : Bool} {z bs : Nat} {zs : List Value} {u : U} {js : List Nat} (hy : OV L ((St.mk fr L N).ev x) u js) (hjs : decide js.Nodup = true) (hT : tyE P T = some e) (he : tyI P e = some (gg, z, bs)) (hZ : tyZ P e = some zs)
    (hz : (Nat.blt 0 z && Nat.blt z 16777216 && zs.length == z) = true) (hu : u.sz = z) (ht : Nat.blt t N = true) (hk1 : KR js L L1) (hL' : Sn (.own e z 0 [u]) L1 i L') :
    HSt P A ops ⟨fr, L, N⟩ ⟨some t, .buildSlice T 1 #[(0, x)], ty, pos, af, none⟩ (.sl i 0) L' := fun _ he' _ hK =>
  VR_slit1 (by rw [he' x (by simp [Op.operands])]; exact hy) hjs hT he hZ hz hu ht hk1 hL' (VO_nil hK)
theorem HSt_slit0 {T e : TypeId} {gg : Bool} {z bs : Nat} (hT : tyE P T = some e) (he : tyI P e = some (gg, z, bs)) (ht : Nat.blt t N = true) (hL' : Sn (.own e z 0 []) L i L') :
    HSt P A ops ⟨fr, L, N⟩ ⟨some t, .buildSlice T 0 #[], ty, pos, af, none⟩ (.sl i 0) L' := fun _ _ _ hK => VO_slit0 hT he ht hL' (VO_nil hK)
/-- nil seen as an owned array: a cell of a variable. -/
theorem Realz.adopt {a : Act} {w : World} {cs cs' : List SV} {e z : Nat} (hL : L[j]? = some (.box cs)) (k : Nat) (hc : cs[k]? = some .nilsl) (hcs : cs.set k (.sl L.length 0) = cs') (h : Realz A ⟨fr, L, N⟩ a w) : Realz A ⟨fr, L.set j (.box cs') ++ [.own e z 0 []], N⟩ a w := by
  subst hcs
  obtain ⟨S, env, hH, hf, hN, hd⟩ := h
  have hj := (List.getElem?_eq_some_iff.1 hL).1
  -- the new object
  obtain ⟨hH1, C1⟩ := hH.newO [] (.own e z 0 []) (.slice none 0 0) (Nat.le_refl _) (fun _ _ => rfl) rfl rfl rfl (fun b hb => by simp only [LO.ft] at hb; rw [(Tr.nil w z).2] at hb; cases hb) (fun _ => nil_own e z 0)
  rw [kill_nil] at hH1 C1
  have hL1 : (L ++ [LO.own e z 0 []])[j]? = some (.box cs) := by rw [List.getElem?_append_left hj]; exact hL
  have hje : j < (env ++ [Value.slice none 0 0]).length := by rw [hH1.len]; simp; omega
  obtain ⟨hv, he⟩ : ∃ hv, (env ++ [Value.slice none 0 0])[j]? = some hv := ⟨_, List.getElem?_eq_getElem hje⟩
  obtain ⟨b, vals, e', r1, r2, r3, r4⟩ := hH1.objs j _ hv hL1 he
  obtain ⟨hH2, C2⟩ := hH1.turnF (w' := w) j (.box cs) (.box (cs.set k (.sl L.length 0))) hv hL1 rfl he rfl rfl (fun _ _ => rfl) rfl rfl rfl (fun k hk => hk) (fun C => ⟨b, vals, e', r1, r2, by
    have r3' := SVrs.carry C _ _ r3
    rw [SVrs.iff] at r3' ⊢
    obtain ⟨v, v1, v2⟩ := All2.get ((SVrs.iff _ _).1 r3) k _ hc
    simp only [SVr] at v2
    subst v2
    have hset := All2.set k (.sl L.length 0) (.slice none 0 0) r3' (by
      simp only [SVr]
      refine ⟨.slice none 0 0, .own e z 0 [], by rw [← hH.len]; simp, ?_, Nat.le_refl _, rfl, fun _ => rfl⟩
      rw [List.getElem?_set_ne (by omega)]
      simp)
    have hk : k < vals.toList.length := (List.getElem?_eq_some_iff.1 v1).1
    have : vals.toList.set k (.slice none 0 0) = vals.toList := by
      apply List.ext_getElem?
      intro m
      rw [List.getElem?_set]
      by_cases hm : k = m
      · subst hm; rw [if_pos rfl, if_pos hk, v1]
      · rw [if_neg hm]
    rwa [this] at hset, r4⟩)
  have hse : (L ++ [LO.own e z 0 []]).set j (.box (cs.set k (.sl L.length 0))) = L.set j (.box (cs.set k (.sl L.length 0))) ++ [.own e z 0 []] := by rw [List.set_append_left _ _ hj]
  rw [hse] at hH2 C2
  exact ⟨S, _, hH2, fun t => SVr.carry C2 _ _ (SVr.carry C1 _ _ (hf t)), hN, hd⟩
theorem V_adopt {Q : Exit → St → Prop} {c : Code} {cs cs' : List SV} {n : Nat} (e z : Nat) (j k : Nat) (hL : L[j]? = some (.box cs)) (hc : cs[k]? = some .nilsl) (hn : Ln L n) (hcs : St1 (.sl n 0) k cs cs') (h1 : St1 (.box cs') j L L1) (h2 : Jn L1 [.own e z 0 []] L')
    (h : V P A c ⟨fr, L', N⟩ Q) : V P A c ⟨fr, L, N⟩ Q := by
  have e1 := hn.eq
  have e2 := hcs.spec
  have e3 := h1.spec
  have e4 := h2.spec
  subst e1; subst e2; subst e3; subst e4
  exact fun a w hr => h a w (Realz.adopt hL k hc rfl hr)
end
end Go.Eng
namespace Go.Eng
open Go Go.RowKit
theorem cz_le (n : Nat) : cz n ≤ 64 := by
  unfold cz
  split <;> decide
theorem shz_le (s : Sh) : shz s ≤ 64 := by
  cases s with
  | st n => exact cz_le n
  | _ => simp [shz]
mutual
theorem lf_le : ∀ (u : U) (s : Sh), wt s u → u.lf ≤ 64 * W u + u.sz
  | .i _ _, _, _ => by simp [U.lf, W, U.sz]
  | .b _, _, _ => by simp [U.lf, W, U.sz]
  | .s l, _, _ => by simp only [U.lf, W, U.sz]; omega
  | .st us, s, h => by
    cases s with
    | st n =>
      simp only [wt] at h
      simp only [U.lf, W, U.sz]
      exact lfs_le us _ h
    | _ => exact h.elim
  | .sl z us, s, h => by
    cases s with
    | sl s =>
      simp only [wt] at h
      simp only [U.lf, W, U.sz]
      have := lfa_le us s h.2.2
      omega
    | _ => exact h.elim
theorem lfs_le : ∀ (us : List U) (ss : List Sh), wts ss us → U.lfs us ≤ 64 * Ws us + U.szs us
  | [], _, _ => by simp [U.lfs]
  | u :: us, ss, h => by
    cases ss with
    | nil => exact h.elim
    | cons s ss =>
      simp only [wts] at h
      have h1 := lf_le u s h.1
      have h2 := lfs_le us ss h.2
      simp only [U.lfs, Ws, U.szs]
      omega
theorem lfa_le : ∀ (us : List U) (s : Sh), wta s us → U.lfs us ≤ 64 * Ws us + 64 * us.length
  | [], _, _ => by simp [U.lfs]
  | u :: us, s, h => by
    simp only [wta] at h
    have h1 := lf_le u s h.1
    have h2 := lfa_le us s h.2
    have h3 := wt_sz u s h.1
    have h4 := shz_le s
    simp only [U.lfs, Ws, List.length_cons]
    omega
end
theorem mkt_snd_sl (z : Nat) (us : List U) (k : Int) : ((U.sl z us).mkt k).2 = k + (U.sl z us).lf := by simp only [U.mkt, U.lf]; exact mks_snd us k
mutual
theorem mkt_snd_le : ∀ (u : U) (k : Int), k ≤ (u.mkt k).2
  | .i _ _, k => Int.le_refl _
  | .b _, k => Int.le_refl _
  | .s _, k => Int.le_refl _
  | .st us, k => by simp only [U.mkt]; exact mkts_snd_le us k
  | .sl _ us, k => by simp only [U.mkt]; rw [mks_snd]; omega
theorem mkts_snd_le : ∀ (us : List U) (k : Int), k ≤ (U.mkts us k).2
  | [], k => by simp [U.mkts]
  | u :: us, k => by simp only [U.mkts]; have h1 := mkt_snd_le u k; have h2 := mkts_snd_le us (u.mkt k).2; omega
end
mutual
theorem mkt_snd_ge : ∀ (u : U) (k : Int), (u.mkt k).2 ≤ k + u.lf
  | .i _ _, k => by simp only [U.mkt, U.lf]; omega
  | .b _, k => by simp only [U.mkt, U.lf]; omega
  | .s _, k => by simp only [U.mkt, U.lf]; omega
  | .st us, k => by simp only [U.mkt, U.lf]; exact mkts_snd_ge us k
  | .sl _ us, k => by simp only [U.mkt, U.lf]; rw [mks_snd]; omega
theorem mkts_snd_ge : ∀ (us : List U) (k : Int), (U.mkts us k).2 ≤ k + U.lfs us
  | [], k => by simp [U.mkts, U.lfs]
  | u :: us, k => by simp only [U.mkts, U.lfs]; have h1 := mkt_snd_ge u k; have h2 := mkts_snd_ge us (u.mkt k).2; omega
end
end Go.Eng
namespace Go.Eng
open Go Go.RowKit
section
variable {P : Program} {A : Amb} {ops : Array Oper} {K : St → Prop} {r : List (Nat × Bool)} {pf : PF} {fr : List (Nat × SV)} {L : List LO} {N i t : Nat}
variable {ty : TypeId} {pos : String} {af : Array Edge} {x y : Operand}
/-- A quiet operation by a rule that looks at its operands alone. -/
theorem VY_qr {o : Oper} {sv : SV} (hi : ops[i]? = some o) (hd : o.dst = some t) (hg : o.guard = none) (h : ∀ fr' L', (∀ x ∈ o.op.operands.toList, St.ev ⟨fr', L', N⟩ x = St.ev ⟨fr, L, N⟩ x) → Keep L L' → Quiet P A ⟨fr', L', N⟩ o sv) (ht : Nat.blt t N = true) (hv : VY P A ops K r ((i, L) :: pf) ⟨(t, sv) :: fr, L, N⟩) : VY P A ops K ((i, true) :: r) pf ⟨fr, L, N⟩ := by
  refine ⟨o, sv, hi, ⟨fun d h' => (by rw [hd] at h'; cases h'; exact ht), Keep.refl _, .inl ⟨by unfold Gd; simp only [hg], h⟩⟩, ?_⟩
  rw [hd]
  exact hv
theorem VY_index {T e : TypeId} {z : Nat} {us : List U} {u : U} {k : IntKind} {n : Int} {gg : Bool} {bs : Nat} (hi : ops[i]? = some ⟨some t, .indexAddr T x y, ty, pos, af, none⟩) (hx : (St.mk fr L N).ev x = .d (.sl z us)) (hy : (St.mk fr L N).ev y = .d (.i k n)) (hT : tyE P T = some e) (he : tyI P e = some (gg, z, bs))
    (hn : 0 ≤ n) (hu : us[n.toNat]? = some u) (ht : Nat.blt t N = true) (hv : VY P A ops K r ((i, L) :: pf) ⟨(t, .dp u) :: fr, L, N⟩) : VY P A ops K ((i, true) :: r) pf ⟨fr, L, N⟩ :=
  VY_qr hi rfl rfl (fun fr' L' he' _ => Q_index (by rw [he' x (by simp [Op.operands])]; exact hx) (by rw [he' y (by simp [Op.operands])]; exact hy) hT he hn hu) ht hv
end
end Go.Eng
