/- The engine, part 27: the rules for owned arrays once more, their lists of objects found by 'constructor'. -/
import Derived.Test.YtdofnoeiogjpjaaEng26
namespace Go.Eng
open Go Go.RowKit

inductive KR : List Nat → List LO → List LO → Prop
  | nil {L : List LO} : KR [] L L
  | cons {j : Nat} {js : List Nat} {o : LO} {L L1 L' : List LO} (h : L[j]? = some o) (hs : St1 (.dead (o.ver + 1)) j L L1) (r : KR js L1 L') : KR (j :: js) L L'
theorem KR.spec {js : List Nat} {L L' : List LO} (h : KR js L L') (hn : js.Nodup) : kill js 0 L = L' := by
  have key : ∀ {js : List Nat} {L L' : List LO}, KR js L L' → js.Nodup → L'.length = L.length ∧ ∀ i, L'[i]? = L[i]?.map (fun o => if js.contains i then .dead (o.ver + 1) else o) := by
    intro js L L' h
    induction h with
    | nil => intro _; exact ⟨rfl, fun i => by cases h : (_ : List LO)[i]? <;> simp⟩
    | @cons j js o L L1 L' h hs r ih =>
      intro hn
      have h1 := hs.spec
      subst h1
      obtain ⟨n1, n2⟩ := List.nodup_cons.1 hn
      obtain ⟨i1, i2⟩ := ih n2
      refine ⟨by rw [i1, List.length_set], fun i => ?_⟩
      rw [i2 i]
      by_cases hij : j = i
      · subst hij
        have hlt := (List.getElem?_eq_some_iff.1 h).1
        have hc : js.contains j = false := by simpa using n1
        rw [List.getElem?_set_self hlt, h]
        simp only [Option.map_some, hc, List.contains_cons, beq_self_eq_true, Bool.true_or, if_true, Bool.false_eq_true, if_false]
      · rw [List.getElem?_set_ne hij]
        have : (j :: js).contains i = js.contains i := by
          have : (i == j) = false := by simpa using fun e => hij e.symm
          simp only [List.contains_cons, this, Bool.false_or]
        rw [this]
  obtain ⟨k1, k2⟩ := key h hn
  apply List.ext_getElem?
  intro i
  rw [kill_get, Nat.zero_add, k2 i]

section
variable {P : Program} {A : Amb} {σ : St} {K : St → Prop}
variable {ops : Array Oper} {rest : List Oper} {t : Nat} {ty : TypeId} {pos : String} {af : Array Edge} {x y : Operand} {sv : SV}
theorem VR_store {T : TypeId} {gg : Bool} {i ver z k e bs : Nat} {es : List U} {u : U} {js : List Nat} {fr : List (Nat × SV)} {L L1 L' : List LO} {N : Nat} (hx : (St.mk fr L N).ev x = .ep i ver z k 0) (hL : L[i]? = some (.own e z ver es)) (hy : OV L ((St.mk fr L N).ev y) u js)
    (hjs : (decide js.Nodup && !js.contains i) = true) (hT : tyI P T = some (gg, z, bs)) (hu : u.sz = z) (hk : k < es.length) (hk1 : KR js L L1) (hL' : St1 (.own e z ver (es.set k u)) i L1 L')
    (h : VO P A ops rest ⟨fr, L', N⟩ K) : VO P A ops (⟨none, .store T x y, ty, pos, af, none⟩ :: rest) ⟨fr, L, N⟩ K := by
  have hjs' := hjs
  simp only [Bool.and_eq_true, decide_eq_true_eq] at hjs'
  exact VO_storeO hx hL hy hjs hT hu hk (by rw [hk1.spec hjs'.1]; exact hL'.spec) h
theorem VR_make {T e : TypeId} {gg : Bool} {z bs : Nat} {zs : List Value} {zu : U} {k k' : IntKind} {l c : Int} {fr : List (Nat × SV)} {L L' : List LO} {N i : Nat} (hx : (St.mk fr L N).ev x = .d (.i k l)) (hy : (St.mk fr L N).ev y = .d (.i k' c))
    (hT : tyE P T = some e) (he : tyI P e = some (gg, z, bs)) (hZ : tyZ P e = some zs) (hz : (Nat.blt 0 z && zs.length == z) = true) (hzu : ZeroT zu zs)
    (h0 : 0 ≤ l) (hlc : l ≤ c) (hc : c ≤ big) (hbytes : (bs : Int) * c ≤ 281474976710656) (ht : Nat.blt t N = true) (hL' : Sn (.own e z 0 (List.replicate l.toNat zu)) L i L')
    (h : VO P A ops rest ⟨(t, .sl i 0) :: fr, L', N⟩ K) : VO P A ops (⟨some t, .makeSlice T x y, ty, pos, af, none⟩ :: rest) ⟨fr, L, N⟩ K := VO_makeO hx hy hT he hZ hz hzu h0 hlc hc hbytes ht hL'.spec.1 hL' h
theorem VR_append {T e T' : TypeId} {gg : Bool} {z bs i ver : Nat} {zs : List Value} {es us : List U} {js : List Nat} {fr : List (Nat × SV)} {L L1 L' : List LO} {N : Nat} (hx : (St.mk fr L N).ev x = .sl i ver) (hL : L[i]? = some (.own e z ver es)) (hs : SrcO L z ((St.mk fr L N).ev y) us js)
    (hjs : (decide js.Nodup && !js.contains i) = true) (hT : tyE P T = some e) (he : tyI P e = some (gg, z, bs)) (hZ : tyZ P e = some zs) (hz : (Nat.blt 0 z && zs.length == z) = true)
    (hbig : es.length + us.length ≤ big) (hbytes : (es.length + us.length) * bs ≤ 140737488355328) (ht : Nat.blt t N = true) (hk1 : KR js L L1) (hL' : St1 (.own e z (ver + 1) (es ++ us)) i L1 L')
    (h : VO P A ops rest ⟨(t, .sl i (ver + 1)) :: fr, L', N⟩ K) : VO P A ops (⟨some t, .call { callee := .builtin .append, args := #[x, y], argTypes := #[T, T] }, T', pos, af, none⟩ :: rest) ⟨fr, L, N⟩ K := by
  simp only [Bool.and_eq_true, decide_eq_true_eq] at hjs
  exact VO_appendO hx hL hs hjs.2 hT he hZ hz hbig hbytes ht (by rw [hk1.spec hjs.1]; exact hL'.spec) h
theorem VR_append_nil {T e T' : TypeId} {gg : Bool} {z bs i : Nat} {zs : List Value} {us : List U} {js : List Nat} {fr : List (Nat × SV)} {L L1 L' : List LO} {N : Nat} (hx : (St.mk fr L N).ev x = .nilsl) (hs : SrcO L z ((St.mk fr L N).ev y) us js) (hjs : decide js.Nodup = true)
    (hT : tyE P T = some e) (he : tyI P e = some (gg, z, bs)) (hZ : tyZ P e = some zs) (hz : (Nat.blt 0 z && zs.length == z) = true)
    (hbig : us.length ≤ big) (hbytes : us.length * bs ≤ 140737488355328) (ht : Nat.blt t N = true) (hk1 : KR js L L1) (hL' : Sn (.own e z 0 us) L1 i L')
    (h : VO P A ops rest ⟨(t, .sl i 0) :: fr, L', N⟩ K) : VO P A ops (⟨some t, .call { callee := .builtin .append, args := #[x, y], argTypes := #[T, T] }, T', pos, af, none⟩ :: rest) ⟨fr, L, N⟩ K := by
  have hk := hk1.spec (of_decide_eq_true hjs)
  obtain ⟨h1, h2⟩ := hL'.spec
  exact VO_appendO_nil hx hs hT he hZ hz hbig hbytes ht (by rw [← h1, ← hk, kill_len]) (by rw [hk]; exact h2) h
theorem VR_slit1 {T e : TypeId} {gg : Bool} {z bs i : Nat} {zs : List Value} {u : U} {js : List Nat} {fr : List (Nat × SV)} {L L1 L' : List LO} {N : Nat} (hy : OV L ((St.mk fr L N).ev x) u js) (hjs : decide js.Nodup = true) (hT : tyE P T = some e) (he : tyI P e = some (gg, z, bs)) (hZ : tyZ P e = some zs)
    (hz : (Nat.blt 0 z && Nat.blt z 16777216 && zs.length == z) = true) (hu : u.sz = z) (ht : Nat.blt t N = true) (hk1 : KR js L L1) (hL' : Sn (.own e z 0 [u]) L1 i L')
    (h : VO P A ops rest ⟨(t, .sl i 0) :: fr, L', N⟩ K) : VO P A ops (⟨some t, .buildSlice T 1 #[(0, x)], ty, pos, af, none⟩ :: rest) ⟨fr, L, N⟩ K := by
  have hk := hk1.spec (of_decide_eq_true hjs)
  obtain ⟨h1, h2⟩ := hL'.spec
  exact VO_slit1 hy hjs hT he hZ hz hu ht (by rw [← h1, ← hk, kill_len]) (by rw [hk]; exact h2) h
end
theorem tI : ∀ w, Tr w (.i .i64 0) [.int .i64 0] ∧ (U.i .i64 0).fp w [.int .i64 0] = [] := fun w => ⟨by simp [Tr], rfl⟩
theorem tB : ∀ w, Tr w (.b false) [.bool false] ∧ (U.b false).fp w [.bool false] = [] := fun w => ⟨by simp [Tr], rfl⟩
theorem tS : ∀ w, Tr w (.s []) [.string ⟨#[]⟩] ∧ (U.s []).fp w [.string ⟨#[]⟩] = [] := fun w => ⟨by simp [Tr, big], rfl⟩
theorem tL (z : Nat) : ∀ w, Tr w (.sl z []) [.slice none 0 0] ∧ (U.sl z []).fp w [.slice none 0 0] = [] := fun w => Tr.nil w z
/-- Zero values, leaf by leaf. -/
inductive ZL : List U → List Value → Prop
  | nil : ZL [] []
  | i {us : List U} {vs : List Value} (h : ZL us vs) : ZL (.i .i64 0 :: us) (.int .i64 0 :: vs)
  | b {us : List U} {vs : List Value} (h : ZL us vs) : ZL (.b false :: us) (.bool false :: vs)
  | s {us : List U} {vs : List Value} (h : ZL us vs) : ZL (.s [] :: us) (.string ⟨#[]⟩ :: vs)
  | l {z : Nat} {us : List U} {vs : List Value} (h : ZL us vs) : ZL (.sl z [] :: us) (.slice none 0 0 :: vs)
theorem ZL.r {us : List U} {vs : List Value} (h : ZL us vs) (w : World) : All2 (fun u c => Tr w u [c]) us vs ∧ fpl w us vs = [] := by
  induction h with
  | nil => exact ⟨trivial, rfl⟩
  | i h ih => exact ⟨⟨(tI w).1, ih.1⟩, by simp only [fpl, (tI w).2, ih.2, List.nil_append]⟩
  | b h ih => exact ⟨⟨(tB w).1, ih.1⟩, by simp only [fpl, (tB w).2, ih.2, List.nil_append]⟩
  | s h ih => exact ⟨⟨(tS w).1, ih.1⟩, by simp only [fpl, (tS w).2, ih.2, List.nil_append]⟩
  | l h ih => exact ⟨⟨(tL _ w).1, ih.1⟩, by simp only [fpl, (tL _ w).2, ih.2, List.nil_append]⟩
theorem zeroT {u : U} {fl : List U} {vs : List Value} (hl : Lv u fl) (h : ZL fl vs) : ZeroT u vs := fun w => by
  have := hl.eq
  subst this
  obtain ⟨h1, h2⟩ := h.r w
  exact ⟨Tr.of_leafs _ _ h1, by rw [fp_flat _ _ (by rw [← h1.length, U.flat_len]), h2]⟩
/-- What a copy holds after k rounds. -/
def fillU (us : List U) (zu : U) (k : Nat) : List U := us.take k ++ List.replicate (us.length - k) zu
theorem fillU_zero (us : List U) (zu : U) : List.replicate us.length zu = fillU us zu 0 := by simp [fillU]
theorem fillU_all (us : List U) (zu : U) : fillU us zu us.length = us := by simp [fillU]
theorem fillU_length {us : List U} {zu : U} {k : Nat} (h : k ≤ us.length) : (fillU us zu k).length = us.length := by simp [fillU]; omega
theorem fillU_set {us : List U} {zu u : U} {k : Nat} (h : us[k]? = some u) : (fillU us zu k).set k u = fillU us zu (k + 1) := by
  obtain ⟨hk, rfl⟩ := List.getElem?_eq_some_iff.1 h
  unfold fillU
  have hl : (us.take k).length = k := by simp; omega
  rw [List.set_append_right _ _ (by omega), hl, Nat.sub_self]
  rw [show us.length - k = (us.length - (k + 1)) + 1 by omega, List.replicate_succ, List.set_cons_zero, List.take_succ_eq_append_getElem hk, List.append_assoc]
  rfl
end Go.Eng
