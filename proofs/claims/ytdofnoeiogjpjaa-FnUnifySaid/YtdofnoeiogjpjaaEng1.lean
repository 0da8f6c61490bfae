/- The engine, part 1: data as trees, symbolic values, what they mean in a world. Program-generic. -/
import Derived.ProofKit
import Derived.WalkKit
namespace Go.Eng
open Go Go.RowKit

/-- Data: what a Go value of plain data reads as. 'sl z us': a slice whose elements take z cells each. -/
inductive U where
  | i (k : IntKind) (n : Int)
  | b (x : Bool)
  | s (l : List UInt8)
  | st (us : List U)
  | sl (z : Nat) (us : List U)
  deriving Inhabited

mutual
def U.sz : U → Nat
  | .i _ _ => 1
  | .b _ => 1
  | .s _ => 1
  | .sl _ _ => 1
  | .st us => U.szs us
def U.szs : List U → Nat
  | [] => 0
  | u :: us => u.sz + U.szs us
end

set_option linter.unusedVariables false in
/-- What the program's own tables must hold: nothing, at a program without. -/
def Gok (E : Nat → Prop) (w : World) : Prop := True
set_option linter.unusedVariables false in
theorem Gok.step {E E' : Nat → Prop} {w w' : World} (h : Gok E w) (hb : ∀ b, b < w.heap.size → ¬ E b → w'.heap[b]? = w.heap[b]?) (hs : w.heap.size ≤ w'.heap.size) (he : ∀ b, E' b → E b ∨ w.heap.size ≤ b) : Gok E' w' := trivial

def big : Nat := 140737488355328
theorem big_eq : big = 140737488355328 := rfl

/-- The cells cs lie in block b from off on. -/
def At (w : World) (b off : Nat) (cs : List Value) : Prop :=
  ∃ row e fz, w.heap[b]? = some (.cells row e fz) ∧ ∀ j, j < cs.length → row[off + j]? = cs[j]?

mutual
def Rd (S : Nat → Prop) (w : World) : U → List Value → Prop
  | .i k n, cs => cs = [.int k n]
  | .b x, cs => cs = [.bool x]
  | .s l, cs => l.length ≤ big ∧ cs = [.string ⟨l.toArray⟩]
  | .st us, cs => Rds S w us cs
  | .sl z us, cs => us.length ≤ big ∧ ∃ base cap, cs = [.slice base us.length cap] ∧
      (us = [] ∨ ∃ b off, base = some ⟨b, off, none⟩ ∧ S b ∧ RdE S w z b off us)
def Rds (S : Nat → Prop) (w : World) : List U → List Value → Prop
  | [], cs => cs = []
  | u :: us, cs => ∃ c1 c2, cs = c1 ++ c2 ∧ Rd S w u c1 ∧ Rds S w us c2
def RdE (S : Nat → Prop) (w : World) (z b : Nat) : Nat → List U → Prop
  | _, [] => True
  | off, u :: us => (∃ cs, cs.length = z ∧ At w b off cs ∧ Rd S w u cs) ∧ RdE S w z b (off + z) us
end

theorem At.mono {w w' : World} {b off : Nat} {cs : List Value} (h : At w b off cs) (hb : b < w.heap.size → w'.heap[b]? = w.heap[b]?) : At w' b off cs := by
  obtain ⟨row, e, fz, h1, h2⟩ := h
  exact ⟨row, e, fz, by rw [hb (Array.getElem?_eq_some_iff.1 h1).1]; exact h1, h2⟩
theorem At.lt {w : World} {b off : Nat} {cs : List Value} (h : At w b off cs) : b < w.heap.size := by
  obtain ⟨row, e, fz, h1, h2⟩ := h
  exact (Array.getElem?_eq_some_iff.1 h1).1

section
variable {S S' : Nat → Prop} {w w' : World}
mutual
theorem Rd.mono (hS : ∀ b, S b → b < w.heap.size → S' b) (hw : ∀ b, S b → b < w.heap.size → w'.heap[b]? = w.heap[b]?) :
    ∀ (u : U) (cs : List Value), Rd S w u cs → Rd S' w' u cs
  | .i k n, cs, h => by simpa only [Rd] using h
  | .b x, cs, h => by simpa only [Rd] using h
  | .s l, cs, h => by simpa only [Rd] using h
  | .st us, cs, h => by
    simp only [Rd] at h ⊢
    exact Rds.mono hS hw us cs h
  | .sl z us, cs, h => by
    simp only [Rd] at h ⊢
    obtain ⟨hl, base, cap, h1, h2⟩ := h
    refine ⟨hl, base, cap, h1, ?_⟩
    rcases h2 with h2 | ⟨b, off, h3, h4, h5⟩
    · exact .inl h2
    · by_cases hu : us = []
      · exact .inl hu
      · have hlt : b < w.heap.size := by
          cases us with
          | nil => exact absurd rfl hu
          | cons u us =>
            simp only [RdE] at h5
            obtain ⟨⟨c, _, hat, _⟩, _⟩ := h5
            exact hat.lt
        exact .inr ⟨b, off, h3, hS b h4 hlt, RdE.mono hS hw z b h4 us off h5⟩
theorem Rds.mono (hS : ∀ b, S b → b < w.heap.size → S' b) (hw : ∀ b, S b → b < w.heap.size → w'.heap[b]? = w.heap[b]?) :
    ∀ (us : List U) (cs : List Value), Rds S w us cs → Rds S' w' us cs
  | [], cs, h => by simpa only [Rds] using h
  | u :: us, cs, h => by
    simp only [Rds] at h ⊢
    obtain ⟨c1, c2, h1, h2, h3⟩ := h
    exact ⟨c1, c2, h1, Rd.mono hS hw u c1 h2, Rds.mono hS hw us c2 h3⟩
theorem RdE.mono (hS : ∀ b, S b → b < w.heap.size → S' b) (hw : ∀ b, S b → b < w.heap.size → w'.heap[b]? = w.heap[b]?) (z b : Nat) (hb : S b) :
    ∀ (us : List U) (off : Nat), RdE S w z b off us → RdE S' w' z b off us
  | [], off, h => by simp only [RdE]
  | u :: us, off, h => by
    simp only [RdE] at h ⊢
    obtain ⟨⟨cs, h1, h2, h3⟩, h4⟩ := h
    exact ⟨⟨cs, h1, h2.mono (hw b hb), Rd.mono hS hw u cs h3⟩, RdE.mono hS hw z b hb us (off + z) h4⟩
end
end

mutual
theorem Rd.length {S : Nat → Prop} {w : World} : ∀ (u : U) (cs : List Value), Rd S w u cs → cs.length = u.sz
  | .i k n, cs, h => by simp only [Rd] at h; simp [h, U.sz]
  | .b x, cs, h => by simp only [Rd] at h; simp [h, U.sz]
  | .s l, cs, h => by simp only [Rd] at h; simp [h.2, U.sz]
  | .st us, cs, h => by simp only [Rd] at h; simpa only [U.sz] using Rds.length us cs h
  | .sl z us, cs, h => by simp only [Rd] at h; obtain ⟨_, base, cap, h1, _⟩ := h; simp [h1, U.sz]
theorem Rds.length {S : Nat → Prop} {w : World} : ∀ (us : List U) (cs : List Value), Rds S w us cs → cs.length = U.szs us
  | [], cs, h => by simp only [Rds] at h; simp [h, U.szs]
  | u :: us, cs, h => by
    simp only [Rds] at h
    obtain ⟨c1, c2, h1, h2, h3⟩ := h
    rw [h1, List.length_append, Rd.length u c1 h2, Rds.length us c2 h3, U.szs]
end

mutual
theorem Rd.oneCell {S : Nat → Prop} {w : World} : ∀ (u : U) (cs : List Value), Rd S w u cs → ∀ c ∈ cs, c.oneCell' = true
  | .i k n, cs, h => by simp only [Rd] at h; subst h; simp [Value.oneCell']
  | .b x, cs, h => by simp only [Rd] at h; subst h; simp [Value.oneCell']
  | .s l, cs, h => by simp only [Rd] at h; obtain ⟨_, rfl⟩ := h; simp [Value.oneCell']
  | .st us, cs, h => by simp only [Rd] at h; exact Rds.oneCell us cs h
  | .sl z us, cs, h => by simp only [Rd] at h; obtain ⟨_, base, cap, rfl, _⟩ := h; simp [Value.oneCell']
theorem Rds.oneCell {S : Nat → Prop} {w : World} : ∀ (us : List U) (cs : List Value), Rds S w us cs → ∀ c ∈ cs, c.oneCell' = true
  | [], cs, h => by simp only [Rds] at h; simp [h]
  | u :: us, cs, h => by
    simp only [Rds] at h
    obtain ⟨c1, c2, rfl, h2, h3⟩ := h
    intro c hc
    rcases List.mem_append.1 hc with hc | hc
    · exact Rd.oneCell u c1 h2 c hc
    · exact Rds.oneCell us c2 h3 c hc
end

mutual
def U.flat : U → List U
  | .st us => U.flats us
  | .i k n => [.i k n]
  | .b x => [.b x]
  | .s l => [.s l]
  | .sl z us => [.sl z us]
def U.flats : List U → List U
  | [] => []
  | u :: us => u.flat ++ U.flats us
end

/-- Cell by cell. -/
def All2 {α β : Type} (R : α → β → Prop) : List α → List β → Prop
  | [], [] => True
  | a :: az, b :: bs => R a b ∧ All2 R az bs
  | _, _ => False
section
variable {α β γ : Type} {R R' : α → β → Prop}
theorem All2.length : ∀ {az : List α} {bs : List β}, All2 R az bs → az.length = bs.length
  | [], [], _ => rfl
  | _ :: _, _ :: _, h => by simp [All2.length h.2]
  | [], _ :: _, h => h.elim
  | _ :: _, [], h => h.elim
theorem All2.mono {az : List α} (hR : ∀ (a : α) (b : β), a ∈ az → R a b → R' a b) : ∀ {bs : List β}, All2 R az bs → All2 R' az bs := by
  induction az with
  | nil => intro bs h; cases bs with
    | nil => exact trivial
    | cons _ _ => exact h.elim
  | cons a az ih => intro bs h; cases bs with
    | nil => exact h.elim
    | cons b bs => exact ⟨hR a b (by simp) h.1, ih (fun a' b' ha => hR a' b' (List.mem_cons_of_mem _ ha)) h.2⟩
theorem All2.append : ∀ {az : List α} {bs : List β} {az' : List α} {bs' : List β}, All2 R az bs → All2 R az' bs' → All2 R (az ++ az') (bs ++ bs')
  | [], [], _, _, _, h => h
  | _ :: _, _ :: _, _, _, h, h' => ⟨h.1, All2.append h.2 h'⟩
  | [], _ :: _, _, _, h, _ => h.elim
  | _ :: _, [], _, _, h, _ => h.elim
theorem All2.split : ∀ {az : List α} {az' : List α} {bs : List β}, All2 R (az ++ az') bs → ∃ b1 b2, bs = b1 ++ b2 ∧ All2 R az b1 ∧ All2 R az' b2
  | [], az', bs, h => ⟨[], bs, rfl, trivial, h⟩
  | a :: az, az', [], h => h.elim
  | a :: az, az', b :: bs, h => by
    obtain ⟨b1, b2, h1, h2, h3⟩ := All2.split (az := az) h.2
    exact ⟨b :: b1, b2, by rw [h1]; rfl, ⟨h.1, h2⟩, h3⟩
theorem All2.get : ∀ {az : List α} {bs : List β}, All2 R az bs → ∀ (j : Nat) (a : α), az[j]? = some a → ∃ b : β, bs[j]? = some b ∧ R a b
  | [], [], _, j, a, ha => by simp at ha
  | _ :: _, b :: _, h, 0, a, ha => by simp at ha; subst ha; exact ⟨b, rfl, h.1⟩
  | _ :: _, _ :: _, h, j + 1, a, ha => by
    simp only [List.getElem?_cons_succ] at ha ⊢
    exact All2.get h.2 j a ha
  | [], _ :: _, h, _, _, _ => h.elim
  | _ :: _, [], h, _, _, _ => h.elim
theorem All2.take : ∀ {az : List α} {bs : List β} (n : Nat), All2 R az bs → All2 R (az.take n) (bs.take n)
  | [], [], n, _ => by simp [All2]
  | _ :: _, _ :: _, 0, _ => by simp [All2]
  | _ :: _, _ :: _, n + 1, h => ⟨h.1, All2.take n h.2⟩
  | [], _ :: _, _, h => h.elim
  | _ :: _, [], _, h => h.elim
theorem All2.drop : ∀ {az : List α} {bs : List β} (n : Nat), All2 R az bs → All2 R (az.drop n) (bs.drop n)
  | [], [], n, _ => by simp [All2]
  | _ :: _, _ :: _, 0, h => h
  | _ :: _, _ :: _, n + 1, h => All2.drop n h.2
  | [], _ :: _, _, h => h.elim
  | _ :: _, [], _, h => h.elim
theorem All2.set : ∀ {az : List α} {bs : List β} (n : Nat) (a : α) (b : β), All2 R az bs → R a b → All2 R (az.set n a) (bs.set n b)
  | [], [], n, _, _, _, _ => by simp [All2]
  | _ :: _, _ :: _, 0, a, b, h, hab => ⟨hab, h.2⟩
  | _ :: _, _ :: _, n + 1, a, b, h, hab => ⟨h.1, All2.set n a b h.2 hab⟩
  | [], _ :: _, _, _, _, h, _ => h.elim
  | _ :: _, [], _, _, _, h, _ => h.elim
theorem All2.map_left (f : γ → α) : ∀ {cs : List γ} {bs : List β}, All2 R (cs.map f) bs ↔ All2 (fun c b => R (f c) b) cs bs
  | [], [] => by simp [All2]
  | _ :: _, _ :: _ => by simp [All2, All2.map_left f]
  | [], _ :: _ => by simp [All2]
  | _ :: _, [] => by simp [All2]
end

mutual
theorem Rd.leafs {S : Nat → Prop} {w : World} : ∀ (u : U) (cs : List Value), Rd S w u cs → All2 (fun u c => Rd S w u [c]) u.flat cs
  | .i k n, cs, h => by simp only [Rd] at h; subst h; simp [U.flat, All2, Rd]
  | .b x, cs, h => by simp only [Rd] at h; subst h; simp [U.flat, All2, Rd]
  | .s l, cs, h => by have h' := h; simp only [Rd] at h; obtain ⟨_, rfl⟩ := h; simp only [U.flat, All2, and_true]; exact h'
  | .sl z us, cs, h => by
    have h' := h
    simp only [Rd] at h
    obtain ⟨_, base, cap, rfl, _⟩ := h
    simp only [U.flat, All2, and_true]
    exact h'
  | .st us, cs, h => by simp only [Rd] at h; simp only [U.flat]; exact Rds.leafs us cs h
theorem Rds.leafs {S : Nat → Prop} {w : World} : ∀ (us : List U) (cs : List Value), Rds S w us cs → All2 (fun u c => Rd S w u [c]) (U.flats us) cs
  | [], cs, h => by simp only [Rds] at h; subst h; simp [U.flats, All2]
  | u :: us, cs, h => by
    simp only [Rds] at h
    obtain ⟨c1, c2, rfl, h2, h3⟩ := h
    simp only [U.flats]
    exact All2.append (Rd.leafs u c1 h2) (Rds.leafs us c2 h3)
end
mutual
theorem Rd.of_leafs {S : Nat → Prop} {w : World} : ∀ (u : U) (cs : List Value), All2 (fun u c => Rd S w u [c]) u.flat cs → Rd S w u cs
  | .i k n, cs, h => by
    match cs, h with
    | [c], h => exact h.1
    | _ :: _ :: _, h => exact h.2.elim
  | .b x, cs, h => by
    match cs, h with
    | [c], h => exact h.1
    | _ :: _ :: _, h => exact h.2.elim
  | .s l, cs, h => by
    match cs, h with
    | [c], h => exact h.1
    | _ :: _ :: _, h => exact h.2.elim
  | .sl z us, cs, h => by
    match cs, h with
    | [c], h => exact h.1
    | _ :: _ :: _, h => exact h.2.elim
  | .st us, cs, h => by simp only [U.flat] at h; simp only [Rd]; exact Rds.of_leafs us cs h
theorem Rds.of_leafs {S : Nat → Prop} {w : World} : ∀ (us : List U) (cs : List Value), All2 (fun u c => Rd S w u [c]) (U.flats us) cs → Rds S w us cs
  | [], cs, h => by
    simp only [U.flats] at h
    match cs, h with
    | [], _ => simp [Rds]
  | u :: us, cs, h => by
    simp only [U.flats] at h
    obtain ⟨c1, c2, rfl, h2, h3⟩ := All2.split h
    simp only [Rds]
    exact ⟨c1, c2, rfl, Rd.of_leafs u c1 h2, Rds.of_leafs us c2 h3⟩
end

/-- The n-th element of a row of elements. -/
theorem RdE.get {S : Nat → Prop} {w : World} {z b : Nat} : ∀ (us : List U) (off k : Nat) (u : U), RdE S w z b off us → us[k]? = some u →
    ∃ cs, cs.length = z ∧ At w b (off + k * z) cs ∧ Rd S w u cs
  | [], off, k, u, h, hk => by simp at hk
  | u0 :: us, off, 0, u, h, hk => by
    simp at hk; subst hk
    simp only [RdE] at h
    simpa using h.1
  | u0 :: us, off, k + 1, u, h, hk => by
    simp only [RdE] at h
    simp only [List.getElem?_cons_succ] at hk
    have := RdE.get us (off + z) k u h.2 hk
    have e : off + z + k * z = off + (k + 1) * z := by rw [Nat.add_mul]; omega
    rwa [e] at this

theorem Rds.get {S : Nat → Prop} {w : World} {z : Nat} : ∀ (us : List U) (cs : List Value) (k : Nat) (u : U), (∀ u ∈ us, u.sz = z) → Rds S w us cs → us[k]? = some u →
    Rd S w u ((cs.drop (k * z)).take z)
  | [], cs, k, u, _, h, hk => by simp at hk
  | u0 :: us, cs, 0, u, hz, h, hk => by
    simp at hk; subst hk
    simp only [Rds] at h
    obtain ⟨c1, c2, rfl, h2, h3⟩ := h
    have hl := Rd.length _ _ h2
    rw [hz u0 (by simp)] at hl
    simp only [Nat.zero_mul, List.drop_zero]
    rw [← hl, List.take_left]
    exact h2
  | u0 :: us, cs, k + 1, u, hz, h, hk => by
    simp only [Rds] at h
    obtain ⟨c1, c2, rfl, h2, h3⟩ := h
    have hl := Rd.length _ _ h2
    rw [hz u0 (by simp)] at hl
    simp only [List.getElem?_cons_succ] at hk
    have := Rds.get us c2 k u (fun v hv => hz v (by simp [hv])) h3 hk
    have e : (k + 1) * z = c1.length + k * z := by rw [hl, Nat.add_mul]; omega
    rw [e, List.drop_length_add_append]
    exact this

theorem Rds.append {S : Nat → Prop} {w : World} : ∀ (us : List U) (cs : List Value) (vs : List U) (ds : List Value), Rds S w us cs → Rds S w vs ds → Rds S w (us ++ vs) (cs ++ ds)
  | [], cs, vs, ds, h, h' => by simp only [Rds] at h; subst h; simpa using h'
  | u :: us, cs, vs, ds, h, h' => by
    simp only [Rds] at h
    obtain ⟨c1, c2, rfl, h2, h3⟩ := h
    simp only [List.cons_append, Rds]
    exact ⟨c1, c2 ++ ds, by rw [List.append_assoc], h2, Rds.append us c2 vs ds h3 h'⟩
theorem Rds.take {S : Nat → Prop} {w : World} {z : Nat} : ∀ (us : List U) (cs : List Value) (k : Nat), (∀ u ∈ us, u.sz = z) → Rds S w us cs → Rds S w (us.take k) (cs.take (k * z))
  | [], cs, k, _, h => by simp only [Rds] at h; subst h; simp [Rds]
  | u :: us, cs, 0, _, h => by simp [Rds]
  | u :: us, cs, k + 1, hz, h => by
    simp only [Rds] at h
    obtain ⟨c1, c2, rfl, h2, h3⟩ := h
    have hl := Rd.length _ _ h2
    rw [hz u (by simp)] at hl
    have e : (k + 1) * z = c1.length + k * z := by rw [hl, Nat.add_mul]; omega
    rw [e, List.take_length_add_append]
    simp only [List.take_succ_cons, Rds]
    exact ⟨c1, _, rfl, h2, Rds.take us c2 k (fun v hv => hz v (by simp [hv])) h3⟩
theorem Rds.set {S : Nat → Prop} {w : World} {z : Nat} : ∀ (us : List U) (cs : List Value) (k : Nat) (u : U) (ds : List Value), (∀ u ∈ us, u.sz = z) → Rds S w us cs → Rd S w u ds → k < us.length →
    Rds S w (us.set k u) (cs.take (k * z) ++ ds ++ cs.drop ((k + 1) * z))
  | [], cs, k, u, ds, _, h, _, hk => by simp at hk
  | u0 :: us, cs, 0, u, ds, hz, h, hu, hk => by
    simp only [Rds] at h
    obtain ⟨c1, c2, rfl, h2, h3⟩ := h
    have hl := Rd.length _ _ h2
    rw [hz u0 (by simp)] at hl
    simp only [Nat.zero_mul, List.take_zero, List.nil_append, Nat.zero_add, Nat.one_mul, List.set_cons_zero, Rds]
    exact ⟨ds, c2, by rw [← hl, List.drop_left], hu, h3⟩
  | u0 :: us, cs, k + 1, u, ds, hz, h, hu, hk => by
    simp only [Rds] at h
    obtain ⟨c1, c2, rfl, h2, h3⟩ := h
    have hl := Rd.length _ _ h2
    rw [hz u0 (by simp)] at hl
    have e : (k + 1) * z = c1.length + k * z := by rw [hl, Nat.add_mul]; omega
    have e2 : (k + 1 + 1) * z = c1.length + (k + 1) * z := by rw [hl, Nat.add_mul]; omega
    have ih := Rds.set us c2 k u ds (fun v hv => hz v (by simp [hv])) h3 hu (by simpa using hk)
    rw [e, e2, List.take_length_add_append, List.drop_length_add_append]
    simp only [List.set_cons_succ, Rds]
    exact ⟨c1, _, by simp only [List.append_assoc], h2, ih⟩
/-- Elements that lie side by side are a row of elements. -/
theorem RdE.of_Rds {S : Nat → Prop} {w : World} {z b : Nat} : ∀ (us : List U) (cs : List Value) (off : Nat), (∀ u ∈ us, u.sz = z) → Rds S w us cs → At w b off cs → RdE S w z b off us
  | [], cs, off, _, _, _ => by simp [RdE]
  | u :: us, cs, off, hz, h, hat => by
    simp only [Rds] at h
    obtain ⟨c1, c2, rfl, h2, h3⟩ := h
    have hl := Rd.length _ _ h2
    rw [hz u (by simp)] at hl
    obtain ⟨row, e, fz, r1, r2⟩ := hat
    simp only [RdE]
    refine ⟨⟨c1, hl, ⟨row, e, fz, r1, fun j hj => ?_⟩, h2⟩, RdE.of_Rds us c2 (off + z) (fun v hv => hz v (by simp [hv])) h3 ⟨row, e, fz, r1, fun j hj => ?_⟩⟩
    · rw [r2 j (by simp; omega), List.getElem?_append_left hj]
    · have := r2 (z + j) (by simp; omega)
      rw [show off + z + j = off + (z + j) by omega, this, List.getElem?_append_right (by omega)]
      congr 1
      omega
end Go.Eng
