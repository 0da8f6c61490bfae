import Derived.Test.YtfaplndgbgoaaaaGreatEng38
import Derived.Test.YtfaplndgbgoaaaaGreatEng67
import Derived.Test.YtfaplndgbgoaaaaGreatB5
import Derived.KernelRfl
import Derived.Test.YtfaplndgbgoaaaaGreatB6
import Derived.Test.YtfaplndgbgoaaaaGreatB7
import Derived.Test.YtfaplndgbgoaaaaGreatCur
import Derived.Test.YtfaplndgbgoaaaaGreatSfi0
import Derived.Test.YtfaplndgbgoaaaaGreatB14
set_option maxHeartbeats 4000000
set_option linter.unusedVariables false
set_option linter.unusedSimpArgs false
set_option linter.unusedSectionVars false
namespace Go.Proofs.YtfaplndgbgoaaaaGreat
open Go Go.Eng
attribute [local irreducible] V VO VQ VY Quiet QR jB kR Rng uX vB qY
def isB (b : UInt8) : Bool := gEc (b.toNat : Int)
mutual
def fmt : gB → List UInt8
 | ⟨a, l⟩ => match a with
   | [] => 40 :: (gO5 l ++ [41])
   | b :: a => b :: a
def gO5 : List gB → List UInt8
 | [] => []
 | x :: l => fmt x ++ gBp l
def gBp : List gB → List UInt8
 | [] => []
 | x :: l => 32 :: (fmt x ++ gBp l)
end
mutual
def wfx : gB → Bool
 | ⟨a, l⟩ => match a with
   | [] => hK5 l
   | b :: a => (b :: a).all isB && l.isEmpty
def hK5 : List gB → Bool
 | [] => true
 | x :: l => wfx x && hK5 l
end
mutual
def ndx : gB → Nat
 | ⟨_, l⟩ => 1 + gU3 l
def gU3 : List gB → Nat
 | [] => 0
 | x :: l => ndx x + gU3 l
end
mutual
def dpx : gB → Nat
 | ⟨a, l⟩ => match a with
   | [] => 1 + hF8 l
   | _ :: _ => 0
def hF8 : List gB → Nat
 | [] => 0
 | x :: l => max (dpx x) (hF8 l)
end
theorem gCp {s : List UInt8} {p : Nat} {b : UInt8} {t : List UInt8} (h : s.drop p = b :: t) : at? s (p : Int) = some b ∧ s.drop (p + 1) = t ∧ p < s.length := by
 have hp : p < s.length := by
  rcases Nat.lt_or_ge p s.length with h1 | h1
  ·exact h1
  ·rw [List.drop_eq_nil_of_le h1] at h; cases h
 rw [List.drop_eq_getElem_cons hp] at h
 simp only [List.cons.injEq] at h
 exact ⟨by rw [gEa, List.getElem?_eq_getElem hp, h.1], h.2, hp⟩
theorem gQo {m : Nat} (h : m ≤ 4294967296) : IntKind.i64.wrap ((m : Int) + 1) = ((m + 1 : Nat) : Int) := by rw [wM _ (by omega) (by omega)]; omega
def isW (b : UInt8) : Bool := b == 32 || b == 10
theorem hDu (b : UInt8) : cnd ((b.toNat : Int) == 32) (some true) (some ((b.toNat : Int) == 10)) = some (isW b) := by
 have h1 : ((b.toNat : Int) == 32) = (b == 32) := Bool.eq_iff_iff.2 (by simp only [beq_iff_eq, ← UInt8.toNat_inj]; change _ ↔ b.toNat = 32; omega)
 have h2 : ((b.toNat : Int) == 10) = (b == 10) := Bool.eq_iff_iff.2 (by simp only [beq_iff_eq, ← UInt8.toNat_inj]; change _ ↔ b.toNat = 10; omega)
 rw [h1, h2]
 unfold isW
 cases b == 32 <;> rfl
theorem hFh {s : List UInt8} {p : Nat} {b : UInt8} {t : List UInt8} (h : s.drop p = b :: t) (hb : isW b = true) (hl : s.length ≤ 4294967296) (d z : Int) (y : Bool) (n : Nat) (c : uE) (hc : c.s = s) : yA c (n + 1) (p : Int) = yA c n ((p + 1 : Nat) : Int) := by
 obtain ⟨h1, h2, h3⟩ := gCp h
 rw [yA, hc, show decide ((p : Int) < (s.length : Int)) = true from decide_eq_true (by omega)]
 simp only [jI, h1, bnd, hDu, hb]
 rw [gQo (by omega)]
theorem gU4 {s : List UInt8} {p : Nat} (h : s.drop p = [] ∨ ∃ b t, s.drop p = b :: t ∧ isW b = false) (n : Nat) (c : uE) (hc : c.s = s) : yA c (n + 1) (p : Int) = some ⟨s, p, c.deep, c.size, c.bad⟩ := by
 rcases h with h | ⟨b, t, h, hb⟩
 ·have : ¬ p < s.length := fun hp => by rw [List.drop_eq_getElem_cons hp] at h; cases h
  rw [yA, hc, show decide ((p : Int) < (s.length : Int)) = false from decide_eq_false (by omega)]
  rfl
 ·obtain ⟨h1, h2, h3⟩ := gCp h
  rw [yA, hc, show decide ((p : Int) < (s.length : Int)) = true from decide_eq_true (by omega)]
  simp only [jI, h1, bnd, hDu, hb, gN]
theorem hCf {s : List UInt8} {p : Nat} {d z : Int} {y : Bool} (h : s.drop p = [] ∨ ∃ b t, s.drop p = b :: t ∧ isW b = false) : gLg ⟨s, p, d, z, y⟩ = some ⟨s, p, d, z, y⟩ := gU4 h 4999 ⟨s, p, d, z, y⟩ rfl
theorem hPg {s : List UInt8} {p : Nat} {d z : Int} {y : Bool} {b : UInt8} {t : List UInt8} (h : s.drop p = 32 :: b :: t) (hb : isW b = false) (hl : s.length ≤ 4294967296) : gLg ⟨s, p, d, z, y⟩ = some ⟨s, (p + 1 : Nat), d, z, y⟩ := by
 have h2 := (gCp h).2.1
 exact (hFh h (by decide) hl d z y 4999 ⟨s, p, d, z, y⟩ rfl).trans (gU4 (.inr ⟨b, t, h2, hb⟩) 4998 ⟨s, p, d, z, y⟩ rfl)
theorem hFi {b : UInt8} (h : isB b = true) : isW b = false := by
 cases hw : isW b with
 | false => rfl
 | true =>
   unfold isW at hw
   simp only [Bool.or_eq_true, beq_iff_eq] at hw
   rcases hw with rfl | rfl
   ·exact absurd h (by decide)
   ·exact absurd h (by decide)
def stop (r : List UInt8) : Prop := ∀ b t, r = b :: t → isB b = false
theorem gZc (rec : uE → Option (gB × uE)) {s : List UInt8} {p0 : Nat} {d z : Int} (n0 : Nat) (hl : s.length ≤ 4294967296) {rest : List UInt8} (hs : stop rest) : ∀ (a : List UInt8) (p n : Nat), a.all isB = true → s.drop p = a ++ rest → p0 < p + a.length → a.length < n →
  p0 ≤ p → p ≤ s.length → wY rec ⟨s, p0, d, z, false⟩ n0 n (p : Int) = some (⟨(s.drop p0).take (p + a.length - p0), []⟩, ⟨s, ((p + a.length : Nat) : Int), d, IntKind.i64.wrap (z + 1), false⟩)
 | [], p, n + 1, _, h, h0, _, hp, hlen => by
   have hb : (cnd (decide ((p : Int) < (s.length : Int))) (bnd (at? s (p : Int)) fun x9 => some (gEc (x9.toNat : Int))) (some false)) = some false := by
    by_cases hp1 : p < s.length
    ·obtain ⟨x, h1, h2⟩ := drop_at hp1
     rw [show decide ((p : Int) < (s.length : Int)) = true from decide_eq_true (by omega), jI, gEa, h1]
     simp only [bnd]
     rw [h2] at h
     exact congrArg some (hs x _ (by simpa using h.symm))
    ·rw [show decide ((p : Int) < (s.length : Int)) = false from decide_eq_false (by omega), gN]
   rw [wY]
   simp only []
   rw [hb]
   simp only [bnd, gN]
   simp only [List.length_nil, Nat.add_zero] at h0
   rw [show decide ((p : Int) > (p0 : Int)) = true from decide_eq_true (by omega), jI, pQ ⟨by omega, by omega, by omega⟩]
   simp
 | b :: a, p, n + 1, ha, h, h0, hn, hp, _ => by
   simp only [List.all_cons, Bool.and_eq_true] at ha
   obtain ⟨h1, h2, h3⟩ := gCp (by simpa using h)
   rw [wY]
   simp only []
   rw [show decide ((p : Int) < (s.length : Int)) = true from decide_eq_true (by omega)]
   simp only [jI, h1, bnd]
   rw [show gEc (b.toNat : Int) = true from ha.1]
   simp only [jI]
   rw [gQo (by omega)]
   have := gZc rec (p0 := p0) (d := d) (z := z) n0 hl hs a (p + 1) n ha.2 h2 (by simp at h0; omega) (by simp at hn; omega) (by omega) (by omega)
   rw [this]
   simp only [List.length_cons]
   rw [show p + 1 + a.length = p + (a.length + 1) by omega]
 | a, p, 0, _, _, _, hn, _, _ => absurd hn (Nat.not_lt_zero _)
theorem gTu {x : gB} (hx : wfx x = true) : ∃ b t, fmt x = b :: t ∧ isW b = false ∧ b ≠ 41 ∧ (b = 40 ∨ isB b = true) := by
 obtain ⟨a, l⟩ := x
 cases a with
 | nil => exact ⟨40, _, by rw [fmt], by decide, by decide, .inl rfl⟩
 | cons b a =>
   simp only [wfx, List.all_cons, Bool.and_eq_true] at hx
   refine ⟨b, a, by rw [fmt], hFi hx.1.1, fun h => ?_, .inr hx.1.1⟩
   subst h
   exact absurd hx.1.1 (by decide)
theorem hFj {x : gB} (hx : wfx x = true) : 1 ≤ (fmt x).length := by
 obtain ⟨b, t, h, _⟩ := gTu hx
 rw [h]
 simp
theorem gSa {s : List UInt8} {p : Nat} {d z : Int} {x : gB} {rest : List UInt8} (n : Nat) (hx : wfx x = true) (h : s.drop p = fmt x ++ rest) (hz : 0 ≤ z ∧ z < 900) : gAa (n + 1) ⟨s, p, d, z, false⟩ = wY (gAa n) ⟨s, p, d, z, false⟩ n n (p : Int) := by
 obtain ⟨b, t, h1, h2, _⟩ := gTu hx
 rw [h1] at h
 have h3 := (gCp (by simpa using h)).2.2
 rw [gAa]
 unfold gL4
 rw [hCf (.inr ⟨b, _, by simpa using h, h2⟩)]
 simp only [bnd, lt_]
 rw [show decide ((p : Int) ≥ (s.length : Int)) = false from decide_eq_false (by omega), wM _ (by omega) (by omega), show decide (z + 1 > 900) = false from decide_eq_false (by omega)]
 rfl
theorem gZd {s : List UInt8} {p : Nat} {d z : Int} {b : UInt8} {a : List UInt8} {rest : List UInt8} (n : Nat) (hl : s.length ≤ 4294967296) (hx : wfx ⟨b :: a, []⟩ = true) (h : s.drop p = (b :: a) ++ rest) (hs : stop rest) (hn : a.length + 1 < n) (hz : 0 ≤ z ∧ z < 900) :
  gAa (n + 1) ⟨s, p, d, z, false⟩ = some (⟨b :: a, []⟩, ⟨s, ((p + (a.length + 1) : Nat) : Int), d, z + 1, false⟩) := by
 have hlen : p ≤ s.length := Nat.le_of_lt (gCp (by simpa using h)).2.2
 rw [gSa n hx (by rw [fmt]; exact h) hz]
 have ha : (b :: a).all isB = true := by simpa [wfx] using hx
 rw [gZc (gAa n) (p0 := p) (d := d) (z := z) n hl hs (b :: a) p n ha h (by simp) (by simpa using hn) (Nat.le_refl _) hlen, wM _ (by omega) (by omega), h]
 simp only [List.length_cons, Nat.add_sub_cancel_left]
 rw [show a.length + 1 = (b :: a).length by simp, List.take_left]
theorem hFk (rec : uE → Option (gB × uE)) {s : List UInt8} {p : Nat} {d z : Int} {t : List UInt8} (n n0 : Nat) (hl : s.length ≤ 4294967296) (h : s.drop p = 40 :: t) (hd : 0 ≤ d ∧ d < 14) (hz : 0 ≤ z ∧ z < 900) :
  wY rec ⟨s, p, d, z, false⟩ n0 (n + 1) (p : Int) = uH rec n0 s ((p + 1 : Nat) : Int) (d + 1) (z + 1) false [] := by
 obtain ⟨h1, h2, h3⟩ := gCp h
 rw [wY]
 simp only []
 rw [show decide ((p : Int) < (s.length : Int)) = true from decide_eq_true (by omega)]
 simp only [jI, h1, bnd]
 rw [show gEc (((40 : UInt8).toNat : Nat) : Int) = false from by decide]
 simp only [gN]
 rw [show decide ((p : Int) > (p : Int)) = false from decide_eq_false (by omega), show ((((40 : UInt8).toNat : Nat) : Int) != 40) = false from by decide]
 simp only [gN]
 rw [show (d == 14) = false from beq_eq_false_iff_ne.2 (by omega)]
 simp only [gN]
 rw [gQo (by omega), wM _ (by omega) (by omega), wM _ (by omega) (by omega)]
theorem hCg (rec : uE → Option (gB × uE)) {s : List UInt8} {p : Nat} {d z : Int} {rest : List UInt8} (n : Nat) (l : List gB) (hl : s.length ≤ 4294967296) (h : s.drop p = 41 :: rest) (hd : 0 ≤ d ∧ d ≤ 14) :
  uH rec (n + 1) s (p : Int) d z false l = some (⟨[], l⟩, ⟨s, ((p + 1 : Nat) : Int), d - 1, z, false⟩) := by
 obtain ⟨h1, h2, h3⟩ := gCp h
 rw [uH]
 simp only [Bool.not_false, jI]
 rw [hCf (.inr ⟨41, rest, h, by decide⟩)]
 simp only [bnd]
 rw [show decide ((p : Int) < (s.length : Int)) = true from decide_eq_true (by omega)]
 simp only [jI, h1]
 rw [show ((((41 : UInt8).toNat : Nat) : Int) == 41) = true from by decide]
 simp only [jI]
 rw [gQo (by omega), wM _ (by omega) (by omega)]
theorem hFl (rec : uE → Option (gB × uE)) {s : List UInt8} {p : Nat} {d z z' : Int} {x : gB} {rest : List UInt8} (n : Nat) (l : List gB) (hl : s.length ≤ 4294967296) (hx : wfx x = true)
  (h : s.drop p = fmt x ++ rest ∨ s.drop p = 32 :: (fmt x ++ rest)) (hrec : ∀ p' : Nat, s.drop p' = fmt x ++ rest → p ≤ p' → rec ⟨s, p', d, z, false⟩ = some (x, ⟨s, ((p' + (fmt x).length : Nat) : Int), d, z', false⟩)) (hll : l.length ≤ 4294967295) :
  ∃ p' : Nat, s.drop p' = fmt x ++ rest ∧ (p' = p ∨ p' = p + 1) ∧ uH rec (n + 1) s (p : Int) d z false l = uH rec n s ((p' + (fmt x).length : Nat) : Int) d z' false (l ++ [x]) := by
 obtain ⟨b, t, hb, hw, hne, _⟩ := gTu hx
 have key : ∀ p' : Nat, s.drop p' = fmt x ++ rest → p ≤ p' → gLg ⟨s, p, d, z, false⟩ = some ⟨s, p', d, z, false⟩ → uH rec (n + 1) s (p : Int) d z false l = uH rec n s ((p' + (fmt x).length : Nat) : Int) d z' false (l ++ [x]) := by
  intro p' h' hp hs
  rw [uH]
  simp only [Bool.not_false, jI]
  rw [hs]
  simp only [bnd]
  have h0 := h'
  rw [hb] at h0
  obtain ⟨h1, h2, h3⟩ := gCp (by simpa using h0)
  rw [show decide ((p' : Int) < (s.length : Int)) = true from decide_eq_true (by omega)]
  simp only [jI, h1]
  rw [show ((b.toNat : Int) == 41) = false from beq_eq_false_iff_ne.2 (fun he => hne (UInt8.toNat_inj.1 (by change _ = 41; omega)))]
  simp only [gN]
  rw [hrec p' h' hp]
  simp only
  rw [pQ (by simp; omega)]
 rcases h with h | h
 ·have h0 := h
  rw [hb] at h0
  exact ⟨p, h, .inl rfl, key p h (Nat.le_refl _) (hCf (.inr ⟨b, _, by simpa using h0, hw⟩))⟩
 ·have h0 := h
  rw [hb] at h0
  exact ⟨p + 1, (gCp h).2.1, .inr rfl, key (p + 1) (gCp h).2.1 (by omega) (hPg (by simpa using h0) hw hl)⟩
mutual
theorem gZe {s : List UInt8} (hl : s.length ≤ 4294967296) : ∀ (x : gB) (p n : Nat) (d z : Int) (rest : List UInt8), wfx x = true → s.drop p = fmt x ++ rest → stop rest → 0 ≤ d → d + dpx x ≤ 14 → 0 ≤ z → z + ndx x ≤ 900 → (fmt x).length + 1 < n →
  gAa n ⟨s, p, d, z, false⟩ = some (x, ⟨s, ((p + (fmt x).length : Nat) : Int), d, z + ndx x, false⟩)
 | ⟨[], l⟩, p, n + 1, d, z, rest, hx, h, hs, h1, h2, h3, h4, h5 => by
   have h4' : z + (1 + gU3 l : Nat) ≤ 900 := h4
   have h2' : d + (1 + hF8 l : Nat) ≤ 14 := h2
   have h5' : (gO5 l).length + 1 + 1 < n := by simp only [fmt, List.length_cons, List.length_append, List.length_nil] at h5; omega
   rw [gSa n hx h ⟨h3, by omega⟩]
   have h6 : s.drop p = 40 :: (gO5 l ++ 41 :: rest) := by rw [h, fmt]; simp
   cases n with
   | zero => omega
   | succ n =>
     rw [hFk (gAa (n + 1)) n (n + 1) hl h6 ⟨h1, by omega⟩ ⟨h3, by omega⟩]
     rw [gU5 hl l (p + 1) (n + 1) (n + 1) (d + 1) (z + 1) (gO5 l) [] rest (by simpa [wfx] using hx) (gCp h6).2.1 (.inl rfl) (by omega) (by omega) (by omega) (by omega) (by omega) (by omega) (by simp only [List.length_nil]; omega)]
     simp only [List.nil_append, fmt, List.length_cons, List.length_append, List.length_nil, ndx]
     rw [show p + 1 + (gO5 l).length + 1 = p + ((gO5 l).length + (0 + 1) + 1) by omega, show d + 1 - 1 = d by omega, show z + 1 + (gU3 l : Int) = z + ((1 + gU3 l : Nat) : Int) by omega]
 | ⟨b :: a, l⟩, p, n + 1, d, z, rest, hx, h, hs, h1, h2, h3, h4, h5 => by
   have hx' := hx
   simp only [wfx, Bool.and_eq_true, List.isEmpty_iff] at hx'
   obtain ⟨_, rfl⟩ := hx'
   have h4' : z + (1 + 0 : Nat) ≤ 900 := h4
   simp only [fmt] at h h5 ⊢
   rw [gZd n hl hx h hs (by simp only [List.length_cons] at h5; omega) ⟨h3, by omega⟩]
   rfl
 | ⟨[], l⟩, p, 0, d, z, rest, _, _, _, _, _, _, _, h5 => absurd h5 (Nat.not_lt_zero _)
 | ⟨b :: a, l⟩, p, 0, d, z, rest, _, _, _, _, _, _, _, h5 => absurd h5 (Nat.not_lt_zero _)
theorem gU5 {s : List UInt8} (hl : s.length ≤ 4294967296) : ∀ (l : List gB) (p k n : Nat) (d z : Int) (w : List UInt8) (acc : List gB) (rest : List UInt8), hK5 l = true → s.drop p = w ++ 41 :: rest → (w = gO5 l ∨ w = gBp l) → 0 < d → d + hF8 l ≤ 14 → 0 ≤ z → z + gU3 l ≤ 900 →
  w.length + 1 < k → w.length < n → acc.length + gU3 l ≤ 900 → uH (gAa k) n s (p : Int) d z false acc = some (⟨[], acc ++ l⟩, ⟨s, ((p + w.length + 1 : Nat) : Int), d - 1, z + gU3 l, false⟩)
 | [], p, k, n + 1, d, z, w, acc, rest, hx, h, hw, h1, h2, h3, h4, h5, h6, h7 => by
   obtain rfl : w = [] := by rcases hw with rfl | rfl <;> rfl
   rw [hCg (gAa k) n acc hl (by simpa using h) ⟨by omega, by simp only [hF8] at h2; omega⟩]
   simp [gU3]
 | x :: l, p, k, n + 1, d, z, w, acc, rest, hx, h, hw, h1, h2, h3, h4, h5, h6, h7 => by
   simp only [hK5, Bool.and_eq_true] at hx
   have h2' : d + (max (dpx x) (hF8 l) : Nat) ≤ 14 := h2
   have h4' : z + (ndx x + gU3 l : Nat) ≤ 900 := h4
   have h7' : acc.length + (ndx x + gU3 l) ≤ 900 := h7
   have hst : stop (gBp l ++ 41 :: rest) := by
    cases l with
    | nil => intro b t hb; simp only [gBp, List.nil_append, List.cons.injEq] at hb; rw [← hb.1]; decide
    | cons y l => intro b t hb; simp only [gBp, List.cons_append, List.cons.injEq] at hb; rw [← hb.1]; decide
   have hfm := hFj hx.1
   have hwl : w.length = (fmt x).length + (gBp l).length ∨ w.length = 1 + ((fmt x).length + (gBp l).length) := by
    rcases hw with rfl | rfl
    ·left; simp [gO5]
    ·right; simp only [gBp, List.length_cons, List.length_append]; omega
   have hd : s.drop p = fmt x ++ (gBp l ++ 41 :: rest) ∨ s.drop p = 32 :: (fmt x ++ (gBp l ++ 41 :: rest)) := by
    rcases hw with rfl | rfl
    ·left; rw [h, gO5, List.append_assoc]
    ·right; rw [h, gBp]; simp
   obtain ⟨p', e1, e2, e3⟩ := hFl (gAa k) (d := d) (z := z) (z' := z + ndx x) n acc hl hx.1 hd (fun p' hp' _ => gZe hl x p' k d z _ hx.1 hp' hst (by omega) (by omega) h3 (by omega) (by omega)) (by omega)
   rw [e3]
   have e4 : s.drop (p' + (fmt x).length) = gBp l ++ 41 :: rest := by
    rw [← List.drop_drop, e1, List.drop_left]
   have hnd : 1 ≤ ndx x := by obtain ⟨a, xs⟩ := x; simp only [ndx]; omega
   rw [gU5 hl l (p' + (fmt x).length) k n d (z + ndx x) (gBp l) (acc ++ [x]) rest hx.2 e4 (.inr rfl) h1 (by omega) (by omega) (by omega) (by omega) (by omega) (by simp only [List.length_append, List.length_cons, List.length_nil]; omega)]
   have hpp : p' + (fmt x).length + (gBp l).length = p + w.length := by
    rcases hw with rfl | rfl
    ·rcases e2 with rfl | rfl
     ·simp only [gO5, List.length_append]; omega
     ·exfalso
      have h8 := congrArg List.length e1
      have h9 := congrArg List.length h
      simp only [List.length_drop, List.length_append, List.length_cons, gO5] at h8 h9
      omega
    ·rcases e2 with rfl | rfl
     ·exfalso
      have h8 := congrArg List.length e1
      have h9 := congrArg List.length h
      simp only [List.length_drop, List.length_append, List.length_cons, gBp] at h8 h9
      omega
     ·simp only [gBp, List.length_cons, List.length_append]; omega
   rw [hpp, List.append_assoc]
   simp only [List.singleton_append, gU3]
   rw [show z + (ndx x : Int) + (gU3 l : Int) = z + ((ndx x + gU3 l : Nat) : Int) by omega]
 | [], p, k, 0, d, z, w, acc, rest, _, _, _, _, _, _, _, _, h6, _ => absurd h6 (Nat.not_lt_zero _)
 | x :: l, p, k, 0, d, z, w, acc, rest, _, _, _, _, _, _, _, _, h6, _ => absurd h6 (Nat.not_lt_zero _)
end
end Go.Proofs.YtfaplndgbgoaaaaGreat
set_option maxHeartbeats 4000000
set_option linter.unusedVariables false
set_option linter.unusedSimpArgs false
set_option linter.unusedSectionVars false
namespace Go.Proofs.YtfaplndgbgoaaaaGreat
open Go Go.Eng
attribute [local irreducible] V VO VQ VY Quiet QR jB kR Rng uX vB qY
def kA (s : List UInt8) : gB := ⟨s, []⟩
def kL (l : List gB) : gB := ⟨[], l⟩
def ka0 : gB := kA [112, 97, 99, 107, 97, 103, 101]
def ka1 : gB := kA [99, 111, 114, 101]
def ka2 : gB := kA [116, 114, 97, 105, 116]
def ka3 : gB := kA [115, 104, 111, 119]
def ka4 : gB := kA [109]
def ka5 : gB := kA [105, 110, 116]
def ka6 : gB := kA [116, 119, 111]
def ka7 : gB := kA [39, 115, 101, 108, 102]
def ka8 : gB := kA [120]
def ka9 : gB := kA [121]
def hF9 : gB := kA [43]
def gQp : gB := kA [109, 101, 116, 104, 111, 100]
def hDv : gB := kA [101, 113]
def hH4 : gB := kA [115, 97, 109, 101]
def hPh : gB := kA [98, 111, 111, 108]
def hH8 : gB := kA [111, 114, 100]
def hH9 : gB := kA [108, 101, 115, 115]
def gZf : gB := kA [97, 100, 100]
def hK6 : gB := kA [97, 115, 115, 111, 99]
def hGa : gB := kA [112, 108, 117, 115]
def hUs : gB := kA [115, 101, 110, 100]
def hUt : gB := kA [97, 117, 116, 111]
def hIa : gB := kA [100, 97, 116, 97]
def hCh : gB := kA [108, 105, 115, 116]
def gU6 : gB := kA [97]
def hFm : gB := kA [110, 105, 108]
def hFo : gB := kA [99, 111, 110, 115]
def gLj : gB := kA [39, 97]
def hGb : gB := kA [112, 97, 105, 114]
def hRt : gB := kA [98]
def hPi : gB := kA [39, 98]
def gWb : gB := kA [98, 111, 120]
def hRu : gB := kA [117, 110, 105, 116]
def gO6 : gB := kA [105, 110, 115, 116]
def hPj : gB := kA [105, 102]
def hCi : gB := kA [49]
def hFp : gB := kA [48]
def gZg : gB := kA [99, 97, 115, 101]
def hIb : gB := kA [104]
def hGc : gB := kA [116]
def hUu : gB := kA [100, 101, 102, 97, 117, 108, 116]
def hRw : gB := kA [55]
def hK7 : gB := kA [122]
def hRx : gB := kA [45]
def hUv : gB := kA [61]
def hRz : gB := kA [60]
def hK8 : gB := kA [112]
def hK9 : gB := kA [113]
def gU7 : gB := kA [110, 101, 119]
def hGd : gB := kA [102, 110]
def hLa : gB := kA [105, 100]
def hIc : gB := kA [98, 111, 116, 104]
def hUw : gB := kA [97, 112, 112]
def gTv : gB := kA [116, 97, 103]
def hPk : gB := kA [110, 111, 110, 101]
def hUx : gB := kA [57]
def hCk : gB := kA [110]
def hR1 : gB := kA [52]
def hR3 : gB := kA [53]
def hLb : gB := kA [116, 114, 117, 101]
def hUy : gB := kA [102, 97, 108, 115, 101]
def hU0 : gB := kA [109, 97, 105, 110]
def hCl : gB := kA [99, 97, 108, 108]
def hLc : gB := kA [50]
def hR4 : gB := kA [116, 104, 101]
def hR5 : gB := kA [51]
def hU1 : gB := kA [108, 101, 116]
def hU2 : gB := kA [112, 97, 99, 107]
def hR6 : gB := kA [108, 101, 110]
def hU3 : gB := kA [115, 117, 109]
def hR7 : gB := kA [103, 114, 111, 119]
def gSb : List gB := [ka0, ka1, kL []]
def gZh : List gB := [kL [ka2, ka3, kL [], kL [], kL [ka4, kL [], ka5], kL [ka6, kL [ka7], ka5, kL [ka8, ka9], kL [hF9, kL [gQp, ka3, ka4, ka8], kL [gQp, ka3, ka4, ka9]]]], kL [ka2, hDv, kL [], kL [], kL [hH4, kL [ka7], hPh]], kL [ka2, hH8, kL [hDv], kL [], kL [hH9, kL [ka7], hPh]], kL [ka2, gZf, kL [], kL [hK6], kL [hGa, kL [ka7], kL [hK6, gZf, ka7]]], kL [ka2, hUs, kL [], kL [hUt]], kL [hIa, hCh, kL [gU6], kL [hFm], kL [hFo, gLj, kL [hCh, gLj]]], kL [hIa, hGb, kL [gU6, hRt], kL [hGb, gLj, hPi]], kL [hIa, gWb, kL [gU6], kL [gWb, gLj]], kL [hIa, hRu, kL [], kL [hRu]], kL [gO6, ka3, kL [], ka5, kL [], kL [], kL [], kL [ka4, kL [ka8], ka8]], kL [gO6, ka3, kL [], hPh, kL [], kL [], kL [], kL [ka4, kL [ka8], kL [hPj, ka8, hCi, hFp]]]]
def gU8 : Bool → List gB
 | true => [kL [gO6, ka3, kL [gU6], kL [hCh, gLj], kL [kL [ka3, gLj]], kL [], kL [], kL [ka4, kL [ka8], kL [gZg, ka8, kL [hFm, hFp], kL [hFo, hIb, hGc, kL [hF9, kL [gQp, ka3, ka4, hIb], kL [gQp, ka3, ka4, hGc]]]]]]]
 | false => [kL [gO6, ka3, kL [gU6], kL [hCh, gLj], kL [], kL [hUu], kL [], kL [ka4, kL [ka8], hRw]], kL [gO6, ka3, kL [], kL [hCh, ka5], kL [], kL [], kL [], kL [ka4, kL [ka8], kL [gZg, ka8, kL [hFm, hFp], kL [hFo, hIb, hGc, kL [hF9, hIb, kL [gQp, ka3, ka4, hGc]]]]]]]
def gZi : List gB := [kL [gO6, ka3, kL [gU6, hRt], kL [hGb, gLj, hPi], kL [kL [ka3, gLj], kL [ka3, hPi]], kL [], kL [], kL [ka4, kL [ka8], kL [gZg, ka8, kL [hGb, ka9, hK7, kL [hRx, kL [gQp, ka3, ka4, ka9], kL [gQp, ka3, ka4, hK7]]]]]], kL [gO6, hDv, kL [], ka5, kL [], kL [], kL [], kL [hH4, kL [ka8, ka9], kL [hUv, ka8, ka9]]], kL [gO6, hH8, kL [], ka5, kL [], kL [], kL [], kL [hH9, kL [ka8, ka9], kL [hRz, ka8, ka9]]], kL [gO6, hDv, kL [gU6], kL [gWb, gLj], kL [kL [hDv, gLj]], kL [], kL [], kL [hH4, kL [ka8, ka9], kL [gZg, ka8, kL [gWb, hK8, kL [gZg, ka9, kL [gWb, hK9, kL [gQp, hDv, hH4, hK8, hK9]]]]]]], kL [gO6, gZf, kL [], ka5, kL [], kL [], kL [ka5], kL [hGa, kL [ka8, ka9], kL [hF9, ka8, ka9]]], kL [gO6, gZf, kL [gU6], kL [gWb, gLj], kL [kL [gZf, gLj]], kL [], kL [kL [gWb, kL [hK6, gZf, gLj]]], kL [hGa, kL [ka8, ka9], kL [gZg, ka8, kL [gWb, hK8, kL [gZg, ka9, kL [gWb, hK9, kL [gU7, gWb, kL [gQp, gZf, hGa, hK8, hK9]]]]]]]], kL [hGd, hLa, kL [gU6], kL [], kL [kL [ka8, gLj]], gLj, ka8], kL [hGd, hIc, kL [gU6], kL [kL [ka3, gLj]], kL [kL [ka8, gLj]], ka5, kL [gQp, ka3, ka6, ka8, ka8]]]
def gSc : List gB := [ka0, hUw, kL [ka1]]
def hFq : List gB := [kL [hIa, gTv, kL [], kL [gTv, ka5], kL [hPk]]]
def gZj : List (List gB) := [[kL [gO6, ka3, kL [], ka5, kL [], kL [], kL [], kL [ka4, kL [ka8], hUx]]],
 [kL [gO6, ka3, kL [], gTv, kL [], kL [], kL [], kL [ka4, kL [ka8], kL [gZg, ka8, kL [hPk, hFp], kL [gTv, hCk, hCk]]]]],
 [kL [gO6, ka3, kL [], kL [hCh, gTv], kL [], kL [], kL [], kL [ka4, kL [ka8], hR1]], kL [gO6, ka3, kL [], gTv, kL [], kL [], kL [], kL [ka4, kL [ka8], hR3]]],
 [kL [gO6, hH8, kL [], gTv, kL [], kL [], kL [], kL [hH9, kL [ka8, ka9], hLb]]],
 [kL [gO6, hDv, kL [], gTv, kL [], kL [], kL [], kL [hH4, kL [ka8, ka9], hLb]], kL [gO6, hH8, kL [], gTv, kL [], kL [], kL [], kL [hH9, kL [ka8, ka9], hUy]]],
 [kL [gO6, ka3, kL [gU6], gLj, kL [kL [hDv, gLj]], kL [], kL [], kL [ka4, kL [ka8], hCi]]],
 [kL [gO6, ka3, kL [], gTv, kL [], kL [], kL [], kL [ka4, kL [ka8], kL [gZg, ka8, kL [gTv, hCk, hCk], kL [hPk, hFp]]]]]]
def gSd (m : gB) : gB := kL [hGd, hU0, kL [], kL [], kL [], ka5, m]
def gZk : List gB := [kL [hCl, hIc, hR3], kL [gQp, ka3, ka4, kL [gU7, hFo, hCi, kL [gU7, hFo, hLc, kL [hR4, kL [hCh, ka5], kL [gU7, hFm]]]]], kL [hCl, hIc, kL [gU7, hGb, hR5, hLb]], kL [hF9, kL [hCl, hLa, hR1], kL [gQp, ka3, ka4, kL [gU7, gTv, hRw]]], kL [hU1, hK7, kL [gQp, gZf, hGa, kL [gU7, gWb, hCi], kL [gU7, gWb, hLc]], kL [gZg, hK7, kL [gWb, hCk, hCk]]], kL [gQp, ka3, ka4, kL [gU7, hFm]], kL [gQp, ka3, ka4, kL [hU2, ka3, hR5]], kL [hPj, kL [gQp, hH8, hH9, hCi, hLc], kL [hCl, hIc, hLb], hFp], kL [gQp, ka3, ka4, kL [gU7, hFo, kL [gU7, gTv, hCi], kL [hR4, kL [hCh, gTv], kL [gU7, hFm]]]], kL [hCl, hIc, kL [hCl, hLa, kL [hCl, hLa, kL [gU7, gTv, hLc]]]]]
def hFr : List gB := [kL [hGd, hR6, kL [gU6], kL [], kL [kL [ka8, kL [hCh, gLj]]], ka5, kL [gZg, ka8, kL [hFm, hFp], kL [hFo, hIb, hGc, kL [hF9, hCi, kL [hCl, hR6, hGc]]]]]]
def hFs : List gB := [kL [hGd, hU3, kL [gU6], kL [kL [gZf, gLj]], kL [kL [ka8, gLj], kL [ka9, gLj]], kL [hK6, gZf, gLj], kL [gQp, gZf, hGa, ka8, ka9]]]
def hFt : List gB := [kL [hGd, hR7, kL [gU6], kL [kL [ka3, gLj]], kL [kL [hCk, ka5], kL [ka8, gLj]], ka5, kL [hPj, kL [hRz, hCk, hCi], kL [gQp, ka3, ka4, ka8], kL [hCl, hR7, kL [hRx, hCk, hCi], kL [gU7, hGb, ka8, ka8]]]]]
def gQq (b : Bool) : gB := kL (gSb ++ (gZh ++ (gU8 b ++ gZi)))
def hFu (h : List gB) (m : gB) (o1 o2 o3 : List gB) : gB := kL (gSc ++ (hFq ++ (h ++ (gSd m :: (o1 ++ (o2 ++ o3))))))
theorem gF8 : ∀ (a b : List gB), gBp (a ++ b) = gBp a ++ gBp b
 | [], b => by simp [gBp]
 | x :: a, b => by simp only [List.cons_append, gBp, gF8 a b, List.append_assoc]
theorem gU9 : ∀ {a : List gB} (b : List gB), a ≠ [] → gO5 (a ++ b) = gO5 a ++ gBp b
 | [], b, h => absurd rfl h
 | x :: a, b, _ => by simp only [List.cons_append, gO5, gF8 a b, List.append_assoc]
theorem hPl : vE ++ vF ++ wG ++ wZ = 40 :: (gO5 gSb ++ gBp gZh) := by kernel_rfl
theorem hPm : gBj = gBp (gU8 true) := by kernel_rfl
theorem hPn : gBk = gBp (gU8 false) := by kernel_rfl
theorem hPo : qX ++ uI ++ vG ++ uV ++ vS ++ wT = gBp gZi := by kernel_rfl
theorem hPp : kF = 40 :: (gO5 gSc ++ gBp hFq) := by kernel_rfl
theorem hPq : [gAx, gAy, gAz, gA0, gA1, gA2, gA3] = gZj.map gBp := by kernel_rfl
theorem hPr : [[40, 99, 97, 108, 108, 32, 98, 111, 116, 104, 32, 53, 41], yV, yX, yY, yZ, zA, zB, zC, zD, zF] = gZk.map fmt := by kernel_rfl
theorem hPs (m : gB) : vY ++ fmt m ++ [41] = gBp [gSd m] := by
 have h : vY = 32 :: 40 :: (gO5 (gSd (kL [])).list.dropLast ++ [32]) := by kernel_rfl
 rw [h]
 simp only [gSd, gBp, kL, fmt, gO5, List.dropLast, List.append_nil, List.nil_append, List.cons_append, List.append_assoc]
theorem hPt : gE3 = gBp hFr := by kernel_rfl
theorem hPu : gE4 = gBp hFs := by kernel_rfl
theorem hPv : gE5 = gBp hFt := by kernel_rfl
end Go.Proofs.YtfaplndgbgoaaaaGreat
set_option maxHeartbeats 4000000
set_option linter.unusedVariables false
set_option linter.unusedSimpArgs false
set_option linter.unusedSectionVars false
namespace Go.Proofs.YtfaplndgbgoaaaaGreat
open Go Go.Eng
attribute [local irreducible] V VO VQ VY Quiet QR jB kR Rng uX vB qY
def gAp (c : jA) : Prop := 0 ≤ c.i ∧ c.b.length ≤ 1048576
theorem hFv (c : jA) (h : gAp c) : ∃ x c', gEh c = some (x, c') ∧ 0 ≤ x ∧ x ≤ 255 ∧ gAp c' := by
 obtain ⟨h1, h2⟩ := h
 unfold gEh
 cases hc : decide (c.i < (c.b.length : Int)) with
 | true =>
   have h3 := of_decide_eq_true hc
   have hx : at? c.b c.i = some (c.b[c.i.toNat]'(by omega)) := by unfold at?; rw [if_pos h1]; exact List.getElem?_eq_getElem _
   simp only [jI]
   rw [kH hx]
   refine ⟨_, _, rfl, (gMa _).1, (gMa _).2, ?_, h2⟩
   simp only
   rw [wM _ (by omega) (by omega)]
   omega
 | false => exact ⟨_, _, rfl, (gMa _).1, (gMa _).2, h1, h2⟩
theorem gEn (c : jA) (n : Int) (h : gAp c) (h0 : 0 < n) (h1 : n ≤ 256) : ∃ x c', yM c n = some (x, c') ∧ 0 ≤ x ∧ x < n ∧ gAp c' := by
 obtain ⟨x, c', e, e1, e2, e3⟩ := hFv c h
 unfold yM
 rw [show decide (n ≤ 0) = false from decide_eq_false (by omega), show decide (n ≤ 256) = true from decide_eq_true h1]
 simp only [jI, gN]
 rw [kH e, pQ (by omega)]
 exact ⟨_, _, rfl, Int.tmod_nonneg _ e1, Int.tmod_lt_of_pos _ h0, e3⟩
theorem gQr (c : jA) (l : List (List UInt8)) (h : gAp c) (h0 : 0 < l.length) (h1 : l.length ≤ 256) : ∃ x c', gEi c l = some (x, c') ∧ gAp c' ∧ x ∈ l := by
 obtain ⟨x, c', e, e1, e2, e3⟩ := gEn c l.length h (by omega) (by omega)
 unfold gEi
 have hx : at? l x = some (l[x.toNat]'(by omega)) := by unfold at?; rw [if_pos e1]; exact List.getElem?_eq_getElem _
 rw [kH e, kH hx]
 exact ⟨_, _, rfl, e3, List.getElem_mem _⟩
theorem gJv (c : jA) (n : Int) (h : gAp c) (h0 : 0 < n) (h1 : n ≤ 256) : ∃ x c', gCm c n = some (x, c') ∧ gAp c' := by
 obtain ⟨x, c', e, _, _, e3⟩ := gEn c n h h0 h1
 unfold gCm
 rw [kH e]
 exact ⟨_, _, rfl, e3⟩
theorem hCm (b : Bool) : fmt (gQq b) = (40 :: (gO5 gSb ++ gBp gZh)) ++ gBp (gU8 b) ++ gBp gZi ++ [41] := by
 have h : gSb ≠ [] := by simp [gSb]
 simp only [gQq, kL, fmt, gU9 _ h, gF8, List.cons_append, List.append_assoc]
theorem hFw (h : List gB) (m : gB) (o1 o2 o3 : List gB) : fmt (hFu h m o1 o2 o3) = (40 :: (gO5 gSc ++ gBp hFq)) ++ gBp h ++ gBp [gSd m] ++ gBp o1 ++ gBp o2 ++ gBp o3 ++ [41] := by
 have h0 : gSc ≠ [] := by simp [gSc]
 have h1 : ∀ l : List gB, gBp (gSd m :: l) = gBp [gSd m] ++ gBp l := fun l => gF8 [gSd m] l
 simp only [hFu, kL, fmt]
 rw [gU9 _ h0, gF8, gF8, h1, gF8, gF8]
 simp only [List.cons_append, List.append_assoc]
theorem hPw : ([vE, vF, wG, wZ, gBj, gBk, qX, uI, vG, uV, vS, wT].all fun l => decide (l.length ≤ 1000)) = true := by kernel_rfl
theorem hPx : (([kF, vY, gE3, gE4, gE5] ++ gZj.map gBp ++ gZk.map fmt).all fun l => decide (l.length ≤ 1000)) = true := by kernel_rfl
set_option maxRecDepth 100000 in
theorem hFx (c : jA) (h : gAp c) : ∃ b c', gH8 c = some (fmt (gQq b), c') ∧ gAp c' := by
 have hl : ∀ l ∈ [vE, vF, wG, wZ, gBj, gBk, qX, uI, vG, uV, vS, wT], l.length ≤ 1000 := fun l hm => of_decide_eq_true (List.all_eq_true.1 hPw l hm)
 have l1 := hl vE (.head _)
 have l2 := hl vF (.tail _ (.head _))
 have l3 := hl wG (.tail _ (.tail _ (.head _)))
 have l4 := hl wZ (.tail _ (.tail _ (.tail _ (.head _))))
 have l5 := hl gBj (.tail _ (.tail _ (.tail _ (.tail _ (.head _)))))
 have l6 := hl gBk (.tail _ (.tail _ (.tail _ (.tail _ (.tail _ (.head _))))))
 have l7 := hl qX (.tail _ (.tail _ (.tail _ (.tail _ (.tail _ (.tail _ (.head _)))))))
 have l8 := hl uI (.tail _ (.tail _ (.tail _ (.tail _ (.tail _ (.tail _ (.tail _ (.head _))))))))
 have l9 := hl vG (.tail _ (.tail _ (.tail _ (.tail _ (.tail _ (.tail _ (.tail _ (.tail _ (.head _)))))))))
 have l10 := hl uV (.tail _ (.tail _ (.tail _ (.tail _ (.tail _ (.tail _ (.tail _ (.tail _ (.tail _ (.head _))))))))))
 have l11 := hl vS (.tail _ (.tail _ (.tail _ (.tail _ (.tail _ (.tail _ (.tail _ (.tail _ (.tail _ (.tail _ (.head _)))))))))))
 have l12 := hl wT (.tail _ (.tail _ (.tail _ (.tail _ (.tail _ (.tail _ (.tail _ (.tail _ (.tail _ (.tail _ (.tail _ (.head _))))))))))))
 clear hl
 obtain ⟨x, c', e, e3⟩ := gJv c 2 h (by omega) (by omega)
 have t0 := hPl; have t1 := hPm; have t2 := hPn; have t3 := hPo
 have f := hCm
 rw [← t0, ← t3] at f
 have ft := f true
 have ff := f false
 rw [← t1] at ft
 rw [← t2] at ff
 clear f t0 t1 t2 t3
 unfold gH8
 generalize vE = a1 at *
 generalize vF = a2 at *
 generalize wG = a3 at *
 generalize wZ = a4 at *
 generalize gBj = a5 at *
 generalize gBk = a6 at *
 generalize qX = a7 at *
 generalize uI = a8 at *
 generalize vG = a9 at *
 generalize uV = a10 at *
 generalize vS = a11 at *
 generalize wT = a12 at *
 rw [pQ (by omega), pQ (by simp only [List.length_append]; omega), pQ (by simp only [List.length_append]; omega), kH e]
 cases x with
 | true =>
   simp only [jI]
   rw [pQ (by simp only [List.length_append]; omega)]
   simp only [bnd]
   iterate 7 rw [pQ (by simp only [List.length_append, List.length_cons, List.length_nil]; omega)]
   refine ⟨true, c', ?_, e3⟩
   rw [ft]
   simp only [List.append_assoc]
 | false =>
   simp only [gN]
   rw [pQ (by simp only [List.length_append]; omega)]
   simp only [bnd]
   iterate 7 rw [pQ (by simp only [List.length_append, List.length_cons, List.length_nil]; omega)]
   refine ⟨false, c', ?_, e3⟩
   rw [ff]
   simp only [List.append_assoc]
theorem gZl {x : Bool × jA} {b s : List UInt8} {o : List gB} (hs : s = gBp o) (hl : b.length + s.length ≤ 4294967296) : ∃ o', (o' = [] ∨ o' = o) ∧ (cnd x.1 (gd (b.length + s.length ≤ 4294967296) (some (b ++ s))) (some b)) = some (b ++ gBp o') := by
 cases x.1 with
 | true => exact ⟨o, .inr rfl, by simp only [jI]; rw [pQ hl, hs]⟩
 | false => exact ⟨[], .inl rfl, by simp [gN, gBp]⟩
set_option maxRecDepth 100000 in
theorem hId (c : jA) (h : gAp c) : ∃ hd m o1 o2 o3 c', gKc c = some (fmt (hFu hd m o1 o2 o3), c') ∧ gAp c' ∧ hd ∈ gZj ∧ m ∈ gZk ∧ (o1 = [] ∨ o1 = hFr) ∧ (o2 = [] ∨ o2 = hFs) ∧ (o3 = [] ∨ o3 = hFt) := by
 have hl := hPx
 have k1 := hPp; have k2 := hPq; have k3 := hPr; have k4 := hPs; have k5 := hPt; have k6 := hPu; have k7 := hPv
 rw [← k2, ← k3] at hl
 have hh : ∀ l ∈ [gAx, gAy, gAz, gA0, gA1, gA2, gA3], ∃ hd ∈ gZj, l = gBp hd := fun l hm => by
  rw [k2] at hm
  obtain ⟨a, h1, h2⟩ := List.mem_map.1 hm
  exact ⟨a, h1, h2.symm⟩
 have hm : ∀ l ∈ [[40, 99, 97, 108, 108, 32, 98, 111, 116, 104, 32, 53, 41], yV, yX, yY, yZ, zA, zB, zC, zD, zF], ∃ m ∈ gZk, l = fmt m := fun l hm => by
  rw [k3] at hm
  obtain ⟨a, h1, h2⟩ := List.mem_map.1 hm
  exact ⟨a, h1, h2.symm⟩
 rw [List.all_append, List.all_append] at hl
 simp only [Bool.and_eq_true, List.all_eq_true, decide_eq_true_eq] at hl
 obtain ⟨⟨hl1, hl2⟩, hl3⟩ := hl
 have l1 := hl1 kF (by simp)
 have l9 := hl1 vY (by simp)
 have l19 := hl1 gE3 (by simp)
 have l20 := hl1 gE4 (by simp)
 have l21 := hl1 gE5 (by simp)
 obtain ⟨x, c1, e1, e2, e3, e4⟩ := gEn c 8 h (by omega) (by omega)
 unfold gKc
 rw [kH e1]
 have hb : ∃ l ∈ [gAx, gAy, gAz, gA0, gA1, gA2, gA3], (cnd (x == 0) (gd (kF.length + gAx.length ≤ 4294967296) (some (kF ++ gAx))) (cnd (x == 1) (gd (kF.length + gAy.length ≤ 4294967296) (some (kF ++ gAy))) (cnd (x == 2) (gd (kF.length + gAz.length ≤ 4294967296) (some (kF ++ gAz))) (cnd (x == 3) (gd (kF.length + gA0.length ≤ 4294967296) (some (kF ++ gA0))) (cnd (x == 4) (gd (kF.length + gA1.length ≤ 4294967296) (some (kF ++ gA1))) (cnd (x == 5) (gd (kF.length + gA2.length ≤ 4294967296) (some (kF ++ gA2))) (gd (kF.length + gA3.length ≤ 4294967296) (some (kF ++ gA3))))))))) = some (kF ++ l) := by
  have g : ∀ l ∈ [gAx, gAy, gAz, gA0, gA1, gA2, gA3], gd (kF.length + l.length ≤ 4294967296) (some (kF ++ l)) = some (kF ++ l) := fun l hm => pQ (by have := hl2 l hm; omega)
  cases x == 0 with
  | true => exact ⟨gAx, by simp, by rw [jI]; exact g _ (by simp)⟩
  | false =>
  cases x == 1 with
  | true => exact ⟨gAy, by simp, by rw [gN, jI]; exact g _ (by simp)⟩
  | false =>
  cases x == 2 with
  | true => exact ⟨gAz, by simp, by rw [gN, gN, jI]; exact g _ (by simp)⟩
  | false =>
  cases x == 3 with
  | true => exact ⟨gA0, by simp, by rw [gN, gN, gN, jI]; exact g _ (by simp)⟩
  | false =>
  cases x == 4 with
  | true => exact ⟨gA1, by simp, by rw [gN, gN, gN, gN, jI]; exact g _ (by simp)⟩
  | false =>
  cases x == 5 with
  | true => exact ⟨gA2, by simp, by rw [gN, gN, gN, gN, gN, jI]; exact g _ (by simp)⟩
  | false => exact ⟨gA3, by simp, by rw [gN, gN, gN, gN, gN, gN]; exact g _ (by simp)⟩
 obtain ⟨l, hlm, hb⟩ := hb
 rw [kH hb]
 have ll := hl2 l hlm
 obtain ⟨hd, q1, rfl⟩ := hh l hlm
 rw [pQ (by simp only [List.length_append]; omega)]
 obtain ⟨t, c2, f1, f2, f3⟩ := gQr c1 [[40, 99, 97, 108, 108, 32, 98, 111, 116, 104, 32, 53, 41], yV, yX, yY, yZ, zA, zB, zC, zD, zF] e4 (by simp) (by simp)
 rw [kH f1]
 have lt := hl3 t f3
 obtain ⟨m, q2, rfl⟩ := hm t f3
 rw [pQ (by simp only [List.length_append]; omega), pQ (by simp only [List.length_append, List.length_cons, List.length_nil]; omega)]
 obtain ⟨y1, c3, g1, g2⟩ := gJv c2 2 f2 (by omega) (by omega)
 rw [kH g1]
 obtain ⟨o1, q3, r1⟩ := gZl (x := (y1, c3)) (b := kF ++ gBp hd ++ vY ++ fmt m ++ [41]) k5 (by simp only [List.length_append, List.length_cons, List.length_nil]; omega)
 have lo1 : (gBp o1).length ≤ 1000 := by rcases q3 with rfl | rfl; · simp [gBp]
                                         ·rw [← k5]; exact l19
 rw [kH r1]
 obtain ⟨y2, c4, g3, g4⟩ := gJv c3 3 g2 (by omega) (by omega)
 rw [kH g3]
 obtain ⟨o2, q4, r2⟩ := gZl (x := (y2, c4)) (b := kF ++ gBp hd ++ vY ++ fmt m ++ [41] ++ gBp o1) k6 (by simp only [List.length_append, List.length_cons, List.length_nil]; omega)
 have lo2 : (gBp o2).length ≤ 1000 := by rcases q4 with rfl | rfl; · simp [gBp]
                                         ·rw [← k6]; exact l20
 rw [kH r2]
 obtain ⟨y3, c5, g5, g6⟩ := gJv c4 4 g4 (by omega) (by omega)
 rw [kH g5]
 obtain ⟨o3, q5, r3⟩ := gZl (x := (y3, c5)) (b := kF ++ gBp hd ++ vY ++ fmt m ++ [41] ++ gBp o1 ++ gBp o2) k7 (by simp only [List.length_append, List.length_cons, List.length_nil]; omega)
 have lo3 : (gBp o3).length ≤ 1000 := by rcases q5 with rfl | rfl; · simp [gBp]
                                         ·rw [← k7]; exact l21
 rw [kH r3, pQ (by simp only [List.length_append, List.length_cons, List.length_nil]; omega)]
 refine ⟨hd, m, o1, o2, o3, c5, ?_, g6, q1, q2, q3, q4, q5⟩
 rw [hFw, ← k1, ← k4 m]
 simp only [List.append_assoc]
end Go.Proofs.YtfaplndgbgoaaaaGreat
