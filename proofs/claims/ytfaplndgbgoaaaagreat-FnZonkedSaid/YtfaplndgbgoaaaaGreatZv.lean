import Derived.Test.YtfaplndgbgoaaaaGreatEng38
import Derived.Test.YtfaplndgbgoaaaaGreatEng67
import Derived.Test.YtfaplndgbgoaaaaGreatUn1
set_option maxHeartbeats 4000000
set_option linter.unusedVariables false
set_option linter.unusedSimpArgs false
set_option linter.unusedSectionVars false
namespace Go.Proofs.YtfaplndgbgoaaaaGreat
open Go Go.Eng
attribute [local irreducible] V VO VQ VY Quiet QR jB kR Rng uX vB qY
def wK (a1 : List UInt8) : List (List UInt8) → Nat → Int
 | [], y1 => (-1)
 | x4 :: xs, y1 => (cnd (a1 == x4) (
(y1 : Int)) (
wK a1 xs (y1 + 1)))
def gKt (a0 : List (List UInt8)) (a1 : List UInt8) : Int :=
wK a1 a0 0
theorem hCw (a0 : List (List UInt8)) (a1 : List UInt8) : jB Tryz.prog 71 [.L 1 (gY a0), .S a1] [.i .i64 (gKt a0 a1)] := by
 obtain ⟨r, h⟩ : ∃ r, gKt a0 a1 = r := ⟨_, rfl⟩
 rw [h]
 unfold gKt at h
 refine SpI Tryz.func71 fun A _ => ?_
 refine goL ?_
 refine noB ?_
 refine gEk 0 (fun z2 => ?_)
 refine mY (fun (y1 : Nat) => ⟨[(0, .L 1 (gY a0)), (1, .S a1), (7, .I (a0.length : Int)), (8, .N y1)], [], Tryz.f71.ntmps⟩) (fun y1 => wK a1 (a0.drop y1) y1 = r) (fun y1 => a0.length - y1) 0 eJ h ?_
 rintro y1 h
 refine goL ?_
 refine kD (mF (fun c3 => ?_) (fun c3 => ?_))
 ·have hky12 := vO c3
  obtain ⟨x4, hx4, hdx4⟩ := drop_at hky12
  rw [hdx4, wK.eq_2] at h
  refine noS ?_
  refine kD (jC ?_)
  refine goL ?_
  refine jH (jJ y1 (gOl hx4)) ?_
  refine mF (fun c5 => ?_) (fun c5 => ?_)
  ·replace h := gW c5 h
   refine goL ?_
   refine jN ?_
   subst h
   exact qH
  ·replace h := gX c5 h
   refine goS ?_
   refine jH (jT y1 (by omega)) ?_
   exact ⟨(y1 + 1), h, by omega, eJ⟩
 ·have hky12 := vP c3
  rw [jE hky12, wK.eq_1] at h
  refine goX ?_
  refine jN ?_
  subst h
  exact qH
def gC5 (a0 : List (List UInt8)) (a1 : List UInt8) : Bool :=
(decide ((gKt a0 a1) ≥ 0))
theorem gTx (a0 : List (List UInt8)) (a1 : List UInt8) : jB Tryz.prog 64 [.L 1 (gY a0), .S a1] [.b (gC5 a0 a1)] := by
 obtain ⟨r, h⟩ : ∃ r, gC5 a0 a1 = r := ⟨_, rfl⟩
 rw [h]
 unfold gC5 at h
 refine SpI Tryz.func64 fun A _ => ?_
 refine goL ?_
 refine jH (gF (hCw a0 a1)) ?_
 refine jN ?_
 subst h
 exact qH
def gIo (u : gD) (l1 : List (List UInt8)) : Option (List (List UInt8)) :=
lt_ ((cnd (u.kind == 1) ((!(gC5 l1 u.name))) (false))) fun b1 =>
(cnd b1 (
gd (l1.length + [u.name].length ≤ 4294967296) (
(some (l1 ++ [u.name])))) (
(some l1)))
theorem gZv (u : gD) (l1 : List (List UInt8)) (v1 : Nat) {r : List (List UInt8)} (h : gIo u l1 = some r) : Go.Eng.Spec Tryz.prog 63 [.d (jQ u), .ptr 0 0] [.box [.sl 1 v1], .own 9 1 v1 (gY l1)] (fun sv Lo => ∃ v'1, sv = .tup [] ∧ Lo = [.box [.sl 1 v'1], .own 9 1 v'1 (gY r)]) := by
 obtain ⟨u_0, u_1, u_2⟩ := u
 unfold gIo at h
 refine kY 2 Tryz.func63 rfl (by kernel_rfl) rfl rfl fun A _ => ?_
 refine goL ?_
 obtain ⟨b1, hb1, h⟩ := qU h
 refine jU ⟨[(1, .ptr 0 0), (2, .ptr 2 0), (12, .B b1)], [.box [.sl 1 v1], .own 9 1 v1 (gY l1), .box [.I u_0, .S u_1, .L 3 (gJ u_2)]], Tryz.f63.ntmps⟩ ?_ ?_
 ·refine gQ 6 (fun c2 => ?_) (fun c2 => ?_)
  ·replace hb1 := gW c2 hb1
   refine goL ?_
   refine uB ?_
   refine gFj (gSm (gTx l1 u_1)) ?_
   cases hb1
   exact eJ
  ·replace hb1 := gX c2 hb1
   refine goL ?_
   cases hb1
   exact eJ
 refine goC h ?_ ?_<;>intro c3 h
 ·refine goL ?_
  refine gA7 u_1 ?_
  obtain ⟨g4, h⟩ := pF h
  refine gGo g4 ?_
  refine goL ?_
  obtain rfl := Option.some.inj h
  exact hKw [] [.box [.sl 1 (v1 + 1)], .own 9 1 (v1 + 1) (gY (l1 ++ [u_1]))] ⟨(v1 + 1), rfl, rfl⟩
 ·refine gA6 ?_
  show qY _ _ _ _ _ _
  obtain rfl := Option.some.inj h
  exact hKw [] [.box [.sl 1 v1], .own 9 1 v1 (gY l1)] ⟨v1, rfl, rfl⟩
def wV (rec_eachVars : gD → (List (List UInt8)) → Option (List (List UInt8))) : List gD → (List (List UInt8)) → Option (List (List UInt8))
 | [], y3 => (some y3)
 | x8 :: xs, y3 => bnd (rec_eachVars x8 y3) fun x9 =>
wV rec_eachVars xs x9
def gI3 (rec_eachVars : gD → (List (List UInt8)) → Option (List (List UInt8))) (u : gD) (l1 : List (List UInt8)) : Option (List (List UInt8)) :=
bnd (gIo u l1) fun x1 =>
wV rec_eachVars u.args x1
theorem gWc {rec_eachVars : gD → (List (List UInt8)) → Option (List (List UInt8))} (hrec_eachVars : ∀ (x0 : gD) (x1 : List (List UInt8)) (w0 : Nat) {r : List (List UInt8)}, rec_eachVars x0 x1 = some r → Go.Eng.Spec Tryz.prog 62 [.d (jQ x0), .fn 63 [.ptr 0 0]] [.box [.sl 1 w0], .own 9 1 w0 (gY x1)] (fun sv Lo => ∃ v'1, sv = .tup [] ∧ Lo = [.box [.sl 1 v'1], .own 9 1 v'1 (gY r)])) (u : gD) (l1 : List (List UInt8)) (v1 : Nat) {r : List (List UInt8)} (h : gI3 rec_eachVars u l1 = some r) : Go.Eng.Spec Tryz.prog 62 [.d (jQ u), .fn 63 [.ptr 0 0]] [.box [.sl 1 v1], .own 9 1 v1 (gY l1)] (fun sv Lo => ∃ v'1, sv = .tup [] ∧ Lo = [.box [.sl 1 v'1], .own 9 1 v'1 (gY r)]) := by
 obtain ⟨u_0, u_1, u_2⟩ := u
 unfold gI3 at h
 refine kY 2 Tryz.func62 rfl (by kernel_rfl) rfl rfl fun A _ => ?_
 refine goL ?_
 obtain ⟨x1, hx1, h⟩ := gK h
 refine gGc [0, 1] (gZv (gD.mk u_0 u_1 u_2) l1 v1 hx1) ?_
 rintro _ _ ⟨v2, rfl, rfl⟩
 show VO _ _ _ _ ⟨(_, .tup []) :: _, [.box [.sl 1 v2], .own 9 1 v2 (gY x1), .box [.I u_0, .S u_1, .L 3 (gJ u_2)]], _⟩ _
 refine goL ?_
 refine noB ?_
 refine gEk 10 (fun z6 => ?_)
 refine kQ (fun (y5 : Nat) (y3 : List (List UInt8)) (v4 : Nat) => ⟨[(1, .fn 63 [.ptr 0 0]), (10, .L 3 (gJ u_2)), (11, .I (u_2.length : Int)), (12, .N y5)], [.box [.sl 1 v4], .own 9 1 v4 (gY y3), .box [.I u_0, .S u_1, .L 3 (gJ u_2)]], Tryz.f62.ntmps⟩) (fun y5 y3 v4 => wV rec_eachVars (u_2.drop y5) y3 = some r) (fun y5 y3 v4 => u_2.length - y5) 0 x1 v2 eJ h ?_
 rintro y5 y3 v4 h
 refine goL ?_
 refine kD (mF (fun c7 => ?_) (fun c7 => ?_))
 ·have hky52 := vO c7
  obtain ⟨x8, hx8, hdx8⟩ := drop_at hky52
  rw [hdx8, wV.eq_2] at h
  obtain ⟨x8_0, x8_1, x8_2⟩ := x8
  refine noS ?_
  refine kD (jC ?_)
  refine goL ?_
  refine jH (jJ y5 (gA5 hx8)) ?_
  obtain ⟨x9, hx9, h⟩ := gK h
  refine gGc [0, 1] (hrec_eachVars (gD.mk x8_0 x8_1 x8_2) y3 v4 hx9) ?_
  rintro _ _ ⟨v10, rfl, rfl⟩
  show VO _ _ _ _ ⟨(_, .tup []) :: _, [.box [.sl 1 v10], .own 9 1 v10 (gY x9), .box [.I u_0, .S u_1, .L 3 (gJ u_2)], .box [.I x8_0, .S x8_1, .L 3 (gJ x8_2)]], _⟩ _
  refine goL ?_
  refine jH (jT y5 (by omega)) ?_
  exact ⟨(y5 + 1), x9, v10, h, by omega, eJ⟩
 ·have hky52 := vP c7
  rw [jE hky52, wV.eq_1] at h
  refine gRl ?_
  show qY _ _ _ _ _ _
  obtain rfl := Option.some.inj h
  exact hKw [] [.box [.sl 1 v4], .own 9 1 v4 (gY y3)] ⟨v4, rfl, rfl⟩
def gEu : Nat → gD → (List (List UInt8)) → Option (List (List UInt8))
 | 0, _, _ => none
 | n + 1, x0, x1 => gI3 (gEu n) x0 x1
theorem gWd : ∀ (n : Nat) (x0 : gD) (x1 : List (List UInt8)) (w0 : Nat) {r : List (List UInt8)}, gEu n x0 x1 = some r → Go.Eng.Spec Tryz.prog 62 [.d (jQ x0), .fn 63 [.ptr 0 0]] [.box [.sl 1 w0], .own 9 1 w0 (gY x1)] (fun sv Lo => ∃ v'1, sv = .tup [] ∧ Lo = [.box [.sl 1 v'1], .own 9 1 v'1 (gY r)]) := by
 intro n
 induction n with
 | zero => intro x0 x1 w0 r h; cases h
 | succ n ih => intro x0 x1 w0 r h; exact gWc ih x0 x1 w0 h
def gJf (k : Int) (n : List UInt8) (l : List (List UInt8)) : List (List UInt8) := if k = 1 ∧ n ∉ l then l ++ [n] else l
mutual
def gHv : gD → List (List UInt8) → List (List UInt8)
 | ⟨k, n, ts⟩, l => gF9 ts (gJf k n l)
def gF9 : List gD → List (List UInt8) → List (List UInt8)
 | [], l => l
 | a :: ts, l => gF9 ts (gHv a l)
end
theorem gO7 (k : Int) (n : List UInt8) (l : List (List UInt8)) : (gJf k n l).length ≤ l.length + 1 := by
 unfold gJf
 split
 ·simp
 ·omega
mutual
theorem gN5 : ∀ (t : gD) (l : List (List UInt8)), (gHv t l).length ≤ l.length + tnd t
 | ⟨k, n, ts⟩, l => by
   simp only [gHv, tnd]
   have h1 := gO8 ts (gJf k n l)
   have h2 := gO7 k n l
   omega
theorem gO8 : ∀ (ts : List gD) (l : List (List UInt8)), (gF9 ts l).length ≤ l.length + gA8 ts
 | [], l => by simp [gF9]
 | a :: ts, l => by
   simp only [gF9, gA8]
   have h1 := gO8 ts (gHv a l)
   have h2 := gN5 a l
   omega
end
theorem gO9 (a : List UInt8) : ∀ (l : List (List UInt8)) (k : Nat), 0 ≤ wK a l k ↔ a ∈ l
 | [], k => by simp [wK]
 | x :: l, k => by
   by_cases h : a = x
   ·subst h
    simp [wK, cnd]
   ·have h1 : (a == x) = false := by simpa using h
    have h2 : wK a (x :: l) k = wK a l (k + 1) := by simp [wK, h1, cnd]
    rw [h2, gO9 a l (k + 1)]
    simp [h]
theorem gSi (l : List (List UInt8)) (a : List UInt8) : gC5 l a = decide (a ∈ l) := by
 unfold gC5 gKt
 exact decide_eq_decide.2 (gO9 a l 0)
theorem gWe (u : gD) (l : List (List UInt8)) (h : l.length + 1 ≤ 4294967296) : gIo u l = some (gJf u.kind u.name l) := by
 unfold gIo lt_ gJf
 rw [gSi]
 by_cases h1 : u.kind = 1
 ·by_cases h2 : u.name ∈ l
  ·simp [h1, h2, cnd]
  ·simp only [h1, h2, decide_false, Bool.not_false, beq_self_eq_true, jI, not_false_eq_true, and_self, if_true]
   rw [pQ (by simpa using h)]
 ·have : (u.kind == 1) = false := by simpa using h1
  simp [this, h1, cnd]
theorem gJg {n : Nat} (ih : ∀ (t : gD) (l : List (List UInt8)), tnd t ≤ n → l.length + tnd t ≤ 4294967296 → gEu n t l = some (gHv t l)) :
  ∀ (xs : List gD) (l : List (List UInt8)), gA8 xs ≤ n → l.length + gA8 xs ≤ 4294967296 → wV (gEu n) xs l = some (gF9 xs l)
 | [], l, _, _ => by simp [wV, gF9]
 | x :: xs, l, h1, h2 => by
   simp only [gA8] at h1 h2
   simp only [wV, gF9]
   rw [ih x l (by omega) (by omega)]
   have := gN5 x l
   exact gJg ih xs _ (by omega) (by omega)
theorem gN6 : ∀ (n : Nat) (t : gD) (l : List (List UInt8)), tnd t ≤ n → l.length + tnd t ≤ 4294967296 → gEu n t l = some (gHv t l)
 | 0, ⟨k, nm, ts⟩, l, h, _ => by simp only [tnd] at h; omega
 | n + 1, ⟨k, nm, ts⟩, l, h1, h2 => by
   simp only [tnd] at h1 h2
   simp only [gEu, gI3, gHv]
   rw [gWe _ _ (by omega)]
   have := gO7 k nm l
   exact gJg (gN6 n) ts (gJf k nm l) (by omega) (by omega)
theorem gWf (x0 : gD) (x1 : List (List UInt8)) (w0 : Nat) (h : x1.length + tnd x0 ≤ 4294967296) : Go.Eng.Spec Tryz.prog 62 [.d (jQ x0), .fn 63 [.ptr 0 0]] [.box [.sl 1 w0], .own 9 1 w0 (gY x1)] (fun sv Lo => ∃ v'1, sv = .tup [] ∧ Lo = [.box [.sl 1 v'1], .own 9 1 v'1 (gY (gHv x0 x1))]) := gWd (tnd x0) x0 x1 w0 (gN6 _ _ _ (Nat.le_refl _) h)
def wP : List gD → (List (List UInt8)) → Option (List (List UInt8))
 | [], y1 => (some y1)
 | x6 :: xs, y1 => gd (y1.length + tnd x6 ≤ 4294967296) (lt_ (gHv x6 y1) fun x7 =>
wP xs x7)
def gEp (a0 : List gD) : Option (List (List UInt8)) :=
wP a0 []
theorem gQv (a0 : List gD) {r : List (List UInt8)} (h : gEp a0 = some r) : kR Tryz.prog 48 [.L 3 (gJ a0)] [9] [.sl 1 (gY r)] := by
 unfold gEp at h
 refine qJ Tryz.func48 rfl (by kernel_rfl) rfl (by simp) fun A _ => ?_
 refine goL ?_
 refine gFh ?_
 refine goL ?_
 refine noB ?_
 refine gEk 7 (fun z4 => ?_)
 refine kQ (fun (y3 : Nat) (y1 : List (List UInt8)) (v2 : Nat) => ⟨[(3, .ptr 1 0), (7, .L 3 (gJ a0)), (8, .I (a0.length : Int)), (9, .N y3)], [.own 9 1 v2 (gY y1), .box [.sl 0 v2]], Tryz.f48.ntmps⟩) (fun y3 y1 v2 => wP (a0.drop y3) y1 = some r) (fun y3 y1 v2 => a0.length - y3) 0 [] 0 eJ h ?_
 rintro y3 y1 v2 h
 refine goL ?_
 refine kD (mF (fun c5 => ?_) (fun c5 => ?_))
 ·have hky32 := vO c5
  obtain ⟨x6, hx6, hdx6⟩ := drop_at hky32
  rw [hdx6, wP.eq_2] at h
  obtain ⟨x6_0, x6_1, x6_2⟩ := x6
  refine noS ?_
  refine kD (jC ?_)
  refine goL ?_
  refine jH (jJ y3 (gA5 hx6)) ?_
  refine qQ (hEt) ?_
  obtain ⟨g8, h⟩ := pF h
  obtain ⟨x7, hx7, h⟩ := qU h
  have sx7 := gWf (gD.mk x6_0 x6_1 x6_2) y1 v2 g8
  rw [hx7] at sx7
  refine gGc [1, 0] (sx7) ?_
  rintro _ _ ⟨v9, rfl, rfl⟩
  show VO _ _ _ _ ⟨(_, .tup []) :: _, [.own 9 1 v9 (gY x7), .box [.sl 0 v9], .box [.I x6_0, .S x6_1, .L 3 (gJ x6_2)]], _⟩ _
  refine goL ?_
  refine jH (jT y3 (by omega)) ?_
  exact ⟨(y3 + 1), x7, v9, h, by omega, eJ⟩
 ·have hky32 := vP c5
  rw [jE hky32, wP.eq_1] at h
  refine goX ?_
  refine jN ?_
  obtain rfl := Option.some.inj h
  exact gOf
def yS (a0 : gD) : Option (List (List UInt8)) :=
bnd (gEp [a0]) fun x1 =>
(some x1)
theorem gIp (a0 : gD) {r : List (List UInt8)} (h : yS a0 = some r) : kR Tryz.prog 23 [.d (jQ a0)] [9] [.sl 1 (gY r)] := by
 obtain ⟨a0_0, a0_1, a0_2⟩ := a0
 unfold yS at h
 refine qJ Tryz.func23 rfl (by kernel_rfl) rfl (by simp) fun A _ => ?_
 refine goL ?_
 refine gBc (u := (.st [.i .i64 a0_0, .s a0_1, .sl 3 (gJ a0_2)])) ?_
 obtain ⟨x1, hx1, h⟩ := gK h
 refine gI7 (gQv [(gD.mk a0_0 a0_1 a0_2)] hx1) ?_
 refine goL ?_
 refine jN ?_
 obtain rfl := Option.some.inj h
 exact gOf
def gGv (a0 : Int) : Bool :=
lt_ ((cnd (decide (a0 ≥ 48)) ((decide (a0 ≤ 57))) (false))) fun b1 =>
b1
theorem gZw (a0 : Int) : jB Tryz.prog 49 [.d (.i .u8 a0)] [.b (gGv a0)] := by
 obtain ⟨r, h⟩ : ∃ r, gGv a0 = r := ⟨_, rfl⟩
 rw [h]
 unfold gGv at h
 refine SpI Tryz.func49 fun A _ => ?_
 refine goL ?_
 obtain ⟨b1, hb1, h⟩ := qU h
 refine jU ⟨[(2, .B b1)], [], Tryz.f49.ntmps⟩ ?_ ?_
 ·refine gQ 5 (fun c2 => ?_) (fun c2 => ?_)
  ·replace hb1 := gW c2 hb1
   refine goL ?_
   cases hb1
   exact eJ
  ·replace hb1 := gX c2 hb1
   refine goL ?_
   cases hb1
   exact eJ
 refine goL ?_
 refine jN ?_
 subst h
 exact qH
def vI : List UInt8 → Option (Bool)
 | [] => (some true)
 | x11 :: xs => (cnd (!(gGv (x11.toNat : Int))) (
(some false)) (
vI xs ))
def zI (a0 : List UInt8) : Option (Bool) :=
bnd ((cnd (decide ((a0.length : Int) < 2)) ((some true)) (bnd (at? a0 0) fun x3 =>
(cnd ((x3.toNat : Int) != 63) ((some true)) ((cnd (decide ((a0.length : Int) > 2)) (bnd (at? a0 1) fun x6 =>
(some ((x6.toNat : Int) == 48))) ((some false)))))))) fun b1 =>
(cnd b1 (
(some false)) (
vI (a0.drop 1) ))
theorem gKu (a0 : List UInt8) {r : Bool} (h : zI a0 = some r) : jB Tryz.prog 24 [.S a0] [.b r] := by
 unfold zI at h
 refine SpI Tryz.func24 fun A _ => ?_
 refine goL ?_
 obtain ⟨b1, hb1, h⟩ := gK h
 refine jU ⟨[(0, .S a0), (21, .B b1)], [], Tryz.f24.ntmps⟩ ?_ ?_
 ·refine gQ 7 (fun c2 => ?_) (fun c2 => ?_)
  ·replace hb1 := gW c2 hb1
   refine goL ?_
   cases hb1
   exact eJ
  ·replace hb1 := gX c2 hb1
   refine goL ?_
   refine uB ?_
   obtain ⟨x3, hx3, hb1⟩ := gK hb1
   obtain ⟨hx30, hx3⟩ := gD9 hx3
   refine jH (gGm hx30 hx3) ?_
   refine gQ 12 (fun c4 => ?_) (fun c4 => ?_)
   ·replace hb1 := gW c4 hb1
    refine goL ?_
    cases hb1
    exact eJ
   ·replace hb1 := gX c4 hb1
    refine goL ?_
    refine gQ 16 (fun c5 => ?_) (fun c5 => ?_)
    ·replace hb1 := gW c5 hb1
     refine goL ?_
     refine uB ?_
     obtain ⟨x6, hx6, hb1⟩ := gK hb1
     obtain ⟨hx60, hx6⟩ := gD9 hx6
     refine jH (gGm hx60 hx6) ?_
     cases hb1
     exact eJ
    ·replace hb1 := gX c5 hb1
     refine goL ?_
     cases hb1
     exact eJ
 refine goC h ?_ ?_<;>intro c7 h
 ·exact goR h
 ·refine goS ?_
  refine noB ?_
  refine gYb 0 (fun z9 => ?_)
  refine mY (fun (y8 : Nat) => ⟨[(0, .S a0), (3, .N y8)], [], Tryz.f24.ntmps⟩) (fun y8 => vI (a0.drop y8)  = some r) (fun y8 => a0.length - y8) 1 eJ h ?_
  rintro y8 h
  refine goL ?_
  refine mF (fun c10 => ?_) (fun c10 => ?_)
  ·have hky82 := hF6 c10
   obtain ⟨x11, hx11, hdx11⟩ := drop_at hky82
   rw [hdx11, vI.eq_2] at h
   refine noS ?_
   refine kD (jC ?_)
   refine goL ?_
   refine qQ (gD6 y8 hx11) ?_
   refine jH (gF (gZw (x11.toNat : Int))) ?_
   refine mF (fun c12 => ?_) (fun c12 => ?_)
   ·replace h := gW c12 h
    exact goR h
   ·replace h := gX c12 h
    refine goS ?_
    refine jH (jT y8 (by omega)) ?_
    exact ⟨(y8 + 1), h, by omega, eJ⟩
  ·have hky82 := hF7 c10
   rw [jE hky82, vI.eq_1] at h
   refine goX ?_
   refine jN ?_
   cases h
   exact qH
def gAq : List UInt8 → Option (Bool)
 | [] => (some true)
 | x12 :: xs => lt_ ((cnd (decide ((x12.toNat : Int) < 48)) (true) ((decide ((x12.toNat : Int) > 57))))) fun b13 =>
(cnd b13 (
(some false)) (
gAq xs ))
def gDz (a0 : gD) : Option (Bool) :=
bnd ((cnd (a0.kind != 1) ((some true)) ((cnd (decide ((a0.name.length : Int) < 2)) ((some true)) (bnd (at? a0.name 0) fun x4 =>
(cnd ((x4.toNat : Int) != 63) ((some true)) (bnd (at? a0.name 1) fun x6 =>
(cnd ((x6.toNat : Int) == 48) ((some (decide ((a0.name.length : Int) > 2)))) ((some false)))))))))) fun b1 =>
(cnd b1 (
(some false)) (
gAq (a0.name.drop 1) ))
theorem gKv (a0 : gD) {r : Bool} (h : gDz a0 = some r) : jB Tryz.prog 25 [.d (jQ a0)] [.b r] := by
 obtain ⟨a0_0, a0_1, a0_2⟩ := a0
 unfold gDz at h
 refine SpI Tryz.func25 fun A _ => ?_
 refine goL ?_
 obtain ⟨b1, hb1, h⟩ := gK h
 refine jU ⟨[(1, .ptr 0 0), (3, .I (a0_1.length : Int)), (30, .B b1)], [.box [.I a0_0, .S a0_1, .L 3 (gJ a0_2)]], Tryz.f25.ntmps⟩ ?_ ?_
 ·refine gQ 11 (fun c2 => ?_) (fun c2 => ?_)
  ·replace hb1 := gW c2 hb1
   refine goL ?_
   cases hb1
   exact eJ
  ·replace hb1 := gX c2 hb1
   refine goL ?_
   refine gQ 15 (fun c3 => ?_) (fun c3 => ?_)
   ·replace hb1 := gW c3 hb1
    refine goL ?_
    cases hb1
    exact eJ
   ·replace hb1 := gX c3 hb1
    refine goL ?_
    refine uB ?_
    obtain ⟨x4, hx4, hb1⟩ := gK hb1
    obtain ⟨hx40, hx4⟩ := gD9 hx4
    refine jH (gGm hx40 hx4) ?_
    refine gQ 21 (fun c5 => ?_) (fun c5 => ?_)
    ·replace hb1 := gW c5 hb1
     refine goL ?_
     cases hb1
     exact eJ
    ·replace hb1 := gX c5 hb1
     refine goL ?_
     refine uB ?_
     obtain ⟨x6, hx6, hb1⟩ := gK hb1
     obtain ⟨hx60, hx6⟩ := gD9 hx6
     refine jH (gGm hx60 hx6) ?_
     refine gQ 26 (fun c7 => ?_) (fun c7 => ?_)
     ·replace hb1 := gW c7 hb1
      refine goL ?_
      cases hb1
      exact eJ
     ·replace hb1 := gX c7 hb1
      refine goL ?_
      cases hb1
      exact eJ
 refine goC h ?_ ?_<;>intro c8 h
 ·exact goR h
 ·refine goS ?_
  refine noB ?_
  refine hG8 0 1 (fun z10 => ?_)
  refine mY (fun (y9 : Nat) => ⟨[(1, .ptr 0 0), (3, .I (a0_1.length : Int)), (4, .N y9)], [.box [.I a0_0, .S a0_1, .L 3 (gJ a0_2)]], Tryz.f25.ntmps⟩) (fun y9 => gAq (a0_1.drop y9)  = some r) (fun y9 => a0_1.length - y9) 1 eJ h ?_
  rintro y9 h
  refine goL ?_
  refine mF (fun c11 => ?_) (fun c11 => ?_)
  ·have hky92 := hF6 c11
   obtain ⟨x12, hx12, hdx12⟩ := drop_at hky92
   rw [hdx12, gAq.eq_2] at h
   refine noS ?_
   refine kD (jC ?_)
   refine goL ?_
   refine jH (gD6 y9 hx12) ?_
   obtain ⟨b13, hb13, h⟩ := qU h
   refine jU ⟨[(1, .ptr 0 0), (3, .I (a0_1.length : Int)), (4, .N y9), (47, .B b13)], [.box [.I a0_0, .S a0_1, .L 3 (gJ a0_2)]], Tryz.f25.ntmps⟩ ?_ ?_
   ·refine gQ 41 (fun c14 => ?_) (fun c14 => ?_)
    ·replace hb13 := gW c14 hb13
     refine goL ?_
     cases hb13
     exact eJ
    ·replace hb13 := gX c14 hb13
     refine goL ?_
     refine uB ?_
     refine jH (gD6 y9 hx12) ?_
     cases hb13
     exact eJ
   refine goC h ?_ ?_<;>intro c15 h
   ·exact goR h
   ·refine goS ?_
    refine jH (jT y9 (by omega)) ?_
    exact ⟨(y9 + 1), h, by omega, eJ⟩
  ·have hky92 := hF7 c11
   rw [jE hky92, gAq.eq_1] at h
   refine goX ?_
   refine jN ?_
   cases h
   exact qH
def dig (b : UInt8) : Bool := decide (48 ≤ b.toNat) && decide (b.toNat ≤ 57)
def isInf : List UInt8 → Bool
 | b0 :: b1 :: l => (b0.toNat == 63) && !(b1.toNat == 48 && !l.isEmpty) && (b1 :: l).all dig
 | _ => false
theorem gWg (b : UInt8) : gGv (b.toNat : Int) = dig b := by
 unfold gGv lt_ dig
 rw [gX2]
 by_cases h1 : 48 ≤ b.toNat
 ·have h3 : (decide ((b.toNat : Int) ≥ 48)) = true := decide_eq_true (by omega)
  rw [h3]
  simp [h1]
  omega
 ·have h3 : (decide ((b.toNat : Int) ≥ 48)) = false := by simp; omega
  rw [h3]
  simp [h1]
theorem gN7 : ∀ (l : List UInt8), vI l = some (l.all dig)
 | [] => rfl
 | b :: l => by
   simp only [vI, gWg, List.all_cons]
   cases h : dig b with
   | true => simp [cnd, gN7 l]
   | false => simp [cnd]
theorem gKw : ∀ (l : List UInt8), gAq l = some (l.all dig)
 | [] => rfl
 | b :: l => by
   simp only [gAq, lt_, List.all_cons]
   have key : (cnd (decide ((b.toNat : Int) < 48)) true (decide ((b.toNat : Int) > 57))) = !dig b := by
    unfold dig
    rw [gX2]
    by_cases h1 : b.toNat < 48
    ·have h3 : (decide ((b.toNat : Int) < 48)) = true := decide_eq_true (by omega)
     rw [h3]
     have : ¬ 48 ≤ b.toNat := by omega
     simp [this]
    ·have h3 : (decide ((b.toNat : Int) < 48)) = false := by simp; omega
     rw [h3]
     have : 48 ≤ b.toNat := by omega
     simp only [Bool.false_eq_true, if_false, this, decide_true, Bool.true_and]
     by_cases h2 : b.toNat ≤ 57
     ·simp [h2]; omega
     ·simp [h2]; omega
   rw [key]
   cases h : dig b with
   | true => simp [cnd, gKw l]
   | false => simp [cnd]
theorem gJh (s : List UInt8) : zI s = some (isInf s) := by
 match s with
 | [] => rfl
 | [a] => rfl
 | b0 :: b1 :: l =>
   unfold zI
   have h1 : decide (((b0 :: b1 :: l).length : Int) < 2) = false := by simp; omega
   have e0 : at? (b0 :: b1 :: l) 0 = some b0 := rfl
   have e1 : at? (b0 :: b1 :: l) 1 = some b1 := rfl
   rw [h1, e0, e1]
   simp only [gN, bnd, isInf]
   by_cases h2 : b0.toNat = 63
   ·have h3 : ((b0.toNat : Int) != 63) = false := by simp [h2]
    have h4 : (b0.toNat == 63) = true := by simp [h2]
    rw [h3, h4]
    simp only [gN, Bool.true_and, List.drop_succ_cons, List.drop_zero, gN7]
    cases l with
    | nil => simp [cnd]
    | cons b2 l =>
      have h5 : decide (((b0 :: b1 :: b2 :: l).length : Int) > 2) = true := by simp; omega
      rw [h5]
      simp only [jI, List.isEmpty_cons, Bool.not_false, Bool.and_true]
      by_cases h6 : b1.toNat = 48
      ·have h7 : ((b1.toNat : Int) == 48) = true := by simp [h6]
       have h8 : (b1.toNat == 48) = true := by simp [h6]
       rw [h7, h8]
       rfl
      ·have h7 : ((b1.toNat : Int) == 48) = false := by simp; omega
       have h8 : (b1.toNat == 48) = false := by simp [h6]
       rw [h7, h8]
       simp [cnd]
   ·have h3 : ((b0.toNat : Int) != 63) = true := by simp; omega
    have h4 : (b0.toNat == 63) = false := by simp [h2]
    rw [h3, h4]
    rfl
theorem gI4 (t : gD) : gDz t = some ((t.kind == 1) && isInf t.name) := by
 obtain ⟨k, s, ts⟩ := t
 unfold gDz
 by_cases hk : k = 1
 ·have h0 : (k != 1) = false := by simp [hk]
  have h0' : (k == 1) = true := by simp [hk]
  simp only [h0, h0', gN, Bool.true_and]
  match s with
  | [] => rfl
  | [a] => rfl
  | b0 :: b1 :: l =>
    have h1 : decide (((b0 :: b1 :: l).length : Int) < 2) = false := by simp; omega
    have e0 : at? (b0 :: b1 :: l) 0 = some b0 := rfl
    have e1 : at? (b0 :: b1 :: l) 1 = some b1 := rfl
    rw [h1, e0, e1]
    simp only [gN, bnd, isInf]
    by_cases h2 : b0.toNat = 63
    ·have h3 : ((b0.toNat : Int) != 63) = false := by simp [h2]
     have h4 : (b0.toNat == 63) = true := by simp [h2]
     rw [h3, h4]
     simp only [gN, Bool.true_and, List.drop_succ_cons, List.drop_zero, gKw]
     by_cases h6 : b1.toNat = 48
     ·have h7 : ((b1.toNat : Int) == 48) = true := by simp [h6]
      have h8 : (b1.toNat == 48) = true := by simp [h6]
      rw [h7, h8]
      cases l with
      | nil => simp [cnd]
      | cons b2 l =>
        have h5 : decide (((b0 :: b1 :: b2 :: l).length : Int) > 2) = true := by simp; omega
        rw [h5]
        rfl
     ·have h7 : ((b1.toNat : Int) == 48) = false := by simp; omega
      have h8 : (b1.toNat == 48) = false := by simp [h6]
      rw [h7, h8]
      simp [cnd]
    ·have h3 : ((b0.toNat : Int) != 63) = true := by simp; omega
     have h4 : (b0.toNat == 63) = false := by simp [h2]
     rw [h3, h4]
     rfl
 ·have h0 : (k != 1) = true := by simp [hk]
  have h0' : (k == 1) = false := by simp [hk]
  simp only [h0, h0']
  rfl
end Go.Proofs.YtfaplndgbgoaaaaGreat
