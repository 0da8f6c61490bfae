import Derived.Test.YtfaplndgbgoaaaaGreatEng38
import Derived.Test.YtfaplndgbgoaaaaGreatEng67
import Derived.Test.YtfaplndgbgoaaaaGreatZv
import Derived.Test.YtfaplndgbgoaaaaGreatSfi0
set_option maxHeartbeats 4000000
set_option linter.unusedVariables false
set_option linter.unusedSimpArgs false
set_option linter.unusedSectionVars false
namespace Go.Proofs.YtfaplndgbgoaaaaGreat
open Go Go.Eng
attribute [local irreducible] V VO VQ VY Quiet QR jB kR Rng uX vB qY
def gCt (a1 : List UInt8) : List (List UInt8) → Bool
 | [] => false
 | x4 :: xs => (cnd (x4 == a1) (
true) (
gCt a1 xs ))
def vN (a0 : List (List UInt8)) (a1 : List UInt8) : Bool :=
gCt a1 a0
theorem gD1 (a0 : List (List UInt8)) (a1 : List UInt8) : jB Tryz.prog 94 [.L 1 (gY a0), .S a1] [.b (vN a0 a1)] := by
 obtain ⟨r, h⟩ : ∃ r, vN a0 a1 = r := ⟨_, rfl⟩
 rw [h]
 unfold vN at h
 refine SpI Tryz.func94 fun A _ => ?_
 refine goL ?_
 refine noB ?_
 refine gEk 0 (fun z2 => ?_)
 refine mY (fun (y1 : Nat) => ⟨[(0, .L 1 (gY a0)), (1, .S a1), (5, .N y1)], [], Tryz.f94.ntmps⟩) (fun y1 => gCt a1 (a0.drop y1)  = r) (fun y1 => a0.length - y1) 0 eJ h ?_
 rintro y1 h
 refine goL ?_
 refine mF (fun c3 => ?_) (fun c3 => ?_)
 ·have hky12 := vO c3
  obtain ⟨x4, hx4, hdx4⟩ := drop_at hky12
  rw [hdx4, gCt.eq_2] at h
  refine noS ?_
  refine kD (jC ?_)
  refine goL ?_
  refine jH (jJ y1 (gOl hx4)) ?_
  refine mF (fun c5 => ?_) (fun c5 => ?_)
  ·replace h := gW c5 h
   refine goL ?_
   refine jN ?_
   subst h
   exact qH
  ·replace h := gX c5 h
   refine goS ?_
   refine jH (jT y1 (by omega)) ?_
   exact ⟨(y1 + 1), h, by omega, eJ⟩
 ·have hky12 := vP c3
  rw [jE hky12, gCt.eq_1] at h
  refine goX ?_
  refine jN ?_
  subst h
  exact qH
def gBg (rec_l4Vars : gD → (List (List UInt8)) → Option (List (List UInt8))) : List gD → (List (List UInt8)) → Option (List (List UInt8))
 | [], y5 => (some y5)
 | x10 :: xs, y5 => bnd (rec_l4Vars x10 y5) fun x11 =>
gBg rec_l4Vars xs x11
def gBh (rec_l4Vars : gD → (List (List UInt8)) → Option (List (List UInt8))) : List gD → (List (List UInt8)) → Option (List (List UInt8))
 | [], y13 => (some y13)
 | x18 :: xs, y13 => bnd (rec_l4Vars x18 y13) fun x19 =>
gBh rec_l4Vars xs x19
def gL1 (rec_l4Vars : gD → (List (List UInt8)) → Option (List (List UInt8))) (t : gD) (l0 : List (List UInt8)) : Option (List (List UInt8)) :=
lt_ ((cnd (t.kind == 1) ((!(vN l0 t.name))) (false))) fun b1 =>
(cnd b1 (
gd (l0.length + [t.name].length ≤ 4294967296) (
gBg rec_l4Vars t.args (l0 ++ [t.name]))) (
gBh rec_l4Vars t.args l0))
theorem gZ7 {rec_l4Vars : gD → (List (List UInt8)) → Option (List (List UInt8))} (hrec_l4Vars : ∀ (x0 : gD) (x1 : List (List UInt8)) (w0 : Nat) {r : List (List UInt8)}, rec_l4Vars x0 x1 = some r → Go.Eng.Spec Tryz.prog 171 [.d (jQ x0), .sl 0 w0] [.own 9 1 w0 (gY x1)] (fun sv Lo => ∃ v'0, sv = .sl 0 v'0 ∧ Lo = [.own 9 1 v'0 (gY r)])) (t : gD) (l0 : List (List UInt8)) (v0 : Nat) {r : List (List UInt8)} (h : gL1 rec_l4Vars t l0 = some r) : Go.Eng.Spec Tryz.prog 171 [.d (jQ t), .sl 0 v0] [.own 9 1 v0 (gY l0)] (fun sv Lo => ∃ v'0, sv = .sl 0 v'0 ∧ Lo = [.own 9 1 v'0 (gY r)]) := by
 obtain ⟨t_0, t_1, t_2⟩ := t
 unfold gL1 at h
 refine kY 1 Tryz.func171 rfl (by kernel_rfl) rfl rfl fun A _ => ?_
 refine goL ?_
 obtain ⟨b1, hb1, h⟩ := qU h
 refine jU ⟨[(1, .sl 0 v0), (2, .ptr 1 0), (15, .B b1)], [.own 9 1 v0 (gY l0), .box [.I t_0, .S t_1, .L 3 (gJ t_2)]], Tryz.f171.ntmps⟩ ?_ ?_
 ·refine gQ 9 (fun c2 => ?_) (fun c2 => ?_)
  ·replace hb1 := gW c2 hb1
   refine goL ?_
   refine uB ?_
   refine gFj (gSm (gD1 l0 t_1)) ?_
   cases hb1
   exact eJ
  ·replace hb1 := gX c2 hb1
   refine goL ?_
   cases hb1
   exact eJ
 refine goC h ?_ ?_<;>intro c3 h
 ·refine goL ?_
  refine gA7 t_1 ?_
  obtain ⟨g4, h⟩ := pF h
  refine gGo g4 ?_
  refine goL ?_
  refine noB ?_
  refine vJ 1 2 (fun z8 => ?_)
  refine kQ (fun (y7 : Nat) (y5 : List (List UInt8)) (v6 : Nat) => ⟨[(1, .sl 0 v6), (2, .ptr 1 0), (5, .N y7)], [.own 9 1 v6 (gY y5), .box [.I t_0, .S t_1, .L 3 (gJ t_2)], .dead 1], Tryz.f171.ntmps⟩) (fun y7 y5 v6 => gBg rec_l4Vars (t_2.drop y7) y5 = some r) (fun y7 y5 v6 => t_2.length - y7) 0 (l0 ++ [t_1]) (v0 + 1) eJ h ?_
  rintro y7 y5 v6 h
  refine goL ?_
  refine mF (fun c9 => ?_) (fun c9 => ?_)
  ·have hky72 := vO c9
   obtain ⟨x10, hx10, hdx10⟩ := drop_at hky72
   rw [hdx10, gBg.eq_2] at h
   obtain ⟨x10_0, x10_1, x10_2⟩ := x10
   refine noS ?_
   refine kD (jC ?_)
   refine goL ?_
   refine jH (jJ y7 (gA5 hx10)) ?_
   obtain ⟨x11, hx11, h⟩ := gK h
   refine gGc [0] (hrec_l4Vars (gD.mk x10_0 x10_1 x10_2) y5 v6 hx11) ?_
   rintro _ _ ⟨v12, rfl, rfl⟩
   show VO _ _ _ _ ⟨(_, .sl 0 v12) :: _, [.own 9 1 v12 (gY x11), .box [.I t_0, .S t_1, .L 3 (gJ t_2)], .dead 1], _⟩ _
   refine goL ?_
   refine jH (jT y7 (by omega)) ?_
   exact ⟨(y7 + 1), x11, v12, h, by omega, eJ⟩
  ·have hky72 := vP c9
   rw [jE hky72, gBg.eq_1] at h
   refine goX ?_
   refine jN ?_
   obtain rfl := Option.some.inj h
   exact gEl [.sl 0 v6] [.own 9 1 v6 (gY y5)] ⟨v6, rfl, rfl⟩
 ·refine goS ?_
  refine noB ?_
  refine vJ 1 2 (fun z16 => ?_)
  refine kQ (fun (y15 : Nat) (y13 : List (List UInt8)) (v14 : Nat) => ⟨[(1, .sl 0 v14), (2, .ptr 1 0), (5, .N y15)], [.own 9 1 v14 (gY y13), .box [.I t_0, .S t_1, .L 3 (gJ t_2)]], Tryz.f171.ntmps⟩) (fun y15 y13 v14 => gBh rec_l4Vars (t_2.drop y15) y13 = some r) (fun y15 y13 v14 => t_2.length - y15) 0 l0 v0 eJ h ?_
  rintro y15 y13 v14 h
  refine goL ?_
  refine mF (fun c17 => ?_) (fun c17 => ?_)
  ·have hky152 := vO c17
   obtain ⟨x18, hx18, hdx18⟩ := drop_at hky152
   rw [hdx18, gBh.eq_2] at h
   obtain ⟨x18_0, x18_1, x18_2⟩ := x18
   refine noS ?_
   refine kD (jC ?_)
   refine goL ?_
   refine jH (jJ y15 (gA5 hx18)) ?_
   obtain ⟨x19, hx19, h⟩ := gK h
   refine gGc [0] (hrec_l4Vars (gD.mk x18_0 x18_1 x18_2) y13 v14 hx19) ?_
   rintro _ _ ⟨v20, rfl, rfl⟩
   show VO _ _ _ _ ⟨(_, .sl 0 v20) :: _, [.own 9 1 v20 (gY x19), .box [.I t_0, .S t_1, .L 3 (gJ t_2)]], _⟩ _
   refine goL ?_
   refine jH (jT y15 (by omega)) ?_
   exact ⟨(y15 + 1), x19, v20, h, by omega, eJ⟩
  ·have hky152 := vP c17
   rw [jE hky152, gBh.eq_1] at h
   refine goX ?_
   refine jN ?_
   obtain rfl := Option.some.inj h
   exact gEl [.sl 0 v14] [.own 9 1 v14 (gY y13)] ⟨v14, rfl, rfl⟩
def gJ6 : Nat → gD → (List (List UInt8)) → Option (List (List UInt8))
 | 0, _, _ => none
 | n + 1, x0, x1 => gL1 (gJ6 n) x0 x1
theorem gZ8 : ∀ (n : Nat) (x0 : gD) (x1 : List (List UInt8)) (w0 : Nat) {r : List (List UInt8)}, gJ6 n x0 x1 = some r → Go.Eng.Spec Tryz.prog 171 [.d (jQ x0), .sl 0 w0] [.own 9 1 w0 (gY x1)] (fun sv Lo => ∃ v'0, sv = .sl 0 v'0 ∧ Lo = [.own 9 1 v'0 (gY r)]) := by
 intro n
 induction n with
 | zero => intro x0 x1 w0 r h; cases h
 | succ n ih => intro x0 x1 w0 r h; exact gZ7 ih x0 x1 w0 h
theorem gT0 (a : List UInt8) : ∀ l : List (List UInt8), gCt a l = decide (a ∈ l)
 | [] => rfl
 | x :: l => by
   simp only [gCt, gT0 a l]
   by_cases h : x = a
   ·subst h; simp [jI]
   ·rw [beq_false_of_ne h]
    have h' : ¬ a = x := fun e => h e.symm
    simp [gN, h']
theorem gZ9 (l : List (List UInt8)) (a : List UInt8) : vN l a = decide (a ∈ l) := gT0 a l
theorem gJ7 {rec : gD → List (List UInt8) → Option (List (List UInt8))} : ∀ (xs : List gD) (y : List (List UInt8)), (∀ x ∈ xs, ∀ l, l.length + tnd x ≤ 4294967296 → rec x l = some (gHv x l)) → y.length + gA8 xs ≤ 4294967296 → gBg rec xs y = some (gF9 xs y) ∧ gBh rec xs y = some (gF9 xs y)
 | [], y, _, _ => ⟨rfl, rfl⟩
 | x :: xs, y, h, hl => by
   simp only [gA8] at hl
   have h1 := gN5 x y
   simp only [gBg, gBh, gF9]
   rw [h x (by simp) y (by omega)]
   exact gJ7 xs _ (fun z hz => h z (by simp [hz])) (by omega)
theorem gQ2 : ∀ (n : Nat) (t : gD) (l : List (List UInt8)), tnd t ≤ n → l.length + tnd t ≤ 4294967296 → gJ6 n t l = some (gHv t l)
 | 0, t, l, h, _ => by have := gCo t; omega
 | n + 1, ⟨k, s, ts⟩, l, h, hl => by
   simp only [tnd] at h hl
   have hr : ∀ x ∈ ts, ∀ l, l.length + tnd x ≤ 4294967296 → gJ6 n x l = some (gHv x l) := fun x hx l hl => gQ2 n x l (by have := gA9 hx; omega) hl
   simp only [gJ6, gL1, lt_, gZ9, gHv, gJf]
   by_cases hk : k = 1
   ·by_cases hs : s ∈ l
    ·simp only [hk, hs, beq_self_eq_true, jI, decide_true, Bool.not_true, gN]
     simp only [not_true, and_false, if_false]
     exact (gJ7 ts l hr (by omega)).2
    ·simp only [hk, hs, beq_self_eq_true, jI, decide_false, Bool.not_false]
     simp only [not_false_eq_true, and_self, if_true]
     rw [pQ (by simp; omega)]
     exact (gJ7 ts (l ++ [s]) hr (by simp; omega)).1
   ·simp only [beq_false_of_ne hk, gN, hk, false_and, if_false]
    exact (gJ7 ts l hr (by omega)).2
theorem hAa (x0 : gD) (x1 : List (List UInt8)) (w0 : Nat) (h : (x1 : List (List UInt8)).length + tnd x0 ≤ 4294967296) : Go.Eng.Spec Tryz.prog 171 [.d (jQ x0), .sl 0 w0] [.own 9 1 w0 (gY x1)] (fun sv Lo => ∃ v'0, sv = .sl 0 v'0 ∧ Lo = [.own 9 1 v'0 (gY (gHv x0 x1))]) := gZ8 (tnd x0) x0 x1 w0 (gQ2 _ _ _ (Nat.le_refl _) h)
def gD2 (a0 : gD) : Option (List (List UInt8)) :=
gd (([] : List (List UInt8)).length + tnd a0 ≤ 4294967296) (lt_ (gHv a0 []) fun x1 =>
(some x1))
theorem gLv (a0 : gD) {r : List (List UInt8)} (h : gD2 a0 = some r) : jB Tryz.prog 157 [.d (jQ a0)] [.sl 1 (gY r)] := by
 obtain ⟨a0_0, a0_1, a0_2⟩ := a0
 unfold gD2 at h
 refine SpI Tryz.func157 fun A _ => ?_
 refine goL ?_
 refine gFh ?_
 obtain ⟨g2, h⟩ := pF h
 obtain ⟨x1, hx1, h⟩ := qU h
 have sx1 := hAa (gD.mk a0_0 a0_1 a0_2) [] 0 g2
 rw [hx1] at sx1
 refine gGc [1] (sx1) ?_
 rintro _ _ ⟨v3, rfl, rfl⟩
 show VO _ _ _ _ ⟨(_, .sl 1 v3) :: _, [.box [.I a0_0, .S a0_1, .L 3 (gJ a0_2)], .own 9 1 v3 (gY x1)], _⟩ _
 refine goL ?_
 refine wI 1 rfl rfl ?_
 refine jN ?_
 cases h
 exact qH
end Go.Proofs.YtfaplndgbgoaaaaGreat
set_option maxHeartbeats 4000000
set_option linter.unusedVariables false
set_option linter.unusedSimpArgs false
set_option linter.unusedSectionVars false
namespace Go.Proofs.YtfaplndgbgoaaaaGreat
open Go Go.Eng
attribute [local irreducible] V VO VQ VY Quiet QR jB kR Rng uX vB qY
def gEc (a0 : Int) : Bool :=
lt_ ((cnd (decide (a0 ≥ 97)) ((cnd (decide (a0 ≤ 122)) (true) ((cnd (decide (a0 ≥ 48)) ((cnd (decide (a0 ≤ 57)) (true) ((cnd (a0 == 39) (true) ((cnd (a0 == 45) (true) ((cnd (a0 == 43) (true) ((cnd (a0 == 42) (true) ((cnd (a0 == 60) (true) ((cnd (a0 == 61) (true) ((a0 == 46)))))))))))))))) ((cnd (a0 == 39) (true) ((cnd (a0 == 45) (true) ((cnd (a0 == 43) (true) ((cnd (a0 == 42) (true) ((cnd (a0 == 60) (true) ((cnd (a0 == 61) (true) ((a0 == 46)))))))))))))))))) ((cnd (decide (a0 ≥ 48)) ((cnd (decide (a0 ≤ 57)) (true) ((cnd (a0 == 39) (true) ((cnd (a0 == 45) (true) ((cnd (a0 == 43) (true) ((cnd (a0 == 42) (true) ((cnd (a0 == 60) (true) ((cnd (a0 == 61) (true) ((a0 == 46)))))))))))))))) ((cnd (a0 == 39) (true) ((cnd (a0 == 45) (true) ((cnd (a0 == 43) (true) ((cnd (a0 == 42) (true) ((cnd (a0 == 60) (true) ((cnd (a0 == 61) (true) ((a0 == 46)))))))))))))))))) fun b1 =>
b1
theorem gT1 (a0 : Int) : jB Tryz.prog 83 [.d (.i .u8 a0)] [.b (gEc a0)] := by
 obtain ⟨r, h⟩ : ∃ r, gEc a0 = r := ⟨_, rfl⟩
 rw [h]
 unfold gEc at h
 refine SpI Tryz.func83 fun A _ => ?_
 refine goL ?_
 obtain ⟨b1, hb1, h⟩ := qU h
 refine jU ⟨[(2, .B b1)], [], Tryz.f83.ntmps⟩ ?_ ?_
 ·refine gQ 5 (fun c2 => ?_) (fun c2 => ?_)
  ·replace hb1 := gW c2 hb1
   refine goL ?_
   refine gQ 9 (fun c3 => ?_) (fun c3 => ?_)
   ·replace hb1 := gW c3 hb1
    refine goL ?_
    cases hb1
    exact eJ
   ·replace hb1 := gX c3 hb1
    refine goL ?_
    refine gQ 12 (fun c4 => ?_) (fun c4 => ?_)
    ·replace hb1 := gW c4 hb1
     refine goL ?_
     refine gQ 17 (fun c5 => ?_) (fun c5 => ?_)
     ·replace hb1 := gW c5 hb1
      refine goL ?_
      cases hb1
      exact eJ
     ·replace hb1 := gX c5 hb1
      refine goL ?_
      refine gQ 21 (fun c6 => ?_) (fun c6 => ?_)
      ·replace hb1 := gW c6 hb1
       refine goL ?_
       cases hb1
       exact eJ
      ·replace hb1 := gX c6 hb1
       refine goL ?_
       refine gQ 25 (fun c7 => ?_) (fun c7 => ?_)
       ·replace hb1 := gW c7 hb1
        refine goL ?_
        cases hb1
        exact eJ
       ·replace hb1 := gX c7 hb1
        refine goL ?_
        refine gQ 29 (fun c8 => ?_) (fun c8 => ?_)
        ·replace hb1 := gW c8 hb1
         refine goL ?_
         cases hb1
         exact eJ
        ·replace hb1 := gX c8 hb1
         refine goL ?_
         refine gQ 33 (fun c9 => ?_) (fun c9 => ?_)
         ·replace hb1 := gW c9 hb1
          refine goL ?_
          cases hb1
          exact eJ
         ·replace hb1 := gX c9 hb1
          refine goL ?_
          refine gQ 37 (fun c10 => ?_) (fun c10 => ?_)
          ·replace hb1 := gW c10 hb1
           refine goL ?_
           cases hb1
           exact eJ
          ·replace hb1 := gX c10 hb1
           refine goL ?_
           refine gQ 41 (fun c11 => ?_) (fun c11 => ?_)
           ·replace hb1 := gW c11 hb1
            refine goL ?_
            cases hb1
            exact eJ
           ·replace hb1 := gX c11 hb1
            refine goL ?_
            cases hb1
            exact eJ
    ·replace hb1 := gX c4 hb1
     refine goL ?_
     refine gQ 21 (fun c12 => ?_) (fun c12 => ?_)
     ·replace hb1 := gW c12 hb1
      refine goL ?_
      cases hb1
      exact eJ
     ·replace hb1 := gX c12 hb1
      refine goL ?_
      refine gQ 25 (fun c13 => ?_) (fun c13 => ?_)
      ·replace hb1 := gW c13 hb1
       refine goL ?_
       cases hb1
       exact eJ
      ·replace hb1 := gX c13 hb1
       refine goL ?_
       refine gQ 29 (fun c14 => ?_) (fun c14 => ?_)
       ·replace hb1 := gW c14 hb1
        refine goL ?_
        cases hb1
        exact eJ
       ·replace hb1 := gX c14 hb1
        refine goL ?_
        refine gQ 33 (fun c15 => ?_) (fun c15 => ?_)
        ·replace hb1 := gW c15 hb1
         refine goL ?_
         cases hb1
         exact eJ
        ·replace hb1 := gX c15 hb1
         refine goL ?_
         refine gQ 37 (fun c16 => ?_) (fun c16 => ?_)
         ·replace hb1 := gW c16 hb1
          refine goL ?_
          cases hb1
          exact eJ
         ·replace hb1 := gX c16 hb1
          refine goL ?_
          refine gQ 41 (fun c17 => ?_) (fun c17 => ?_)
          ·replace hb1 := gW c17 hb1
           refine goL ?_
           cases hb1
           exact eJ
          ·replace hb1 := gX c17 hb1
           refine goL ?_
           cases hb1
           exact eJ
  ·replace hb1 := gX c2 hb1
   refine goL ?_
   refine gQ 12 (fun c18 => ?_) (fun c18 => ?_)
   ·replace hb1 := gW c18 hb1
    refine goL ?_
    refine gQ 17 (fun c19 => ?_) (fun c19 => ?_)
    ·replace hb1 := gW c19 hb1
     refine goL ?_
     cases hb1
     exact eJ
    ·replace hb1 := gX c19 hb1
     refine goL ?_
     refine gQ 21 (fun c20 => ?_) (fun c20 => ?_)
     ·replace hb1 := gW c20 hb1
      refine goL ?_
      cases hb1
      exact eJ
     ·replace hb1 := gX c20 hb1
      refine goL ?_
      refine gQ 25 (fun c21 => ?_) (fun c21 => ?_)
      ·replace hb1 := gW c21 hb1
       refine goL ?_
       cases hb1
       exact eJ
      ·replace hb1 := gX c21 hb1
       refine goL ?_
       refine gQ 29 (fun c22 => ?_) (fun c22 => ?_)
       ·replace hb1 := gW c22 hb1
        refine goL ?_
        cases hb1
        exact eJ
       ·replace hb1 := gX c22 hb1
        refine goL ?_
        refine gQ 33 (fun c23 => ?_) (fun c23 => ?_)
        ·replace hb1 := gW c23 hb1
         refine goL ?_
         cases hb1
         exact eJ
        ·replace hb1 := gX c23 hb1
         refine goL ?_
         refine gQ 37 (fun c24 => ?_) (fun c24 => ?_)
         ·replace hb1 := gW c24 hb1
          refine goL ?_
          cases hb1
          exact eJ
         ·replace hb1 := gX c24 hb1
          refine goL ?_
          refine gQ 41 (fun c25 => ?_) (fun c25 => ?_)
          ·replace hb1 := gW c25 hb1
           refine goL ?_
           cases hb1
           exact eJ
          ·replace hb1 := gX c25 hb1
           refine goL ?_
           cases hb1
           exact eJ
   ·replace hb1 := gX c18 hb1
    refine goL ?_
    refine gQ 21 (fun c26 => ?_) (fun c26 => ?_)
    ·replace hb1 := gW c26 hb1
     refine goL ?_
     cases hb1
     exact eJ
    ·replace hb1 := gX c26 hb1
     refine goL ?_
     refine gQ 25 (fun c27 => ?_) (fun c27 => ?_)
     ·replace hb1 := gW c27 hb1
      refine goL ?_
      cases hb1
      exact eJ
     ·replace hb1 := gX c27 hb1
      refine goL ?_
      refine gQ 29 (fun c28 => ?_) (fun c28 => ?_)
      ·replace hb1 := gW c28 hb1
       refine goL ?_
       cases hb1
       exact eJ
      ·replace hb1 := gX c28 hb1
       refine goL ?_
       refine gQ 33 (fun c29 => ?_) (fun c29 => ?_)
       ·replace hb1 := gW c29 hb1
        refine goL ?_
        cases hb1
        exact eJ
       ·replace hb1 := gX c29 hb1
        refine goL ?_
        refine gQ 37 (fun c30 => ?_) (fun c30 => ?_)
        ·replace hb1 := gW c30 hb1
         refine goL ?_
         cases hb1
         exact eJ
        ·replace hb1 := gX c30 hb1
         refine goL ?_
         refine gQ 41 (fun c31 => ?_) (fun c31 => ?_)
         ·replace hb1 := gW c31 hb1
          refine goL ?_
          cases hb1
          exact eJ
         ·replace hb1 := gX c31 hb1
          refine goL ?_
          cases hb1
          exact eJ
 refine goL ?_
 refine jN ?_
 subst h
 exact qH
def gGz (rec_l2Left : gB → Int → Option (Int)) (a0 : gB) : Nat → Int → Int → Option (Int)
 | 0, y1, y2 => none
 | n3 + 1, y1, y2 => lt_ ((cnd (decide (y2 < (a0.list.length : Int))) ((decide (y1 ≥ 0))) (false))) fun b4 =>
(cnd b4 (
bnd (at? a0.list y2) fun x7 =>
bnd (rec_l2Left x7 y1) fun x8 =>
gGz rec_l2Left a0 n3 x8 (IntKind.i64.wrap (y2 + 1))) (
(some y1)))
def gPg (rec_l2Left : gB → Int → Option (Int)) (a0 : gB) (a1 : Int) (n0 : Nat) : Option (Int) :=
gGz rec_l2Left a0 n0 (IntKind.i64.wrap (a1 - 1)) 0
theorem hAb {rec_l2Left : gB → Int → Option (Int)} (hrec_l2Left : ∀ (x0 : gB) (x1 : Int) {r : Int}, rec_l2Left x0 x1 = some r → jB Tryz.prog 84 [.d (mD x0), .I x1] [.i .i64 r]) (a0 : gB) (a1 : Int) {n0 : Nat} {r : Int} (h : gPg rec_l2Left a0 a1 n0 = some r) : jB Tryz.prog 84 [.d (mD a0), .I a1] [.i .i64 r] := by
 obtain ⟨a0_0, a0_1⟩ := a0
 unfold gPg at h
 refine SpI Tryz.func84 fun A _ => ?_
 refine goL ?_
 refine jH (qG) ?_
 refine noB ?_
 refine kQ (fun (n3 : Nat) (y1 : Int) (y2 : Int) => ⟨[(1, .I y1), (2, .ptr 0 0), (5, .I y2)], [.box [.S a0_0, .L 2 (gM a0_1)]], Tryz.f84.ntmps⟩) (fun n3 y1 y2 => gGz rec_l2Left (gB.mk a0_0 a0_1) n3 y1 y2 = some r) (fun n3 y1 y2 => n3) n0 (IntKind.i64.wrap (a1 - 1)) 0 eJ h ?_
 rintro n3 y1 y2 h
 rcases n3 with _ | n3
 ·cases h
 rw [gGz.eq_2] at h
 refine goL ?_
 obtain ⟨b4, hb4, h⟩ := qU h
 refine jU ⟨[(1, .I y1), (2, .ptr 0 0), (5, .I y2), (16, .B b4)], [.box [.S a0_0, .L 2 (gM a0_1)]], Tryz.f84.ntmps⟩ ?_ ?_
 ·refine gQ 13 (fun c5 => ?_) (fun c5 => ?_)
  ·replace hb4 := gW c5 hb4
   refine goL ?_
   cases hb4
   exact eJ
  ·replace hb4 := gX c5 hb4
   refine goL ?_
   cases hb4
   exact eJ
 refine goC h ?_ ?_<;>intro c6 h
 ·refine noS ?_
  refine kD (jC ?_)
  refine goL ?_
  obtain ⟨x7, hx7, h⟩ := gK h
  obtain ⟨hx70, hx7⟩ := gD9 hx7
  obtain ⟨x7_0, x7_1⟩ := x7
  refine jH (qV hx70 (qO hx7)) ?_
  obtain ⟨x8, hx8, h⟩ := gK h
  refine jH (gF (hrec_l2Left (gB.mk x7_0 x7_1) y1 hx8)) ?_
  refine jH (qG) ?_
  exact ⟨n3, x8, (IntKind.i64.wrap (y2 + 1)), h, Nat.lt_succ_self _, eJ⟩
 ·refine goX ?_
  refine jN ?_
  cases h
  exact qH
def gPh : Nat → gB → Int → Option (Int)
 | 0, _, _ => none
 | n + 1, x0, x1 => gPg (gPh n) x0 x1 n
theorem hAc : ∀ (n : Nat) (x0 : gB) (x1 : Int) {r : Int}, gPh n x0 x1 = some r → jB Tryz.prog 84 [.d (mD x0), .I x1] [.i .i64 r] := by
 intro n
 induction n with
 | zero => intro x0 x1 r h; cases h
 | succ n ih => intro x0 x1 r h; exact hAb ih x0 x1 h
def gJl (a0 : Int) (a1 : Int) : Int :=
(cnd (decide (a0 > a1)) (
a0) (
a1))
theorem gWx (a0 : Int) (a1 : Int) : jB Tryz.prog 101 [.I a0, .I a1] [.i .i64 (gJl a0 a1)] := by
 obtain ⟨r, h⟩ : ∃ r, gJl a0 a1 = r := ⟨_, rfl⟩
 rw [h]
 unfold gJl at h
 refine SpI Tryz.func101 fun A _ => ?_
 refine goC h ?_ ?_<;>intro c1 h
 ·refine goL ?_
  refine jN ?_
  subst h
  exact qH
 ·refine goS ?_
  refine jN ?_
  subst h
  exact qH
def gDi : List gB → (List (List UInt8)) → Option (List (List UInt8) × Bool)
 | [], y1 => (some (y1, true))
 | x6 :: xs, y1 => (cnd (x6.atom == []) (
(some ([], false))) (
gd (y1.length + [x6.atom].length ≤ 4294967296) (
gDi xs (y1 ++ [x6.atom]))))
def gHz (a0 : List gB) : Option (List (List UInt8) × Bool) :=
gDi a0 []
theorem gMs (a0 : List gB) {r : List (List UInt8) × Bool} (h : gHz a0 = some r) : jB Tryz.prog 77 [.L 2 (gM a0)] [.sl 1 (gY r.1), .b r.2] := by
 unfold gHz at h
 refine SpI Tryz.func77 fun A _ => ?_
 refine goL ?_
 refine gFh ?_
 refine goL ?_
 refine noB ?_
 refine gEk 0 (fun z4 => ?_)
 refine kQ (fun (y3 : Nat) (y1 : List (List UInt8)) (v2 : Nat) => ⟨[(0, .L 2 (gM a0)), (4, .sl 0 v2), (5, .N y3)], [.own 9 1 v2 (gY y1)], Tryz.f77.ntmps⟩) (fun y3 y1 v2 => gDi (a0.drop y3) y1 = some r) (fun y3 y1 v2 => a0.length - y3) 0 [] 0 eJ h ?_
 rintro y3 y1 v2 h
 refine goL ?_
 refine mF (fun c5 => ?_) (fun c5 => ?_)
 ·have hky32 := vO c5
  obtain ⟨x6, hx6, hdx6⟩ := drop_at hky32
  rw [hdx6, gDi.eq_2] at h
  obtain ⟨x6_0, x6_1⟩ := x6
  refine noS ?_
  refine kD (jC ?_)
  refine goL ?_
  refine jH (jJ y3 (qO hx6)) ?_
  refine mF (fun c7 => ?_) (fun c7 => ?_)
  ·replace h := gW c7 h
   refine goL ?_
   refine gFh ?_
   refine goL ?_
   refine wI 1 rfl rfl ?_
   refine jN ?_
   cases h
   exact qH
  ·replace h := gX c7 h
   refine goS ?_
   refine jH (jJ y3 (qO hx6)) ?_
   refine gA7 x6_0 ?_
   obtain ⟨g8, h⟩ := pF h
   refine gGo g8 ?_
   refine goL ?_
   refine jH (jT y3 (by omega)) ?_
   exact ⟨(y3 + 1), (y1 ++ [x6_0]), (v2 + 1), h, by omega, eJ⟩
 ·have hky32 := vP c5
  rw [jE hky32, gDi.eq_1] at h
  refine goX ?_
  refine wI 0 rfl rfl ?_
  refine jN ?_
  cases h
  exact qH
def pX (a0 : gB) (a1 : Int) : Option (gB) :=
(cnd (decide (a1 ≥ (a0.list.length : Int))) (
(some (gB.mk [] []))) (
bnd (at? a0.list a1) fun x2 =>
(some x2)))
theorem qI (a0 : gB) (a1 : Int) {r : gB} (h : pX a0 a1 = some r) : jB Tryz.prog 78 [.d (mD a0), .I a1] [mD r] := by
 obtain ⟨a0_0, a0_1⟩ := a0
 unfold pX at h
 refine SpI Tryz.func78 fun A _ => ?_
 refine goC h ?_ ?_<;>intro c1 h
 ·refine goL ?_
  refine gBm (kE TBd.h TZ.h rfl (by repeat constructor)) ?_
  exact goR h
 ·refine goS ?_
  obtain ⟨x2, hx2, h⟩ := gK h
  obtain ⟨hx20, hx2⟩ := gD9 hx2
  obtain ⟨x2_0, x2_1⟩ := x2
  refine qQ (qV hx20 (qO hx2)) ?_
  exact goR h
def pG (a0 : Int) (a1 : Int) : Int :=
(cnd (decide (a0 < a1)) (
a0) (
a1))
theorem gG0 (a0 : Int) (a1 : Int) : jB Tryz.prog 124 [.I a0, .I a1] [.i .i64 (pG a0 a1)] := by
 obtain ⟨r, h⟩ : ∃ r, pG a0 a1 = r := ⟨_, rfl⟩
 rw [h]
 unfold pG at h
 refine SpI Tryz.func124 fun A _ => ?_
 refine goC h ?_ ?_<;>intro c1 h
 ·refine goL ?_
  refine jN ?_
  subst h
  exact qH
 ·refine goS ?_
  refine jN ?_
  subst h
  exact qH
def gE1 (a0 : List UInt8) (b1 : Bool) : List UInt8 → Int → Option (Int × Bool)
 | [], y10 => bnd ((cnd b1 (
(some (IntKind.i64.wrap ((0 : Int) - y10)))) (
(some y10)))) fun b18 =>
gd (gD5 b18) ((cnd (!((Lib.itoa b18) == a0)) (
(some (0, false))) (
(some (b18, true)))))
 | x14 :: xs, y10 => lt_ ((cnd (decide ((x14.toNat : Int) < 48)) (true) ((decide ((x14.toNat : Int) > 57))))) fun b15 =>
(cnd b15 (
(some (0, false))) (
gE1 a0 b1 xs (IntKind.i64.wrap ((IntKind.i64.wrap ((10 : Int) * y10)) + (IntKind.i64.wrap (IntKind.u8.wrap ((x14.toNat : Int) - 48)))))))
def gPi (a0 : List UInt8) (a1 : Int) : Option (Int × Bool) :=
bnd ((cnd (decide ((a0.length : Int) > 0)) (bnd (at? a0 0) fun x3 =>
(some ((x3.toNat : Int) == 45))) ((some false)))) fun b1 =>
bnd ((cnd b1 (
gd (0 ≤ (1 : Int) ∧ 1 ≤ (a0.length : Int)) (
(some (a0.drop (Int.toNat 1))))) (
(some a0)))) fun b4 =>
lt_ ((cnd (decide ((b4.length : Int) < 1)) (true) ((decide ((b4.length : Int) > a1))))) fun b7 =>
(cnd b7 (
(some (0, false))) (
gE1 a0 b1 b4 0))
theorem hAd (a0 : List UInt8) (a1 : Int) {r : Int × Bool} (h : gPi a0 a1 = some r) : jB Tryz.prog 153 [.S a0, .I a1] [.i .i64 r.1, .b r.2] := by
 unfold gPi at h
 refine SpI Tryz.func153 fun A _ => ?_
 refine goL ?_
 obtain ⟨b1, hb1, h⟩ := gK h
 refine jU ⟨[(0, .S a0), (1, .I a1), (6, .B b1)], [], Tryz.f153.ntmps⟩ ?_ ?_
 ·refine gQ 13 (fun c2 => ?_) (fun c2 => ?_)
  ·replace hb1 := gW c2 hb1
   refine goL ?_
   refine uB ?_
   obtain ⟨x3, hx3, hb1⟩ := gK hb1
   obtain ⟨hx30, hx3⟩ := gD9 hx3
   refine jH (gGm hx30 hx3) ?_
   cases hb1
   exact eJ
  ·replace hb1 := gX c2 hb1
   refine goL ?_
   cases hb1
   exact eJ
 refine goL ?_
 obtain ⟨b4, hb4, h⟩ := gK h
 refine gD8 ⟨[(0, .S a0), (1, .I a1), (6, .B b1), (7, .S b4)], [], Tryz.f153.ntmps⟩ ?_ ?_
 ·refine mF (fun c5 => ?_) (fun c5 => ?_)
  ·replace hb4 := gW c5 hb4
   refine goL ?_
   obtain ⟨g6, hb4⟩ := pF hb4
   refine jH (hDk g6) ?_
   cases hb4
   exact eJ
  ·replace hb4 := gX c5 hb4
   refine gA6 ?_
   cases hb4
   exact eJ
 refine goL ?_
 obtain ⟨b7, hb7, h⟩ := qU h
 refine jU ⟨[(0, .S a0), (6, .B b1), (7, .S b4), (30, .B b7)], [], Tryz.f153.ntmps⟩ ?_ ?_
 ·refine gQ 25 (fun c8 => ?_) (fun c8 => ?_)
  ·replace hb7 := gW c8 hb7
   refine goL ?_
   cases hb7
   exact eJ
  ·replace hb7 := gX c8 hb7
   refine goL ?_
   cases hb7
   exact eJ
 refine goC h ?_ ?_<;>intro c9 h
 ·exact goR h
 ·refine goS ?_
  refine noB ?_
  refine gYb 7 (fun z12 => ?_)
  refine gCx (fun (y11 : Nat) (y10 : Int) => ⟨[(0, .S a0), (6, .B b1), (7, .S b4), (8, .I y10), (9, .N y11)], [], Tryz.f153.ntmps⟩) (fun y11 y10 => gE1 a0 b1 (b4.drop y11) y10 = some r) (fun y11 y10 => b4.length - y11) 0 0 eJ h ?_
  rintro y11 y10 h
  refine goL ?_
  refine mF (fun c13 => ?_) (fun c13 => ?_)
  ·have hky112 := hF6 c13
   obtain ⟨x14, hx14, hdx14⟩ := drop_at hky112
   rw [hdx14, gE1.eq_2] at h
   refine noS ?_
   refine kD (jC ?_)
   refine goL ?_
   refine jH (gD6 y11 hx14) ?_
   obtain ⟨b15, hb15, h⟩ := qU h
   refine jU ⟨[(0, .S a0), (6, .B b1), (7, .S b4), (8, .I y10), (9, .N y11), (46, .B b15)], [], Tryz.f153.ntmps⟩ ?_ ?_
   ·refine gQ 41 (fun c16 => ?_) (fun c16 => ?_)
    ·replace hb15 := gW c16 hb15
     refine goL ?_
     cases hb15
     exact eJ
    ·replace hb15 := gX c16 hb15
     refine goL ?_
     refine uB ?_
     refine jH (gD6 y11 hx14) ?_
     cases hb15
     exact eJ
   refine goC h ?_ ?_<;>intro c17 h
   ·exact goR h
   ·refine goS ?_
    refine jH (qG) ?_
    refine qQ (gD6 y11 hx14) ?_
    refine qQ (qG) ?_
    refine qQ (hE5 Tryz.underlying5 Tryz.underlying3) ?_
    refine jH (qG) ?_
    refine jH (jT y11 (by omega)) ?_
    exact ⟨(y11 + 1), (IntKind.i64.wrap ((IntKind.i64.wrap ((10 : Int) * y10)) + (IntKind.i64.wrap (IntKind.u8.wrap ((x14.toNat : Int) - 48))))), h, by omega, eJ⟩
  ·have hky112 := hF7 c13
   rw [jE hky112, gE1.eq_1] at h
   refine goX ?_
   obtain ⟨b18, hb18, h⟩ := gK h
   refine gD8 ⟨[(0, .S a0), (8, .I b18)], [], Tryz.f153.ntmps⟩ ?_ ?_
   ·refine mF (fun c19 => ?_) (fun c19 => ?_)
    ·replace hb18 := gW c19 hb18
     refine goL ?_
     refine jH (qG) ?_
     cases hb18
     exact eJ
    ·replace hb18 := gX c19 hb18
     refine gA6 ?_
     cases hb18
     exact eJ
   refine goL ?_
   obtain ⟨g20, h⟩ := pF h
   refine jH (gF (gIi b18 g20)) ?_
   refine mF (fun c21 => ?_) (fun c21 => ?_)
   ·replace h := gW c21 h
    exact goR h
   ·replace h := gX c21 h
    refine goS ?_
    refine jN ?_
    cases h
    exact qH
def gL2 (a0 : Int) : jO :=
(jO.mk 1 [] [] a0 (gD.mk 0 [] []) [] [])
theorem hAe (a0 : Int) : jB Tryz.prog 126 [.I a0] [yO (gL2 a0)] := by
 obtain ⟨r, h⟩ : ∃ r, gL2 a0 = r := ⟨_, rfl⟩
 rw [h]
 unfold gL2 at h
 refine SpI Tryz.func126 fun A _ => ?_
 refine goL ?_
 refine gFj (kE TBd.h TZ.h rfl (by repeat constructor)) ?_
 refine jN ?_
 subst h
 exact qH
def gL3 (a0 : List UInt8) : jO :=
(jO.mk 3 [] a0 0 (gD.mk 0 [] []) [] [])
theorem hAf (a0 : List UInt8) : jB Tryz.prog 127 [.S a0] [yO (gL3 a0)] := by
 obtain ⟨r, h⟩ : ∃ r, gL3 a0 = r := ⟨_, rfl⟩
 rw [h]
 unfold gL3 at h
 refine SpI Tryz.func127 fun A _ => ?_
 refine goL ?_
 refine gFj (kE TBd.h TZ.h rfl (by repeat constructor)) ?_
 refine jN ?_
 subst h
 exact qH
def zM (rec_sEqualSExpr : gB → gB → Option (Bool)) (a1 : gB) : List gB → Nat → Option (Bool)
 | [], y4 => (some true)
 | x7 :: xs, y4 => bnd (at? a1.list (y4 : Int)) fun x8 =>
bnd (rec_sEqualSExpr x7 x8) fun x9 =>
(cnd (!x9) (
(some false)) (
zM rec_sEqualSExpr a1 xs (y4 + 1)))
def gG1 (rec_sEqualSExpr : gB → gB → Option (Bool)) (a0 : gB) (a1 : gB) : Option (Bool) :=
lt_ ((cnd (!(a0.atom == a1.atom)) (true) (((a0.list.length : Int) != (a1.list.length : Int))))) fun b1 =>
(cnd b1 (
(some false)) (
zM rec_sEqualSExpr a1 a0.list 0))
theorem gPj {rec_sEqualSExpr : gB → gB → Option (Bool)} (hrec_sEqualSExpr : ∀ (x0 : gB) (x1 : gB) {r : Bool}, rec_sEqualSExpr x0 x1 = some r → jB Tryz.prog 107 [.d (mD x0), .d (mD x1)] [.b r]) (a0 : gB) (a1 : gB) {r : Bool} (h : gG1 rec_sEqualSExpr a0 a1 = some r) : jB Tryz.prog 107 [.d (mD a0), .d (mD a1)] [.b r] := by
 obtain ⟨a0_0, a0_1⟩ := a0
 obtain ⟨a1_0, a1_1⟩ := a1
 unfold gG1 at h
 refine SpI Tryz.func107 fun A _ => ?_
 refine goL ?_
 obtain ⟨b1, hb1, h⟩ := qU h
 refine jU ⟨[(2, .ptr 0 0), (3, .ptr 1 0), (19, .B b1)], [.box [.S a0_0, .L 2 (gM a0_1)], .box [.S a1_0, .L 2 (gM a1_1)]], Tryz.f107.ntmps⟩ ?_ ?_
 ·refine gQ 11 (fun c2 => ?_) (fun c2 => ?_)
  ·replace hb1 := gW c2 hb1
   refine goL ?_
   cases hb1
   exact eJ
  ·replace hb1 := gX c2 hb1
   refine goL ?_
   cases hb1
   exact eJ
 refine goC h ?_ ?_<;>intro c3 h
 ·exact goR h
 ·refine goS ?_
  refine noB ?_
  refine vJ 0 1 (fun z5 => ?_)
  refine mY (fun (y4 : Nat) => ⟨[(2, .ptr 0 0), (3, .ptr 1 0), (5, .N y4)], [.box [.S a0_0, .L 2 (gM a0_1)], .box [.S a1_0, .L 2 (gM a1_1)]], Tryz.f107.ntmps⟩) (fun y4 => zM rec_sEqualSExpr (gB.mk a1_0 a1_1) (a0_1.drop y4) y4 = some r) (fun y4 => a0_1.length - y4) 0 eJ h ?_
  rintro y4 h
  refine goL ?_
  refine mF (fun c6 => ?_) (fun c6 => ?_)
  ·have hky42 := vO c6
   obtain ⟨x7, hx7, hdx7⟩ := drop_at hky42
   rw [hdx7, zM.eq_2] at h
   obtain ⟨x7_0, x7_1⟩ := x7
   refine noS ?_
   refine kD (jC ?_)
   refine goL ?_
   refine gCr (jJ y4 (qO hx7)) ?_
   refine goL ?_
   obtain ⟨x8, hx8, h⟩ := gK h
   rw [gEa] at hx8
   obtain ⟨x8_0, x8_1⟩ := x8
   refine gCr (jJ y4 (qO hx8)) ?_
   refine goL ?_
   obtain ⟨x9, hx9, h⟩ := gK h
   refine gCr (gF (hrec_sEqualSExpr (gB.mk x7_0 x7_1) (gB.mk x8_0 x8_1) hx9)) ?_
   refine goC h ?_ ?_<;>intro c10 h
   ·exact goR h
   ·refine goS ?_
    refine jH (jT y4 (by omega)) ?_
    exact ⟨(y4 + 1), h, by omega, eJ⟩
  ·have hky42 := vP c6
   rw [jE hky42, zM.eq_1] at h
   refine goX ?_
   refine jN ?_
   cases h
   exact qH
def gAt : Nat → gB → gB → Option (Bool)
 | 0, _, _ => none
 | n + 1, x0, x1 => gG1 (gAt n) x0 x1
theorem gEd : ∀ (n : Nat) (x0 : gB) (x1 : gB) {r : Bool}, gAt n x0 x1 = some r → jB Tryz.prog 107 [.d (mD x0), .d (mD x1)] [.b r] := by
 intro n
 induction n with
 | zero => intro x0 x1 r h; cases h
 | succ n ih => intro x0 x1 r h; exact gPj ih x0 x1 h
def gEe (a0 : List UInt8) : Bool :=
(vN [[105, 110, 116], [98, 111, 111, 108], [97, 115, 115, 111, 99], [100, 121, 110], [105, 102], [108, 101, 116], [99, 97, 115, 101], [110, 101, 119], [109, 101, 116, 104, 111, 100], [112, 97, 99, 107], [116, 114, 117, 101], [102, 97, 108, 115, 101]] a0)
theorem gPk (a0 : List UInt8) : jB Tryz.prog 114 [.S a0] [.b (gEe a0)] := by
 obtain ⟨r, h⟩ : ∃ r, gEe a0 = r := ⟨_, rfl⟩
 rw [h]
 unfold gEe at h
 refine SpI Tryz.func114 fun A _ => ?_
 refine goL ?_
 refine gNn (us := gY [[105, 110, 116], [98, 111, 111, 108], [97, 115, 115, 111, 99], [100, 121, 110], [105, 102], [108, 101, 116], [99, 97, 115, 101], [110, 101, 119], [109, 101, 116, 104, 111, 100], [112, 97, 99, 107], [116, 114, 117, 101], [102, 97, 108, 115, 101]]) ?_
 refine goL ?_
 refine gFj (gSm (gD1 [[105, 110, 116], [98, 111, 111, 108], [97, 115, 115, 111, 99], [100, 121, 110], [105, 102], [108, 101, 116], [99, 97, 115, 101], [110, 101, 119], [109, 101, 116, 104, 111, 100], [112, 97, 99, 107], [116, 114, 117, 101], [102, 97, 108, 115, 101]] a0)) ?_
 refine jN ?_
 subst h
 exact qH
def yI (a0 : List (List UInt8)) : List (List UInt8) → Nat → Option (Bool)
 | [], y1 => (some true)
 | x4 :: xs, y1 => gd (0 ≤ (y1 : Int) ∧ (y1 : Int) ≤ (a0.length : Int)) (
(cnd (vN (a0.take (Int.toNat (y1 : Int))) x4) (
(some false)) (
yI a0 xs (y1 + 1))))
def vR (a0 : List (List UInt8)) : Option (Bool) :=
yI a0 a0 0
theorem zT (a0 : List (List UInt8)) {r : Bool} (h : vR a0 = some r) : jB Tryz.prog 95 [.L 1 (gY a0)] [.b r] := by
 unfold vR at h
 refine SpI Tryz.func95 fun A _ => ?_
 refine goL ?_
 refine noB ?_
 refine gEk 0 (fun z2 => ?_)
 refine mY (fun (y1 : Nat) => ⟨[(0, .L 1 (gY a0)), (3, .N y1)], [], Tryz.f95.ntmps⟩) (fun y1 => yI a0 (a0.drop y1) y1 = some r) (fun y1 => a0.length - y1) 0 eJ h ?_
 rintro y1 h
 refine goL ?_
 refine mF (fun c3 => ?_) (fun c3 => ?_)
 ·have hky12 := vO c3
  obtain ⟨x4, hx4, hdx4⟩ := drop_at hky12
  rw [hdx4, yI.eq_2] at h
  refine noS ?_
  refine kD (jC ?_)
  refine goL ?_
  obtain ⟨g5, h⟩ := pF h
  refine gCr (hHn g5) ?_
  refine goL ?_
  refine gCr (jJ y1 (gOl hx4)) ?_
  refine goL ?_
  refine gCr (gF (gD1 (a0.take (Int.toNat (y1 : Int))) x4)) ?_
  refine goC h ?_ ?_<;>intro c6 h
  ·exact goR h
  ·refine goS ?_
   refine jH (jT y1 (by omega)) ?_
   exact ⟨(y1 + 1), h, by omega, eJ⟩
 ·have hky12 := vP c3
  rw [jE hky12, yI.eq_1] at h
  refine goX ?_
  refine jN ?_
  cases h
  exact qH
def gG2 (rec_l4Left : gD → Int → Option (Int)) (a0 : gD) : Nat → Int → Int → Option (Int)
 | 0, y1, y2 => none
 | n3 + 1, y1, y2 => lt_ ((cnd (decide (y2 < (a0.args.length : Int))) ((decide (y1 ≥ 0))) (false))) fun b4 =>
(cnd b4 (
bnd (at? a0.args y2) fun x7 =>
bnd (rec_l4Left x7 y1) fun x8 =>
gG2 rec_l4Left a0 n3 x8 (IntKind.i64.wrap (y2 + 1))) (
(some y1)))
def gPl (rec_l4Left : gD → Int → Option (Int)) (a0 : gD) (a1 : Int) (n0 : Nat) : Option (Int) :=
gG2 rec_l4Left a0 n0 (IntKind.i64.wrap (a1 - 1)) 0
theorem hAg {rec_l4Left : gD → Int → Option (Int)} (hrec_l4Left : ∀ (x0 : gD) (x1 : Int) {r : Int}, rec_l4Left x0 x1 = some r → jB Tryz.prog 172 [.d (jQ x0), .I x1] [.i .i64 r]) (a0 : gD) (a1 : Int) {n0 : Nat} {r : Int} (h : gPl rec_l4Left a0 a1 n0 = some r) : jB Tryz.prog 172 [.d (jQ a0), .I a1] [.i .i64 r] := by
 obtain ⟨a0_0, a0_1, a0_2⟩ := a0
 unfold gPl at h
 refine SpI Tryz.func172 fun A _ => ?_
 refine goL ?_
 refine jH (qG) ?_
 refine noB ?_
 refine kQ (fun (n3 : Nat) (y1 : Int) (y2 : Int) => ⟨[(1, .I y1), (2, .ptr 0 0), (5, .I y2)], [.box [.I a0_0, .S a0_1, .L 3 (gJ a0_2)]], Tryz.f172.ntmps⟩) (fun n3 y1 y2 => gG2 rec_l4Left (gD.mk a0_0 a0_1 a0_2) n3 y1 y2 = some r) (fun n3 y1 y2 => n3) n0 (IntKind.i64.wrap (a1 - 1)) 0 eJ h ?_
 rintro n3 y1 y2 h
 rcases n3 with _ | n3
 ·cases h
 rw [gG2.eq_2] at h
 refine goL ?_
 obtain ⟨b4, hb4, h⟩ := qU h
 refine jU ⟨[(1, .I y1), (2, .ptr 0 0), (5, .I y2), (16, .B b4)], [.box [.I a0_0, .S a0_1, .L 3 (gJ a0_2)]], Tryz.f172.ntmps⟩ ?_ ?_
 ·refine gQ 13 (fun c5 => ?_) (fun c5 => ?_)
  ·replace hb4 := gW c5 hb4
   refine goL ?_
   cases hb4
   exact eJ
  ·replace hb4 := gX c5 hb4
   refine goL ?_
   cases hb4
   exact eJ
 refine goC h ?_ ?_<;>intro c6 h
 ·refine noS ?_
  refine kD (jC ?_)
  refine goL ?_
  obtain ⟨x7, hx7, h⟩ := gK h
  obtain ⟨hx70, hx7⟩ := gD9 hx7
  obtain ⟨x7_0, x7_1, x7_2⟩ := x7
  refine jH (qV hx70 (gA5 hx7)) ?_
  obtain ⟨x8, hx8, h⟩ := gK h
  refine jH (gF (hrec_l4Left (gD.mk x7_0 x7_1 x7_2) y1 hx8)) ?_
  refine jH (qG) ?_
  exact ⟨n3, x8, (IntKind.i64.wrap (y2 + 1)), h, Nat.lt_succ_self _, eJ⟩
 ·refine goX ?_
  refine jN ?_
  cases h
  exact qH
def gPm : Nat → gD → Int → Option (Int)
 | 0, _, _ => none
 | n + 1, x0, x1 => gPl (gPm n) x0 x1 n
theorem hAh : ∀ (n : Nat) (x0 : gD) (x1 : Int) {r : Int}, gPm n x0 x1 = some r → jB Tryz.prog 172 [.d (jQ x0), .I x1] [.i .i64 r] := by
 intro n
 induction n with
 | zero => intro x0 x1 r h; cases h
 | succ n ih => intro x0 x1 r h; exact hAg ih x0 x1 h
def gJ8 (a0 : List UInt8) : Bool :=
lt_ ((cnd (a0 == [105, 110, 116]) (true) ((a0 == [98, 111, 111, 108])))) fun b1 =>
b1
theorem gT2 (a0 : List UInt8) : jB Tryz.prog 164 [.S a0] [.b (gJ8 a0)] := by
 obtain ⟨r, h⟩ : ∃ r, gJ8 a0 = r := ⟨_, rfl⟩
 rw [h]
 unfold gJ8 at h
 refine SpI Tryz.func164 fun A _ => ?_
 refine goL ?_
 obtain ⟨b1, hb1, h⟩ := qU h
 refine jU ⟨[(2, .B b1)], [], Tryz.f164.ntmps⟩ ?_ ?_
 ·refine gQ 5 (fun c2 => ?_) (fun c2 => ?_)
  ·replace hb1 := gW c2 hb1
   refine goL ?_
   cases hb1
   exact eJ
  ·replace hb1 := gX c2 hb1
   refine goL ?_
   cases hb1
   exact eJ
 refine goL ?_
 refine jN ?_
 subst h
 exact qH
end Go.Proofs.YtfaplndgbgoaaaaGreat
