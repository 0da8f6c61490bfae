import Derived.Test.YtfaplndgbgoaaaaGreatEng38
import Derived.Test.YtfaplndgbgoaaaaGreatEng67
import Derived.KernelRfl
import Derived.Test.YtfaplndgbgoaaaaGreatPar
import Derived.Test.YtfaplndgbgoaaaaGreatSfi0
import Derived.Test.YtfaplndgbgoaaaaGreatB19
import Derived.Test.YtfaplndgbgoaaaaGreatVr
import Derived.Test.YtfaplndgbgoaaaaGreatCur
set_option maxHeartbeats 4000000
set_option linter.unusedVariables false
set_option linter.unusedSimpArgs false
set_option linter.unusedSectionVars false
namespace Go.Proofs.YtfaplndgbgoaaaaGreat
open Go Go.Eng
attribute [local irreducible] V VO VQ VY Quiet QR jB kR Rng uX vB qY
theorem hLf : okA = true := by kernel_rfl
def pC (b : Bool) : jY := match vZ (gQq b) with
 | some (p, _) => p
 | none => ⟨[], [], [], [], [], []⟩
def kC : Bool → Int
 | true => 7
 | false => 8
def hGh : Bool → List gT
 | true => [⟨0, 0⟩, ⟨0, 1⟩, ⟨0, 2⟩, ⟨0, 3⟩, ⟨0, 4⟩, ⟨0, 5⟩, ⟨0, 6⟩]
 | false => [⟨0, 0⟩, ⟨0, 1⟩, ⟨0, 2⟩, ⟨0, 3⟩, ⟨0, 4⟩, ⟨0, 5⟩, ⟨0, 6⟩, ⟨0, 7⟩]
theorem hR9 (b : Bool) (rest : List jY) : (vT ⟨pC b :: rest⟩ addN).1.auto = false := by cases b <;> kernel_rfl
theorem hSa (b : Bool) (rest : List jY) : qF ⟨pC b :: rest⟩ [115, 104, 111, 119] = some [] := by cases b <;> kernel_rfl
theorem hSc (b : Bool) (rest : List jY) : qF ⟨pC b :: rest⟩ [111, 114, 100] = some [[101, 113]] := by cases b <;> kernel_rfl
theorem hSe (b : Bool) (rest : List jY) : qF ⟨pC b :: rest⟩ addN = some [] := by cases b <;> kernel_rfl
theorem hSf (b : Bool) (rest : List jY) : wB ⟨pC b :: rest⟩ [111, 114, 100] [101, 113] = some ([0], true) := by cases b <;> kernel_rfl
theorem hC4 (b : Bool) (rest : List jY) : gAm ⟨pC b :: rest⟩ = qM rest 1 (hGh b ++ [⟨0, kC b⟩, ⟨0, kC b + 1⟩]) := by cases b <;> kernel_rfl
def hPz (w : gI) (l : List gT) : Bool := l.all fun o => match gOq w o with
 | some i => !(i.trait == addN)
 | none => false
theorem gWy {w : gI} {l : List gT} (h : hPz w l = true) : gVd w l := by
 intro o ho
 have := List.all_eq_true.1 h o ho
 split at this
 ·rename_i i hi
  exact ⟨i, hi, by simpa using this⟩
 ·cases this
theorem hGj (b : Bool) (rest : List jY) : hPz ⟨pC b :: rest⟩ (hGh b) = true := by cases b <;> kernel_rfl
def hP0 (i : jZ) (h : gD) (wh : List jF) (a : gD) : Bool := (i.trait == addN) && teq i.head h && !i.default_ && i.hasAssoc && teq i.assoc a && (i.where_.length == wh.length) && ((i.where_.zip wh).all fun p => (p.1.trait == p.2.trait) && teq p.1.type_ p.2.type_)
def at2 (w : gI) (o : gT) (h : gD) (wh : List jF) (a : gD) : Bool := match gOq w o with
 | some i => hP0 i h wh a
 | none => false
theorem hSg (b : Bool) (rest : List jY) : at2 ⟨pC b :: rest⟩ ⟨0, kC b⟩ gGu [] gGu = true := by cases b <;> kernel_rfl
theorem hSh (b : Bool) (rest : List jY) : at2 ⟨pC b :: rest⟩ ⟨0, kC b + 1⟩ gFq [⟨addN, ⟨1, [97], []⟩⟩] (gQy (gWp ⟨1, [97], []⟩)) = true := by cases b <;> kernel_rfl
theorem hLg (b : Bool) : (pC b).instances.length ≤ 100 := by cases b <;> exact of_decide_eq_true (by kernel_rfl)
theorem hC5 {w : gI} {o : gT} {h a : gD} {wh : List jF} (hh : at2 w o h wh a = true) : ∃ i, gOq w o = some i ∧ i.trait = addN ∧ i.head = h ∧ i.where_ = wh ∧ i.default_ = false ∧ i.hasAssoc = true ∧ i.assoc = a := by
 unfold at2 at hh
 split at hh
 ·rename_i i hi
  unfold hP0 at hh
  simp only [Bool.and_eq_true, beq_iff_eq, Bool.not_eq_true'] at hh
  obtain ⟨⟨⟨⟨⟨⟨h1, h2⟩, h3⟩, h4⟩, h5⟩, h6⟩, h7⟩ := hh
  refine ⟨i, hi, h1, (gNz _ _).1 h2, ?_, h3, h4, (gNz _ _).1 h5⟩
  have key : ∀ (x y : List jF), x.length = y.length → ((x.zip y).all fun p => (p.1.trait == p.2.trait) && teq p.1.type_ p.2.type_) = true → x = y := by
   intro x
   induction x with
   | nil => intro y hl _; exact (List.eq_nil_of_length_eq_zero hl.symm).symm
   | cons c x ih =>
     intro y hl hq
     cases y with
     | nil => simp at hl
     | cons d y =>
       simp only [List.zip_cons_cons, List.all_cons, Bool.and_eq_true, beq_iff_eq] at hq
       rw [ih y (by simpa using hl) hq.2]
       obtain ⟨c1, c2⟩ := c
       obtain ⟨d1, d2⟩ := d
       have e1 : c1 = d1 := hq.1.1
       have e2 : c2 = d2 := (gNz _ _).1 hq.1.2
       rw [e1, e2]
  exact key _ _ h6 h7
 ·cases hh
theorem inst_at {w : gI} {o : gT} {i : jZ} (h : gOq w o = some i) (hw : w.packages.length ≤ 1000) (hp : ∀ p ∈ w.packages, p.instances.length ≤ 1000) : gBi w o = some (i, true) := by
 obtain ⟨p, h1, h2⟩ := gJw h
 obtain ⟨a1, a2⟩ := gD9 h1
 obtain ⟨b1, b2⟩ := gD9 h2
 have c1 := (List.getElem?_eq_some_iff.1 a2).1
 have c2 := (List.getElem?_eq_some_iff.1 b2).1
 have c3 := hp p (List.mem_of_getElem? a2)
 have e1 : gFl o.package 0 (IntKind.i64.wrap ((w.packages.length : Int) - 1)) = true := by
  unfold gFl lt_
  rw [wM _ (by omega) (by omega), show decide (o.package ≥ 0) = true from decide_eq_true a1, jI]
  exact decide_eq_true (by omega)
 have e2 : gFl o.at_ 0 (IntKind.i64.wrap ((p.instances.length : Int) - 1)) = true := by
  unfold gFl lt_
  rw [wM _ (by omega) (by omega), show decide (o.at_ ≥ 0) = true from decide_eq_true b1, jI]
  exact decide_eq_true (by omega)
 unfold gBi
 simp only [e1, Bool.not_true, gN, h1, bnd, e2, h2]
def hC6 (n : Nat) : List jZ → Nat → List gT
 | [], _ => []
 | _ :: l, k => ⟨(n : Int), (k : Int)⟩ :: hC6 n l (k + 1)
theorem hC7 (n : Nat) (f : List gT → Option (List gT)) : ∀ (l : List jZ) (k : Nat) (acc : List gT), acc.length + l.length ≤ 4294967296 → pR n f l k acc = f (acc ++ hC6 n l k)
 | [], k, acc, _ => by simp [pR, hC6]
 | x :: l, k, acc, h => by
   simp only [List.length_cons] at h
   rw [pR, pQ (by simp; omega), hC7 n f l (k + 1) _ (by simp; omega)]
   simp [hC6]
theorem gT3 {n : Nat} {o : gT} : ∀ {l : List jZ} {k : Nat}, o ∈ hC6 n l k → ∃ j : Nat, o = ⟨(n : Int), ((k + j : Nat) : Int)⟩ ∧ j < l.length
 | [], k, h => by simp [hC6] at h
 | x :: l, k, h => by
   simp only [hC6, List.mem_cons] at h
   rcases h with rfl | h
   ·exact ⟨0, rfl, by simp⟩
   ·obtain ⟨j, h1, h2⟩ := gT3 h
    exact ⟨j + 1, by rw [h1]; congr 2; omega, by simp; omega⟩
theorem hC8 (b : Bool) (rest : List jY) (h : rest = [] ∨ ∃ q, rest = [q] ∧ hHy q = true ∧ q.instances.length ≤ 100) : gVe ⟨pC b :: rest⟩ (kC b) := by
 have hlen : (pC b :: rest).length ≤ 1000 := by rcases h with rfl | ⟨q, rfl, _⟩ <;> simp
 have hpl : ∀ p ∈ pC b :: rest, p.instances.length ≤ 1000 := by
  intro p hp
  have := hLg b
  rcases h with rfl | ⟨q, rfl, _, hq⟩
  ·simp only [List.mem_singleton] at hp; subst hp; omega
  ·simp only [List.mem_cons, List.not_mem_nil, or_false] at hp
   rcases hp with rfl | rfl
   ·omega
   ·omega
 obtain ⟨i, g1, g2, g3, g4, g5, g6, g7⟩ := hC5 (hSg b rest)
 obtain ⟨j, f1, f2, f3, f4, f5, f6, f7⟩ := hC5 (hSh b rest)
 refine ⟨?_, ⟨i, g1, g2, g3, g4, g5, g6, g7, inst_at g1 hlen hpl⟩, ⟨j, f1, f2, f3, f4, f5, f6, f7, inst_at f1 hlen hpl⟩, hR9 b rest, hSa b rest, hSc b rest, hSe b rest, hSf b rest⟩
 rcases h with rfl | ⟨q, rfl, hq1, hq2⟩
 ·exact ⟨hGh b, [], by rw [hC4]; rfl, gWy (hGj b []), fun o ho => by simp at ho⟩
 ·refine ⟨hGh b, hC6 1 q.instances 0, ?_, gWy (hGj b [q]), fun o ho => ?_⟩
  ·rw [hC4]
   show pR 1 _ q.instances 0 _ = _
   rw [hC7 1 _ q.instances 0 _ (by cases b <;> (simp [hGh]; omega))]
   simp [qM]
  ·obtain ⟨n, rfl, hn⟩ := gT3 ho
   refine ⟨q.instances[n], ?_, ?_⟩
   ·unfold gOq
    have e1 : at? (pC b :: [q]) (((1 : Nat)) : Int) = some q := by rw [gEa]; rfl
    show bnd (at? (pC b :: [q]) (((1 : Nat)) : Int)) _ = _
    rw [kH e1]
    show at? q.instances ((0 + n : Nat) : Int) = _
    rw [gEa, Nat.zero_add, List.getElem?_eq_getElem hn]
   ·have := List.all_eq_true.1 hq1 q.instances[n] (List.getElem_mem hn)
    simpa using this
end Go.Proofs.YtfaplndgbgoaaaaGreat
set_option maxHeartbeats 4000000
set_option linter.unusedVariables false
set_option linter.unusedSimpArgs false
set_option linter.unusedSectionVars false
namespace Go.Proofs.YtfaplndgbgoaaaaGreat
open Go Go.Eng
attribute [local irreducible] V VO VQ VY Quiet QR jB kR Rng uX vB qY
def gBs (a1 : gI) (a2 : List jF) (x2 : Int × jA) : Nat → (List UInt8) → Int → Int → Int → Int → Int → (List gH) → (List mP) → (List pO) → Int → Int → Int → Option (gG × jA)
 | 0, y3, y4, y5, y6, y7, y8, y9, y10, y11, y12, y13, y14 => none
 | n15 + 1, y3, y4, y5, y6, y7, y8, y9, y10, y11, y12, y13, y14 => (cnd (decide (y14 < x2.1)) (
bnd (gHj 5000 (jA.mk y3 y4 y5) 2) fun x17 =>
bnd (gHj 5000 x17.2 2) fun x18 =>
bnd (zS a1 a2 (gG.mk y6 y7 y8 y9 y10 y11 y12 y13) x17.1 x18.1) fun x19 =>
(cnd (x19.code == 0) (
gBs a1 a2 x2 n15 x18.2.b x18.2.i x18.2.h x19.next x19.count x19.node x19.bindings x19.equations x19.obligations x19.code x19.at_ (IntKind.i64.wrap (y14 + 1))) (
bnd (gCm x18.2 12) fun x21 =>
(cnd x21.1 (
gBs a1 a2 x2 n15 x21.2.b x21.2.i x21.2.h x19.next x19.count x19.node x19.bindings x19.equations x19.obligations x19.code x19.at_ (IntKind.i64.wrap (y14 + 1))) (
gBs a1 a2 x2 n15 x21.2.b x21.2.i x21.2.h y6 y7 y8 y9 y10 y11 y12 y13 (IntKind.i64.wrap (y14 + 1))))))) (
(some ((gG.mk y6 y7 y8 y9 y10 y11 y12 y13), (jA.mk y3 y4 y5)))))
def gPn (c : jA) (a1 : gI) (a2 : List jF) (n0 : Nat) : Option (gG × jA) :=
bnd (yM c 5) fun x1 =>
bnd (yM x1.2 4) fun x2 =>
gBs a1 a2 x2 n0 x2.2.b x2.2.i x2.2.h 4 0 x1.1 [] [] [] 0 0 0
theorem hD8 (c : jA) (a1 : gI) (a2 : List jF) {n0 : Nat} {r : gG × jA} (h : gPn c a1 a2 n0 = some r) : Go.Eng.Spec Tryz.prog 12 [.ptr 0 0, .d (kS a1), .L 4 (jV a2)] [.box [.L 1 (kN c.b), .I c.i, .I c.h]] (fun sv Lo => sv = .d (mW r.1) ∧ Lo = [.box [.L 1 (kN r.2.b), .I r.2.i, .I r.2.h]]) := by
 obtain ⟨c_0, c_1, c_2⟩ := c
 obtain ⟨a1_0⟩ := a1
 unfold gPn at h
 refine kY 1 Tryz.func12 rfl (by kernel_rfl) rfl rfl fun A _ => ?_
 refine goL ?_
 obtain ⟨⟨x1_0, ⟨x1_1_0, x1_1_1, x1_1_2⟩⟩, hx1, h⟩ := gK h
 refine zH 0 (gCk (jA.mk c_0 c_1 c_2) 5 hx1) ?_
 refine gFj (kE TBd.h TZ.h rfl (by repeat constructor)) ?_
 obtain ⟨⟨x2_0, ⟨x2_1_0, x2_1_1, x2_1_2⟩⟩, hx2, h⟩ := gK h
 refine zH 0 (gCk (jA.mk x1_1_0 x1_1_1 x1_1_2) 4 hx2) ?_
 refine goL ?_
 refine noB ?_
 refine gRr 4 3 3 rfl rfl (by repeat constructor) (by repeat constructor) ?_
 show V _ _ _ _ _
 refine gRr 7 3 4 rfl rfl (by repeat constructor) (by repeat constructor) ?_
 show V _ _ _ _ _
 refine gRr 5 3 5 rfl rfl (by repeat constructor) (by repeat constructor) ?_
 show V _ _ _ _ _
 refine hBs (fun (n15 : Nat) (y3 : List UInt8) (y4 : Int) (y5 : Int) (y6 : Int) (y7 : Int) (y8 : Int) (y9 : List gH) (y10 : List mP) (y11 : List pO) (y12 : Int) (y13 : Int) (y14 : Int) => ⟨[(0, .ptr 0 0), (2, .L 4 (jV a2)), (4, .ptr 1 0), (6, .ptr 2 0), (7, .ptr 3 0), (8, .I x2_0), (9, .I y14)], [.box [.L 1 (kN y3), .I y4, .I y5], .box [.L 6 (kK a1_0)], .box [.I 0, .I 0, .I 0, .nilsl, .nilsl, .nilsl, .I 0, .I 0], .box [.I y6, .I y7, .I y8, .L 4 (gP y9), .L 7 (jP y10), .L 5 (jG y11), .I y12, .I y13]], Tryz.f12.ntmps⟩) (fun n15 y3 y4 y5 y6 y7 y8 y9 y10 y11 y12 y13 y14 => gBs (gI.mk a1_0) a2 (x2_0, (jA.mk x2_1_0 x2_1_1 x2_1_2)) n15 y3 y4 y5 y6 y7 y8 y9 y10 y11 y12 y13 y14 = some r) (fun n15 y3 y4 y5 y6 y7 y8 y9 y10 y11 y12 y13 y14 => n15) n0 x2_1_0 x2_1_1 x2_1_2 4 0 x1_0 [] [] [] 0 0 0 eJ h ?_
 rintro n15 y3 y4 y5 y6 y7 y8 y9 y10 y11 y12 y13 y14 h
 rcases n15 with _ | n15
 ·cases h
 rw [gBs.eq_2] at h
 refine goC h ?_ ?_<;>intro c16 h
 ·refine noS ?_
  refine kD (jC ?_)
  obtain ⟨⟨⟨x17_0_0, x17_0_1, x17_0_2⟩, ⟨x17_1_0, x17_1_1, x17_1_2⟩⟩, hx17, h⟩ := gK h
  obtain ⟨⟨⟨x18_0_0, x18_0_1, x18_0_2⟩, ⟨x18_1_0, x18_1_1, x18_1_2⟩⟩, hx18, h⟩ := gK h
  obtain ⟨⟨x19_0, x19_1, x19_2, x19_3, x19_4, x19_5, x19_6, x19_7⟩, hx19, h⟩ := gK h
  refine uW (P := Tryz.prog) Mix.h (.q 1 (.q 3 (.q 5 (.h 0 (.h 2 (.h 4 (.h 6 (.q 7 (.h 8 (.h 9 .nil .nil) .nil)) (.h 8 (.h 6 (.q 7 (.h 9 .nil .nil)) .nil) .nil)) (.h 8 (.h 4 (.h 6 (.q 7 (.h 9 .nil .nil)) .nil) .nil) .nil)) (.h 4 (.h 2 (.h 6 (.q 7 (.h 8 (.h 9 .nil .nil) .nil)) (.h 8 (.h 6 (.q 7 (.h 9 .nil .nil)) .nil) .nil)) (.h 6 (.h 2 (.q 7 (.h 8 (.h 9 .nil .nil) .nil)) (.h 8 (.h 2 (.q 7 (.h 9 .nil .nil)) .nil) .nil)) (.h 8 (.h 2 (.h 6 (.q 7 (.h 9 .nil .nil)) .nil) (.h 6 (.h 2 (.q 7 (.h 9 .nil .nil)) .nil) .nil)) .nil))) (.h 8 (.h 2 (.h 4 (.h 6 (.q 7 (.h 9 .nil .nil)) .nil) .nil) (.h 4 (.h 2 (.h 6 (.q 7 (.h 9 .nil .nil)) .nil) (.h 6 (.h 2 (.q 7 (.h 9 .nil .nil)) .nil) .nil)) .nil)) .nil))) (.h 2 (.h 0 (.h 4 (.h 6 (.q 7 (.h 8 (.h 9 .nil .nil) .nil)) (.h 8 (.h 6 (.q 7 (.h 9 .nil .nil)) .nil) .nil)) (.h 8 (.h 4 (.h 6 (.q 7 (.h 9 .nil .nil)) .nil) .nil) .nil)) (.h 4 (.h 0 (.h 6 (.q 7 (.h 8 (.h 9 .nil .nil) .nil)) (.h 8 (.h 6 (.q 7 (.h 9 .nil .nil)) .nil) .nil)) (.h 6 (.h 0 (.q 7 (.h 8 (.h 9 .nil .nil) .nil)) (.h 8 (.h 0 (.q 7 (.h 9 .nil .nil)) .nil) .nil)) (.h 8 (.h 0 (.h 6 (.q 7 (.h 9 .nil .nil)) .nil) (.h 6 (.h 0 (.q 7 (.h 9 .nil .nil)) .nil) .nil)) .nil))) (.h 8 (.h 0 (.h 4 (.h 6 (.q 7 (.h 9 .nil .nil)) .nil) .nil) (.h 4 (.h 0 (.h 6 (.q 7 (.h 9 .nil .nil)) .nil) (.h 6 (.h 0 (.q 7 (.h 9 .nil .nil)) .nil) .nil)) .nil)) .nil))) (.h 4 (.h 0 (.h 2 (.h 6 (.q 7 (.h 8 (.h 9 .nil .nil) .nil)) (.h 8 (.h 6 (.q 7 (.h 9 .nil .nil)) .nil) .nil)) (.h 6 (.h 2 (.q 7 (.h 8 (.h 9 .nil .nil) .nil)) (.h 8 (.h 2 (.q 7 (.h 9 .nil .nil)) .nil) .nil)) (.h 8 (.h 2 (.h 6 (.q 7 (.h 9 .nil .nil)) .nil) (.h 6 (.h 2 (.q 7 (.h 9 .nil .nil)) .nil) .nil)) .nil))) (.h 2 (.h 0 (.h 6 (.q 7 (.h 8 (.h 9 .nil .nil) .nil)) (.h 8 (.h 6 (.q 7 (.h 9 .nil .nil)) .nil) .nil)) (.h 6 (.h 0 (.q 7 (.h 8 (.h 9 .nil .nil) .nil)) (.h 8 (.h 0 (.q 7 (.h 9 .nil .nil)) .nil) .nil)) (.h 8 (.h 0 (.h 6 (.q 7 (.h 9 .nil .nil)) .nil) (.h 6 (.h 0 (.q 7 (.h 9 .nil .nil)) .nil) .nil)) .nil))) (.h 6 (.h 0 (.h 2 (.q 7 (.h 8 (.h 9 .nil .nil) .nil)) (.h 8 (.h 2 (.q 7 (.h 9 .nil .nil)) .nil) .nil)) (.h 2 (.h 0 (.q 7 (.h 8 (.h 9 .nil .nil) .nil)) (.h 8 (.h 0 (.q 7 (.h 9 .nil .nil)) .nil) .nil)) (.h 8 (.h 0 (.h 2 (.q 7 (.h 9 .nil .nil)) .nil) (.h 2 (.h 0 (.q 7 (.h 9 .nil .nil)) .nil) .nil)) .nil))) (.h 8 (.h 0 (.h 2 (.h 6 (.q 7 (.h 9 .nil .nil)) .nil) (.h 6 (.h 2 (.q 7 (.h 9 .nil .nil)) .nil) .nil)) (.h 2 (.h 0 (.h 6 (.q 7 (.h 9 .nil .nil)) .nil) (.h 6 (.h 0 (.q 7 (.h 9 .nil .nil)) .nil) .nil)) (.h 6 (.h 0 (.h 2 (.q 7 (.h 9 .nil .nil)) .nil) (.h 2 (.h 0 (.q 7 (.h 9 .nil .nil)) .nil) .nil)) .nil))) .nil)))) (.h 8 (.h 0 (.h 2 (.h 4 (.h 6 (.q 7 (.h 9 .nil .nil)) .nil) .nil) (.h 4 (.h 2 (.h 6 (.q 7 (.h 9 .nil .nil)) .nil) (.h 6 (.h 2 (.q 7 (.h 9 .nil .nil)) .nil) .nil)) .nil)) (.h 2 (.h 0 (.h 4 (.h 6 (.q 7 (.h 9 .nil .nil)) .nil) .nil) (.h 4 (.h 0 (.h 6 (.q 7 (.h 9 .nil .nil)) .nil) (.h 6 (.h 0 (.q 7 (.h 9 .nil .nil)) .nil) .nil)) .nil)) (.h 4 (.h 0 (.h 2 (.h 6 (.q 7 (.h 9 .nil .nil)) .nil) (.h 6 (.h 2 (.q 7 (.h 9 .nil .nil)) .nil) .nil)) (.h 2 (.h 0 (.h 6 (.q 7 (.h 9 .nil .nil)) .nil) (.h 6 (.h 0 (.q 7 (.h 9 .nil .nil)) .nil) .nil)) (.h 6 (.h 0 (.h 2 (.q 7 (.h 9 .nil .nil)) .nil) (.h 2 (.h 0 (.q 7 (.h 9 .nil .nil)) .nil) .nil)) .nil))) .nil))) .nil))))))) ⟨[(0, .ptr 0 0), (2, .L 4 (jV a2)), (4, .ptr 1 0), (6, .ptr 2 0), (7, .ptr 3 0), (8, .I x2_0), (9, .I y14), (10, .ptr 4 0)], [.box [.L 1 (kN x18_1_0), .I x18_1_1, .I x18_1_2], .box [.L 6 (kK a1_0)], .box [.I 0, .I 0, .I 0, .nilsl, .nilsl, .nilsl, .I 0, .I 0], .box [.I y6, .I y7, .I y8, .L 4 (gP y9), .L 7 (jP y10), .L 5 (jG y11), .I y12, .I y13], .box [.I x19_0, .I x19_1, .I x19_2, .L 4 (gP x19_3), .L 7 (jP x19_4), .L 5 (jG x19_5), .I x19_6, .I x19_7]], Tryz.f12.ntmps⟩ (by kernel_rfl) ?_ ?_
  ·refine goT ?_
   refine wO (mX jS) ?_ ?_
   ·refine wO (mX jS) ?_ ?_
    ·refine wO (qA 0 (kG 5000 (jA.mk y3 y4 y5) 2 hx17) jS) ?_ ?_
     ·refine wO (qA 0 (kG 5000 (jA.mk x17_1_0 x17_1_1 x17_1_2) 2 hx18) jS) ?_ ?_
      ·refine zW (jD rfl (gF (gV (gI.mk a1_0) a2 (gG.mk y6 y7 y8 y9 y10 y11 y12 y13) (gD.mk x17_0_0 x17_0_1 x17_0_2) (gD.mk x18_0_0 x18_0_1 x18_0_2) hx19)) jS) ?_
       refine goT ?_
       refine jX ?_
       exact vC 1 [0, 1, 2, 3, 4]
      refine goT ?_
      refine jR (qA 0 (kG 5000 (jA.mk x17_1_0 x17_1_1 x17_1_2) 2 hx18) jS) ?_
      refine zW (jD rfl (gF (gV (gI.mk a1_0) a2 (gG.mk y6 y7 y8 y9 y10 y11 y12 y13) (gD.mk x17_0_0 x17_0_1 x17_0_2) (gD.mk x18_0_0 x18_0_1 x18_0_2) hx19)) jS) ?_
      refine goT ?_
      refine jX ?_
      exact vC 1 [0, 1, 2, 3, 4]
     refine goT ?_
     refine jR (qA 0 (kG 5000 (jA.mk y3 y4 y5) 2 hx17) jS) ?_
     refine jR (qA 0 (kG 5000 (jA.mk x17_1_0 x17_1_1 x17_1_2) 2 hx18) jS) ?_
     refine zW (jD rfl (gF (gV (gI.mk a1_0) a2 (gG.mk y6 y7 y8 y9 y10 y11 y12 y13) (gD.mk x17_0_0 x17_0_1 x17_0_2) (gD.mk x18_0_0 x18_0_1 x18_0_2) hx19)) jS) ?_
     refine goT ?_
     refine jX ?_
     exact vC 1 [0, 1, 2, 3, 4]
    refine wO (qA 0 (kG 5000 (jA.mk y3 y4 y5) 2 hx17) jS) ?_ ?_
    ·refine wO (mX jS) ?_ ?_
     ·refine wO (qA 0 (kG 5000 (jA.mk x17_1_0 x17_1_1 x17_1_2) 2 hx18) jS) ?_ ?_
      ·refine zW (jD rfl (gF (gV (gI.mk a1_0) a2 (gG.mk y6 y7 y8 y9 y10 y11 y12 y13) (gD.mk x17_0_0 x17_0_1 x17_0_2) (gD.mk x18_0_0 x18_0_1 x18_0_2) hx19)) jS) ?_
       refine goT ?_
       refine jX ?_
       exact vC 1 [0, 1, 2, 3, 4]
      refine goT ?_
      refine jR (qA 0 (kG 5000 (jA.mk x17_1_0 x17_1_1 x17_1_2) 2 hx18) jS) ?_
      refine zW (jD rfl (gF (gV (gI.mk a1_0) a2 (gG.mk y6 y7 y8 y9 y10 y11 y12 y13) (gD.mk x17_0_0 x17_0_1 x17_0_2) (gD.mk x18_0_0 x18_0_1 x18_0_2) hx19)) jS) ?_
      refine goT ?_
      refine jX ?_
      exact vC 1 [0, 1, 2, 3, 4]
     refine wO (qA 0 (kG 5000 (jA.mk x17_1_0 x17_1_1 x17_1_2) 2 hx18) jS) ?_ ?_
     ·refine wO (mX jS) ?_ ?_
      ·refine zW (jD rfl (gF (gV (gI.mk a1_0) a2 (gG.mk y6 y7 y8 y9 y10 y11 y12 y13) (gD.mk x17_0_0 x17_0_1 x17_0_2) (gD.mk x18_0_0 x18_0_1 x18_0_2) hx19)) jS) ?_
       refine goT ?_
       refine jX ?_
       exact vC 1 [0, 1, 2, 3, 4]
      refine goT ?_
      refine jR (mX jS) ?_
      refine zW (jD rfl (gF (gV (gI.mk a1_0) a2 (gG.mk y6 y7 y8 y9 y10 y11 y12 y13) (gD.mk x17_0_0 x17_0_1 x17_0_2) (gD.mk x18_0_0 x18_0_1 x18_0_2) hx19)) jS) ?_
      refine goT ?_
      refine jX ?_
      exact vC 1 [0, 1, 2, 3, 4]
     refine goT ?_
     refine wO (mX jS) ?_ ?_
     ·refine jR (qA 0 (kG 5000 (jA.mk x17_1_0 x17_1_1 x17_1_2) 2 hx18) jS) ?_
      refine zW (jD rfl (gF (gV (gI.mk a1_0) a2 (gG.mk y6 y7 y8 y9 y10 y11 y12 y13) (gD.mk x17_0_0 x17_0_1 x17_0_2) (gD.mk x18_0_0 x18_0_1 x18_0_2) hx19)) jS) ?_
      refine goT ?_
      refine jX ?_
      exact vC 1 [0, 1, 2, 3, 4]
     refine jR (qA 0 (kG 5000 (jA.mk x17_1_0 x17_1_1 x17_1_2) 2 hx18) jS) ?_
     refine jR (mX jS) ?_
     refine zW (jD rfl (gF (gV (gI.mk a1_0) a2 (gG.mk y6 y7 y8 y9 y10 y11 y12 y13) (gD.mk x17_0_0 x17_0_1 x17_0_2) (gD.mk x18_0_0 x18_0_1 x18_0_2) hx19)) jS) ?_
     refine goT ?_
     refine jX ?_
     exact vC 1 [0, 1, 2, 3, 4]
    refine goT ?_
    refine wO (mX jS) ?_ ?_
    ·refine jR (qA 0 (kG 5000 (jA.mk y3 y4 y5) 2 hx17) jS) ?_
     refine jR (qA 0 (kG 5000 (jA.mk x17_1_0 x17_1_1 x17_1_2) 2 hx18) jS) ?_
     refine zW (jD rfl (gF (gV (gI.mk a1_0) a2 (gG.mk y6 y7 y8 y9 y10 y11 y12 y13) (gD.mk x17_0_0 x17_0_1 x17_0_2) (gD.mk x18_0_0 x18_0_1 x18_0_2) hx19)) jS) ?_
     refine goT ?_
     refine jX ?_
     exact vC 1 [0, 1, 2, 3, 4]
    refine jR (qA 0 (kG 5000 (jA.mk y3 y4 y5) 2 hx17) jS) ?_
    refine wO (mX jS) ?_ ?_
    ·refine jR (qA 0 (kG 5000 (jA.mk x17_1_0 x17_1_1 x17_1_2) 2 hx18) jS) ?_
     refine zW (jD rfl (gF (gV (gI.mk a1_0) a2 (gG.mk y6 y7 y8 y9 y10 y11 y12 y13) (gD.mk x17_0_0 x17_0_1 x17_0_2) (gD.mk x18_0_0 x18_0_1 x18_0_2) hx19)) jS) ?_
     refine goT ?_
     refine jX ?_
     exact vC 1 [0, 1, 2, 3, 4]
    refine jR (qA 0 (kG 5000 (jA.mk x17_1_0 x17_1_1 x17_1_2) 2 hx18) jS) ?_
    refine jR (mX jS) ?_
    refine zW (jD rfl (gF (gV (gI.mk a1_0) a2 (gG.mk y6 y7 y8 y9 y10 y11 y12 y13) (gD.mk x17_0_0 x17_0_1 x17_0_2) (gD.mk x18_0_0 x18_0_1 x18_0_2) hx19)) jS) ?_
    refine goT ?_
    refine jX ?_
    exact vC 1 [0, 1, 2, 3, 4]
   refine wO (mX jS) ?_ ?_
   ·refine wO (mX jS) ?_ ?_
    ·refine wO (qA 0 (kG 5000 (jA.mk y3 y4 y5) 2 hx17) jS) ?_ ?_
     ·refine wO (qA 0 (kG 5000 (jA.mk x17_1_0 x17_1_1 x17_1_2) 2 hx18) jS) ?_ ?_
      ·refine zW (jD rfl (gF (gV (gI.mk a1_0) a2 (gG.mk y6 y7 y8 y9 y10 y11 y12 y13) (gD.mk x17_0_0 x17_0_1 x17_0_2) (gD.mk x18_0_0 x18_0_1 x18_0_2) hx19)) jS) ?_
       refine goT ?_
       refine jX ?_
       exact vC 1 [0, 1, 2, 3, 4]
      refine goT ?_
      refine jR (qA 0 (kG 5000 (jA.mk x17_1_0 x17_1_1 x17_1_2) 2 hx18) jS) ?_
      refine zW (jD rfl (gF (gV (gI.mk a1_0) a2 (gG.mk y6 y7 y8 y9 y10 y11 y12 y13) (gD.mk x17_0_0 x17_0_1 x17_0_2) (gD.mk x18_0_0 x18_0_1 x18_0_2) hx19)) jS) ?_
      refine goT ?_
      refine jX ?_
      exact vC 1 [0, 1, 2, 3, 4]
     refine goT ?_
     refine jR (qA 0 (kG 5000 (jA.mk y3 y4 y5) 2 hx17) jS) ?_
     refine jR (qA 0 (kG 5000 (jA.mk x17_1_0 x17_1_1 x17_1_2) 2 hx18) jS) ?_
     refine zW (jD rfl (gF (gV (gI.mk a1_0) a2 (gG.mk y6 y7 y8 y9 y10 y11 y12 y13) (gD.mk x17_0_0 x17_0_1 x17_0_2) (gD.mk x18_0_0 x18_0_1 x18_0_2) hx19)) jS) ?_
     refine goT ?_
     refine jX ?_
     exact vC 1 [0, 1, 2, 3, 4]
    refine wO (qA 0 (kG 5000 (jA.mk y3 y4 y5) 2 hx17) jS) ?_ ?_
    ·refine wO (mX jS) ?_ ?_
     ·refine wO (qA 0 (kG 5000 (jA.mk x17_1_0 x17_1_1 x17_1_2) 2 hx18) jS) ?_ ?_
      ·refine zW (jD rfl (gF (gV (gI.mk a1_0) a2 (gG.mk y6 y7 y8 y9 y10 y11 y12 y13) (gD.mk x17_0_0 x17_0_1 x17_0_2) (gD.mk x18_0_0 x18_0_1 x18_0_2) hx19)) jS) ?_
       refine goT ?_
       refine jX ?_
       exact vC 1 [0, 1, 2, 3, 4]
      refine goT ?_
      refine jR (qA 0 (kG 5000 (jA.mk x17_1_0 x17_1_1 x17_1_2) 2 hx18) jS) ?_
      refine zW (jD rfl (gF (gV (gI.mk a1_0) a2 (gG.mk y6 y7 y8 y9 y10 y11 y12 y13) (gD.mk x17_0_0 x17_0_1 x17_0_2) (gD.mk x18_0_0 x18_0_1 x18_0_2) hx19)) jS) ?_
      refine goT ?_
      refine jX ?_
      exact vC 1 [0, 1, 2, 3, 4]
     refine wO (qA 0 (kG 5000 (jA.mk x17_1_0 x17_1_1 x17_1_2) 2 hx18) jS) ?_ ?_
     ·refine wO (mX jS) ?_ ?_
      ·refine zW (jD rfl (gF (gV (gI.mk a1_0) a2 (gG.mk y6 y7 y8 y9 y10 y11 y12 y13) (gD.mk x17_0_0 x17_0_1 x17_0_2) (gD.mk x18_0_0 x18_0_1 x18_0_2) hx19)) jS) ?_
       refine goT ?_
       refine jX ?_
       exact vC 1 [0, 1, 2, 3, 4]
      refine goT ?_
      refine jR (mX jS) ?_
      refine zW (jD rfl (gF (gV (gI.mk a1_0) a2 (gG.mk y6 y7 y8 y9 y10 y11 y12 y13) (gD.mk x17_0_0 x17_0_1 x17_0_2) (gD.mk x18_0_0 x18_0_1 x18_0_2) hx19)) jS) ?_
      refine goT ?_
      refine jX ?_
      exact vC 1 [0, 1, 2, 3, 4]
     refine goT ?_
     refine wO (mX jS) ?_ ?_
     ·refine jR (qA 0 (kG 5000 (jA.mk x17_1_0 x17_1_1 x17_1_2) 2 hx18) jS) ?_
      refine zW (jD rfl (gF (gV (gI.mk a1_0) a2 (gG.mk y6 y7 y8 y9 y10 y11 y12 y13) (gD.mk x17_0_0 x17_0_1 x17_0_2) (gD.mk x18_0_0 x18_0_1 x18_0_2) hx19)) jS) ?_
      refine goT ?_
      refine jX ?_
      exact vC 1 [0, 1, 2, 3, 4]
     refine jR (qA 0 (kG 5000 (jA.mk x17_1_0 x17_1_1 x17_1_2) 2 hx18) jS) ?_
     refine jR (mX jS) ?_
     refine zW (jD rfl (gF (gV (gI.mk a1_0) a2 (gG.mk y6 y7 y8 y9 y10 y11 y12 y13) (gD.mk x17_0_0 x17_0_1 x17_0_2) (gD.mk x18_0_0 x18_0_1 x18_0_2) hx19)) jS) ?_
     refine goT ?_
     refine jX ?_
     exact vC 1 [0, 1, 2, 3, 4]
    refine goT ?_
    refine wO (mX jS) ?_ ?_
    ·refine jR (qA 0 (kG 5000 (jA.mk y3 y4 y5) 2 hx17) jS) ?_
     refine jR (qA 0 (kG 5000 (jA.mk x17_1_0 x17_1_1 x17_1_2) 2 hx18) jS) ?_
     refine zW (jD rfl (gF (gV (gI.mk a1_0) a2 (gG.mk y6 y7 y8 y9 y10 y11 y12 y13) (gD.mk x17_0_0 x17_0_1 x17_0_2) (gD.mk x18_0_0 x18_0_1 x18_0_2) hx19)) jS) ?_
     refine goT ?_
     refine jX ?_
     exact vC 1 [0, 1, 2, 3, 4]
    refine jR (qA 0 (kG 5000 (jA.mk y3 y4 y5) 2 hx17) jS) ?_
    refine wO (mX jS) ?_ ?_
    ·refine jR (qA 0 (kG 5000 (jA.mk x17_1_0 x17_1_1 x17_1_2) 2 hx18) jS) ?_
     refine zW (jD rfl (gF (gV (gI.mk a1_0) a2 (gG.mk y6 y7 y8 y9 y10 y11 y12 y13) (gD.mk x17_0_0 x17_0_1 x17_0_2) (gD.mk x18_0_0 x18_0_1 x18_0_2) hx19)) jS) ?_
     refine goT ?_
     refine jX ?_
     exact vC 1 [0, 1, 2, 3, 4]
    refine jR (qA 0 (kG 5000 (jA.mk x17_1_0 x17_1_1 x17_1_2) 2 hx18) jS) ?_
    refine jR (mX jS) ?_
    refine zW (jD rfl (gF (gV (gI.mk a1_0) a2 (gG.mk y6 y7 y8 y9 y10 y11 y12 y13) (gD.mk x17_0_0 x17_0_1 x17_0_2) (gD.mk x18_0_0 x18_0_1 x18_0_2) hx19)) jS) ?_
    refine goT ?_
    refine jX ?_
    exact vC 1 [0, 1, 2, 3, 4]
   refine wO (qA 0 (kG 5000 (jA.mk y3 y4 y5) 2 hx17) jS) ?_ ?_
   ·refine wO (mX jS) ?_ ?_
    ·refine wO (mX jS) ?_ ?_
     ·refine wO (qA 0 (kG 5000 (jA.mk x17_1_0 x17_1_1 x17_1_2) 2 hx18) jS) ?_ ?_
      ·refine zW (jD rfl (gF (gV (gI.mk a1_0) a2 (gG.mk y6 y7 y8 y9 y10 y11 y12 y13) (gD.mk x17_0_0 x17_0_1 x17_0_2) (gD.mk x18_0_0 x18_0_1 x18_0_2) hx19)) jS) ?_
       refine goT ?_
       refine jX ?_
       exact vC 1 [0, 1, 2, 3, 4]
      refine goT ?_
      refine jR (qA 0 (kG 5000 (jA.mk x17_1_0 x17_1_1 x17_1_2) 2 hx18) jS) ?_
      refine zW (jD rfl (gF (gV (gI.mk a1_0) a2 (gG.mk y6 y7 y8 y9 y10 y11 y12 y13) (gD.mk x17_0_0 x17_0_1 x17_0_2) (gD.mk x18_0_0 x18_0_1 x18_0_2) hx19)) jS) ?_
      refine goT ?_
      refine jX ?_
      exact vC 1 [0, 1, 2, 3, 4]
     refine wO (qA 0 (kG 5000 (jA.mk x17_1_0 x17_1_1 x17_1_2) 2 hx18) jS) ?_ ?_
     ·refine wO (mX jS) ?_ ?_
      ·refine zW (jD rfl (gF (gV (gI.mk a1_0) a2 (gG.mk y6 y7 y8 y9 y10 y11 y12 y13) (gD.mk x17_0_0 x17_0_1 x17_0_2) (gD.mk x18_0_0 x18_0_1 x18_0_2) hx19)) jS) ?_
       refine goT ?_
       refine jX ?_
       exact vC 1 [0, 1, 2, 3, 4]
      refine goT ?_
      refine jR (mX jS) ?_
      refine zW (jD rfl (gF (gV (gI.mk a1_0) a2 (gG.mk y6 y7 y8 y9 y10 y11 y12 y13) (gD.mk x17_0_0 x17_0_1 x17_0_2) (gD.mk x18_0_0 x18_0_1 x18_0_2) hx19)) jS) ?_
      refine goT ?_
      refine jX ?_
      exact vC 1 [0, 1, 2, 3, 4]
     refine goT ?_
     refine wO (mX jS) ?_ ?_
     ·refine jR (qA 0 (kG 5000 (jA.mk x17_1_0 x17_1_1 x17_1_2) 2 hx18) jS) ?_
      refine zW (jD rfl (gF (gV (gI.mk a1_0) a2 (gG.mk y6 y7 y8 y9 y10 y11 y12 y13) (gD.mk x17_0_0 x17_0_1 x17_0_2) (gD.mk x18_0_0 x18_0_1 x18_0_2) hx19)) jS) ?_
      refine goT ?_
      refine jX ?_
      exact vC 1 [0, 1, 2, 3, 4]
     refine jR (qA 0 (kG 5000 (jA.mk x17_1_0 x17_1_1 x17_1_2) 2 hx18) jS) ?_
     refine jR (mX jS) ?_
     refine zW (jD rfl (gF (gV (gI.mk a1_0) a2 (gG.mk y6 y7 y8 y9 y10 y11 y12 y13) (gD.mk x17_0_0 x17_0_1 x17_0_2) (gD.mk x18_0_0 x18_0_1 x18_0_2) hx19)) jS) ?_
     refine goT ?_
     refine jX ?_
     exact vC 1 [0, 1, 2, 3, 4]
    refine wO (mX jS) ?_ ?_
    ·refine wO (mX jS) ?_ ?_
     ·refine wO (qA 0 (kG 5000 (jA.mk x17_1_0 x17_1_1 x17_1_2) 2 hx18) jS) ?_ ?_
      ·refine zW (jD rfl (gF (gV (gI.mk a1_0) a2 (gG.mk y6 y7 y8 y9 y10 y11 y12 y13) (gD.mk x17_0_0 x17_0_1 x17_0_2) (gD.mk x18_0_0 x18_0_1 x18_0_2) hx19)) jS) ?_
       refine goT ?_
       refine jX ?_
       exact vC 1 [0, 1, 2, 3, 4]
      refine goT ?_
      refine jR (qA 0 (kG 5000 (jA.mk x17_1_0 x17_1_1 x17_1_2) 2 hx18) jS) ?_
      refine zW (jD rfl (gF (gV (gI.mk a1_0) a2 (gG.mk y6 y7 y8 y9 y10 y11 y12 y13) (gD.mk x17_0_0 x17_0_1 x17_0_2) (gD.mk x18_0_0 x18_0_1 x18_0_2) hx19)) jS) ?_
      refine goT ?_
      refine jX ?_
      exact vC 1 [0, 1, 2, 3, 4]
     refine wO (qA 0 (kG 5000 (jA.mk x17_1_0 x17_1_1 x17_1_2) 2 hx18) jS) ?_ ?_
     ·refine wO (mX jS) ?_ ?_
      ·refine zW (jD rfl (gF (gV (gI.mk a1_0) a2 (gG.mk y6 y7 y8 y9 y10 y11 y12 y13) (gD.mk x17_0_0 x17_0_1 x17_0_2) (gD.mk x18_0_0 x18_0_1 x18_0_2) hx19)) jS) ?_
       refine goT ?_
       refine jX ?_
       exact vC 1 [0, 1, 2, 3, 4]
      refine goT ?_
      refine jR (mX jS) ?_
      refine zW (jD rfl (gF (gV (gI.mk a1_0) a2 (gG.mk y6 y7 y8 y9 y10 y11 y12 y13) (gD.mk x17_0_0 x17_0_1 x17_0_2) (gD.mk x18_0_0 x18_0_1 x18_0_2) hx19)) jS) ?_
      refine goT ?_
      refine jX ?_
      exact vC 1 [0, 1, 2, 3, 4]
     refine goT ?_
     refine wO (mX jS) ?_ ?_
     ·refine jR (qA 0 (kG 5000 (jA.mk x17_1_0 x17_1_1 x17_1_2) 2 hx18) jS) ?_
      refine zW (jD rfl (gF (gV (gI.mk a1_0) a2 (gG.mk y6 y7 y8 y9 y10 y11 y12 y13) (gD.mk x17_0_0 x17_0_1 x17_0_2) (gD.mk x18_0_0 x18_0_1 x18_0_2) hx19)) jS) ?_
      refine goT ?_
      refine jX ?_
      exact vC 1 [0, 1, 2, 3, 4]
     refine jR (qA 0 (kG 5000 (jA.mk x17_1_0 x17_1_1 x17_1_2) 2 hx18) jS) ?_
     refine jR (mX jS) ?_
     refine zW (jD rfl (gF (gV (gI.mk a1_0) a2 (gG.mk y6 y7 y8 y9 y10 y11 y12 y13) (gD.mk x17_0_0 x17_0_1 x17_0_2) (gD.mk x18_0_0 x18_0_1 x18_0_2) hx19)) jS) ?_
     refine goT ?_
     refine jX ?_
     exact vC 1 [0, 1, 2, 3, 4]
    refine wO (qA 0 (kG 5000 (jA.mk x17_1_0 x17_1_1 x17_1_2) 2 hx18) jS) ?_ ?_
    ·refine wO (mX jS) ?_ ?_
     ·refine wO (mX jS) ?_ ?_
      ·refine zW (jD rfl (gF (gV (gI.mk a1_0) a2 (gG.mk y6 y7 y8 y9 y10 y11 y12 y13) (gD.mk x17_0_0 x17_0_1 x17_0_2) (gD.mk x18_0_0 x18_0_1 x18_0_2) hx19)) jS) ?_
       refine goT ?_
       refine jX ?_
       exact vC 1 [0, 1, 2, 3, 4]
      refine goT ?_
      refine jR (mX jS) ?_
      refine zW (jD rfl (gF (gV (gI.mk a1_0) a2 (gG.mk y6 y7 y8 y9 y10 y11 y12 y13) (gD.mk x17_0_0 x17_0_1 x17_0_2) (gD.mk x18_0_0 x18_0_1 x18_0_2) hx19)) jS) ?_
      refine goT ?_
      refine jX ?_
      exact vC 1 [0, 1, 2, 3, 4]
     refine wO (mX jS) ?_ ?_
     ·refine wO (mX jS) ?_ ?_
      ·refine zW (jD rfl (gF (gV (gI.mk a1_0) a2 (gG.mk y6 y7 y8 y9 y10 y11 y12 y13) (gD.mk x17_0_0 x17_0_1 x17_0_2) (gD.mk x18_0_0 x18_0_1 x18_0_2) hx19)) jS) ?_
       refine goT ?_
       refine jX ?_
       exact vC 1 [0, 1, 2, 3, 4]
      refine goT ?_
      refine jR (mX jS) ?_
      refine zW (jD rfl (gF (gV (gI.mk a1_0) a2 (gG.mk y6 y7 y8 y9 y10 y11 y12 y13) (gD.mk x17_0_0 x17_0_1 x17_0_2) (gD.mk x18_0_0 x18_0_1 x18_0_2) hx19)) jS) ?_
      refine goT ?_
      refine jX ?_
      exact vC 1 [0, 1, 2, 3, 4]
     refine goT ?_
     refine wO (mX jS) ?_ ?_
     ·refine jR (mX jS) ?_
      refine zW (jD rfl (gF (gV (gI.mk a1_0) a2 (gG.mk y6 y7 y8 y9 y10 y11 y12 y13) (gD.mk x17_0_0 x17_0_1 x17_0_2) (gD.mk x18_0_0 x18_0_1 x18_0_2) hx19)) jS) ?_
      refine goT ?_
      refine jX ?_
      exact vC 1 [0, 1, 2, 3, 4]
     refine jR (mX jS) ?_
     refine jR (mX jS) ?_
     refine zW (jD rfl (gF (gV (gI.mk a1_0) a2 (gG.mk y6 y7 y8 y9 y10 y11 y12 y13) (gD.mk x17_0_0 x17_0_1 x17_0_2) (gD.mk x18_0_0 x18_0_1 x18_0_2) hx19)) jS) ?_
     refine goT ?_
     refine jX ?_
     exact vC 1 [0, 1, 2, 3, 4]
    refine goT ?_
    refine wO (mX jS) ?_ ?_
    ·refine wO (mX jS) ?_ ?_
     ·refine jR (qA 0 (kG 5000 (jA.mk x17_1_0 x17_1_1 x17_1_2) 2 hx18) jS) ?_
      refine zW (jD rfl (gF (gV (gI.mk a1_0) a2 (gG.mk y6 y7 y8 y9 y10 y11 y12 y13) (gD.mk x17_0_0 x17_0_1 x17_0_2) (gD.mk x18_0_0 x18_0_1 x18_0_2) hx19)) jS) ?_
      refine goT ?_
      refine jX ?_
      exact vC 1 [0, 1, 2, 3, 4]
     refine jR (qA 0 (kG 5000 (jA.mk x17_1_0 x17_1_1 x17_1_2) 2 hx18) jS) ?_
     refine jR (mX jS) ?_
     refine zW (jD rfl (gF (gV (gI.mk a1_0) a2 (gG.mk y6 y7 y8 y9 y10 y11 y12 y13) (gD.mk x17_0_0 x17_0_1 x17_0_2) (gD.mk x18_0_0 x18_0_1 x18_0_2) hx19)) jS) ?_
     refine goT ?_
     refine jX ?_
     exact vC 1 [0, 1, 2, 3, 4]
    refine wO (mX jS) ?_ ?_
    ·refine wO (mX jS) ?_ ?_
     ·refine jR (qA 0 (kG 5000 (jA.mk x17_1_0 x17_1_1 x17_1_2) 2 hx18) jS) ?_
      refine zW (jD rfl (gF (gV (gI.mk a1_0) a2 (gG.mk y6 y7 y8 y9 y10 y11 y12 y13) (gD.mk x17_0_0 x17_0_1 x17_0_2) (gD.mk x18_0_0 x18_0_1 x18_0_2) hx19)) jS) ?_
      refine goT ?_
      refine jX ?_
      exact vC 1 [0, 1, 2, 3, 4]
     refine jR (qA 0 (kG 5000 (jA.mk x17_1_0 x17_1_1 x17_1_2) 2 hx18) jS) ?_
     refine jR (mX jS) ?_
     refine zW (jD rfl (gF (gV (gI.mk a1_0) a2 (gG.mk y6 y7 y8 y9 y10 y11 y12 y13) (gD.mk x17_0_0 x17_0_1 x17_0_2) (gD.mk x18_0_0 x18_0_1 x18_0_2) hx19)) jS) ?_
     refine goT ?_
     refine jX ?_
     exact vC 1 [0, 1, 2, 3, 4]
    refine jR (qA 0 (kG 5000 (jA.mk x17_1_0 x17_1_1 x17_1_2) 2 hx18) jS) ?_
    refine wO (mX jS) ?_ ?_
    ·refine jR (mX jS) ?_
     refine zW (jD rfl (gF (gV (gI.mk a1_0) a2 (gG.mk y6 y7 y8 y9 y10 y11 y12 y13) (gD.mk x17_0_0 x17_0_1 x17_0_2) (gD.mk x18_0_0 x18_0_1 x18_0_2) hx19)) jS) ?_
     refine goT ?_
     refine jX ?_
     exact vC 1 [0, 1, 2, 3, 4]
    refine jR (mX jS) ?_
    refine jR (mX jS) ?_
    refine zW (jD rfl (gF (gV (gI.mk a1_0) a2 (gG.mk y6 y7 y8 y9 y10 y11 y12 y13) (gD.mk x17_0_0 x17_0_1 x17_0_2) (gD.mk x18_0_0 x18_0_1 x18_0_2) hx19)) jS) ?_
    refine goT ?_
    refine jX ?_
    exact vC 1 [0, 1, 2, 3, 4]
   refine goT ?_
   refine wO (mX jS) ?_ ?_
   ·refine wO (mX jS) ?_ ?_
    ·refine jR (qA 0 (kG 5000 (jA.mk y3 y4 y5) 2 hx17) jS) ?_
     refine jR (qA 0 (kG 5000 (jA.mk x17_1_0 x17_1_1 x17_1_2) 2 hx18) jS) ?_
     refine zW (jD rfl (gF (gV (gI.mk a1_0) a2 (gG.mk y6 y7 y8 y9 y10 y11 y12 y13) (gD.mk x17_0_0 x17_0_1 x17_0_2) (gD.mk x18_0_0 x18_0_1 x18_0_2) hx19)) jS) ?_
     refine goT ?_
     refine jX ?_
     exact vC 1 [0, 1, 2, 3, 4]
    refine jR (qA 0 (kG 5000 (jA.mk y3 y4 y5) 2 hx17) jS) ?_
    refine wO (mX jS) ?_ ?_
    ·refine jR (qA 0 (kG 5000 (jA.mk x17_1_0 x17_1_1 x17_1_2) 2 hx18) jS) ?_
     refine zW (jD rfl (gF (gV (gI.mk a1_0) a2 (gG.mk y6 y7 y8 y9 y10 y11 y12 y13) (gD.mk x17_0_0 x17_0_1 x17_0_2) (gD.mk x18_0_0 x18_0_1 x18_0_2) hx19)) jS) ?_
     refine goT ?_
     refine jX ?_
     exact vC 1 [0, 1, 2, 3, 4]
    refine jR (qA 0 (kG 5000 (jA.mk x17_1_0 x17_1_1 x17_1_2) 2 hx18) jS) ?_
    refine jR (mX jS) ?_
    refine zW (jD rfl (gF (gV (gI.mk a1_0) a2 (gG.mk y6 y7 y8 y9 y10 y11 y12 y13) (gD.mk x17_0_0 x17_0_1 x17_0_2) (gD.mk x18_0_0 x18_0_1 x18_0_2) hx19)) jS) ?_
    refine goT ?_
    refine jX ?_
    exact vC 1 [0, 1, 2, 3, 4]
   refine wO (mX jS) ?_ ?_
   ·refine wO (mX jS) ?_ ?_
    ·refine jR (qA 0 (kG 5000 (jA.mk y3 y4 y5) 2 hx17) jS) ?_
     refine jR (qA 0 (kG 5000 (jA.mk x17_1_0 x17_1_1 x17_1_2) 2 hx18) jS) ?_
     refine zW (jD rfl (gF (gV (gI.mk a1_0) a2 (gG.mk y6 y7 y8 y9 y10 y11 y12 y13) (gD.mk x17_0_0 x17_0_1 x17_0_2) (gD.mk x18_0_0 x18_0_1 x18_0_2) hx19)) jS) ?_
     refine goT ?_
     refine jX ?_
     exact vC 1 [0, 1, 2, 3, 4]
    refine jR (qA 0 (kG 5000 (jA.mk y3 y4 y5) 2 hx17) jS) ?_
    refine wO (mX jS) ?_ ?_
    ·refine jR (qA 0 (kG 5000 (jA.mk x17_1_0 x17_1_1 x17_1_2) 2 hx18) jS) ?_
     refine zW (jD rfl (gF (gV (gI.mk a1_0) a2 (gG.mk y6 y7 y8 y9 y10 y11 y12 y13) (gD.mk x17_0_0 x17_0_1 x17_0_2) (gD.mk x18_0_0 x18_0_1 x18_0_2) hx19)) jS) ?_
     refine goT ?_
     refine jX ?_
     exact vC 1 [0, 1, 2, 3, 4]
    refine jR (qA 0 (kG 5000 (jA.mk x17_1_0 x17_1_1 x17_1_2) 2 hx18) jS) ?_
    refine jR (mX jS) ?_
    refine zW (jD rfl (gF (gV (gI.mk a1_0) a2 (gG.mk y6 y7 y8 y9 y10 y11 y12 y13) (gD.mk x17_0_0 x17_0_1 x17_0_2) (gD.mk x18_0_0 x18_0_1 x18_0_2) hx19)) jS) ?_
    refine goT ?_
    refine jX ?_
    exact vC 1 [0, 1, 2, 3, 4]
   refine jR (qA 0 (kG 5000 (jA.mk y3 y4 y5) 2 hx17) jS) ?_
   refine wO (mX jS) ?_ ?_
   ·refine wO (mX jS) ?_ ?_
    ·refine jR (qA 0 (kG 5000 (jA.mk x17_1_0 x17_1_1 x17_1_2) 2 hx18) jS) ?_
     refine zW (jD rfl (gF (gV (gI.mk a1_0) a2 (gG.mk y6 y7 y8 y9 y10 y11 y12 y13) (gD.mk x17_0_0 x17_0_1 x17_0_2) (gD.mk x18_0_0 x18_0_1 x18_0_2) hx19)) jS) ?_
     refine goT ?_
     refine jX ?_
     exact vC 1 [0, 1, 2, 3, 4]
    refine jR (qA 0 (kG 5000 (jA.mk x17_1_0 x17_1_1 x17_1_2) 2 hx18) jS) ?_
    refine jR (mX jS) ?_
    refine zW (jD rfl (gF (gV (gI.mk a1_0) a2 (gG.mk y6 y7 y8 y9 y10 y11 y12 y13) (gD.mk x17_0_0 x17_0_1 x17_0_2) (gD.mk x18_0_0 x18_0_1 x18_0_2) hx19)) jS) ?_
    refine goT ?_
    refine jX ?_
    exact vC 1 [0, 1, 2, 3, 4]
   refine wO (mX jS) ?_ ?_
   ·refine wO (mX jS) ?_ ?_
    ·refine jR (qA 0 (kG 5000 (jA.mk x17_1_0 x17_1_1 x17_1_2) 2 hx18) jS) ?_
     refine zW (jD rfl (gF (gV (gI.mk a1_0) a2 (gG.mk y6 y7 y8 y9 y10 y11 y12 y13) (gD.mk x17_0_0 x17_0_1 x17_0_2) (gD.mk x18_0_0 x18_0_1 x18_0_2) hx19)) jS) ?_
     refine goT ?_
     refine jX ?_
     exact vC 1 [0, 1, 2, 3, 4]
    refine jR (qA 0 (kG 5000 (jA.mk x17_1_0 x17_1_1 x17_1_2) 2 hx18) jS) ?_
    refine jR (mX jS) ?_
    refine zW (jD rfl (gF (gV (gI.mk a1_0) a2 (gG.mk y6 y7 y8 y9 y10 y11 y12 y13) (gD.mk x17_0_0 x17_0_1 x17_0_2) (gD.mk x18_0_0 x18_0_1 x18_0_2) hx19)) jS) ?_
    refine goT ?_
    refine jX ?_
    exact vC 1 [0, 1, 2, 3, 4]
   refine jR (qA 0 (kG 5000 (jA.mk x17_1_0 x17_1_1 x17_1_2) 2 hx18) jS) ?_
   refine wO (mX jS) ?_ ?_
   ·refine jR (mX jS) ?_
    refine zW (jD rfl (gF (gV (gI.mk a1_0) a2 (gG.mk y6 y7 y8 y9 y10 y11 y12 y13) (gD.mk x17_0_0 x17_0_1 x17_0_2) (gD.mk x18_0_0 x18_0_1 x18_0_2) hx19)) jS) ?_
    refine goT ?_
    refine jX ?_
    exact vC 1 [0, 1, 2, 3, 4]
   refine jR (mX jS) ?_
   refine jR (mX jS) ?_
   refine zW (jD rfl (gF (gV (gI.mk a1_0) a2 (gG.mk y6 y7 y8 y9 y10 y11 y12 y13) (gD.mk x17_0_0 x17_0_1 x17_0_2) (gD.mk x18_0_0 x18_0_1 x18_0_2) hx19)) jS) ?_
   refine goT ?_
   refine jX ?_
   exact vC 1 [0, 1, 2, 3, 4]
  refine goL ?_
  refine gQ 32 (fun c20 => ?_) (fun c20 => ?_)
  ·replace h := gW c20 h
   refine goL ?_
   refine hLt ?_
   refine goL ?_
   refine jH (qG) ?_
   exact ⟨n15, x18_1_0, x18_1_1, x18_1_2, x19_0, x19_1, x19_2, x19_3, x19_4, x19_5, x19_6, x19_7, (IntKind.i64.wrap (y14 + 1)), h, Nat.lt_succ_self _, eJ⟩
  ·replace h := gX c20 h
   refine goL ?_
   refine uB ?_
   obtain ⟨⟨x21_0, ⟨x21_1_0, x21_1_1, x21_1_2⟩⟩, hx21, h⟩ := gK h
   refine zH 0 (gG9 (jA.mk x18_1_0 x18_1_1 x18_1_2) 12 hx21) ?_
   refine goC h ?_ ?_<;>intro c22 h
   ·refine goL ?_
    refine jH (qG) ?_
    exact ⟨n15, x21_1_0, x21_1_1, x21_1_2, x19_0, x19_1, x19_2, x19_3, x19_4, x19_5, x19_6, x19_7, (IntKind.i64.wrap (y14 + 1)), h, Nat.lt_succ_self _, eJ⟩
   ·refine goS ?_
    refine jH (qG) ?_
    exact ⟨n15, x21_1_0, x21_1_1, x21_1_2, y6, y7, y8, y9, y10, y11, y12, y13, (IntKind.i64.wrap (y14 + 1)), h, Nat.lt_succ_self _, eJ⟩
 ·refine goX ?_
  refine jN ?_
  obtain rfl := Option.some.inj h
  exact gEl [.d (.st [.i .i64 y6, .i .i64 y7, .i .i64 y8, .sl 4 (gP y9), .sl 7 (jP y10), .sl 5 (jG y11), .i .i64 y12, .i .i64 y13])] [.box [.L 1 (kN y3), .I y4, .I y5]] ⟨rfl, rfl⟩
def gWz (x0 : jA) (x1 : gI) (x2 : List jF) : Option (gG × jA) := gPn x0 x1 x2 5000
end Go.Proofs.YtfaplndgbgoaaaaGreat
