import Derived.Test.YtfaplndgbgoaaaaGreatEng38
import Derived.Test.YtfaplndgbgoaaaaGreatEng67
import Derived.Test.YtfaplndgbgoaaaaGreatCur
import Derived.Test.YtfaplndgbgoaaaaGreatB12
import Derived.Test.YtfaplndgbgoaaaaGreatB13
import Derived.Test.YtfaplndgbgoaaaaGreatVr
import Derived.Test.YtfaplndgbgoaaaaGreatB4
set_option maxHeartbeats 4000000
set_option linter.unusedVariables false
set_option linter.unusedSimpArgs false
set_option linter.unusedSectionVars false
namespace Go.Proofs.YtfaplndgbgoaaaaGreat
open Go Go.Eng
attribute [local irreducible] V VO VQ VY Quiet QR jB kR Rng uX vB qY
theorem gI2 (p t : gD) (hp : tnd p ≤ 40000) (ht : tok t) : gDp p t = some (match mtT p t [] with | some l => (l, true) | none => ([], false)) := by
 obtain ⟨q, e1, e2⟩ := (gM5 100000).2 [p] [t] [] (by simp only [gA8]; omega) (fun b hb => by simp at hb) (by simpa using ht) rfl (by simp [gA8]; omega)
 have h0 : ((([p] : List gD).length : Int) != (([t] : List gD).length : Int)) = false := by simp
 unfold gDp gFa
 rw [h0, gN, kH e1]
 simp only [gWl] at e2
 cases hm : mtT p t [] with
 | none =>
   rw [hm] at e2
   have e3 : q.1 = false := e2
   rw [e3]
   rfl
 | some l =>
   rw [hm] at e2
   have e3 : q = (true, l) := e2
   subst e3
   rfl
def addN : List UInt8 := [97, 100, 100]
def hIf : List UInt8 := [105, 110, 116]
def hGe : List UInt8 := [98, 111, 120]
def gGu : gD := ⟨2, hIf, []⟩
def gFq : gD := ⟨2, hGe, [⟨1, [97], []⟩]⟩
def gWp (t : gD) : gD := ⟨3, addN, [t]⟩
def gQy (t : gD) : gD := ⟨2, hGe, [t]⟩
def isI (t : gD) : Bool := (t.kind == 2) && (t.name == hIf) && (t.args.length == 0)
def gVa (t : gD) : Bool := (t.kind == 2) && (t.name == hGe) && (t.args.length == 1)
theorem gVb (t : gD) : mtT gGu t [] = cnd (isI t) (some []) none := by
 obtain ⟨k, n, ts⟩ := t
 simp only [gGu, mtT, isI]
 rw [show ((2 : Int) == 1) = false from by decide, gN]
 by_cases h1 : k = 2
 ·subst h1
  by_cases h2 : n = hIf
  ·subst h2
   cases ts with
   | nil => rfl
   | cons a ts =>
     simp only [bne_self_eq_false, beq_self_eq_true, Bool.not_true, gN, List.length_cons, List.length_nil, Bool.and_self, Bool.true_and]
     rw [show (((0 : Nat) : Int) != ((ts.length + 1 : Nat) : Int)) = true from bne_iff_ne.2 (by omega), show (ts.length + 1 == 0) = false from beq_false_of_ne (by omega)]
     rfl
  ·rw [show (hIf == n) = false from beq_false_of_ne (Ne.symm h2), show (n == hIf) = false from beq_false_of_ne h2]
   simp [cnd]
 ·rw [show ((2 : Int) != k) = true from bne_iff_ne.2 (Ne.symm h1), show (k == 2) = false from beq_false_of_ne h1]
  simp [cnd]
theorem gVc (t : gD) : mtT gFq t [] = cnd (gVa t) (some [⟨[97], t.args.headD ⟨0, [], []⟩⟩]) none := by
 obtain ⟨k, n, ts⟩ := t
 simp only [gFq, mtT, gVa]
 rw [show ((2 : Int) == 1) = false from by decide, gN]
 by_cases h1 : k = 2
 ·subst h1
  by_cases h2 : n = hGe
  ·subst h2
   match ts with
   | [] => rfl
   | [a] => rfl
   | a :: b :: ts =>
     simp only [bne_self_eq_false, beq_self_eq_true, Bool.not_true, gN, List.length_cons, List.length_nil, Bool.and_self, Bool.true_and]
     rw [show (((0 + 1 : Nat) : Int) != ((ts.length + 1 + 1 : Nat) : Int)) = true from bne_iff_ne.2 (by omega), show (ts.length + 1 + 1 == 1) = false from beq_false_of_ne (by omega)]
     rfl
  ·rw [show (hGe == n) = false from beq_false_of_ne (Ne.symm h2), show (n == hGe) = false from beq_false_of_ne h2]
   simp [cnd]
 ·rw [show ((2 : Int) != k) = true from bne_iff_ne.2 (Ne.symm h1), show (k == 2) = false from beq_false_of_ne h1]
  simp [cnd]
def gOq (w : gI) (o : gT) : Option jZ := bnd (at? w.packages o.package) fun p => at? p.instances o.at_
def gVd (w : gI) (l : List gT) : Prop := ∀ o ∈ l, ∃ i, gOq w o = some i ∧ (i.trait == addN) = false
structure gVe (w : gI) (k : Int) : Prop where
 refs : ∃ pre post, gAm w = some (pre ++ (⟨0, k⟩ :: ⟨0, k + 1⟩ :: post)) ∧ gVd w pre ∧ gVd w post
 i1 : ∃ i, gOq w ⟨0, k⟩ = some i ∧ i.trait = addN ∧ i.head = gGu ∧ i.where_ = [] ∧ i.default_ = false ∧ i.hasAssoc = true ∧ i.assoc = gGu ∧ gBi w ⟨0, k⟩ = some (i, true)
 i2 : ∃ i, gOq w ⟨0, k + 1⟩ = some i ∧ i.trait = addN ∧ i.head = gFq ∧ i.where_ = [⟨addN, ⟨1, [97], []⟩⟩] ∧ i.default_ = false ∧ i.hasAssoc = true ∧ i.assoc = gQy (gWp ⟨1, [97], []⟩) ∧ gBi w ⟨0, k + 1⟩ = some (i, true)
 tr : (vT w addN).1.auto = false
 sh : qF w [115, 104, 111, 119] = some []
 od : qF w [111, 114, 100] = some [[101, 113]]
 ad : qF w addN = some []
 pa : wB w [111, 114, 100] [101, 113] = some ([0], true)
theorem gJw {w : gI} {o : gT} {i : jZ} (h : gOq w o = some i) : ∃ p, at? w.packages o.package = some p ∧ at? p.instances o.at_ = some i := gK h
theorem gQs {w : gI} (t : gD) : ∀ (l acc : List gT) (rest : List gT), gVd w l → kJ w ⟨addN, t⟩ (l ++ rest) acc = kJ w ⟨addN, t⟩ rest acc
 | [], acc, rest, _ => rfl
 | o :: l, acc, rest, h => by
   obtain ⟨i, h1, h2⟩ := h o (by simp)
   obtain ⟨p, h3, h4⟩ := gJw h1
   simp only [List.cons_append, kJ, h3, h4, bnd, h2, gN]
   exact gQs t l acc rest (fun o ho => h o (by simp [ho]))
def gZm (k : Int) (t : gD) : List gT := cnd (isI t) [⟨0, k⟩] (cnd (gVa t) [⟨0, k + 1⟩] [])
theorem hCn {t : gD} (h : isI t = true) : gVa t = false := by
 unfold isI at h
 unfold gVa
 simp only [Bool.and_eq_true, beq_iff_eq] at h
 rw [h.2]
 simp
theorem hFy {w : gI} {k : Int} (hw : gVe w k) (t : gD) (ht : tok t) : uT w ⟨addN, t⟩ = some (gZm k t) := by
 obtain ⟨pre, post, h1, h2, h3⟩ := hw.refs
 obtain ⟨a, ha, ha1, ha2, _⟩ := hw.i1
 obtain ⟨b, hb, hb1, hb2, _⟩ := hw.i2
 obtain ⟨p, ha3, ha4⟩ := gJw ha
 obtain ⟨q, hb3, hb4⟩ := gJw hb
 have hpq : q = p := Option.some.inj (hb3.symm.trans ha3)
 subst hpq
 unfold uT
 rw [kH h1, gQs t pre [] _ h2]
 have e1 : zV a.head t = some (isI t) := by rw [ha2, gG7 gGu t (by decide) ht, gVb]; cases isI t <;> rfl
 have e2 : zV b.head t = some (gVa t) := by rw [hb2, gG7 gFq t (by decide) ht, gVc]; cases gVa t <;> rfl
 have hend : ∀ acc, kJ w ⟨addN, t⟩ post acc = some acc := fun acc => by
  have := gQs t post acc [] h3
  rw [List.append_nil] at this
  rw [this]
  rfl
 simp only [kJ, ha3, ha4, hb3, hb4, bnd, ha1, hb1, beq_self_eq_true, jI, e1, e2, gZm]
 cases hI : isI t with
 | true =>
   simp only [jI, hCn hI, gN]
   rw [pQ (by simp)]
   exact hend _
 | false =>
   simp only [gN]
   cases gVa t with
   | true =>
     simp only [jI]
     rw [pQ (by simp)]
     exact hend _
   | false => simp only [gN]; exact hend _
theorem hCo : uU gGu gGu = some false := by
 have h : zV gGu gGu = some true := by rw [gG7 gGu gGu (by decide) (gJu _ _), gVb]; rfl
 unfold uU qZ
 simp only [h, bnd, jI, Bool.not_true]
theorem hCp : tok gFq := by simp [gFq, tok, gQh]
theorem hCq : uU gFq gFq = some false := by
 have h : zV gFq gFq = some true := by rw [gG7 gFq gFq (by decide) hCp, gVc]; rfl
 unfold uU qZ
 simp only [h, bnd, jI, Bool.not_true]
def hFz (k : Int) (t : gD) : gT × Int := cnd (isI t) (⟨0, k⟩, 0) (cnd (gVa t) (⟨0, k + 1⟩, 0) (⟨0, 0⟩, 1))
theorem gZn {w : gI} {o : gT} {i : jZ} (h : gOq w o = some i) (hm : uU i.head i.head = some false) (hd : i.default_ = false) : pM w [o] [o] = some (o, 0) := by
 obtain ⟨p, h3, h4⟩ := gJw h
 simp only [pM, uA, h3, h4, bnd, hm, jI, Bool.not_false, hd, gN]
theorem hIg {w : gI} {k : Int} (hw : gVe w k) (t : gD) (ht : tok t) : yR w ⟨addN, t⟩ = some (hFz k t) := by
 obtain ⟨a, ha, ha1, ha2, _, ha5, _⟩ := hw.i1
 obtain ⟨b, hb, hb1, hb2, _, hb5, _⟩ := hw.i2
 unfold yR
 rw [kH (hFy hw t ht)]
 unfold gZm hFz
 cases isI t with
 | true => simp only [jI]; exact gZn ha (by rw [ha2]; exact hCo) ha5
 | false =>
   simp only [gN]
   cases gVa t with
   | true => simp only [jI]; exact gZn hb (by rw [hb2]; exact hCq) hb5
   | false => rfl
def hLd (k : Int) (t : gD) (e : gU) : Prop := e.kind = 1 → (isI t = true ∧ e.at_ = ⟨0, k⟩) ∨ (gVa t = true ∧ e.at_ = ⟨0, k + 1⟩)
theorem gN3 (e : gU) (h : e.args = []) (n : Nat) : gGq (n + 2) e = some e := by
 obtain ⟨k, m, o, l⟩ := e
 simp only at h
 subst h
 rfl
theorem gSe (steps : List Int) (k n a b : Int) (l : List gU) : ∃ e, qN steps k n a b l = some e ∧ (e.kind = k ∨ e.kind = 3) := by
 induction steps generalizing k n a b l with
 | nil => exact ⟨_, rfl, .inl rfl⟩
 | cons x steps ih =>
   obtain ⟨e, h1, h2⟩ := ih 3 x 0 0 [⟨k, n, ⟨a, b⟩, l⟩]
   exact ⟨e, h1, .inr (by rcases h2 with h | h <;> exact h)⟩
theorem find_ok (g : jF) : ∀ (l : List jK) (y : Nat), pJ g l y = -1 ∨ ∃ j : Nat, j < l.length ∧ pJ g l y = ((y + j : Nat) : Int)
 | [], y => .inl rfl
 | a :: l, y => by
   simp only [pJ]
   cases gDu a.goal g with
   | true => exact .inr ⟨0, by simp, rfl⟩
   | false =>
     simp only [gN]
     rcases find_ok g l (y + 1) with h | ⟨j, h1, h2⟩
     ·exact .inl h
     ·exact .inr ⟨j + 1, by simp; omega, by rw [h2]; congr 1; omega⟩
mutual
def n4 : gD → Prop
 | ⟨k, _, ts⟩ => k ≠ 4 ∧ n4s ts
def n4s : List gD → Prop
 | [] => True
 | a :: ts => n4 a ∧ n4s ts
end
theorem gQt : ∀ {ts : List gD}, n4s ts ↔ ∀ t ∈ ts, n4 t
 | [] => by simp [n4s]
 | a :: ts => by simp only [n4s, gQt (ts := ts), List.mem_cons, forall_eq_or_imp]
theorem gVf {t : gD} (h : gVa t = true) : ∃ u, t = gQy u := by
 obtain ⟨k, n, ts⟩ := t
 unfold gVa at h
 simp only [Bool.and_eq_true, beq_iff_eq] at h
 obtain ⟨⟨rfl, rfl⟩, h3⟩ := h
 match ts, h3 with
 | [u], _ => exact ⟨u, rfl⟩
theorem hCr {w : gI} {k : Int} (hw : gVe w k) (facts : List jK) : ∀ (d n : Nat) (t : gD), 2 * d + 2 ≤ n → d ≤ 12 → tok t → n4 t → ∃ e c, zP n w facts ⟨addN, t⟩ (d : Int) = some (e, c) ∧ (c = 0 → hLd k t e) := by
 intro d
 induction d with
 | zero =>
   intro n t hn _ ht h4
   obtain ⟨n, rfl⟩ : ∃ m, n = m + 2 := ⟨n - 2, by omega⟩
   rw [zP]
   unfold gGf
   rcases find_ok ⟨addN, t⟩ facts 0 with h | ⟨j, h1, h2⟩
   ·have h : qC facts ⟨addN, t⟩ = -1 := h
    rw [h]
    exact ⟨_, _, rfl, fun h => by cases h⟩
   ·have h2 : qC facts ⟨addN, t⟩ = ((0 + j : Nat) : Int) := h2
    obtain ⟨e, q1, q2⟩ := gSe facts[j].steps 2 facts[j].from_ 0 0 []
    rw [h2, show decide (((0 + j : Nat) : Int) ≥ 0) = true from decide_eq_true (by omega), jI, gEa, Nat.zero_add, List.getElem?_eq_getElem h1]
    simp only [bnd]
    unfold uG
    rw [gN3 _ rfl 4998]
    simp only [bnd, q1]
    exact ⟨_, _, rfl, fun _ hk => by rcases q2 with h | h <;> rw [h] at hk <;> cases hk⟩
 | succ d ih =>
   intro n t hn hd ht h4
   obtain ⟨n, rfl⟩ : ∃ m, n = m + 2 := ⟨n - 2, by omega⟩
   rw [zP]
   unfold gGf
   rcases find_ok ⟨addN, t⟩ facts 0 with h | ⟨j, h1, h2⟩
   ·have h : qC facts ⟨addN, t⟩ = -1 := h
    rw [h, show decide ((-1 : Int) ≥ 0) = false from by decide, gN, show decide (((d + 1 : Nat) : Int) ≤ 0) = false from decide_eq_false (by omega), gN]
    simp only [lt_, hw.tr, gN]
    cases hk : cnd (t.kind == 1) true (t.kind == 3) with
    | true => exact ⟨_, _, rfl, fun h => by cases h⟩
    | false =>
      have h44 : t.kind ≠ 4 := by obtain ⟨a, b, c⟩ := t; exact h4.1
      rw [gN, show (t.kind == 4) = false from beq_false_of_ne h44, gN]
      have key : ∃ e c, gHw (n + 1) w facts ⟨addN, t⟩ ((d + 1 : Nat) : Int) = some (e, c) ∧ (c = 0 → hLd k t e) := by
       rw [gHw]
       unfold gJy
       rw [kH (hIg hw t ht)]
       unfold hFz
       obtain ⟨a, ha, _, ha2, ha3, _⟩ := hw.i1
       obtain ⟨b, hb, _, hb2, hb3, _⟩ := hw.i2
       obtain ⟨p, ha4, ha5⟩ := gJw ha
       obtain ⟨q, hb4, hb5⟩ := gJw hb
       cases hI : isI t with
       | true =>
         simp only [jI, bne_self_eq_false, gN, ha4, ha5, bnd]
         rw [ha2, gI2 gGu t (by decide) ht, gVb, hI]
         simp only [jI, ha3, gAd]
         exact ⟨_, _, rfl, fun _ _ => .inl ⟨hI, rfl⟩⟩
       | false =>
         simp only [gN]
         cases hB : gVa t with
         | true =>
           simp only [jI, bne_self_eq_false, gN, hb4, hb5, bnd]
           rw [hb2, gI2 gFq t (by decide) ht, gVc, hB]
           simp only [jI, hb3, gAd]
           obtain ⟨u, rfl⟩ := gVf hB
           have hu : tok u := hGq _ ht u (by simp [gQy])
           rw [pQ ⟨fun c hc => by simp only [List.mem_singleton] at hc; subst hc; exact hu, gJu _ _⟩]
           simp only [lt_]
           rw [show IntKind.i64.wrap (((d + 1 : Nat) : Int) - 1) = (d : Int) from by rw [wM _ (by omega) (by omega)]; omega]
           obtain ⟨e, c, e1, e2⟩ := ih n u (by omega) (by omega) hu (h4.2.1)
           have e1 : zP n w facts ⟨addN, apT [⟨[97], (gQy u).args.headD ⟨0, [], []⟩⟩] ⟨1, [97], []⟩⟩ (d : Int) = some (e, c) := e1
           rw [kH e1]
           simp only []
           cases hc : (c != 0) with
           | true => exact ⟨_, _, rfl, fun h => by rw [h] at hc; cases hc⟩
           | false =>
             simp only [gN]
             rw [pQ (by simp)]
             exact ⟨_, _, rfl, fun _ _ => .inr ⟨hB, rfl⟩⟩
         | false => exact ⟨_, _, rfl, fun h => by cases h⟩
      obtain ⟨e, c, e1, e2⟩ := key
      rw [kH e1]
      exact ⟨e, c, rfl, e2⟩
   ·have h2 : qC facts ⟨addN, t⟩ = ((0 + j : Nat) : Int) := h2
    obtain ⟨e, q1, q2⟩ := gSe facts[j].steps 2 facts[j].from_ 0 0 []
    rw [h2, show decide (((0 + j : Nat) : Int) ≥ 0) = true from decide_eq_true (by omega), jI, gEa, Nat.zero_add, List.getElem?_eq_getElem h1]
    simp only [bnd]
    unfold uG
    rw [gN3 _ rfl 4998]
    simp only [bnd, q1]
    exact ⟨_, _, rfl, fun _ hk => by rcases q2 with h | h <;> rw [h] at hk <;> cases hk⟩
def NT (V : List (List UInt8)) (t : gD) : Prop := tok t ∧ n4 t ∧ (∀ v ∈ tvs t, v ∈ V)
theorem hIi {V : List (List UInt8)} {u : gD} (h : NT V u) : NT V (gQy u) := ⟨by simp [gQy, tok, gQh, h.1], ⟨by decide, h.2.1, trivial⟩, fun v hv => by simp only [gQy, tvs, gJx] at hv; simpa using h.2.2 v (by simpa using hv)⟩
theorem hDw {V : List (List UInt8)} {u : gD} (h : NT V u) : NT V (gWp u) := ⟨by simp [gWp, tok, gQh, h.1], ⟨by decide, h.2.1, trivial⟩, fun v hv => by simp only [gWp, tvs, gJx] at hv; simpa using h.2.2 v (by simpa using hv)⟩
theorem hIk {V : List (List UInt8)} : NT V gGu := ⟨gJu _ _, ⟨by decide, trivial⟩, fun v hv => by simp [gGu, tvs, gJx] at hv⟩
theorem hF0 {V : List (List UInt8)} {t : gD} (h : NT V t) : ∀ u ∈ t.args, NT V u := fun u hu => by
 obtain ⟨k, n, ts⟩ := t
 refine ⟨hGq _ h.1 u hu, gQt.1 h.2.1.2 u hu, fun v hv => h.2.2 v ?_⟩
 simp only [tvs, List.mem_append]
 exact .inr (gKd.2 ⟨u, hu, hv⟩)
theorem hCt {w : gI} {k : Int} (hw : gVe w k) {t : gD} {e : gU} (h : hLd k t e) (hk : e.kind = 1) (ht : tok t) : (isI t = true ∧ yE w e.at_ t = some (gGu, true)) ∨ (∃ u, t = gQy u ∧ yE w e.at_ t = some (gQy (gWp u), true)) := by
 obtain ⟨a, ha, _, ha2, _, _, ha6, ha7, ha8⟩ := hw.i1
 obtain ⟨b, hb, _, hb2, _, _, hb6, hb7, hb8⟩ := hw.i2
 rcases h hk with ⟨h1, h2⟩ | ⟨h1, h2⟩
 ·left
  refine ⟨h1, ?_⟩
  rw [h2]
  unfold yE
  rw [kH ha8]
  simp only []
  rw [ha2, kH (gI2 gGu t (by decide) ht), gVb, h1]
  simp only [jI, lt_, Bool.not_true, gN, ha6, ha7]
  rw [pQ ⟨fun c hc => by simp at hc, gJu _ _⟩]
  rfl
 ·right
  obtain ⟨u, rfl⟩ := gVf h1
  refine ⟨u, rfl, ?_⟩
  rw [h2]
  unfold yE
  rw [kH hb8]
  simp only []
  rw [hb2, kH (gI2 gFq _ (by decide) ht), gVc, h1]
  simp only [jI, lt_, Bool.not_true, gN, hb6, hb7]
  rw [pQ ⟨fun c hc => by simp only [List.mem_singleton] at hc; subst hc; exact hGq _ ht u (by simp [gQy]), by simp [gQy, gWp, tok, gQh]⟩]
  rfl
theorem gKr (l : List gD) : l.length ≤ gA8 l := by
 induction l with
 | nil => simp [gA8]
 | cons x l ih => have := gCo x; simp only [List.length_cons, gA8]; omega
def gN4 (l : List jF) : Prop := ∀ b ∈ l, (b.trait = [115, 104, 111, 119] ∨ b.trait = [111, 114, 100] ∨ b.trait = addN) ∧ tok b.type_
theorem gSf {w : gI} {k : Int} (hw : gVe w k) : ∀ (l : List jF) (y : Nat) (acc : List jK), gN4 l → acc.length + 2 * l.length ≤ 4294967296 → ∃ f, qB w l y acc = some f
 | [], y, acc, _, _ => ⟨acc, rfl⟩
 | b :: l, y, acc, h, hl => by
   obtain ⟨h1, h2⟩ := h b (by simp)
   simp only [List.length_cons] at hl
   have hrec : ∀ y acc', acc'.length ≤ acc.length + 2 → ∃ f, qB w l y acc' = some f := fun y acc' ha => gSf hw l y acc' (fun c hc => h c (by simp [hc])) (by omega)
   rw [qB, pQ h2]
   simp only [lt_, idT]
   rw [pQ (by simp; omega)]
   rcases h1 with h1 | h1 | h1
   ·rw [h1, kH hw.sh]
    exact hrec _ _ (by simp)
   ·rw [h1, kH hw.od]
    simp only [vW]
    rw [h1, kH hw.pa, pQ h2]
    simp only [lt_]
    rw [pQ (by simp; omega)]
    exact hrec _ _ (by simp)
   ·rw [h1, kH hw.ad]
    exact hrec _ _ (by simp)
theorem gZo {w : gI} {k : Int} (hw : gVe w k) {wh : List jF} (h : gN4 wh) (hl : wh.length ≤ 1000) {t : gD} (ht : tok t) (h4 : n4 t) : ∃ e c, gJz w wh ⟨addN, t⟩ = some (e, c) ∧ (c = 0 → hLd k t e) := by
 obtain ⟨f, hf⟩ := gSf hw wh 0 [] h (by simp; omega)
 obtain ⟨e, c, e1, e2⟩ := hCr hw f 12 5000 t (by omega) (by omega) ht h4
 have e1 : zP 5000 w f ⟨addN, t⟩ 12 = some (e, c) := e1
 unfold gJz gC6
 rw [kH hf, kH e1]
 exact ⟨e, c, rfl, e2⟩
mutual
def hPy : gD → Prop
 | ⟨k, n, ts⟩ => (k = 3 → n = addN) ∧ gZp ts
def gZp : List gD → Prop
 | [] => True
 | a :: ts => hPy a ∧ gZp ts
end
theorem gKs : ∀ {ts : List gD}, gZp ts ↔ ∀ t ∈ ts, hPy t
 | [] => by simp [gZp]
 | a :: ts => by simp only [gZp, gKs (ts := ts), List.mem_cons, forall_eq_or_imp]
def DT (V : List (List UInt8)) (t : gD) : Prop := NT V t ∧ hPy t
theorem gLk {V : List (List UInt8)} {t : gD} (h : DT V t) : ∀ u ∈ t.args, DT V u := fun u hu => ⟨hF0 h.1 u hu, by obtain ⟨k, n, ts⟩ := t; exact gKs.1 h.2.2 u hu⟩
theorem hF3 {V : List (List UInt8)} {k : Int} {n : List UInt8} {ts us : List gD} (h : DT V ⟨k, n, ts⟩) (hu : ∀ u ∈ us, DT V u) (hl : us.length ≤ 4294967296) : DT V ⟨k, n, us⟩ := by
 refine ⟨⟨⟨hl, gF3.2 fun u hh => (hu u hh).1.1⟩, ⟨h.1.2.1.1, gQt.2 fun u hh => (hu u hh).1.2.1⟩, fun v hv => ?_⟩, ⟨h.2.1, gKs.2 fun u hh => (hu u hh).2⟩⟩
 simp only [tvs, List.mem_append] at hv
 rcases hv with hv | hv
 ·exact h.1.2.2 v (by simp only [tvs, List.mem_append]; exact .inl hv)
 ·obtain ⟨u, h1, h2⟩ := gKd.1 hv
  exact (hu u h1).1.2.2 v h2
theorem hIl {V : List (List UInt8)} {u : gD} (h : DT V u) : DT V (gQy (gWp u)) := ⟨hIi (hDw h.1), fun hk => absurd hk (by decide), ⟨fun _ => rfl, h.2, trivial⟩, trivial⟩
theorem hIm {V : List (List UInt8)} : DT V gGu := ⟨hIk, fun hk => absurd hk (by decide), trivial⟩
def NR (V : List (List UInt8)) (r : gD × Int) : Prop := r.2 = 0 → DT V r.1 ∧ tnd r.1 ≤ 400
theorem gZq {V : List (List UInt8)} {rec : gI → List jF → gD → Int → Option (gD × Int)} {w : gI} {wh : List jF} {d : Int} : ∀ (xs acc : List gD), (∀ u ∈ xs, ∃ r, rec w wh u d = some r ∧ NR V r) → acc.length + xs.length ≤ 4294967296 → (∀ u ∈ acc, DT V u ∧ tnd u ≤ 400) →
  ∃ r, gBf rec w wh d xs acc = some r ∧ (r.2 = 0 → r.1.length = acc.length + xs.length ∧ ∀ u ∈ r.1, DT V u ∧ tnd u ≤ 400)
 | [], acc, _, _, ha => ⟨_, rfl, fun _ => ⟨by simp, ha⟩⟩
 | x :: xs, acc, h, hl, ha => by
   obtain ⟨r, h1, h2⟩ := h x (by simp)
   simp only [List.length_cons] at hl
   rw [gBf, kH h1]
   cases hc : (r.2 != 0) with
   | true => exact ⟨_, rfl, fun h0 => by have h0 : r.2 = 0 := h0; rw [h0] at hc; cases hc⟩
   | false =>
     have hc0 : r.2 = 0 := by simpa using hc
     rw [gN, pQ (by simp; omega)]
     obtain ⟨q, q1, q2⟩ := gZq xs (acc ++ [r.1]) (fun u hu => h u (by simp [hu])) (by simp; omega) (fun u hu => by
      rcases List.mem_append.1 hu with hu | hu
      ·exact ha u hu
      ·simp only [List.mem_singleton] at hu; subst hu; exact h2 hc0)
     exact ⟨q, q1, fun h0 => ⟨by rw [(q2 h0).1]; simp; omega, (q2 h0).2⟩⟩
theorem gTw {M : Nat} : ∀ (l : List gD), (∀ u ∈ l, tnd u ≤ M) → gA8 l ≤ M * l.length
 | [], _ => by simp [gA8]
 | a :: l, h => by
   have h1 := h a (by simp)
   have h2 := gTw l (fun u hu => h u (by simp [hu]))
   simp only [gA8, List.length_cons, Nat.mul_add, Nat.mul_one]
   omega
theorem gZr {w : gI} {k : Int} (hw : gVe w k) {wh : List jF} (hwh : gN4 wh) (hwl : wh.length ≤ 1000) (V : List (List UInt8)) : ∀ (d m n : Nat) (t : gD), tnd t ≤ m → 2 * m + d * 1000 ≤ n → d ≤ 12 → DT V t → tnd t ≤ 40000 → ∃ r, wD n w wh t (d : Int) = some r ∧ NR V r := by
 intro d
 induction d with
 | zero =>
   intro m
   induction m with
   | zero => intro n t h; have := gCo t; omega
   | succ m ihm =>
     intro n t ht hn hd hD h4
     obtain ⟨n, rfl⟩ : ∃ j, n = j + 2 := ⟨n - 2, by omega⟩
     have hargs : gA8 t.args + 1 = tnd t := by obtain ⟨a, b, c⟩ := t; simp only [tnd]; omega
     have hall := gZq (V := V) (rec := wD n) (w := w) (wh := wh) (d := ((0 : Nat) : Int)) t.args [] (fun u hu => ihm n u (by have := gA9 hu; omega) (by omega) hd (gLk hD u hu) (by have := gA9 hu; omega)) (by have := gKr t.args; simp; omega) (fun u hu => by simp at hu)
     obtain ⟨r, r1, r2⟩ := hall
     have r1 : gGx (n + 1) w wh t.args ((0 : Nat) : Int) = some r := by rw [gGx]; exact r1
     rw [wD]
     unfold gEx
     rw [kH r1]
     cases hc : (r.2 != 0) with
     | true => exact ⟨_, rfl, fun h0 => by have h0 : r.2 = 0 := h0; rw [h0] at hc; cases hc⟩
     | false =>
       have hc0 : r.2 = 0 := by simpa using hc
       obtain ⟨q1, q2⟩ := r2 hc0
       have hlen : r.1.length ≤ 40000 := by have := gKr t.args; simp at q1; omega
       have hsz : gA8 r.1 ≤ 400 * 40000 := Nat.le_trans (gTw r.1 (fun u hu => (q2 u hu).2)) (Nat.mul_le_mul_left 400 hlen)
       have htz : tsz ⟨t.kind, t.name, r.1⟩ = (tnd ⟨t.kind, t.name, r.1⟩ : Int) := gCq _ (by simp only [tnd]; omega)
       rw [gN, htz]
       cases hs : decide ((tnd ⟨t.kind, t.name, r.1⟩ : Int) > 400) with
       | true => exact ⟨_, rfl, fun h0 => by cases h0⟩
       | false =>
         have hs := of_decide_eq_false hs
         simp only [gN, lt_]
         have hout : DT V ⟨t.kind, t.name, r.1⟩ := by obtain ⟨a, b, c⟩ := t; exact hF3 hD (fun u hu => (q2 u hu).1) (by omega)
         cases cnd (t.kind != 3) true ((r.1.length : Int) != 1) with
         | true => exact ⟨_, rfl, fun _ => ⟨hout, by simp only; omega⟩⟩
         | false => exact ⟨_, rfl, fun h0 => by cases h0⟩
 | succ d ihd =>
   intro m
   induction m with
   | zero => intro n t h; have := gCo t; omega
   | succ m ihm =>
     intro n t ht hn hd hD h4
     obtain ⟨n, rfl⟩ : ∃ j, n = j + 2 := ⟨n - 2, by omega⟩
     have hargs : gA8 t.args + 1 = tnd t := by obtain ⟨a, b, c⟩ := t; simp only [tnd]; omega
     have hall := gZq (V := V) (rec := wD n) (w := w) (wh := wh) (d := ((d + 1 : Nat) : Int)) t.args [] (fun u hu => ihm n u (by have := gA9 hu; omega) (by omega) hd (gLk hD u hu) (by have := gA9 hu; omega)) (by have := gKr t.args; simp; omega) (fun u hu => by simp at hu)
     obtain ⟨r, r1, r2⟩ := hall
     have r1 : gGx (n + 1) w wh t.args ((d + 1 : Nat) : Int) = some r := by rw [gGx]; exact r1
     rw [wD]
     unfold gEx
     rw [kH r1]
     cases hc : (r.2 != 0) with
     | true => exact ⟨_, rfl, fun h0 => by have h0 : r.2 = 0 := h0; rw [h0] at hc; cases hc⟩
     | false =>
       have hc0 : r.2 = 0 := by simpa using hc
       obtain ⟨q1, q2⟩ := r2 hc0
       have hlen : r.1.length ≤ 40000 := by have := gKr t.args; simp at q1; omega
       have hsz : gA8 r.1 ≤ 400 * 40000 := Nat.le_trans (gTw r.1 (fun u hu => (q2 u hu).2)) (Nat.mul_le_mul_left 400 hlen)
       have htz : tsz ⟨t.kind, t.name, r.1⟩ = (tnd ⟨t.kind, t.name, r.1⟩ : Int) := gCq _ (by simp only [tnd]; omega)
       rw [gN, htz]
       cases hs : decide ((tnd ⟨t.kind, t.name, r.1⟩ : Int) > 400) with
       | true => exact ⟨_, rfl, fun h0 => by cases h0⟩
       | false =>
         have hs := of_decide_eq_false hs
         simp only [gN, lt_]
         have hout : DT V ⟨t.kind, t.name, r.1⟩ := by obtain ⟨a, b, c⟩ := t; exact hF3 hD (fun u hu => (q2 u hu).1) (by omega)
         cases hk : cnd (t.kind != 3) true ((r.1.length : Int) != 1) with
         | true => exact ⟨_, rfl, fun _ => ⟨hout, by simp only; omega⟩⟩
         | false =>
           have hk3 : t.kind = 3 := by
            cases h3 : (t.kind != 3) with
            | true => rw [h3] at hk; cases hk
            | false => simpa using h3
           have hnm : t.name = addN := by obtain ⟨a, b, c⟩ := t; exact hD.2.1 hk3
           have hl1 : r.1.length = 1 := by
            rw [hk3] at hk
            simp only [bne_self_eq_false, gN] at hk
            have : (r.1.length : Int) = 1 := by simpa using hk
            omega
           rw [gN, show (((d + 1 : Nat) : Int) == 0) = false from beq_false_of_ne (by omega), gN]
           obtain ⟨u, hu⟩ : ∃ u, r.1 = [u] := by
            match r.1, hl1 with
            | [u], _ => exact ⟨u, rfl⟩
           have hU := q2 u (by rw [hu]; simp)
           rw [show at? r.1 0 = some u from by rw [hu]; rfl]
           simp only [bnd]
           obtain ⟨e, c, e1, e2⟩ := gZo hw hwh hwl hU.1.1.1 hU.1.1.2.1
           rw [hnm, e1]
           simp only
           cases hc2 : (c != 0) with
           | true => exact ⟨_, rfl, fun h0 => by cases h0⟩
           | false =>
             have hc3 : c = 0 := by simpa using hc2
             rw [gN]
             cases hek : (e.kind != 1) with
             | true => rw [← hnm]; exact ⟨_, rfl, fun _ => ⟨hout, by simp only; omega⟩⟩
             | false =>
               have hek1 : e.kind = 1 := by simpa using hek
               rw [gN]
               have hw1 : IntKind.i64.wrap (((d + 1 : Nat) : Int) - 1) = (d : Int) := by rw [wM _ (by omega) (by omega)]; omega
               rcases hCt hw (e2 hc3) hek1 hU.1.1.1 with ⟨_, g⟩ | ⟨v, rfl, g⟩
               ·rw [g]
                simp only [Bool.not_true, gN, hw1]
                obtain ⟨s, s1, s2⟩ := ihd 403 (n + 1) gGu (by decide) (by omega) (by omega) hIm (by decide)
                rw [s1]
                exact ⟨_, rfl, s2⟩
               ·rw [g]
                simp only [Bool.not_true, gN, hw1]
                have hv : tnd v + 1 ≤ 400 := by have := hU.2; simp only [gQy, tnd, gA8] at this; omega
                have hvD : DT V v := gLk hU.1 v (by simp [gQy])
                obtain ⟨s, s1, s2⟩ := ihd 403 (n + 1) (gQy (gWp v)) (by simp only [gQy, gWp, tnd, gA8]; omega) (by omega) (by omega) (hIl hvD) (by simp only [gQy, gWp, tnd, gA8]; omega)
                rw [s1]
                exact ⟨_, rfl, s2⟩
end Go.Proofs.YtfaplndgbgoaaaaGreat
set_option maxHeartbeats 4000000
set_option linter.unusedVariables false
set_option linter.unusedSimpArgs false
set_option linter.unusedSectionVars false
namespace Go.Proofs.YtfaplndgbgoaaaaGreat
open Go Go.Eng
attribute [local irreducible] V VO VQ VY Quiet QR jB kR Rng uX vB qY
mutual
theorem gZs {l : List gH} {v : List UInt8} : ∀ (t : gD), v ∈ tvs (apT l t) → (v ∈ tvs t ∧ v ∉ dom l) ∨ ∃ u ∈ tvs t, (lkp u l).2 = true ∧ v ∈ tvs (lkp u l).1
 | ⟨k, n, ts⟩, h => by
   have key : v ∈ gJx (gMf l ts) → (v ∈ tvs ⟨k, n, ts⟩ ∧ v ∉ dom l) ∨ ∃ u ∈ tvs ⟨k, n, ts⟩, (lkp u l).2 = true ∧ v ∈ tvs (lkp u l).1 := fun h => (gVg ts h).imp (fun h => ⟨by simp [tvs, h.1], h.2⟩) (fun ⟨u, h1, h2⟩ => ⟨u, by simp [tvs, h1], h2⟩)
   simp only [apT] at h
   by_cases hk : k = 1
   ·subst hk
    cases hb : (lkp n l).2 with
    | true =>
      rw [hb] at h
      simp only [beq_self_eq_true, jI] at h
      exact .inr ⟨n, by simp [tvs], hb, h⟩
    | false =>
      rw [hb] at h
      simp only [beq_self_eq_true, jI, gN, tvs, if_true, List.mem_append, List.mem_singleton] at h
      rcases h with rfl | h
      ·refine .inl ⟨by simp [tvs], fun hd => ?_⟩
       rw [hGp hd] at hb
       cases hb
      ·exact key h
   ·rw [beq_false_of_ne hk] at h
    simp only [gN, tvs, if_neg hk, List.nil_append] at h
    exact key h
theorem gVg {l : List gH} {v : List UInt8} : ∀ (ts : List gD), v ∈ gJx (gMf l ts) → (v ∈ gJx ts ∧ v ∉ dom l) ∨ ∃ u ∈ gJx ts, (lkp u l).2 = true ∧ v ∈ tvs (lkp u l).1
 | [], h => by simp [gMf, gJx] at h
 | a :: ts, h => by
   simp only [gMf, gJx, List.mem_append] at h
   rcases h with h | h
   ·exact (gZs a h).imp (fun h => ⟨by simp [gJx, h.1], h.2⟩) (fun ⟨u, h1, h2⟩ => ⟨u, by simp [gJx, h1], h2⟩)
   ·exact (gVg ts h).imp (fun h => ⟨by simp [gJx, h.1], h.2⟩) (fun ⟨u, h1, h2⟩ => ⟨u, by simp [gJx, h1], h2⟩)
end
mutual
theorem gEo {p : List UInt8 → Bool} : ∀ (t : gD), gSn p t = true ↔ ∃ v ∈ tvs t, p v = true
 | ⟨k, n, ts⟩ => by
   simp only [gSn, Bool.or_eq_true, Bool.and_eq_true, beq_iff_eq, gSg ts, tvs, List.mem_append]
   constructor
   ·rintro (⟨rfl, h⟩ | ⟨v, h1, h2⟩)
    ·exact ⟨n, .inl (by simp), h⟩
    ·exact ⟨v, .inr h1, h2⟩
   ·rintro ⟨v, h1 | h1, h2⟩
    ·split at h1
     ·simp only [List.mem_singleton] at h1; subst h1; exact .inl ⟨by assumption, h2⟩
     ·simp at h1
    ·exact .inr ⟨v, h1, h2⟩
theorem gSg {p : List UInt8 → Bool} : ∀ (ts : List gD), gFr p ts = true ↔ ∃ v ∈ gJx ts, p v = true
 | [] => by simp [gFr, gJx]
 | a :: ts => by
   simp only [gFr, Bool.or_eq_true, gEo a, gSg ts, gJx, List.mem_append]
   constructor
   ·rintro (⟨v, h1, h2⟩ | ⟨v, h1, h2⟩)
    ·exact ⟨v, .inl h1, h2⟩
    ·exact ⟨v, .inr h1, h2⟩
   ·rintro ⟨v, h1 | h1, h2⟩
    ·exact .inl ⟨v, h1, h2⟩
    ·exact .inr ⟨v, h1, h2⟩
end
def Tri (l : List gH) : Prop := ∀ (i : Nat) (b : gH), l[i]? = some b → b.var_ ∉ dom (l.take i) ∧ ∀ v ∈ tvs b.type_, v ∉ dom (l.take (i + 1))
def low (l : List gH) (k : Nat) (t : gD) : Prop := ∀ v ∈ tvs t, v ∉ dom (l.take k)
theorem gVh {l : List gH} {v : List UInt8} {k : Nat} (h : v ∈ dom (l.take k)) : v ∈ dom l := by
 unfold dom at *
 rw [List.map_take] at h
 exact List.mem_of_mem_take h
theorem hCu {l : List gH} {v : List UInt8} {j k : Nat} (hjk : j ≤ k) (h : v ∈ dom (l.take j)) : v ∈ dom (l.take k) := by
 have : l.take j = (l.take k).take j := by rw [List.take_take, Nat.min_eq_left hjk]
 rw [this] at h
 exact gVh h
theorem hDx {v : List UInt8} : ∀ {l : List gH}, (lkp v l).2 = true → ∃ (i : Nat) (b : gH), l[i]? = some b ∧ b.var_ = v ∧ (lkp v l).1 = b.type_
 | [], h => by cases h
 | b :: l, h => by
   simp only [lkp] at h ⊢
   cases hb : b.var_ == v with
   | true => exact ⟨0, b, rfl, by simpa using hb, rfl⟩
   | false =>
     rw [hb] at h
     obtain ⟨i, c, h1, h2, h3⟩ := hDx (l := l) h
     exact ⟨i + 1, c, by simpa using h1, h2, h3⟩
theorem hIo {l : List gH} (hl : Tri l) {k : Nat} {t : gD} (h : low l k t) : low l (k + 1) (apT l t) := by
 intro v hv hd
 rcases gZs t hv with ⟨_, h2⟩ | ⟨u, h1, h2, h3⟩
 ·exact h2 (gVh hd)
 ·obtain ⟨i, b, g1, g2, g3⟩ := hDx h2
  rw [g3] at h3
  have hik : k ≤ i := by
   rcases Nat.lt_or_ge i k with hlt | hge
   ·exfalso
    refine h u h1 ?_
    unfold dom
    have hg : (l.take k)[i]? = some b := by rw [List.getElem?_take]; rw [if_pos hlt]; exact g1
    exact List.mem_map.2 ⟨b, List.mem_of_getElem? hg, g2⟩
   ·exact hge
  exact (hl i b g1).2 v h3 (hCu (by omega) hd)
def hR8 (l : List gH) : Prop := ∀ b ∈ l, isInf b.var_ = true
theorem gVi (l : List gH) (v : List UInt8) : hasB l v = true ↔ v ∈ dom l := by
 unfold hasB dom
 simp only [List.any_eq_true, beq_iff_eq, List.mem_map]
theorem hIp {l : List gH} {t : gD} (h : ∀ v ∈ tvs t, v ∉ dom l) : zbd l t = false := by
 cases hz : zbd l t with
 | false => rfl
 | true =>
   obtain ⟨v, h1, h2⟩ := (gEo t).1 hz
   unfold zp at h2
   simp only [Bool.and_eq_true] at h2
   exact absurd ((gVi l v).1 h2.2) (h v h1)
theorem gZt {l : List gH} (hi : hR8 l) {t : gD} (h : zbd l t = false) : ∀ v ∈ tvs t, v ∉ dom l := by
 intro v hv hd
 have : zbd l t = true := (gEo t).2 ⟨v, hv, by
  unfold zp
  rw [(gVi l v).2 hd, Bool.and_true]
  obtain ⟨b, h1, rfl⟩ := List.mem_map.1 hd
  exact hi b h1⟩
 rw [h] at this
 cases this
theorem gQu {l : List gH} (hl : Tri l) : ∀ (n k : Nat) (t : gD), low l k t → l.length ≤ k + n → zbd l (zk l n t) = false ∨ ¬ tsz (zk l n t) < 4000
 | 0, k, t, h, hk => .inl (hIp (by rw [zk]; intro v hv hd; exact h v hv (by rw [List.take_of_length_le (by omega)]; exact hd)))
 | n + 1, k, t, h, hk => by
   rw [zk]
   cases hz : zbd l t with
   | false => simp only [Bool.false_and, gN]; exact .inl hz
   | true =>
     cases hs : decide (tsz t < 4000) with
     | false => simp only [Bool.and_false, gN]; exact .inr (of_decide_eq_false hs)
     | true => simp only [Bool.and_self, jI]; exact gQu hl n (k + 1) _ (hIo hl h) (by omega)
theorem gIn {l : List gH} {t : gD} (n : Nat) (h : zbd l t = false ∨ ¬ tsz t < 4000) : zk l n t = t := by
 cases n with
 | zero => rfl
 | succ n =>
   rw [zk]
   rcases h with h | h
   ·rw [h]; rfl
   ·rw [show decide (tsz t < 4000) = false from decide_eq_false h, Bool.and_false, gN]
mutual
theorem hDy {V : List (List UInt8)} {l : List gH} (hl : ∀ b ∈ l, DT V b.type_) : ∀ (t : gD), DT V t → DT V (apT l t)
 | ⟨k, n, ts⟩, h => by
   have h1 : DT V ⟨k, n, gMf l ts⟩ := hF3 h (gZu hl ts (fun u hu => gLk h u hu)) (by rw [gUz]; exact h.1.1.1)
   simp only [apT]
   cases k == 1 with
   | false => exact h1
   | true =>
     rw [jI]
     cases hb : (lkp n l).2 with
     | false => exact h1
     | true =>
       obtain ⟨b, g1, _, g3⟩ := gQk hb
       rw [jI, g3]
       exact hl b g1
theorem gZu {V : List (List UInt8)} {l : List gH} (hl : ∀ b ∈ l, DT V b.type_) : ∀ (ts : List gD), (∀ t ∈ ts, DT V t) → ∀ t ∈ gMf l ts, DT V t
 | [], _, t, h => by simp [gMf] at h
 | a :: ts, h, t, ht => by
   simp only [gMf, List.mem_cons] at ht
   rcases ht with rfl | ht
   ·exact hDy hl a (h a (by simp))
   ·exact gZu hl ts (fun t ht => h t (by simp [ht])) t ht
end
theorem hCv {V : List (List UInt8)} {l : List gH} (hl : ∀ b ∈ l, DT V b.type_) : ∀ (n : Nat) (t : gD), DT V t → DT V (zk l n t)
 | 0, t, h => h
 | n + 1, t, h => by
   rw [zk]
   cases zbd l t && decide (tsz t < 4000) with
   | false => exact h
   | true => exact hCv hl n _ (hDy hl t h)
theorem gVj {l : List gH} (h2 : gWo 2000 l) : ∀ (n : Nat) (t : gD), tnd t ≤ 8000000 → tnd (zk l n t) ≤ 8000000
 | 0, t, h => h
 | n + 1, t, h => by
   rw [zk]
   cases hc : zbd l t && decide (tsz t < 4000) with
   | false => exact h
   | true =>
     simp only [Bool.and_eq_true, decide_eq_true_eq] at hc
     rw [gCq t (by omega)] at hc
     have h1 := gTt h2 t
     have h3 : 2000 * tnd t ≤ 2000 * 4000 := Nat.mul_le_mul_left 2000 (by omega)
     exact gVj h2 n _ (by omega)
mutual
theorem gVk (v : List UInt8) : ∀ (n : Nat) (t : gD), tnd t ≤ n → tnd t ≤ 4294967296 → qK n t v = some (((tvs t).count v : Nat) : Int)
 | 0, t, h, _ => by have := gCo t; omega
 | n + 1, ⟨k, s, ts⟩, h, hb => by
   simp only [tnd] at h hb
   rw [qK]
   unfold yG
   simp only [lt_]
   have key : ∀ y : Nat, y ≤ 1 → mJ (qK n) v ts (y : Int) = some ((y + (gJx ts).count v : Nat) : Int) := fun y hy => gSh v n ts y (by omega) (by omega)
   by_cases hk : k = 1
   ·subst hk
    rw [beq_self_eq_true, jI]
    by_cases hs : s = v
    ·subst hs
     rw [beq_self_eq_true, jI]
     simp only [bnd]
     rw [show (1 : Int) = ((1 : Nat) : Int) from rfl, key 1 (by omega)]
     simp [tvs]
     omega
    ·rw [beq_false_of_ne hs, gN]
     simp only [bnd]
     rw [show (0 : Int) = ((0 : Nat) : Int) from rfl, key 0 (by omega)]
     simp [tvs, List.count_cons, hs]
   ·rw [beq_false_of_ne hk, gN, gN]
    simp only [bnd]
    rw [show (0 : Int) = ((0 : Nat) : Int) from rfl, key 0 (by omega)]
    simp [tvs, hk]
theorem gSh (v : List UInt8) : ∀ (n : Nat) (ts : List gD) (y : Nat), gA8 ts ≤ n → y + gA8 ts ≤ 4294967296 → mJ (qK n) v ts (y : Int) = some ((y + (gJx ts).count v : Nat) : Int)
 | n, [], y, _, _ => by simp [mJ, gJx]
 | n, a :: ts, y, h, hb => by
   simp only [gA8] at h hb
   have h1 := gXg a
   have h2 : (tvs a).count v ≤ (tvs a).length := List.count_le_length
   rw [mJ, kH (gVk v n a (by omega) (by omega)), show IntKind.i64.wrap ((y : Int) + (((tvs a).count v : Nat) : Int)) = ((y + (tvs a).count v : Nat) : Int) from by rw [wM _ (by omega) (by omega)]; omega]
   rw [gSh v n ts (y + (tvs a).count v) (by omega) (by omega)]
   simp only [gJx, List.count_append]
   congr 2
   omega
end
theorem hIq {v : List UInt8} {t : gD} (h : tnd t ≤ 5000) : gCu v t = some (decide (v ∈ tvs t)) := by
 unfold gCu
 rw [kH (gVk v 5000 t h (by omega))]
 congr 1
 by_cases hm : v ∈ tvs t
 ·have := List.count_pos_iff.2 hm
  rw [decide_eq_true hm]
  exact decide_eq_true (by omega)
 ·rw [decide_eq_false hm, List.count_eq_zero_of_not_mem hm]
  rfl
end Go.Proofs.YtfaplndgbgoaaaaGreat
