import Derived.Test.YtfaplndgbgoaaaaGreatEng38
import Derived.Test.YtfaplndgbgoaaaaGreatEng67
import Derived.Test.YtfaplndgbgoaaaaGreatZv
set_option maxHeartbeats 4000000
set_option linter.unusedVariables false
set_option linter.unusedSimpArgs false
set_option linter.unusedSectionVars false
namespace Go.Proofs.YtfaplndgbgoaaaaGreat
open Go Go.Eng
attribute [local irreducible] V VO VQ VY Quiet QR jB kR Rng uX vB qY
theorem wrap_small {m : Int} (h1 : -4611686018427387904 ≤ m) (h2 : m ≤ 4611686018427387904) : IntKind.i64.wrap m = m := by
 exact wM m (by omega) (by omega)
mutual
theorem gCq : ∀ (t : gD), tnd t ≤ 4294967297 → tsz t = tnd t
 | ⟨k, n, ts⟩, h => by
   simp only [tnd] at h
   simp only [tsz, tnd]
   rw [gPa ts 1 (by omega) (by omega)]
   omega
theorem gPa : ∀ (ts : List gD) (y : Int), 0 ≤ y → y + gA8 ts ≤ 4294967297 → hB7 ts y = y + gA8 ts
 | [], y, _, _ => by simp [hB7, gA8]
 | a :: ts, y, h0, h => by
   simp only [gA8] at h
   simp only [hB7, gA8]
   rw [gCq a (by omega), wrap_small (by omega) (by omega), gPa ts _ (by omega) (by omega)]
   omega
end
def wL (a1 : gH → Option Bool) : List gH → Nat → Option (Int)
 | [], y1 => (some (-1))
 | x4 :: xs, y1 => bnd (a1 x4) fun x5 =>
(cnd x5 (
(some (y1 : Int))) (
wL a1 xs (y1 + 1)))
def gGa (a0 : List gH) (a1 : gH → Option Bool) : Option (Int) :=
wL a1 a0 0
theorem gSj (a0 : List gH) {a1f : Nat} {a1c : List SV} {a1 : gH → Option Bool} (a1_lt : ∀ n, SV.lts n a1c = true) (ha1 : ∀ (x0 : gH) (r : Bool), a1 x0 = some r → jB Tryz.prog a1f ([.d (gFz x0)] ++ a1c) [.b r]) {r : Int} (h : gGa a0 a1 = some r) : jB Tryz.prog 59 [.L 4 (gP a0), .fn a1f a1c] [.i .i64 r] := by
 unfold gGa at h
 refine SpI Tryz.func59 fun A _ => ?_
 refine goL ?_
 refine noB ?_
 refine gEk 0 (fun z2 => ?_)
 refine mY (fun (y1 : Nat) => ⟨[(0, .L 4 (gP a0)), (1, .fn a1f a1c), (7, .I (a0.length : Int)), (8, .N y1)], [], Tryz.f59.ntmps⟩) (fun y1 => wL a1 (a0.drop y1) y1 = some r) (fun y1 => a0.length - y1) 0 ⟨rfl, ⟨⟨rfl, rfl⟩, ⟨rfl, a1_lt _⟩, ⟨rfl, rfl⟩, ⟨rfl, rfl⟩, trivial⟩, ⟨[], rfl⟩, rfl⟩ h ?_
 rintro y1 h
 refine goL ?_
 refine kD (mF (fun c3 => ?_) (fun c3 => ?_))
 ·have hky12 := vO c3
  obtain ⟨x4, hx4, hdx4⟩ := drop_at hky12
  rw [hdx4, wL.eq_2] at h
  obtain ⟨x4_0, ⟨x4_1_0, x4_1_1, x4_1_2⟩⟩ := x4
  refine noS ?_
  refine kD (jC ?_)
  refine goL ?_
  refine jH (jJ y1 (gIv hx4)) ?_
  obtain ⟨x5, hx5, h⟩ := gK h
  refine jH (gUj (ha1 _ _ hx5) (a1_lt 0)) ?_
  refine mF (fun c6 => ?_) (fun c6 => ?_)
  ·replace h := gW c6 h
   exact goR h
  ·replace h := gX c6 h
   refine goS ?_
   refine jH (jT y1 (by omega)) ?_
   exact ⟨(y1 + 1), h, by omega, ⟨rfl, ⟨⟨rfl, rfl⟩, ⟨rfl, a1_lt _⟩, ⟨rfl, rfl⟩, ⟨rfl, rfl⟩, trivial⟩, ⟨_, rfl⟩, rfl⟩⟩
 ·have hky12 := vP c3
  rw [jE hky12, wL.eq_1] at h
  refine goX ?_
  refine jN ?_
  cases h
  exact qH
def gAr (a0 : List gH) (a1 : gH → Option Bool) : Option (Bool) :=
bnd (gGa a0 a1) fun x1 =>
(some (decide (x1 ≥ 0)))
theorem gN8 (a0 : List gH) {a1f : Nat} {a1c : List SV} {a1 : gH → Option Bool} (a1_lt : ∀ n, SV.lts n a1c = true) (ha1 : ∀ (x0 : gH) (r : Bool), a1 x0 = some r → jB Tryz.prog a1f ([.d (gFz x0)] ++ a1c) [.b r]) {r : Bool} (h : gAr a0 a1 = some r) : jB Tryz.prog 40 [.L 4 (gP a0), .fn a1f a1c] [.b r] := by
 unfold gAr at h
 refine SpI Tryz.func40 fun A _ => ?_
 refine goL ?_
 obtain ⟨x1, hx1, h⟩ := gK h
 refine qQ (gF (gSj a0 (a1 := a1) a1_lt ha1 hx1)) ?_
 exact goR h
def gI5 (a0 : gH) (a1 : List UInt8) : Bool :=
(a0.var_ == a1)
theorem hCx (a0 : gH) (a1 : List UInt8) : jB Tryz.prog 41 [.d (gFz a0), .dp (.s a1)] [.b (gI5 a0 a1)] := by
 obtain ⟨r, h⟩ : ∃ r, gI5 a0 a1 = r := ⟨_, rfl⟩
 rw [h]
 obtain ⟨a0_0, ⟨a0_1_0, a0_1_1, a0_1_2⟩⟩ := a0
 unfold gI5 at h
 refine SpI Tryz.func41 fun A _ => ?_
 refine goL ?_
 refine jN ?_
 subst h
 exact qH
def gN9 (s : gG) (v : List UInt8) : Option (Bool) :=
bnd (zI v) fun x1 =>
bnd ((cnd x1 (bnd (gAr s.bindings (fun z0 => some (gI5 z0 v))) fun x4 =>
(some x4)) ((some false)))) fun b2 =>
(some b2)
theorem hF4 (s : gG) (v : List UInt8) {r : Bool} (h : gN9 s v = some r) : Go.Eng.Spec Tryz.prog 39 [.S v, .ptr 0 0] [.box [.ptr 1 0], .box [.I s.next, .I s.count, .I s.node, .L 4 (gP s.bindings), .L 7 (jP s.equations), .L 5 (jG s.obligations), .I s.code, .I s.at_]] (fun sv Lo => sv = .B r ∧ Lo = [.box [.ptr 1 0], .box [.I s.next, .I s.count, .I s.node, .L 4 (gP s.bindings), .L 7 (jP s.equations), .L 5 (jG s.obligations), .I s.code, .I s.at_]]) := by
 obtain ⟨s_0, s_1, s_2, s_3, s_4, s_5, s_6, s_7⟩ := s
 unfold gN9 at h
 refine kY 2 Tryz.func39 rfl (by kernel_rfl) rfl rfl fun A _ => ?_
 refine goL ?_
 obtain ⟨x1, hx1, h⟩ := gK h
 refine jH (gF (gKu v hx1)) ?_
 obtain ⟨b2, hb2, h⟩ := gK h
 refine jU ⟨[(3, .B b2)], [.box [.ptr 1 0], .box [.I s_0, .I s_1, .I s_2, .L 4 (gP s_3), .L 7 (jP s_4), .L 5 (jG s_5), .I s_6, .I s_7], .box [.S v]], Tryz.f39.ntmps⟩ ?_ ?_
 ·refine gQ 6 (fun c3 => ?_) (fun c3 => ?_)
  ·replace hb2 := gW c3 hb2
   refine goL ?_
   refine uB ?_
   refine qQ (hEt) ?_
   refine uB ?_
   obtain ⟨x4, hx4, hb2⟩ := gK hb2
   refine gFj (hUr (gN8 s_3 (a1 := (fun z0 => some (gI5 z0 v))) (fun _ => rfl) (fun z0 r hr => by cases hr; exact hCx z0 v) hx4)) ?_
   cases hb2
   exact eJ
  ·replace hb2 := gX c3 hb2
   refine goL ?_
   cases hb2
   exact eJ
 refine goL ?_
 refine jN ?_
 obtain rfl := Option.some.inj h
 exact gEl [.B b2] [.box [.ptr 1 0], .box [.I s_0, .I s_1, .I s_2, .L 4 (gP s_3), .L 7 (jP s_4), .L 5 (jG s_5), .I s_6, .I s_7]] ⟨rfl, rfl⟩
def gAs (s : gG) : List (List UInt8) → Nat → Option (Int)
 | [], y1 => (some (-1))
 | x4 :: xs, y1 => bnd (gN9 s x4) fun x5 =>
(cnd x5 (
(some (y1 : Int))) (
gAs s xs (y1 + 1)))
def gKx (s : gG) (l : List (List UInt8)) : Option (Int) :=
gAs s l 0
theorem gZx (s : gG) (l : List (List UInt8)) {r : Int} (h : gKx s l = some r) : Go.Eng.Spec Tryz.prog 47 [.L 1 (gY l), .fn 39 [.ptr 0 0]] [.box [.ptr 1 0], .box [.I s.next, .I s.count, .I s.node, .L 4 (gP s.bindings), .L 7 (jP s.equations), .L 5 (jG s.obligations), .I s.code, .I s.at_]] (fun sv Lo => sv = .I r ∧ Lo = [.box [.ptr 1 0], .box [.I s.next, .I s.count, .I s.node, .L 4 (gP s.bindings), .L 7 (jP s.equations), .L 5 (jG s.obligations), .I s.code, .I s.at_]]) := by
 obtain ⟨s_0, s_1, s_2, s_3, s_4, s_5, s_6, s_7⟩ := s
 unfold gKx at h
 refine kY 2 Tryz.func47 rfl (by kernel_rfl) rfl rfl fun A _ => ?_
 refine goL ?_
 refine noB ?_
 refine gEk 0 (fun z2 => ?_)
 refine mY (fun (y1 : Nat) => ⟨[(0, .L 1 (gY l)), (1, .fn 39 [.ptr 0 0]), (7, .I (l.length : Int)), (8, .N y1)], [.box [.ptr 1 0], .box [.I s_0, .I s_1, .I s_2, .L 4 (gP s_3), .L 7 (jP s_4), .L 5 (jG s_5), .I s_6, .I s_7]], Tryz.f47.ntmps⟩) (fun y1 => gAs (gG.mk s_0 s_1 s_2 s_3 s_4 s_5 s_6 s_7) (l.drop y1) y1 = some r) (fun y1 => l.length - y1) 0 eJ h ?_
 rintro y1 h
 refine goL ?_
 refine kD (mF (fun c3 => ?_) (fun c3 => ?_))
 ·have hky12 := vO c3
  obtain ⟨x4, hx4, hdx4⟩ := drop_at hky12
  rw [hdx4, gAs.eq_2] at h
  refine noS ?_
  refine kD (jC ?_)
  refine goL ?_
  refine jH (jJ y1 (gOl hx4)) ?_
  obtain ⟨x5, hx5, h⟩ := gK h
  refine gGc [0, 1] (hF4 (gG.mk s_0 s_1 s_2 s_3 s_4 s_5 s_6 s_7) x4 hx5) ?_
  rintro _ _ ⟨rfl, rfl⟩
  show VO _ _ _ _ ⟨(_, .B x5) :: _, [.box [.ptr 1 0], .box [.I s_0, .I s_1, .I s_2, .L 4 (gP s_3), .L 7 (jP s_4), .L 5 (jG s_5), .I s_6, .I s_7]], _⟩ _
  refine goC h ?_ ?_<;>intro c6 h
  ·refine goL ?_
   refine jN ?_
   obtain rfl := Option.some.inj h
   exact gEl [.N y1] [.box [.ptr 1 0], .box [.I s_0, .I s_1, .I s_2, .L 4 (gP s_3), .L 7 (jP s_4), .L 5 (jG s_5), .I s_6, .I s_7]] ⟨rfl, rfl⟩
  ·refine goS ?_
   refine jH (jT y1 (by omega)) ?_
   exact ⟨(y1 + 1), h, by omega, eJ⟩
 ·have hky12 := vP c3
  rw [jE hky12, gAs.eq_1] at h
  refine goX ?_
  refine jN ?_
  obtain rfl := Option.some.inj h
  exact gEl [.I (-1)] [.box [.ptr 1 0], .box [.I s_0, .I s_1, .I s_2, .L 4 (gP s_3), .L 7 (jP s_4), .L 5 (jG s_5), .I s_6, .I s_7]] ⟨rfl, rfl⟩
def gD0 (s : gG) (l : List (List UInt8)) : Option (Bool) :=
bnd (gKx s l) fun x1 =>
(some (decide (x1 ≥ 0)))
theorem gSk (s : gG) (l : List (List UInt8)) {r : Bool} (h : gD0 s l = some r) : Go.Eng.Spec Tryz.prog 22 [.L 1 (gY l), .fn 39 [.ptr 0 0]] [.box [.ptr 1 0], .box [.I s.next, .I s.count, .I s.node, .L 4 (gP s.bindings), .L 7 (jP s.equations), .L 5 (jG s.obligations), .I s.code, .I s.at_]] (fun sv Lo => sv = .B r ∧ Lo = [.box [.ptr 1 0], .box [.I s.next, .I s.count, .I s.node, .L 4 (gP s.bindings), .L 7 (jP s.equations), .L 5 (jG s.obligations), .I s.code, .I s.at_]]) := by
 obtain ⟨s_0, s_1, s_2, s_3, s_4, s_5, s_6, s_7⟩ := s
 unfold gD0 at h
 refine kY 2 Tryz.func22 rfl (by kernel_rfl) rfl rfl fun A _ => ?_
 refine goL ?_
 obtain ⟨x1, hx1, h⟩ := gK h
 refine gGc [0, 1] (gZx (gG.mk s_0 s_1 s_2 s_3 s_4 s_5 s_6 s_7) l hx1) ?_
 rintro _ _ ⟨rfl, rfl⟩
 show VO _ _ _ _ ⟨(_, .I x1) :: _, [.box [.ptr 1 0], .box [.I s_0, .I s_1, .I s_2, .L 4 (gP s_3), .L 7 (jP s_4), .L 5 (jG s_5), .I s_6, .I s_7]], _⟩ _
 refine goL ?_
 refine jN ?_
 obtain rfl := Option.some.inj h
 exact gEl [.d (.b (decide (x1 ≥ 0)))] [.box [.ptr 1 0], .box [.I s_0, .I s_1, .I s_2, .L 4 (gP s_3), .L 7 (jP s_4), .L 5 (jG s_5), .I s_6, .I s_7]] ⟨rfl, rfl⟩
def gBx (s : gG) : Nat → Int → (List UInt8) → (List gD) → Option (gD)
 | 0, y3, y4, y5 => (some (gD.mk y3 y4 y5))
 | m9 + 1, y3, y4, y5 => bnd (yS (gD.mk y3 y4 y5)) fun x10 =>
bnd (gD0 s x10) fun x11 =>
lt_ ((cnd (!x11) (true) ((decide ((tsz (gD.mk y3 y4 y5)) ≥ 4000))))) fun b12 =>
(cnd b12 (
(some (gD.mk y3 y4 y5))) (
gd (bok s.bindings ∧ tok (gD.mk y3 y4 y5)) (lt_ (apT s.bindings (gD.mk y3 y4 y5)) fun x16 =>
gBx s m9 x16.kind x16.name x16.args)))
def gOa (s : gG) (t : gD) : Option (gD) :=
gd (tok t) (lt_ (idT t) fun x2 =>
gBx s 60 x2.kind x2.name x2.args)
theorem hF5 (s : gG) (t : gD) {r : gD} (h : gOa s t = some r) : Go.Eng.Spec Tryz.prog 16 [.ptr 0 0, .d (jQ t)] [.box [.I s.next, .I s.count, .I s.node, .L 4 (gP s.bindings), .L 7 (jP s.equations), .L 5 (jG s.obligations), .I s.code, .I s.at_]] (fun sv Lo => sv = .ag [.I r.kind, .S r.name, .sl 1 0] ∧ Lo = [.box [.I s.next, .I s.count, .I s.node, .L 4 (gP s.bindings), .L 7 (jP s.equations), .L 5 (jG s.obligations), .I s.code, .I s.at_], .own 31 3 0 (gJ r.args)]) := by
 obtain ⟨s_0, s_1, s_2, s_3, s_4, s_5, s_6, s_7⟩ := s
 obtain ⟨t_0, t_1, t_2⟩ := t
 unfold gOa at h
 refine kY 1 Tryz.func16 rfl (by kernel_rfl) rfl rfl fun A _ => ?_
 refine goL ?_
 obtain ⟨g1, h⟩ := pF h
 obtain ⟨⟨x2_0, x2_1, x2_2⟩, hx2, h⟩ := qU h
 have sx2 := gNx (gD.mk t_0 t_1 t_2) g1
 rw [hx2] at sx2
 refine gI7 (sx2) ?_
 refine goL ?_
 refine noB ?_
 refine hBo (fun (y7 : Nat) (y3 : Int) (y4 : List UInt8) (y5 : List gD) (v6 : Nat) => ⟨[(2, .ptr 1 0), (4, .ptr 3 0), (5, .ptr 5 0), (9, .N y7)], [.box [.I s_0, .I s_1, .I s_2, .L 4 (gP s_3), .L 7 (jP s_4), .L 5 (jG s_5), .I s_6, .I s_7], .box [.ptr 0 0], .box [.I t_0, .S t_1, .L 3 (gJ t_2)], .box [.I 0, .S [], .nilsl], .own 31 3 v6 (gJ y5), .box [.I y3, .S y4, .sl 4 v6]], Tryz.f16.ntmps⟩) (fun y7 y3 y4 y5 v6 => y7 ≤ 60 ∧ gBx (gG.mk s_0 s_1 s_2 s_3 s_4 s_5 s_6 s_7) (60 - y7) y3 y4 y5 = some r) (fun y7 y3 y4 y5 v6 => 60 - y7) 0 x2_0 x2_1 x2_2 0 eJ ⟨by simp, h⟩ ?_
 rintro y7 y3 y4 y5 v6 ⟨hky7, h⟩
 refine goL ?_
 refine kD (mF (fun c8 => ?_) (fun c8 => ?_))
 ·have hky72 : y7 < 60 := by have := of_decide_eq_true c8; omega
  obtain ⟨m9, hm9⟩ : ∃ m, 60 - y7 = m + 1 := ⟨60 - y7 - 1, by omega⟩
  rw [hm9, gBx.eq_2] at h
  refine noS ?_
  refine kD (jC ?_)
  refine goL ?_
  obtain ⟨x10, hx10, h⟩ := gK h
  refine gI7 (gIp (gD.mk y3 y4 y5) hx10) ?_
  refine qQ (hEt) ?_
  refine gIw 6 rfl rfl ?_
  obtain ⟨x11, hx11, h⟩ := gK h
  refine gGc [1, 0] (gSk (gG.mk s_0 s_1 s_2 s_3 s_4 s_5 s_6 s_7) x10 hx11) ?_
  rintro _ _ ⟨rfl, rfl⟩
  show VO _ _ _ _ ⟨(_, .B x11) :: _, [.box [.I s_0, .I s_1, .I s_2, .L 4 (gP s_3), .L 7 (jP s_4), .L 5 (jG s_5), .I s_6, .I s_7], .box [.ptr 0 0], .box [.I t_0, .S t_1, .L 3 (gJ t_2)], .box [.I 0, .S [], .nilsl], .own 31 3 v6 (gJ y5), .box [.I y3, .S y4, .sl 4 v6], .frz 9 1 0 (gY x10)], _⟩ _
  refine goL ?_
  obtain ⟨b12, hb12, h⟩ := qU h
  refine jU ⟨[(2, .ptr 1 0), (4, .ptr 3 0), (5, .ptr 5 0), (9, .N y7), (21, .B b12)], [.box [.I s_0, .I s_1, .I s_2, .L 4 (gP s_3), .L 7 (jP s_4), .L 5 (jG s_5), .I s_6, .I s_7], .box [.ptr 0 0], .box [.I t_0, .S t_1, .L 3 (gJ t_2)], .box [.I 0, .S [], .nilsl], .own 31 3 v6 (gJ y5), .box [.I y3, .S y4, .sl 4 v6], .frz 9 1 0 (gY x10)], Tryz.f16.ntmps⟩ ?_ ?_
  ·refine gQ 17 (fun c13 => ?_) (fun c13 => ?_)
   ·replace hb12 := gW c13 hb12
    refine goL ?_
    cases hb12
    exact eJ
   ·replace hb12 := gX c13 hb12
    refine goL ?_
    refine uB ?_
    refine gFj (gSm (gTn (gD.mk y3 y4 y5))) ?_
    cases hb12
    exact eJ
  refine goC h ?_ ?_<;>intro c14 h
  ·refine goX ?_
   refine hO5 (fr' := [(4, .ptr 2 0)]) (Lc := [.box [.I s_0, .I s_1, .I s_2, .L 4 (gP s_3), .L 7 (jP s_4), .L 5 (jG s_5), .I s_6, .I s_7], .own 31 3 v6 (gJ y5), .box [.I y3, .S y4, .sl 1 v6]]) 1 [0, 4, 3] ?_
   refine hO7 (fr' := [(4, .ptr 2 0)]) (L' := [.box [.I s_0, .I s_1, .I s_2, .L 4 (gP s_3), .L 7 (jP s_4), .L 5 (jG s_5), .I s_6, .I s_7], .own 31 3 0 (gJ y5), .box [.I y3, .S y4, .sl 1 0]]) 1 1 ?_
   refine jN ?_
   obtain rfl := Option.some.inj h
   exact gEl [.ag [.I y3, .S y4, .sl 1 0]] [.box [.I s_0, .I s_1, .I s_2, .L 4 (gP s_3), .L 7 (jP s_4), .L 5 (jG s_5), .I s_6, .I s_7], .own 31 3 0 (gJ y5)] ⟨rfl, rfl⟩
  ·refine noS ?_
   refine vH (P := Tryz.prog) Mix.h [(0, true), (1, true), (2, true), (3, true), (4, true), (5, false), (6, false)] (by kernel_rfl) ?_
   refine goY ?_
   obtain ⟨g15, h⟩ := pF h
   obtain ⟨⟨x16_0, x16_1, x16_2⟩, hx16, h⟩ := qU h
   have sx16 := hCc s_3 (gD.mk y3 y4 y5) g15
   rw [hx16] at sx16
   refine gS8 (sx16) ?_
   refine goY ?_
   refine kP ?_
   refine goL ?_
   refine jH (jT y7 (by omega)) ?_
   rw [show m9 = 60 - (y7 + 1) by omega] at h
   exact ⟨(y7 + 1), x16_0, x16_1, x16_2, 0, ⟨by omega, h⟩, by omega, vC 1 [0, 1, 2, 3, 7, 5]⟩
 ·have hky72 : 60 ≤ y7 := by have := of_decide_eq_false c8; omega
  rw [show 60 - y7 = 0 by omega, gBx.eq_1] at h
  refine goX ?_
  refine hO5 (fr' := [(4, .ptr 2 0)]) (Lc := [.box [.I s_0, .I s_1, .I s_2, .L 4 (gP s_3), .L 7 (jP s_4), .L 5 (jG s_5), .I s_6, .I s_7], .own 31 3 v6 (gJ y5), .box [.I y3, .S y4, .sl 1 v6]]) 1 [0, 4, 3] ?_
  refine hO7 (fr' := [(4, .ptr 2 0)]) (L' := [.box [.I s_0, .I s_1, .I s_2, .L 4 (gP s_3), .L 7 (jP s_4), .L 5 (jG s_5), .I s_6, .I s_7], .own 31 3 0 (gJ y5), .box [.I y3, .S y4, .sl 1 0]]) 1 1 ?_
  refine jN ?_
  obtain rfl := Option.some.inj h
  exact gEl [.ag [.I y3, .S y4, .sl 1 0]] [.box [.I s_0, .I s_1, .I s_2, .L 4 (gP s_3), .L 7 (jP s_4), .L 5 (jG s_5), .I s_6, .I s_7], .own 31 3 0 (gJ y5)] ⟨rfl, rfl⟩
def gHk (a0 : gG) (a1 : gD) : Option (gD) :=
bnd (gOa a0 a1) fun x1 =>
(some x1)
theorem gVl (a0 : gG) (a1 : gD) {r : gD} (h : gHk a0 a1 = some r) : kR Tryz.prog 6 [.d (mW a0), .d (jQ a1)] [31] [jQ r] := by
 obtain ⟨a0_0, a0_1, a0_2, a0_3, a0_4, a0_5, a0_6, a0_7⟩ := a0
 obtain ⟨a1_0, a1_1, a1_2⟩ := a1
 unfold gHk at h
 refine qJ Tryz.func6 rfl (by kernel_rfl) rfl (by simp) fun A _ => ?_
 refine goL ?_
 obtain ⟨⟨x1_0, x1_1, x1_2⟩, hx1, h⟩ := gK h
 refine gGc [0] (hF5 (gG.mk a0_0 a0_1 a0_2 a0_3 a0_4 a0_5 a0_6 a0_7) (gD.mk a1_0 a1_1 a1_2) hx1) ?_
 rintro _ _ ⟨rfl, rfl⟩
 show VO _ _ _ _ ⟨(_, .ag [.I x1_0, .S x1_1, .sl 3 0]) :: _, [.box [.I a0_0, .I a0_1, .I a0_2, .L 4 (gP a0_3), .L 7 (jP a0_4), .L 5 (jG a0_5), .I a0_6, .I a0_7], .box [.I a1_0, .S a1_1, .L 3 (gJ a1_2)], .box [.I 0, .S [], .nilsl], .own 31 3 0 (gJ x1_2)], _⟩ _
 refine goL ?_
 refine jN ?_
 obtain rfl := Option.some.inj h
 exact gOf
def zJ (rec_l32Bound : (List gH) → gD → Option (Bool)) (a0 : List gH) : List gD → Option (Bool)
 | [] => (some false)
 | x8 :: xs => bnd (rec_l32Bound a0 x8) fun x9 =>
(cnd x9 (
(some true)) (
zJ rec_l32Bound a0 xs ))
def zK (rec_l32Bound : (List gH) → gD → Option (Bool)) (a0 : List gH) : List gD → Option (Bool)
 | [] => (some false)
 | x14 :: xs => bnd (rec_l32Bound a0 x14) fun x15 =>
(cnd x15 (
(some true)) (
zK rec_l32Bound a0 xs ))
def gI6 (rec_l32Bound : (List gH) → gD → Option (Bool)) (a0 : List gH) (a1 : gD) : Option (Bool) :=
bnd (gDz a1) fun x1 =>
(cnd x1 (
bnd (gDy a0 a1.name) fun x3 =>
(cnd x3.2 (
(some true)) (
zJ rec_l32Bound a0 a1.args ))) (
zK rec_l32Bound a0 a1.args ))
theorem gWh {rec_l32Bound : (List gH) → gD → Option (Bool)} (hrec_l32Bound : ∀ (x0 : List gH) (x1 : gD) {r : Bool}, rec_l32Bound x0 x1 = some r → jB Tryz.prog 19 [.L 4 (gP x0), .d (jQ x1)] [.b r]) (a0 : List gH) (a1 : gD) {r : Bool} (h : gI6 rec_l32Bound a0 a1 = some r) : jB Tryz.prog 19 [.L 4 (gP a0), .d (jQ a1)] [.b r] := by
 obtain ⟨a1_0, a1_1, a1_2⟩ := a1
 unfold gI6 at h
 refine SpI Tryz.func19 fun A _ => ?_
 refine goL ?_
 obtain ⟨x1, hx1, h⟩ := gK h
 refine jH (gF (gKv (gD.mk a1_0 a1_1 a1_2) hx1)) ?_
 refine mF (fun c2 => ?_) (fun c2 => ?_)
 ·replace h := gW c2 h
  refine goL ?_
  obtain ⟨⟨⟨x3_0_0, x3_0_1, x3_0_2⟩, x3_1⟩, hx3, h⟩ := gK h
  refine jH (gF ((gN1 a0 a1_1 hx3).p)) ?_
  refine mF (fun c4 => ?_) (fun c4 => ?_)
  ·replace h := gW c4 h
   exact goR h
  ·replace h := gX c4 h
   refine goS ?_
   refine noB ?_
   refine vJ 0 2 (fun z6 => ?_)
   refine mY (fun (y5 : Nat) => ⟨[(0, .L 4 (gP a0)), (3, .ptr 0 0), (7, .N y5)], [.box [.I a1_0, .S a1_1, .L 3 (gJ a1_2)], .box [.I x3_0_0, .S x3_0_1, .L 3 (gJ x3_0_2)]], Tryz.f19.ntmps⟩) (fun y5 => zJ rec_l32Bound a0 (a1_2.drop y5)  = some r) (fun y5 => a1_2.length - y5) 0 eJ h ?_
   rintro y5 h
   refine goL ?_
   refine mF (fun c7 => ?_) (fun c7 => ?_)
   ·have hky52 := vO c7
    obtain ⟨x8, hx8, hdx8⟩ := drop_at hky52
    rw [hdx8, zJ.eq_2] at h
    obtain ⟨x8_0, x8_1, x8_2⟩ := x8
    refine noS ?_
    refine kD (jC ?_)
    refine goL ?_
    refine jH (jJ y5 (gA5 hx8)) ?_
    obtain ⟨x9, hx9, h⟩ := gK h
    refine jH (gF (hrec_l32Bound a0 (gD.mk x8_0 x8_1 x8_2) hx9)) ?_
    refine mF (fun c10 => ?_) (fun c10 => ?_)
    ·replace h := gW c10 h
     exact goR h
    ·replace h := gX c10 h
     refine goS ?_
     refine jH (jT y5 (by omega)) ?_
     exact ⟨(y5 + 1), h, by omega, eJ⟩
   ·have hky52 := vP c7
    rw [jE hky52, zJ.eq_1] at h
    refine goX ?_
    refine jN ?_
    cases h
    exact qH
 ·replace h := gX c2 h
  refine goS ?_
  refine noB ?_
  refine vJ 0 2 (fun z12 => ?_)
  refine mY (fun (y11 : Nat) => ⟨[(0, .L 4 (gP a0)), (3, .ptr 0 0), (7, .N y11)], [.box [.I a1_0, .S a1_1, .L 3 (gJ a1_2)]], Tryz.f19.ntmps⟩) (fun y11 => zK rec_l32Bound a0 (a1_2.drop y11)  = some r) (fun y11 => a1_2.length - y11) 0 eJ h ?_
  rintro y11 h
  refine goL ?_
  refine mF (fun c13 => ?_) (fun c13 => ?_)
  ·have hky112 := vO c13
   obtain ⟨x14, hx14, hdx14⟩ := drop_at hky112
   rw [hdx14, zK.eq_2] at h
   obtain ⟨x14_0, x14_1, x14_2⟩ := x14
   refine noS ?_
   refine kD (jC ?_)
   refine goL ?_
   refine jH (jJ y11 (gA5 hx14)) ?_
   obtain ⟨x15, hx15, h⟩ := gK h
   refine jH (gF (hrec_l32Bound a0 (gD.mk x14_0 x14_1 x14_2) hx15)) ?_
   refine mF (fun c16 => ?_) (fun c16 => ?_)
   ·replace h := gW c16 h
    exact goR h
   ·replace h := gX c16 h
    refine goS ?_
    refine jH (jT y11 (by omega)) ?_
    exact ⟨(y11 + 1), h, by omega, eJ⟩
  ·have hky112 := vP c13
   rw [jE hky112, zK.eq_1] at h
   refine goX ?_
   refine jN ?_
   cases h
   exact qH
def gGw : Nat → (List gH) → gD → Option (Bool)
 | 0, _, _ => none
 | n + 1, x0, x1 => gI6 (gGw n) x0 x1
theorem gWi : ∀ (n : Nat) (x0 : List gH) (x1 : gD) {r : Bool}, gGw n x0 x1 = some r → jB Tryz.prog 19 [.L 4 (gP x0), .d (jQ x1)] [.b r] := by
 intro n
 induction n with
 | zero => intro x0 x1 r h; cases h
 | succ n ih => intro x0 x1 r h; exact gWh ih x0 x1 h
mutual
def gSn (p : List UInt8 → Bool) : gD → Bool
 | ⟨k, n, ts⟩ => ((k == 1) && p n) || gFr p ts
def gFr (p : List UInt8 → Bool) : List gD → Bool
 | [] => false
 | a :: ts => gSn p a || gFr p ts
end
theorem gWj (p : List UInt8 → Bool) (k : Int) (n : List UInt8) (l : List (List UInt8)) : (gJf k n l).any p = (l.any p || ((k == 1) && p n)) := by
 unfold gJf
 by_cases hk : k = 1
 ·by_cases hn : n ∈ l
  ·simp only [hn, not_true_eq_false, and_false, if_false, hk, beq_self_eq_true, Bool.true_and]
   cases h : p n with
   | false => simp
   | true => simp only [Bool.or_true]; exact List.any_eq_true.2 ⟨n, hn, h⟩
  ·simp [hn, hk]
 ·simp [hk]
mutual
theorem gOb (p : List UInt8 → Bool) : ∀ (t : gD) (l : List (List UInt8)), (gHv t l).any p = (l.any p || gSn p t)
 | ⟨k, n, ts⟩, l => by
   simp only [gHv, gSn]
   rw [gPb p ts, gWj, Bool.or_assoc]
theorem gPb (p : List UInt8 → Bool) : ∀ (ts : List gD) (l : List (List UInt8)), (gF9 ts l).any p = (l.any p || gFr p ts)
 | [], l => by simp [gF9, gFr]
 | a :: ts, l => by
   simp only [gF9, gFr]
   rw [gPb p ts, gOb p a, Bool.or_assoc]
end
def hasB (l : List gH) (s : List UInt8) : Bool := l.any fun b => b.var_ == s
theorem gZy (v : List UInt8) : ∀ (l : List gH), (lkp v l).2 = hasB l v
 | [] => rfl
 | b :: l => by
   simp only [lkp, hasB, List.any_cons]
   cases hb : b.var_ == v with
   | true => rfl
   | false =>
     simp only [gN, Bool.false_or]
     exact gZy v l
def zp (l : List gH) (s : List UInt8) : Bool := isInf s && hasB l s
def zbd (l : List gH) (t : gD) : Bool := gSn (zp l) t
theorem gJi {rec : List gH → gD → Option Bool} {l : List gH} : ∀ (xs : List gD), (∀ x ∈ xs, rec l x = some (zbd l x)) → zJ rec l xs = some (gFr (zp l) xs)
 | [], _ => rfl
 | x :: xs, h => by
   simp only [zJ, h x (by simp), bnd, gFr]
   rw [gJi xs (fun y hy => h y (by simp [hy]))]
   show cnd (gSn (zp l) x) _ _ = _
   cases gSn (zp l) x <;> rfl
theorem gJj {rec : List gH → gD → Option Bool} {l : List gH} : ∀ (xs : List gD), (∀ x ∈ xs, rec l x = some (zbd l x)) → zK rec l xs = some (gFr (zp l) xs)
 | [], _ => rfl
 | x :: xs, h => by
   simp only [zK, h x (by simp), bnd, gFr]
   rw [gJj xs (fun y hy => h y (by simp [hy]))]
   show cnd (gSn (zp l) x) _ _ = _
   cases gSn (zp l) x <;> rfl
theorem gOc : ∀ (n : Nat) (l : List gH) (t : gD), bok l → tnd t ≤ n → gGw n l t = some (zbd l t)
 | 0, l, ⟨k, nm, ts⟩, _, h => by simp only [tnd] at h; omega
 | n + 1, l, ⟨k, nm, ts⟩, hl, h => by
   simp only [tnd] at h
   have ih : ∀ x ∈ ts, gGw n l x = some (zbd l x) := fun x hx => gOc n l x hl (by have := gA9 hx; omega)
   simp only [gGw, gI6, gI4, bnd, gDy, gEm nm l hl, gJi ts ih, gJj ts ih, gZy]
   unfold zbd
   simp only [gSn, zp]
   cases k == 1 <;> cases isInf nm <;> cases hasB l nm <;> rfl
theorem gWk (x0 : List gH) (x1 : gD) (h : bok x0) : jB Tryz.prog 19 [.L 4 (gP x0), .d (jQ x1)] [.b (zbd x0 x1)] := gWi (tnd x1) x0 x1 (gOc _ _ _ h (Nat.le_refl _))
def gBq (a0 : gG) : Nat → Int → (List UInt8) → (List gD) → Int → Option (gD)
 | 0, y3, y4, y5, y6 => none
 | n7 + 1, y3, y4, y5, y6 => bnd ((cnd (decide (y6 < 60)) (gd (bok a0.bindings) ((cnd (zbd a0.bindings (gD.mk y3 y4 y5)) ((some (decide ((tsz (gD.mk y3 y4 y5)) < 4000)))) ((some false))))) ((some false)))) fun b8 =>
(cnd b8 (
gd (bok a0.bindings ∧ tok (gD.mk y3 y4 y5)) (lt_ (apT a0.bindings (gD.mk y3 y4 y5)) fun x14 =>
gBq a0 n7 x14.kind x14.name x14.args (IntKind.i64.wrap (y6 + 1)))) (
(some (gD.mk y3 y4 y5))))
def gMi (a0 : gG) (a1 : gD) (n0 : Nat) : Option (gD) :=
gd (tok a1) (lt_ (idT a1) fun x2 =>
gBq a0 n0 x2.kind x2.name x2.args 0)
theorem hCy (a0 : gG) (a1 : gD) {n0 : Nat} {r : gD} (h : gMi a0 a1 n0 = some r) : jB Tryz.prog 8 [.d (mW a0), .d (jQ a1)] [jQ r] := by
 obtain ⟨a0_0, a0_1, a0_2, a0_3, a0_4, a0_5, a0_6, a0_7⟩ := a0
 obtain ⟨a1_0, a1_1, a1_2⟩ := a1
 unfold gMi at h
 refine SpI Tryz.func8 fun A _ => ?_
 refine goL ?_
 obtain ⟨g1, h⟩ := pF h
 obtain ⟨⟨x2_0, x2_1, x2_2⟩, hx2, h⟩ := qU h
 have sx2 := (yB (gD.mk a1_0 a1_1 a1_2) g1).p
 rw [hx2] at sx2
 refine jH (gF (sx2)) ?_
 refine noB ?_
 refine gS7 (fun (n7 : Nat) (y3 : Int) (y4 : List UInt8) (y5 : List gD) (y6 : Int) => ⟨[(2, .ptr 0 0), (3, .ptr 1 0), (4, .ptr 2 0), (5, .I y6)], [.box [.I a0_0, .I a0_1, .I a0_2, .L 4 (gP a0_3), .L 7 (jP a0_4), .L 5 (jG a0_5), .I a0_6, .I a0_7], .box [.I y3, .S y4, .L 3 (gJ y5)], .box [.I 0, .S [], .nilsl]], Tryz.f8.ntmps⟩) (fun n7 y3 y4 y5 y6 => gBq (gG.mk a0_0 a0_1 a0_2 a0_3 a0_4 a0_5 a0_6 a0_7) n7 y3 y4 y5 y6 = some r) (fun n7 y3 y4 y5 y6 => n7) n0 x2_0 x2_1 x2_2 0 eJ h ?_
 rintro n7 y3 y4 y5 y6 h
 rcases n7 with _ | n7
 ·cases h
 rw [gBq.eq_2] at h
 refine goL ?_
 obtain ⟨b8, hb8, h⟩ := gK h
 refine jU ⟨[(2, .ptr 0 0), (3, .ptr 1 0), (4, .ptr 2 0), (5, .I y6), (20, .B b8)], [.box [.I a0_0, .I a0_1, .I a0_2, .L 4 (gP a0_3), .L 7 (jP a0_4), .L 5 (jG a0_5), .I a0_6, .I a0_7], .box [.I y3, .S y4, .L 3 (gJ y5)], .box [.I 0, .S [], .nilsl]], Tryz.f8.ntmps⟩ ?_ ?_
 ·refine gQ 10 (fun c9 => ?_) (fun c9 => ?_)
  ·replace hb8 := gW c9 hb8
   refine goL ?_
   refine uB ?_
   obtain ⟨g10, hb8⟩ := pF hb8
   refine jH (gF (gWk a0_3 (gD.mk y3 y4 y5) g10)) ?_
   refine gQ 16 (fun c11 => ?_) (fun c11 => ?_)
   ·replace hb8 := gW c11 hb8
    refine goL ?_
    refine uB ?_
    refine jH (gF (gHg (gD.mk y3 y4 y5))) ?_
    cases hb8
    exact eJ
   ·replace hb8 := gX c11 hb8
    refine goL ?_
    cases hb8
    exact eJ
  ·replace hb8 := gX c9 hb8
   refine goL ?_
   cases hb8
   exact eJ
 refine goC h ?_ ?_<;>intro c12 h
 ·refine noS ?_
  refine kD (jC ?_)
  refine goL ?_
  obtain ⟨g13, h⟩ := pF h
  obtain ⟨⟨x14_0, x14_1, x14_2⟩, hx14, h⟩ := qU h
  have sx14 := (gQl a0_3 (gD.mk y3 y4 y5) g13).p
  rw [hx14] at sx14
  refine jH (gF (sx14)) ?_
  refine jH (qG) ?_
  exact ⟨n7, x14_0, x14_1, x14_2, (IntKind.i64.wrap (y6 + 1)), h, Nat.lt_succ_self _, eJ⟩
 ·refine goX ?_
  refine jN ?_
  cases h
  exact qH
def zk (l : List gH) : Nat → gD → gD
 | 0, t => t
 | n + 1, t => cnd (zbd l t && decide (tsz t < 4000)) (zk l n (apT l t)) t
theorem gHt {p : gH → Option Bool} {q : gH → Bool} (hp : ∀ x, p x = some (q x)) : ∀ (l : List gH) (k : Nat), ∃ i, wL p l k = some i ∧ (0 ≤ i ↔ l.any q = true)
 | [], k => ⟨-1, rfl, by simp⟩
 | x :: l, k => by
   obtain ⟨i, h1, h2⟩ := gHt hp l (k + 1)
   simp only [wL, hp, bnd]
   cases hq : q x with
   | true => exact ⟨k, by simp [cnd], by simp [hq]⟩
   | false => exact ⟨i, by simpa [cnd] using h1, by simpa [hq] using h2⟩
theorem gLy {p : gH → Option Bool} {q : gH → Bool} (hp : ∀ x, p x = some (q x)) (l : List gH) : gAr l p = some (l.any q) := by
 obtain ⟨i, h1, h2⟩ := gHt hp l 0
 unfold gAr gGa
 rw [h1]
 simp only [bnd, Option.some.injEq]
 cases h : l.any q with
 | true => exact decide_eq_true (h2.2 h)
 | false => exact decide_eq_false (fun hi => by rw [h2.1 hi] at h; cases h)
theorem hCz (s : gG) (v : List UInt8) : gN9 s v = some (zp s.bindings v) := by
 unfold gN9 zp
 rw [gJh, gLy (q := fun b => gI5 b v) (fun x => rfl)]
 simp only [bnd]
 show bnd (cnd (isInf v) (some (hasB s.bindings v)) (some false)) _ = _
 cases isInf v <;> rfl
theorem gKy (s : gG) : ∀ (l : List (List UInt8)) (k : Nat), ∃ i, gAs s l k = some i ∧ (0 ≤ i ↔ l.any (zp s.bindings) = true)
 | [], k => ⟨-1, rfl, by simp⟩
 | x :: l, k => by
   obtain ⟨i, h1, h2⟩ := gKy s l (k + 1)
   simp only [gAs, hCz, bnd]
   cases hq : zp s.bindings x with
   | true => exact ⟨k, by simp [cnd], by simp [hq]⟩
   | false => exact ⟨i, by simpa [cnd] using h1, by simpa [hq] using h2⟩
theorem gQw (s : gG) (l : List (List UInt8)) : gD0 s l = some (l.any (zp s.bindings)) := by
 obtain ⟨i, h1, h2⟩ := gKy s l 0
 unfold gD0 gKx
 rw [h1]
 simp only [bnd, Option.some.injEq]
 cases h : l.any (zp s.bindings) with
 | true => exact decide_eq_true (h2.2 h)
 | false => exact decide_eq_false (fun hi => by rw [h2.1 hi] at h; cases h)
theorem gHu (t : gD) (h : tnd t ≤ 4294967296) : yS t = some (gHv t []) := by
 unfold yS gEp
 simp only [wP]
 rw [pQ (by simpa using h)]
 rfl
theorem gVm (t : gD) : gD.mk t.kind t.name t.args = t := by cases t; rfl
theorem gOd (s : gG) {M : Nat} (hM : M ≤ 1048577) (h1 : bok s.bindings) (h2 : gWo M s.bindings) : ∀ (n : Nat) (t : gD), tok t → tnd t ≤ 4000 * M → gBx s n t.kind t.name t.args = some (zk s.bindings n t)
 | 0, t, _, _ => by simp only [gBx, zk, gVm]
 | n + 1, t, h3, h4 => by
   have hz : tsz t = tnd t := gCq t (by omega)
   simp only [gBx, zk, gVm]
   rw [gHu t (by omega)]
   simp only [bnd, gQw, gOb, List.any_nil, Bool.false_or, lt_]
   show cnd (cnd (!zbd s.bindings t) true _) _ _ = _
   rw [pQ ⟨h1, h3⟩]
   cases hb : zbd s.bindings t with
   | false => rfl
   | true =>
     by_cases h5 : tnd t < 4000
     ·have e1 : decide (tsz t ≥ 4000) = false := by rw [hz]; simp; omega
      have e2 : decide (tsz t < 4000) = true := by rw [hz]; simp; omega
      have := gTt h2 t
      have h6 : M * tnd t ≤ M * 4000 := Nat.mul_le_mul_left M (by omega)
      simp only [e1, e2, Bool.not_true, gN, Bool.and_self, jI]
      exact gOd s hM h1 h2 n _ (gTs h1 t h3) (by omega)
     ·have e1 : decide (tsz t ≥ 4000) = true := by rw [hz]; simp; omega
      have e2 : decide (tsz t < 4000) = false := by rw [hz]; simp; omega
      simp only [e1, e2, Bool.not_true, gN, Bool.and_false, jI]
theorem gOe (s : gG) (h1 : bok s.bindings) : ∀ (n k : Nat) (t : gD), k + n = 60 → tok t → gBq s (n + 1) t.kind t.name t.args (k : Int) = some (zk s.bindings n t)
 | 0, k, t, hk, _ => by
   obtain rfl : k = 60 := by omega
   simp only [gBq, zk, gVm]
   rfl
 | n + 1, k, t, hk, h3 => by
   rw [gBq.eq_2, zk]
   simp only [gVm]
   have e0 : decide ((k : Int) < 60) = true := decide_eq_true (by omega)
   rw [e0, pQ h1, pQ ⟨h1, h3⟩]
   have e3 : IntKind.i64.wrap ((k : Int) + 1) = ((k + 1 : Nat) : Int) := by rw [wrap_small (by omega) (by omega)]; omega
   have ih := gOe s h1 n (k + 1) (apT s.bindings t) (by omega) (gTs h1 t h3)
   simp only [lt_, e3, jI, ih]
   cases zbd s.bindings t <;> cases decide (tsz t < 4000) <;> rfl
def zkF (s : gG) (t : gD) : gD := zk s.bindings 60 t
theorem hC1 (s : gG) (t : gD) {M : Nat} (hM : M ≤ 1048577) (h1 : bok s.bindings) (h2 : gWo M s.bindings) (h3 : tok t) (h4 : tnd t ≤ 4000 * M) : gOa s t = some (zkF s t) := by
 unfold gOa
 rw [pQ h3]
 exact gOd s hM h1 h2 60 t h3 h4
theorem gZz (s : gG) (t : gD) (h1 : bok s.bindings) (h3 : tok t) : gMi s t 61 = some (zkF s t) := by
 unfold gMi
 rw [pQ h3]
 exact gOe s h1 60 0 t rfl h3
theorem gQx (s : gG) (t : gD) (h : bok s.bindings ∧ tok t) : jB Tryz.prog 8 [.d (mW s), .d (jQ t)] [jQ (zkF s t)] := hCy s t (gZz s t h.1 h.2)
end Go.Proofs.YtfaplndgbgoaaaaGreat
