/- Pt3. Written by a program of mine (aw.py). -/
import Derived.Test.YtgmlpaaklnkghaaGreatEng39
import Derived.Test.YtgmlpaaklnkghaaGreatPt1
set_option linter.unusedVariables false
set_option linter.unusedSimpArgs false
set_option linter.unusedSectionVars false
namespace Go.Proofs.YtgmlpaaklnkghaaGreat
open Go Go.Eng
attribute [local irreducible] V VO VQ VY Quiet QR SpecP SpecO Rng PostP PostO PostG
def b_idx (s : List UInt8) (c : Int) : Int := Lib.indexByte s c.toNat.toUInt8
def b_iAtomByte (a0 : Int) : Bool :=
lt_ ((cnd (b_iLower a0) (true) ((cnd (b_iDigit a0) (true) ((decide ((b_idx [39, 45, 43, 42, 60, 61, 46] a0) ≥ 0))))))) fun b1 =>
b1
set_option maxHeartbeats 4000000 in
theorem w_iAtomByte (a0 : Int) : SpecP Tryz.prog 111 [.d (.i .u8 a0)] [.b (b_iAtomByte a0)] := by
  obtain ⟨r, h⟩ : ∃ r, b_iAtomByte a0 = r := ⟨_, rfl⟩
  rw [h]
  unfold b_iAtomByte at h
  refine SpecP_intro Tryz.func111 rfl (by kernel_rfl) rfl fun A _ => ?_
  refine goL ?_
  refine VO_r (QR_call (w_iLower a0)) ?_
  refine goL ?_
  obtain ⟨b1, hb1, h⟩ := lt_x h
  refine VO_join ⟨[(2, .d (.b b1))], [], Tryz.f111.ntmps⟩ ?_ ?_
  · refine VO_case 5 (fun c2 => ?_) (fun c2 => ?_)
    · replace hb1 := cnd_t c2 hb1
      refine goL ?_
      cases hb1
      exact ⟨rfl, ⟨⟨rfl, rfl⟩, trivial⟩, ⟨[], rfl⟩, rfl⟩
    · replace hb1 := cnd_f c2 hb1
      refine goL ?_
      refine VO_b ?_
      refine VO_r (QR_call (w_iDigit a0)) ?_
      refine goL ?_
      refine VO_case 9 (fun c3 => ?_) (fun c3 => ?_)
      · replace hb1 := cnd_t c3 hb1
        refine goL ?_
        cases hb1
        exact ⟨rfl, ⟨⟨rfl, rfl⟩, trivial⟩, ⟨[], rfl⟩, rfl⟩
      · replace hb1 := cnd_f c3 hb1
        refine goL ?_
        refine VO_b ?_
        refine VO_r (QR_call (t_IndexByte [39, 45, 43, 42, 60, 61, 46] a0)) ?_
        refine goL ?_
        cases hb1
        exact ⟨rfl, ⟨⟨rfl, rfl⟩, trivial⟩, ⟨[], rfl⟩, rfl⟩
  refine goL ?_
  refine V_ret ?_
  subst h
  exact R_rP
def b_iValidAtom_l1 (a0 : List UInt8) : List UInt8 → Bool
  | [] => lt_ ((cnd (decide ((a0.length : Int) ≥ 1)) ((decide ((a0.length : Int) ≤ 12))) (false))) fun b6 =>
b6
  | x4 :: xs => (cnd (!(b_iAtomByte (x4.toNat : Int))) (
false) (
b_iValidAtom_l1 a0 xs ))
def b_iValidAtom (a0 : List UInt8) : Bool :=
b_iValidAtom_l1 a0 a0 
set_option maxHeartbeats 4000000 in
theorem w_iValidAtom (a0 : List UInt8) : SpecP Tryz.prog 97 [.d (.s a0)] [.b (b_iValidAtom a0)] := by
  obtain ⟨r, h⟩ : ∃ r, b_iValidAtom a0 = r := ⟨_, rfl⟩
  rw [h]
  unfold b_iValidAtom at h
  refine SpecP_intro Tryz.func97 rfl (by kernel_rfl) rfl fun A _ => ?_
  refine goL ?_
  refine V_block ?_
  show V _ _ _ _ _
  refine V_bdS 0 (fun z2 => ?_)
  refine V_loop1 (fun (y1 : Nat) => ⟨[(0, .d (.s a0)), (5, .d (.i .i64 (a0.length : Int))), (6, .d (.i .i64 (y1 : Int)))], [], Tryz.f97.ntmps⟩) (fun y1 => b_iValidAtom_l1 a0 (a0.drop y1)  = r) (fun y1 => a0.length - y1) 0 ⟨rfl, ⟨⟨rfl, rfl⟩, ⟨rfl, rfl⟩, ⟨rfl, rfl⟩, trivial⟩, ⟨[], rfl⟩, rfl⟩ h ?_
  rintro y1 h
  refine goL ?_
  refine V_seq (V_cb (fun c3 => ?_) (fun c3 => ?_))
  · have hky12 := kltS c3
    obtain ⟨x4, hx4, hdx4⟩ := drop_at hky12
    rw [hdx4, b_iValidAtom_l1.eq_2] at h
    refine V_skip ?_
    show V _ _ _ _ _
    refine V_seq (V_block ?_)
    refine goL ?_
    refine VO_r (QR_sixn y1 hx4) ?_
    refine VO_r (QR_call (w_iAtomByte (x4.toNat : Int))) ?_
    refine goL ?_
    refine V_cb (fun c5 => ?_) (fun c5 => ?_)
    · replace h := cnd_t c5 h
      refine goL ?_
      refine V_ret ?_
      subst h
      exact R_rP
    · replace h := cnd_f c5 h
      refine V_skip ?_
      show V _ _ _ _ _
      refine goL ?_
      refine VO_r (QR_inc y1 (by omega)) ?_
      refine goL ?_
      exact ⟨(y1 + 1), h, by omega, ⟨rfl, ⟨⟨rfl, rfl⟩, ⟨rfl, rfl⟩, ⟨rfl, rfl⟩, trivial⟩, ⟨_, rfl⟩, rfl⟩⟩
  · have hky12 := kgeS c3
    rw [drop_end hky12, b_iValidAtom_l1.eq_1] at h
    refine V_exit ?_
    show V _ _ _ _ _
    refine goL ?_
    obtain ⟨b6, hb6, h⟩ := lt_x h
    refine VO_join ⟨[(2, .d (.b b6))], [], Tryz.f97.ntmps⟩ ?_ ?_
    · refine VO_case 18 (fun c7 => ?_) (fun c7 => ?_)
      · replace hb6 := cnd_t c7 hb6
        refine goL ?_
        cases hb6
        exact ⟨rfl, ⟨⟨rfl, rfl⟩, trivial⟩, ⟨[], rfl⟩, rfl⟩
      · replace hb6 := cnd_f c7 hb6
        refine goL ?_
        cases hb6
        exact ⟨rfl, ⟨⟨rfl, rfl⟩, trivial⟩, ⟨[], rfl⟩, rfl⟩
    refine goL ?_
    refine V_ret ?_
    subst h
    exact R_rP
def b_IndexFuncX_l1 (a1 : TSExpr → Option Bool) : List TSExpr → Nat → Option (Int)
  | [], y1 => (some (-1))
  | x4 :: xs, y1 => bnd (a1 x4) fun x5 =>
(cnd x5 (
(some (y1 : Int))) (
b_IndexFuncX_l1 a1 xs (y1 + 1)))
def b_IndexFuncX (a0 : List TSExpr) (a1 : TSExpr → Option Bool) : Option (Int) :=
b_IndexFuncX_l1 a1 a0 0
set_option maxHeartbeats 4000000 in
theorem w_IndexFuncX (a0 : List TSExpr) {a1f : Nat} {a1c : List SV} {a1 : TSExpr → Option Bool} (a1_lt : ∀ n, SV.lts n a1c = true) (ha1 : ∀ (x0 : TSExpr) (r : Bool), a1 x0 = some r → SpecP Tryz.prog a1f ([.d (eSExpr x0)] ++ a1c) [.b r]) {r : Int} (h : b_IndexFuncX a0 a1 = some r) : SpecP Tryz.prog 112 [.d (.sl 2 (eSExprs a0)), .fn a1f a1c] [.i .i64 r] := by
  unfold b_IndexFuncX at h
  refine SpecP_intro Tryz.func112 rfl (by kernel_rfl) rfl fun A _ => ?_
  refine goL ?_
  refine V_block ?_
  show V _ _ _ _ _
  refine V_bd 0 (fun z2 => ?_)
  refine V_loop1 (fun (y1 : Nat) => ⟨[(0, .d (.sl 2 (eSExprs a0))), (1, .fn a1f a1c), (7, .d (.i .i64 (a0.length : Int))), (8, .d (.i .i64 (y1 : Int)))], [], Tryz.f112.ntmps⟩) (fun y1 => b_IndexFuncX_l1 a1 (a0.drop y1) y1 = some r) (fun y1 => a0.length - y1) 0 ⟨rfl, ⟨⟨rfl, rfl⟩, ⟨rfl, a1_lt _⟩, ⟨rfl, rfl⟩, ⟨rfl, rfl⟩, trivial⟩, ⟨[], rfl⟩, rfl⟩ h ?_
  rintro y1 h
  refine goL ?_
  refine V_seq (V_cb (fun c3 => ?_) (fun c3 => ?_))
  · have hky12 := kltN c3
    obtain ⟨x4, hx4, hdx4⟩ := drop_at hky12
    rw [hdx4, b_IndexFuncX_l1.eq_2] at h
    obtain ⟨x4_0, x4_1⟩ := x4
    refine V_skip ?_
    show V _ _ _ _ _
    refine V_seq (V_block ?_)
    refine goL ?_
    refine VO_r (QR_ixn y1 (gSExpr hx4)) ?_
    refine goL ?_
    obtain ⟨x5, hx5, h⟩ := bnd_s h
    refine VO_r (QR_callf (ha1 _ _ hx5) (a1_lt 0)) ?_
    refine goL ?_
    refine V_cb (fun c6 => ?_) (fun c6 => ?_)
    · replace h := cnd_t c6 h
      refine goL ?_
      refine V_ret ?_
      replace h := Option.some.inj h
      subst h
      exact R_rP
    · replace h := cnd_f c6 h
      refine V_skip ?_
      show V _ _ _ _ _
      refine goL ?_
      refine VO_r (QR_inc y1 (by omega)) ?_
      refine goL ?_
      exact ⟨(y1 + 1), h, by omega, ⟨rfl, ⟨⟨rfl, rfl⟩, ⟨rfl, a1_lt _⟩, ⟨rfl, rfl⟩, ⟨rfl, rfl⟩, trivial⟩, ⟨_, rfl⟩, rfl⟩⟩
  · have hky12 := kgeN c3
    rw [drop_end hky12, b_IndexFuncX_l1.eq_1] at h
    refine V_exit ?_
    show V _ _ _ _ _
    refine goL ?_
    refine V_ret ?_
    replace h := Option.some.inj h
    subst h
    exact R_rP
def b_ContainsFuncX (a0 : List TSExpr) (a1 : TSExpr → Option Bool) : Option (Bool) :=
bnd (b_IndexFuncX a0 a1) fun x1 =>
(some (decide (x1 ≥ 0)))
set_option maxHeartbeats 4000000 in
theorem w_ContainsFuncX (a0 : List TSExpr) {a1f : Nat} {a1c : List SV} {a1 : TSExpr → Option Bool} (a1_lt : ∀ n, SV.lts n a1c = true) (ha1 : ∀ (x0 : TSExpr) (r : Bool), a1 x0 = some r → SpecP Tryz.prog a1f ([.d (eSExpr x0)] ++ a1c) [.b r]) {r : Bool} (h : b_ContainsFuncX a0 a1 = some r) : SpecP Tryz.prog 98 [.d (.sl 2 (eSExprs a0)), .fn a1f a1c] [.b r] := by
  unfold b_ContainsFuncX at h
  refine SpecP_intro Tryz.func98 rfl (by kernel_rfl) rfl fun A _ => ?_
  refine goL ?_
  obtain ⟨x1, hx1, h⟩ := bnd_s h
  refine VO_r (QR_call (w_IndexFuncX a0 (a1 := a1) a1_lt ha1 hx1)) ?_
  refine goL ?_
  refine V_ret ?_
  replace h := Option.some.inj h
  subst h
  exact R_rP
def b_iAtoms (rec_iAtoms : TSExpr → Option (Bool)) (rec_iAtoms1 : TSExpr → Option (Bool)) (a0 : TSExpr) : Option (Bool) :=
(cnd (!(a0.atom == [])) (
lt_ ((cnd (b_iValidAtom a0.atom) (((a0.list.length : Int) == 0)) (false))) fun b2 =>
(some b2)) (
bnd (b_ContainsFuncX a0.list rec_iAtoms1) fun x4 =>
(some (!x4))))
set_option maxHeartbeats 4000000 in
theorem w_iAtoms {rec_iAtoms : TSExpr → Option (Bool)} {rec_iAtoms1 : TSExpr → Option (Bool)} (hrec_iAtoms : ∀ (x0 : TSExpr) {r : Bool}, rec_iAtoms x0 = some r → SpecP Tryz.prog 76 [.d (eSExpr x0)] [.b r]) (hrec_iAtoms1 : ∀ (x0 : TSExpr) {r : Bool}, rec_iAtoms1 x0 = some r → SpecP Tryz.prog 99 [.d (eSExpr x0)] [.b r]) (a0 : TSExpr) {r : Bool} (h : b_iAtoms rec_iAtoms rec_iAtoms1 a0 = some r) : SpecP Tryz.prog 76 [.d (eSExpr a0)] [.b r] := by
  obtain ⟨a0_0, a0_1⟩ := a0
  unfold b_iAtoms at h
  refine SpecP_intro Tryz.func76 rfl (by kernel_rfl) rfl fun A _ => ?_
  refine goL ?_
  refine V_cb (fun c1 => ?_) (fun c1 => ?_)
  · replace h := cnd_t c1 h
    refine goL ?_
    refine VO_r (QR_call (w_iValidAtom a0_0)) ?_
    refine goL ?_
    obtain ⟨b2, hb2, h⟩ := lt_x h
    refine VO_join ⟨[(2, .d (.b b2))], [.box [.d (.s a0_0), .d (.sl 2 (eSExprs a0_1))]], Tryz.f76.ntmps⟩ ?_ ?_
    · refine VO_case 9 (fun c3 => ?_) (fun c3 => ?_)
      · replace hb2 := cnd_t c3 hb2
        refine goL ?_
        cases hb2
        exact ⟨rfl, ⟨⟨rfl, rfl⟩, trivial⟩, ⟨[], rfl⟩, rfl⟩
      · replace hb2 := cnd_f c3 hb2
        refine goL ?_
        cases hb2
        exact ⟨rfl, ⟨⟨rfl, rfl⟩, trivial⟩, ⟨[], rfl⟩, rfl⟩
    refine goL ?_
    refine V_ret ?_
    replace h := Option.some.inj h
    subst h
    exact R_rP
  · replace h := cnd_f c1 h
    refine V_skip ?_
    show V _ _ _ _ _
    refine goL ?_
    obtain ⟨x4, hx4, h⟩ := bnd_s h
    refine VO_r (QR_call (w_ContainsFuncX a0_1 (a1 := rec_iAtoms1) (fun _ => rfl) (fun x0 r hr => hrec_iAtoms1 x0 hr) hx4)) ?_
    refine goL ?_
    refine V_ret ?_
    replace h := Option.some.inj h
    subst h
    exact R_rP
def b_iAtoms1 (rec_iAtoms : TSExpr → Option (Bool)) (rec_iAtoms1 : TSExpr → Option (Bool)) (a0 : TSExpr) : Option (Bool) :=
bnd (rec_iAtoms a0) fun x1 =>
(some (!x1))
set_option maxHeartbeats 4000000 in
theorem w_iAtoms1 {rec_iAtoms : TSExpr → Option (Bool)} {rec_iAtoms1 : TSExpr → Option (Bool)} (hrec_iAtoms : ∀ (x0 : TSExpr) {r : Bool}, rec_iAtoms x0 = some r → SpecP Tryz.prog 76 [.d (eSExpr x0)] [.b r]) (hrec_iAtoms1 : ∀ (x0 : TSExpr) {r : Bool}, rec_iAtoms1 x0 = some r → SpecP Tryz.prog 99 [.d (eSExpr x0)] [.b r]) (a0 : TSExpr) {r : Bool} (h : b_iAtoms1 rec_iAtoms rec_iAtoms1 a0 = some r) : SpecP Tryz.prog 99 [.d (eSExpr a0)] [.b r] := by
  obtain ⟨a0_0, a0_1⟩ := a0
  unfold b_iAtoms1 at h
  refine SpecP_intro Tryz.func99 rfl (by kernel_rfl) rfl fun A _ => ?_
  refine goL ?_
  obtain ⟨x1, hx1, h⟩ := bnd_s h
  refine VO_r (QR_call (hrec_iAtoms (TSExpr.mk a0_0 a0_1) hx1)) ?_
  refine goL ?_
  refine V_ret ?_
  replace h := Option.some.inj h
  subst h
  exact R_rP
mutual
def m_iAtoms : Nat → TSExpr → Option (Bool)
  | 0, _ => none
  | n + 1, x0 => b_iAtoms (m_iAtoms n) (m_iAtoms1 n) x0
def m_iAtoms1 : Nat → TSExpr → Option (Bool)
  | 0, _ => none
  | n + 1, x0 => b_iAtoms1 (m_iAtoms n) (m_iAtoms1 n) x0
end
theorem ss_iAtoms : ∀ (n : Nat), (∀ (x0 : TSExpr) {r : Bool}, m_iAtoms n x0 = some r → SpecP Tryz.prog 76 [.d (eSExpr x0)] [.b r]) ∧ (∀ (x0 : TSExpr) {r : Bool}, m_iAtoms1 n x0 = some r → SpecP Tryz.prog 99 [.d (eSExpr x0)] [.b r]) := by
  intro n
  induction n with
  | zero => exact ⟨(by intro x0 r h; cases h), (by intro x0 r h; cases h)⟩
  | succ n ih =>
    obtain ⟨ih0, ih1⟩ := ih
    refine ⟨(fun x0 r h => w_iAtoms ih0 ih1 x0 h), (fun x0 r h => w_iAtoms1 ih0 ih1 x0 h)⟩
theorem s_iAtoms : ∀ (n : Nat) (x0 : TSExpr) {r : Bool}, m_iAtoms n x0 = some r → SpecP Tryz.prog 76 [.d (eSExpr x0)] [.b r] := fun n => (ss_iAtoms n).1
def b_iXDepth_l1 (rec_iXDepth : TSExpr → Option (Int)) : List TSExpr → Int → Option (Int)
  | [], y3 => (some (IntKind.i64.wrap (y3 + 1)))
  | x6 :: xs, y3 => bnd (rec_iXDepth x6) fun x7 =>
b_iXDepth_l1 rec_iXDepth xs (if y3 < x7 then x7 else y3)
def b_iXDepth (rec_iXDepth : TSExpr → Option (Int)) (a0 : TSExpr) : Option (Int) :=
(cnd (!(a0.atom == [])) (
(some 0)) (
b_iXDepth_l1 rec_iXDepth a0.list 0))
set_option maxHeartbeats 4000000 in
theorem w_iXDepth {rec_iXDepth : TSExpr → Option (Int)} (hrec_iXDepth : ∀ (x0 : TSExpr) {r : Int}, rec_iXDepth x0 = some r → SpecP Tryz.prog 77 [.d (eSExpr x0)] [.i .i64 r]) (a0 : TSExpr) {r : Int} (h : b_iXDepth rec_iXDepth a0 = some r) : SpecP Tryz.prog 77 [.d (eSExpr a0)] [.i .i64 r] := by
  obtain ⟨a0_0, a0_1⟩ := a0
  unfold b_iXDepth at h
  refine SpecP_intro Tryz.func77 rfl (by kernel_rfl) rfl fun A _ => ?_
  refine goL ?_
  refine V_cb (fun c1 => ?_) (fun c1 => ?_)
  · replace h := cnd_t c1 h
    refine goL ?_
    refine V_ret ?_
    replace h := Option.some.inj h
    subst h
    exact R_rP
  · replace h := cnd_f c1 h
    refine V_skip ?_
    show V _ _ _ _ _
    refine goL ?_
    refine V_block ?_
    show V _ _ _ _ _
    refine V_bd 10 (fun z4 => ?_)
    refine V_loop2 (fun (y2 : Nat) (y3 : Int) => ⟨[(3, .d (.i .i64 y3)), (10, .d (.sl 2 (eSExprs a0_1))), (11, .d (.i .i64 (a0_1.length : Int))), (12, .d (.i .i64 (y2 : Int)))], [.box [.d (.s a0_0), .d (.sl 2 (eSExprs a0_1))]], Tryz.f77.ntmps⟩) (fun y2 y3 => b_iXDepth_l1 rec_iXDepth (a0_1.drop y2) y3 = some r) (fun y2 y3 => a0_1.length - y2) 0 0 ⟨rfl, ⟨⟨rfl, rfl⟩, ⟨rfl, rfl⟩, ⟨rfl, rfl⟩, ⟨rfl, rfl⟩, trivial⟩, ⟨[], rfl⟩, rfl⟩ h ?_
    rintro y2 y3 h
    refine goL ?_
    refine V_seq (V_cb (fun c5 => ?_) (fun c5 => ?_))
    · have hky22 := kltN c5
      obtain ⟨x6, hx6, hdx6⟩ := drop_at hky22
      rw [hdx6, b_iXDepth_l1.eq_2] at h
      obtain ⟨x6_0, x6_1⟩ := x6
      refine V_skip ?_
      show V _ _ _ _ _
      refine V_seq (V_block ?_)
      refine goL ?_
      refine VO_r (QR_ixn y2 (gSExpr hx6)) ?_
      refine goL ?_
      obtain ⟨x7, hx7, h⟩ := bnd_s h
      refine VO_r (QR_call (hrec_iXDepth (TSExpr.mk x6_0 x6_1) hx7)) ?_
      refine VO_r (QR_max) ?_
      refine goL ?_
      refine VO_r (QR_inc y2 (by omega)) ?_
      refine goL ?_
      exact ⟨(y2 + 1), (if y3 < x7 then x7 else y3), h, by omega, ⟨rfl, ⟨⟨rfl, rfl⟩, ⟨rfl, rfl⟩, ⟨rfl, rfl⟩, ⟨rfl, rfl⟩, trivial⟩, ⟨_, rfl⟩, rfl⟩⟩
    · have hky22 := kgeN c5
      rw [drop_end hky22, b_iXDepth_l1.eq_1] at h
      refine V_exit ?_
      show V _ _ _ _ _
      refine goL ?_
      refine VO_r (QR_ar) ?_
      refine goL ?_
      refine V_ret ?_
      replace h := Option.some.inj h
      subst h
      exact R_rP
def m_iXDepth : Nat → TSExpr → Option (Int)
  | 0, _ => none
  | n + 1, x0 => b_iXDepth (m_iXDepth n) x0
theorem s_iXDepth : ∀ (n : Nat) (x0 : TSExpr) {r : Int}, m_iXDepth n x0 = some r → SpecP Tryz.prog 77 [.d (eSExpr x0)] [.i .i64 r] := by
  intro n
  induction n with
  | zero => intro x0 r h; cases h
  | succ n ih => intro x0 r h; exact w_iXDepth ih x0 h
def b_iXSize_l1 (rec_iXSize : TSExpr → Option (Int)) : List TSExpr → Int → Option (Int)
  | [], y1 => (some y1)
  | x5 :: xs, y1 => bnd (rec_iXSize x5) fun x6 =>
b_iXSize_l1 rec_iXSize xs (IntKind.i64.wrap (y1 + x6))
def b_iXSize (rec_iXSize : TSExpr → Option (Int)) (a0 : TSExpr) : Option (Int) :=
b_iXSize_l1 rec_iXSize a0.list 1
set_option maxHeartbeats 4000000 in
theorem w_iXSize {rec_iXSize : TSExpr → Option (Int)} (hrec_iXSize : ∀ (x0 : TSExpr) {r : Int}, rec_iXSize x0 = some r → SpecP Tryz.prog 78 [.d (eSExpr x0)] [.i .i64 r]) (a0 : TSExpr) {r : Int} (h : b_iXSize rec_iXSize a0 = some r) : SpecP Tryz.prog 78 [.d (eSExpr a0)] [.i .i64 r] := by
  obtain ⟨a0_0, a0_1⟩ := a0
  unfold b_iXSize at h
  refine SpecP_intro Tryz.func78 rfl (by kernel_rfl) rfl fun A _ => ?_
  refine goL ?_
  refine V_block ?_
  show V _ _ _ _ _
  refine V_bd 7 (fun z3 => ?_)
  refine V_loop2 (fun (y2 : Nat) (y1 : Int) => ⟨[(3, .d (.i .i64 y1)), (7, .d (.sl 2 (eSExprs a0_1))), (8, .d (.i .i64 (a0_1.length : Int))), (9, .d (.i .i64 (y2 : Int)))], [.box [.d (.s a0_0), .d (.sl 2 (eSExprs a0_1))]], Tryz.f78.ntmps⟩) (fun y2 y1 => b_iXSize_l1 rec_iXSize (a0_1.drop y2) y1 = some r) (fun y2 y1 => a0_1.length - y2) 0 1 ⟨rfl, ⟨⟨rfl, rfl⟩, ⟨rfl, rfl⟩, ⟨rfl, rfl⟩, ⟨rfl, rfl⟩, trivial⟩, ⟨[], rfl⟩, rfl⟩ h ?_
  rintro y2 y1 h
  refine goL ?_
  refine V_seq (V_cb (fun c4 => ?_) (fun c4 => ?_))
  · have hky22 := kltN c4
    obtain ⟨x5, hx5, hdx5⟩ := drop_at hky22
    rw [hdx5, b_iXSize_l1.eq_2] at h
    obtain ⟨x5_0, x5_1⟩ := x5
    refine V_skip ?_
    show V _ _ _ _ _
    refine V_seq (V_block ?_)
    refine goL ?_
    refine VO_r (QR_ixn y2 (gSExpr hx5)) ?_
    refine goL ?_
    obtain ⟨x6, hx6, h⟩ := bnd_s h
    refine VO_r (QR_call (hrec_iXSize (TSExpr.mk x5_0 x5_1) hx6)) ?_
    refine VO_r (QR_ar) ?_
    refine goL ?_
    refine VO_r (QR_inc y2 (by omega)) ?_
    refine goL ?_
    exact ⟨(y2 + 1), (IntKind.i64.wrap (y1 + x6)), h, by omega, ⟨rfl, ⟨⟨rfl, rfl⟩, ⟨rfl, rfl⟩, ⟨rfl, rfl⟩, ⟨rfl, rfl⟩, trivial⟩, ⟨_, rfl⟩, rfl⟩⟩
  · have hky22 := kgeN c4
    rw [drop_end hky22, b_iXSize_l1.eq_1] at h
    refine V_exit ?_
    show V _ _ _ _ _
    refine goL ?_
    refine V_ret ?_
    replace h := Option.some.inj h
    subst h
    exact R_rP
def m_iXSize : Nat → TSExpr → Option (Int)
  | 0, _ => none
  | n + 1, x0 => b_iXSize (m_iXSize n) x0
theorem s_iXSize : ∀ (n : Nat) (x0 : TSExpr) {r : Int}, m_iXSize n x0 = some r → SpecP Tryz.prog 78 [.d (eSExpr x0)] [.i .i64 r] := by
  intro n
  induction n with
  | zero => intro x0 r h; cases h
  | succ n ih => intro x0 r h; exact w_iXSize ih x0 h
def b_iValidX (a0 : TSExpr) : Option (Bool) :=
bnd (m_iAtoms 5000 a0) fun x1 =>
bnd ((cnd x1 (bnd (m_iXDepth 5000 a0) fun x4 =>
(cnd (decide (x4 ≤ 14)) (bnd (m_iXSize 5000 a0) fun x6 =>
(some (decide (x6 ≤ 900)))) ((some false)))) ((some false)))) fun b2 =>
(some b2)
set_option maxHeartbeats 4000000 in
theorem w_iValidX (a0 : TSExpr) {r : Bool} (h : b_iValidX a0 = some r) : SpecP Tryz.prog 46 [.d (eSExpr a0)] [.b r] := by
  obtain ⟨a0_0, a0_1⟩ := a0
  unfold b_iValidX at h
  refine SpecP_intro Tryz.func46 rfl (by kernel_rfl) rfl fun A _ => ?_
  refine goL ?_
  obtain ⟨x1, hx1, h⟩ := bnd_s h
  refine VO_r (QR_call (s_iAtoms 5000 (TSExpr.mk a0_0 a0_1) hx1)) ?_
  refine goL ?_
  obtain ⟨b2, hb2, h⟩ := bnd_s h
  refine VO_join ⟨[(2, .d (.b b2))], [.box [.d (.s a0_0), .d (.sl 2 (eSExprs a0_1))]], Tryz.f46.ntmps⟩ ?_ ?_
  · refine VO_case 5 (fun c3 => ?_) (fun c3 => ?_)
    · replace hb2 := cnd_t c3 hb2
      refine goL ?_
      refine VO_b ?_
      obtain ⟨x4, hx4, hb2⟩ := bnd_s hb2
      refine VO_r (QR_call (s_iXDepth 5000 (TSExpr.mk a0_0 a0_1) hx4)) ?_
      refine goL ?_
      refine VO_case 10 (fun c5 => ?_) (fun c5 => ?_)
      · replace hb2 := cnd_t c5 hb2
        refine goL ?_
        refine VO_b ?_
        obtain ⟨x6, hx6, hb2⟩ := bnd_s hb2
        refine VO_r (QR_call (s_iXSize 5000 (TSExpr.mk a0_0 a0_1) hx6)) ?_
        refine goL ?_
        cases hb2
        exact ⟨rfl, ⟨⟨rfl, rfl⟩, trivial⟩, ⟨[], rfl⟩, rfl⟩
      · replace hb2 := cnd_f c5 hb2
        refine goL ?_
        cases hb2
        exact ⟨rfl, ⟨⟨rfl, rfl⟩, trivial⟩, ⟨[], rfl⟩, rfl⟩
    · replace hb2 := cnd_f c3 hb2
      refine goL ?_
      cases hb2
      exact ⟨rfl, ⟨⟨rfl, rfl⟩, trivial⟩, ⟨[], rfl⟩, rfl⟩
  refine goL ?_
  refine V_ret ?_
  replace h := Option.some.inj h
  subst h
  exact R_rP
def b_sByte (a0 : Int) : Bool :=
lt_ ((cnd (decide (a0 ≥ 97)) ((cnd (decide (a0 ≤ 122)) (true) ((cnd (decide (a0 ≥ 48)) ((cnd (decide (a0 ≤ 57)) (true) ((cnd (a0 == 39) (true) ((cnd (a0 == 45) (true) ((cnd (a0 == 43) (true) ((cnd (a0 == 42) (true) ((cnd (a0 == 60) (true) ((cnd (a0 == 61) (true) ((a0 == 46)))))))))))))))) ((cnd (a0 == 39) (true) ((cnd (a0 == 45) (true) ((cnd (a0 == 43) (true) ((cnd (a0 == 42) (true) ((cnd (a0 == 60) (true) ((cnd (a0 == 61) (true) ((a0 == 46)))))))))))))))))) ((cnd (decide (a0 ≥ 48)) ((cnd (decide (a0 ≤ 57)) (true) ((cnd (a0 == 39) (true) ((cnd (a0 == 45) (true) ((cnd (a0 == 43) (true) ((cnd (a0 == 42) (true) ((cnd (a0 == 60) (true) ((cnd (a0 == 61) (true) ((a0 == 46)))))))))))))))) ((cnd (a0 == 39) (true) ((cnd (a0 == 45) (true) ((cnd (a0 == 43) (true) ((cnd (a0 == 42) (true) ((cnd (a0 == 60) (true) ((cnd (a0 == 61) (true) ((a0 == 46)))))))))))))))))) fun b1 =>
b1
set_option maxHeartbeats 4000000 in
theorem w_sByte (a0 : Int) : SpecP Tryz.prog 119 [.d (.i .u8 a0)] [.b (b_sByte a0)] := by
  obtain ⟨r, h⟩ : ∃ r, b_sByte a0 = r := ⟨_, rfl⟩
  rw [h]
  unfold b_sByte at h
  refine SpecP_intro Tryz.func119 rfl (by kernel_rfl) rfl fun A _ => ?_
  refine goL ?_
  obtain ⟨b1, hb1, h⟩ := lt_x h
  refine VO_join ⟨[(2, .d (.b b1))], [], Tryz.f119.ntmps⟩ ?_ ?_
  · refine VO_case 5 (fun c2 => ?_) (fun c2 => ?_)
    · replace hb1 := cnd_t c2 hb1
      refine goL ?_
      refine VO_case 9 (fun c3 => ?_) (fun c3 => ?_)
      · replace hb1 := cnd_t c3 hb1
        refine goL ?_
        cases hb1
        exact ⟨rfl, ⟨⟨rfl, rfl⟩, trivial⟩, ⟨[], rfl⟩, rfl⟩
      · replace hb1 := cnd_f c3 hb1
        refine goL ?_
        refine VO_case 12 (fun c4 => ?_) (fun c4 => ?_)
        · replace hb1 := cnd_t c4 hb1
          refine goL ?_
          refine VO_case 17 (fun c5 => ?_) (fun c5 => ?_)
          · replace hb1 := cnd_t c5 hb1
            refine goL ?_
            cases hb1
            exact ⟨rfl, ⟨⟨rfl, rfl⟩, trivial⟩, ⟨[], rfl⟩, rfl⟩
          · replace hb1 := cnd_f c5 hb1
            refine goL ?_
            refine VO_case 21 (fun c6 => ?_) (fun c6 => ?_)
            · replace hb1 := cnd_t c6 hb1
              refine goL ?_
              cases hb1
              exact ⟨rfl, ⟨⟨rfl, rfl⟩, trivial⟩, ⟨[], rfl⟩, rfl⟩
            · replace hb1 := cnd_f c6 hb1
              refine goL ?_
              refine VO_case 25 (fun c7 => ?_) (fun c7 => ?_)
              · replace hb1 := cnd_t c7 hb1
                refine goL ?_
                cases hb1
                exact ⟨rfl, ⟨⟨rfl, rfl⟩, trivial⟩, ⟨[], rfl⟩, rfl⟩
              · replace hb1 := cnd_f c7 hb1
                refine goL ?_
                refine VO_case 29 (fun c8 => ?_) (fun c8 => ?_)
                · replace hb1 := cnd_t c8 hb1
                  refine goL ?_
                  cases hb1
                  exact ⟨rfl, ⟨⟨rfl, rfl⟩, trivial⟩, ⟨[], rfl⟩, rfl⟩
                · replace hb1 := cnd_f c8 hb1
                  refine goL ?_
                  refine VO_case 33 (fun c9 => ?_) (fun c9 => ?_)
                  · replace hb1 := cnd_t c9 hb1
                    refine goL ?_
                    cases hb1
                    exact ⟨rfl, ⟨⟨rfl, rfl⟩, trivial⟩, ⟨[], rfl⟩, rfl⟩
                  · replace hb1 := cnd_f c9 hb1
                    refine goL ?_
                    refine VO_case 37 (fun c10 => ?_) (fun c10 => ?_)
                    · replace hb1 := cnd_t c10 hb1
                      refine goL ?_
                      cases hb1
                      exact ⟨rfl, ⟨⟨rfl, rfl⟩, trivial⟩, ⟨[], rfl⟩, rfl⟩
                    · replace hb1 := cnd_f c10 hb1
                      refine goL ?_
                      refine VO_case 41 (fun c11 => ?_) (fun c11 => ?_)
                      · replace hb1 := cnd_t c11 hb1
                        refine goL ?_
                        cases hb1
                        exact ⟨rfl, ⟨⟨rfl, rfl⟩, trivial⟩, ⟨[], rfl⟩, rfl⟩
                      · replace hb1 := cnd_f c11 hb1
                        refine goL ?_
                        cases hb1
                        exact ⟨rfl, ⟨⟨rfl, rfl⟩, trivial⟩, ⟨[], rfl⟩, rfl⟩
        · replace hb1 := cnd_f c4 hb1
          refine goL ?_
          refine VO_case 21 (fun c12 => ?_) (fun c12 => ?_)
          · replace hb1 := cnd_t c12 hb1
            refine goL ?_
            cases hb1
            exact ⟨rfl, ⟨⟨rfl, rfl⟩, trivial⟩, ⟨[], rfl⟩, rfl⟩
          · replace hb1 := cnd_f c12 hb1
            refine goL ?_
            refine VO_case 25 (fun c13 => ?_) (fun c13 => ?_)
            · replace hb1 := cnd_t c13 hb1
              refine goL ?_
              cases hb1
              exact ⟨rfl, ⟨⟨rfl, rfl⟩, trivial⟩, ⟨[], rfl⟩, rfl⟩
            · replace hb1 := cnd_f c13 hb1
              refine goL ?_
              refine VO_case 29 (fun c14 => ?_) (fun c14 => ?_)
              · replace hb1 := cnd_t c14 hb1
                refine goL ?_
                cases hb1
                exact ⟨rfl, ⟨⟨rfl, rfl⟩, trivial⟩, ⟨[], rfl⟩, rfl⟩
              · replace hb1 := cnd_f c14 hb1
                refine goL ?_
                refine VO_case 33 (fun c15 => ?_) (fun c15 => ?_)
                · replace hb1 := cnd_t c15 hb1
                  refine goL ?_
                  cases hb1
                  exact ⟨rfl, ⟨⟨rfl, rfl⟩, trivial⟩, ⟨[], rfl⟩, rfl⟩
                · replace hb1 := cnd_f c15 hb1
                  refine goL ?_
                  refine VO_case 37 (fun c16 => ?_) (fun c16 => ?_)
                  · replace hb1 := cnd_t c16 hb1
                    refine goL ?_
                    cases hb1
                    exact ⟨rfl, ⟨⟨rfl, rfl⟩, trivial⟩, ⟨[], rfl⟩, rfl⟩
                  · replace hb1 := cnd_f c16 hb1
                    refine goL ?_
                    refine VO_case 41 (fun c17 => ?_) (fun c17 => ?_)
                    · replace hb1 := cnd_t c17 hb1
                      refine goL ?_
                      cases hb1
                      exact ⟨rfl, ⟨⟨rfl, rfl⟩, trivial⟩, ⟨[], rfl⟩, rfl⟩
                    · replace hb1 := cnd_f c17 hb1
                      refine goL ?_
                      cases hb1
                      exact ⟨rfl, ⟨⟨rfl, rfl⟩, trivial⟩, ⟨[], rfl⟩, rfl⟩
    · replace hb1 := cnd_f c2 hb1
      refine goL ?_
      refine VO_case 12 (fun c18 => ?_) (fun c18 => ?_)
      · replace hb1 := cnd_t c18 hb1
        refine goL ?_
        refine VO_case 17 (fun c19 => ?_) (fun c19 => ?_)
        · replace hb1 := cnd_t c19 hb1
          refine goL ?_
          cases hb1
          exact ⟨rfl, ⟨⟨rfl, rfl⟩, trivial⟩, ⟨[], rfl⟩, rfl⟩
        · replace hb1 := cnd_f c19 hb1
          refine goL ?_
          refine VO_case 21 (fun c20 => ?_) (fun c20 => ?_)
          · replace hb1 := cnd_t c20 hb1
            refine goL ?_
            cases hb1
            exact ⟨rfl, ⟨⟨rfl, rfl⟩, trivial⟩, ⟨[], rfl⟩, rfl⟩
          · replace hb1 := cnd_f c20 hb1
            refine goL ?_
            refine VO_case 25 (fun c21 => ?_) (fun c21 => ?_)
            · replace hb1 := cnd_t c21 hb1
              refine goL ?_
              cases hb1
              exact ⟨rfl, ⟨⟨rfl, rfl⟩, trivial⟩, ⟨[], rfl⟩, rfl⟩
            · replace hb1 := cnd_f c21 hb1
              refine goL ?_
              refine VO_case 29 (fun c22 => ?_) (fun c22 => ?_)
              · replace hb1 := cnd_t c22 hb1
                refine goL ?_
                cases hb1
                exact ⟨rfl, ⟨⟨rfl, rfl⟩, trivial⟩, ⟨[], rfl⟩, rfl⟩
              · replace hb1 := cnd_f c22 hb1
                refine goL ?_
                refine VO_case 33 (fun c23 => ?_) (fun c23 => ?_)
                · replace hb1 := cnd_t c23 hb1
                  refine goL ?_
                  cases hb1
                  exact ⟨rfl, ⟨⟨rfl, rfl⟩, trivial⟩, ⟨[], rfl⟩, rfl⟩
                · replace hb1 := cnd_f c23 hb1
                  refine goL ?_
                  refine VO_case 37 (fun c24 => ?_) (fun c24 => ?_)
                  · replace hb1 := cnd_t c24 hb1
                    refine goL ?_
                    cases hb1
                    exact ⟨rfl, ⟨⟨rfl, rfl⟩, trivial⟩, ⟨[], rfl⟩, rfl⟩
                  · replace hb1 := cnd_f c24 hb1
                    refine goL ?_
                    refine VO_case 41 (fun c25 => ?_) (fun c25 => ?_)
                    · replace hb1 := cnd_t c25 hb1
                      refine goL ?_
                      cases hb1
                      exact ⟨rfl, ⟨⟨rfl, rfl⟩, trivial⟩, ⟨[], rfl⟩, rfl⟩
                    · replace hb1 := cnd_f c25 hb1
                      refine goL ?_
                      cases hb1
                      exact ⟨rfl, ⟨⟨rfl, rfl⟩, trivial⟩, ⟨[], rfl⟩, rfl⟩
      · replace hb1 := cnd_f c18 hb1
        refine goL ?_
        refine VO_case 21 (fun c26 => ?_) (fun c26 => ?_)
        · replace hb1 := cnd_t c26 hb1
          refine goL ?_
          cases hb1
          exact ⟨rfl, ⟨⟨rfl, rfl⟩, trivial⟩, ⟨[], rfl⟩, rfl⟩
        · replace hb1 := cnd_f c26 hb1
          refine goL ?_
          refine VO_case 25 (fun c27 => ?_) (fun c27 => ?_)
          · replace hb1 := cnd_t c27 hb1
            refine goL ?_
            cases hb1
            exact ⟨rfl, ⟨⟨rfl, rfl⟩, trivial⟩, ⟨[], rfl⟩, rfl⟩
          · replace hb1 := cnd_f c27 hb1
            refine goL ?_
            refine VO_case 29 (fun c28 => ?_) (fun c28 => ?_)
            · replace hb1 := cnd_t c28 hb1
              refine goL ?_
              cases hb1
              exact ⟨rfl, ⟨⟨rfl, rfl⟩, trivial⟩, ⟨[], rfl⟩, rfl⟩
            · replace hb1 := cnd_f c28 hb1
              refine goL ?_
              refine VO_case 33 (fun c29 => ?_) (fun c29 => ?_)
              · replace hb1 := cnd_t c29 hb1
                refine goL ?_
                cases hb1
                exact ⟨rfl, ⟨⟨rfl, rfl⟩, trivial⟩, ⟨[], rfl⟩, rfl⟩
              · replace hb1 := cnd_f c29 hb1
                refine goL ?_
                refine VO_case 37 (fun c30 => ?_) (fun c30 => ?_)
                · replace hb1 := cnd_t c30 hb1
                  refine goL ?_
                  cases hb1
                  exact ⟨rfl, ⟨⟨rfl, rfl⟩, trivial⟩, ⟨[], rfl⟩, rfl⟩
                · replace hb1 := cnd_f c30 hb1
                  refine goL ?_
                  refine VO_case 41 (fun c31 => ?_) (fun c31 => ?_)
                  · replace hb1 := cnd_t c31 hb1
                    refine goL ?_
                    cases hb1
                    exact ⟨rfl, ⟨⟨rfl, rfl⟩, trivial⟩, ⟨[], rfl⟩, rfl⟩
                  · replace hb1 := cnd_f c31 hb1
                    refine goL ?_
                    cases hb1
                    exact ⟨rfl, ⟨⟨rfl, rfl⟩, trivial⟩, ⟨[], rfl⟩, rfl⟩
  refine goL ?_
  refine V_ret ?_
  subst h
  exact R_rP
def b_sValidAtom_l1 (a0 : List UInt8) : List UInt8 → Bool
  | [] => (b_l1In (a0.length : Int) 1 12)
  | x4 :: xs => (cnd (!(b_sByte (x4.toNat : Int))) (
false) (
b_sValidAtom_l1 a0 xs ))
def b_sValidAtom (a0 : List UInt8) : Bool :=
b_sValidAtom_l1 a0 a0 
set_option maxHeartbeats 4000000 in
theorem w_sValidAtom (a0 : List UInt8) : SpecP Tryz.prog 109 [.d (.s a0)] [.b (b_sValidAtom a0)] := by
  obtain ⟨r, h⟩ : ∃ r, b_sValidAtom a0 = r := ⟨_, rfl⟩
  rw [h]
  unfold b_sValidAtom at h
  refine SpecP_intro Tryz.func109 rfl (by kernel_rfl) rfl fun A _ => ?_
  refine goL ?_
  refine V_block ?_
  show V _ _ _ _ _
  refine V_bdS 0 (fun z2 => ?_)
  refine V_loop1 (fun (y1 : Nat) => ⟨[(0, .d (.s a0)), (3, .d (.i .i64 (y1 : Int)))], [], Tryz.f109.ntmps⟩) (fun y1 => b_sValidAtom_l1 a0 (a0.drop y1)  = r) (fun y1 => a0.length - y1) 0 ⟨rfl, ⟨⟨rfl, rfl⟩, ⟨rfl, rfl⟩, trivial⟩, ⟨[], rfl⟩, rfl⟩ h ?_
  rintro y1 h
  refine goL ?_
  refine V_cb (fun c3 => ?_) (fun c3 => ?_)
  · have hky12 := kltS c3
    obtain ⟨x4, hx4, hdx4⟩ := drop_at hky12
    rw [hdx4, b_sValidAtom_l1.eq_2] at h
    refine V_skip ?_
    show V _ _ _ _ _
    refine V_seq (V_block ?_)
    refine goL ?_
    refine VO_r (QR_sixn y1 hx4) ?_
    refine VO_r (QR_call (w_sByte (x4.toNat : Int))) ?_
    refine goL ?_
    refine V_cb (fun c5 => ?_) (fun c5 => ?_)
    · replace h := cnd_t c5 h
      refine goL ?_
      refine V_ret ?_
      subst h
      exact R_rP
    · replace h := cnd_f c5 h
      refine V_skip ?_
      show V _ _ _ _ _
      refine goL ?_
      refine VO_r (QR_inc y1 (by omega)) ?_
      refine goL ?_
      exact ⟨(y1 + 1), h, by omega, ⟨rfl, ⟨⟨rfl, rfl⟩, ⟨rfl, rfl⟩, trivial⟩, ⟨_, rfl⟩, rfl⟩⟩
  · have hky12 := kgeS c3
    rw [drop_end hky12, b_sValidAtom_l1.eq_1] at h
    refine V_exit ?_
    show V _ _ _ _ _
    refine goL ?_
    refine VO_r (QR_call (w_l1In (a0.length : Int) 1 12)) ?_
    refine goL ?_
    refine V_ret ?_
    subst h
    exact R_rP
def b_l2Left_l1 (rec_l2Left : TSExpr → Int → Option (Int)) (a0 : TSExpr) : Nat → Int → Int → Option (Int)
  | 0, y1, y2 => none
  | n3 + 1, y1, y2 => lt_ ((cnd (decide (y2 < (a0.list.length : Int))) ((decide (y1 ≥ 0))) (false))) fun b4 =>
(cnd b4 (
bnd (at? a0.list y2) fun x7 =>
bnd (rec_l2Left x7 y1) fun x8 =>
b_l2Left_l1 rec_l2Left a0 n3 x8 (IntKind.i64.wrap (y2 + 1))) (
(some y1)))
def b_l2Left (rec_l2Left : TSExpr → Int → Option (Int)) (a0 : TSExpr) (a1 : Int) (n0 : Nat) : Option (Int) :=
b_l2Left_l1 rec_l2Left a0 n0 (IntKind.i64.wrap (a1 - 1)) 0
set_option maxHeartbeats 4000000 in
theorem w_l2Left {rec_l2Left : TSExpr → Int → Option (Int)} (hrec_l2Left : ∀ (x0 : TSExpr) (x1 : Int) {r : Int}, rec_l2Left x0 x1 = some r → SpecP Tryz.prog 88 [.d (eSExpr x0), .d (.i .i64 x1)] [.i .i64 r]) (a0 : TSExpr) (a1 : Int) {n0 : Nat} {r : Int} (h : b_l2Left rec_l2Left a0 a1 n0 = some r) : SpecP Tryz.prog 88 [.d (eSExpr a0), .d (.i .i64 a1)] [.i .i64 r] := by
  obtain ⟨a0_0, a0_1⟩ := a0
  unfold b_l2Left at h
  refine SpecP_intro Tryz.func88 rfl (by kernel_rfl) rfl fun A _ => ?_
  refine goL ?_
  refine VO_r (QR_ar) ?_
  refine goL ?_
  refine V_block ?_
  show V _ _ _ _ _
  refine V_loop3 (fun (n3 : Nat) (y1 : Int) (y2 : Int) => ⟨[(1, .d (.i .i64 y1)), (2, .ptr 0 0), (5, .d (.i .i64 y2))], [.box [.d (.s a0_0), .d (.sl 2 (eSExprs a0_1))]], Tryz.f88.ntmps⟩) (fun n3 y1 y2 => b_l2Left_l1 rec_l2Left (TSExpr.mk a0_0 a0_1) n3 y1 y2 = some r) (fun n3 y1 y2 => n3) n0 (IntKind.i64.wrap (a1 - 1)) 0 ⟨rfl, ⟨⟨rfl, rfl⟩, ⟨rfl, rfl⟩, ⟨rfl, rfl⟩, trivial⟩, ⟨[], rfl⟩, rfl⟩ h ?_
  rintro n3 y1 y2 h
  rcases n3 with _ | n3
  · cases h
  rw [b_l2Left_l1.eq_2] at h
  refine goL ?_
  obtain ⟨b4, hb4, h⟩ := lt_x h
  refine VO_join ⟨[(1, .d (.i .i64 y1)), (2, .ptr 0 0), (5, .d (.i .i64 y2)), (16, .d (.b b4))], [.box [.d (.s a0_0), .d (.sl 2 (eSExprs a0_1))]], Tryz.f88.ntmps⟩ ?_ ?_
  · refine VO_case 13 (fun c5 => ?_) (fun c5 => ?_)
    · replace hb4 := cnd_t c5 hb4
      refine goL ?_
      cases hb4
      exact ⟨rfl, ⟨⟨rfl, rfl⟩, ⟨rfl, rfl⟩, ⟨rfl, rfl⟩, ⟨rfl, rfl⟩, trivial⟩, ⟨[], rfl⟩, rfl⟩
    · replace hb4 := cnd_f c5 hb4
      refine goL ?_
      cases hb4
      exact ⟨rfl, ⟨⟨rfl, rfl⟩, ⟨rfl, rfl⟩, ⟨rfl, rfl⟩, ⟨rfl, rfl⟩, trivial⟩, ⟨[], rfl⟩, rfl⟩
  refine goL ?_
  refine V_cb (fun c6 => ?_) (fun c6 => ?_)
  · replace h := cnd_t c6 h
    refine V_skip ?_
    show V _ _ _ _ _
    refine V_seq (V_block ?_)
    refine goL ?_
    obtain ⟨x7, hx7, h⟩ := bnd_s h
    obtain ⟨hx70, hx7⟩ := at_s hx7
    obtain ⟨x7_0, x7_1⟩ := x7
    refine VO_r (QR_ixi hx70 (gSExpr hx7)) ?_
    refine goL ?_
    obtain ⟨x8, hx8, h⟩ := bnd_s h
    refine VO_r (QR_call (hrec_l2Left (TSExpr.mk x7_0 x7_1) y1 hx8)) ?_
    refine goL ?_
    refine VO_r (QR_ar) ?_
    refine goL ?_
    exact ⟨n3, x8, (IntKind.i64.wrap (y2 + 1)), h, Nat.lt_succ_self _, ⟨rfl, ⟨⟨rfl, rfl⟩, ⟨rfl, rfl⟩, ⟨rfl, rfl⟩, trivial⟩, ⟨_, rfl⟩, rfl⟩⟩
  · replace h := cnd_f c6 h
    refine V_exit ?_
    show V _ _ _ _ _
    refine goL ?_
    refine V_ret ?_
    replace h := Option.some.inj h
    subst h
    exact R_rP
def m_l2Left : Nat → TSExpr → Int → Option (Int)
  | 0, _, _ => none
  | n + 1, x0, x1 => b_l2Left (m_l2Left n) x0 x1 n
theorem s_l2Left : ∀ (n : Nat) (x0 : TSExpr) (x1 : Int) {r : Int}, m_l2Left n x0 x1 = some r → SpecP Tryz.prog 88 [.d (eSExpr x0), .d (.i .i64 x1)] [.i .i64 r] := by
  intro n
  induction n with
  | zero => intro x0 x1 r h; cases h
  | succ n ih => intro x0 x1 r h; exact w_l2Left ih x0 x1 h
def b_l2Form_l1 (rec_l2Form : TSExpr → Option (Bool)) : List TSExpr → Option (Bool)
  | [] => (some true)
  | x7 :: xs => bnd (rec_l2Form x7) fun x8 =>
(cnd (!x8) (
(some false)) (
b_l2Form_l1 rec_l2Form xs ))
def b_l2Form (rec_l2Form : TSExpr → Option (Bool)) (a0 : TSExpr) : Option (Bool) :=
(cnd (!(a0.atom == [])) (
lt_ ((cnd (b_sValidAtom a0.atom) (((a0.list.length : Int) == 0)) (false))) fun b2 =>
(some b2)) (
b_l2Form_l1 rec_l2Form a0.list ))
set_option maxHeartbeats 4000000 in
theorem w_l2Form {rec_l2Form : TSExpr → Option (Bool)} (hrec_l2Form : ∀ (x0 : TSExpr) {r : Bool}, rec_l2Form x0 = some r → SpecP Tryz.prog 89 [.d (eSExpr x0)] [.b r]) (a0 : TSExpr) {r : Bool} (h : b_l2Form rec_l2Form a0 = some r) : SpecP Tryz.prog 89 [.d (eSExpr a0)] [.b r] := by
  obtain ⟨a0_0, a0_1⟩ := a0
  unfold b_l2Form at h
  refine SpecP_intro Tryz.func89 rfl (by kernel_rfl) rfl fun A _ => ?_
  refine goL ?_
  refine V_cb (fun c1 => ?_) (fun c1 => ?_)
  · replace h := cnd_t c1 h
    refine goL ?_
    refine VO_r (QR_call (w_sValidAtom a0_0)) ?_
    refine goL ?_
    obtain ⟨b2, hb2, h⟩ := lt_x h
    refine VO_join ⟨[(2, .d (.b b2))], [.box [.d (.s a0_0), .d (.sl 2 (eSExprs a0_1))]], Tryz.f89.ntmps⟩ ?_ ?_
    · refine VO_case 10 (fun c3 => ?_) (fun c3 => ?_)
      · replace hb2 := cnd_t c3 hb2
        refine goL ?_
        cases hb2
        exact ⟨rfl, ⟨⟨rfl, rfl⟩, trivial⟩, ⟨[], rfl⟩, rfl⟩
      · replace hb2 := cnd_f c3 hb2
        refine goL ?_
        cases hb2
        exact ⟨rfl, ⟨⟨rfl, rfl⟩, trivial⟩, ⟨[], rfl⟩, rfl⟩
    refine goL ?_
    refine V_ret ?_
    replace h := Option.some.inj h
    subst h
    exact R_rP
  · replace h := cnd_f c1 h
    refine V_skip ?_
    show V _ _ _ _ _
    refine goL ?_
    refine V_block ?_
    show V _ _ _ _ _
    refine V_bdc 0 1 (fun z5 => ?_)
    refine V_loop1 (fun (y4 : Nat) => ⟨[(1, .ptr 0 0), (3, .d (.i .i64 (y4 : Int)))], [.box [.d (.s a0_0), .d (.sl 2 (eSExprs a0_1))]], Tryz.f89.ntmps⟩) (fun y4 => b_l2Form_l1 rec_l2Form (a0_1.drop y4)  = some r) (fun y4 => a0_1.length - y4) 0 ⟨rfl, ⟨⟨rfl, rfl⟩, ⟨rfl, rfl⟩, trivial⟩, ⟨[], rfl⟩, rfl⟩ h ?_
    rintro y4 h
    refine goL ?_
    refine V_cb (fun c6 => ?_) (fun c6 => ?_)
    · have hky42 := kltN c6
      obtain ⟨x7, hx7, hdx7⟩ := drop_at hky42
      rw [hdx7, b_l2Form_l1.eq_2] at h
      obtain ⟨x7_0, x7_1⟩ := x7
      refine V_skip ?_
      show V _ _ _ _ _
      refine V_seq (V_block ?_)
      refine goL ?_
      refine VO_r (QR_ixn y4 (gSExpr hx7)) ?_
      refine goL ?_
      obtain ⟨x8, hx8, h⟩ := bnd_s h
      refine VO_r (QR_call (hrec_l2Form (TSExpr.mk x7_0 x7_1) hx8)) ?_
      refine goL ?_
      refine V_cb (fun c9 => ?_) (fun c9 => ?_)
      · replace h := cnd_t c9 h
        refine goL ?_
        refine V_ret ?_
        replace h := Option.some.inj h
        subst h
        exact R_rP
      · replace h := cnd_f c9 h
        refine V_skip ?_
        show V _ _ _ _ _
        refine goL ?_
        refine VO_r (QR_inc y4 (by omega)) ?_
        refine goL ?_
        exact ⟨(y4 + 1), h, by omega, ⟨rfl, ⟨⟨rfl, rfl⟩, ⟨rfl, rfl⟩, trivial⟩, ⟨_, rfl⟩, rfl⟩⟩
    · have hky42 := kgeN c6
      rw [drop_end hky42, b_l2Form_l1.eq_1] at h
      refine V_exit ?_
      show V _ _ _ _ _
      refine goL ?_
      refine V_ret ?_
      replace h := Option.some.inj h
      subst h
      exact R_rP
def m_l2Form : Nat → TSExpr → Option (Bool)
  | 0, _ => none
  | n + 1, x0 => b_l2Form (m_l2Form n) x0
theorem s_l2Form : ∀ (n : Nat) (x0 : TSExpr) {r : Bool}, m_l2Form n x0 = some r → SpecP Tryz.prog 89 [.d (eSExpr x0)] [.b r] := by
  intro n
  induction n with
  | zero => intro x0 r h; cases h
  | succ n ih => intro x0 r h; exact w_l2Form ih x0 h
def b_sXDepth_l1 (rec_sXDepth : TSExpr → Option (Int)) : List TSExpr → Int → Option (Int)
  | [], y2 => (some (IntKind.i64.wrap (y2 + 1)))
  | x6 :: xs, y2 => bnd (rec_sXDepth x6) fun x7 =>
b_sXDepth_l1 rec_sXDepth xs (b_l1Max y2 x7)
def b_sXDepth (rec_sXDepth : TSExpr → Option (Int)) (a0 : TSExpr) : Option (Int) :=
(cnd (!(a0.atom == [])) (
(some 0)) (
b_sXDepth_l1 rec_sXDepth a0.list 0))
set_option maxHeartbeats 4000000 in
theorem w_sXDepth {rec_sXDepth : TSExpr → Option (Int)} (hrec_sXDepth : ∀ (x0 : TSExpr) {r : Int}, rec_sXDepth x0 = some r → SpecP Tryz.prog 90 [.d (eSExpr x0)] [.i .i64 r]) (a0 : TSExpr) {r : Int} (h : b_sXDepth rec_sXDepth a0 = some r) : SpecP Tryz.prog 90 [.d (eSExpr a0)] [.i .i64 r] := by
  obtain ⟨a0_0, a0_1⟩ := a0
  unfold b_sXDepth at h
  refine SpecP_intro Tryz.func90 rfl (by kernel_rfl) rfl fun A _ => ?_
  refine goL ?_
  refine V_cb (fun c1 => ?_) (fun c1 => ?_)
  · replace h := cnd_t c1 h
    refine goL ?_
    refine V_ret ?_
    replace h := Option.some.inj h
    subst h
    exact R_rP
  · replace h := cnd_f c1 h
    refine V_skip ?_
    show V _ _ _ _ _
    refine goL ?_
    refine V_block ?_
    show V _ _ _ _ _
    refine V_bdc 0 1 (fun z4 => ?_)
    refine V_loop2 (fun (y3 : Nat) (y2 : Int) => ⟨[(1, .ptr 0 0), (3, .d (.i .i64 y2)), (4, .d (.i .i64 (y3 : Int)))], [.box [.d (.s a0_0), .d (.sl 2 (eSExprs a0_1))]], Tryz.f90.ntmps⟩) (fun y3 y2 => b_sXDepth_l1 rec_sXDepth (a0_1.drop y3) y2 = some r) (fun y3 y2 => a0_1.length - y3) 0 0 ⟨rfl, ⟨⟨rfl, rfl⟩, ⟨rfl, rfl⟩, ⟨rfl, rfl⟩, trivial⟩, ⟨[], rfl⟩, rfl⟩ h ?_
    rintro y3 y2 h
    refine goL ?_
    refine V_cb (fun c5 => ?_) (fun c5 => ?_)
    · have hky32 := kltN c5
      obtain ⟨x6, hx6, hdx6⟩ := drop_at hky32
      rw [hdx6, b_sXDepth_l1.eq_2] at h
      obtain ⟨x6_0, x6_1⟩ := x6
      refine V_skip ?_
      show V _ _ _ _ _
      refine V_seq (V_block ?_)
      refine goL ?_
      refine VO_r (QR_ixn y3 (gSExpr hx6)) ?_
      refine goL ?_
      obtain ⟨x7, hx7, h⟩ := bnd_s h
      refine VO_r (QR_call (hrec_sXDepth (TSExpr.mk x6_0 x6_1) hx7)) ?_
      refine VO_r (QR_call (w_l1Max y2 x7)) ?_
      refine goL ?_
      refine VO_r (QR_inc y3 (by omega)) ?_
      refine goL ?_
      exact ⟨(y3 + 1), (b_l1Max y2 x7), h, by omega, ⟨rfl, ⟨⟨rfl, rfl⟩, ⟨rfl, rfl⟩, ⟨rfl, rfl⟩, trivial⟩, ⟨_, rfl⟩, rfl⟩⟩
    · have hky32 := kgeN c5
      rw [drop_end hky32, b_sXDepth_l1.eq_1] at h
      refine V_exit ?_
      show V _ _ _ _ _
      refine goL ?_
      refine VO_r (QR_ar) ?_
      refine goL ?_
      refine V_ret ?_
      replace h := Option.some.inj h
      subst h
      exact R_rP
def m_sXDepth : Nat → TSExpr → Option (Int)
  | 0, _ => none
  | n + 1, x0 => b_sXDepth (m_sXDepth n) x0
theorem s_sXDepth : ∀ (n : Nat) (x0 : TSExpr) {r : Int}, m_sXDepth n x0 = some r → SpecP Tryz.prog 90 [.d (eSExpr x0)] [.i .i64 r] := by
  intro n
  induction n with
  | zero => intro x0 r h; cases h
  | succ n ih => intro x0 r h; exact w_sXDepth ih x0 h
def b_sValidX (a0 : TSExpr) : Option (Bool) :=
bnd (m_l2Left 5000 a0 900) fun x1 =>
bnd ((cnd (decide (x1 ≥ 0)) (bnd (m_l2Form 5000 a0) fun x4 =>
(cnd x4 (bnd (m_sXDepth 5000 a0) fun x6 =>
(some (decide (x6 ≤ 14)))) ((some false)))) ((some false)))) fun b2 =>
(some b2)
set_option maxHeartbeats 4000000 in
theorem w_sValidX (a0 : TSExpr) {r : Bool} (h : b_sValidX a0 = some r) : SpecP Tryz.prog 64 [.d (eSExpr a0)] [.b r] := by
  obtain ⟨a0_0, a0_1⟩ := a0
  unfold b_sValidX at h
  refine SpecP_intro Tryz.func64 rfl (by kernel_rfl) rfl fun A _ => ?_
  refine goL ?_
  obtain ⟨x1, hx1, h⟩ := bnd_s h
  refine VO_r (QR_call (s_l2Left 5000 (TSExpr.mk a0_0 a0_1) 900 hx1)) ?_
  refine goL ?_
  obtain ⟨b2, hb2, h⟩ := bnd_s h
  refine VO_join ⟨[(2, .d (.b b2))], [.box [.d (.s a0_0), .d (.sl 2 (eSExprs a0_1))]], Tryz.f64.ntmps⟩ ?_ ?_
  · refine VO_case 6 (fun c3 => ?_) (fun c3 => ?_)
    · replace hb2 := cnd_t c3 hb2
      refine goL ?_
      refine VO_b ?_
      obtain ⟨x4, hx4, hb2⟩ := bnd_s hb2
      refine VO_r (QR_call (s_l2Form 5000 (TSExpr.mk a0_0 a0_1) hx4)) ?_
      refine goL ?_
      refine VO_case 10 (fun c5 => ?_) (fun c5 => ?_)
      · replace hb2 := cnd_t c5 hb2
        refine goL ?_
        refine VO_b ?_
        obtain ⟨x6, hx6, hb2⟩ := bnd_s hb2
        refine VO_r (QR_call (s_sXDepth 5000 (TSExpr.mk a0_0 a0_1) hx6)) ?_
        refine goL ?_
        cases hb2
        exact ⟨rfl, ⟨⟨rfl, rfl⟩, trivial⟩, ⟨[], rfl⟩, rfl⟩
      · replace hb2 := cnd_f c5 hb2
        refine goL ?_
        cases hb2
        exact ⟨rfl, ⟨⟨rfl, rfl⟩, trivial⟩, ⟨[], rfl⟩, rfl⟩
    · replace hb2 := cnd_f c3 hb2
      refine goL ?_
      cases hb2
      exact ⟨rfl, ⟨⟨rfl, rfl⟩, trivial⟩, ⟨[], rfl⟩, rfl⟩
  refine goL ?_
  refine V_ret ?_
  replace h := Option.some.inj h
  subst h
  exact R_rP
end Go.Proofs.YtgmlpaaklnkghaaGreat
