/- HasInferenceVariable of the program and of the reference: the walks. Written by a program of mine (aw.py). -/
import Derived.Test.YtbloknibekeedaaFacts
import Derived.Test.YtbloknibekeedaaEng38
set_option linter.unusedVariables false
set_option linter.unusedSimpArgs false
namespace Go.Proofs.Ytbloknibekeedaa
open Go Go.Eng
attribute [local irreducible] V VO VQ VY Quiet QR SpecP SpecO MSpec Rng PostP PostO PostG

def b_isDigit (a0 : Int) : Bool :=
lt_ ((cnd (decide (a0 ≥ 48)) ((decide (a0 ≤ 57))) (false))) fun b1 =>
b1
set_option maxHeartbeats 4000000 in
theorem w_isDigit (a0 : Int) : SpecP Try.prog 104 [.d (.i .u8 a0)] [.b (b_isDigit a0)] := by
  obtain ⟨r, h⟩ : ∃ r, b_isDigit a0 = r := ⟨_, rfl⟩
  rw [h]
  unfold b_isDigit at h
  refine SpecP_intro Try.func104 rfl (by kernel_rfl) rfl fun A _ => ?_
  refine go ?_
  obtain ⟨b1, hb1, h⟩ := lt_x h
  refine VO_join ⟨[(2, .d (.b b1))], [], Try.f104.ntmps⟩ ?_ ?_
  · refine VO_case 5 (fun c2 => ?_) (fun c2 => ?_)
    · replace hb1 := cnd_t c2 hb1
      refine go ?_
      cases hb1
      exact ⟨rfl, ⟨⟨rfl, rfl⟩, trivial⟩, ⟨[], rfl⟩, rfl⟩
    · replace hb1 := cnd_f c2 hb1
      refine go ?_
      cases hb1
      exact ⟨rfl, ⟨⟨rfl, rfl⟩, trivial⟩, ⟨[], rfl⟩, rfl⟩
  refine go ?_
  refine V_ret ?_
  subst h
  exact R_rP
def b_isInference_l1 : List UInt8 → Option (Bool)
  | [] => (some true)
  | x11 :: xs => (cnd (!(b_isDigit (x11.toNat : Int))) (
(some false)) (
b_isInference_l1 xs ))
def b_isInference (a0 : List UInt8) : Option (Bool) :=
bnd ((cnd (decide ((a0.length : Int) < 2)) ((some true)) (bnd (at? a0 0) fun x3 =>
(cnd ((x3.toNat : Int) != 63) ((some true)) ((cnd (decide ((a0.length : Int) > 2)) (bnd (at? a0 1) fun x6 =>
(some ((x6.toNat : Int) == 48))) ((some false)))))))) fun b1 =>
(cnd b1 (
(some false)) (
b_isInference_l1 (a0.drop 1) ))
set_option maxHeartbeats 4000000 in
theorem w_isInference (a0 : List UInt8) {r : Bool} (h : b_isInference a0 = some r) : SpecP Try.prog 44 [.d (.s a0)] [.b r] := by
  unfold b_isInference at h
  refine SpecP_intro Try.func44 rfl (by kernel_rfl) rfl fun A _ => ?_
  refine go ?_
  obtain ⟨b1, hb1, h⟩ := bnd_s h
  refine VO_join ⟨[(0, .d (.s a0)), (21, .d (.b b1))], [], Try.f44.ntmps⟩ ?_ ?_
  · refine VO_case 7 (fun c2 => ?_) (fun c2 => ?_)
    · replace hb1 := cnd_t c2 hb1
      refine go ?_
      cases hb1
      exact ⟨rfl, ⟨⟨rfl, rfl⟩, ⟨rfl, rfl⟩, trivial⟩, ⟨[], rfl⟩, rfl⟩
    · replace hb1 := cnd_f c2 hb1
      refine go ?_
      refine VO_b ?_
      obtain ⟨x3, hx3, hb1⟩ := bnd_s hb1
      obtain ⟨hx30, hx3⟩ := at_s hx3
      refine VO_r (QR_six hx30 hx3) ?_
      refine go ?_
      refine VO_case 12 (fun c4 => ?_) (fun c4 => ?_)
      · replace hb1 := cnd_t c4 hb1
        refine go ?_
        cases hb1
        exact ⟨rfl, ⟨⟨rfl, rfl⟩, ⟨rfl, rfl⟩, trivial⟩, ⟨[], rfl⟩, rfl⟩
      · replace hb1 := cnd_f c4 hb1
        refine go ?_
        refine VO_case 16 (fun c5 => ?_) (fun c5 => ?_)
        · replace hb1 := cnd_t c5 hb1
          refine go ?_
          refine VO_b ?_
          obtain ⟨x6, hx6, hb1⟩ := bnd_s hb1
          obtain ⟨hx60, hx6⟩ := at_s hx6
          refine VO_r (QR_six hx60 hx6) ?_
          refine go ?_
          cases hb1
          exact ⟨rfl, ⟨⟨rfl, rfl⟩, ⟨rfl, rfl⟩, trivial⟩, ⟨[], rfl⟩, rfl⟩
        · replace hb1 := cnd_f c5 hb1
          refine go ?_
          cases hb1
          exact ⟨rfl, ⟨⟨rfl, rfl⟩, ⟨rfl, rfl⟩, trivial⟩, ⟨[], rfl⟩, rfl⟩
  refine go ?_
  refine V_cb (fun c7 => ?_) (fun c7 => ?_)
  · replace h := cnd_t c7 h
    refine go ?_
    refine V_ret ?_
    replace h := Option.some.inj h
    subst h
    exact R_rP
  · replace h := cnd_f c7 h
    refine V_skip ?_
    show V _ _ _ _ _
    refine go ?_
    refine V_block ?_
    show V _ _ _ _ _
    refine V_bdS 0 (fun z9 => ?_)
    refine V_loop1 (fun (y8 : Nat) => ⟨[(0, .d (.s a0)), (3, .d (.i .i64 (y8 : Int)))], [], Try.f44.ntmps⟩) (fun y8 => b_isInference_l1 (a0.drop y8)  = some r) (fun y8 => a0.length - y8) 1 ⟨rfl, ⟨⟨rfl, rfl⟩, ⟨rfl, rfl⟩, trivial⟩, ⟨[], rfl⟩, rfl⟩ h ?_
    rintro y8 h
    refine go ?_
    refine V_cb (fun c10 => ?_) (fun c10 => ?_)
    · have hky82 := kltS c10
      obtain ⟨x11, hx11, hdx11⟩ := drop_at hky82
      rw [hdx11, b_isInference_l1.eq_2] at h
      refine V_skip ?_
      show V _ _ _ _ _
      refine V_seq (V_block ?_)
      refine go ?_
      refine VO_r (QR_sixn y8 hx11) ?_
      refine VO_r (QR_call (w_isDigit (x11.toNat : Int))) ?_
      refine go ?_
      refine V_cb (fun c12 => ?_) (fun c12 => ?_)
      · replace h := cnd_t c12 h
        refine go ?_
        refine V_ret ?_
        replace h := Option.some.inj h
        subst h
        exact R_rP
      · replace h := cnd_f c12 h
        refine V_skip ?_
        show V _ _ _ _ _
        refine go ?_
        refine VO_r (QR_inc y8 (by omega)) ?_
        refine go ?_
        exact ⟨(y8 + 1), h, by omega, ⟨rfl, ⟨⟨rfl, rfl⟩, ⟨rfl, rfl⟩, trivial⟩, ⟨_, rfl⟩, rfl⟩⟩
    · have hky82 := kgeS c10
      rw [drop_end hky82, b_isInference_l1.eq_1] at h
      refine V_exit ?_
      show V _ _ _ _ _
      refine go ?_
      refine V_ret ?_
      replace h := Option.some.inj h
      subst h
      exact R_rP
def b_IndexS_l1 (a1 : List UInt8) : List (List UInt8) → Nat → Int
  | [], y1 => (-1)
  | x4 :: xs, y1 => (cnd (a1 == x4) (
(y1 : Int)) (
b_IndexS_l1 a1 xs (y1 + 1)))
def b_IndexS (a0 : List (List UInt8)) (a1 : List UInt8) : Int :=
b_IndexS_l1 a1 a0 0
set_option maxHeartbeats 4000000 in
theorem w_IndexS (a0 : List (List UInt8)) (a1 : List UInt8) : SpecP Try.prog 154 [.d (.sl 1 (eStrs a0)), .d (.s a1)] [.i .i64 (b_IndexS a0 a1)] := by
  obtain ⟨r, h⟩ : ∃ r, b_IndexS a0 a1 = r := ⟨_, rfl⟩
  rw [h]
  unfold b_IndexS at h
  refine SpecP_intro Try.func154 rfl (by kernel_rfl) rfl fun A _ => ?_
  refine go ?_
  refine V_block ?_
  show V _ _ _ _ _
  refine V_bd 0 (fun z2 => ?_)
  refine V_loop1 (fun (y1 : Nat) => ⟨[(0, .d (.sl 1 (eStrs a0))), (1, .d (.s a1)), (7, .d (.i .i64 (a0.length : Int))), (8, .d (.i .i64 (y1 : Int)))], [], Try.f154.ntmps⟩) (fun y1 => b_IndexS_l1 a1 (a0.drop y1) y1 = r) (fun y1 => a0.length - y1) 0 ⟨rfl, ⟨⟨rfl, rfl⟩, ⟨rfl, rfl⟩, ⟨rfl, rfl⟩, ⟨rfl, rfl⟩, trivial⟩, ⟨[], rfl⟩, rfl⟩ h ?_
  rintro y1 h
  refine go ?_
  refine V_seq (V_cb (fun c3 => ?_) (fun c3 => ?_))
  · have hky12 := kltN c3
    obtain ⟨x4, hx4, hdx4⟩ := drop_at hky12
    rw [hdx4, b_IndexS_l1.eq_2] at h
    refine V_skip ?_
    show V _ _ _ _ _
    refine V_seq (V_block ?_)
    refine go ?_
    refine VO_r (QR_ixn y1 (gStr hx4)) ?_
    refine go ?_
    refine V_cb (fun c5 => ?_) (fun c5 => ?_)
    · replace h := cnd_t c5 h
      refine go ?_
      refine V_ret ?_
      subst h
      exact R_rP
    · replace h := cnd_f c5 h
      refine V_skip ?_
      show V _ _ _ _ _
      refine go ?_
      refine VO_r (QR_inc y1 (by omega)) ?_
      refine go ?_
      exact ⟨(y1 + 1), h, by omega, ⟨rfl, ⟨⟨rfl, rfl⟩, ⟨rfl, rfl⟩, ⟨rfl, rfl⟩, ⟨rfl, rfl⟩, trivial⟩, ⟨_, rfl⟩, rfl⟩⟩
  · have hky12 := kgeN c3
    rw [drop_end hky12, b_IndexS_l1.eq_1] at h
    refine V_exit ?_
    show V _ _ _ _ _
    refine go ?_
    refine V_ret ?_
    subst h
    exact R_rP
def b_ContainsS (a0 : List (List UInt8)) (a1 : List UInt8) : Bool :=
(decide ((b_IndexS a0 a1) ≥ 0))
set_option maxHeartbeats 4000000 in
theorem w_ContainsS (a0 : List (List UInt8)) (a1 : List UInt8) : SpecP Try.prog 114 [.d (.sl 1 (eStrs a0)), .d (.s a1)] [.b (b_ContainsS a0 a1)] := by
  obtain ⟨r, h⟩ : ∃ r, b_ContainsS a0 a1 = r := ⟨_, rfl⟩
  rw [h]
  unfold b_ContainsS at h
  refine SpecP_intro Try.func114 rfl (by kernel_rfl) rfl fun A _ => ?_
  refine go ?_
  refine VO_r (QR_call (w_IndexS a0 a1)) ?_
  refine go ?_
  refine V_ret ?_
  subst h
  exact R_rP
def b_IndexFuncS_l1 (a1 : (List UInt8) → Option Bool) : List (List UInt8) → Nat → Option (Int)
  | [], y1 => (some (-1))
  | x4 :: xs, y1 => bnd (a1 x4) fun x5 =>
(cnd x5 (
(some (y1 : Int))) (
b_IndexFuncS_l1 a1 xs (y1 + 1)))
def b_IndexFuncS (a0 : List (List UInt8)) (a1 : (List UInt8) → Option Bool) : Option (Int) :=
b_IndexFuncS_l1 a1 a0 0
set_option maxHeartbeats 4000000 in
theorem w_IndexFuncS (a0 : List (List UInt8)) {a1f : Nat} {a1c : List SV} {a1 : (List UInt8) → Option Bool} (a1_lt : ∀ n, SV.lts n a1c = true) (ha1 : ∀ (x0 : List UInt8) (r : Bool), a1 x0 = some r → SpecP Try.prog a1f ([.d (.s x0)] ++ a1c) [.b r]) {r : Int} (h : b_IndexFuncS a0 a1 = some r) : SpecP Try.prog 102 [.d (.sl 1 (eStrs a0)), .fn a1f a1c] [.i .i64 r] := by
  unfold b_IndexFuncS at h
  refine SpecP_intro Try.func102 rfl (by kernel_rfl) rfl fun A _ => ?_
  refine go ?_
  refine V_block ?_
  show V _ _ _ _ _
  refine V_bd 0 (fun z2 => ?_)
  refine V_loop1 (fun (y1 : Nat) => ⟨[(0, .d (.sl 1 (eStrs a0))), (1, .fn a1f a1c), (7, .d (.i .i64 (a0.length : Int))), (8, .d (.i .i64 (y1 : Int)))], [], Try.f102.ntmps⟩) (fun y1 => b_IndexFuncS_l1 a1 (a0.drop y1) y1 = some r) (fun y1 => a0.length - y1) 0 ⟨rfl, ⟨⟨rfl, rfl⟩, ⟨rfl, a1_lt _⟩, ⟨rfl, rfl⟩, ⟨rfl, rfl⟩, trivial⟩, ⟨[], rfl⟩, rfl⟩ h ?_
  rintro y1 h
  refine go ?_
  refine V_seq (V_cb (fun c3 => ?_) (fun c3 => ?_))
  · have hky12 := kltN c3
    obtain ⟨x4, hx4, hdx4⟩ := drop_at hky12
    rw [hdx4, b_IndexFuncS_l1.eq_2] at h
    refine V_skip ?_
    show V _ _ _ _ _
    refine V_seq (V_block ?_)
    refine go ?_
    refine VO_r (QR_ixn y1 (gStr hx4)) ?_
    refine go ?_
    obtain ⟨x5, hx5, h⟩ := bnd_s h
    refine VO_r (QR_callf (ha1 _ _ hx5) (a1_lt 0)) ?_
    refine go ?_
    refine V_cb (fun c6 => ?_) (fun c6 => ?_)
    · replace h := cnd_t c6 h
      refine go ?_
      refine V_ret ?_
      replace h := Option.some.inj h
      subst h
      exact R_rP
    · replace h := cnd_f c6 h
      refine V_skip ?_
      show V _ _ _ _ _
      refine go ?_
      refine VO_r (QR_inc y1 (by omega)) ?_
      refine go ?_
      exact ⟨(y1 + 1), h, by omega, ⟨rfl, ⟨⟨rfl, rfl⟩, ⟨rfl, a1_lt _⟩, ⟨rfl, rfl⟩, ⟨rfl, rfl⟩, trivial⟩, ⟨_, rfl⟩, rfl⟩⟩
  · have hky12 := kgeN c3
    rw [drop_end hky12, b_IndexFuncS_l1.eq_1] at h
    refine V_exit ?_
    show V _ _ _ _ _
    refine go ?_
    refine V_ret ?_
    replace h := Option.some.inj h
    subst h
    exact R_rP
def b_ContainsFuncS (a0 : List (List UInt8)) (a1 : (List UInt8) → Option Bool) : Option (Bool) :=
bnd (b_IndexFuncS a0 a1) fun x1 =>
(some (decide (x1 ≥ 0)))
set_option maxHeartbeats 4000000 in
theorem w_ContainsFuncS (a0 : List (List UInt8)) {a1f : Nat} {a1c : List SV} {a1 : (List UInt8) → Option Bool} (a1_lt : ∀ n, SV.lts n a1c = true) (ha1 : ∀ (x0 : List UInt8) (r : Bool), a1 x0 = some r → SpecP Try.prog a1f ([.d (.s x0)] ++ a1c) [.b r]) {r : Bool} (h : b_ContainsFuncS a0 a1 = some r) : SpecP Try.prog 42 [.d (.sl 1 (eStrs a0)), .fn a1f a1c] [.b r] := by
  unfold b_ContainsFuncS at h
  refine SpecP_intro Try.func42 rfl (by kernel_rfl) rfl fun A _ => ?_
  refine go ?_
  obtain ⟨x1, hx1, h⟩ := bnd_s h
  refine VO_r (QR_call (w_IndexFuncS a0 (a1 := a1) a1_lt ha1 hx1)) ?_
  refine go ?_
  refine V_ret ?_
  replace h := Option.some.inj h
  subst h
  exact R_rP
def b_varsOf1 (u : TType) (l1 : List (List UInt8)) : Option (List (List UInt8)) :=
lt_ ((cnd (u.kind == 1) ((!(b_ContainsS l1 u.name))) (false))) fun b1 =>
(cnd b1 (
gd (l1.length + [u.name].length ≤ 4294967296) (
(some (l1 ++ [u.name])))) (
(some l1)))
set_option maxHeartbeats 4000000 in
theorem w_varsOf1 (u : TType) (l1 : List (List UInt8)) (v1 : Nat) {r : List (List UInt8)} (h : b_varsOf1 u l1 = some r) : Go.Eng.Spec Try.prog 149 [.d (eType u), .ptr 0 0] [.box [.sl 1 v1], .own 9 1 v1 (eStrs l1)] (fun sv Lo => ∃ v'1, sv = .tup [] ∧ Lo = [.box [.sl 1 v'1], .own 9 1 v'1 (eStrs r)]) := by
  obtain ⟨u_0, u_1, u_2⟩ := u
  unfold b_varsOf1 at h
  refine Spec_intro 2 Try.func149 rfl (by kernel_rfl) rfl rfl fun A _ => ?_
  refine go ?_
  obtain ⟨b1, hb1, h⟩ := lt_x h
  refine VO_join ⟨[(1, .ptr 0 0), (2, .ptr 2 0), (12, .d (.b b1))], [.box [.sl 1 v1], .own 9 1 v1 (eStrs l1), .box [.d (.i .i64 u_0), .d (.s u_1), .d (.sl 3 (eTypes u_2))]], Try.f149.ntmps⟩ ?_ ?_
  · refine VO_case 6 (fun c2 => ?_) (fun c2 => ?_)
    · replace hb1 := cnd_t c2 hb1
      refine go ?_
      refine VO_b ?_
      refine VO_k (Q_cb (w_ContainsS l1 u_1)) ?_
      refine go ?_
      cases hb1
      exact ⟨rfl, ⟨⟨rfl, rfl⟩, ⟨rfl, rfl⟩, ⟨rfl, rfl⟩, trivial⟩, ⟨[], rfl⟩, rfl⟩
    · replace hb1 := cnd_f c2 hb1
      refine go ?_
      cases hb1
      exact ⟨rfl, ⟨⟨rfl, rfl⟩, ⟨rfl, rfl⟩, ⟨rfl, rfl⟩, trivial⟩, ⟨[], rfl⟩, rfl⟩
  refine go ?_
  refine V_cb (fun c3 => ?_) (fun c3 => ?_)
  · replace h := cnd_t c3 h
    refine go ?_
    refine VO_l1 ?_
    obtain ⟨g4, h⟩ := gd_s h
    refine VO_ap g4 ?_
    refine go ?_
    replace h := Option.some.inj h
    subst h
    exact N_rG [] [.box [.sl 1 (v1 + 1)], .own 9 1 (v1 + 1) (eStrs (l1 ++ [u_1]))] ⟨(v1 + 1), rfl, rfl⟩
  · replace h := cnd_f c3 h
    refine V_skip ?_
    show PostG _ _ _ _ _ _
    replace h := Option.some.inj h
    subst h
    exact N_rG [] [.box [.sl 1 v1], .own 9 1 v1 (eStrs l1)] ⟨v1, rfl, rfl⟩
def b_eachVars_l1 (rec_eachVars : TType → (List (List UInt8)) → Option (List (List UInt8))) : List TType → (List (List UInt8)) → Option (List (List UInt8))
  | [], y3 => (some y3)
  | x8 :: xs, y3 => bnd (rec_eachVars x8 y3) fun x9 =>
b_eachVars_l1 rec_eachVars xs x9
def b_eachVars (rec_eachVars : TType → (List (List UInt8)) → Option (List (List UInt8))) (u : TType) (l1 : List (List UInt8)) : Option (List (List UInt8)) :=
bnd (b_varsOf1 u l1) fun x1 =>
b_eachVars_l1 rec_eachVars u.args x1
set_option maxHeartbeats 4000000 in
theorem w_eachVars {rec_eachVars : TType → (List (List UInt8)) → Option (List (List UInt8))} (hrec_eachVars : ∀ (x0 : TType) (x1 : List (List UInt8)) (w0 : Nat) {r : List (List UInt8)}, rec_eachVars x0 x1 = some r → Go.Eng.Spec Try.prog 148 [.d (eType x0), .fn 149 [.ptr 0 0]] [.box [.sl 1 w0], .own 9 1 w0 (eStrs x1)] (fun sv Lo => ∃ v'1, sv = .tup [] ∧ Lo = [.box [.sl 1 v'1], .own 9 1 v'1 (eStrs r)])) (u : TType) (l1 : List (List UInt8)) (v1 : Nat) {r : List (List UInt8)} (h : b_eachVars rec_eachVars u l1 = some r) : Go.Eng.Spec Try.prog 148 [.d (eType u), .fn 149 [.ptr 0 0]] [.box [.sl 1 v1], .own 9 1 v1 (eStrs l1)] (fun sv Lo => ∃ v'1, sv = .tup [] ∧ Lo = [.box [.sl 1 v'1], .own 9 1 v'1 (eStrs r)]) := by
  obtain ⟨u_0, u_1, u_2⟩ := u
  unfold b_eachVars at h
  refine Spec_intro 2 Try.func148 rfl (by kernel_rfl) rfl rfl fun A _ => ?_
  refine go ?_
  obtain ⟨x1, hx1, h⟩ := bnd_s h
  refine VO_cG [0, 1] (w_varsOf1 (TType.mk u_0 u_1 u_2) l1 v1 hx1) ?_
  rintro _ _ ⟨v2, rfl, rfl⟩
  show VO _ _ _ _ ⟨(_, .tup []) :: _, [.box [.sl 1 v2], .own 9 1 v2 (eStrs x1), .box [.d (.i .i64 u_0), .d (.s u_1), .d (.sl 3 (eTypes u_2))]], _⟩ _
  refine go ?_
  refine V_block ?_
  show V _ _ _ _ _
  refine V_bd 10 (fun z6 => ?_)
  refine V_loop3 (fun (y5 : Nat) (y3 : List (List UInt8)) (v4 : Nat) => ⟨[(1, .fn 149 [.ptr 0 0]), (10, .d (.sl 3 (eTypes u_2))), (11, .d (.i .i64 (u_2.length : Int))), (12, .d (.i .i64 (y5 : Int)))], [.box [.sl 1 v4], .own 9 1 v4 (eStrs y3), .box [.d (.i .i64 u_0), .d (.s u_1), .d (.sl 3 (eTypes u_2))]], Try.f148.ntmps⟩) (fun y5 y3 v4 => b_eachVars_l1 rec_eachVars (u_2.drop y5) y3 = some r) (fun y5 y3 v4 => u_2.length - y5) 0 x1 v2 ⟨rfl, ⟨⟨rfl, rfl⟩, ⟨rfl, rfl⟩, ⟨rfl, rfl⟩, ⟨rfl, rfl⟩, trivial⟩, ⟨[], rfl⟩, rfl⟩ h ?_
  rintro y5 y3 v4 h
  refine go ?_
  refine V_seq (V_cb (fun c7 => ?_) (fun c7 => ?_))
  · have hky52 := kltN c7
    obtain ⟨x8, hx8, hdx8⟩ := drop_at hky52
    rw [hdx8, b_eachVars_l1.eq_2] at h
    obtain ⟨x8_0, x8_1, x8_2⟩ := x8
    refine V_skip ?_
    show V _ _ _ _ _
    refine V_seq (V_block ?_)
    refine go ?_
    refine VO_r (QR_ixn y5 (gType hx8)) ?_
    refine go ?_
    obtain ⟨x9, hx9, h⟩ := bnd_s h
    refine VO_cG [0, 1] (hrec_eachVars (TType.mk x8_0 x8_1 x8_2) y3 v4 hx9) ?_
    rintro _ _ ⟨v10, rfl, rfl⟩
    show VO _ _ _ _ ⟨(_, .tup []) :: _, [.box [.sl 1 v10], .own 9 1 v10 (eStrs x9), .box [.d (.i .i64 u_0), .d (.s u_1), .d (.sl 3 (eTypes u_2))], .box [.d (.i .i64 x8_0), .d (.s x8_1), .d (.sl 3 (eTypes x8_2))]], _⟩ _
    refine go ?_
    refine VO_r (QR_inc y5 (by omega)) ?_
    refine go ?_
    exact ⟨(y5 + 1), x9, v10, h, by omega, ⟨rfl, ⟨⟨rfl, rfl⟩, ⟨rfl, rfl⟩, ⟨rfl, rfl⟩, ⟨rfl, rfl⟩, trivial⟩, ⟨_, rfl⟩, rfl⟩⟩
  · have hky52 := kgeN c7
    rw [drop_end hky52, b_eachVars_l1.eq_1] at h
    refine V_exit ?_
    show PostG _ _ _ _ _ _
    replace h := Option.some.inj h
    subst h
    exact N_rG [] [.box [.sl 1 v4], .own 9 1 v4 (eStrs y3)] ⟨v4, rfl, rfl⟩
def m_eachVars : Nat → TType → (List (List UInt8)) → Option (List (List UInt8))
  | 0, _, _ => none
  | n + 1, x0, x1 => b_eachVars (m_eachVars n) x0 x1
theorem s_eachVars : ∀ (n : Nat) (x0 : TType) (x1 : List (List UInt8)) (w0 : Nat) {r : List (List UInt8)}, m_eachVars n x0 x1 = some r → Go.Eng.Spec Try.prog 148 [.d (eType x0), .fn 149 [.ptr 0 0]] [.box [.sl 1 w0], .own 9 1 w0 (eStrs x1)] (fun sv Lo => ∃ v'1, sv = .tup [] ∧ Lo = [.box [.sl 1 v'1], .own 9 1 v'1 (eStrs r)]) := by
  intro n
  induction n with
  | zero => intro x0 x1 w0 r h; cases h
  | succ n ih => intro x0 x1 w0 r h; exact w_eachVars ih x0 x1 w0 h
/-! ### the variables of a type, by hand -/
mutual
def tnd : TType → Nat
  | ⟨_, _, ts⟩ => 1 + tnds ts
def tnds : List TType → Nat
  | [] => 0
  | a :: ts => tnd a + tnds ts
end
def addVar (k : Int) (n : List UInt8) (l : List (List UInt8)) : List (List UInt8) := if k = 1 ∧ n ∉ l then l ++ [n] else l
mutual
def varsT : TType → List (List UInt8) → List (List UInt8)
  | ⟨k, n, ts⟩, l => varsTs ts (addVar k n l)
def varsTs : List TType → List (List UInt8) → List (List UInt8)
  | [], l => l
  | a :: ts, l => varsTs ts (varsT a l)
end
theorem addVar_len (k : Int) (n : List UInt8) (l : List (List UInt8)) : (addVar k n l).length ≤ l.length + 1 := by
  unfold addVar
  split
  · simp
  · omega
mutual
theorem varsT_len : ∀ (t : TType) (l : List (List UInt8)), (varsT t l).length ≤ l.length + tnd t
  | ⟨k, n, ts⟩, l => by
    simp only [varsT, tnd]
    have h1 := varsTs_len ts (addVar k n l)
    have h2 := addVar_len k n l
    omega
theorem varsTs_len : ∀ (ts : List TType) (l : List (List UInt8)), (varsTs ts l).length ≤ l.length + tnds ts
  | [], l => by simp [varsTs]
  | a :: ts, l => by
    simp only [varsTs, tnds]
    have h1 := varsTs_len ts (varsT a l)
    have h2 := varsT_len a l
    omega
end
theorem IndexS_pos (a : List UInt8) : ∀ (l : List (List UInt8)) (k : Nat), 0 ≤ b_IndexS_l1 a l k ↔ a ∈ l
  | [], k => by simp [b_IndexS_l1]
  | x :: l, k => by
    by_cases h : a = x
    · subst h
      simp [b_IndexS_l1, cnd]
    · have h1 : (a == x) = false := by simpa using h
      have h2 : b_IndexS_l1 a (x :: l) k = b_IndexS_l1 a l (k + 1) := by simp [b_IndexS_l1, h1, cnd]
      rw [h2, IndexS_pos a l (k + 1)]
      simp [h]
theorem ContainsS_eq (l : List (List UInt8)) (a : List UInt8) : b_ContainsS l a = decide (a ∈ l) := by
  unfold b_ContainsS b_IndexS
  exact decide_eq_decide.2 (IndexS_pos a l 0)
theorem varsOf1_eq (u : TType) (l : List (List UInt8)) (h : l.length + 1 ≤ 4294967296) : b_varsOf1 u l = some (addVar u.kind u.name l) := by
  unfold b_varsOf1 lt_ addVar
  rw [ContainsS_eq]
  by_cases h1 : u.kind = 1
  · by_cases h2 : u.name ∈ l
    · simp [h1, h2, cnd]
    · simp only [h1, h2, decide_false, Bool.not_false, beq_self_eq_true, cnd_true, not_false_eq_true, and_self, if_true]
      rw [gd_eq (by simpa using h)]
  · have : (u.kind == 1) = false := by simpa using h1
    simp [this, h1, cnd]
theorem eachVars_l1_eq {n : Nat} (ih : ∀ (t : TType) (l : List (List UInt8)), tnd t ≤ n → l.length + tnd t ≤ 4294967296 → m_eachVars n t l = some (varsT t l)) :
    ∀ (xs : List TType) (l : List (List UInt8)), tnds xs ≤ n → l.length + tnds xs ≤ 4294967296 → b_eachVars_l1 (m_eachVars n) xs l = some (varsTs xs l)
  | [], l, _, _ => by simp [b_eachVars_l1, varsTs]
  | x :: xs, l, h1, h2 => by
    simp only [tnds] at h1 h2
    simp only [b_eachVars_l1, varsTs]
    rw [ih x l (by omega) (by omega)]
    have := varsT_len x l
    exact eachVars_l1_eq ih xs _ (by omega) (by omega)
theorem eachVars_eq : ∀ (n : Nat) (t : TType) (l : List (List UInt8)), tnd t ≤ n → l.length + tnd t ≤ 4294967296 → m_eachVars n t l = some (varsT t l)
  | 0, ⟨k, nm, ts⟩, l, h, _ => by simp only [tnd] at h; omega
  | n + 1, ⟨k, nm, ts⟩, l, h1, h2 => by
    simp only [tnd] at h1 h2
    simp only [m_eachVars, b_eachVars, varsT]
    rw [varsOf1_eq _ _ (by omega)]
    have := addVar_len k nm l
    exact eachVars_l1_eq (eachVars_eq n) ts (addVar k nm l) (by omega) (by omega)

theorem t_eachVars (t : TType) (l : List (List UInt8)) (v : Nat) (h : l.length + tnd t ≤ 4294967296) : Go.Eng.Spec Try.prog 148 [.d (eType t), .fn 149 [.ptr 0 0]] [.box [.sl 1 v], .own 9 1 v (eStrs l)] (fun sv Lo => ∃ v'1, sv = .tup [] ∧ Lo = [.box [.sl 1 v'1], .own 9 1 v'1 (eStrs (varsT t l))]) := s_eachVars (tnd t) t l v (eachVars_eq _ t l (Nat.le_refl _) h)
def b_variablesOf_l1 : List TType → (List (List UInt8)) → Option (List (List UInt8))
  | [], y1 => (some y1)
  | x6 :: xs, y1 => gd (y1.length + tnd x6 ≤ 4294967296) (lt_ (varsT x6 y1) fun x7 =>
b_variablesOf_l1 xs x7)
def b_variablesOf (a0 : List TType) : Option (List (List UInt8)) :=
b_variablesOf_l1 a0 []
set_option maxHeartbeats 4000000 in
theorem w_variablesOf (a0 : List TType) {r : List (List UInt8)} (h : b_variablesOf a0 = some r) : SpecP Try.prog 103 [.d (.sl 3 (eTypes a0))] [.sl 1 (eStrs r)] := by
  unfold b_variablesOf at h
  refine SpecP_intro Try.func103 rfl (by kernel_rfl) rfl fun A _ => ?_
  refine go ?_
  refine VO_l0 ?_
  refine go ?_
  refine V_block ?_
  show V _ _ _ _ _
  refine V_bd 7 (fun z4 => ?_)
  refine V_loop3 (fun (y3 : Nat) (y1 : List (List UInt8)) (v2 : Nat) => ⟨[(3, .ptr 1 0), (7, .d (.sl 3 (eTypes a0))), (8, .d (.i .i64 (a0.length : Int))), (9, .d (.i .i64 (y3 : Int)))], [.own 9 1 v2 (eStrs y1), .box [.sl 0 v2]], Try.f103.ntmps⟩) (fun y3 y1 v2 => b_variablesOf_l1 (a0.drop y3) y1 = some r) (fun y3 y1 v2 => a0.length - y3) 0 [] 0 ⟨rfl, ⟨⟨rfl, rfl⟩, ⟨rfl, rfl⟩, ⟨rfl, rfl⟩, ⟨rfl, rfl⟩, trivial⟩, ⟨[], rfl⟩, rfl⟩ h ?_
  rintro y3 y1 v2 h
  refine go ?_
  refine V_seq (V_cb (fun c5 => ?_) (fun c5 => ?_))
  · have hky32 := kltN c5
    obtain ⟨x6, hx6, hdx6⟩ := drop_at hky32
    rw [hdx6, b_variablesOf_l1.eq_2] at h
    obtain ⟨x6_0, x6_1, x6_2⟩ := x6
    refine V_skip ?_
    show V _ _ _ _ _
    refine V_seq (V_block ?_)
    refine go ?_
    refine VO_r (QR_ixn y3 (gType hx6)) ?_
    refine go ?_
    refine VO_r (QR_fn) ?_
    obtain ⟨g8, h⟩ := gd_s h
    obtain ⟨x7, hx7, h⟩ := lt_x h
    have sx7 := t_eachVars (TType.mk x6_0 x6_1 x6_2) y1 v2 g8
    rw [hx7] at sx7
    refine VO_cG [1, 0] sx7 ?_
    rintro _ _ ⟨v9, rfl, rfl⟩
    show VO _ _ _ _ ⟨(_, .tup []) :: _, [.own 9 1 v9 (eStrs x7), .box [.sl 0 v9], .box [.d (.i .i64 x6_0), .d (.s x6_1), .d (.sl 3 (eTypes x6_2))]], _⟩ _
    refine go ?_
    refine VO_r (QR_inc y3 (by omega)) ?_
    refine go ?_
    exact ⟨(y3 + 1), x7, v9, h, by omega, ⟨rfl, ⟨⟨rfl, rfl⟩, ⟨rfl, rfl⟩, ⟨rfl, rfl⟩, ⟨rfl, rfl⟩, trivial⟩, ⟨_, rfl⟩, rfl⟩⟩
  · have hky32 := kgeN c5
    rw [drop_end hky32, b_variablesOf_l1.eq_1] at h
    refine V_exit ?_
    show V _ _ _ _ _
    refine go ?_
    refine V_freezeO 0 rfl rfl ?_
    refine V_ret ?_
    replace h := Option.some.inj h
    subst h
    exact R_rP
def b_TypeVariables (a0 : TType) : Option (List (List UInt8)) :=
bnd (b_variablesOf [a0]) fun x1 =>
(some x1)
set_option maxHeartbeats 4000000 in
theorem w_TypeVariables (a0 : TType) {r : List (List UInt8)} (h : b_TypeVariables a0 = some r) : SpecP Try.prog 43 [.d (eType a0)] [.sl 1 (eStrs r)] := by
  obtain ⟨a0_0, a0_1, a0_2⟩ := a0
  unfold b_TypeVariables at h
  refine SpecP_intro Try.func43 rfl (by kernel_rfl) rfl fun A _ => ?_
  refine go ?_
  refine VO_la1 (u := (.st [.i .i64 a0_0, .s a0_1, .sl 3 (eTypes a0_2)])) ?_
  refine VO_freeze 1 rfl rfl ?_
  obtain ⟨x1, hx1, h⟩ := bnd_s h
  refine VO_k (Q_cl (w_variablesOf [(TType.mk a0_0 a0_1 a0_2)] hx1)) ?_
  refine go ?_
  refine V_ret ?_
  replace h := Option.some.inj h
  subst h
  exact R_rP
def b_iHIV (a0 : TType) : Option (Bool) :=
bnd (b_TypeVariables a0) fun x1 =>
bnd (b_ContainsFuncS x1 b_isInference) fun x2 =>
(some x2)
set_option maxHeartbeats 4000000 in
theorem w_iHIV (a0 : TType) {r : Bool} (h : b_iHIV a0 = some r) : SpecP Try.prog 11 [.d (eType a0)] [.b r] := by
  obtain ⟨a0_0, a0_1, a0_2⟩ := a0
  unfold b_iHIV at h
  refine SpecP_intro Try.func11 rfl (by kernel_rfl) rfl fun A _ => ?_
  refine go ?_
  obtain ⟨x1, hx1, h⟩ := bnd_s h
  refine VO_r (QR_call (w_TypeVariables (TType.mk a0_0 a0_1 a0_2) hx1)) ?_
  obtain ⟨x2, hx2, h⟩ := bnd_s h
  refine VO_r (QR_call (w_ContainsFuncS x1 (a1 := b_isInference) (fun _ => rfl) (fun x0 r hr => w_isInference x0 hr) hx2)) ?_
  refine go ?_
  refine V_ret ?_
  replace h := Option.some.inj h
  subst h
  exact R_rP
def b_l32Meta_l1 : List UInt8 → Option (Bool)
  | [] => (some true)
  | x12 :: xs => lt_ ((cnd (decide ((x12.toNat : Int) < 48)) (true) ((decide ((x12.toNat : Int) > 57))))) fun b13 =>
(cnd b13 (
(some false)) (
b_l32Meta_l1 xs ))
def b_l32Meta (a0 : TType) : Option (Bool) :=
bnd ((cnd (a0.kind != 1) ((some true)) ((cnd (decide ((a0.name.length : Int) < 2)) ((some true)) (bnd (at? a0.name 0) fun x4 =>
(cnd ((x4.toNat : Int) != 63) ((some true)) (bnd (at? a0.name 1) fun x6 =>
(cnd ((x6.toNat : Int) == 48) ((some (decide ((a0.name.length : Int) > 2)))) ((some false)))))))))) fun b1 =>
(cnd b1 (
(some false)) (
b_l32Meta_l1 (a0.name.drop 1) ))
set_option maxHeartbeats 4000000 in
theorem w_l32Meta (a0 : TType) {r : Bool} (h : b_l32Meta a0 = some r) : SpecP Try.prog 40 [.d (eType a0)] [.b r] := by
  obtain ⟨a0_0, a0_1, a0_2⟩ := a0
  unfold b_l32Meta at h
  refine SpecP_intro Try.func40 rfl (by kernel_rfl) rfl fun A _ => ?_
  refine go ?_
  obtain ⟨b1, hb1, h⟩ := bnd_s h
  refine VO_join ⟨[(1, .ptr 0 0), (3, .d (.i .i64 (a0_1.length : Int))), (30, .d (.b b1))], [.box [.d (.i .i64 a0_0), .d (.s a0_1), .d (.sl 3 (eTypes a0_2))]], Try.f40.ntmps⟩ ?_ ?_
  · refine VO_case 11 (fun c2 => ?_) (fun c2 => ?_)
    · replace hb1 := cnd_t c2 hb1
      refine go ?_
      cases hb1
      exact ⟨rfl, ⟨⟨rfl, rfl⟩, ⟨rfl, rfl⟩, ⟨rfl, rfl⟩, trivial⟩, ⟨[], rfl⟩, rfl⟩
    · replace hb1 := cnd_f c2 hb1
      refine go ?_
      refine VO_case 15 (fun c3 => ?_) (fun c3 => ?_)
      · replace hb1 := cnd_t c3 hb1
        refine go ?_
        cases hb1
        exact ⟨rfl, ⟨⟨rfl, rfl⟩, ⟨rfl, rfl⟩, ⟨rfl, rfl⟩, trivial⟩, ⟨[], rfl⟩, rfl⟩
      · replace hb1 := cnd_f c3 hb1
        refine go ?_
        refine VO_b ?_
        obtain ⟨x4, hx4, hb1⟩ := bnd_s hb1
        obtain ⟨hx40, hx4⟩ := at_s hx4
        refine VO_r (QR_six hx40 hx4) ?_
        refine go ?_
        refine VO_case 21 (fun c5 => ?_) (fun c5 => ?_)
        · replace hb1 := cnd_t c5 hb1
          refine go ?_
          cases hb1
          exact ⟨rfl, ⟨⟨rfl, rfl⟩, ⟨rfl, rfl⟩, ⟨rfl, rfl⟩, trivial⟩, ⟨[], rfl⟩, rfl⟩
        · replace hb1 := cnd_f c5 hb1
          refine go ?_
          refine VO_b ?_
          obtain ⟨x6, hx6, hb1⟩ := bnd_s hb1
          obtain ⟨hx60, hx6⟩ := at_s hx6
          refine VO_r (QR_six hx60 hx6) ?_
          refine go ?_
          refine VO_case 26 (fun c7 => ?_) (fun c7 => ?_)
          · replace hb1 := cnd_t c7 hb1
            refine go ?_
            cases hb1
            exact ⟨rfl, ⟨⟨rfl, rfl⟩, ⟨rfl, rfl⟩, ⟨rfl, rfl⟩, trivial⟩, ⟨[], rfl⟩, rfl⟩
          · replace hb1 := cnd_f c7 hb1
            refine go ?_
            cases hb1
            exact ⟨rfl, ⟨⟨rfl, rfl⟩, ⟨rfl, rfl⟩, ⟨rfl, rfl⟩, trivial⟩, ⟨[], rfl⟩, rfl⟩
  refine go ?_
  refine V_cb (fun c8 => ?_) (fun c8 => ?_)
  · replace h := cnd_t c8 h
    refine go ?_
    refine V_ret ?_
    replace h := Option.some.inj h
    subst h
    exact R_rP
  · replace h := cnd_f c8 h
    refine V_skip ?_
    show V _ _ _ _ _
    refine go ?_
    refine V_block ?_
    show V _ _ _ _ _
    refine V_bdcS 0 1 (fun z10 => ?_)
    refine V_loop1 (fun (y9 : Nat) => ⟨[(1, .ptr 0 0), (3, .d (.i .i64 (a0_1.length : Int))), (4, .d (.i .i64 (y9 : Int)))], [.box [.d (.i .i64 a0_0), .d (.s a0_1), .d (.sl 3 (eTypes a0_2))]], Try.f40.ntmps⟩) (fun y9 => b_l32Meta_l1 (a0_1.drop y9)  = some r) (fun y9 => a0_1.length - y9) 1 ⟨rfl, ⟨⟨rfl, rfl⟩, ⟨rfl, rfl⟩, ⟨rfl, rfl⟩, trivial⟩, ⟨[], rfl⟩, rfl⟩ h ?_
    rintro y9 h
    refine go ?_
    refine V_cb (fun c11 => ?_) (fun c11 => ?_)
    · have hky92 := kltS c11
      obtain ⟨x12, hx12, hdx12⟩ := drop_at hky92
      rw [hdx12, b_l32Meta_l1.eq_2] at h
      refine V_skip ?_
      show V _ _ _ _ _
      refine V_seq (V_block ?_)
      refine go ?_
      refine VO_r (QR_sixn y9 hx12) ?_
      refine go ?_
      obtain ⟨b13, hb13, h⟩ := lt_x h
      refine VO_join ⟨[(1, .ptr 0 0), (3, .d (.i .i64 (a0_1.length : Int))), (4, .d (.i .i64 (y9 : Int))), (47, .d (.b b13))], [.box [.d (.i .i64 a0_0), .d (.s a0_1), .d (.sl 3 (eTypes a0_2))]], Try.f40.ntmps⟩ ?_ ?_
      · refine VO_case 41 (fun c14 => ?_) (fun c14 => ?_)
        · replace hb13 := cnd_t c14 hb13
          refine go ?_
          cases hb13
          exact ⟨rfl, ⟨⟨rfl, rfl⟩, ⟨rfl, rfl⟩, ⟨rfl, rfl⟩, ⟨rfl, rfl⟩, trivial⟩, ⟨[], rfl⟩, rfl⟩
        · replace hb13 := cnd_f c14 hb13
          refine go ?_
          refine VO_b ?_
          refine VO_r (QR_sixn y9 hx12) ?_
          refine go ?_
          cases hb13
          exact ⟨rfl, ⟨⟨rfl, rfl⟩, ⟨rfl, rfl⟩, ⟨rfl, rfl⟩, ⟨rfl, rfl⟩, trivial⟩, ⟨[], rfl⟩, rfl⟩
      refine go ?_
      refine V_cb (fun c15 => ?_) (fun c15 => ?_)
      · replace h := cnd_t c15 h
        refine go ?_
        refine V_ret ?_
        replace h := Option.some.inj h
        subst h
        exact R_rP
      · replace h := cnd_f c15 h
        refine V_skip ?_
        show V _ _ _ _ _
        refine go ?_
        refine VO_r (QR_inc y9 (by omega)) ?_
        refine go ?_
        exact ⟨(y9 + 1), h, by omega, ⟨rfl, ⟨⟨rfl, rfl⟩, ⟨rfl, rfl⟩, ⟨rfl, rfl⟩, trivial⟩, ⟨_, rfl⟩, rfl⟩⟩
    · have hky92 := kgeS c11
      rw [drop_end hky92, b_l32Meta_l1.eq_1] at h
      refine V_exit ?_
      show V _ _ _ _ _
      refine go ?_
      refine V_ret ?_
      replace h := Option.some.inj h
      subst h
      exact R_rP
def b_sHIV_l1 (rec_sHIV : TType → Option (Bool)) (a0 : TType) : List TType → Option (Bool)
  | [] => bnd (b_l32Meta a0) fun x7 =>
(some x7)
  | x4 :: xs => bnd (rec_sHIV x4) fun x5 =>
(cnd x5 (
(some true)) (
b_sHIV_l1 rec_sHIV a0 xs ))
def b_sHIV (rec_sHIV : TType → Option (Bool)) (a0 : TType) : Option (Bool) :=
b_sHIV_l1 rec_sHIV a0 a0.args 
set_option maxHeartbeats 4000000 in
theorem w_sHIV {rec_sHIV : TType → Option (Bool)} (hrec_sHIV : ∀ (x0 : TType) {r : Bool}, rec_sHIV x0 = some r → SpecP Try.prog 9 [.d (eType x0)] [.b r]) (a0 : TType) {r : Bool} (h : b_sHIV rec_sHIV a0 = some r) : SpecP Try.prog 9 [.d (eType a0)] [.b r] := by
  obtain ⟨a0_0, a0_1, a0_2⟩ := a0
  unfold b_sHIV at h
  refine SpecP_intro Try.func9 rfl (by kernel_rfl) rfl fun A _ => ?_
  refine go ?_
  refine V_block ?_
  show V _ _ _ _ _
  refine V_bdc 0 2 (fun z2 => ?_)
  refine V_loop1 (fun (y1 : Nat) => ⟨[(1, .ptr 0 0), (3, .d (.i .i64 (y1 : Int)))], [.box [.d (.i .i64 a0_0), .d (.s a0_1), .d (.sl 3 (eTypes a0_2))]], Try.f9.ntmps⟩) (fun y1 => b_sHIV_l1 rec_sHIV (TType.mk a0_0 a0_1 a0_2) (a0_2.drop y1)  = some r) (fun y1 => a0_2.length - y1) 0 ⟨rfl, ⟨⟨rfl, rfl⟩, ⟨rfl, rfl⟩, trivial⟩, ⟨[], rfl⟩, rfl⟩ h ?_
  rintro y1 h
  refine go ?_
  refine V_cb (fun c3 => ?_) (fun c3 => ?_)
  · have hky12 := kltN c3
    obtain ⟨x4, hx4, hdx4⟩ := drop_at hky12
    rw [hdx4, b_sHIV_l1.eq_2] at h
    obtain ⟨x4_0, x4_1, x4_2⟩ := x4
    refine V_skip ?_
    show V _ _ _ _ _
    refine V_seq (V_block ?_)
    refine go ?_
    refine VO_r (QR_ixn y1 (gType hx4)) ?_
    refine go ?_
    obtain ⟨x5, hx5, h⟩ := bnd_s h
    refine VO_r (QR_call (hrec_sHIV (TType.mk x4_0 x4_1 x4_2) hx5)) ?_
    refine go ?_
    refine V_cb (fun c6 => ?_) (fun c6 => ?_)
    · replace h := cnd_t c6 h
      refine go ?_
      refine V_ret ?_
      replace h := Option.some.inj h
      subst h
      exact R_rP
    · replace h := cnd_f c6 h
      refine V_skip ?_
      show V _ _ _ _ _
      refine go ?_
      refine VO_r (QR_inc y1 (by omega)) ?_
      refine go ?_
      exact ⟨(y1 + 1), h, by omega, ⟨rfl, ⟨⟨rfl, rfl⟩, ⟨rfl, rfl⟩, trivial⟩, ⟨_, rfl⟩, rfl⟩⟩
  · have hky12 := kgeN c3
    rw [drop_end hky12, b_sHIV_l1.eq_1] at h
    refine V_exit ?_
    show V _ _ _ _ _
    refine go ?_
    obtain ⟨x7, hx7, h⟩ := bnd_s h
    refine VO_r (QR_call (w_l32Meta (TType.mk a0_0 a0_1 a0_2) hx7)) ?_
    refine go ?_
    refine V_ret ?_
    replace h := Option.some.inj h
    subst h
    exact R_rP
def m_sHIV : Nat → TType → Option (Bool)
  | 0, _ => none
  | n + 1, x0 => b_sHIV (m_sHIV n) x0
theorem s_sHIV : ∀ (n : Nat) (x0 : TType) {r : Bool}, m_sHIV n x0 = some r → SpecP Try.prog 9 [.d (eType x0)] [.b r] := by
  intro n
  induction n with
  | zero => intro x0 r h; cases h
  | succ n ih => intro x0 r h; exact w_sHIV ih x0 h
/-! ### inference variables, by hand -/
def dig (b : UInt8) : Bool := decide (48 ≤ b.toNat) && decide (b.toNat ≤ 57)
def isInf : List UInt8 → Bool
  | b0 :: b1 :: l => (b0.toNat == 63) && !(b1.toNat == 48 && !l.isEmpty) && (b1 :: l).all dig
  | _ => false
theorem isDigit_eq (b : UInt8) : b_isDigit (b.toNat : Int) = dig b := by
  unfold b_isDigit lt_ dig
  rw [cnd_ite]
  by_cases h1 : 48 ≤ b.toNat
  · have h3 : (decide ((b.toNat : Int) ≥ 48)) = true := decide_eq_true (by omega)
    rw [h3]
    simp [h1]
    omega
  · have h3 : (decide ((b.toNat : Int) ≥ 48)) = false := by simp; omega
    rw [h3]
    simp [h1]
theorem isInf_l1_eq : ∀ (l : List UInt8), b_isInference_l1 l = some (l.all dig)
  | [] => rfl
  | b :: l => by
    simp only [b_isInference_l1, isDigit_eq, List.all_cons]
    cases h : dig b with
    | true => simp [cnd, isInf_l1_eq l]
    | false => simp [cnd]
theorem l32Meta_l1_eq : ∀ (l : List UInt8), b_l32Meta_l1 l = some (l.all dig)
  | [] => rfl
  | b :: l => by
    simp only [b_l32Meta_l1, lt_, List.all_cons]
    have key : (cnd (decide ((b.toNat : Int) < 48)) true (decide ((b.toNat : Int) > 57))) = !dig b := by
      unfold dig
      rw [cnd_ite]
      by_cases h1 : b.toNat < 48
      · have h3 : (decide ((b.toNat : Int) < 48)) = true := decide_eq_true (by omega)
        rw [h3]
        have : ¬ 48 ≤ b.toNat := by omega
        simp [this]
      · have h3 : (decide ((b.toNat : Int) < 48)) = false := by simp; omega
        rw [h3]
        have : 48 ≤ b.toNat := by omega
        simp only [Bool.false_eq_true, if_false, this, decide_true, Bool.true_and]
        by_cases h2 : b.toNat ≤ 57
        · simp [h2]; omega
        · simp [h2]; omega
    rw [key]
    cases h : dig b with
    | true => simp [cnd, l32Meta_l1_eq l]
    | false => simp [cnd]
theorem isInference_eq (s : List UInt8) : b_isInference s = some (isInf s) := by
  match s with
  | [] => rfl
  | [a] => rfl
  | b0 :: b1 :: l =>
    unfold b_isInference
    have h1 : decide (((b0 :: b1 :: l).length : Int) < 2) = false := by simp; omega
    have e0 : at? (b0 :: b1 :: l) 0 = some b0 := rfl
    have e1 : at? (b0 :: b1 :: l) 1 = some b1 := rfl
    rw [h1, e0, e1]
    simp only [cnd_false, bnd, isInf]
    by_cases h2 : b0.toNat = 63
    · have h3 : ((b0.toNat : Int) != 63) = false := by simp [h2]
      have h4 : (b0.toNat == 63) = true := by simp [h2]
      rw [h3, h4]
      simp only [cnd_false, Bool.true_and, List.drop_succ_cons, List.drop_zero, isInf_l1_eq]
      cases l with
      | nil => simp [cnd]
      | cons b2 l =>
        have h5 : decide (((b0 :: b1 :: b2 :: l).length : Int) > 2) = true := by simp; omega
        rw [h5]
        simp only [cnd_true, List.isEmpty_cons, Bool.not_false, Bool.and_true]
        by_cases h6 : b1.toNat = 48
        · have h7 : ((b1.toNat : Int) == 48) = true := by simp [h6]
          have h8 : (b1.toNat == 48) = true := by simp [h6]
          rw [h7, h8]
          rfl
        · have h7 : ((b1.toNat : Int) == 48) = false := by simp; omega
          have h8 : (b1.toNat == 48) = false := by simp [h6]
          rw [h7, h8]
          simp [cnd]
    · have h3 : ((b0.toNat : Int) != 63) = true := by simp; omega
      have h4 : (b0.toNat == 63) = false := by simp [h2]
      rw [h3, h4]
      rfl
theorem l32Meta_eq (t : TType) : b_l32Meta t = some ((t.kind == 1) && isInf t.name) := by
  obtain ⟨k, s, ts⟩ := t
  unfold b_l32Meta
  by_cases hk : k = 1
  · have h0 : (k != 1) = false := by simp [hk]
    have h0' : (k == 1) = true := by simp [hk]
    simp only [h0, h0', cnd_false, Bool.true_and]
    match s with
    | [] => rfl
    | [a] => rfl
    | b0 :: b1 :: l =>
      have h1 : decide (((b0 :: b1 :: l).length : Int) < 2) = false := by simp; omega
      have e0 : at? (b0 :: b1 :: l) 0 = some b0 := rfl
      have e1 : at? (b0 :: b1 :: l) 1 = some b1 := rfl
      rw [h1, e0, e1]
      simp only [cnd_false, bnd, isInf]
      by_cases h2 : b0.toNat = 63
      · have h3 : ((b0.toNat : Int) != 63) = false := by simp [h2]
        have h4 : (b0.toNat == 63) = true := by simp [h2]
        rw [h3, h4]
        simp only [cnd_false, Bool.true_and, List.drop_succ_cons, List.drop_zero, l32Meta_l1_eq]
        by_cases h6 : b1.toNat = 48
        · have h7 : ((b1.toNat : Int) == 48) = true := by simp [h6]
          have h8 : (b1.toNat == 48) = true := by simp [h6]
          rw [h7, h8]
          cases l with
          | nil => simp [cnd]
          | cons b2 l =>
            have h5 : decide (((b0 :: b1 :: b2 :: l).length : Int) > 2) = true := by simp; omega
            rw [h5]
            rfl
        · have h7 : ((b1.toNat : Int) == 48) = false := by simp; omega
          have h8 : (b1.toNat == 48) = false := by simp [h6]
          rw [h7, h8]
          simp [cnd]
      · have h3 : ((b0.toNat : Int) != 63) = true := by simp; omega
        have h4 : (b0.toNat == 63) = false := by simp [h2]
        rw [h3, h4]
        rfl
  · have h0 : (k != 1) = true := by simp [hk]
    have h0' : (k == 1) = false := by simp [hk]
    simp only [h0, h0']
    rfl
mutual
def hiv : TType → Bool
  | ⟨k, n, ts⟩ => hivs ts || ((k == 1) && isInf n)
def hivs : List TType → Bool
  | [] => false
  | a :: ts => hiv a || hivs ts
end
theorem addVar_any (k : Int) (n : List UInt8) (l : List (List UInt8)) : (addVar k n l).any isInf = (l.any isInf || ((k == 1) && isInf n)) := by
  unfold addVar
  by_cases hk : k = 1
  · by_cases hn : n ∈ l
    · simp only [hn, not_true_eq_false, and_false, if_false, hk, beq_self_eq_true, Bool.true_and]
      cases h : isInf n with
      | false => simp
      | true => simp only [Bool.or_true]; exact List.any_eq_true.2 ⟨n, hn, h⟩
    · simp [hn, hk]
  · simp [hk]
mutual
theorem varsT_any : ∀ (t : TType) (l : List (List UInt8)), (varsT t l).any isInf = (l.any isInf || hiv t)
  | ⟨k, n, ts⟩, l => by
    simp only [varsT, hiv]
    rw [varsTs_any ts, addVar_any]
    cases l.any isInf <;> cases hivs ts <;> simp
theorem varsTs_any : ∀ (ts : List TType) (l : List (List UInt8)), (varsTs ts l).any isInf = (l.any isInf || hivs ts)
  | [], l => by simp [varsTs, hivs]
  | a :: ts, l => by
    simp only [varsTs, hivs]
    rw [varsTs_any ts, varsT_any a, Bool.or_assoc]
end
theorem IndexFuncS_l1_eq {p : List UInt8 → Option Bool} {q : List UInt8 → Bool} (hp : ∀ x, p x = some (q x)) : ∀ (l : List (List UInt8)) (k : Nat), ∃ i, b_IndexFuncS_l1 p l k = some i ∧ (0 ≤ i ↔ l.any q = true)
  | [], k => ⟨-1, rfl, by simp⟩
  | x :: l, k => by
    obtain ⟨i, h1, h2⟩ := IndexFuncS_l1_eq hp l (k + 1)
    simp only [b_IndexFuncS_l1, hp, bnd]
    cases hq : q x with
    | true => exact ⟨k, by simp [cnd], by simp [hq]⟩
    | false => exact ⟨i, by simpa [cnd] using h1, by simpa [hq] using h2⟩
theorem ContainsFuncS_eq {p : List UInt8 → Option Bool} {q : List UInt8 → Bool} (hp : ∀ x, p x = some (q x)) (l : List (List UInt8)) : b_ContainsFuncS l p = some (l.any q) := by
  obtain ⟨i, h1, h2⟩ := IndexFuncS_l1_eq hp l 0
  unfold b_ContainsFuncS b_IndexFuncS
  rw [h1]
  simp only [bnd, Option.some.injEq]
  cases h : l.any q with
  | true => exact decide_eq_true (h2.2 h)
  | false => exact decide_eq_false (fun hi => by rw [h2.1 hi] at h; cases h)
theorem TypeVariables_eq (t : TType) (h : tnd t ≤ 4294967296) : b_TypeVariables t = some (varsT t []) := by
  unfold b_TypeVariables b_variablesOf
  simp only [b_variablesOf_l1]
  rw [gd_eq (by simpa using h)]
  rfl
theorem t_TypeVariables (t : TType) (h : tnd t ≤ 4294967296) : SpecP Try.prog 43 [.d (eType t)] [.sl 1 (eStrs (varsT t []))] := w_TypeVariables t (TypeVariables_eq t h)
theorem t_iHIV (t : TType) (h : tnd t ≤ 4294967296) : SpecP Try.prog 11 [.d (eType t)] [.b (hiv t)] := by
  refine w_iHIV t ?_
  unfold b_iHIV
  rw [TypeVariables_eq t h]
  simp only [bnd]
  rw [ContainsFuncS_eq isInference_eq, varsT_any]
  simp
theorem sHIV_l1_eq {n : Nat} {t : TType} : ∀ (xs : List TType), (∀ x ∈ xs, m_sHIV n x = some (hiv x)) → b_sHIV_l1 (m_sHIV n) t xs = some (hivs xs || ((t.kind == 1) && isInf t.name))
  | [], _ => by simp only [b_sHIV_l1, l32Meta_eq, bnd, hivs, Bool.false_or]
  | x :: xs, h => by
    simp only [b_sHIV_l1, hivs]
    rw [h x (by simp)]
    simp only [bnd]
    cases hx : hiv x with
    | true => simp [cnd]
    | false =>
      rw [cnd_false, sHIV_l1_eq xs (fun y hy => h y (by simp [hy]))]
      simp
theorem tnd_mem {x : TType} : ∀ {ts : List TType}, x ∈ ts → tnd x ≤ tnds ts
  | [], h => by simp at h
  | a :: ts, h => by
    simp only [tnds]
    rcases List.mem_cons.1 h with rfl | h
    · omega
    · have := tnd_mem h
      omega
theorem sHIV_eq : ∀ (n : Nat) (t : TType), tnd t ≤ n → m_sHIV n t = some (hiv t)
  | 0, ⟨k, nm, ts⟩, h => by simp only [tnd] at h; omega
  | n + 1, ⟨k, nm, ts⟩, h => by
    simp only [tnd] at h
    simp only [m_sHIV, b_sHIV, hiv]
    exact sHIV_l1_eq ts (fun x hx => sHIV_eq n x (by have := tnd_mem hx; omega))
theorem t_sHIV (t : TType) : SpecP Try.prog 9 [.d (eType t)] [.b (hiv t)] := s_sHIV _ t (sHIV_eq _ t (Nat.le_refl _))
mutual
theorem tnd_W : ∀ (t : TType), tnd t ≤ 1 + W (eType t)
  | ⟨k, n, ts⟩ => by
    simp only [tnd, eType, W, Ws]
    have h1 := tnds_W ts
    have h2 : (eTypes ts).length = ts.length := Enc.len ts
    omega
theorem tnds_W : ∀ (ts : List TType), tnds ts ≤ ts.length + Ws (eTypes ts)
  | [] => by simp [tnds]
  | a :: ts => by
    simp only [tnds, eTypes, Ws, List.length_cons]
    have h1 := tnd_W a
    have h2 := tnds_W ts
    omega
end
theorem bothHIV {u : U} (h : wt (.st 1) u) : ∃ c0 : Bool, (W u ≤ 1048576 → SpecP Try.prog 9 [.d u] [.b c0]) ∧ (W u ≤ 1048576 → SpecP Try.prog 11 [.d u] [.b c0]) := by
  obtain ⟨t, rfl⟩ := ofType u h
  exact ⟨hiv t, fun _ => t_sHIV t, fun hw => t_iHIV t (by have := tnd_W t; omega)⟩

end Go.Proofs.Ytbloknibekeedaa
