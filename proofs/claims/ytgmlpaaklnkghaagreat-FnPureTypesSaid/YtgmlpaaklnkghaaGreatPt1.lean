/- Pt1. Written by a program of mine (aw.py). -/
import Derived.Test.YtgmlpaaklnkghaaGreatEng39
import Derived.Test.YtgmlpaaklnkghaaGreatUn1
set_option linter.unusedVariables false
set_option linter.unusedSimpArgs false
set_option linter.unusedSectionVars false
namespace Go.Proofs.YtgmlpaaklnkghaaGreat
open Go Go.Eng
attribute [local irreducible] V VO VQ VY Quiet QR SpecP SpecO Rng PostP PostO PostG
def b_iLower (a0 : Int) : Bool :=
lt_ ((cnd (decide (a0 ≥ 97)) ((decide (a0 ≤ 122))) (false))) fun b1 =>
b1
set_option maxHeartbeats 4000000 in
theorem w_iLower (a0 : Int) : SpecP Tryz.prog 93 [.d (.i .u8 a0)] [.b (b_iLower a0)] := by
  obtain ⟨r, h⟩ : ∃ r, b_iLower a0 = r := ⟨_, rfl⟩
  rw [h]
  unfold b_iLower at h
  refine SpecP_intro Tryz.func93 rfl (by kernel_rfl) rfl fun A _ => ?_
  refine goL ?_
  obtain ⟨b1, hb1, h⟩ := lt_x h
  refine VO_join ⟨[(2, .d (.b b1))], [], Tryz.f93.ntmps⟩ ?_ ?_
  · refine VO_case 5 (fun c2 => ?_) (fun c2 => ?_)
    · replace hb1 := cnd_t c2 hb1
      refine goL ?_
      cases hb1
      exact ⟨rfl, ⟨⟨rfl, rfl⟩, trivial⟩, ⟨[], rfl⟩, rfl⟩
    · replace hb1 := cnd_f c2 hb1
      refine goL ?_
      cases hb1
      exact ⟨rfl, ⟨⟨rfl, rfl⟩, trivial⟩, ⟨[], rfl⟩, rfl⟩
  refine goL ?_
  refine V_ret ?_
  subst h
  exact R_rP
def b_iDigit (a0 : Int) : Bool :=
lt_ ((cnd (decide (a0 ≥ 48)) ((decide (a0 ≤ 57))) (false))) fun b1 =>
b1
set_option maxHeartbeats 4000000 in
theorem w_iDigit (a0 : Int) : SpecP Tryz.prog 94 [.d (.i .u8 a0)] [.b (b_iDigit a0)] := by
  obtain ⟨r, h⟩ : ∃ r, b_iDigit a0 = r := ⟨_, rfl⟩
  rw [h]
  unfold b_iDigit at h
  refine SpecP_intro Tryz.func94 rfl (by kernel_rfl) rfl fun A _ => ?_
  refine goL ?_
  obtain ⟨b1, hb1, h⟩ := lt_x h
  refine VO_join ⟨[(2, .d (.b b1))], [], Tryz.f94.ntmps⟩ ?_ ?_
  · refine VO_case 5 (fun c2 => ?_) (fun c2 => ?_)
    · replace hb1 := cnd_t c2 hb1
      refine goL ?_
      cases hb1
      exact ⟨rfl, ⟨⟨rfl, rfl⟩, trivial⟩, ⟨[], rfl⟩, rfl⟩
    · replace hb1 := cnd_f c2 hb1
      refine goL ?_
      cases hb1
      exact ⟨rfl, ⟨⟨rfl, rfl⟩, trivial⟩, ⟨[], rfl⟩, rfl⟩
  refine goL ?_
  refine V_ret ?_
  subst h
  exact R_rP
def b_IndexS_l1 (a1 : List UInt8) : List (List UInt8) → Nat → Int
  | [], y1 => (-1)
  | x4 :: xs, y1 => (cnd (a1 == x4) (
(y1 : Int)) (
b_IndexS_l1 a1 xs (y1 + 1)))
def b_IndexS (a0 : List (List UInt8)) (a1 : List UInt8) : Int :=
b_IndexS_l1 a1 a0 0
set_option maxHeartbeats 4000000 in
theorem w_IndexS (a0 : List (List UInt8)) (a1 : List UInt8) : SpecP Tryz.prog 120 [.d (.sl 1 (eStrs a0)), .d (.s a1)] [.i .i64 (b_IndexS a0 a1)] := by
  obtain ⟨r, h⟩ : ∃ r, b_IndexS a0 a1 = r := ⟨_, rfl⟩
  rw [h]
  unfold b_IndexS at h
  refine SpecP_intro Tryz.func120 rfl (by kernel_rfl) rfl fun A _ => ?_
  refine goL ?_
  refine V_block ?_
  show V _ _ _ _ _
  refine V_bd 0 (fun z2 => ?_)
  refine V_loop1 (fun (y1 : Nat) => ⟨[(0, .d (.sl 1 (eStrs a0))), (1, .d (.s a1)), (7, .d (.i .i64 (a0.length : Int))), (8, .d (.i .i64 (y1 : Int)))], [], Tryz.f120.ntmps⟩) (fun y1 => b_IndexS_l1 a1 (a0.drop y1) y1 = r) (fun y1 => a0.length - y1) 0 ⟨rfl, ⟨⟨rfl, rfl⟩, ⟨rfl, rfl⟩, ⟨rfl, rfl⟩, ⟨rfl, rfl⟩, trivial⟩, ⟨[], rfl⟩, rfl⟩ h ?_
  rintro y1 h
  refine goL ?_
  refine V_seq (V_cb (fun c3 => ?_) (fun c3 => ?_))
  · have hky12 := kltN c3
    obtain ⟨x4, hx4, hdx4⟩ := drop_at hky12
    rw [hdx4, b_IndexS_l1.eq_2] at h
    refine V_skip ?_
    show V _ _ _ _ _
    refine V_seq (V_block ?_)
    refine goL ?_
    refine VO_r (QR_ixn y1 (gStr hx4)) ?_
    refine goL ?_
    refine V_cb (fun c5 => ?_) (fun c5 => ?_)
    · replace h := cnd_t c5 h
      refine goL ?_
      refine V_ret ?_
      subst h
      exact R_rP
    · replace h := cnd_f c5 h
      refine V_skip ?_
      show V _ _ _ _ _
      refine goL ?_
      refine VO_r (QR_inc y1 (by omega)) ?_
      refine goL ?_
      exact ⟨(y1 + 1), h, by omega, ⟨rfl, ⟨⟨rfl, rfl⟩, ⟨rfl, rfl⟩, ⟨rfl, rfl⟩, ⟨rfl, rfl⟩, trivial⟩, ⟨_, rfl⟩, rfl⟩⟩
  · have hky12 := kgeN c3
    rw [drop_end hky12, b_IndexS_l1.eq_1] at h
    refine V_exit ?_
    show V _ _ _ _ _
    refine goL ?_
    refine V_ret ?_
    subst h
    exact R_rP
def b_ContainsS (a0 : List (List UInt8)) (a1 : List UInt8) : Bool :=
(decide ((b_IndexS a0 a1) ≥ 0))
set_option maxHeartbeats 4000000 in
theorem w_ContainsS (a0 : List (List UInt8)) (a1 : List UInt8) : SpecP Tryz.prog 110 [.d (.sl 1 (eStrs a0)), .d (.s a1)] [.b (b_ContainsS a0 a1)] := by
  obtain ⟨r, h⟩ : ∃ r, b_ContainsS a0 a1 = r := ⟨_, rfl⟩
  rw [h]
  unfold b_ContainsS at h
  refine SpecP_intro Tryz.func110 rfl (by kernel_rfl) rfl fun A _ => ?_
  refine goL ?_
  refine VO_r (QR_call (w_IndexS a0 a1)) ?_
  refine goL ?_
  refine V_ret ?_
  subst h
  exact R_rP
def b_iReserved (a0 : List UInt8) : Bool :=
(b_ContainsS [[105, 110, 116], [98, 111, 111, 108], [97, 115, 115, 111, 99], [100, 121, 110], [105, 102], [108, 101, 116], [99, 97, 115, 101], [110, 101, 119], [109, 101, 116, 104, 111, 100], [112, 97, 99, 107], [116, 114, 117, 101], [102, 97, 108, 115, 101]] a0)
set_option maxHeartbeats 4000000 in
theorem w_iReserved (a0 : List UInt8) : SpecP Tryz.prog 95 [.d (.s a0)] [.b (b_iReserved a0)] := by
  obtain ⟨r, h⟩ : ∃ r, b_iReserved a0 = r := ⟨_, rfl⟩
  rw [h]
  unfold b_iReserved at h
  refine SpecP_intro Tryz.func95 rfl (by kernel_rfl) rfl fun A _ => ?_
  refine goL ?_
  refine VO_lb (us := eStrs [[105, 110, 116], [98, 111, 111, 108], [97, 115, 115, 111, 99], [100, 121, 110], [105, 102], [108, 101, 116], [99, 97, 115, 101], [110, 101, 119], [109, 101, 116, 104, 111, 100], [112, 97, 99, 107], [116, 114, 117, 101], [102, 97, 108, 115, 101]]) ?_
  refine goL ?_
  refine VO_k (Q_cb (w_ContainsS [[105, 110, 116], [98, 111, 111, 108], [97, 115, 115, 111, 99], [100, 121, 110], [105, 102], [108, 101, 116], [99, 97, 115, 101], [110, 101, 119], [109, 101, 116, 104, 111, 100], [112, 97, 99, 107], [116, 114, 117, 101], [102, 97, 108, 115, 101]] a0)) ?_
  refine goL ?_
  refine V_ret ?_
  subst h
  exact R_rP
def b_iValidName_l1 (a0 : List UInt8) : List UInt8 → Nat → Bool
  | [], y1 => lt_ ((cnd (decide ((a0.length : Int) ≥ 1)) ((cnd (decide ((a0.length : Int) ≤ 8)) ((!(b_iReserved a0))) (false))) (false))) fun b9 =>
b9
  | x4 :: xs, y1 => lt_ ((cnd (!(b_iLower (x4.toNat : Int))) ((cnd ((y1 : Int) == 0) (true) ((!(b_iDigit (x4.toNat : Int)))))) (false))) fun b5 =>
(cnd b5 (
false) (
b_iValidName_l1 a0 xs (y1 + 1)))
def b_iValidName (a0 : List UInt8) : Bool :=
b_iValidName_l1 a0 a0 0
set_option maxHeartbeats 4000000 in
theorem w_iValidName (a0 : List UInt8) : SpecP Tryz.prog 72 [.d (.s a0)] [.b (b_iValidName a0)] := by
  obtain ⟨r, h⟩ : ∃ r, b_iValidName a0 = r := ⟨_, rfl⟩
  rw [h]
  unfold b_iValidName at h
  refine SpecP_intro Tryz.func72 rfl (by kernel_rfl) rfl fun A _ => ?_
  refine goL ?_
  refine V_block ?_
  show V _ _ _ _ _
  refine V_bdS 0 (fun z2 => ?_)
  refine V_loop1 (fun (y1 : Nat) => ⟨[(0, .d (.s a0)), (5, .d (.i .i64 (a0.length : Int))), (6, .d (.i .i64 (y1 : Int)))], [], Tryz.f72.ntmps⟩) (fun y1 => b_iValidName_l1 a0 (a0.drop y1) y1 = r) (fun y1 => a0.length - y1) 0 ⟨rfl, ⟨⟨rfl, rfl⟩, ⟨rfl, rfl⟩, ⟨rfl, rfl⟩, trivial⟩, ⟨[], rfl⟩, rfl⟩ h ?_
  rintro y1 h
  refine goL ?_
  refine V_seq (V_cb (fun c3 => ?_) (fun c3 => ?_))
  · have hky12 := kltS c3
    obtain ⟨x4, hx4, hdx4⟩ := drop_at hky12
    rw [hdx4, b_iValidName_l1.eq_2] at h
    refine V_skip ?_
    show V _ _ _ _ _
    refine V_seq (V_block ?_)
    refine goL ?_
    refine VO_r (QR_sixn y1 hx4) ?_
    refine VO_r (QR_call (w_iLower (x4.toNat : Int))) ?_
    refine goL ?_
    obtain ⟨b5, hb5, h⟩ := lt_x h
    refine VO_join ⟨[(0, .d (.s a0)), (5, .d (.i .i64 (a0.length : Int))), (6, .d (.i .i64 (y1 : Int))), (24, .d (.b b5))], [], Tryz.f72.ntmps⟩ ?_ ?_
    · refine VO_case 14 (fun c6 => ?_) (fun c6 => ?_)
      · replace hb5 := cnd_t c6 hb5
        refine goL ?_
        refine VO_case 17 (fun c7 => ?_) (fun c7 => ?_)
        · replace hb5 := cnd_t c7 hb5
          refine goL ?_
          cases hb5
          exact ⟨rfl, ⟨⟨rfl, rfl⟩, ⟨rfl, rfl⟩, ⟨rfl, rfl⟩, ⟨rfl, rfl⟩, trivial⟩, ⟨[], rfl⟩, rfl⟩
        · replace hb5 := cnd_f c7 hb5
          refine goL ?_
          refine VO_b ?_
          refine VO_r (QR_sixn y1 hx4) ?_
          refine VO_b ?_
          refine VO_r (QR_call (w_iDigit (x4.toNat : Int))) ?_
          refine goL ?_
          cases hb5
          exact ⟨rfl, ⟨⟨rfl, rfl⟩, ⟨rfl, rfl⟩, ⟨rfl, rfl⟩, ⟨rfl, rfl⟩, trivial⟩, ⟨[], rfl⟩, rfl⟩
      · replace hb5 := cnd_f c6 hb5
        refine goL ?_
        cases hb5
        exact ⟨rfl, ⟨⟨rfl, rfl⟩, ⟨rfl, rfl⟩, ⟨rfl, rfl⟩, ⟨rfl, rfl⟩, trivial⟩, ⟨[], rfl⟩, rfl⟩
    refine goL ?_
    refine V_cb (fun c8 => ?_) (fun c8 => ?_)
    · replace h := cnd_t c8 h
      refine goL ?_
      refine V_ret ?_
      subst h
      exact R_rP
    · replace h := cnd_f c8 h
      refine V_skip ?_
      show V _ _ _ _ _
      refine goL ?_
      refine VO_r (QR_inc y1 (by omega)) ?_
      refine goL ?_
      exact ⟨(y1 + 1), h, by omega, ⟨rfl, ⟨⟨rfl, rfl⟩, ⟨rfl, rfl⟩, ⟨rfl, rfl⟩, trivial⟩, ⟨_, rfl⟩, rfl⟩⟩
  · have hky12 := kgeS c3
    rw [drop_end hky12, b_iValidName_l1.eq_1] at h
    refine V_exit ?_
    show V _ _ _ _ _
    refine goL ?_
    obtain ⟨b9, hb9, h⟩ := lt_x h
    refine VO_join ⟨[(2, .d (.b b9))], [], Tryz.f72.ntmps⟩ ?_ ?_
    · refine VO_case 29 (fun c10 => ?_) (fun c10 => ?_)
      · replace hb9 := cnd_t c10 hb9
        refine goL ?_
        refine VO_case 34 (fun c11 => ?_) (fun c11 => ?_)
        · replace hb9 := cnd_t c11 hb9
          refine goL ?_
          refine VO_b ?_
          refine VO_r (QR_call (w_iReserved a0)) ?_
          refine goL ?_
          cases hb9
          exact ⟨rfl, ⟨⟨rfl, rfl⟩, trivial⟩, ⟨[], rfl⟩, rfl⟩
        · replace hb9 := cnd_f c11 hb9
          refine goL ?_
          cases hb9
          exact ⟨rfl, ⟨⟨rfl, rfl⟩, trivial⟩, ⟨[], rfl⟩, rfl⟩
      · replace hb9 := cnd_f c10 hb9
        refine goL ?_
        cases hb9
        exact ⟨rfl, ⟨⟨rfl, rfl⟩, trivial⟩, ⟨[], rfl⟩, rfl⟩
    refine goL ?_
    refine V_ret ?_
    subst h
    exact R_rP
def b_iBuiltIn (a0 : List UInt8) : Bool :=
lt_ ((cnd (a0 == [105, 110, 116]) (true) ((a0 == [98, 111, 111, 108])))) fun b1 =>
b1
set_option maxHeartbeats 4000000 in
theorem w_iBuiltIn (a0 : List UInt8) : SpecP Tryz.prog 73 [.d (.s a0)] [.b (b_iBuiltIn a0)] := by
  obtain ⟨r, h⟩ : ∃ r, b_iBuiltIn a0 = r := ⟨_, rfl⟩
  rw [h]
  unfold b_iBuiltIn at h
  refine SpecP_intro Tryz.func73 rfl (by kernel_rfl) rfl fun A _ => ?_
  refine goL ?_
  obtain ⟨b1, hb1, h⟩ := lt_x h
  refine VO_join ⟨[(2, .d (.b b1))], [], Tryz.f73.ntmps⟩ ?_ ?_
  · refine VO_case 5 (fun c2 => ?_) (fun c2 => ?_)
    · replace hb1 := cnd_t c2 hb1
      refine goL ?_
      cases hb1
      exact ⟨rfl, ⟨⟨rfl, rfl⟩, trivial⟩, ⟨[], rfl⟩, rfl⟩
    · replace hb1 := cnd_f c2 hb1
      refine goL ?_
      cases hb1
      exact ⟨rfl, ⟨⟨rfl, rfl⟩, trivial⟩, ⟨[], rfl⟩, rfl⟩
  refine goL ?_
  refine V_ret ?_
  subst h
  exact R_rP
def b_l1Has_l1 (a1 : List UInt8) : List (List UInt8) → Bool
  | [] => false
  | x4 :: xs => (cnd (x4 == a1) (
true) (
b_l1Has_l1 a1 xs ))
def b_l1Has (a0 : List (List UInt8)) (a1 : List UInt8) : Bool :=
b_l1Has_l1 a1 a0 
set_option maxHeartbeats 4000000 in
theorem w_l1Has (a0 : List (List UInt8)) (a1 : List UInt8) : SpecP Tryz.prog 118 [.d (.sl 1 (eStrs a0)), .d (.s a1)] [.b (b_l1Has a0 a1)] := by
  obtain ⟨r, h⟩ : ∃ r, b_l1Has a0 a1 = r := ⟨_, rfl⟩
  rw [h]
  unfold b_l1Has at h
  refine SpecP_intro Tryz.func118 rfl (by kernel_rfl) rfl fun A _ => ?_
  refine goL ?_
  refine V_block ?_
  show V _ _ _ _ _
  refine V_bd 0 (fun z2 => ?_)
  refine V_loop1 (fun (y1 : Nat) => ⟨[(0, .d (.sl 1 (eStrs a0))), (1, .d (.s a1)), (5, .d (.i .i64 (y1 : Int)))], [], Tryz.f118.ntmps⟩) (fun y1 => b_l1Has_l1 a1 (a0.drop y1)  = r) (fun y1 => a0.length - y1) 0 ⟨rfl, ⟨⟨rfl, rfl⟩, ⟨rfl, rfl⟩, ⟨rfl, rfl⟩, trivial⟩, ⟨[], rfl⟩, rfl⟩ h ?_
  rintro y1 h
  refine goL ?_
  refine V_cb (fun c3 => ?_) (fun c3 => ?_)
  · have hky12 := kltN c3
    obtain ⟨x4, hx4, hdx4⟩ := drop_at hky12
    rw [hdx4, b_l1Has_l1.eq_2] at h
    refine V_skip ?_
    show V _ _ _ _ _
    refine V_seq (V_block ?_)
    refine goL ?_
    refine VO_r (QR_ixn y1 (gStr hx4)) ?_
    refine goL ?_
    refine V_cb (fun c5 => ?_) (fun c5 => ?_)
    · replace h := cnd_t c5 h
      refine goL ?_
      refine V_ret ?_
      subst h
      exact R_rP
    · replace h := cnd_f c5 h
      refine V_skip ?_
      show V _ _ _ _ _
      refine goL ?_
      refine VO_r (QR_inc y1 (by omega)) ?_
      refine goL ?_
      exact ⟨(y1 + 1), h, by omega, ⟨rfl, ⟨⟨rfl, rfl⟩, ⟨rfl, rfl⟩, ⟨rfl, rfl⟩, trivial⟩, ⟨_, rfl⟩, rfl⟩⟩
  · have hky12 := kgeN c3
    rw [drop_end hky12, b_l1Has_l1.eq_1] at h
    refine V_exit ?_
    show V _ _ _ _ _
    refine goL ?_
    refine V_ret ?_
    subst h
    exact R_rP
def b_l4Base (a0 : List UInt8) : Bool :=
lt_ ((cnd (a0 == [105, 110, 116]) (true) ((a0 == [98, 111, 111, 108])))) fun b1 =>
b1
set_option maxHeartbeats 4000000 in
theorem w_l4Base (a0 : List UInt8) : SpecP Tryz.prog 87 [.d (.s a0)] [.b (b_l4Base a0)] := by
  obtain ⟨r, h⟩ : ∃ r, b_l4Base a0 = r := ⟨_, rfl⟩
  rw [h]
  unfold b_l4Base at h
  refine SpecP_intro Tryz.func87 rfl (by kernel_rfl) rfl fun A _ => ?_
  refine goL ?_
  obtain ⟨b1, hb1, h⟩ := lt_x h
  refine VO_join ⟨[(2, .d (.b b1))], [], Tryz.f87.ntmps⟩ ?_ ?_
  · refine VO_case 5 (fun c2 => ?_) (fun c2 => ?_)
    · replace hb1 := cnd_t c2 hb1
      refine goL ?_
      cases hb1
      exact ⟨rfl, ⟨⟨rfl, rfl⟩, trivial⟩, ⟨[], rfl⟩, rfl⟩
    · replace hb1 := cnd_f c2 hb1
      refine goL ?_
      cases hb1
      exact ⟨rfl, ⟨⟨rfl, rfl⟩, trivial⟩, ⟨[], rfl⟩, rfl⟩
  refine goL ?_
  refine V_ret ?_
  subst h
  exact R_rP
def b_sReserved (a0 : List UInt8) : Bool :=
(b_l1Has [[105, 110, 116], [98, 111, 111, 108], [97, 115, 115, 111, 99], [100, 121, 110], [105, 102], [108, 101, 116], [99, 97, 115, 101], [110, 101, 119], [109, 101, 116, 104, 111, 100], [112, 97, 99, 107], [116, 114, 117, 101], [102, 97, 108, 115, 101]] a0)
set_option maxHeartbeats 4000000 in
theorem w_sReserved (a0 : List UInt8) : SpecP Tryz.prog 108 [.d (.s a0)] [.b (b_sReserved a0)] := by
  obtain ⟨r, h⟩ : ∃ r, b_sReserved a0 = r := ⟨_, rfl⟩
  rw [h]
  unfold b_sReserved at h
  refine SpecP_intro Tryz.func108 rfl (by kernel_rfl) rfl fun A _ => ?_
  refine goL ?_
  refine VO_lb (us := eStrs [[105, 110, 116], [98, 111, 111, 108], [97, 115, 115, 111, 99], [100, 121, 110], [105, 102], [108, 101, 116], [99, 97, 115, 101], [110, 101, 119], [109, 101, 116, 104, 111, 100], [112, 97, 99, 107], [116, 114, 117, 101], [102, 97, 108, 115, 101]]) ?_
  refine goL ?_
  refine VO_k (Q_cb (w_l1Has [[105, 110, 116], [98, 111, 111, 108], [97, 115, 115, 111, 99], [100, 121, 110], [105, 102], [108, 101, 116], [99, 97, 115, 101], [110, 101, 119], [109, 101, 116, 104, 111, 100], [112, 97, 99, 107], [116, 114, 117, 101], [102, 97, 108, 115, 101]] a0)) ?_
  refine goL ?_
  refine V_ret ?_
  subst h
  exact R_rP
def b_l1In (a0 : Int) (a1 : Int) (a2 : Int) : Bool :=
lt_ ((cnd (decide (a0 ≥ a1)) ((decide (a0 ≤ a2))) (false))) fun b1 =>
b1
set_option maxHeartbeats 4000000 in
theorem w_l1In (a0 : Int) (a1 : Int) (a2 : Int) : SpecP Tryz.prog 107 [.d (.i .i64 a0), .d (.i .i64 a1), .d (.i .i64 a2)] [.b (b_l1In a0 a1 a2)] := by
  obtain ⟨r, h⟩ : ∃ r, b_l1In a0 a1 a2 = r := ⟨_, rfl⟩
  rw [h]
  unfold b_l1In at h
  refine SpecP_intro Tryz.func107 rfl (by kernel_rfl) rfl fun A _ => ?_
  refine goL ?_
  obtain ⟨b1, hb1, h⟩ := lt_x h
  refine VO_join ⟨[(6, .d (.b b1))], [], Tryz.f107.ntmps⟩ ?_ ?_
  · refine VO_case 10 (fun c2 => ?_) (fun c2 => ?_)
    · replace hb1 := cnd_t c2 hb1
      refine goL ?_
      cases hb1
      exact ⟨rfl, ⟨⟨rfl, rfl⟩, trivial⟩, ⟨[], rfl⟩, rfl⟩
    · replace hb1 := cnd_f c2 hb1
      refine goL ?_
      cases hb1
      exact ⟨rfl, ⟨⟨rfl, rfl⟩, trivial⟩, ⟨[], rfl⟩, rfl⟩
  refine goL ?_
  refine V_ret ?_
  subst h
  exact R_rP
def b_sValidName_l1 : List UInt8 → Nat → Bool
  | [], y4 => true
  | x7 :: xs, y4 => lt_ ((cnd (decide ((x7.toNat : Int) ≥ 97)) ((decide ((x7.toNat : Int) ≤ 122))) (false))) fun b8 =>
lt_ ((cnd (!b8) ((cnd ((y4 : Int) == 0) (true) ((cnd (decide ((x7.toNat : Int) < 48)) (true) ((decide ((x7.toNat : Int) > 57))))))) (false))) fun b10 =>
(cnd b10 (
false) (
b_sValidName_l1 xs (y4 + 1)))
def b_sValidName (a0 : List UInt8) : Bool :=
lt_ ((cnd (!(b_l1In (a0.length : Int) 1 8)) (true) ((b_sReserved a0)))) fun b1 =>
(cnd b1 (
false) (
b_sValidName_l1 a0 0))
set_option maxHeartbeats 4000000 in
theorem w_sValidName (a0 : List UInt8) : SpecP Tryz.prog 86 [.d (.s a0)] [.b (b_sValidName a0)] := by
  obtain ⟨r, h⟩ : ∃ r, b_sValidName a0 = r := ⟨_, rfl⟩
  rw [h]
  unfold b_sValidName at h
  refine SpecP_intro Tryz.func86 rfl (by kernel_rfl) rfl fun A _ => ?_
  refine goL ?_
  refine VO_r (QR_call (w_l1In (a0.length : Int) 1 8)) ?_
  refine goL ?_
  obtain ⟨b1, hb1, h⟩ := lt_x h
  refine VO_join ⟨[(0, .d (.s a0)), (12, .d (.b b1))], [], Tryz.f86.ntmps⟩ ?_ ?_
  · refine VO_case 9 (fun c2 => ?_) (fun c2 => ?_)
    · replace hb1 := cnd_t c2 hb1
      refine goL ?_
      cases hb1
      exact ⟨rfl, ⟨⟨rfl, rfl⟩, ⟨rfl, rfl⟩, trivial⟩, ⟨[], rfl⟩, rfl⟩
    · replace hb1 := cnd_f c2 hb1
      refine goL ?_
      refine VO_b ?_
      refine VO_r (QR_call (w_sReserved a0)) ?_
      refine goL ?_
      cases hb1
      exact ⟨rfl, ⟨⟨rfl, rfl⟩, ⟨rfl, rfl⟩, trivial⟩, ⟨[], rfl⟩, rfl⟩
  refine goL ?_
  refine V_cb (fun c3 => ?_) (fun c3 => ?_)
  · replace h := cnd_t c3 h
    refine goL ?_
    refine V_ret ?_
    subst h
    exact R_rP
  · replace h := cnd_f c3 h
    refine V_skip ?_
    show V _ _ _ _ _
    refine goL ?_
    refine V_block ?_
    show V _ _ _ _ _
    refine V_bdS 0 (fun z5 => ?_)
    refine V_loop1 (fun (y4 : Nat) => ⟨[(0, .d (.s a0)), (3, .d (.i .i64 (y4 : Int)))], [], Tryz.f86.ntmps⟩) (fun y4 => b_sValidName_l1 (a0.drop y4) y4 = r) (fun y4 => a0.length - y4) 0 ⟨rfl, ⟨⟨rfl, rfl⟩, ⟨rfl, rfl⟩, trivial⟩, ⟨[], rfl⟩, rfl⟩ h ?_
    rintro y4 h
    refine goL ?_
    refine V_cb (fun c6 => ?_) (fun c6 => ?_)
    · have hky42 := kltS c6
      obtain ⟨x7, hx7, hdx7⟩ := drop_at hky42
      rw [hdx7, b_sValidName_l1.eq_2] at h
      refine V_skip ?_
      show V _ _ _ _ _
      refine V_seq (V_block ?_)
      refine goL ?_
      refine VO_r (QR_sixn y4 hx7) ?_
      refine goL ?_
      obtain ⟨b8, hb8, h⟩ := lt_x h
      refine VO_join ⟨[(0, .d (.s a0)), (3, .d (.i .i64 (y4 : Int))), (4, .d (.b b8))], [], Tryz.f86.ntmps⟩ ?_ ?_
      · refine VO_case 23 (fun c9 => ?_) (fun c9 => ?_)
        · replace hb8 := cnd_t c9 hb8
          refine goL ?_
          refine VO_b ?_
          refine VO_r (QR_sixn y4 hx7) ?_
          refine goL ?_
          cases hb8
          exact ⟨rfl, ⟨⟨rfl, rfl⟩, ⟨rfl, rfl⟩, ⟨rfl, rfl⟩, trivial⟩, ⟨[], rfl⟩, rfl⟩
        · replace hb8 := cnd_f c9 hb8
          refine goL ?_
          cases hb8
          exact ⟨rfl, ⟨⟨rfl, rfl⟩, ⟨rfl, rfl⟩, ⟨rfl, rfl⟩, trivial⟩, ⟨[], rfl⟩, rfl⟩
      refine goL ?_
      obtain ⟨b10, hb10, h⟩ := lt_x h
      refine VO_join ⟨[(0, .d (.s a0)), (3, .d (.i .i64 (y4 : Int))), (46, .d (.b b10))], [], Tryz.f86.ntmps⟩ ?_ ?_
      · refine VO_case 31 (fun c11 => ?_) (fun c11 => ?_)
        · replace hb10 := cnd_t c11 hb10
          refine goL ?_
          refine VO_case 34 (fun c12 => ?_) (fun c12 => ?_)
          · replace hb10 := cnd_t c12 hb10
            refine goL ?_
            cases hb10
            exact ⟨rfl, ⟨⟨rfl, rfl⟩, ⟨rfl, rfl⟩, ⟨rfl, rfl⟩, trivial⟩, ⟨[], rfl⟩, rfl⟩
          · replace hb10 := cnd_f c12 hb10
            refine goL ?_
            refine VO_b ?_
            refine VO_r (QR_sixn y4 hx7) ?_
            refine goL ?_
            refine VO_case 40 (fun c13 => ?_) (fun c13 => ?_)
            · replace hb10 := cnd_t c13 hb10
              refine goL ?_
              cases hb10
              exact ⟨rfl, ⟨⟨rfl, rfl⟩, ⟨rfl, rfl⟩, ⟨rfl, rfl⟩, trivial⟩, ⟨[], rfl⟩, rfl⟩
            · replace hb10 := cnd_f c13 hb10
              refine goL ?_
              refine VO_b ?_
              refine VO_r (QR_sixn y4 hx7) ?_
              refine goL ?_
              cases hb10
              exact ⟨rfl, ⟨⟨rfl, rfl⟩, ⟨rfl, rfl⟩, ⟨rfl, rfl⟩, trivial⟩, ⟨[], rfl⟩, rfl⟩
        · replace hb10 := cnd_f c11 hb10
          refine goL ?_
          cases hb10
          exact ⟨rfl, ⟨⟨rfl, rfl⟩, ⟨rfl, rfl⟩, ⟨rfl, rfl⟩, trivial⟩, ⟨[], rfl⟩, rfl⟩
      refine goL ?_
      refine V_cb (fun c14 => ?_) (fun c14 => ?_)
      · replace h := cnd_t c14 h
        refine goL ?_
        refine V_ret ?_
        subst h
        exact R_rP
      · replace h := cnd_f c14 h
        refine V_skip ?_
        show V _ _ _ _ _
        refine goL ?_
        refine VO_r (QR_inc y4 (by omega)) ?_
        refine goL ?_
        exact ⟨(y4 + 1), h, by omega, ⟨rfl, ⟨⟨rfl, rfl⟩, ⟨rfl, rfl⟩, trivial⟩, ⟨_, rfl⟩, rfl⟩⟩
    · have hky42 := kgeS c6
      rw [drop_end hky42, b_sValidName_l1.eq_1] at h
      refine V_exit ?_
      show V _ _ _ _ _
      refine goL ?_
      refine V_ret ?_
      subst h
      exact R_rP
def b_l1Max (a0 : Int) (a1 : Int) : Int :=
(cnd (decide (a0 > a1)) (
a0) (
a1))
set_option maxHeartbeats 4000000 in
theorem w_l1Max (a0 : Int) (a1 : Int) : SpecP Tryz.prog 85 [.d (.i .i64 a0), .d (.i .i64 a1)] [.i .i64 (b_l1Max a0 a1)] := by
  obtain ⟨r, h⟩ : ∃ r, b_l1Max a0 a1 = r := ⟨_, rfl⟩
  rw [h]
  unfold b_l1Max at h
  refine SpecP_intro Tryz.func85 rfl (by kernel_rfl) rfl fun A _ => ?_
  refine goL ?_
  refine V_cb (fun c1 => ?_) (fun c1 => ?_)
  · replace h := cnd_t c1 h
    refine goL ?_
    refine V_ret ?_
    subst h
    exact R_rP
  · replace h := cnd_f c1 h
    refine V_skip ?_
    show V _ _ _ _ _
    refine goL ?_
    refine V_ret ?_
    subst h
    exact R_rP
def b_IndexFuncT_l1 (a1 : TType → Option Bool) : List TType → Nat → Option (Int)
  | [], y1 => (some (-1))
  | x4 :: xs, y1 => bnd (a1 x4) fun x5 =>
(cnd x5 (
(some (y1 : Int))) (
b_IndexFuncT_l1 a1 xs (y1 + 1)))
def b_IndexFuncT (a0 : List TType) (a1 : TType → Option Bool) : Option (Int) :=
b_IndexFuncT_l1 a1 a0 0
set_option maxHeartbeats 4000000 in
theorem w_IndexFuncT (a0 : List TType) {a1f : Nat} {a1c : List SV} {a1 : TType → Option Bool} (a1_lt : ∀ n, SV.lts n a1c = true) (ha1 : ∀ (x0 : TType) (r : Bool), a1 x0 = some r → SpecP Tryz.prog a1f ([.d (eType x0)] ++ a1c) [.b r]) {r : Int} (h : b_IndexFuncT a0 a1 = some r) : SpecP Tryz.prog 96 [.d (.sl 3 (eTypes a0)), .fn a1f a1c] [.i .i64 r] := by
  unfold b_IndexFuncT at h
  refine SpecP_intro Tryz.func96 rfl (by kernel_rfl) rfl fun A _ => ?_
  refine goL ?_
  refine V_block ?_
  show V _ _ _ _ _
  refine V_bd 0 (fun z2 => ?_)
  refine V_loop1 (fun (y1 : Nat) => ⟨[(0, .d (.sl 3 (eTypes a0))), (1, .fn a1f a1c), (7, .d (.i .i64 (a0.length : Int))), (8, .d (.i .i64 (y1 : Int)))], [], Tryz.f96.ntmps⟩) (fun y1 => b_IndexFuncT_l1 a1 (a0.drop y1) y1 = some r) (fun y1 => a0.length - y1) 0 ⟨rfl, ⟨⟨rfl, rfl⟩, ⟨rfl, a1_lt _⟩, ⟨rfl, rfl⟩, ⟨rfl, rfl⟩, trivial⟩, ⟨[], rfl⟩, rfl⟩ h ?_
  rintro y1 h
  refine goL ?_
  refine V_seq (V_cb (fun c3 => ?_) (fun c3 => ?_))
  · have hky12 := kltN c3
    obtain ⟨x4, hx4, hdx4⟩ := drop_at hky12
    rw [hdx4, b_IndexFuncT_l1.eq_2] at h
    obtain ⟨x4_0, x4_1, x4_2⟩ := x4
    refine V_skip ?_
    show V _ _ _ _ _
    refine V_seq (V_block ?_)
    refine goL ?_
    refine VO_r (QR_ixn y1 (gType hx4)) ?_
    refine goL ?_
    obtain ⟨x5, hx5, h⟩ := bnd_s h
    refine VO_r (QR_callf (ha1 _ _ hx5) (a1_lt 0)) ?_
    refine goL ?_
    refine V_cb (fun c6 => ?_) (fun c6 => ?_)
    · replace h := cnd_t c6 h
      refine goL ?_
      refine V_ret ?_
      replace h := Option.some.inj h
      subst h
      exact R_rP
    · replace h := cnd_f c6 h
      refine V_skip ?_
      show V _ _ _ _ _
      refine goL ?_
      refine VO_r (QR_inc y1 (by omega)) ?_
      refine goL ?_
      exact ⟨(y1 + 1), h, by omega, ⟨rfl, ⟨⟨rfl, rfl⟩, ⟨rfl, a1_lt _⟩, ⟨rfl, rfl⟩, ⟨rfl, rfl⟩, trivial⟩, ⟨_, rfl⟩, rfl⟩⟩
  · have hky12 := kgeN c3
    rw [drop_end hky12, b_IndexFuncT_l1.eq_1] at h
    refine V_exit ?_
    show V _ _ _ _ _
    refine goL ?_
    refine V_ret ?_
    replace h := Option.some.inj h
    subst h
    exact R_rP
def b_ContainsFuncT (a0 : List TType) (a1 : TType → Option Bool) : Option (Bool) :=
bnd (b_IndexFuncT a0 a1) fun x1 =>
(some (decide (x1 ≥ 0)))
set_option maxHeartbeats 4000000 in
theorem w_ContainsFuncT (a0 : List TType) {a1f : Nat} {a1c : List SV} {a1 : TType → Option Bool} (a1_lt : ∀ n, SV.lts n a1c = true) (ha1 : ∀ (x0 : TType) (r : Bool), a1 x0 = some r → SpecP Tryz.prog a1f ([.d (eType x0)] ++ a1c) [.b r]) {r : Bool} (h : b_ContainsFuncT a0 a1 = some r) : SpecP Tryz.prog 74 [.d (.sl 3 (eTypes a0)), .fn a1f a1c] [.b r] := by
  unfold b_ContainsFuncT at h
  refine SpecP_intro Tryz.func74 rfl (by kernel_rfl) rfl fun A _ => ?_
  refine goL ?_
  obtain ⟨x1, hx1, h⟩ := bnd_s h
  refine VO_r (QR_call (w_IndexFuncT a0 (a1 := a1) a1_lt ha1 hx1)) ?_
  refine goL ?_
  refine V_ret ?_
  replace h := Option.some.inj h
  subst h
  exact R_rP
end Go.Proofs.YtgmlpaaklnkghaaGreat
