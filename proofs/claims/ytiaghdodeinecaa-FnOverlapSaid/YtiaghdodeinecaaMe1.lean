/- Um5. Written by a program of mine (aw.py). -/
import Derived.Test.YtiaghdodeinecaaEng43
import Derived.Test.YtiaghdodeinecaaUn1
import Derived.Test.YtiaghdodeinecaaUm4
import Derived.Test.YtiaghdodeinecaaUn5
import Derived.Test.YtiaghdodeinecaaUc1
import Derived.Test.YtiaghdodeinecaaUn3
import Derived.Test.YtiaghdodeinecaaUn2
set_option linter.unusedVariables false
set_option linter.unusedSimpArgs false
set_option linter.unusedSectionVars false
namespace Go.Proofs.Ytiaghdodeinecaa
open Go Go.Eng
attribute [local irreducible] V VO VQ VY Quiet QR SpecP SpecO Rng PostP PostO PostG
def b_GrowN (n : Int) : Option (List (List UInt8)) :=
(cnd (decide (n < 0)) (
none) (
(cnd (decide ((IntKind.i64.wrap (n - (IntKind.i64.wrap ((0 : Int) - 0)))) > 0)) (
gd (0 < (IntKind.i64.wrap (n - (IntKind.i64.wrap ((0 : Int) - 0)))) ∧ (IntKind.i64.wrap (n - (IntKind.i64.wrap ((0 : Int) - 0)))) ≤ 4294967296) (
(some []))) (
(some [])))))
set_option maxHeartbeats 4000000 in
theorem w_GrowN (n : Int) {r : List (List UInt8)} (h : b_GrowN n = some r) : Go.Eng.Spec Try.prog 78 [.nilsl, .d (.i .i64 n)] [] (fun sv Lo => sv = .sl 0 0 ∧ Lo = [.own 9 1 0 (eStrs r)]) := by
  unfold b_GrowN at h
  refine Spec_intro 0 Try.func78 rfl (by kernel_rfl) rfl rfl fun A _ => ?_
  refine goL ?_
  refine V_cb (fun c1 => ?_) (fun c1 => ?_)
  · replace h := cnd_t c1 h
    cases h
  · replace h := cnd_f c1 h
    refine V_skip ?_
    show V _ _ _ _ _
    refine goL ?_
    refine VO_r (Q_capn) ?_
    refine goL ?_
    refine VO_r (QR_ar) ?_
    refine VO_r (QR_ar) ?_
    refine goL ?_
    refine V_cb (fun c2 => ?_) (fun c2 => ?_)
    · replace h := cnd_t c2 h
      refine goL ?_
      refine VO_r (Q_capn) ?_
      refine VO_r (Q_sln) ?_
      refine goL ?_
      obtain ⟨g3, h⟩ := gd_s h
      refine VO_apz g3 ?_
      refine goL ?_
      refine VO_cut ?_
      refine goL ?_
      refine V_pk (fr' := [(4, .sl 0 (0 + 1))]) (Lc := [.own 9 1 (0 + 1) []]) 0 [0] ?_
      refine V_rv (fr' := [(4, .sl 0 0)]) (L' := [.own 9 1 0 []]) 0 0 ?_
      refine V_ret ?_
      replace h := Option.some.inj h
      subst h
      exact R_rH [.sl 0 0] [.own 9 1 0 []] ⟨rfl, rfl⟩
    · replace h := cnd_f c2 h
      refine V_skip ?_
      show V _ _ _ _ _
      refine goL ?_
      refine V_adT 9 1 4 ?_
      refine V_ret ?_
      replace h := Option.some.inj h
      subst h
      exact R_rH [.sl 0 0] [.own 9 1 0 []] ⟨rfl, rfl⟩
def b_ConcatS_l2 : List (List (List UInt8)) → (List (List UInt8)) → Option (List (List UInt8))
  | [], y8 => (some y8)
  | x13 :: xs, y8 => gd (y8.length + x13.length ≤ 4294967296) (
b_ConcatS_l2 xs (y8 ++ x13))
def b_ConcatS_l1 (a0 : List (List (List UInt8))) : List (List (List UInt8)) → Int → Option (List (List UInt8))
  | [], y2 => bnd (b_GrowN y2) fun x7 =>
b_ConcatS_l2 a0 x7
  | x5 :: xs, y2 => (cnd (decide ((IntKind.i64.wrap (y2 + (x5.length : Int))) < 0)) (
none) (
b_ConcatS_l1 a0 xs (IntKind.i64.wrap (y2 + (x5.length : Int)))))
def b_ConcatS (a0 : List (List (List UInt8))) : Option (List (List UInt8)) :=
b_ConcatS_l1 a0 a0 0
set_option maxHeartbeats 4000000 in
theorem w_ConcatS (a0 : List (List (List UInt8))) {r : List (List UInt8)} (h : b_ConcatS a0 = some r) : SpecP Try.prog 65 [.d (.sl 1 (eLstrings a0))] [.sl 1 (eStrs r)] := by
  unfold b_ConcatS at h
  refine SpecP_intro Try.func65 rfl (by kernel_rfl) rfl fun A _ => ?_
  refine goL ?_
  refine V_block ?_
  show V _ _ _ _ _
  refine V_bd 0 (fun z3 => ?_)
  refine V_loop2 (fun (y1 : Nat) (y2 : Int) => ⟨[(0, .d (.sl 1 (eLstrings a0))), (3, .d (.i .i64 y2)), (9, .d (.sl 1 (eLstrings a0))), (10, .d (.i .i64 (a0.length : Int))), (11, .d (.i .i64 (y1 : Int)))], [], Try.f65.ntmps⟩) (fun y1 y2 => b_ConcatS_l1 a0 (a0.drop y1) y2 = some r) (fun y1 y2 => a0.length - y1) 0 0 ⟨rfl, ⟨⟨rfl, rfl⟩, ⟨rfl, rfl⟩, ⟨rfl, rfl⟩, ⟨rfl, rfl⟩, ⟨rfl, rfl⟩, trivial⟩, ⟨[], rfl⟩, rfl⟩ h ?_
  rintro y1 y2 h
  refine goL ?_
  refine V_seq (V_cb (fun c4 => ?_) (fun c4 => ?_))
  · have hky12 := kltN c4
    obtain ⟨x5, hx5, hdx5⟩ := drop_at hky12
    rw [hdx5, b_ConcatS_l1.eq_2] at h
    refine V_skip ?_
    show V _ _ _ _ _
    refine V_seq (V_block ?_)
    refine goL ?_
    refine VO_r (QR_ixn y1 (gLstring hx5)) ?_
    refine goL ?_
    refine VO_r (QR_ar) ?_
    refine goL ?_
    refine V_cb (fun c6 => ?_) (fun c6 => ?_)
    · replace h := cnd_t c6 h
      cases h
    · replace h := cnd_f c6 h
      refine V_skip ?_
      show V _ _ _ _ _
      refine goL ?_
      refine VO_r (QR_inc y1 (by omega)) ?_
      refine goL ?_
      exact ⟨(y1 + 1), (IntKind.i64.wrap (y2 + (x5.length : Int))), h, by omega, ⟨rfl, ⟨⟨rfl, rfl⟩, ⟨rfl, rfl⟩, ⟨rfl, rfl⟩, ⟨rfl, rfl⟩, ⟨rfl, rfl⟩, trivial⟩, ⟨_, rfl⟩, rfl⟩⟩
  · have hky12 := kgeN c4
    rw [drop_end hky12, b_ConcatS_l1.eq_1] at h
    refine V_exit ?_
    show V _ _ _ _ _
    refine goL ?_
    obtain ⟨x7, hx7, h⟩ := bnd_s h
    refine VO_cG [] (w_GrowN y2 hx7) ?_
    rintro _ _ ⟨rfl, rfl⟩
    show VO _ _ _ _ ⟨(_, .sl 0 0) :: _, [.own 9 1 0 (eStrs x7)], _⟩ _
    refine goL ?_
    refine V_block ?_
    show V _ _ _ _ _
    refine V_bd 25 (fun z11 => ?_)
    refine V_loop3 (fun (y10 : Nat) (y8 : List (List UInt8)) (v9 : Nat) => ⟨[(6, .sl 0 v9), (25, .d (.sl 1 (eLstrings a0))), (26, .d (.i .i64 (a0.length : Int))), (27, .d (.i .i64 (y10 : Int)))], [.own 9 1 v9 (eStrs y8)], Try.f65.ntmps⟩) (fun y10 y8 v9 => b_ConcatS_l2 (a0.drop y10) y8 = some r) (fun y10 y8 v9 => a0.length - y10) 0 x7 0 ⟨rfl, ⟨⟨rfl, rfl⟩, ⟨rfl, rfl⟩, ⟨rfl, rfl⟩, ⟨rfl, rfl⟩, trivial⟩, ⟨[], rfl⟩, rfl⟩ h ?_
    rintro y10 y8 v9 h
    refine goL ?_
    refine V_seq (V_cb (fun c12 => ?_) (fun c12 => ?_))
    · have hky102 := kltN c12
      obtain ⟨x13, hx13, hdx13⟩ := drop_at hky102
      rw [hdx13, b_ConcatS_l2.eq_2] at h
      refine V_skip ?_
      show V _ _ _ _ _
      refine V_seq (V_block ?_)
      refine goL ?_
      refine VO_r (QR_ixn y10 (gLstring hx13)) ?_
      refine goL ?_
      obtain ⟨g14, h⟩ := gd_s h
      refine VO_ap g14 ?_
      refine goL ?_
      refine VO_r (QR_inc y10 (by omega)) ?_
      refine goL ?_
      exact ⟨(y10 + 1), (y8 ++ x13), (v9 + 1), h, by omega, ⟨rfl, ⟨⟨rfl, rfl⟩, ⟨rfl, rfl⟩, ⟨rfl, rfl⟩, ⟨rfl, rfl⟩, trivial⟩, ⟨_, rfl⟩, rfl⟩⟩
    · have hky102 := kgeN c12
      rw [drop_end hky102, b_ConcatS_l2.eq_1] at h
      refine V_exit ?_
      show V _ _ _ _ _
      refine goL ?_
      refine V_freezeO 0 rfl rfl ?_
      refine V_ret ?_
      replace h := Option.some.inj h
      subst h
      exact R_rP
def b_iUnion_l1 : List (List UInt8) → (List (List UInt8)) → (List (List UInt8)) → Option (List (List UInt8))
  | [], y2, y4 => (some y2)
  | x9 :: xs, y2, y4 => (cnd (!(decide (x9 ∈ y4))) (
gd (y2.length + [x9].length ≤ 4294967296) (
b_iUnion_l1 xs (y2 ++ [x9]) (y4 ++ [x9]))) (
b_iUnion_l1 xs y2 y4))
def b_iUnion (a0 : List (List UInt8)) (a1 : List (List UInt8)) : Option (List (List UInt8)) :=
bnd (b_ConcatS [a0, a1]) fun x1 =>
b_iUnion_l1 x1 [] []
set_option maxHeartbeats 4000000 in
theorem w_iUnion (a0 : List (List UInt8)) (a1 : List (List UInt8)) {r : List (List UInt8)} (h : b_iUnion a0 a1 = some r) : SpecO Try.prog 47 [.d (.sl 1 (eStrs a0)), .d (.sl 1 (eStrs a1))] [9] [.sl 1 (eStrs r)] := by
  unfold b_iUnion at h
  refine SpecO_intro Try.func47 rfl (by kernel_rfl) rfl (by simp) fun A _ => ?_
  refine goL ?_
  refine VO_l0 ?_
  refine goL ?_
  refine VO_mkm ?_
  refine goL ?_
  refine VO_lb (us := eLstrings [a0, a1]) ?_
  refine VO_freeze 2 rfl rfl ?_
  obtain ⟨x1, hx1, h⟩ := bnd_s h
  refine VO_k (Q_cl (w_ConcatS [a0, a1] hx1)) ?_
  refine goL ?_
  refine V_block ?_
  show V _ _ _ _ _
  refine V_bd 14 (fun z7 => ?_)
  refine V_loop4 (fun (y6 : Nat) (y2 : List (List UInt8)) (y4 : List (List UInt8)) (v3 : Nat) => ⟨[(5, .sl 0 v3), (6, .sl 1 0), (14, .d (.sl 1 (eStrs x1))), (15, .d (.i .i64 (x1.length : Int))), (16, .d (.i .i64 (y6 : Int)))], [.own 9 1 v3 (eStrs y2), .set y4, .frz 24 1 0 (eLstrings [a0, a1])], Try.f47.ntmps⟩) (fun y6 y2 y4 v3 => b_iUnion_l1 (x1.drop y6) y2 y4 = some r) (fun y6 y2 y4 v3 => x1.length - y6) 0 [] [] 0 ⟨rfl, ⟨⟨rfl, rfl⟩, ⟨rfl, rfl⟩, ⟨rfl, rfl⟩, ⟨rfl, rfl⟩, ⟨rfl, rfl⟩, trivial⟩, ⟨[], rfl⟩, rfl⟩ h ?_
  rintro y6 y2 y4 v3 h
  refine goL ?_
  refine V_seq (V_cb (fun c8 => ?_) (fun c8 => ?_))
  · have hky62 := kltN c8
    obtain ⟨x9, hx9, hdx9⟩ := drop_at hky62
    rw [hdx9, b_iUnion_l1.eq_2] at h
    refine V_skip ?_
    show V _ _ _ _ _
    refine V_seq (V_block ?_)
    refine goL ?_
    refine VO_r (QR_ixn y6 (gStr hx9)) ?_
    refine goL ?_
    refine VO_k (Q_mlk) ?_
    refine goL ?_
    refine V_cb (fun c10 => ?_) (fun c10 => ?_)
    · replace h := cnd_t c10 h
      refine goL ?_
      refine VO_mset ?_
      refine goL ?_
      refine VO_l1t x9 ?_
      obtain ⟨g11, h⟩ := gd_s h
      refine VO_ap g11 ?_
      refine goL ?_
      refine VO_r (QR_inc y6 (by omega)) ?_
      refine goL ?_
      exact ⟨(y6 + 1), (y2 ++ [x9]), (y4 ++ [x9]), (v3 + 1), h, by omega, ⟨rfl, ⟨⟨rfl, rfl⟩, ⟨rfl, rfl⟩, ⟨rfl, rfl⟩, ⟨rfl, rfl⟩, ⟨rfl, rfl⟩, trivial⟩, ⟨_, rfl⟩, rfl⟩⟩
    · replace h := cnd_f c10 h
      refine V_skip ?_
      show V _ _ _ _ _
      refine goL ?_
      refine VO_r (QR_inc y6 (by omega)) ?_
      refine goL ?_
      exact ⟨(y6 + 1), y2, y4, v3, h, by omega, ⟨rfl, ⟨⟨rfl, rfl⟩, ⟨rfl, rfl⟩, ⟨rfl, rfl⟩, ⟨rfl, rfl⟩, ⟨rfl, rfl⟩, trivial⟩, ⟨_, rfl⟩, rfl⟩⟩
  · have hky62 := kgeN c8
    rw [drop_end hky62, b_iUnion_l1.eq_1] at h
    refine V_exit ?_
    show V _ _ _ _ _
    refine goL ?_
    refine V_ret ?_
    replace h := Option.some.inj h
    subst h
    exact R_rO
end Go.Proofs.Ytiaghdodeinecaa
set_option linter.unusedVariables false
set_option linter.unusedSimpArgs false
set_option linter.unusedSectionVars false
namespace Go.Proofs.Ytiaghdodeinecaa
open Go Go.Eng
attribute [local irreducible] V VO VQ VY Quiet QR SpecP SpecO Rng PostP PostO PostG
def b_varType (a0 : List UInt8) : TType :=
(TType.mk 1 a0 [])
set_option maxHeartbeats 4000000 in
theorem w_varType (a0 : List UInt8) : SpecP Try.prog 50 [.d (.s a0)] [eType (b_varType a0)] := by
  obtain ⟨r, h⟩ : ∃ r, b_varType a0 = r := ⟨_, rfl⟩
  rw [h]
  unfold b_varType at h
  refine SpecP_intro Try.func50 rfl (by kernel_rfl) rfl fun A _ => ?_
  refine goL ?_
  refine VO_k (Q_build TBd.h TZ.h rfl (by repeat constructor)) ?_
  refine goL ?_
  refine V_ret ?_
  subst h
  exact R_rP
def b_renApart_l2 (y5 : List (List UInt8)) (k2_0 : (List UInt8) → Option (List TBinding)) : Nat → (List UInt8) → Option (List TBinding)
  | 0, y15 => none
  | n16 + 1, y15 => (cnd (b_ContainsS y5 y15) (
gd (y15.length + ([122] : List UInt8).length ≤ 4294967296) (
b_renApart_l2 y5 k2_0 n16 (y15 ++ ([122] : List UInt8)))) (
(k2_0 y15)))
def b_renApart_l1 (a0 : List TType) (n0 : Nat) : List (List UInt8) → (List (List UInt8)) → (List TBinding) → Option (List TBinding)
  | [], y5, y7 => (some y7)
  | x12 :: xs, y5, y7 => bnd (b_variablesOf a0) fun x13 =>
(cnd (!(b_ContainsS x13 x12)) (
b_renApart_l1 a0 n0 xs y5 y7) (
b_renApart_l2 y5 (fun y15 => gd (y5.length + [y15].length ≤ 4294967296) (
lt_ (b_varType y15) fun x20 =>
gd (y7.length + [(TBinding.mk x12 x20)].length ≤ 4294967296) (
b_renApart_l1 a0 n0 xs (y5 ++ [y15]) (y7 ++ [(TBinding.mk x12 x20)])))) n0 x12))
def b_renApart (a0 : List TType) (a1 : List TType) (n0 : Nat) : Option (List TBinding) :=
bnd (b_variablesOf a0) fun x1 =>
bnd (b_variablesOf a1) fun x2 =>
bnd (b_iUnion x1 x2) fun x3 =>
bnd (b_variablesOf a1) fun x4 =>
b_renApart_l1 a0 n0 x4 x3 []
set_option maxHeartbeats 4000000 in
theorem w_renApart (a0 : List TType) (a1 : List TType) {n0 : Nat} {r : List TBinding} (h : b_renApart a0 a1 n0 = some r) : SpecP Try.prog 27 [.d (.sl 3 (eTypes a0)), .d (.sl 3 (eTypes a1))] [.sl 4 (eBindings r)] := by
  unfold b_renApart at h
  refine SpecP_intro Try.func27 rfl (by kernel_rfl) rfl fun A _ => ?_
  refine goL ?_
  obtain ⟨x1, hx1, h⟩ := bnd_s h
  refine VO_r (QR_call (w_variablesOf a0 hx1)) ?_
  refine goL ?_
  obtain ⟨x2, hx2, h⟩ := bnd_s h
  refine VO_r (QR_call (w_variablesOf a1 hx2)) ?_
  obtain ⟨x3, hx3, h⟩ := bnd_s h
  refine VO_co (w_iUnion x1 x2 hx3) ?_
  refine goL ?_
  refine VO_l0a ?_
  refine goL ?_
  obtain ⟨x4, hx4, h⟩ := bnd_s h
  refine VO_r (QR_call (w_variablesOf a1 hx4)) ?_
  refine goL ?_
  refine V_block ?_
  show V _ _ _ _ _
  refine V_bd 17 (fun z10 => ?_)
  refine V_loop5 (fun (y9 : Nat) (y5 : List (List UInt8)) (y7 : List TBinding) (v6 : Nat) (v8 : Nat) => ⟨[(0, .d (.sl 3 (eTypes a0))), (5, .sl 0 v6), (6, .sl 1 v8), (17, .d (.sl 1 (eStrs x4))), (18, .d (.i .i64 (x4.length : Int))), (19, .d (.i .i64 (y9 : Int)))], [.own 9 1 v6 (eStrs y5), .arr 37 4 v8 (eBindings y7)], Try.f27.ntmps⟩) (fun y9 y5 y7 v6 v8 => b_renApart_l1 a0 n0 (x4.drop y9) y5 y7 = some r) (fun y9 y5 y7 v6 v8 => x4.length - y9) 0 x3 [] 0 0 ⟨rfl, ⟨⟨rfl, rfl⟩, ⟨rfl, rfl⟩, ⟨rfl, rfl⟩, ⟨rfl, rfl⟩, ⟨rfl, rfl⟩, ⟨rfl, rfl⟩, trivial⟩, ⟨[], rfl⟩, rfl⟩ h ?_
  rintro y9 y5 y7 v6 v8 h
  refine goL ?_
  refine V_seq (V_cb (fun c11 => ?_) (fun c11 => ?_))
  · have hky92 := kltN c11
    obtain ⟨x12, hx12, hdx12⟩ := drop_at hky92
    rw [hdx12, b_renApart_l1.eq_2] at h
    refine V_skip ?_
    show V _ _ _ _ _
    refine V_seq (V_block ?_)
    refine goL ?_
    refine VO_r (QR_ixn y9 (gStr hx12)) ?_
    refine goL ?_
    obtain ⟨x13, hx13, h⟩ := bnd_s h
    refine VO_r (QR_call (w_variablesOf a0 hx13)) ?_
    refine goL ?_
    refine VO_r (QR_call (w_ContainsS x13 x12)) ?_
    refine goL ?_
    refine V_cb (fun c14 => ?_) (fun c14 => ?_)
    · replace h := cnd_t c14 h
      refine V_exit ?_
      show V _ _ _ _ _
      refine goL ?_
      refine VO_r (QR_inc y9 (by omega)) ?_
      refine goL ?_
      exact ⟨(y9 + 1), y5, y7, v6, v8, h, by omega, ⟨rfl, ⟨⟨rfl, rfl⟩, ⟨rfl, rfl⟩, ⟨rfl, rfl⟩, ⟨rfl, rfl⟩, ⟨rfl, rfl⟩, ⟨rfl, rfl⟩, trivial⟩, ⟨_, rfl⟩, rfl⟩⟩
    · replace h := cnd_f c14 h
      refine V_skip ?_
      show V _ _ _ _ _
      refine goL ?_
      refine V_seq (V_block ?_)
      show V _ _ _ _ _
      refine V_loop2 (fun (n16 : Nat) (y15 : List UInt8) => ⟨[(0, .d (.sl 3 (eTypes a0))), (5, .sl 0 v6), (6, .sl 1 v8), (8, .d (.s x12)), (9, .d (.s y15)), (17, .d (.sl 1 (eStrs x4))), (18, .d (.i .i64 (x4.length : Int))), (19, .d (.i .i64 (y9 : Int)))], [.own 9 1 v6 (eStrs y5), .arr 37 4 v8 (eBindings y7)], Try.f27.ntmps⟩) (fun n16 y15 => b_renApart_l2 y5 (fun y15 => gd (y5.length + [y15].length ≤ 4294967296) (
lt_ (b_varType y15) fun x20 =>
gd (y7.length + [(TBinding.mk x12 x20)].length ≤ 4294967296) (
b_renApart_l1 a0 n0 (x4.drop (y9 + 1)) (y5 ++ [y15]) (y7 ++ [(TBinding.mk x12 x20)])))) n16 y15 = some r) (fun n16 y15 => n16) n0 x12 ⟨rfl, ⟨⟨rfl, rfl⟩, ⟨rfl, rfl⟩, ⟨rfl, rfl⟩, ⟨rfl, rfl⟩, ⟨rfl, rfl⟩, ⟨rfl, rfl⟩, ⟨rfl, rfl⟩, ⟨rfl, rfl⟩, trivial⟩, ⟨[], rfl⟩, rfl⟩ h ?_
      rintro n16 y15 h
      rcases n16 with _ | n16
      · cases h
      rw [b_renApart_l2.eq_2] at h
      refine goL ?_
      refine VO_k (Q_cb (w_ContainsS y5 y15)) ?_
      refine goL ?_
      refine V_cb (fun c17 => ?_) (fun c17 => ?_)
      · replace h := cnd_t c17 h
        refine V_skip ?_
        show V _ _ _ _ _
        refine V_block ?_
        refine goL ?_
        obtain ⟨g18, h⟩ := gd_s h
        refine VO_r (QR_cat g18) ?_
        refine goL ?_
        exact ⟨n16, (y15 ++ ([122] : List UInt8)), h, Nat.lt_succ_self _, ⟨rfl, ⟨⟨rfl, rfl⟩, ⟨rfl, rfl⟩, ⟨rfl, rfl⟩, ⟨rfl, rfl⟩, ⟨rfl, rfl⟩, ⟨rfl, rfl⟩, ⟨rfl, rfl⟩, ⟨rfl, rfl⟩, trivial⟩, ⟨_, rfl⟩, rfl⟩⟩
      · replace h := cnd_f c17 h
        refine V_exit ?_
        show V _ _ _ _ _
        refine goL ?_
        refine VO_l1t y15 ?_
        obtain ⟨g19, h⟩ := gd_s h
        refine VO_ap g19 ?_
        refine goL ?_
        obtain ⟨x20, hx20, h⟩ := lt_x h
        obtain ⟨x20_0, x20_1, x20_2⟩ := x20
        have sx20 := w_varType y15
        rw [hx20] at sx20
        refine VO_r (QR_call (sx20)) ?_
        refine VO_k (Q_build TBd.h TZ.h rfl (by repeat constructor)) ?_
        refine VO_la1 (u := (.st [.s x12, .st [.i .i64 x20_0, .s x20_1, .sl 3 (eTypes x20_2)]])) ?_
        obtain ⟨g21, h⟩ := gd_s h
        refine VO_apa g21 ?_
        refine goL ?_
        refine VO_r (QR_inc y9 (by omega)) ?_
        refine goL ?_
        exact ⟨(y9 + 1), (y5 ++ [y15]), (y7 ++ [(TBinding.mk x12 (TType.mk x20_0 x20_1 x20_2))]), (v6 + 1), (v8 + 1), h, by omega, ⟨rfl, ⟨⟨rfl, rfl⟩, ⟨rfl, rfl⟩, ⟨rfl, rfl⟩, ⟨rfl, rfl⟩, ⟨rfl, rfl⟩, ⟨rfl, rfl⟩, trivial⟩, ⟨_, rfl⟩, rfl⟩⟩
  · have hky92 := kgeN c11
    rw [drop_end hky92, b_renApart_l1.eq_1] at h
    refine V_exit ?_
    show V _ _ _ _ _
    refine goL ?_
    refine V_freeze 1 rfl rfl ?_
    refine V_ret ?_
    replace h := Option.some.inj h
    subst h
    exact R_rP
def renApartT (a b : List TType) : Option (List TBinding) := b_renApart a b 1000
theorem t_renApart (a b : List TType) {r : List TBinding} (h : renApartT a b = some r) : SpecP Try.prog 27 [.d (.sl 3 (eTypes a)), .d (.sl 3 (eTypes b))] [.sl 4 (eBindings r)] := w_renApart a b h
def b_iUnifiable (a0 : TType) (a1 : TType) : Option (Bool) :=
bnd (renApartT [a0] [a1]) fun x1 =>
gd (bok x1 ∧ tok a1) (lt_ (apT x1 a1) fun x3 =>
bnd (b_iUnifyF a0 x3) fun x4 =>
(some x4.2))
set_option maxHeartbeats 4000000 in
theorem w_iUnifiable (a0 : TType) (a1 : TType) {r : Bool} (h : b_iUnifiable a0 a1 = some r) : SpecP Try.prog 13 [.d (eType a0), .d (eType a1)] [.b r] := by
  obtain ⟨a0_0, a0_1, a0_2⟩ := a0
  obtain ⟨a1_0, a1_1, a1_2⟩ := a1
  unfold b_iUnifiable at h
  refine SpecP_intro Try.func13 rfl (by kernel_rfl) rfl fun A _ => ?_
  refine goNL ?_
  obtain ⟨x1, hx1, h⟩ := bnd_s h
  obtain ⟨g2, h⟩ := gd_s h
  obtain ⟨x3, hx3, h⟩ := lt_x h
  obtain ⟨x3_0, x3_1, x3_2⟩ := x3
  have sx3 := (t_iApply x1 (TType.mk a1_0 a1_1 a1_2) g2).p
  rw [hx3] at sx3
  obtain ⟨x4, hx4, h⟩ := bnd_s h
  obtain ⟨x4_0, x4_1⟩ := x4
  refine V_seq_drawTJ (P := Try.prog) Mix.h (.q 0 (.q 1 (.q 3 (.q 6 (.h 2 (.h 4 (.h 5 (.q 7 (.q 8 (.q 9 (.q 10 (.q 11 (.q 12 (.q 13 .nil))))))) .nil) .nil) (.h 4 (.h 2 (.h 5 (.q 7 (.q 8 (.q 9 (.q 10 (.q 11 (.q 12 (.q 13 .nil))))))) .nil) .nil) .nil)))))) ⟨[(6, .d (.b x4_1))], [.box [.d (.i .i64 a0_0), .d (.s a0_1), .d (.sl 3 (eTypes a0_2))], .box [.d (.i .i64 a1_0), .d (.s a1_1), .d (.sl 3 (eTypes a1_2))], .frz 27 3 0 (eTypes [(TType.mk a0_0 a0_1 a0_2)]), .frz 27 3 0 (eTypes [(TType.mk a1_0 a1_1 a1_2)])], Try.f13.ntmps⟩ (by kernel_rfl) ?_ ?_
  · refine goT ?_
    refine VT_h (VY_lb (T := 25) (us := eTypes [(TType.mk a0_0 a0_1 a0_2)]) VY_e) ?_ ?_
    · refine VT_h1 (VY_lb (T := 25) (us := eTypes [(TType.mk a1_0 a1_1 a1_2)]) VY_e) ?_
      refine VT_h1 (VY_frz 2 rfl rfl (VY_frz 3 rfl rfl (VY_clh (t_renApart [(TType.mk a0_0 a0_1 a0_2)] [(TType.mk a1_0 a1_1 a1_2)] hx1) VY_e))) ?_
      refine VT_q (VY_ri rfl (QR_call (sx3)) VY_e) ?_
      refine VT_q (VY_ri rfl (QR_call (w_iUnifyF (TType.mk a0_0 a0_1 a0_2) (TType.mk x3_0 x3_1 x3_2) hx4)) VY_e) ?_
      refine goT ?_
      refine VT_nil ?_
      exact R_pk 0 [0, 1, 2, 3]
    refine VT_h1 (VY_lb (T := 25) (us := eTypes [(TType.mk a1_0 a1_1 a1_2)]) VY_e) ?_
    refine VT_h1 (VY_lb (T := 25) (us := eTypes [(TType.mk a0_0 a0_1 a0_2)]) VY_e) ?_
    refine VT_h1 (VY_frz 3 rfl rfl (VY_frz 2 rfl rfl (VY_clh (t_renApart [(TType.mk a0_0 a0_1 a0_2)] [(TType.mk a1_0 a1_1 a1_2)] hx1) VY_e))) ?_
    refine VT_q (VY_ri rfl (QR_call (sx3)) VY_e) ?_
    refine VT_q (VY_ri rfl (QR_call (w_iUnifyF (TType.mk a0_0 a0_1 a0_2) (TType.mk x3_0 x3_1 x3_2) hx4)) VY_e) ?_
    refine goT ?_
    refine VT_nil ?_
    exact R_pk 0 [0, 1, 3, 2]
  refine goL ?_
  refine V_ret ?_
  replace h := Option.some.inj h
  subst h
  exact R_rP
end Go.Proofs.Ytiaghdodeinecaa
set_option linter.unusedVariables false
set_option linter.unusedSimpArgs false
set_option linter.unusedSectionVars false
namespace Go.Proofs.Ytiaghdodeinecaa
open Go Go.Eng
attribute [local irreducible] V VO VQ VY Quiet QR SpecP SpecO Rng PostP PostO PostG
/-! ### the variables of a type -/
mutual
theorem varsT_mem (v : List UInt8) : ∀ (t : TType) (l : List (List UInt8)), v ∈ varsT t l ↔ v ∈ l ∨ v ∈ tvs t
  | ⟨k, n, ts⟩, l => by
    simp only [varsT, tvs]
    rw [varsTs_mem v ts]
    unfold addVar
    by_cases hk : k = 1
    · by_cases hn : n ∈ l
      · simp only [hk, hn, not_true, and_false, if_false, if_true, List.mem_append, List.mem_singleton]
        constructor
        · rintro (h | h)
          · exact .inl h
          · exact .inr (.inr h)
        · rintro (h | rfl | h)
          · exact .inl h
          · exact .inl hn
          · exact .inr h
      · simp only [hk, hn, not_false_eq_true, and_self, if_true, List.mem_append, List.mem_singleton]
        constructor
        · rintro ((h | h) | h)
          · exact .inl h
          · exact .inr (.inl h)
          · exact .inr (.inr h)
        · rintro (h | h | h)
          · exact .inl (.inl h)
          · exact .inl (.inr h)
          · exact .inr h
    · simp [hk]
theorem varsTs_mem (v : List UInt8) : ∀ (ts : List TType) (l : List (List UInt8)), v ∈ varsTs ts l ↔ v ∈ l ∨ v ∈ tvss ts
  | [], l => by simp [varsTs, tvss]
  | a :: ts, l => by
    simp only [varsTs, tvss, List.mem_append]
    rw [varsTs_mem v ts, varsT_mem v a]
    constructor
    · rintro ((h | h) | h)
      · exact .inl h
      · exact .inr (.inl h)
      · exact .inr (.inr h)
    · rintro (h | h | h)
      · exact .inl (.inl h)
      · exact .inl (.inr h)
      · exact .inr h
end
theorem sTV_eq (t : TType) (h : tnd t ≤ 4000000) : b_sTypeVariables t = some (varsT t []) := by
  unfold b_sTypeVariables
  rw [gd_eq (by simp only [List.length_nil]; omega)]
  rfl
theorem variablesOf_eq (t : TType) (h : tnd t ≤ 4000000) : b_variablesOf [t] = some (varsT t []) := by
  unfold b_variablesOf
  simp only [b_variablesOf_l1, lt_, List.length_nil]
  rw [gd_eq (by omega)]
/-! ### Union: it comes to an end -/
theorem grow_eq (n : Nat) (h : n ≤ 4000000) : b_GrowN n = some [] := by
  unfold b_GrowN
  rw [show decide ((n : Int) < 0) = false from decide_eq_false (by omega), cnd_false]
  have h0 : IntKind.i64.wrap ((0 : Int) - 0) = 0 := wrap_in _ (by omega) (by omega)
  have h1 : IntKind.i64.wrap ((n : Int) - 0) = n := by rw [wrap_in _ (by omega) (by omega)]; omega
  rw [h0, h1]
  cases hb : decide ((n : Int) > 0) with
  | true => rw [cnd_true, gd_eq ⟨of_decide_eq_true hb, by omega⟩]
  | false => rfl
theorem concat_eq (a b : List (List UInt8)) (ha : a.length ≤ 1000000) (hb : b.length ≤ 1000000) : b_ConcatS [a, b] = some (a ++ b) := by
  unfold b_ConcatS
  simp only [b_ConcatS_l1]
  have h1 : IntKind.i64.wrap (0 + (a.length : Int)) = a.length := by rw [wrap_in _ (by omega) (by omega)]; omega
  have h2 : IntKind.i64.wrap ((a.length : Int) + (b.length : Int)) = ((a.length + b.length : Nat) : Int) := by rw [wrap_in _ (by omega) (by omega)]; omega
  rw [h1, h2, show decide ((a.length : Int) < 0) = false from decide_eq_false (by omega), show decide ((((a.length + b.length : Nat) : Int)) < 0) = false from decide_eq_false (by omega), cnd_false, cnd_false, bnd_eq (grow_eq _ (by omega))]
  simp only [b_ConcatS_l2]
  rw [gd_eq (by simp; omega), gd_eq (by simp; omega)]
  rfl
/-- The elements of a row, each once. -/
def onceS : List (List UInt8) → List (List UInt8) → List (List UInt8)
  | [], y => y
  | x :: xs, y => if x ∈ y then onceS xs y else onceS xs (y ++ [x])
theorem union_l1 : ∀ (xs y : List (List UInt8)), y.length + xs.length ≤ 4000000 → b_iUnion_l1 xs y y = some (onceS xs y)
  | [], y, _ => rfl
  | x :: xs, y, h => by
    simp only [List.length_cons] at h
    simp only [b_iUnion_l1, onceS]
    by_cases hx : x ∈ y
    · simp only [hx, decide_true, Bool.not_true, cnd_false, if_true]
      exact union_l1 xs y (by omega)
    · simp only [hx, decide_false, Bool.not_false, cnd_true, if_false]
      rw [gd_eq (by simp; omega)]
      exact union_l1 xs _ (by simp; omega)
theorem union_eq (a b : List (List UInt8)) (ha : a.length ≤ 1000000) (hb : b.length ≤ 1000000) : b_iUnion a b = some (onceS (a ++ b) []) := by
  unfold b_iUnion
  rw [bnd_eq (concat_eq a b ha hb)]
  exact union_l1 _ [] (by simp; omega)
end Go.Proofs.Ytiaghdodeinecaa
set_option linter.unusedVariables false
set_option linter.unusedSimpArgs false
set_option linter.unusedSectionVars false
namespace Go.Proofs.Ytiaghdodeinecaa
open Go Go.Eng
attribute [local irreducible] V VO VQ VY Quiet QR SpecP SpecO Rng PostP PostO PostG
def b_sUnion_l2 : List (List UInt8) → (List (List UInt8)) → Option (List (List UInt8))
  | [], y9 => (some y9)
  | x14 :: xs, y9 => (cnd (!(b_l1Has y9 x14)) (
gd (y9.length + [x14].length ≤ 4294967296) (
b_sUnion_l2 xs (y9 ++ [x14]))) (
b_sUnion_l2 xs y9))
def b_sUnion_l1 (a1 : List (List UInt8)) : List (List UInt8) → (List (List UInt8)) → Option (List (List UInt8))
  | [], y1 => b_sUnion_l2 a1 y1
  | x6 :: xs, y1 => (cnd (!(b_l1Has y1 x6)) (
gd (y1.length + [x6].length ≤ 4294967296) (
b_sUnion_l1 a1 xs (y1 ++ [x6]))) (
b_sUnion_l1 a1 xs y1))
def b_sUnion (a0 : List (List UInt8)) (a1 : List (List UInt8)) : Option (List (List UInt8)) :=
b_sUnion_l1 a1 a0 []
set_option maxHeartbeats 4000000 in
theorem w_sUnion (a0 : List (List UInt8)) (a1 : List (List UInt8)) {r : List (List UInt8)} (h : b_sUnion a0 a1 = some r) : SpecO Try.prog 52 [.d (.sl 1 (eStrs a0)), .d (.sl 1 (eStrs a1))] [9] [.sl 1 (eStrs r)] := by
  unfold b_sUnion at h
  refine SpecO_intro Try.func52 rfl (by kernel_rfl) rfl (by simp) fun A _ => ?_
  refine goL ?_
  refine VO_l0 ?_
  refine goL ?_
  refine V_block ?_
  show V _ _ _ _ _
  refine V_bd 0 (fun z4 => ?_)
  refine V_loop3 (fun (y3 : Nat) (y1 : List (List UInt8)) (v2 : Nat) => ⟨[(0, .d (.sl 1 (eStrs a0))), (1, .d (.sl 1 (eStrs a1))), (5, .sl 0 v2), (6, .d (.i .i64 (y3 : Int)))], [.own 9 1 v2 (eStrs y1)], Try.f52.ntmps⟩) (fun y3 y1 v2 => b_sUnion_l1 a1 (a0.drop y3) y1 = some r) (fun y3 y1 v2 => a0.length - y3) 0 [] 0 ⟨rfl, ⟨⟨rfl, rfl⟩, ⟨rfl, rfl⟩, ⟨rfl, rfl⟩, ⟨rfl, rfl⟩, trivial⟩, ⟨[], rfl⟩, rfl⟩ h ?_
  rintro y3 y1 v2 h
  refine goL ?_
  refine V_cb (fun c5 => ?_) (fun c5 => ?_)
  · have hky32 := kltN c5
    obtain ⟨x6, hx6, hdx6⟩ := drop_at hky32
    rw [hdx6, b_sUnion_l1.eq_2] at h
    refine V_skip ?_
    show V _ _ _ _ _
    refine V_seq (V_block ?_)
    refine goL ?_
    refine VO_r (QR_ixn y3 (gStr hx6)) ?_
    refine goL ?_
    refine VO_k (Q_cb (w_l1Has y1 x6)) ?_
    refine goL ?_
    refine V_cb (fun c7 => ?_) (fun c7 => ?_)
    · replace h := cnd_t c7 h
      refine goL ?_
      refine VO_r (QR_ixn y3 (gStr hx6)) ?_
      refine goL ?_
      refine VO_l1t x6 ?_
      obtain ⟨g8, h⟩ := gd_s h
      refine VO_ap g8 ?_
      refine goL ?_
      refine VO_r (QR_inc y3 (by omega)) ?_
      refine goL ?_
      exact ⟨(y3 + 1), (y1 ++ [x6]), (v2 + 1), h, by omega, ⟨rfl, ⟨⟨rfl, rfl⟩, ⟨rfl, rfl⟩, ⟨rfl, rfl⟩, ⟨rfl, rfl⟩, trivial⟩, ⟨_, rfl⟩, rfl⟩⟩
    · replace h := cnd_f c7 h
      refine V_skip ?_
      show V _ _ _ _ _
      refine goL ?_
      refine VO_r (QR_inc y3 (by omega)) ?_
      refine goL ?_
      exact ⟨(y3 + 1), y1, v2, h, by omega, ⟨rfl, ⟨⟨rfl, rfl⟩, ⟨rfl, rfl⟩, ⟨rfl, rfl⟩, ⟨rfl, rfl⟩, trivial⟩, ⟨_, rfl⟩, rfl⟩⟩
  · have hky32 := kgeN c5
    rw [drop_end hky32, b_sUnion_l1.eq_1] at h
    refine V_exit ?_
    show V _ _ _ _ _
    refine goL ?_
    refine V_block ?_
    show V _ _ _ _ _
    refine V_bd 1 (fun z12 => ?_)
    refine V_loop3 (fun (y11 : Nat) (y9 : List (List UInt8)) (v10 : Nat) => ⟨[(1, .d (.sl 1 (eStrs a1))), (5, .sl 0 v10), (7, .d (.i .i64 (y11 : Int)))], [.own 9 1 v10 (eStrs y9)], Try.f52.ntmps⟩) (fun y11 y9 v10 => b_sUnion_l2 (a1.drop y11) y9 = some r) (fun y11 y9 v10 => a1.length - y11) 0 y1 v2 ⟨rfl, ⟨⟨rfl, rfl⟩, ⟨rfl, rfl⟩, ⟨rfl, rfl⟩, trivial⟩, ⟨[], rfl⟩, rfl⟩ h ?_
    rintro y11 y9 v10 h
    refine goL ?_
    refine V_cb (fun c13 => ?_) (fun c13 => ?_)
    · have hky112 := kltN c13
      obtain ⟨x14, hx14, hdx14⟩ := drop_at hky112
      rw [hdx14, b_sUnion_l2.eq_2] at h
      refine V_skip ?_
      show V _ _ _ _ _
      refine V_seq (V_block ?_)
      refine goL ?_
      refine VO_r (QR_ixn y11 (gStr hx14)) ?_
      refine goL ?_
      refine VO_k (Q_cb (w_l1Has y9 x14)) ?_
      refine goL ?_
      refine V_cb (fun c15 => ?_) (fun c15 => ?_)
      · replace h := cnd_t c15 h
        refine goL ?_
        refine VO_r (QR_ixn y11 (gStr hx14)) ?_
        refine goL ?_
        refine VO_l1t x14 ?_
        obtain ⟨g16, h⟩ := gd_s h
        refine VO_ap g16 ?_
        refine goL ?_
        refine VO_r (QR_inc y11 (by omega)) ?_
        refine goL ?_
        exact ⟨(y11 + 1), (y9 ++ [x14]), (v10 + 1), h, by omega, ⟨rfl, ⟨⟨rfl, rfl⟩, ⟨rfl, rfl⟩, ⟨rfl, rfl⟩, trivial⟩, ⟨_, rfl⟩, rfl⟩⟩
      · replace h := cnd_f c15 h
        refine V_skip ?_
        show V _ _ _ _ _
        refine goL ?_
        refine VO_r (QR_inc y11 (by omega)) ?_
        refine goL ?_
        exact ⟨(y11 + 1), y9, v10, h, by omega, ⟨rfl, ⟨⟨rfl, rfl⟩, ⟨rfl, rfl⟩, ⟨rfl, rfl⟩, trivial⟩, ⟨_, rfl⟩, rfl⟩⟩
    · have hky112 := kgeN c13
      rw [drop_end hky112, b_sUnion_l2.eq_1] at h
      refine V_exit ?_
      show V _ _ _ _ _
      refine goL ?_
      refine V_ret ?_
      replace h := Option.some.inj h
      subst h
      exact R_rO
def b_sApart_l2 (y3 : List (List UInt8)) (k2_0 : (List UInt8) → Option (TType)) : Nat → (List UInt8) → Option (TType)
  | 0, y13 => none
  | n14 + 1, y13 => (cnd (b_l1Has y3 y13) (
gd (y13.length + ([122] : List UInt8).length ≤ 4294967296) (
b_sApart_l2 y3 k2_0 n14 (y13 ++ ([122] : List UInt8)))) (
(k2_0 y13)))
def b_sApart_l1 (a0 : TType) (a1 : List (List UInt8)) (n0 : Nat) : List (List UInt8) → (List (List UInt8)) → (List TBinding) → Option (TType)
  | [], y3, y5 => gd (bok y5 ∧ tok a0) (lt_ (apT y5 a0) fun x21 =>
(some x21))
  | x10 :: xs, y3, y5 => (cnd (!(b_l1Has a1 x10)) (
b_sApart_l1 a0 a1 n0 xs y3 y5) (
gd (x10.length + ([122] : List UInt8).length ≤ 4294967296) (
b_sApart_l2 y3 (fun y13 => gd (y3.length + [y13].length ≤ 4294967296) (
lt_ (b_sVar y13) fun x18 =>
gd (y5.length + [(TBinding.mk x10 x18)].length ≤ 4294967296) (
b_sApart_l1 a0 a1 n0 xs (y3 ++ [y13]) (y5 ++ [(TBinding.mk x10 x18)])))) n0 (x10 ++ ([122] : List UInt8)))))
def b_sApart (a0 : TType) (a1 : List (List UInt8)) (n0 : Nat) : Option (TType) :=
bnd (b_sTypeVariables a0) fun x1 =>
bnd (b_sUnion a1 x1) fun x2 =>
b_sApart_l1 a0 a1 n0 x1 x2 []
set_option maxHeartbeats 4000000 in
theorem w_sApart (a0 : TType) (a1 : List (List UInt8)) {n0 : Nat} {r : TType} (h : b_sApart a0 a1 n0 = some r) : SpecP Try.prog 29 [.d (eType a0), .d (.sl 1 (eStrs a1))] [eType r] := by
  obtain ⟨a0_0, a0_1, a0_2⟩ := a0
  unfold b_sApart at h
  refine SpecP_intro Try.func29 rfl (by kernel_rfl) rfl fun A _ => ?_
  refine goL ?_
  obtain ⟨x1, hx1, h⟩ := bnd_s h
  refine VO_r (QR_call (w_sTypeVariables (TType.mk a0_0 a0_1 a0_2) hx1)) ?_
  refine goL ?_
  obtain ⟨x2, hx2, h⟩ := bnd_s h
  refine VO_co (w_sUnion a1 x1 hx2) ?_
  refine goL ?_
  refine VO_l0a ?_
  refine goL ?_
  refine V_block ?_
  show V _ _ _ _ _
  refine V_bd 5 (fun z8 => ?_)
  refine V_loop5 (fun (y7 : Nat) (y3 : List (List UInt8)) (y5 : List TBinding) (v4 : Nat) (v6 : Nat) => ⟨[(1, .d (.sl 1 (eStrs a1))), (2, .ptr 0 0), (4, .ptr 1 0), (5, .d (.sl 1 (eStrs x1))), (6, .sl 2 v4), (7, .sl 3 v6), (8, .d (.i .i64 (y7 : Int)))], [.box [.d (.i .i64 a0_0), .d (.s a0_1), .d (.sl 3 (eTypes a0_2))], .box [.d (.i .i64 0), .d (.s []), .nilsl], .own 9 1 v4 (eStrs y3), .arr 37 4 v6 (eBindings y5)], Try.f29.ntmps⟩) (fun y7 y3 y5 v4 v6 => b_sApart_l1 (TType.mk a0_0 a0_1 a0_2) a1 n0 (x1.drop y7) y3 y5 = some r) (fun y7 y3 y5 v4 v6 => x1.length - y7) 0 x2 [] 0 0 ⟨rfl, ⟨⟨rfl, rfl⟩, ⟨rfl, rfl⟩, ⟨rfl, rfl⟩, ⟨rfl, rfl⟩, ⟨rfl, rfl⟩, ⟨rfl, rfl⟩, ⟨rfl, rfl⟩, trivial⟩, ⟨[], rfl⟩, rfl⟩ h ?_
  rintro y7 y3 y5 v4 v6 h
  refine goL ?_
  refine V_cb (fun c9 => ?_) (fun c9 => ?_)
  · have hky72 := kltN c9
    obtain ⟨x10, hx10, hdx10⟩ := drop_at hky72
    rw [hdx10, b_sApart_l1.eq_2] at h
    refine V_skip ?_
    show V _ _ _ _ _
    refine V_seq (V_block ?_)
    refine goL ?_
    refine VO_r (QR_ixn y7 (gStr hx10)) ?_
    refine goL ?_
    refine VO_r (QR_call (w_l1Has a1 x10)) ?_
    refine goL ?_
    refine V_cb (fun c11 => ?_) (fun c11 => ?_)
    · replace h := cnd_t c11 h
      refine V_exit ?_
      show V _ _ _ _ _
      refine goL ?_
      refine VO_r (QR_inc y7 (by omega)) ?_
      refine goL ?_
      exact ⟨(y7 + 1), y3, y5, v4, v6, h, by omega, ⟨rfl, ⟨⟨rfl, rfl⟩, ⟨rfl, rfl⟩, ⟨rfl, rfl⟩, ⟨rfl, rfl⟩, ⟨rfl, rfl⟩, ⟨rfl, rfl⟩, ⟨rfl, rfl⟩, trivial⟩, ⟨_, rfl⟩, rfl⟩⟩
    · replace h := cnd_f c11 h
      refine V_skip ?_
      show V _ _ _ _ _
      refine goL ?_
      refine VO_r (QR_ixn y7 (gStr hx10)) ?_
      refine goL ?_
      obtain ⟨g12, h⟩ := gd_s h
      refine VO_r (QR_cat g12) ?_
      refine goL ?_
      refine V_seq (V_block ?_)
      show V _ _ _ _ _
      refine V_loop2 (fun (n14 : Nat) (y13 : List UInt8) => ⟨[(1, .d (.sl 1 (eStrs a1))), (2, .ptr 0 0), (4, .ptr 1 0), (5, .d (.sl 1 (eStrs x1))), (6, .sl 2 v4), (7, .sl 3 v6), (8, .d (.i .i64 (y7 : Int))), (9, .d (.s y13))], [.box [.d (.i .i64 a0_0), .d (.s a0_1), .d (.sl 3 (eTypes a0_2))], .box [.d (.i .i64 0), .d (.s []), .nilsl], .own 9 1 v4 (eStrs y3), .arr 37 4 v6 (eBindings y5)], Try.f29.ntmps⟩) (fun n14 y13 => b_sApart_l2 y3 (fun y13 => gd (y3.length + [y13].length ≤ 4294967296) (
lt_ (b_sVar y13) fun x18 =>
gd (y5.length + [(TBinding.mk x10 x18)].length ≤ 4294967296) (
b_sApart_l1 (TType.mk a0_0 a0_1 a0_2) a1 n0 (x1.drop (y7 + 1)) (y3 ++ [y13]) (y5 ++ [(TBinding.mk x10 x18)])))) n14 y13 = some r) (fun n14 y13 => n14) n0 (x10 ++ ([122] : List UInt8)) ⟨rfl, ⟨⟨rfl, rfl⟩, ⟨rfl, rfl⟩, ⟨rfl, rfl⟩, ⟨rfl, rfl⟩, ⟨rfl, rfl⟩, ⟨rfl, rfl⟩, ⟨rfl, rfl⟩, ⟨rfl, rfl⟩, trivial⟩, ⟨[], rfl⟩, rfl⟩ h ?_
      rintro n14 y13 h
      rcases n14 with _ | n14
      · cases h
      rw [b_sApart_l2.eq_2] at h
      refine goL ?_
      refine VO_k (Q_cb (w_l1Has y3 y13)) ?_
      refine goL ?_
      refine V_cb (fun c15 => ?_) (fun c15 => ?_)
      · replace h := cnd_t c15 h
        refine V_skip ?_
        show V _ _ _ _ _
        refine V_block ?_
        refine goL ?_
        obtain ⟨g16, h⟩ := gd_s h
        refine VO_r (QR_cat g16) ?_
        refine goL ?_
        exact ⟨n14, (y13 ++ ([122] : List UInt8)), h, Nat.lt_succ_self _, ⟨rfl, ⟨⟨rfl, rfl⟩, ⟨rfl, rfl⟩, ⟨rfl, rfl⟩, ⟨rfl, rfl⟩, ⟨rfl, rfl⟩, ⟨rfl, rfl⟩, ⟨rfl, rfl⟩, ⟨rfl, rfl⟩, trivial⟩, ⟨_, rfl⟩, rfl⟩⟩
      · replace h := cnd_f c15 h
        refine V_exit ?_
        show V _ _ _ _ _
        refine goL ?_
        refine VO_l1t y13 ?_
        obtain ⟨g17, h⟩ := gd_s h
        refine VO_ap g17 ?_
        refine goNL ?_
        refine V_drawX (P := Try.prog) Mix.h [(0, true), (1, true), (2, true), (3, true), (4, true), (5, true), (6, true), (7, true), (8, false), (9, false), (10, true)] (by kernel_rfl) ?_
        refine goY ?_
        refine VY_ri rfl (QR_ixn y7 (gStr hx10)) ?_
        refine goY ?_
        obtain ⟨x18, hx18, h⟩ := lt_x h
        obtain ⟨x18_0, x18_1, x18_2⟩ := x18
        have sx18 := w_sVar y13
        rw [hx18] at sx18
        refine VY_ri rfl (QR_call (sx18)) ?_
        refine goY ?_
        refine VY_lb (T := 38) (us := eBindings [(TBinding.mk x10 (TType.mk x18_0 x18_1 x18_2))]) ?_
        obtain ⟨g19, h⟩ := gd_s h
        refine VY_apa (T := 38) g19 ?_
        refine goY ?_
        refine VY_nil ?_
        refine goL ?_
        refine VO_r (QR_inc y7 (by omega)) ?_
        refine goL ?_
        exact ⟨(y7 + 1), (y3 ++ [y13]), (y5 ++ [(TBinding.mk x10 (TType.mk x18_0 x18_1 x18_2))]), (v4 + 1), (v6 + 1), h, by omega, ⟨rfl, ⟨⟨rfl, rfl⟩, ⟨rfl, rfl⟩, ⟨rfl, rfl⟩, ⟨rfl, rfl⟩, ⟨rfl, rfl⟩, ⟨rfl, rfl⟩, ⟨rfl, rfl⟩, trivial⟩, ⟨_, rfl⟩, rfl⟩⟩
  · have hky72 := kgeN c9
    rw [drop_end hky72, b_sApart_l1.eq_1] at h
    refine V_exit ?_
    show V _ _ _ _ _
    refine goL ?_
    obtain ⟨g20, h⟩ := gd_s h
    obtain ⟨x21, hx21, h⟩ := lt_x h
    obtain ⟨x21_0, x21_1, x21_2⟩ := x21
    have sx21 := t_sApply y5 (TType.mk a0_0 a0_1 a0_2) g20
    rw [hx21] at sx21
    refine VO_co (sx21) ?_
    refine goL ?_
    refine V_freezeO 4 rfl rfl ?_
    refine V_ret ?_
    replace h := Option.some.inj h
    subst h
    exact R_rP
def sApartT (a : TType) (b : List (List UInt8)) : Option TType := b_sApart a b 1000
theorem t_sApart (a : TType) (b : List (List UInt8)) {r : TType} (h : sApartT a b = some r) : SpecP Try.prog 29 [.d (eType a), .d (.sl 1 (eStrs b))] [eType r] := w_sApart a b h
def b_sUnifiable (a0 : TType) (a1 : TType) : Option (Bool) :=
bnd (b_sTypeVariables a0) fun x1 =>
bnd (sApartT a1 x1) fun x2 =>
bnd (b_sUnifyF a0 x2) fun x3 =>
(some x3.2)
set_option maxHeartbeats 4000000 in
theorem w_sUnifiable (a0 : TType) (a1 : TType) {r : Bool} (h : b_sUnifiable a0 a1 = some r) : SpecP Try.prog 14 [.d (eType a0), .d (eType a1)] [.b r] := by
  obtain ⟨a0_0, a0_1, a0_2⟩ := a0
  obtain ⟨a1_0, a1_1, a1_2⟩ := a1
  unfold b_sUnifiable at h
  refine SpecP_intro Try.func14 rfl (by kernel_rfl) rfl fun A _ => ?_
  refine goL ?_
  obtain ⟨x1, hx1, h⟩ := bnd_s h
  refine VQ_r (QR_call (w_sTypeVariables (TType.mk a0_0 a0_1 a0_2) hx1)) ?_
  obtain ⟨x2, hx2, h⟩ := bnd_s h
  obtain ⟨x2_0, x2_1, x2_2⟩ := x2
  refine VQ_r (QR_call (t_sApart (TType.mk a1_0 a1_1 a1_2) x1 hx2)) ?_
  obtain ⟨x3, hx3, h⟩ := bnd_s h
  obtain ⟨x3_0, x3_1⟩ := x3
  refine VQ_r (QR_call (w_sUnifyF (TType.mk a0_0 a0_1 a0_2) (TType.mk x2_0 x2_1 x2_2) hx3)) ?_
  refine goL ?_
  refine V_ret ?_
  replace h := Option.some.inj h
  subst h
  exact R_rP
end Go.Proofs.Ytiaghdodeinecaa
