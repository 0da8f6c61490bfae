/- Um6. Written by a program of mine (aw.py). -/
import Derived.Test.YtdofnoeiogjpjaaFacts
import Derived.Test.YtdofnoeiogjpjaaUm5
import Derived.Test.YtdofnoeiogjpjaaUn5
import Derived.Test.YtdofnoeiogjpjaaUm2
import Derived.Test.YtdofnoeiogjpjaaUn3
set_option linter.unusedVariables false
set_option linter.unusedSimpArgs false
set_option linter.unusedSectionVars false
namespace Go.Proofs.Ytdofnoeiogjpjaa
open Go Go.Eng
attribute [local irreducible] V VO VQ VY Quiet QR SpecP SpecO MSpec Rng PostP PostO PostG
def b_varType (a0 : List UInt8) : TType :=
(TType.mk 1 a0 [])
set_option maxHeartbeats 4000000 in
theorem w_varType (a0 : List UInt8) : SpecP Try.prog 46 [.d (.s a0)] [eType (b_varType a0)] := by
  obtain ⟨r, h⟩ : ∃ r, b_varType a0 = r := ⟨_, rfl⟩
  rw [h]
  unfold b_varType at h
  refine SpecP_intro Try.func46 rfl (by kernel_rfl) rfl fun A _ => ?_
  refine goL ?_
  refine VO_k (Q_build TBd.h TZ.h rfl (by repeat constructor)) ?_
  refine goL ?_
  refine V_ret ?_
  subst h
  exact R_rP
def b_renApart_l2 (y5 : List (List UInt8)) (k2_0 : (List UInt8) → Option (List TBinding)) : Nat → (List UInt8) → Option (List TBinding)
  | 0, y15 => none
  | n16 + 1, y15 => (cnd (b_ContainsS y5 y15) (
gd (y15.length + ([122] : List UInt8).length ≤ 4294967296) (
b_renApart_l2 y5 k2_0 n16 (y15 ++ ([122] : List UInt8)))) (
(k2_0 y15)))
def b_renApart_l1 (a0 : List TType) (n0 : Nat) : List (List UInt8) → (List (List UInt8)) → (List TBinding) → Option (List TBinding)
  | [], y5, y7 => (some y7)
  | x12 :: xs, y5, y7 => bnd (b_variablesOf a0) fun x13 =>
(cnd (!(b_ContainsS x13 x12)) (
b_renApart_l1 a0 n0 xs y5 y7) (
b_renApart_l2 y5 (fun y15 => gd (y5.length + [y15].length ≤ 4294967296) (
lt_ (b_varType y15) fun x20 =>
gd (y7.length + [(TBinding.mk x12 x20)].length ≤ 4294967296) (
b_renApart_l1 a0 n0 xs (y5 ++ [y15]) (y7 ++ [(TBinding.mk x12 x20)])))) n0 x12))
def b_renApart (a0 : List TType) (a1 : List TType) (n0 : Nat) : Option (List TBinding) :=
bnd (b_variablesOf a0) fun x1 =>
bnd (b_variablesOf a1) fun x2 =>
bnd (b_iUnion x1 x2) fun x3 =>
bnd (b_variablesOf a1) fun x4 =>
b_renApart_l1 a0 n0 x4 x3 []
set_option maxHeartbeats 4000000 in
theorem w_renApart (a0 : List TType) (a1 : List TType) {n0 : Nat} {r : List TBinding} (h : b_renApart a0 a1 n0 = some r) : SpecP Try.prog 28 [.d (.sl 3 (eTypes a0)), .d (.sl 3 (eTypes a1))] [.sl 4 (eBindings r)] := by
  unfold b_renApart at h
  refine SpecP_intro Try.func28 rfl (by kernel_rfl) rfl fun A _ => ?_
  refine goL ?_
  obtain ⟨x1, hx1, h⟩ := bnd_s h
  refine VO_r (QR_call (w_variablesOf a0 hx1)) ?_
  refine goL ?_
  obtain ⟨x2, hx2, h⟩ := bnd_s h
  refine VO_r (QR_call (w_variablesOf a1 hx2)) ?_
  obtain ⟨x3, hx3, h⟩ := bnd_s h
  refine VO_co (w_iUnion x1 x2 hx3) ?_
  refine goL ?_
  refine VO_l0a ?_
  refine goL ?_
  obtain ⟨x4, hx4, h⟩ := bnd_s h
  refine VO_r (QR_call (w_variablesOf a1 hx4)) ?_
  refine goL ?_
  refine V_block ?_
  show V _ _ _ _ _
  refine V_bd 17 (fun z10 => ?_)
  refine V_loop5 (fun (y9 : Nat) (y5 : List (List UInt8)) (y7 : List TBinding) (v6 : Nat) (v8 : Nat) => ⟨[(0, .d (.sl 3 (eTypes a0))), (5, .sl 0 v6), (6, .sl 1 v8), (17, .d (.sl 1 (eStrs x4))), (18, .d (.i .i64 (x4.length : Int))), (19, .d (.i .i64 (y9 : Int)))], [.own 9 1 v6 (eStrs y5), .arr 40 4 v8 (eBindings y7)], Try.f28.ntmps⟩) (fun y9 y5 y7 v6 v8 => b_renApart_l1 a0 n0 (x4.drop y9) y5 y7 = some r) (fun y9 y5 y7 v6 v8 => x4.length - y9) 0 x3 [] 0 0 ⟨rfl, ⟨⟨rfl, rfl⟩, ⟨rfl, rfl⟩, ⟨rfl, rfl⟩, ⟨rfl, rfl⟩, ⟨rfl, rfl⟩, ⟨rfl, rfl⟩, trivial⟩, ⟨[], rfl⟩, rfl⟩ h ?_
  rintro y9 y5 y7 v6 v8 h
  refine goL ?_
  refine V_seq (V_cb (fun c11 => ?_) (fun c11 => ?_))
  · have hky92 := kltN c11
    obtain ⟨x12, hx12, hdx12⟩ := drop_at hky92
    rw [hdx12, b_renApart_l1.eq_2] at h
    refine V_skip ?_
    show V _ _ _ _ _
    refine V_seq (V_block ?_)
    refine goL ?_
    refine VO_r (QR_ixn y9 (gStr hx12)) ?_
    refine goL ?_
    obtain ⟨x13, hx13, h⟩ := bnd_s h
    refine VO_r (QR_call (w_variablesOf a0 hx13)) ?_
    refine goL ?_
    refine VO_r (QR_call (w_ContainsS x13 x12)) ?_
    refine goL ?_
    refine V_cb (fun c14 => ?_) (fun c14 => ?_)
    · replace h := cnd_t c14 h
      refine V_exit ?_
      show V _ _ _ _ _
      refine goL ?_
      refine VO_r (QR_inc y9 (by omega)) ?_
      refine goL ?_
      exact ⟨(y9 + 1), y5, y7, v6, v8, h, by omega, ⟨rfl, ⟨⟨rfl, rfl⟩, ⟨rfl, rfl⟩, ⟨rfl, rfl⟩, ⟨rfl, rfl⟩, ⟨rfl, rfl⟩, ⟨rfl, rfl⟩, trivial⟩, ⟨_, rfl⟩, rfl⟩⟩
    · replace h := cnd_f c14 h
      refine V_skip ?_
      show V _ _ _ _ _
      refine goL ?_
      refine V_seq (V_block ?_)
      show V _ _ _ _ _
      refine V_loop2 (fun (n16 : Nat) (y15 : List UInt8) => ⟨[(0, .d (.sl 3 (eTypes a0))), (5, .sl 0 v6), (6, .sl 1 v8), (8, .d (.s x12)), (9, .d (.s y15)), (17, .d (.sl 1 (eStrs x4))), (18, .d (.i .i64 (x4.length : Int))), (19, .d (.i .i64 (y9 : Int)))], [.own 9 1 v6 (eStrs y5), .arr 40 4 v8 (eBindings y7)], Try.f28.ntmps⟩) (fun n16 y15 => b_renApart_l2 y5 (fun y15 => gd (y5.length + [y15].length ≤ 4294967296) (
lt_ (b_varType y15) fun x20 =>
gd (y7.length + [(TBinding.mk x12 x20)].length ≤ 4294967296) (
b_renApart_l1 a0 n0 (x4.drop (y9 + 1)) (y5 ++ [y15]) (y7 ++ [(TBinding.mk x12 x20)])))) n16 y15 = some r) (fun n16 y15 => n16) n0 x12 ⟨rfl, ⟨⟨rfl, rfl⟩, ⟨rfl, rfl⟩, ⟨rfl, rfl⟩, ⟨rfl, rfl⟩, ⟨rfl, rfl⟩, ⟨rfl, rfl⟩, ⟨rfl, rfl⟩, ⟨rfl, rfl⟩, trivial⟩, ⟨[], rfl⟩, rfl⟩ h ?_
      rintro n16 y15 h
      rcases n16 with _ | n16
      · cases h
      rw [b_renApart_l2.eq_2] at h
      refine goL ?_
      refine VO_k (Q_cb (w_ContainsS y5 y15)) ?_
      refine goL ?_
      refine V_cb (fun c17 => ?_) (fun c17 => ?_)
      · replace h := cnd_t c17 h
        refine V_skip ?_
        show V _ _ _ _ _
        refine V_block ?_
        refine goL ?_
        obtain ⟨g18, h⟩ := gd_s h
        refine VO_r (QR_cat g18) ?_
        refine goL ?_
        exact ⟨n16, (y15 ++ ([122] : List UInt8)), h, Nat.lt_succ_self _, ⟨rfl, ⟨⟨rfl, rfl⟩, ⟨rfl, rfl⟩, ⟨rfl, rfl⟩, ⟨rfl, rfl⟩, ⟨rfl, rfl⟩, ⟨rfl, rfl⟩, ⟨rfl, rfl⟩, ⟨rfl, rfl⟩, trivial⟩, ⟨_, rfl⟩, rfl⟩⟩
      · replace h := cnd_f c17 h
        refine V_exit ?_
        show V _ _ _ _ _
        refine goL ?_
        refine VO_l1t y15 ?_
        obtain ⟨g19, h⟩ := gd_s h
        refine VO_ap g19 ?_
        refine goL ?_
        obtain ⟨x20, hx20, h⟩ := lt_x h
        obtain ⟨x20_0, x20_1, x20_2⟩ := x20
        have sx20 := w_varType y15
        rw [hx20] at sx20
        refine VO_r (QR_call (sx20)) ?_
        refine VO_k (Q_build TBd.h TZ.h rfl (by repeat constructor)) ?_
        refine VO_la1 (u := (.st [.s x12, .st [.i .i64 x20_0, .s x20_1, .sl 3 (eTypes x20_2)]])) ?_
        obtain ⟨g21, h⟩ := gd_s h
        refine VO_apa g21 ?_
        refine goL ?_
        refine VO_r (QR_inc y9 (by omega)) ?_
        refine goL ?_
        exact ⟨(y9 + 1), (y5 ++ [y15]), (y7 ++ [(TBinding.mk x12 (TType.mk x20_0 x20_1 x20_2))]), (v6 + 1), (v8 + 1), h, by omega, ⟨rfl, ⟨⟨rfl, rfl⟩, ⟨rfl, rfl⟩, ⟨rfl, rfl⟩, ⟨rfl, rfl⟩, ⟨rfl, rfl⟩, ⟨rfl, rfl⟩, trivial⟩, ⟨_, rfl⟩, rfl⟩⟩
  · have hky92 := kgeN c11
    rw [drop_end hky92, b_renApart_l1.eq_1] at h
    refine V_exit ?_
    show V _ _ _ _ _
    refine goL ?_
    refine V_freeze 1 rfl rfl ?_
    refine V_ret ?_
    replace h := Option.some.inj h
    subst h
    exact R_rP
def renApartT (a b : List TType) : Option (List TBinding) := b_renApart a b 1000
theorem t_renApart (a b : List TType) {r : List TBinding} (h : renApartT a b = some r) : SpecP Try.prog 28 [.d (.sl 3 (eTypes a)), .d (.sl 3 (eTypes b))] [.sl 4 (eBindings r)] := w_renApart a b h
def b_iUnifiable (a0 : TType) (a1 : TType) : Option (Bool) :=
bnd (renApartT [a0] [a1]) fun x1 =>
gd (bok x1 ∧ tok a1) (lt_ (apT x1 a1) fun x3 =>
bnd (b_iUnifyF a0 x3) fun x4 =>
(some x4.2))
set_option maxHeartbeats 4000000 in
theorem w_iUnifiable (a0 : TType) (a1 : TType) {r : Bool} (h : b_iUnifiable a0 a1 = some r) : SpecP Try.prog 14 [.d (eType a0), .d (eType a1)] [.b r] := by
  obtain ⟨a0_0, a0_1, a0_2⟩ := a0
  obtain ⟨a1_0, a1_1, a1_2⟩ := a1
  unfold b_iUnifiable at h
  refine SpecP_intro Try.func14 rfl (by kernel_rfl) rfl fun A _ => ?_
  refine goNL ?_
  obtain ⟨x1, hx1, h⟩ := bnd_s h
  obtain ⟨g2, h⟩ := gd_s h
  obtain ⟨x3, hx3, h⟩ := lt_x h
  obtain ⟨x3_0, x3_1, x3_2⟩ := x3
  have sx3 := (t_iApply x1 (TType.mk a1_0 a1_1 a1_2) g2).p
  rw [hx3] at sx3
  obtain ⟨x4, hx4, h⟩ := bnd_s h
  obtain ⟨x4_0, x4_1⟩ := x4
  refine V_seq_drawTJ (P := Try.prog) Mix.h (.q 0 (.q 1 (.q 3 (.q 6 (.h 2 (.h 4 (.h 5 (.q 7 (.q 8 (.q 9 (.q 10 (.q 11 (.q 12 (.q 13 .nil))))))) .nil) .nil) (.h 4 (.h 2 (.h 5 (.q 7 (.q 8 (.q 9 (.q 10 (.q 11 (.q 12 (.q 13 .nil))))))) .nil) .nil) .nil)))))) ⟨[(6, .d (.b x4_1))], [.box [.d (.i .i64 a0_0), .d (.s a0_1), .d (.sl 3 (eTypes a0_2))], .box [.d (.i .i64 a1_0), .d (.s a1_1), .d (.sl 3 (eTypes a1_2))], .frz 26 3 0 (eTypes [(TType.mk a0_0 a0_1 a0_2)]), .frz 26 3 0 (eTypes [(TType.mk a1_0 a1_1 a1_2)])], Try.f14.ntmps⟩ (by kernel_rfl) ?_ ?_
  · refine goT ?_
    refine VT_h (VY_lb (T := 24) (us := eTypes [(TType.mk a0_0 a0_1 a0_2)]) VY_e) ?_ ?_
    · refine VT_h1 (VY_lb (T := 24) (us := eTypes [(TType.mk a1_0 a1_1 a1_2)]) VY_e) ?_
      refine VT_h1 (VY_frz 2 rfl rfl (VY_frz 3 rfl rfl (VY_clh (t_renApart [(TType.mk a0_0 a0_1 a0_2)] [(TType.mk a1_0 a1_1 a1_2)] hx1) VY_e))) ?_
      refine VT_q (VY_ri rfl (QR_call (sx3)) VY_e) ?_
      refine VT_q (VY_ri rfl (QR_call (w_iUnifyF (TType.mk a0_0 a0_1 a0_2) (TType.mk x3_0 x3_1 x3_2) hx4)) VY_e) ?_
      refine goT ?_
      refine VT_nil ?_
      exact R_pk 0 [0, 1, 2, 3]
    refine VT_h1 (VY_lb (T := 24) (us := eTypes [(TType.mk a1_0 a1_1 a1_2)]) VY_e) ?_
    refine VT_h1 (VY_lb (T := 24) (us := eTypes [(TType.mk a0_0 a0_1 a0_2)]) VY_e) ?_
    refine VT_h1 (VY_frz 3 rfl rfl (VY_frz 2 rfl rfl (VY_clh (t_renApart [(TType.mk a0_0 a0_1 a0_2)] [(TType.mk a1_0 a1_1 a1_2)] hx1) VY_e))) ?_
    refine VT_q (VY_ri rfl (QR_call (sx3)) VY_e) ?_
    refine VT_q (VY_ri rfl (QR_call (w_iUnifyF (TType.mk a0_0 a0_1 a0_2) (TType.mk x3_0 x3_1 x3_2) hx4)) VY_e) ?_
    refine goT ?_
    refine VT_nil ?_
    exact R_pk 0 [0, 1, 3, 2]
  refine goL ?_
  refine V_ret ?_
  replace h := Option.some.inj h
  subst h
  exact R_rP
end Go.Proofs.Ytdofnoeiogjpjaa
set_option linter.unusedVariables false
set_option linter.unusedSimpArgs false
set_option linter.unusedSectionVars false
namespace Go.Proofs.Ytdofnoeiogjpjaa
open Go Go.Eng
attribute [local irreducible] V VO VQ VY Quiet QR SpecP SpecO MSpec Rng PostP PostO PostG
def b_tailB (a0 : List UInt8) : Option (List UInt8) :=
(cnd ((a0.length : Int) == 0) (
(some a0)) (
gd (0 ≤ (1 : Int) ∧ 1 ≤ (a0.length : Int)) (
(some (a0.drop (Int.toNat 1))))))
set_option maxHeartbeats 4000000 in
theorem w_tailB (a0 : List UInt8) {r : List UInt8} (h : b_tailB a0 = some r) : SpecP Try.prog 11 [.d (.sl 1 (eBytes a0))] [.sl 1 (eBytes r)] := by
  unfold b_tailB at h
  refine SpecP_intro Try.func11 rfl (by kernel_rfl) rfl fun A _ => ?_
  refine goL ?_
  refine V_cb (fun c1 => ?_) (fun c1 => ?_)
  · replace h := cnd_t c1 h
    refine goL ?_
    refine V_ret ?_
    replace h := Option.some.inj h
    subst h
    exact R_rP
  · replace h := cnd_f c1 h
    refine V_skip ?_
    show V _ _ _ _ _
    refine goL ?_
    obtain ⟨g2, h⟩ := gd_s h
    refine VO_r (QR_suf g2) ?_
    refine goL ?_
    refine V_ret ?_
    replace h := Option.some.inj h
    subst h
    exact R_rP
def b_l7Two (a0 : List UInt8) : Option (TType × TType) :=
lt_ (l1NewT a0) fun x1 =>
bnd (b_l4Free x1 3) fun x2 =>
bnd (b_l1Once x2.2 4) fun x3 =>
(cnd x3.1 (
bnd (b_l4Free x3.2 3) fun x5 =>
(some (x2.1, x5.1))) (
bnd (l6BindsT x3.2) fun x6 =>
gd (bok x6.1 ∧ tok x2.1) (lt_ (apT x6.1 x2.1) fun x8 =>
bnd (b_l1Once x6.2 6) fun x9 =>
(cnd x9.1 (
bnd (b_l4Int ) fun x11 =>
gd (bok [(TBinding.mk [98] x11)] ∧ tok x8) (lt_ (apT [(TBinding.mk [98] x11)] x8) fun x13 =>
(some (x2.1, x13)))) (
(some (x2.1, x8)))))))
set_option maxHeartbeats 4000000 in
theorem w_l7Two (a0 : List UInt8) {r : TType × TType} (h : b_l7Two a0 = some r) : SpecP Try.prog 21 [.d (.sl 1 (eBytes a0))] [eType r.1, eType r.2] := by
  unfold b_l7Two at h
  refine SpecP_intro Try.func21 rfl (by kernel_rfl) rfl fun A _ => ?_
  refine goL ?_
  obtain ⟨x1, hx1, h⟩ := lt_x h
  obtain ⟨x1_0, x1_1, x1_2⟩ := x1
  have sx1 := t_l1New a0
  rw [hx1] at sx1
  refine VO_cG [] (sx1) ?_
  rintro _ _ ⟨rfl, rfl⟩
  show VO _ _ _ _ ⟨(_, .ptr 2 0) :: _, [.box [.d (.i .i64 0), .d (.s []), .nilsl], .box [.d (.i .i64 0), .d (.s []), .nilsl], .box [.d (.sl 1 (eBytes x1_0)), .d (.i .i64 x1_1), .d (.i .i64 x1_2)]], _⟩ _
  refine goL ?_
  obtain ⟨x2, hx2, h⟩ := bnd_s h
  obtain ⟨⟨x2_0_0, x2_0_1, x2_0_2⟩, ⟨x2_1_0, x2_1_1, x2_1_2⟩⟩ := x2
  refine VO_cG [2] (w_l4Free (Tl1Cur.mk x1_0 x1_1 x1_2) 3 hx2) ?_
  rintro _ _ ⟨rfl, rfl⟩
  show VO _ _ _ _ ⟨(_, .d (.st [.i .i64 x2_0_0, .s x2_0_1, .sl 3 (eTypes x2_0_2)])) :: _, [.box [.d (.i .i64 0), .d (.s []), .nilsl], .box [.d (.i .i64 0), .d (.s []), .nilsl], .box [.d (.sl 1 (eBytes x2_1_0)), .d (.i .i64 x2_1_1), .d (.i .i64 x2_1_2)]], _⟩ _
  refine goL ?_
  obtain ⟨x3, hx3, h⟩ := bnd_s h
  obtain ⟨x3_0, ⟨x3_1_0, x3_1_1, x3_1_2⟩⟩ := x3
  refine VO_cG [2] (w_l1Once (Tl1Cur.mk x2_1_0 x2_1_1 x2_1_2) 4 hx3) ?_
  rintro _ _ ⟨rfl, rfl⟩
  show VO _ _ _ _ ⟨(_, .d (.b x3_0)) :: _, [.box [.d (.i .i64 0), .d (.s []), .nilsl], .box [.d (.i .i64 0), .d (.s []), .nilsl], .box [.d (.sl 1 (eBytes x3_1_0)), .d (.i .i64 x3_1_1), .d (.i .i64 x3_1_2)], .box [.d (.i .i64 x2_0_0), .d (.s x2_0_1), .d (.sl 3 (eTypes x2_0_2))]], _⟩ _
  refine goL ?_
  refine V_cb (fun c4 => ?_) (fun c4 => ?_)
  · replace h := cnd_t c4 h
    obtain ⟨x5, hx5, h⟩ := bnd_s h
    obtain ⟨⟨x5_0_0, x5_0_1, x5_0_2⟩, ⟨x5_1_0, x5_1_1, x5_1_2⟩⟩ := x5
    refine V_seq_drawTJ (P := Try.prog) Mix.h (.q 1 (.h 0 (.h 2 (.h 3 (.h 4 .nil .nil) .nil) .nil) (.h 2 (.h 0 (.h 3 (.h 4 .nil .nil) .nil) .nil) .nil))) ⟨[(2, .ptr 0 0), (3, .ptr 1 0)], [.box [.d (.i .i64 x2_0_0), .d (.s x2_0_1), .d (.sl 3 (eTypes x2_0_2))], .box [.d (.i .i64 x5_0_0), .d (.s x5_0_1), .d (.sl 3 (eTypes x5_0_2))], .box [.d (.sl 1 (eBytes x5_1_0)), .d (.i .i64 x5_1_1), .d (.i .i64 x5_1_2)], .box [.d (.i .i64 x2_0_0), .d (.s x2_0_1), .d (.sl 3 (eTypes x2_0_2))]], Try.f21.ntmps⟩ (by kernel_rfl) ?_ ?_
    · refine goT ?_
      refine VT_h (VY_dh VY_e) ?_ ?_
      · refine VT_h1 (VY_cG (sv := .d (.st [.i .i64 x5_0_0, .s x5_0_1, .sl 3 (eTypes x5_0_2)])) (L' := [.box [.d (.i .i64 0), .d (.s []), .nilsl], .box [.d (.i .i64 0), .d (.s []), .nilsl], .box [.d (.sl 1 (eBytes x5_1_0)), .d (.i .i64 x5_1_1), .d (.i .i64 x5_1_2)], .box [.d (.i .i64 x2_0_0), .d (.s x2_0_1), .d (.sl 3 (eTypes x2_0_2))]]) [2] (w_l4Free (Tl1Cur.mk x3_1_0 x3_1_1 x3_1_2) 3 hx5) VY_e) ?_
        refine goT ?_
        refine VT_nil ?_
        exact R_pk 0 [0, 1, 2, 3]
      refine VT_h1 (VY_cG (sv := .d (.st [.i .i64 x5_0_0, .s x5_0_1, .sl 3 (eTypes x5_0_2)])) (L' := [.box [.d (.i .i64 0), .d (.s []), .nilsl], .box [.d (.i .i64 0), .d (.s []), .nilsl], .box [.d (.sl 1 (eBytes x5_1_0)), .d (.i .i64 x5_1_1), .d (.i .i64 x5_1_2)], .box [.d (.i .i64 x2_0_0), .d (.s x2_0_1), .d (.sl 3 (eTypes x2_0_2))]]) [2] (w_l4Free (Tl1Cur.mk x3_1_0 x3_1_1 x3_1_2) 3 hx5) VY_e) ?_
      refine VT_h1 (VY_dh VY_e) ?_
      refine goT ?_
      refine VT_nil ?_
      exact R_pk 0 [0, 1, 2, 3]
    refine goL ?_
    refine V_ret ?_
    replace h := Option.some.inj h
    subst h
    exact R_rP
  · replace h := cnd_f c4 h
    refine V_skip ?_
    show V _ _ _ _ _
    obtain ⟨x6, hx6, h⟩ := bnd_s h
    obtain ⟨x6_0, ⟨x6_1_0, x6_1_1, x6_1_2⟩⟩ := x6
    obtain ⟨g7, h⟩ := gd_s h
    obtain ⟨x8, hx8, h⟩ := lt_x h
    obtain ⟨x8_0, x8_1, x8_2⟩ := x8
    have sx8 := t_sApply x6_0 (TType.mk x2_0_0 x2_0_1 x2_0_2) g7
    rw [hx8] at sx8
    refine V_seq_drawTJ (P := Try.prog) Mix.h (.q 0 (.h 1 (.h 2 (.h 3 (.h 4 (.h 5 .nil .nil) .nil) (.h 4 (.h 3 (.h 5 .nil .nil) .nil) .nil)) (.h 4 (.h 2 (.h 3 (.h 5 .nil .nil) .nil) .nil) .nil)) (.h 2 (.h 1 (.h 3 (.h 4 (.h 5 .nil .nil) .nil) (.h 4 (.h 3 (.h 5 .nil .nil) .nil) .nil)) (.h 4 (.h 1 (.h 3 (.h 5 .nil .nil) .nil) .nil) .nil)) (.h 4 (.h 1 (.h 2 (.h 3 (.h 5 .nil .nil) .nil) .nil) (.h 2 (.h 1 (.h 3 (.h 5 .nil .nil) .nil) .nil) .nil)) .nil)))) ⟨[(2, .ptr 0 0), (3, .ptr 1 0), (4, .ptr 2 0), (5, .ptr 3 0), (6, .ptr 5 0)], [.box [.d (.i .i64 0), .d (.s []), .nilsl], .box [.d (.i .i64 0), .d (.s []), .nilsl], .box [.d (.sl 1 (eBytes x6_1_0)), .d (.i .i64 x6_1_1), .d (.i .i64 x6_1_2)], .box [.d (.i .i64 x2_0_0), .d (.s x2_0_1), .d (.sl 3 (eTypes x2_0_2))], .own 26 3 0 (eTypes x8_2), .box [.d (.i .i64 x8_0), .d (.s x8_1), .sl 4 0]], Try.f21.ntmps⟩ (by kernel_rfl) ?_ ?_
    · refine goT ?_
      refine VT_h (VY_cG (sv := .d (.sl 4 (eBindings x6_0))) (L' := [.box [.d (.i .i64 0), .d (.s []), .nilsl], .box [.d (.i .i64 0), .d (.s []), .nilsl], .box [.d (.sl 1 (eBytes x6_1_0)), .d (.i .i64 x6_1_1), .d (.i .i64 x6_1_2)], .box [.d (.i .i64 x2_0_0), .d (.s x2_0_1), .d (.sl 3 (eTypes x2_0_2))]]) [2] (t_l6Binds (Tl1Cur.mk x3_1_0 x3_1_1 x3_1_2) hx6) VY_e) ?_ ?_
      · refine VT_h (VY_dh VY_e) ?_ ?_
        · refine VT_h (VY_co (sx8) VY_e) ?_ ?_
          · refine goT ?_
            refine VT_nil ?_
            exact R_pk 0 [0, 1, 2, 3, 4, 5]
          refine goT ?_
          refine VT_h1 (VY_co (sx8) VY_e) ?_
          refine goT ?_
          refine VT_nil ?_
          exact R_pk 0 [0, 1, 2, 3, 5, 4]
        refine goT ?_
        refine VT_h1 (VY_dh VY_e) ?_
        refine VT_h1 (VY_co (sx8) VY_e) ?_
        refine goT ?_
        refine VT_nil ?_
        exact R_pk 0 [0, 1, 2, 3, 5, 4]
      refine VT_h (VY_dh VY_e) ?_ ?_
      · refine VT_h (VY_cG (sv := .d (.sl 4 (eBindings x6_0))) (L' := [.box [.d (.i .i64 0), .d (.s []), .nilsl], .box [.d (.i .i64 0), .d (.s []), .nilsl], .box [.d (.sl 1 (eBytes x6_1_0)), .d (.i .i64 x6_1_1), .d (.i .i64 x6_1_2)], .box [.d (.i .i64 x2_0_0), .d (.s x2_0_1), .d (.sl 3 (eTypes x2_0_2))]]) [2] (t_l6Binds (Tl1Cur.mk x3_1_0 x3_1_1 x3_1_2) hx6) VY_e) ?_ ?_
        · refine VT_h (VY_co (sx8) VY_e) ?_ ?_
          · refine goT ?_
            refine VT_nil ?_
            exact R_pk 0 [0, 1, 2, 3, 4, 5]
          refine goT ?_
          refine VT_h1 (VY_co (sx8) VY_e) ?_
          refine goT ?_
          refine VT_nil ?_
          exact R_pk 0 [0, 1, 2, 3, 5, 4]
        refine goT ?_
        refine VT_h1 (VY_cG (sv := .d (.sl 4 (eBindings x6_0))) (L' := [.box [.d (.i .i64 0), .d (.s []), .nilsl], .box [.d (.i .i64 0), .d (.s []), .nilsl], .box [.d (.sl 1 (eBytes x6_1_0)), .d (.i .i64 x6_1_1), .d (.i .i64 x6_1_2)], .box [.d (.i .i64 x2_0_0), .d (.s x2_0_1), .d (.sl 3 (eTypes x2_0_2))], .box [.d (.i .i64 0), .d (.s []), .nilsl]]) [2] (t_l6Binds (Tl1Cur.mk x3_1_0 x3_1_1 x3_1_2) hx6) VY_e) ?_
        refine VT_h1 (VY_co (sx8) VY_e) ?_
        refine goT ?_
        refine VT_nil ?_
        exact R_pk 0 [0, 1, 2, 3, 5, 4]
      refine goT ?_
      refine VT_h (VY_cG (sv := .d (.sl 4 (eBindings x6_0))) (L' := [.box [.d (.i .i64 0), .d (.s []), .nilsl], .box [.d (.i .i64 0), .d (.s []), .nilsl], .box [.d (.sl 1 (eBytes x6_1_0)), .d (.i .i64 x6_1_1), .d (.i .i64 x6_1_2)], .box [.d (.i .i64 x2_0_0), .d (.s x2_0_1), .d (.sl 3 (eTypes x2_0_2))], .box [.d (.i .i64 0), .d (.s []), .nilsl]]) [2] (t_l6Binds (Tl1Cur.mk x3_1_0 x3_1_1 x3_1_2) hx6) VY_e) ?_ ?_
      · refine VT_h1 (VY_dh VY_e) ?_
        refine VT_h1 (VY_co (sx8) VY_e) ?_
        refine goT ?_
        refine VT_nil ?_
        exact R_pk 0 [0, 1, 2, 3, 5, 4]
      refine VT_h1 (VY_dh VY_e) ?_
      refine VT_h1 (VY_cG (sv := .d (.sl 4 (eBindings x6_0))) (L' := [.box [.d (.i .i64 0), .d (.s []), .nilsl], .box [.d (.i .i64 0), .d (.s []), .nilsl], .box [.d (.sl 1 (eBytes x6_1_0)), .d (.i .i64 x6_1_1), .d (.i .i64 x6_1_2)], .box [.d (.i .i64 x2_0_0), .d (.s x2_0_1), .d (.sl 3 (eTypes x2_0_2))], .box [.d (.i .i64 0), .d (.s []), .nilsl]]) [2] (t_l6Binds (Tl1Cur.mk x3_1_0 x3_1_1 x3_1_2) hx6) VY_e) ?_
      refine VT_h1 (VY_co (sx8) VY_e) ?_
      refine goT ?_
      refine VT_nil ?_
      exact R_pk 0 [0, 1, 2, 3, 5, 4]
    refine goL ?_
    obtain ⟨x9, hx9, h⟩ := bnd_s h
    obtain ⟨x9_0, ⟨x9_1_0, x9_1_1, x9_1_2⟩⟩ := x9
    refine VO_cG [2] (w_l1Once (Tl1Cur.mk x6_1_0 x6_1_1 x6_1_2) 6 hx9) ?_
    rintro _ _ ⟨rfl, rfl⟩
    show VO _ _ _ _ ⟨(_, .d (.b x9_0)) :: _, [.box [.d (.i .i64 0), .d (.s []), .nilsl], .box [.d (.i .i64 0), .d (.s []), .nilsl], .box [.d (.sl 1 (eBytes x9_1_0)), .d (.i .i64 x9_1_1), .d (.i .i64 x9_1_2)], .box [.d (.i .i64 x2_0_0), .d (.s x2_0_1), .d (.sl 3 (eTypes x2_0_2))], .own 26 3 0 (eTypes x8_2), .box [.d (.i .i64 x8_0), .d (.s x8_1), .sl 4 0]], _⟩ _
    refine goL ?_
    refine V_cb (fun c10 => ?_) (fun c10 => ?_)
    · replace h := cnd_t c10 h
      refine V_drawX (P := Try.prog) Mix.h [(0, true), (1, true), (3, true), (2, false), (4, false), (5, false)] (by kernel_rfl) ?_
      obtain ⟨x11, hx11, h⟩ := bnd_s h
      obtain ⟨x11_0, x11_1, x11_2⟩ := x11
      refine VY_ri rfl (QR_call (w_l4Int  hx11)) ?_
      refine goY ?_
      refine VY_lb (T := 32) (us := eBindings [(TBinding.mk [98] (TType.mk x11_0 x11_1 x11_2))]) ?_
      obtain ⟨g12, h⟩ := gd_s h
      obtain ⟨x13, hx13, h⟩ := lt_x h
      obtain ⟨x13_0, x13_1, x13_2⟩ := x13
      have sx13 := t_sApply [(TBinding.mk [98] (TType.mk x11_0 x11_1 x11_2))] (TType.mk x8_0 x8_1 x8_2) g12
      rw [hx13] at sx13
      refine VY_co (sx13) ?_
      refine goY ?_
      refine VY_nil ?_
      refine goNL ?_
      refine V_seq_drawTJ (P := Try.prog) Mix.h (.h 0 (.h 1 (.h 2 (.h 3 .nil .nil) .nil) (.h 2 (.h 1 (.h 3 .nil .nil) .nil) .nil)) (.h 1 (.h 0 (.h 2 (.h 3 .nil .nil) .nil) .nil) .nil)) ⟨[(2, .ptr 0 0), (3, .ptr 1 0)], [.box [.d (.i .i64 x2_0_0), .d (.s x2_0_1), .d (.sl 3 (eTypes x2_0_2))], .box [.d (.i .i64 x13_0), .d (.s x13_1), .sl 7 0], .box [.d (.sl 1 (eBytes x9_1_0)), .d (.i .i64 x9_1_1), .d (.i .i64 x9_1_2)], .box [.d (.i .i64 x2_0_0), .d (.s x2_0_1), .d (.sl 3 (eTypes x2_0_2))], .own 26 3 0 (eTypes x8_2), .box [.d (.i .i64 x13_0), .d (.s x13_1), .sl 7 0], .arr 40 4 0 (eBindings [(TBinding.mk [98] (TType.mk x11_0 x11_1 x11_2))]), .own 26 3 0 (eTypes x13_2)], Try.f21.ntmps⟩ (by kernel_rfl) ?_ ?_
      · refine VT_h (VY_dh VY_e) ?_ ?_
        · refine VT_h (VY_dh VY_e) ?_ ?_
          · refine goT ?_
            refine VT_nil ?_
            exact R_pk 0 [0, 1, 2, 3, 4, 5, 6, 7]
          refine goT ?_
          refine VT_h1 (VY_dh VY_e) ?_
          refine goT ?_
          refine VT_nil ?_
          exact R_pk 0 [0, 1, 2, 3, 4, 5, 6, 7]
        refine VT_h1 (VY_dh VY_e) ?_
        refine VT_h1 (VY_dh VY_e) ?_
        refine goT ?_
        refine VT_nil ?_
        exact R_pk 0 [0, 1, 2, 3, 4, 5, 6, 7]
      refine goL ?_
      refine V_freezeO 7 rfl rfl ?_
      refine V_ret ?_
      replace h := Option.some.inj h
      subst h
      exact R_rP
    · replace h := cnd_f c10 h
      refine V_skip ?_
      show V _ _ _ _ _
      refine V_seq_drawTJ (P := Try.prog) Mix.h (.h 0 (.h 1 (.h 2 (.h 3 .nil .nil) .nil) (.h 2 (.h 1 (.h 3 .nil .nil) .nil) .nil)) (.h 1 (.h 0 (.h 2 (.h 3 .nil .nil) .nil) .nil) .nil)) ⟨[(2, .ptr 0 0), (3, .ptr 1 0)], [.box [.d (.i .i64 x2_0_0), .d (.s x2_0_1), .d (.sl 3 (eTypes x2_0_2))], .box [.d (.i .i64 x8_0), .d (.s x8_1), .sl 4 0], .box [.d (.sl 1 (eBytes x9_1_0)), .d (.i .i64 x9_1_1), .d (.i .i64 x9_1_2)], .box [.d (.i .i64 x2_0_0), .d (.s x2_0_1), .d (.sl 3 (eTypes x2_0_2))], .own 26 3 0 (eTypes x8_2), .box [.d (.i .i64 x8_0), .d (.s x8_1), .sl 4 0]], Try.f21.ntmps⟩ (by kernel_rfl) ?_ ?_
      · refine VT_h (VY_dh VY_e) ?_ ?_
        · refine VT_h (VY_dh VY_e) ?_ ?_
          · refine goT ?_
            refine VT_nil ?_
            exact R_pk 0 [0, 1, 2, 3, 4, 5]
          refine goT ?_
          refine VT_h1 (VY_dh VY_e) ?_
          refine goT ?_
          refine VT_nil ?_
          exact R_pk 0 [0, 1, 2, 3, 4, 5]
        refine VT_h1 (VY_dh VY_e) ?_
        refine VT_h1 (VY_dh VY_e) ?_
        refine goT ?_
        refine VT_nil ?_
        exact R_pk 0 [0, 1, 2, 3, 4, 5]
      refine goL ?_
      refine V_freezeO 4 rfl rfl ?_
      refine V_ret ?_
      replace h := Option.some.inj h
      subst h
      exact R_rP
def b_drawMatch (a0 : List UInt8) : Option (TType × TType) :=
bnd (b_l7Two a0) fun x1 =>
(some (x1.1, x1.2))
set_option maxHeartbeats 4000000 in
theorem w_drawMatch (a0 : List UInt8) {r : TType × TType} (h : b_drawMatch a0 = some r) : SpecP Try.prog 6 [.d (.sl 1 (eBytes a0))] [eType r.1, eType r.2] := by
  unfold b_drawMatch at h
  refine SpecP_intro Try.func6 rfl (by kernel_rfl) rfl fun A _ => ?_
  refine goL ?_
  obtain ⟨x1, hx1, h⟩ := bnd_s h
  obtain ⟨⟨x1_0_0, x1_0_1, x1_0_2⟩, ⟨x1_1_0, x1_1_1, x1_1_2⟩⟩ := x1
  refine VO_r (QR_call (w_l7Two a0 hx1)) ?_
  refine goL ?_
  refine V_ret ?_
  replace h := Option.some.inj h
  subst h
  exact R_rP
def b_FnUnifyMost (a0 : List UInt8) : Option (Bool) :=
(cnd (b_big a0) (
(some true)) (
bnd (b_drawMatch a0) fun x2 =>
bnd (b_sTypeVariables x2.2) fun x3 =>
(cnd (decide ((x3.length : Int) > 0)) (
bnd (b_iMatches x2.1 x2.2) fun x5 =>
bnd (b_sMatches x2.1 x2.2) fun x6 =>
(some (x5 == x6))) (
bnd (b_iMatchF x2.1 x2.2) fun x7 =>
(cnd (!x7.2) (
(some true)) (
bnd (b_tailB a0) fun x9 =>
bnd (b_drawMatch x9) fun x10 =>
gd (bok x7.1 ∧ tok x10.1) (lt_ (apT x7.1 x10.1) fun x12 =>
bnd (b_sTypeVariables x12) fun x13 =>
lt_ ((cnd (decide ((x13.length : Int) > 0)) (true) ((!(teq x12 x2.2))))) fun b14 =>
(cnd b14 (
bnd (b_iUnifiable x2.1 x2.2) fun x17 =>
(some x17)) (
bnd (b_iUnifyF x2.1 x10.1) fun x18 =>
bnd ((cnd x18.2 (gd (bok x18.1 ∧ tok x2.1) (lt_ (apT x18.1 x2.1) fun x22 =>
bnd (b_iAtLeast x2.2 x22) fun x23 =>
(some x23))) ((some false)))) fun b19 =>
(some b19))))))))))
set_option maxHeartbeats 4000000 in
theorem w_FnUnifyMost (a0 : List UInt8) {r : Bool} (h : b_FnUnifyMost a0 = some r) : SpecP Try.prog 3 [.d (.sl 1 (eBytes a0))] [.b r] := by
  unfold b_FnUnifyMost at h
  refine SpecP_intro Try.func3 rfl (by kernel_rfl) rfl fun A _ => ?_
  refine goL ?_
  refine VO_r (QR_call (w_big a0)) ?_
  refine goL ?_
  refine V_cb (fun c1 => ?_) (fun c1 => ?_)
  · replace h := cnd_t c1 h
    refine goL ?_
    refine V_ret ?_
    replace h := Option.some.inj h
    subst h
    exact R_rP
  · replace h := cnd_f c1 h
    refine V_skip ?_
    show V _ _ _ _ _
    refine goL ?_
    obtain ⟨x2, hx2, h⟩ := bnd_s h
    obtain ⟨⟨x2_0_0, x2_0_1, x2_0_2⟩, ⟨x2_1_0, x2_1_1, x2_1_2⟩⟩ := x2
    refine VO_r (QR_call (w_drawMatch a0 hx2)) ?_
    refine goL ?_
    obtain ⟨x3, hx3, h⟩ := bnd_s h
    refine VO_r (QR_call (w_sTypeVariables (TType.mk x2_1_0 x2_1_1 x2_1_2) hx3)) ?_
    refine goL ?_
    refine V_cb (fun c4 => ?_) (fun c4 => ?_)
    · replace h := cnd_t c4 h
      refine goL ?_
      obtain ⟨x5, hx5, h⟩ := bnd_s h
      refine VQ_r (QR_call (w_iMatches (TType.mk x2_0_0 x2_0_1 x2_0_2) (TType.mk x2_1_0 x2_1_1 x2_1_2) hx5)) ?_
      refine goL ?_
      obtain ⟨x6, hx6, h⟩ := bnd_s h
      refine VQ_r (QR_call (w_sMatches (TType.mk x2_0_0 x2_0_1 x2_0_2) (TType.mk x2_1_0 x2_1_1 x2_1_2) hx6)) ?_
      refine goL ?_
      refine V_ret ?_
      replace h := Option.some.inj h
      subst h
      exact R_rP
    · replace h := cnd_f c4 h
      refine V_skip ?_
      show V _ _ _ _ _
      refine goL ?_
      obtain ⟨x7, hx7, h⟩ := bnd_s h
      obtain ⟨x7_0, x7_1⟩ := x7
      refine VO_r (QR_call (w_iMatchF (TType.mk x2_0_0 x2_0_1 x2_0_2) (TType.mk x2_1_0 x2_1_1 x2_1_2) hx7)) ?_
      refine goL ?_
      refine V_cb (fun c8 => ?_) (fun c8 => ?_)
      · replace h := cnd_t c8 h
        refine goL ?_
        refine V_ret ?_
        replace h := Option.some.inj h
        subst h
        exact R_rP
      · replace h := cnd_f c8 h
        refine V_skip ?_
        show V _ _ _ _ _
        refine goL ?_
        obtain ⟨x9, hx9, h⟩ := bnd_s h
        refine VO_r (QR_call (w_tailB a0 hx9)) ?_
        obtain ⟨x10, hx10, h⟩ := bnd_s h
        obtain ⟨⟨x10_0_0, x10_0_1, x10_0_2⟩, ⟨x10_1_0, x10_1_1, x10_1_2⟩⟩ := x10
        refine VO_r (QR_call (w_drawMatch x9 hx10)) ?_
        refine goL ?_
        obtain ⟨g11, h⟩ := gd_s h
        obtain ⟨x12, hx12, h⟩ := lt_x h
        obtain ⟨x12_0, x12_1, x12_2⟩ := x12
        have sx12 := (t_iApply x7_0 (TType.mk x10_0_0 x10_0_1 x10_0_2) g11).p
        rw [hx12] at sx12
        refine VO_r (QR_call (sx12)) ?_
        refine goL ?_
        obtain ⟨x13, hx13, h⟩ := bnd_s h
        refine VO_r (QR_call (w_sTypeVariables (TType.mk x12_0 x12_1 x12_2) hx13)) ?_
        refine goL ?_
        obtain ⟨b14, hb14, h⟩ := lt_x h
        refine VO_join ⟨[(3, .ptr 0 0), (4, .ptr 1 0), (7, .ptr 2 0), (56, .d (.b b14))], [.box [.d (.i .i64 x2_0_0), .d (.s x2_0_1), .d (.sl 3 (eTypes x2_0_2))], .box [.d (.i .i64 x2_1_0), .d (.s x2_1_1), .d (.sl 3 (eTypes x2_1_2))], .box [.d (.i .i64 x10_0_0), .d (.s x10_0_1), .d (.sl 3 (eTypes x10_0_2))], .box [.d (.i .i64 x10_1_0), .d (.s x10_1_1), .d (.sl 3 (eTypes x10_1_2))], .box [.d (.i .i64 x12_0), .d (.s x12_1), .d (.sl 3 (eTypes x12_2))]], Try.f3.ntmps⟩ ?_ ?_
        · refine VO_case 51 (fun c15 => ?_) (fun c15 => ?_)
          · replace hb14 := cnd_t c15 hb14
            refine goL ?_
            cases hb14
            exact ⟨rfl, ⟨⟨rfl, rfl⟩, ⟨rfl, rfl⟩, ⟨rfl, rfl⟩, ⟨rfl, rfl⟩, trivial⟩, ⟨[], rfl⟩, rfl⟩
          · replace hb14 := cnd_f c15 hb14
            refine goL ?_
            refine VO_b ?_
            refine VO_r (QR_call (t_sEqualType (TType.mk x12_0 x12_1 x12_2) (TType.mk x2_1_0 x2_1_1 x2_1_2))) ?_
            refine goL ?_
            cases hb14
            exact ⟨rfl, ⟨⟨rfl, rfl⟩, ⟨rfl, rfl⟩, ⟨rfl, rfl⟩, ⟨rfl, rfl⟩, trivial⟩, ⟨[], rfl⟩, rfl⟩
        refine goL ?_
        refine V_cb (fun c16 => ?_) (fun c16 => ?_)
        · replace h := cnd_t c16 h
          refine goL ?_
          obtain ⟨x17, hx17, h⟩ := bnd_s h
          refine VO_r (QR_call (w_iUnifiable (TType.mk x2_0_0 x2_0_1 x2_0_2) (TType.mk x2_1_0 x2_1_1 x2_1_2) hx17)) ?_
          refine goL ?_
          refine V_ret ?_
          replace h := Option.some.inj h
          subst h
          exact R_rP
        · replace h := cnd_f c16 h
          refine V_skip ?_
          show V _ _ _ _ _
          refine goL ?_
          obtain ⟨x18, hx18, h⟩ := bnd_s h
          obtain ⟨x18_0, x18_1⟩ := x18
          refine VO_r (QR_call (w_iUnifyF (TType.mk x2_0_0 x2_0_1 x2_0_2) (TType.mk x10_0_0 x10_0_1 x10_0_2) hx18)) ?_
          refine goNL ?_
          obtain ⟨b19, hb19, h⟩ := bnd_s h
          refine V_seqJ_draw (P := Try.prog) Mix.h ⟨[(2, .d (.b b19))], [.box [.d (.i .i64 x2_0_0), .d (.s x2_0_1), .d (.sl 3 (eTypes x2_0_2))], .box [.d (.i .i64 x2_1_0), .d (.s x2_1_1), .d (.sl 3 (eTypes x2_1_2))], .box [.d (.i .i64 x10_0_0), .d (.s x10_0_1), .d (.sl 3 (eTypes x10_0_2))], .box [.d (.i .i64 x10_1_0), .d (.s x10_1_1), .d (.sl 3 (eTypes x10_1_2))], .box [.d (.i .i64 x12_0), .d (.s x12_1), .d (.sl 3 (eTypes x12_2))]], Try.f3.ntmps⟩ (by kernel_rfl) ?_ ?_
          · refine goL ?_
            refine VQ_case 67 (fun c20 => ?_) (fun c20 => ?_)
            · replace hb19 := cnd_t c20 hb19
              refine goL ?_
              obtain ⟨g21, hb19⟩ := gd_s hb19
              obtain ⟨x22, hx22, hb19⟩ := lt_x hb19
              obtain ⟨x22_0, x22_1, x22_2⟩ := x22
              have sx22 := (t_iApply x18_0 (TType.mk x2_0_0 x2_0_1 x2_0_2) g21).p
              rw [hx22] at sx22
              refine VQ_rg (QR_call (sx22)) ?_
              obtain ⟨x23, hx23, hb19⟩ := bnd_s hb19
              refine VQ_rg (QR_call (w_iAtLeast (TType.mk x2_1_0 x2_1_1 x2_1_2) (TType.mk x22_0 x22_1 x22_2) hx23)) ?_
              refine goL ?_
              cases hb19
              exact ⟨rfl, ⟨⟨rfl, rfl⟩, trivial⟩, ⟨[], rfl⟩, rfl⟩
            · replace hb19 := cnd_f c20 hb19
              refine goL ?_
              cases hb19
              exact ⟨rfl, ⟨⟨rfl, rfl⟩, trivial⟩, ⟨[], rfl⟩, rfl⟩
          refine goL ?_
          refine V_ret ?_
          replace h := Option.some.inj h
          subst h
          exact R_rP
end Go.Proofs.Ytdofnoeiogjpjaa
set_option linter.unusedVariables false
set_option linter.unusedSimpArgs false
set_option linter.unusedSectionVars false
namespace Go.Proofs.Ytdofnoeiogjpjaa
open Go Go.Eng
attribute [local irreducible] V VO VQ VY Quiet QR SpecP SpecO MSpec Rng PostP PostO PostG
/-! ### unification, by hand: variables, sizes, substitution -/
mutual
def tvs : TType → List (List UInt8)
  | ⟨k, n, ts⟩ => (if k = 1 then [n] else []) ++ tvss ts
def tvss : List TType → List (List UInt8)
  | [] => []
  | a :: ts => tvs a ++ tvss ts
end
theorem tvss_mem {v : List UInt8} : ∀ {ts : List TType}, v ∈ tvss ts ↔ ∃ t ∈ ts, v ∈ tvs t
  | [] => by simp [tvss]
  | a :: ts => by simp [tvss, tvss_mem (ts := ts)]
theorem wrap_sm {n : Int} (h0 : 0 ≤ n) (h1 : n ≤ 4611686018427387904) : IntKind.i64.wrap n = n := wrap_in n (by omega) (by omega)
mutual
theorem tvs_len : ∀ (t : TType), (tvs t).length ≤ tnd t
  | ⟨k, n, ts⟩ => by
    have := tvss_len ts
    simp only [tvs, tnd, List.length_append]
    split <;> simp <;> omega
theorem tvss_len : ∀ (ts : List TType), (tvss ts).length ≤ tnds ts
  | [] => by simp [tvss]
  | a :: ts => by
    have h1 := tvs_len a
    have h2 := tvss_len ts
    simp only [tvss, tnds, List.length_append]
    omega
end
theorem cnt_le (v : List UInt8) (l : List (List UInt8)) : l.count v ≤ l.length := List.count_le_length
mutual
theorem tsz_big : ∀ (t : TType), tnd t ≤ 4611686018427387904 → tsz t = tnd t
  | ⟨k, n, ts⟩, h => by
    simp only [tnd] at h
    simp only [tsz, tnd]
    rw [tszs_big ts 1 (by omega) (by omega)]
    omega
theorem tszs_big : ∀ (ts : List TType) (y : Int), 0 ≤ y → y + tnds ts ≤ 4611686018427387904 → tszs ts y = y + tnds ts
  | [], y, _, _ => by simp [tszs, tnds]
  | a :: ts, y, h0, h => by
    simp only [tnds] at h
    simp only [tszs, tnds]
    rw [tsz_big a (by omega), wrap_sm (by omega) (by omega), tszs_big ts _ (by omega) (by omega)]
    omega
end
mutual
theorem ctc_eq (v : List UInt8) : ∀ (t : TType) (n : Int), 0 ≤ n → n + tnd t ≤ 4611686018427387904 → ctc v n t = n + (tvs t).count v
  | ⟨k, s, ts⟩, n, h0, h => by
    simp only [tnd] at h
    have h1 : ∀ m : Int, (m = n ∨ m = n + 1) → ctcs v m ts = m + (tvss ts).count v := fun m hm => ctcs_eq v ts m (by omega) (by omega)
    simp only [ctc, tvs, List.count_append]
    by_cases hk : k = 1
    · subst hk
      by_cases hs : s = v
      · subst hs
        simp only [beq_self_eq_true, cnd_true, if_true, List.count_singleton]
        rw [wrap_sm (by omega) (by omega), h1 _ (.inr rfl)]
        simp
        omega
      · simp only [beq_self_eq_true, cnd_true, if_true, List.count_singleton, beq_false_of_ne hs, cnd_false]
        rw [h1 _ (.inl rfl)]
        simp
    · simp only [beq_false_of_ne hk, cnd_false, if_neg hk, List.count_nil, Nat.zero_add]
      exact h1 _ (.inl rfl)
theorem ctcs_eq (v : List UInt8) : ∀ (ts : List TType) (n : Int), 0 ≤ n → n + tnds ts ≤ 4611686018427387904 → ctcs v n ts = n + (tvss ts).count v
  | [], n, _, _ => by simp [ctcs, tvss]
  | a :: ts, n, h0, h => by
    simp only [tnds] at h
    have h2 := cnt_le v (tvs a)
    have h3 := tvs_len a
    simp only [ctcs, tvss, List.count_append]
    rw [ctc_eq v a n h0 (by omega), ctcs_eq v ts _ (by omega) (by omega)]
    omega
end
mutual
theorem ctn_eq (v : List UInt8) : ∀ (t : TType), tnd t ≤ 4611686018427387904 → ctn t v = (tvs t).count v
  | ⟨k, s, ts⟩, h => by
    simp only [tnd] at h
    have h1 : ∀ m : Int, (m = 0 ∨ m = 1) → ctns ts v m = m + (tvss ts).count v := fun m hm => ctns_eq v ts m (by omega) (by omega)
    simp only [ctn, tvs, List.count_append]
    by_cases hk : k = 1
    · subst hk
      by_cases hs : s = v
      · subst hs
        simp only [beq_self_eq_true, cnd_true, if_true, List.count_singleton]
        rw [h1 _ (.inr rfl)]
        simp
      · simp only [beq_self_eq_true, cnd_true, if_true, List.count_singleton, beq_false_of_ne hs, cnd_false]
        rw [h1 _ (.inl rfl)]
        simp
    · simp only [beq_false_of_ne hk, cnd_false, if_neg hk, List.count_nil, Nat.zero_add]
      rw [h1 _ (.inl rfl)]
      simp
theorem ctns_eq (v : List UInt8) : ∀ (ts : List TType) (n : Int), 0 ≤ n → n + tnds ts ≤ 4611686018427387904 → ctns ts v n = n + (tvss ts).count v
  | [], n, _, _ => by simp [ctns, tvss]
  | a :: ts, n, h0, h => by
    simp only [tnds] at h
    have h2 := cnt_le v (tvs a)
    have h3 := tvs_len a
    simp only [ctns, tvss, List.count_append]
    rw [ctn_eq v a (by omega), wrap_sm (by omega) (by omega), ctns_eq v ts _ (by omega) (by omega)]
    omega
end
theorem iOcc {v : List UInt8} {t : TType} (h : tnd t ≤ 4611686018427387904) : b_iOccurs v t = decide (v ∈ tvs t) := by
  have e : b_iCount t v = ((tvs t).count v : Int) := by
    show ctc v 0 t = _
    rw [ctc_eq v t 0 (by omega) (by omega)]
    simp
  simp only [b_iOccurs, e]
  by_cases hm : v ∈ tvs t
  · have := List.count_pos_iff.2 hm
    simp [hm]
  · simp [hm, List.count_eq_zero_of_not_mem hm]
theorem sOcc {v : List UInt8} {t : TType} (h : tnd t ≤ 4611686018427387904) : b_sOccurs v t = decide (v ∈ tvs t) := by
  simp only [b_sOccurs, ctn_eq v t h]
  by_cases hm : v ∈ tvs t
  · have := List.count_pos_iff.2 hm
    simp [hm]
  · simp [hm, List.count_eq_zero_of_not_mem hm]
def dom (l : List TBinding) : List (List UInt8) := l.map TBinding.var_
theorem lkp_out {v : List UInt8} : ∀ {l : List TBinding}, v ∉ dom l → (lkp v l).2 = false
  | [], _ => rfl
  | b :: l, h => by
    simp only [dom, List.map_cons, List.mem_cons, not_or] at h
    simp only [lkp]
    rw [beq_false_of_ne (fun e => h.1 e.symm)]
    exact lkp_out (l := l) h.2
theorem lkp_in {v : List UInt8} {l : List TBinding} (h : v ∈ dom l) : (lkp v l).2 = true := by
  cases hb : (lkp v l).2 with
  | true => rfl
  | false =>
    exfalso
    induction l with
    | nil => simp [dom] at h
    | cons b l ih =>
      simp only [lkp] at hb
      by_cases e : b.var_ = v
      · subst e; simp [cnd_true] at hb
      · rw [beq_false_of_ne e] at hb
        simp only [dom, List.map_cons, List.mem_cons] at h
        exact ih (h.resolve_left (fun e' => e e'.symm)) hb
mutual
theorem apT_out {l : List TBinding} : ∀ (t : TType), (∀ v ∈ tvs t, v ∉ dom l) → apT l t = t
  | ⟨k, n, ts⟩, h => by
    have h1 := apTs_out (l := l) ts (fun v hv => h v (by simp [tvs, hv]))
    simp only [apT, h1]
    by_cases hk : k = 1
    · rw [lkp_out (h n (by simp [tvs, hk]))]
      cases (k == 1) <;> rfl
    · rw [beq_false_of_ne hk]
      simp [cnd_false]
theorem apTs_out {l : List TBinding} : ∀ (ts : List TType), (∀ v ∈ tvss ts, v ∉ dom l) → apTs l ts = ts
  | [], _ => rfl
  | a :: ts, h => by
    simp only [apTs]
    rw [apT_out a (fun v hv => h v (by simp [tvss, hv])), apTs_out ts (fun v hv => h v (by simp [tvss, hv]))]
end
mutual
theorem tvs_ap {l : List TBinding} {v : List UInt8} : ∀ (t : TType), v ∈ tvs (apT l t) → (v ∈ tvs t ∧ v ∉ dom l) ∨ ∃ b ∈ l, v ∈ tvs b.type_
  | ⟨k, n, ts⟩, h => by
    have key : v ∈ tvss (apTs l ts) → (v ∈ tvs ⟨k, n, ts⟩ ∧ v ∉ dom l) ∨ ∃ b ∈ l, v ∈ tvs b.type_ := fun h => (tvss_ap ts h).imp (fun h => ⟨by simp [tvs, h.1], h.2⟩) id
    simp only [apT] at h
    by_cases hk : k = 1
    · subst hk
      cases hb : (lkp n l).2 with
      | true =>
        rw [hb] at h
        simp only [beq_self_eq_true, cnd_true] at h
        obtain ⟨b, h1, _, h3⟩ := lkp_mem hb
        rw [h3] at h
        exact .inr ⟨b, h1, h⟩
      | false =>
        rw [hb] at h
        simp only [beq_self_eq_true, cnd_true, cnd_false, tvs, if_true, List.mem_append, List.mem_singleton] at h
        rcases h with rfl | h
        · refine .inl ⟨by simp [tvs], fun hd => ?_⟩
          rw [lkp_in hd] at hb
          cases hb
        · exact key h
    · rw [beq_false_of_ne hk] at h
      simp only [cnd_false, tvs, if_neg hk, List.nil_append] at h
      exact key h
theorem tvss_ap {l : List TBinding} {v : List UInt8} : ∀ (ts : List TType), v ∈ tvss (apTs l ts) → (v ∈ tvss ts ∧ v ∉ dom l) ∨ ∃ b ∈ l, v ∈ tvs b.type_
  | [], h => by simp [apTs, tvss] at h
  | a :: ts, h => by
    simp only [apTs, tvss, List.mem_append] at h
    rcases h with h | h
    · exact (tvs_ap a h).imp (fun h => ⟨by simp [tvss, h.1], h.2⟩) id
    · exact (tvss_ap ts h).imp (fun h => ⟨by simp [tvss, h.1], h.2⟩) id
end
/-- A variable is bound. -/
def bindL (l : List TBinding) (v : List UInt8) (y : TType) : List TBinding := l.map (fun b => ⟨b.var_, apT [⟨v, y⟩] b.type_⟩) ++ [⟨v, y⟩]
theorem dom_bind (l : List TBinding) (v : List UInt8) (y : TType) : dom (bindL l v y) = dom l ++ [v] := by
  simp [dom, bindL]
theorem lkp_bind (v : List UInt8) (y : TType) (n : List UInt8) : ∀ (l : List TBinding), lkp n (bindL l v y) = cnd (lkp n l).2 (apT [⟨v, y⟩] (lkp n l).1, true) (lkp n [⟨v, y⟩])
  | [] => by simp [bindL, lkp, cnd_false]
  | b :: l => by
    have h := lkp_bind v y n l
    simp only [bindL, List.map_cons, List.cons_append, lkp] at h ⊢
    cases b.var_ == n with
    | true => simp [cnd_true]
    | false => simpa [cnd_false] using h
mutual
theorem apT_bind (l : List TBinding) (v : List UInt8) (y : TType) : ∀ (t : TType), apT (bindL l v y) t = apT [⟨v, y⟩] (apT l t)
  | ⟨k, n, ts⟩ => by
    have h1 := apTs_bind l v y ts
    simp only [apT, h1, lkp_bind]
    by_cases hk : k = 1
    · subst hk
      cases hb : (lkp n l).2 with
      | true => simp [cnd_true]
      | false => simp [apT, cnd_true, cnd_false]
    · rw [beq_false_of_ne hk]
      simp [apT, beq_false_of_ne hk, cnd_false]
theorem apTs_bind (l : List TBinding) (v : List UInt8) (y : TType) : ∀ (ts : List TType), apTs (bindL l v y) ts = apTs [⟨v, y⟩] (apTs l ts)
  | [] => rfl
  | a :: ts => by simp only [apTs, apT_bind l v y a, apTs_bind l v y ts]
end

end Go.Proofs.Ytdofnoeiogjpjaa
