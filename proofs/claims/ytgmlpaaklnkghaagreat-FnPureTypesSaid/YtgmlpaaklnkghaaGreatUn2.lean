/- Un2. Written by a program of mine (aw.py). -/
import Derived.Test.YtgmlpaaklnkghaaGreatEng39
import Derived.Test.YtgmlpaaklnkghaaGreatUn1
set_option linter.unusedVariables false
set_option linter.unusedSimpArgs false
set_option linter.unusedSectionVars false
namespace Go.Proofs.YtgmlpaaklnkghaaGreat
open Go Go.Eng
attribute [local irreducible] V VO VQ VY Quiet QR SpecP SpecO Rng PostP PostO PostG
def b_l1New_l1 (code : List UInt8) : Nat → Int → Int → Option (Tl1Cur)
  | 0, y1, y2 => none
  | n3 + 1, y1, y2 => lt_ ((cnd (decide (y2 < (code.length : Int))) ((decide (y2 < 4000))) (false))) fun b4 =>
(cnd b4 (
bnd (at? code y2) fun x7 =>
b_l1New_l1 code n3 (andI (IntKind.i64.wrap ((IntKind.i64.wrap ((IntKind.i64.wrap (y1 * 131)) + (IntKind.i64.wrap (x7.toNat : Int)))) + 7)) 1073741823) (IntKind.i64.wrap (y2 + 1))) (
(some (Tl1Cur.mk code 0 y1))))
def b_l1New (code : List UInt8) (n0 : Nat) : Option (Tl1Cur) :=
b_l1New_l1 code n0 (IntKind.i64.wrap ((28803 : Int) + (code.length : Int))) 0
set_option maxHeartbeats 4000000 in
theorem w_l1New (code : List UInt8) {n0 : Nat} {r : Tl1Cur} (h : b_l1New code n0 = some r) : Go.Eng.Spec Tryz.prog 15 [.d (.sl 1 (eBytes code))] [] (fun sv Lo => sv = .ptr 0 0 ∧ Lo = [.box [.d (.sl 1 (eBytes r.b)), .d (.i .i64 r.i), .d (.i .i64 r.h)]]) := by
  unfold b_l1New at h
  refine Spec_intro 0 Tryz.func15 rfl (by kernel_rfl) rfl rfl fun A _ => ?_
  refine goL ?_
  refine VO_r (QR_nilp) ?_
  refine goL ?_
  refine VO_r (QR_ar) ?_
  refine goL ?_
  refine V_block ?_
  show V _ _ _ _ _
  refine V_loop3 (fun (n3 : Nat) (y1 : Int) (y2 : Int) => ⟨[(0, .d (.sl 1 (eBytes code))), (3, .d (.i .i64 y1)), (4, .d (.i .i64 y2))], [], Tryz.f15.ntmps⟩) (fun n3 y1 y2 => b_l1New_l1 code n3 y1 y2 = some r) (fun n3 y1 y2 => n3) n0 (IntKind.i64.wrap ((28803 : Int) + (code.length : Int))) 0 ⟨rfl, ⟨⟨rfl, rfl⟩, ⟨rfl, rfl⟩, ⟨rfl, rfl⟩, trivial⟩, ⟨[], rfl⟩, rfl⟩ h ?_
  rintro n3 y1 y2 h
  rcases n3 with _ | n3
  · cases h
  rw [b_l1New_l1.eq_2] at h
  refine goL ?_
  obtain ⟨b4, hb4, h⟩ := lt_x h
  refine VO_join ⟨[(0, .d (.sl 1 (eBytes code))), (3, .d (.i .i64 y1)), (4, .d (.i .i64 y2)), (15, .d (.b b4))], [], Tryz.f15.ntmps⟩ ?_ ?_
  · refine VO_case 12 (fun c5 => ?_) (fun c5 => ?_)
    · replace hb4 := cnd_t c5 hb4
      refine goL ?_
      cases hb4
      exact ⟨rfl, ⟨⟨rfl, rfl⟩, ⟨rfl, rfl⟩, ⟨rfl, rfl⟩, ⟨rfl, rfl⟩, trivial⟩, ⟨[], rfl⟩, rfl⟩
    · replace hb4 := cnd_f c5 hb4
      refine goL ?_
      cases hb4
      exact ⟨rfl, ⟨⟨rfl, rfl⟩, ⟨rfl, rfl⟩, ⟨rfl, rfl⟩, ⟨rfl, rfl⟩, trivial⟩, ⟨[], rfl⟩, rfl⟩
  refine goL ?_
  refine V_cb (fun c6 => ?_) (fun c6 => ?_)
  · replace h := cnd_t c6 h
    refine V_skip ?_
    show V _ _ _ _ _
    refine V_seq (V_block ?_)
    refine goL ?_
    refine VO_r (QR_ar) ?_
    refine goL ?_
    obtain ⟨x7, hx7, h⟩ := bnd_s h
    obtain ⟨hx70, hx7⟩ := at_s hx7
    refine VO_r (QR_ixi hx70 (gByte hx7)) ?_
    refine goL ?_
    refine VO_r (QR_cv Tryz.underlying5 Tryz.underlying3) ?_
    refine VO_r (QR_ar) ?_
    refine VO_r (QR_ar) ?_
    refine VO_r (QR_and) ?_
    refine goL ?_
    refine VO_r (QR_ar) ?_
    refine goL ?_
    exact ⟨n3, (andI (IntKind.i64.wrap ((IntKind.i64.wrap ((IntKind.i64.wrap (y1 * 131)) + (IntKind.i64.wrap (x7.toNat : Int)))) + 7)) 1073741823), (IntKind.i64.wrap (y2 + 1)), h, Nat.lt_succ_self _, ⟨rfl, ⟨⟨rfl, rfl⟩, ⟨rfl, rfl⟩, ⟨rfl, rfl⟩, trivial⟩, ⟨_, rfl⟩, rfl⟩⟩
  · replace h := cnd_f c6 h
    refine V_exit ?_
    show V _ _ _ _ _
    refine goL ?_
    refine VO_k (Q_build TBd.h TZ.h rfl (by repeat constructor)) ?_
    refine goL ?_
    refine V_ret ?_
    replace h := Option.some.inj h
    subst h
    exact R_rH [.ptr 0 0] [.box [.d (.sl 1 (eBytes code)), .d (.i .i64 0), .d (.i .i64 y1)]] ⟨rfl, rfl⟩
/-- The cursor at its start. -/
def l1NewT (code : List UInt8) : Tl1Cur := (b_l1New code 4001).getD ⟨[], 0, 0⟩
theorem l1New_l1_ok (code : List UInt8) : ∀ (n : Nat) (y1 y2 : Int), 0 ≤ y2 → y2 ≤ 4000 → (4001 - y2).toNat ≤ n → ∃ h, b_l1New_l1 code n y1 y2 = some ⟨code, 0, h⟩
  | 0, y1, y2, h0, h1, hn => by omega
  | n + 1, y1, y2, h0, h1, hn => by
    simp only [b_l1New_l1, lt_]
    cases hc : decide (y2 < (code.length : Int)) with
    | false => exact ⟨y1, rfl⟩
    | true =>
      simp only [cnd_true]
      cases hd : decide (y2 < 4000) with
      | false => exact ⟨y1, rfl⟩
      | true =>
        have h3 := of_decide_eq_true hc
        have h4 := of_decide_eq_true hd
        have hx : at? code y2 = some (code[y2.toNat]'(by omega)) := by unfold at?; rw [if_pos h0]; exact List.getElem?_eq_getElem _
        simp only [cnd_true]
        rw [bnd_eq hx, wrap_in (y2 + 1) (by omega) (by omega)]
        exact l1New_l1_ok code n _ (y2 + 1) (by omega) (by omega) (by omega)
theorem l1New_eq (code : List UInt8) : b_l1New code 4001 = some (l1NewT code) ∧ (l1NewT code).b = code ∧ (l1NewT code).i = 0 := by
  obtain ⟨h, e⟩ := l1New_l1_ok code 4001 (IntKind.i64.wrap ((28803 : Int) + (code.length : Int))) 0 (by omega) (by omega) (by omega)
  have e' : b_l1New code 4001 = some ⟨code, 0, h⟩ := e
  unfold l1NewT
  rw [e']
  exact ⟨rfl, rfl, rfl⟩
theorem t_l1New (code : List UInt8) : Go.Eng.Spec Tryz.prog 15 [.d (.sl 1 (eBytes code))] [] (fun sv Lo => sv = .ptr 0 0 ∧ Lo = [.box [.d (.sl 1 (eBytes (l1NewT code).b)), .d (.i .i64 (l1NewT code).i), .d (.i .i64 (l1NewT code).h)]]) := w_l1New code (l1New_eq code).1
def b_l1Byte (c : Tl1Cur) : Option (Int × Tl1Cur) :=
(cnd (decide (c.i < (c.b.length : Int))) (
bnd (at? c.b c.i) fun x2 =>
(some ((andI (IntKind.i64.wrap ((andI (xorI (shrI (IntKind.i64.wrap ((IntKind.i64.wrap (c.h * 6364136223846793005)) + 1442695040888963407)) 33) (shrI (IntKind.i64.wrap ((IntKind.i64.wrap (c.h * 6364136223846793005)) + 1442695040888963407)) 45)) 255) + (IntKind.i64.wrap (x2.toNat : Int)))) 255), (Tl1Cur.mk c.b (IntKind.i64.wrap (c.i + 1)) (IntKind.i64.wrap ((IntKind.i64.wrap (c.h * 6364136223846793005)) + 1442695040888963407)))))) (
(some ((andI (xorI (shrI (IntKind.i64.wrap ((IntKind.i64.wrap (c.h * 6364136223846793005)) + 1442695040888963407)) 33) (shrI (IntKind.i64.wrap ((IntKind.i64.wrap (c.h * 6364136223846793005)) + 1442695040888963407)) 45)) 255), (Tl1Cur.mk c.b c.i (IntKind.i64.wrap ((IntKind.i64.wrap (c.h * 6364136223846793005)) + 1442695040888963407)))))))
set_option maxHeartbeats 4000000 in
theorem w_l1Byte (c : Tl1Cur) {r : Int × Tl1Cur} (h : b_l1Byte c = some r) : Go.Eng.Spec Tryz.prog 58 [.ptr 0 0] [.box [.d (.sl 1 (eBytes c.b)), .d (.i .i64 c.i), .d (.i .i64 c.h)]] (fun sv Lo => sv = .d (.i .i64 r.1) ∧ Lo = [.box [.d (.sl 1 (eBytes r.2.b)), .d (.i .i64 r.2.i), .d (.i .i64 r.2.h)]]) := by
  obtain ⟨c_0, c_1, c_2⟩ := c
  unfold b_l1Byte at h
  refine Spec_intro 1 Tryz.func58 rfl (by kernel_rfl) rfl rfl fun A _ => ?_
  refine goL ?_
  refine VO_r (QR_nc) ?_
  refine goL ?_
  refine VO_r (QR_ar) ?_
  refine VO_r (QR_ar) ?_
  refine VO_r (QR_nc) ?_
  refine goL ?_
  refine VQ_r (QR_nc) ?_
  refine goL ?_
  refine VQ_r (QR_shr) ?_
  refine goL ?_
  refine VQ_r (QR_nc) ?_
  refine goL ?_
  refine VQ_r (QR_shr) ?_
  refine VQ_r (QR_xor) ?_
  refine VQ_r (QR_and) ?_
  refine goL ?_
  refine VQ_r (QR_nc) ?_
  refine goL ?_
  refine VQ_r (QR_nc) ?_
  refine goL ?_
  refine V_cb (fun c1 => ?_) (fun c1 => ?_)
  · replace h := cnd_t c1 h
    refine goL ?_
    refine VQ_r (QR_nc) ?_
    refine goL ?_
    refine VQ_r (QR_nc) ?_
    refine goL ?_
    obtain ⟨x2, hx2, h⟩ := bnd_s h
    obtain ⟨hx20, hx2⟩ := at_s hx2
    refine VQ_r (QR_ixi hx20 (gByte hx2)) ?_
    refine goL ?_
    refine VQ_r (QR_cv Tryz.underlying5 Tryz.underlying3) ?_
    refine VQ_r (QR_ar) ?_
    refine VQ_r (QR_and) ?_
    refine goL ?_
    refine VO_r (QR_nc) ?_
    refine goL ?_
    refine VO_r (QR_ar) ?_
    refine VO_r (QR_nc) ?_
    refine goL ?_
    refine V_ret ?_
    replace h := Option.some.inj h
    subst h
    exact R_rH [.d (.i .i64 (andI (IntKind.i64.wrap ((andI (xorI (shrI (IntKind.i64.wrap ((IntKind.i64.wrap (c_2 * 6364136223846793005)) + 1442695040888963407)) 33) (shrI (IntKind.i64.wrap ((IntKind.i64.wrap (c_2 * 6364136223846793005)) + 1442695040888963407)) 45)) 255) + (IntKind.i64.wrap (x2.toNat : Int)))) 255))] [.box [.d (.sl 1 (eBytes c_0)), .d (.i .i64 (IntKind.i64.wrap (c_1 + 1))), .d (.i .i64 (IntKind.i64.wrap ((IntKind.i64.wrap (c_2 * 6364136223846793005)) + 1442695040888963407)))]] ⟨rfl, rfl⟩
  · replace h := cnd_f c1 h
    refine V_skip ?_
    show V _ _ _ _ _
    refine goL ?_
    refine V_ret ?_
    replace h := Option.some.inj h
    subst h
    exact R_rH [.d (.i .i64 (andI (xorI (shrI (IntKind.i64.wrap ((IntKind.i64.wrap (c_2 * 6364136223846793005)) + 1442695040888963407)) 33) (shrI (IntKind.i64.wrap ((IntKind.i64.wrap (c_2 * 6364136223846793005)) + 1442695040888963407)) 45)) 255))] [.box [.d (.sl 1 (eBytes c_0)), .d (.i .i64 c_1), .d (.i .i64 (IntKind.i64.wrap ((IntKind.i64.wrap (c_2 * 6364136223846793005)) + 1442695040888963407)))]] ⟨rfl, rfl⟩
def b_l1Below (c : Tl1Cur) (n : Int) : Option (Int × Tl1Cur) :=
(cnd (decide (n ≤ 0)) (
(some (0, c))) (
(cnd (decide (n ≤ 256)) (
bnd (b_l1Byte c) fun x3 =>
gd (n ≠ 0) (
(some ((Int.tmod x3.1 n), x3.2)))) (
bnd (b_l1Byte c) fun x5 =>
bnd (b_l1Byte x5.2) fun x6 =>
bnd (b_l1Byte x6.2) fun x7 =>
bnd (b_l1Byte x7.2) fun x8 =>
gd (n ≠ 0) (
(some ((Int.tmod (IntKind.i64.wrap ((IntKind.i64.wrap ((IntKind.i64.wrap ((IntKind.i64.wrap (x5.1 * 16777216)) + (IntKind.i64.wrap (x6.1 * 65536)))) + (IntKind.i64.wrap (x7.1 * 256)))) + x8.1)) n), x8.2)))))))
set_option maxHeartbeats 4000000 in
theorem w_l1Below (c : Tl1Cur) (n : Int) {r : Int × Tl1Cur} (h : b_l1Below c n = some r) : Go.Eng.Spec Tryz.prog 27 [.ptr 0 0, .d (.i .i64 n)] [.box [.d (.sl 1 (eBytes c.b)), .d (.i .i64 c.i), .d (.i .i64 c.h)]] (fun sv Lo => sv = .d (.i .i64 r.1) ∧ Lo = [.box [.d (.sl 1 (eBytes r.2.b)), .d (.i .i64 r.2.i), .d (.i .i64 r.2.h)]]) := by
  obtain ⟨c_0, c_1, c_2⟩ := c
  unfold b_l1Below at h
  refine Spec_intro 1 Tryz.func27 rfl (by kernel_rfl) rfl rfl fun A _ => ?_
  refine goL ?_
  refine V_cb (fun c1 => ?_) (fun c1 => ?_)
  · replace h := cnd_t c1 h
    refine goL ?_
    refine V_ret ?_
    replace h := Option.some.inj h
    subst h
    exact R_rH [.d (.i .i64 0)] [.box [.d (.sl 1 (eBytes c_0)), .d (.i .i64 c_1), .d (.i .i64 c_2)]] ⟨rfl, rfl⟩
  · replace h := cnd_f c1 h
    refine V_skip ?_
    show V _ _ _ _ _
    refine goL ?_
    refine V_cb (fun c2 => ?_) (fun c2 => ?_)
    · replace h := cnd_t c2 h
      refine goL ?_
      obtain ⟨x3, hx3, h⟩ := bnd_s h
      obtain ⟨x3_0, ⟨x3_1_0, x3_1_1, x3_1_2⟩⟩ := x3
      refine VO_cG [0] (w_l1Byte (Tl1Cur.mk c_0 c_1 c_2) hx3) ?_
      rintro _ _ ⟨rfl, rfl⟩
      show VO _ _ _ _ ⟨(_, .d (.i .i64 x3_0)) :: _, [.box [.d (.sl 1 (eBytes x3_1_0)), .d (.i .i64 x3_1_1), .d (.i .i64 x3_1_2)]], _⟩ _
      refine goL ?_
      obtain ⟨g4, h⟩ := gd_s h
      refine VO_r (QR_rem g4) ?_
      refine goL ?_
      refine V_ret ?_
      replace h := Option.some.inj h
      subst h
      exact R_rH [.d (.i .i64 (Int.tmod x3_0 n))] [.box [.d (.sl 1 (eBytes x3_1_0)), .d (.i .i64 x3_1_1), .d (.i .i64 x3_1_2)]] ⟨rfl, rfl⟩
    · replace h := cnd_f c2 h
      refine V_skip ?_
      show V _ _ _ _ _
      refine goL ?_
      obtain ⟨x5, hx5, h⟩ := bnd_s h
      obtain ⟨x5_0, ⟨x5_1_0, x5_1_1, x5_1_2⟩⟩ := x5
      refine VO_cG [0] (w_l1Byte (Tl1Cur.mk c_0 c_1 c_2) hx5) ?_
      rintro _ _ ⟨rfl, rfl⟩
      show VO _ _ _ _ ⟨(_, .d (.i .i64 x5_0)) :: _, [.box [.d (.sl 1 (eBytes x5_1_0)), .d (.i .i64 x5_1_1), .d (.i .i64 x5_1_2)]], _⟩ _
      refine goL ?_
      obtain ⟨x6, hx6, h⟩ := bnd_s h
      obtain ⟨x6_0, ⟨x6_1_0, x6_1_1, x6_1_2⟩⟩ := x6
      refine VO_cG [0] (w_l1Byte (Tl1Cur.mk x5_1_0 x5_1_1 x5_1_2) hx6) ?_
      rintro _ _ ⟨rfl, rfl⟩
      show VO _ _ _ _ ⟨(_, .d (.i .i64 x6_0)) :: _, [.box [.d (.sl 1 (eBytes x6_1_0)), .d (.i .i64 x6_1_1), .d (.i .i64 x6_1_2)]], _⟩ _
      refine goL ?_
      obtain ⟨x7, hx7, h⟩ := bnd_s h
      obtain ⟨x7_0, ⟨x7_1_0, x7_1_1, x7_1_2⟩⟩ := x7
      refine VO_cG [0] (w_l1Byte (Tl1Cur.mk x6_1_0 x6_1_1 x6_1_2) hx7) ?_
      rintro _ _ ⟨rfl, rfl⟩
      show VO _ _ _ _ ⟨(_, .d (.i .i64 x7_0)) :: _, [.box [.d (.sl 1 (eBytes x7_1_0)), .d (.i .i64 x7_1_1), .d (.i .i64 x7_1_2)]], _⟩ _
      refine goL ?_
      obtain ⟨x8, hx8, h⟩ := bnd_s h
      obtain ⟨x8_0, ⟨x8_1_0, x8_1_1, x8_1_2⟩⟩ := x8
      refine VO_cG [0] (w_l1Byte (Tl1Cur.mk x7_1_0 x7_1_1 x7_1_2) hx8) ?_
      rintro _ _ ⟨rfl, rfl⟩
      show VO _ _ _ _ ⟨(_, .d (.i .i64 x8_0)) :: _, [.box [.d (.sl 1 (eBytes x8_1_0)), .d (.i .i64 x8_1_1), .d (.i .i64 x8_1_2)]], _⟩ _
      refine goL ?_
      refine VO_r (QR_ar) ?_
      refine goL ?_
      refine VO_r (QR_ar) ?_
      refine VO_r (QR_ar) ?_
      refine goL ?_
      refine VO_r (QR_ar) ?_
      refine VO_r (QR_ar) ?_
      refine goL ?_
      refine VO_r (QR_ar) ?_
      refine goL ?_
      obtain ⟨g9, h⟩ := gd_s h
      refine VO_r (QR_rem g9) ?_
      refine goL ?_
      refine V_ret ?_
      replace h := Option.some.inj h
      subst h
      exact R_rH [.d (.i .i64 (Int.tmod (IntKind.i64.wrap ((IntKind.i64.wrap ((IntKind.i64.wrap ((IntKind.i64.wrap (x5_0 * 16777216)) + (IntKind.i64.wrap (x6_0 * 65536)))) + (IntKind.i64.wrap (x7_0 * 256)))) + x8_0)) n))] [.box [.d (.sl 1 (eBytes x8_1_0)), .d (.i .i64 x8_1_1), .d (.i .i64 x8_1_2)]] ⟨rfl, rfl⟩
def b_l1Pick (c : Tl1Cur) (l : List (List UInt8)) : Option (List UInt8 × Tl1Cur) :=
bnd (b_l1Below c (l.length : Int)) fun x1 =>
bnd (at? l x1.1) fun x2 =>
(some (x2, x1.2))
set_option maxHeartbeats 4000000 in
theorem w_l1Pick (c : Tl1Cur) (l : List (List UInt8)) {r : List UInt8 × Tl1Cur} (h : b_l1Pick c l = some r) : Go.Eng.Spec Tryz.prog 34 [.ptr 0 0, .d (.sl 1 (eStrs l))] [.box [.d (.sl 1 (eBytes c.b)), .d (.i .i64 c.i), .d (.i .i64 c.h)]] (fun sv Lo => sv = .d (.s r.1) ∧ Lo = [.box [.d (.sl 1 (eBytes r.2.b)), .d (.i .i64 r.2.i), .d (.i .i64 r.2.h)]]) := by
  obtain ⟨c_0, c_1, c_2⟩ := c
  unfold b_l1Pick at h
  refine Spec_intro 1 Tryz.func34 rfl (by kernel_rfl) rfl rfl fun A _ => ?_
  refine goL ?_
  obtain ⟨x1, hx1, h⟩ := bnd_s h
  obtain ⟨x1_0, ⟨x1_1_0, x1_1_1, x1_1_2⟩⟩ := x1
  refine VO_cG [0] (w_l1Below (Tl1Cur.mk c_0 c_1 c_2) (l.length : Int) hx1) ?_
  rintro _ _ ⟨rfl, rfl⟩
  show VO _ _ _ _ ⟨(_, .d (.i .i64 x1_0)) :: _, [.box [.d (.sl 1 (eBytes x1_1_0)), .d (.i .i64 x1_1_1), .d (.i .i64 x1_1_2)]], _⟩ _
  obtain ⟨x2, hx2, h⟩ := bnd_s h
  obtain ⟨hx20, hx2⟩ := at_s hx2
  refine VO_r (QR_ixi hx20 (gStr hx2)) ?_
  refine goL ?_
  refine V_ret ?_
  replace h := Option.some.inj h
  subst h
  exact R_rH [.d (.s x2)] [.box [.d (.sl 1 (eBytes x1_1_0)), .d (.i .i64 x1_1_1), .d (.i .i64 x1_1_2)]] ⟨rfl, rfl⟩
def b_l1PickInt (c : Tl1Cur) (l : List Int) : Option (Int × Tl1Cur) :=
bnd (b_l1Below c (l.length : Int)) fun x1 =>
bnd (at? l x1.1) fun x2 =>
(some (x2, x1.2))
set_option maxHeartbeats 4000000 in
theorem w_l1PickInt (c : Tl1Cur) (l : List Int) {r : Int × Tl1Cur} (h : b_l1PickInt c l = some r) : Go.Eng.Spec Tryz.prog 57 [.ptr 0 0, .d (.sl 1 (eInts l))] [.box [.d (.sl 1 (eBytes c.b)), .d (.i .i64 c.i), .d (.i .i64 c.h)]] (fun sv Lo => sv = .d (.i .i64 r.1) ∧ Lo = [.box [.d (.sl 1 (eBytes r.2.b)), .d (.i .i64 r.2.i), .d (.i .i64 r.2.h)]]) := by
  obtain ⟨c_0, c_1, c_2⟩ := c
  unfold b_l1PickInt at h
  refine Spec_intro 1 Tryz.func57 rfl (by kernel_rfl) rfl rfl fun A _ => ?_
  refine goL ?_
  obtain ⟨x1, hx1, h⟩ := bnd_s h
  obtain ⟨x1_0, ⟨x1_1_0, x1_1_1, x1_1_2⟩⟩ := x1
  refine VO_cG [0] (w_l1Below (Tl1Cur.mk c_0 c_1 c_2) (l.length : Int) hx1) ?_
  rintro _ _ ⟨rfl, rfl⟩
  show VO _ _ _ _ ⟨(_, .d (.i .i64 x1_0)) :: _, [.box [.d (.sl 1 (eBytes x1_1_0)), .d (.i .i64 x1_1_1), .d (.i .i64 x1_1_2)]], _⟩ _
  obtain ⟨x2, hx2, h⟩ := bnd_s h
  obtain ⟨hx20, hx2⟩ := at_s hx2
  refine VO_r (QR_ixi hx20 (gInt hx2)) ?_
  refine goL ?_
  refine V_ret ?_
  replace h := Option.some.inj h
  subst h
  exact R_rH [.d (.i .i64 x2)] [.box [.d (.sl 1 (eBytes x1_1_0)), .d (.i .i64 x1_1_1), .d (.i .i64 x1_1_2)]] ⟨rfl, rfl⟩
def b_l1Once (c : Tl1Cur) (n : Int) : Option (Bool × Tl1Cur) :=
bnd (b_l1Below c n) fun x1 =>
(some ((x1.1 == 0), x1.2))
set_option maxHeartbeats 4000000 in
theorem w_l1Once (c : Tl1Cur) (n : Int) {r : Bool × Tl1Cur} (h : b_l1Once c n = some r) : Go.Eng.Spec Tryz.prog 37 [.ptr 0 0, .d (.i .i64 n)] [.box [.d (.sl 1 (eBytes c.b)), .d (.i .i64 c.i), .d (.i .i64 c.h)]] (fun sv Lo => sv = .d (.b r.1) ∧ Lo = [.box [.d (.sl 1 (eBytes r.2.b)), .d (.i .i64 r.2.i), .d (.i .i64 r.2.h)]]) := by
  obtain ⟨c_0, c_1, c_2⟩ := c
  unfold b_l1Once at h
  refine Spec_intro 1 Tryz.func37 rfl (by kernel_rfl) rfl rfl fun A _ => ?_
  refine goL ?_
  obtain ⟨x1, hx1, h⟩ := bnd_s h
  obtain ⟨x1_0, ⟨x1_1_0, x1_1_1, x1_1_2⟩⟩ := x1
  refine VO_cG [0] (w_l1Below (Tl1Cur.mk c_0 c_1 c_2) n hx1) ?_
  rintro _ _ ⟨rfl, rfl⟩
  show VO _ _ _ _ ⟨(_, .d (.i .i64 x1_0)) :: _, [.box [.d (.sl 1 (eBytes x1_1_0)), .d (.i .i64 x1_1_1), .d (.i .i64 x1_1_2)]], _⟩ _
  refine goL ?_
  refine V_ret ?_
  replace h := Option.some.inj h
  subst h
  exact R_rH [.d (.b (x1_0 == 0))] [.box [.d (.sl 1 (eBytes x1_1_0)), .d (.i .i64 x1_1_1), .d (.i .i64 x1_1_2)]] ⟨rfl, rfl⟩
def b_sVar (a0 : List UInt8) : TType :=
(TType.mk 1 a0 [])
set_option maxHeartbeats 4000000 in
theorem w_sVar (a0 : List UInt8) : SpecP Tryz.prog 71 [.d (.s a0)] [eType (b_sVar a0)] := by
  obtain ⟨r, h⟩ : ∃ r, b_sVar a0 = r := ⟨_, rfl⟩
  rw [h]
  unfold b_sVar at h
  refine SpecP_intro Tryz.func71 rfl (by kernel_rfl) rfl fun A _ => ?_
  refine goL ?_
  refine VO_k (Q_build TBd.h TZ.h rfl (by repeat constructor)) ?_
  refine goL ?_
  refine V_ret ?_
  subst h
  exact R_rP
def b_l4Con (a0 : List UInt8) (a1 : List TType) : Option (TType) :=
gd (([] : List TType).length + a1.length ≤ 4294967296) (
(some (TType.mk 2 a0 ([] ++ a1))))
set_option maxHeartbeats 4000000 in
theorem w_l4Con (a0 : List UInt8) (a1 : List TType) {r : TType} (h : b_l4Con a0 a1 = some r) : SpecP Tryz.prog 40 [.d (.s a0), .d (.sl 3 (eTypes a1))] [eType r] := by
  unfold b_l4Con at h
  refine SpecP_intro Tryz.func40 rfl (by kernel_rfl) rfl fun A _ => ?_
  refine goL ?_
  refine VO_l0a ?_
  refine goL ?_
  obtain ⟨g1, h⟩ := gd_s h
  refine VO_apa g1 ?_
  refine VO_k (Q_build TBd.h TZ.h rfl (by repeat constructor)) ?_
  refine goL ?_
  refine V_freeze 1 rfl rfl ?_
  refine V_ret ?_
  replace h := Option.some.inj h
  subst h
  exact R_rP
def b_l4Int  : Option (TType) :=
bnd (b_l4Con [105, 110, 116] []) fun x1 =>
(some x1)
set_option maxHeartbeats 4000000 in
theorem w_l4Int  {r : TType} (h : b_l4Int  = some r) : SpecP Tryz.prog 38 [] [eType r] := by
  unfold b_l4Int at h
  refine SpecP_intro Tryz.func38 rfl (by kernel_rfl) rfl fun A _ => ?_
  refine goL ?_
  obtain ⟨x1, hx1, h⟩ := bnd_s h
  obtain ⟨x1_0, x1_1, x1_2⟩ := x1
  refine VO_r (QR_call (w_l4Con [105, 110, 116] [] hx1)) ?_
  refine goL ?_
  refine V_ret ?_
  replace h := Option.some.inj h
  subst h
  exact R_rP
def b_l4Bool  : Option (TType) :=
bnd (b_l4Con [98, 111, 111, 108] []) fun x1 =>
(some x1)
set_option maxHeartbeats 4000000 in
theorem w_l4Bool  {r : TType} (h : b_l4Bool  = some r) : SpecP Tryz.prog 39 [] [eType r] := by
  unfold b_l4Bool at h
  refine SpecP_intro Tryz.func39 rfl (by kernel_rfl) rfl fun A _ => ?_
  refine goL ?_
  obtain ⟨x1, hx1, h⟩ := bnd_s h
  obtain ⟨x1_0, x1_1, x1_2⟩ := x1
  refine VO_r (QR_call (w_l4Con [98, 111, 111, 108] [] hx1)) ?_
  refine goL ?_
  refine V_ret ?_
  replace h := Option.some.inj h
  subst h
  exact R_rP
def b_l4Proj (a0 : List UInt8) (a1 : TType) : Option (TType) :=
gd (tok a1) (lt_ (idT a1) fun x2 =>
(some (TType.mk 3 a0 [x2])))
set_option maxHeartbeats 4000000 in
theorem w_l4Proj (a0 : List UInt8) (a1 : TType) {r : TType} (h : b_l4Proj a0 a1 = some r) : SpecP Tryz.prog 68 [.d (.s a0), .d (eType a1)] [eType r] := by
  obtain ⟨a1_0, a1_1, a1_2⟩ := a1
  unfold b_l4Proj at h
  refine SpecP_intro Tryz.func68 rfl (by kernel_rfl) rfl fun A _ => ?_
  refine goL ?_
  obtain ⟨g1, h⟩ := gd_s h
  obtain ⟨x2, hx2, h⟩ := lt_x h
  obtain ⟨x2_0, x2_1, x2_2⟩ := x2
  have sx2 := (t_sCopyType (TType.mk a1_0 a1_1 a1_2) g1).p
  rw [hx2] at sx2
  refine VO_r (QR_call (sx2)) ?_
  refine VO_la1 (u := (.st [.i .i64 x2_0, .s x2_1, .sl 3 (eTypes x2_2)])) ?_
  refine VO_k (Q_build TBd.h TZ.h rfl (by repeat constructor)) ?_
  refine goL ?_
  refine V_freeze 2 rfl rfl ?_
  refine V_ret ?_
  replace h := Option.some.inj h
  subst h
  exact R_rP
def b_l4Ty (rec_l4Ty : Tl1Cur → (List (List UInt8)) → Int → Option (TType × Tl1Cur)) (c : Tl1Cur) (vars : List (List UInt8)) (deep : Int) : Option (TType × Tl1Cur) :=
bnd (b_l1Below c 8) fun x1 =>
lt_ ((cnd (decide (x1.1 < 3)) ((decide ((vars.length : Int) > 0))) (false))) fun b2 =>
(cnd b2 (
bnd (b_l1Below x1.2 (vars.length : Int)) fun x5 =>
bnd (at? vars x5.1) fun x6 =>
lt_ (b_sVar x6) fun x7 =>
(some (x7, x5.2))) (
lt_ ((cnd (decide (x1.1 < 5)) (true) ((decide (deep ≤ 0))))) fun b8 =>
(cnd b8 (
bnd (b_l1Pick x1.2 [[105, 110, 116], [98, 111, 111, 108], [117, 110, 105, 116]]) fun x11 =>
bnd (b_l4Con x11.1 []) fun x12 =>
(some (x12, x11.2))) (
(cnd (x1.1 == 5) (
bnd (rec_l4Ty x1.2 vars (IntKind.i64.wrap (deep - 1))) fun x14 =>
bnd (rec_l4Ty x14.2 vars (IntKind.i64.wrap (deep - 1))) fun x15 =>
bnd (b_l4Con [112, 97, 105, 114] [x14.1, x15.1]) fun x16 =>
(some (x16, x15.2))) (
bnd (b_l1Pick x1.2 [[108, 105, 115, 116], [108, 105, 115, 116], [98, 111, 120]]) fun x17 =>
bnd (rec_l4Ty x17.2 vars (IntKind.i64.wrap (deep - 1))) fun x18 =>
bnd (b_l4Con x17.1 [x18.1]) fun x19 =>
(some (x19, x18.2))))))))
set_option maxHeartbeats 4000000 in
theorem w_l4Ty {rec_l4Ty : Tl1Cur → (List (List UInt8)) → Int → Option (TType × Tl1Cur)} (hrec_l4Ty : ∀ (x0 : Tl1Cur) (x1 : List (List UInt8)) (x2 : Int) {r : TType × Tl1Cur}, rec_l4Ty x0 x1 x2 = some r → Go.Eng.Spec Tryz.prog 42 [.ptr 0 0, .d (.sl 1 (eStrs x1)), .d (.i .i64 x2)] [.box [.d (.sl 1 (eBytes x0.b)), .d (.i .i64 x0.i), .d (.i .i64 x0.h)]] (fun sv Lo => sv = .d (eType r.1) ∧ Lo = [.box [.d (.sl 1 (eBytes r.2.b)), .d (.i .i64 r.2.i), .d (.i .i64 r.2.h)]])) (c : Tl1Cur) (vars : List (List UInt8)) (deep : Int) {r : TType × Tl1Cur} (h : b_l4Ty rec_l4Ty c vars deep = some r) : Go.Eng.Spec Tryz.prog 42 [.ptr 0 0, .d (.sl 1 (eStrs vars)), .d (.i .i64 deep)] [.box [.d (.sl 1 (eBytes c.b)), .d (.i .i64 c.i), .d (.i .i64 c.h)]] (fun sv Lo => sv = .d (eType r.1) ∧ Lo = [.box [.d (.sl 1 (eBytes r.2.b)), .d (.i .i64 r.2.i), .d (.i .i64 r.2.h)]]) := by
  obtain ⟨c_0, c_1, c_2⟩ := c
  unfold b_l4Ty at h
  refine Spec_intro 1 Tryz.func42 rfl (by kernel_rfl) rfl rfl fun A _ => ?_
  refine goL ?_
  obtain ⟨x1, hx1, h⟩ := bnd_s h
  obtain ⟨x1_0, ⟨x1_1_0, x1_1_1, x1_1_2⟩⟩ := x1
  refine VO_cG [0] (w_l1Below (Tl1Cur.mk c_0 c_1 c_2) 8 hx1) ?_
  rintro _ _ ⟨rfl, rfl⟩
  show VO _ _ _ _ ⟨(_, .d (.i .i64 x1_0)) :: _, [.box [.d (.sl 1 (eBytes x1_1_0)), .d (.i .i64 x1_1_1), .d (.i .i64 x1_1_2)], .box [.d (.i .i64 0), .d (.s []), .nilsl]], _⟩ _
  refine goL ?_
  refine V_seq (V_block ?_)
  refine goL ?_
  obtain ⟨b2, hb2, h⟩ := lt_x h
  refine VO_join ⟨[(0, .ptr 0 0), (1, .d (.sl 1 (eStrs vars))), (2, .d (.i .i64 deep)), (6, .ptr 1 0), (7, .d (.i .i64 x1_0)), (10, .d (.b b2))], [.box [.d (.sl 1 (eBytes x1_1_0)), .d (.i .i64 x1_1_1), .d (.i .i64 x1_1_2)], .box [.d (.i .i64 0), .d (.s []), .nilsl]], Tryz.f42.ntmps⟩ ?_ ?_
  · refine VO_case 13 (fun c3 => ?_) (fun c3 => ?_)
    · replace hb2 := cnd_t c3 hb2
      refine goL ?_
      cases hb2
      exact ⟨rfl, ⟨⟨rfl, rfl⟩, ⟨rfl, rfl⟩, ⟨rfl, rfl⟩, ⟨rfl, rfl⟩, ⟨rfl, rfl⟩, ⟨rfl, rfl⟩, trivial⟩, ⟨[], rfl⟩, rfl⟩
    · replace hb2 := cnd_f c3 hb2
      refine goL ?_
      cases hb2
      exact ⟨rfl, ⟨⟨rfl, rfl⟩, ⟨rfl, rfl⟩, ⟨rfl, rfl⟩, ⟨rfl, rfl⟩, ⟨rfl, rfl⟩, ⟨rfl, rfl⟩, trivial⟩, ⟨[], rfl⟩, rfl⟩
  refine goL ?_
  refine V_cb (fun c4 => ?_) (fun c4 => ?_)
  · replace h := cnd_t c4 h
    refine goL ?_
    obtain ⟨x5, hx5, h⟩ := bnd_s h
    obtain ⟨x5_0, ⟨x5_1_0, x5_1_1, x5_1_2⟩⟩ := x5
    refine VO_cG [0] (w_l1Below (Tl1Cur.mk x1_1_0 x1_1_1 x1_1_2) (vars.length : Int) hx5) ?_
    rintro _ _ ⟨rfl, rfl⟩
    show VO _ _ _ _ ⟨(_, .d (.i .i64 x5_0)) :: _, [.box [.d (.sl 1 (eBytes x5_1_0)), .d (.i .i64 x5_1_1), .d (.i .i64 x5_1_2)], .box [.d (.i .i64 0), .d (.s []), .nilsl]], _⟩ _
    obtain ⟨x6, hx6, h⟩ := bnd_s h
    obtain ⟨hx60, hx6⟩ := at_s hx6
    refine VO_r (QR_ixi hx60 (gStr hx6)) ?_
    refine goL ?_
    obtain ⟨x7, hx7, h⟩ := lt_x h
    obtain ⟨x7_0, x7_1, x7_2⟩ := x7
    have sx7 := w_sVar x6
    rw [hx7] at sx7
    refine VO_r (QR_call (sx7)) ?_
    refine goL ?_
    refine V_ret ?_
    replace h := Option.some.inj h
    subst h
    exact R_rH [.d (.st [.i .i64 x7_0, .s x7_1, .sl 3 (eTypes x7_2)])] [.box [.d (.sl 1 (eBytes x5_1_0)), .d (.i .i64 x5_1_1), .d (.i .i64 x5_1_2)]] ⟨rfl, rfl⟩
  · replace h := cnd_f c4 h
    refine goL ?_
    obtain ⟨b8, hb8, h⟩ := lt_x h
    refine VO_join ⟨[(0, .ptr 0 0), (1, .d (.sl 1 (eStrs vars))), (2, .d (.i .i64 deep)), (6, .ptr 1 0), (7, .d (.i .i64 x1_0)), (26, .d (.b b8))], [.box [.d (.sl 1 (eBytes x1_1_0)), .d (.i .i64 x1_1_1), .d (.i .i64 x1_1_2)], .box [.d (.i .i64 0), .d (.s []), .nilsl]], Tryz.f42.ntmps⟩ ?_ ?_
    · refine VO_case 29 (fun c9 => ?_) (fun c9 => ?_)
      · replace hb8 := cnd_t c9 hb8
        refine goL ?_
        cases hb8
        exact ⟨rfl, ⟨⟨rfl, rfl⟩, ⟨rfl, rfl⟩, ⟨rfl, rfl⟩, ⟨rfl, rfl⟩, ⟨rfl, rfl⟩, ⟨rfl, rfl⟩, trivial⟩, ⟨[], rfl⟩, rfl⟩
      · replace hb8 := cnd_f c9 hb8
        refine goL ?_
        cases hb8
        exact ⟨rfl, ⟨⟨rfl, rfl⟩, ⟨rfl, rfl⟩, ⟨rfl, rfl⟩, ⟨rfl, rfl⟩, ⟨rfl, rfl⟩, ⟨rfl, rfl⟩, trivial⟩, ⟨[], rfl⟩, rfl⟩
    refine goL ?_
    refine V_cb (fun c10 => ?_) (fun c10 => ?_)
    · replace h := cnd_t c10 h
      refine goL ?_
      refine VO_lb (us := eStrs [[105, 110, 116], [98, 111, 111, 108], [117, 110, 105, 116]]) ?_
      refine VO_freeze 2 rfl rfl ?_
      obtain ⟨x11, hx11, h⟩ := bnd_s h
      obtain ⟨x11_0, ⟨x11_1_0, x11_1_1, x11_1_2⟩⟩ := x11
      refine VO_cG [0] (w_l1Pick (Tl1Cur.mk x1_1_0 x1_1_1 x1_1_2) [[105, 110, 116], [98, 111, 111, 108], [117, 110, 105, 116]] hx11) ?_
      rintro _ _ ⟨rfl, rfl⟩
      show VO _ _ _ _ ⟨(_, .d (.s x11_0)) :: _, [.box [.d (.sl 1 (eBytes x11_1_0)), .d (.i .i64 x11_1_1), .d (.i .i64 x11_1_2)], .box [.d (.i .i64 0), .d (.s []), .nilsl], .frz 9 1 0 (eStrs [[105, 110, 116], [98, 111, 111, 108], [117, 110, 105, 116]])], _⟩ _
      obtain ⟨x12, hx12, h⟩ := bnd_s h
      obtain ⟨x12_0, x12_1, x12_2⟩ := x12
      refine VO_r (QR_call (w_l4Con x11_0 [] hx12)) ?_
      refine goL ?_
      refine V_ret ?_
      replace h := Option.some.inj h
      subst h
      exact R_rH [.d (.st [.i .i64 x12_0, .s x12_1, .sl 3 (eTypes x12_2)])] [.box [.d (.sl 1 (eBytes x11_1_0)), .d (.i .i64 x11_1_1), .d (.i .i64 x11_1_2)]] ⟨rfl, rfl⟩
    · replace h := cnd_f c10 h
      refine goL ?_
      refine V_cb (fun c13 => ?_) (fun c13 => ?_)
      · replace h := cnd_t c13 h
        refine goL ?_
        refine VO_r (QR_ar) ?_
        obtain ⟨x14, hx14, h⟩ := bnd_s h
        obtain ⟨⟨x14_0_0, x14_0_1, x14_0_2⟩, ⟨x14_1_0, x14_1_1, x14_1_2⟩⟩ := x14
        refine VO_cG [0] (hrec_l4Ty (Tl1Cur.mk x1_1_0 x1_1_1 x1_1_2) vars (IntKind.i64.wrap (deep - 1)) hx14) ?_
        rintro _ _ ⟨rfl, rfl⟩
        show VO _ _ _ _ ⟨(_, .d (.st [.i .i64 x14_0_0, .s x14_0_1, .sl 3 (eTypes x14_0_2)])) :: _, [.box [.d (.sl 1 (eBytes x14_1_0)), .d (.i .i64 x14_1_1), .d (.i .i64 x14_1_2)], .box [.d (.i .i64 0), .d (.s []), .nilsl]], _⟩ _
        refine goL ?_
        refine VO_r (QR_ar) ?_
        obtain ⟨x15, hx15, h⟩ := bnd_s h
        obtain ⟨⟨x15_0_0, x15_0_1, x15_0_2⟩, ⟨x15_1_0, x15_1_1, x15_1_2⟩⟩ := x15
        refine VO_cG [0] (hrec_l4Ty (Tl1Cur.mk x14_1_0 x14_1_1 x14_1_2) vars (IntKind.i64.wrap (deep - 1)) hx15) ?_
        rintro _ _ ⟨rfl, rfl⟩
        show VO _ _ _ _ ⟨(_, .d (.st [.i .i64 x15_0_0, .s x15_0_1, .sl 3 (eTypes x15_0_2)])) :: _, [.box [.d (.sl 1 (eBytes x15_1_0)), .d (.i .i64 x15_1_1), .d (.i .i64 x15_1_2)], .box [.d (.i .i64 0), .d (.s []), .nilsl]], _⟩ _
        refine VO_lb (us := eTypes [(TType.mk x14_0_0 x14_0_1 x14_0_2), (TType.mk x15_0_0 x15_0_1 x15_0_2)]) ?_
        refine VO_freeze 2 rfl rfl ?_
        obtain ⟨x16, hx16, h⟩ := bnd_s h
        obtain ⟨x16_0, x16_1, x16_2⟩ := x16
        refine VO_k (Q_cl (w_l4Con [112, 97, 105, 114] [(TType.mk x14_0_0 x14_0_1 x14_0_2), (TType.mk x15_0_0 x15_0_1 x15_0_2)] hx16)) ?_
        refine goL ?_
        refine V_ret ?_
        replace h := Option.some.inj h
        subst h
        exact R_rH [.d (.st [.i .i64 x16_0, .s x16_1, .sl 3 (eTypes x16_2)])] [.box [.d (.sl 1 (eBytes x15_1_0)), .d (.i .i64 x15_1_1), .d (.i .i64 x15_1_2)]] ⟨rfl, rfl⟩
      · replace h := cnd_f c13 h
        refine V_skip ?_
        show V _ _ _ _ _
        refine goL ?_
        refine VO_lb (us := eStrs [[108, 105, 115, 116], [108, 105, 115, 116], [98, 111, 120]]) ?_
        refine VO_freeze 2 rfl rfl ?_
        obtain ⟨x17, hx17, h⟩ := bnd_s h
        obtain ⟨x17_0, ⟨x17_1_0, x17_1_1, x17_1_2⟩⟩ := x17
        refine VO_cG [0] (w_l1Pick (Tl1Cur.mk x1_1_0 x1_1_1 x1_1_2) [[108, 105, 115, 116], [108, 105, 115, 116], [98, 111, 120]] hx17) ?_
        rintro _ _ ⟨rfl, rfl⟩
        show VO _ _ _ _ ⟨(_, .d (.s x17_0)) :: _, [.box [.d (.sl 1 (eBytes x17_1_0)), .d (.i .i64 x17_1_1), .d (.i .i64 x17_1_2)], .box [.d (.i .i64 0), .d (.s []), .nilsl], .frz 9 1 0 (eStrs [[108, 105, 115, 116], [108, 105, 115, 116], [98, 111, 120]])], _⟩ _
        refine goL ?_
        refine VO_r (QR_ar) ?_
        obtain ⟨x18, hx18, h⟩ := bnd_s h
        obtain ⟨⟨x18_0_0, x18_0_1, x18_0_2⟩, ⟨x18_1_0, x18_1_1, x18_1_2⟩⟩ := x18
        refine VO_cG [0] (hrec_l4Ty (Tl1Cur.mk x17_1_0 x17_1_1 x17_1_2) vars (IntKind.i64.wrap (deep - 1)) hx18) ?_
        rintro _ _ ⟨rfl, rfl⟩
        show VO _ _ _ _ ⟨(_, .d (.st [.i .i64 x18_0_0, .s x18_0_1, .sl 3 (eTypes x18_0_2)])) :: _, [.box [.d (.sl 1 (eBytes x18_1_0)), .d (.i .i64 x18_1_1), .d (.i .i64 x18_1_2)], .box [.d (.i .i64 0), .d (.s []), .nilsl], .frz 9 1 0 (eStrs [[108, 105, 115, 116], [108, 105, 115, 116], [98, 111, 120]])], _⟩ _
        refine VO_la1 (u := (.st [.i .i64 x18_0_0, .s x18_0_1, .sl 3 (eTypes x18_0_2)])) ?_
        refine VO_freeze 3 rfl rfl ?_
        obtain ⟨x19, hx19, h⟩ := bnd_s h
        obtain ⟨x19_0, x19_1, x19_2⟩ := x19
        refine VO_k (Q_cl (w_l4Con x17_0 [(TType.mk x18_0_0 x18_0_1 x18_0_2)] hx19)) ?_
        refine goL ?_
        refine V_ret ?_
        replace h := Option.some.inj h
        subst h
        exact R_rH [.d (.st [.i .i64 x19_0, .s x19_1, .sl 3 (eTypes x19_2)])] [.box [.d (.sl 1 (eBytes x18_1_0)), .d (.i .i64 x18_1_1), .d (.i .i64 x18_1_2)]] ⟨rfl, rfl⟩
def m_l4Ty : Nat → Tl1Cur → (List (List UInt8)) → Int → Option (TType × Tl1Cur)
  | 0, _, _, _ => none
  | n + 1, x0, x1, x2 => b_l4Ty (m_l4Ty n) x0 x1 x2
theorem s_l4Ty : ∀ (n : Nat) (x0 : Tl1Cur) (x1 : List (List UInt8)) (x2 : Int) {r : TType × Tl1Cur}, m_l4Ty n x0 x1 x2 = some r → Go.Eng.Spec Tryz.prog 42 [.ptr 0 0, .d (.sl 1 (eStrs x1)), .d (.i .i64 x2)] [.box [.d (.sl 1 (eBytes x0.b)), .d (.i .i64 x0.i), .d (.i .i64 x0.h)]] (fun sv Lo => sv = .d (eType r.1) ∧ Lo = [.box [.d (.sl 1 (eBytes r.2.b)), .d (.i .i64 r.2.i), .d (.i .i64 r.2.h)]]) := by
  intro n
  induction n with
  | zero => intro x0 x1 x2 r h; cases h
  | succ n ih => intro x0 x1 x2 r h; exact w_l4Ty ih x0 x1 x2 h
def b_l4Free (c : Tl1Cur) (deep : Int) : Option (TType × Tl1Cur) :=
bnd (m_l4Ty 8 c [[97], [98]] deep) fun x1 =>
bnd (b_l1Below x1.2 8) fun x2 =>
(cnd (x2.1 == 0) (
bnd (b_l1Pick x2.2 [[97, 100, 100], [115, 104, 111, 119]]) fun x4 =>
bnd (b_l4Proj x4.1 x1.1) fun x5 =>
(some (x5, x4.2))) (
(cnd (x2.1 == 1) (
bnd (b_l4Proj [97, 100, 100] x1.1) fun x7 =>
bnd (b_l4Con [108, 105, 115, 116] [x7]) fun x8 =>
(some (x8, x2.2))) (
(cnd (x2.1 == 2) (
(some ((TType.mk 4 [115, 104, 111, 119] []), x2.2))) (
(some (x1.1, x2.2))))))))
set_option maxHeartbeats 4000000 in
theorem w_l4Free (c : Tl1Cur) (deep : Int) {r : TType × Tl1Cur} (h : b_l4Free c deep = some r) : Go.Eng.Spec Tryz.prog 35 [.ptr 0 0, .d (.i .i64 deep)] [.box [.d (.sl 1 (eBytes c.b)), .d (.i .i64 c.i), .d (.i .i64 c.h)]] (fun sv Lo => sv = .d (eType r.1) ∧ Lo = [.box [.d (.sl 1 (eBytes r.2.b)), .d (.i .i64 r.2.i), .d (.i .i64 r.2.h)]]) := by
  obtain ⟨c_0, c_1, c_2⟩ := c
  unfold b_l4Free at h
  refine Spec_intro 1 Tryz.func35 rfl (by kernel_rfl) rfl rfl fun A _ => ?_
  refine goL ?_
  refine VO_lb (us := eStrs [[97], [98]]) ?_
  refine goL ?_
  refine VO_freeze 2 rfl rfl ?_
  obtain ⟨x1, hx1, h⟩ := bnd_s h
  obtain ⟨⟨x1_0_0, x1_0_1, x1_0_2⟩, ⟨x1_1_0, x1_1_1, x1_1_2⟩⟩ := x1
  refine VO_cG [0] (s_l4Ty 8 (Tl1Cur.mk c_0 c_1 c_2) [[97], [98]] deep hx1) ?_
  rintro _ _ ⟨rfl, rfl⟩
  show VO _ _ _ _ ⟨(_, .d (.st [.i .i64 x1_0_0, .s x1_0_1, .sl 3 (eTypes x1_0_2)])) :: _, [.box [.d (.sl 1 (eBytes x1_1_0)), .d (.i .i64 x1_1_1), .d (.i .i64 x1_1_2)], .box [.d (.i .i64 0), .d (.s []), .nilsl], .frz 9 1 0 (eStrs [[97], [98]])], _⟩ _
  refine goL ?_
  obtain ⟨x2, hx2, h⟩ := bnd_s h
  obtain ⟨x2_0, ⟨x2_1_0, x2_1_1, x2_1_2⟩⟩ := x2
  refine VO_cG [0] (w_l1Below (Tl1Cur.mk x1_1_0 x1_1_1 x1_1_2) 8 hx2) ?_
  rintro _ _ ⟨rfl, rfl⟩
  show VO _ _ _ _ ⟨(_, .d (.i .i64 x2_0)) :: _, [.box [.d (.sl 1 (eBytes x2_1_0)), .d (.i .i64 x2_1_1), .d (.i .i64 x2_1_2)], .box [.d (.i .i64 0), .d (.s []), .nilsl], .frz 9 1 0 (eStrs [[97], [98]]), .box [.d (.i .i64 x1_0_0), .d (.s x1_0_1), .d (.sl 3 (eTypes x1_0_2))]], _⟩ _
  refine goL ?_
  refine V_block ?_
  refine goL ?_
  refine V_cb (fun c3 => ?_) (fun c3 => ?_)
  · replace h := cnd_t c3 h
    obtain ⟨x4, hx4, h⟩ := bnd_s h
    obtain ⟨x4_0, ⟨x4_1_0, x4_1_1, x4_1_2⟩⟩ := x4
    obtain ⟨x5, hx5, h⟩ := bnd_s h
    obtain ⟨x5_0, x5_1, x5_2⟩ := x5
    refine V_seq_drawTJ (P := Tryz.prog) Mix.h (.q 0 (.h 1 (.h 2 (.h 3 (.q 4 (.h 5 .nil .nil)) .nil) (.h 3 (.h 2 (.q 4 (.h 5 .nil .nil)) .nil) .nil)) (.h 3 (.h 1 (.h 2 (.q 4 (.h 5 .nil .nil)) .nil) .nil) .nil))) ⟨[(4, .ptr 1 0)], [.box [.d (.sl 1 (eBytes x4_1_0)), .d (.i .i64 x4_1_1), .d (.i .i64 x4_1_2)], .box [.d (.i .i64 x5_0), .d (.s x5_1), .d (.sl 3 (eTypes x5_2))], .frz 9 1 0 (eStrs [[97], [98]]), .box [.d (.i .i64 x1_0_0), .d (.s x1_0_1), .d (.sl 3 (eTypes x1_0_2))], .frz 9 1 0 (eStrs [[97, 100, 100], [115, 104, 111, 119]])], Tryz.f35.ntmps⟩ (by kernel_rfl) ?_ ?_
    · refine goT ?_
      refine VT_h (VY_lb (T := 69) (us := eStrs [[97, 100, 100], [115, 104, 111, 119]]) VY_e) ?_ ?_
      · refine VT_h (VY_frz 4 rfl rfl (VY_cG (sv := .d (.s x4_0)) (L' := [.box [.d (.sl 1 (eBytes x4_1_0)), .d (.i .i64 x4_1_1), .d (.i .i64 x4_1_2)], .box [.d (.i .i64 0), .d (.s []), .nilsl], .frz 9 1 0 (eStrs [[97], [98]]), .box [.d (.i .i64 x1_0_0), .d (.s x1_0_1), .d (.sl 3 (eTypes x1_0_2))], .frz 9 1 0 (eStrs [[97, 100, 100], [115, 104, 111, 119]])]) [0] (w_l1Pick (Tl1Cur.mk x2_1_0 x2_1_1 x2_1_2) [[97, 100, 100], [115, 104, 111, 119]] hx4) VY_e)) ?_ ?_
        · refine VT_h1 (VY_dh VY_e) ?_
          refine VT_q (VY_ri rfl (QR_call (w_l4Proj x4_0 (TType.mk x1_0_0 x1_0_1 x1_0_2) hx5)) VY_e) ?_
          refine goT ?_
          refine VT_nil ?_
          exact R_pk 1 [0, 1, 2, 3, 4]
        refine VT_h1 (VY_dh VY_e) ?_
        refine VT_h1 (VY_frz 4 rfl rfl (VY_cG (sv := .d (.s x4_0)) (L' := [.box [.d (.sl 1 (eBytes x4_1_0)), .d (.i .i64 x4_1_1), .d (.i .i64 x4_1_2)], .box [.d (.i .i64 0), .d (.s []), .nilsl], .frz 9 1 0 (eStrs [[97], [98]]), .box [.d (.i .i64 x1_0_0), .d (.s x1_0_1), .d (.sl 3 (eTypes x1_0_2))], .frz 9 1 0 (eStrs [[97, 100, 100], [115, 104, 111, 119]])]) [0] (w_l1Pick (Tl1Cur.mk x2_1_0 x2_1_1 x2_1_2) [[97, 100, 100], [115, 104, 111, 119]] hx4) VY_e)) ?_
        refine VT_q (VY_ri rfl (QR_call (w_l4Proj x4_0 (TType.mk x1_0_0 x1_0_1 x1_0_2) hx5)) VY_e) ?_
        refine goT ?_
        refine VT_nil ?_
        exact R_pk 1 [0, 1, 2, 3, 4]
      refine VT_h1 (VY_dh VY_e) ?_
      refine VT_h1 (VY_lb (T := 69) (us := eStrs [[97, 100, 100], [115, 104, 111, 119]]) VY_e) ?_
      refine VT_h1 (VY_frz 4 rfl rfl (VY_cG (sv := .d (.s x4_0)) (L' := [.box [.d (.sl 1 (eBytes x4_1_0)), .d (.i .i64 x4_1_1), .d (.i .i64 x4_1_2)], .box [.d (.i .i64 0), .d (.s []), .nilsl], .frz 9 1 0 (eStrs [[97], [98]]), .box [.d (.i .i64 x1_0_0), .d (.s x1_0_1), .d (.sl 3 (eTypes x1_0_2))], .frz 9 1 0 (eStrs [[97, 100, 100], [115, 104, 111, 119]])]) [0] (w_l1Pick (Tl1Cur.mk x2_1_0 x2_1_1 x2_1_2) [[97, 100, 100], [115, 104, 111, 119]] hx4) VY_e)) ?_
      refine VT_q (VY_ri rfl (QR_call (w_l4Proj x4_0 (TType.mk x1_0_0 x1_0_1 x1_0_2) hx5)) VY_e) ?_
      refine goT ?_
      refine VT_nil ?_
      exact R_pk 1 [0, 1, 2, 3, 4]
    refine goL ?_
    refine V_ret ?_
    replace h := Option.some.inj h
    subst h
    exact R_rH [.d (.st [.i .i64 x5_0, .s x5_1, .sl 3 (eTypes x5_2)])] [.box [.d (.sl 1 (eBytes x4_1_0)), .d (.i .i64 x4_1_1), .d (.i .i64 x4_1_2)]] ⟨rfl, rfl⟩
  · replace h := cnd_f c3 h
    refine goL ?_
    refine V_cb (fun c6 => ?_) (fun c6 => ?_)
    · replace h := cnd_t c6 h
      refine goL ?_
      obtain ⟨x7, hx7, h⟩ := bnd_s h
      obtain ⟨x7_0, x7_1, x7_2⟩ := x7
      refine VO_r (QR_call (w_l4Proj [97, 100, 100] (TType.mk x1_0_0 x1_0_1 x1_0_2) hx7)) ?_
      refine VO_la1 (u := (.st [.i .i64 x7_0, .s x7_1, .sl 3 (eTypes x7_2)])) ?_
      refine VO_freeze 4 rfl rfl ?_
      obtain ⟨x8, hx8, h⟩ := bnd_s h
      obtain ⟨x8_0, x8_1, x8_2⟩ := x8
      refine VO_k (Q_cl (w_l4Con [108, 105, 115, 116] [(TType.mk x7_0 x7_1 x7_2)] hx8)) ?_
      refine goL ?_
      refine V_ret ?_
      replace h := Option.some.inj h
      subst h
      exact R_rH [.d (.st [.i .i64 x8_0, .s x8_1, .sl 3 (eTypes x8_2)])] [.box [.d (.sl 1 (eBytes x2_1_0)), .d (.i .i64 x2_1_1), .d (.i .i64 x2_1_2)]] ⟨rfl, rfl⟩
    · replace h := cnd_f c6 h
      refine goL ?_
      refine V_cb (fun c9 => ?_) (fun c9 => ?_)
      · replace h := cnd_t c9 h
        refine goL ?_
        refine VO_k (Q_build TBd.h TZ.h rfl (by repeat constructor)) ?_
        refine goL ?_
        refine V_ret ?_
        replace h := Option.some.inj h
        subst h
        exact R_rH [.d (.st [.i .i64 4, .s [115, 104, 111, 119], .sl 3 []])] [.box [.d (.sl 1 (eBytes x2_1_0)), .d (.i .i64 x2_1_1), .d (.i .i64 x2_1_2)]] ⟨rfl, rfl⟩
      · replace h := cnd_f c9 h
        refine V_skip ?_
        show V _ _ _ _ _
        refine goL ?_
        refine V_ret ?_
        replace h := Option.some.inj h
        subst h
        exact R_rH [.d (.st [.i .i64 x1_0_0, .s x1_0_1, .sl 3 (eTypes x1_0_2)])] [.box [.d (.sl 1 (eBytes x2_1_0)), .d (.i .i64 x2_1_1), .d (.i .i64 x2_1_2)]] ⟨rfl, rfl⟩
def b_l4ConA (s : List UInt8) (args : List TType) : Option (TType) :=
gd (([] : List TType).length + args.length ≤ 4294967296) (
(some (TType.mk 2 s ([] ++ args))))
set_option maxHeartbeats 4000000 in
theorem w_l4ConA (s : List UInt8) (args : List TType) {r : TType} (h : b_l4ConA s args = some r) : Go.Eng.Spec Tryz.prog 40 [.d (.s s), .d (.sl 3 (eTypes args))] [] (fun sv Lo => sv = .ag [.d (.i .i64 r.kind), .d (.s r.name), .sl 0 0] ∧ Lo = [.arr 27 3 0 (eTypes r.args)]) := by
  unfold b_l4ConA at h
  refine Spec_intro 0 Tryz.func40 rfl (by kernel_rfl) rfl rfl fun A _ => ?_
  refine goL ?_
  refine VO_l0a ?_
  refine goL ?_
  obtain ⟨g1, h⟩ := gd_s h
  refine VO_apa g1 ?_
  refine VO_k (Q_build TBd.h TZ.h rfl (by repeat constructor)) ?_
  refine goL ?_
  refine V_pk (fr' := [(4, .ptr 1 0)]) (Lc := [.arr 27 3 (0 + 1) (eTypes ([] ++ args)), .box [.d (.i .i64 2), .d (.s s), .sl 0 (0 + 1)]]) 0 [1, 0] ?_
  refine V_rv (fr' := [(4, .ptr 1 0)]) (L' := [.arr 27 3 0 (eTypes ([] ++ args)), .box [.d (.i .i64 2), .d (.s s), .sl 0 0]]) 0 0 ?_
  refine V_ret ?_
  replace h := Option.some.inj h
  subst h
  exact R_rH [.ag [.d (.i .i64 2), .d (.s s), .sl 0 0]] [.arr 27 3 0 (eTypes ([] ++ args))] ⟨rfl, rfl⟩
def b_sVarA (s : List UInt8) : TType :=
(TType.mk 1 s [])
set_option maxHeartbeats 4000000 in
theorem w_sVarA (s : List UInt8) : Go.Eng.Spec Tryz.prog 71 [.d (.s s)] [] (fun sv Lo => sv = .ag [.d (.i .i64 (b_sVarA s).kind), .d (.s (b_sVarA s).name), .sl 0 0] ∧ Lo = [.arr 27 3 0 (eTypes (b_sVarA s).args)]) := by
  obtain ⟨r, h⟩ : ∃ r, b_sVarA s = r := ⟨_, rfl⟩
  rw [h]
  unfold b_sVarA at h
  refine Spec_intro 0 Tryz.func71 rfl (by kernel_rfl) rfl rfl fun A _ => ?_
  refine goL ?_
  refine VO_k (Q_build TBd.h TZ.h rfl (by repeat constructor)) ?_
  refine goL ?_
  refine V_adoptA 27 3 0 2 rfl rfl (by repeat constructor) (by repeat constructor) (by repeat constructor) (by repeat constructor) ?_
  refine V_pk (fr' := [(2, .ptr 1 0)]) (Lc := [.arr 27 3 0 [], .box [.d (.i .i64 1), .d (.s s), .sl 0 0]]) 0 [1, 0] ?_
  refine V_ret ?_
  subst h
  exact R_rH [.ag [.d (.i .i64 1), .d (.s s), .sl 0 0]] [.arr 27 3 0 []] ⟨rfl, rfl⟩
def b_l4ProjA (s : List UInt8) (t : TType) : Option (TType) :=
gd (tok t) (lt_ (idT t) fun x2 =>
(some (TType.mk 3 s [x2])))
set_option maxHeartbeats 4000000 in
theorem w_l4ProjA (s : List UInt8) (t : TType) {r : TType} (h : b_l4ProjA s t = some r) : Go.Eng.Spec Tryz.prog 68 [.d (.s s), .d (eType t)] [] (fun sv Lo => sv = .ag [.d (.i .i64 r.kind), .d (.s r.name), .sl 0 0] ∧ Lo = [.arr 27 3 0 (eTypes r.args)]) := by
  obtain ⟨t_0, t_1, t_2⟩ := t
  unfold b_l4ProjA at h
  refine Spec_intro 0 Tryz.func68 rfl (by kernel_rfl) rfl rfl fun A _ => ?_
  refine goL ?_
  obtain ⟨g1, h⟩ := gd_s h
  obtain ⟨x2, hx2, h⟩ := lt_x h
  obtain ⟨x2_0, x2_1, x2_2⟩ := x2
  have sx2 := t_sCopyType (TType.mk t_0 t_1 t_2) g1
  rw [hx2] at sx2
  refine VO_co (sx2) ?_
  refine VO_freezeO 2 rfl rfl ?_
  refine VO_la1 (u := (.st [.i .i64 x2_0, .s x2_1, .sl 3 (eTypes x2_2)])) ?_
  refine VO_k (Q_build TBd.h TZ.h rfl (by repeat constructor)) ?_
  refine goL ?_
  refine V_pk (fr' := [(4, .ptr 1 0)]) (Lc := [.arr 27 3 0 (eTypes [(TType.mk x2_0 x2_1 x2_2)]), .box [.d (.i .i64 3), .d (.s s), .sl 0 0]]) 0 [3, 1] ?_
  refine V_ret ?_
  replace h := Option.some.inj h
  subst h
  exact R_rH [.ag [.d (.i .i64 3), .d (.s s), .sl 0 0]] [.arr 27 3 0 (eTypes [(TType.mk x2_0 x2_1 x2_2)])] ⟨rfl, rfl⟩
def b_l4TyA (c : Tl1Cur) (vars : List (List UInt8)) (deep : Int) : Option (TType × Tl1Cur) :=
bnd (b_l1Below c 8) fun x1 =>
lt_ ((cnd (decide (x1.1 < 3)) ((decide ((vars.length : Int) > 0))) (false))) fun b2 =>
(cnd b2 (
bnd (b_l1Below x1.2 (vars.length : Int)) fun x5 =>
bnd (at? vars x5.1) fun x6 =>
lt_ (b_sVarA x6) fun x7 =>
(some (x7, x5.2))) (
lt_ ((cnd (decide (x1.1 < 5)) (true) ((decide (deep ≤ 0))))) fun b8 =>
(cnd b8 (
bnd (b_l1Pick x1.2 [[105, 110, 116], [98, 111, 111, 108], [117, 110, 105, 116]]) fun x11 =>
bnd (b_l4ConA x11.1 []) fun x12 =>
(some (x12, x11.2))) (
(cnd (x1.1 == 5) (
bnd (m_l4Ty 8 x1.2 vars (IntKind.i64.wrap (deep - 1))) fun x14 =>
bnd (m_l4Ty 8 x14.2 vars (IntKind.i64.wrap (deep - 1))) fun x15 =>
bnd (b_l4ConA [112, 97, 105, 114] [x14.1, x15.1]) fun x16 =>
(some (x16, x15.2))) (
bnd (b_l1Pick x1.2 [[108, 105, 115, 116], [108, 105, 115, 116], [98, 111, 120]]) fun x17 =>
bnd (m_l4Ty 8 x17.2 vars (IntKind.i64.wrap (deep - 1))) fun x18 =>
bnd (b_l4ConA x17.1 [x18.1]) fun x19 =>
(some (x19, x18.2))))))))
set_option maxHeartbeats 4000000 in
theorem w_l4TyA (c : Tl1Cur) (vars : List (List UInt8)) (deep : Int) {r : TType × Tl1Cur} (h : b_l4TyA c vars deep = some r) : Go.Eng.Spec Tryz.prog 42 [.ptr 0 0, .d (.sl 1 (eStrs vars)), .d (.i .i64 deep)] [.box [.d (.sl 1 (eBytes c.b)), .d (.i .i64 c.i), .d (.i .i64 c.h)]] (fun sv Lo => sv = .ag [.d (.i .i64 r.1.kind), .d (.s r.1.name), .sl 1 0] ∧ Lo = [.box [.d (.sl 1 (eBytes r.2.b)), .d (.i .i64 r.2.i), .d (.i .i64 r.2.h)], .arr 27 3 0 (eTypes r.1.args)]) := by
  obtain ⟨c_0, c_1, c_2⟩ := c
  unfold b_l4TyA at h
  refine Spec_intro 1 Tryz.func42 rfl (by kernel_rfl) rfl rfl fun A _ => ?_
  refine goL ?_
  obtain ⟨x1, hx1, h⟩ := bnd_s h
  obtain ⟨x1_0, ⟨x1_1_0, x1_1_1, x1_1_2⟩⟩ := x1
  refine VO_cG [0] (w_l1Below (Tl1Cur.mk c_0 c_1 c_2) 8 hx1) ?_
  rintro _ _ ⟨rfl, rfl⟩
  show VO _ _ _ _ ⟨(_, .d (.i .i64 x1_0)) :: _, [.box [.d (.sl 1 (eBytes x1_1_0)), .d (.i .i64 x1_1_1), .d (.i .i64 x1_1_2)], .box [.d (.i .i64 0), .d (.s []), .nilsl]], _⟩ _
  refine goL ?_
  refine V_seq (V_block ?_)
  refine goL ?_
  obtain ⟨b2, hb2, h⟩ := lt_x h
  refine VO_join ⟨[(0, .ptr 0 0), (1, .d (.sl 1 (eStrs vars))), (2, .d (.i .i64 deep)), (6, .ptr 1 0), (7, .d (.i .i64 x1_0)), (10, .d (.b b2))], [.box [.d (.sl 1 (eBytes x1_1_0)), .d (.i .i64 x1_1_1), .d (.i .i64 x1_1_2)], .box [.d (.i .i64 0), .d (.s []), .nilsl]], Tryz.f42.ntmps⟩ ?_ ?_
  · refine VO_case 13 (fun c3 => ?_) (fun c3 => ?_)
    · replace hb2 := cnd_t c3 hb2
      refine goL ?_
      cases hb2
      exact ⟨rfl, ⟨⟨rfl, rfl⟩, ⟨rfl, rfl⟩, ⟨rfl, rfl⟩, ⟨rfl, rfl⟩, ⟨rfl, rfl⟩, ⟨rfl, rfl⟩, trivial⟩, ⟨[], rfl⟩, rfl⟩
    · replace hb2 := cnd_f c3 hb2
      refine goL ?_
      cases hb2
      exact ⟨rfl, ⟨⟨rfl, rfl⟩, ⟨rfl, rfl⟩, ⟨rfl, rfl⟩, ⟨rfl, rfl⟩, ⟨rfl, rfl⟩, ⟨rfl, rfl⟩, trivial⟩, ⟨[], rfl⟩, rfl⟩
  refine goL ?_
  refine V_cb (fun c4 => ?_) (fun c4 => ?_)
  · replace h := cnd_t c4 h
    refine goL ?_
    obtain ⟨x5, hx5, h⟩ := bnd_s h
    obtain ⟨x5_0, ⟨x5_1_0, x5_1_1, x5_1_2⟩⟩ := x5
    refine VO_cG [0] (w_l1Below (Tl1Cur.mk x1_1_0 x1_1_1 x1_1_2) (vars.length : Int) hx5) ?_
    rintro _ _ ⟨rfl, rfl⟩
    show VO _ _ _ _ ⟨(_, .d (.i .i64 x5_0)) :: _, [.box [.d (.sl 1 (eBytes x5_1_0)), .d (.i .i64 x5_1_1), .d (.i .i64 x5_1_2)], .box [.d (.i .i64 0), .d (.s []), .nilsl]], _⟩ _
    obtain ⟨x6, hx6, h⟩ := bnd_s h
    obtain ⟨hx60, hx6⟩ := at_s hx6
    refine VO_r (QR_ixi hx60 (gStr hx6)) ?_
    refine goL ?_
    obtain ⟨x7, hx7, h⟩ := lt_x h
    obtain ⟨x7_0, x7_1, x7_2⟩ := x7
    have sx7 := w_sVarA x6
    rw [hx7] at sx7
    refine VO_cG [] (sx7) ?_
    rintro _ _ ⟨rfl, rfl⟩
    show VO _ _ _ _ ⟨(_, .ag [.d (.i .i64 x7_0), .d (.s x7_1), .sl 2 0]) :: _, [.box [.d (.sl 1 (eBytes x5_1_0)), .d (.i .i64 x5_1_1), .d (.i .i64 x5_1_2)], .box [.d (.i .i64 0), .d (.s []), .nilsl], .arr 27 3 0 (eTypes x7_2)], _⟩ _
    refine goL ?_
    refine V_pk (fr' := [(6, .ptr 2 0)]) (Lc := [.box [.d (.sl 1 (eBytes x5_1_0)), .d (.i .i64 x5_1_1), .d (.i .i64 x5_1_2)], .arr 27 3 0 (eTypes x7_2), .box [.d (.i .i64 x7_0), .d (.s x7_1), .sl 1 0]]) 1 [0, 2, 1] ?_
    refine V_ret ?_
    replace h := Option.some.inj h
    subst h
    exact R_rH [.ag [.d (.i .i64 x7_0), .d (.s x7_1), .sl 1 0]] [.box [.d (.sl 1 (eBytes x5_1_0)), .d (.i .i64 x5_1_1), .d (.i .i64 x5_1_2)], .arr 27 3 0 (eTypes x7_2)] ⟨rfl, rfl⟩
  · replace h := cnd_f c4 h
    refine goL ?_
    obtain ⟨b8, hb8, h⟩ := lt_x h
    refine VO_join ⟨[(0, .ptr 0 0), (1, .d (.sl 1 (eStrs vars))), (2, .d (.i .i64 deep)), (6, .ptr 1 0), (7, .d (.i .i64 x1_0)), (26, .d (.b b8))], [.box [.d (.sl 1 (eBytes x1_1_0)), .d (.i .i64 x1_1_1), .d (.i .i64 x1_1_2)], .box [.d (.i .i64 0), .d (.s []), .nilsl]], Tryz.f42.ntmps⟩ ?_ ?_
    · refine VO_case 29 (fun c9 => ?_) (fun c9 => ?_)
      · replace hb8 := cnd_t c9 hb8
        refine goL ?_
        cases hb8
        exact ⟨rfl, ⟨⟨rfl, rfl⟩, ⟨rfl, rfl⟩, ⟨rfl, rfl⟩, ⟨rfl, rfl⟩, ⟨rfl, rfl⟩, ⟨rfl, rfl⟩, trivial⟩, ⟨[], rfl⟩, rfl⟩
      · replace hb8 := cnd_f c9 hb8
        refine goL ?_
        cases hb8
        exact ⟨rfl, ⟨⟨rfl, rfl⟩, ⟨rfl, rfl⟩, ⟨rfl, rfl⟩, ⟨rfl, rfl⟩, ⟨rfl, rfl⟩, ⟨rfl, rfl⟩, trivial⟩, ⟨[], rfl⟩, rfl⟩
    refine goL ?_
    refine V_cb (fun c10 => ?_) (fun c10 => ?_)
    · replace h := cnd_t c10 h
      refine goL ?_
      refine VO_lb (us := eStrs [[105, 110, 116], [98, 111, 111, 108], [117, 110, 105, 116]]) ?_
      refine VO_freeze 2 rfl rfl ?_
      obtain ⟨x11, hx11, h⟩ := bnd_s h
      obtain ⟨x11_0, ⟨x11_1_0, x11_1_1, x11_1_2⟩⟩ := x11
      refine VO_cG [0] (w_l1Pick (Tl1Cur.mk x1_1_0 x1_1_1 x1_1_2) [[105, 110, 116], [98, 111, 111, 108], [117, 110, 105, 116]] hx11) ?_
      rintro _ _ ⟨rfl, rfl⟩
      show VO _ _ _ _ ⟨(_, .d (.s x11_0)) :: _, [.box [.d (.sl 1 (eBytes x11_1_0)), .d (.i .i64 x11_1_1), .d (.i .i64 x11_1_2)], .box [.d (.i .i64 0), .d (.s []), .nilsl], .frz 9 1 0 (eStrs [[105, 110, 116], [98, 111, 111, 108], [117, 110, 105, 116]])], _⟩ _
      obtain ⟨x12, hx12, h⟩ := bnd_s h
      obtain ⟨x12_0, x12_1, x12_2⟩ := x12
      refine VO_cG [] (w_l4ConA x11_0 [] hx12) ?_
      rintro _ _ ⟨rfl, rfl⟩
      show VO _ _ _ _ ⟨(_, .ag [.d (.i .i64 x12_0), .d (.s x12_1), .sl 3 0]) :: _, [.box [.d (.sl 1 (eBytes x11_1_0)), .d (.i .i64 x11_1_1), .d (.i .i64 x11_1_2)], .box [.d (.i .i64 0), .d (.s []), .nilsl], .frz 9 1 0 (eStrs [[105, 110, 116], [98, 111, 111, 108], [117, 110, 105, 116]]), .arr 27 3 0 (eTypes x12_2)], _⟩ _
      refine goL ?_
      refine V_pk (fr' := [(6, .ptr 2 0)]) (Lc := [.box [.d (.sl 1 (eBytes x11_1_0)), .d (.i .i64 x11_1_1), .d (.i .i64 x11_1_2)], .arr 27 3 0 (eTypes x12_2), .box [.d (.i .i64 x12_0), .d (.s x12_1), .sl 1 0]]) 1 [0, 3, 1] ?_
      refine V_ret ?_
      replace h := Option.some.inj h
      subst h
      exact R_rH [.ag [.d (.i .i64 x12_0), .d (.s x12_1), .sl 1 0]] [.box [.d (.sl 1 (eBytes x11_1_0)), .d (.i .i64 x11_1_1), .d (.i .i64 x11_1_2)], .arr 27 3 0 (eTypes x12_2)] ⟨rfl, rfl⟩
    · replace h := cnd_f c10 h
      refine goL ?_
      refine V_cb (fun c13 => ?_) (fun c13 => ?_)
      · replace h := cnd_t c13 h
        refine goL ?_
        refine VO_r (QR_ar) ?_
        obtain ⟨x14, hx14, h⟩ := bnd_s h
        obtain ⟨⟨x14_0_0, x14_0_1, x14_0_2⟩, ⟨x14_1_0, x14_1_1, x14_1_2⟩⟩ := x14
        refine VO_cG [0] (s_l4Ty 8 (Tl1Cur.mk x1_1_0 x1_1_1 x1_1_2) vars (IntKind.i64.wrap (deep - 1)) hx14) ?_
        rintro _ _ ⟨rfl, rfl⟩
        show VO _ _ _ _ ⟨(_, .d (.st [.i .i64 x14_0_0, .s x14_0_1, .sl 3 (eTypes x14_0_2)])) :: _, [.box [.d (.sl 1 (eBytes x14_1_0)), .d (.i .i64 x14_1_1), .d (.i .i64 x14_1_2)], .box [.d (.i .i64 0), .d (.s []), .nilsl]], _⟩ _
        refine goL ?_
        refine VO_r (QR_ar) ?_
        obtain ⟨x15, hx15, h⟩ := bnd_s h
        obtain ⟨⟨x15_0_0, x15_0_1, x15_0_2⟩, ⟨x15_1_0, x15_1_1, x15_1_2⟩⟩ := x15
        refine VO_cG [0] (s_l4Ty 8 (Tl1Cur.mk x14_1_0 x14_1_1 x14_1_2) vars (IntKind.i64.wrap (deep - 1)) hx15) ?_
        rintro _ _ ⟨rfl, rfl⟩
        show VO _ _ _ _ ⟨(_, .d (.st [.i .i64 x15_0_0, .s x15_0_1, .sl 3 (eTypes x15_0_2)])) :: _, [.box [.d (.sl 1 (eBytes x15_1_0)), .d (.i .i64 x15_1_1), .d (.i .i64 x15_1_2)], .box [.d (.i .i64 0), .d (.s []), .nilsl]], _⟩ _
        refine VO_lb (us := eTypes [(TType.mk x14_0_0 x14_0_1 x14_0_2), (TType.mk x15_0_0 x15_0_1 x15_0_2)]) ?_
        refine VO_freeze 2 rfl rfl ?_
        obtain ⟨x16, hx16, h⟩ := bnd_s h
        obtain ⟨x16_0, x16_1, x16_2⟩ := x16
        refine VO_cG [] (w_l4ConA [112, 97, 105, 114] [(TType.mk x14_0_0 x14_0_1 x14_0_2), (TType.mk x15_0_0 x15_0_1 x15_0_2)] hx16) ?_
        rintro _ _ ⟨rfl, rfl⟩
        show VO _ _ _ _ ⟨(_, .ag [.d (.i .i64 x16_0), .d (.s x16_1), .sl 3 0]) :: _, [.box [.d (.sl 1 (eBytes x15_1_0)), .d (.i .i64 x15_1_1), .d (.i .i64 x15_1_2)], .box [.d (.i .i64 0), .d (.s []), .nilsl], .frz 27 3 0 (eTypes [(TType.mk x14_0_0 x14_0_1 x14_0_2), (TType.mk x15_0_0 x15_0_1 x15_0_2)]), .arr 27 3 0 (eTypes x16_2)], _⟩ _
        refine goL ?_
        refine V_pk (fr' := [(6, .ptr 2 0)]) (Lc := [.box [.d (.sl 1 (eBytes x15_1_0)), .d (.i .i64 x15_1_1), .d (.i .i64 x15_1_2)], .arr 27 3 0 (eTypes x16_2), .box [.d (.i .i64 x16_0), .d (.s x16_1), .sl 1 0]]) 1 [0, 3, 1] ?_
        refine V_ret ?_
        replace h := Option.some.inj h
        subst h
        exact R_rH [.ag [.d (.i .i64 x16_0), .d (.s x16_1), .sl 1 0]] [.box [.d (.sl 1 (eBytes x15_1_0)), .d (.i .i64 x15_1_1), .d (.i .i64 x15_1_2)], .arr 27 3 0 (eTypes x16_2)] ⟨rfl, rfl⟩
      · replace h := cnd_f c13 h
        refine V_skip ?_
        show V _ _ _ _ _
        refine goL ?_
        refine VO_lb (us := eStrs [[108, 105, 115, 116], [108, 105, 115, 116], [98, 111, 120]]) ?_
        refine VO_freeze 2 rfl rfl ?_
        obtain ⟨x17, hx17, h⟩ := bnd_s h
        obtain ⟨x17_0, ⟨x17_1_0, x17_1_1, x17_1_2⟩⟩ := x17
        refine VO_cG [0] (w_l1Pick (Tl1Cur.mk x1_1_0 x1_1_1 x1_1_2) [[108, 105, 115, 116], [108, 105, 115, 116], [98, 111, 120]] hx17) ?_
        rintro _ _ ⟨rfl, rfl⟩
        show VO _ _ _ _ ⟨(_, .d (.s x17_0)) :: _, [.box [.d (.sl 1 (eBytes x17_1_0)), .d (.i .i64 x17_1_1), .d (.i .i64 x17_1_2)], .box [.d (.i .i64 0), .d (.s []), .nilsl], .frz 9 1 0 (eStrs [[108, 105, 115, 116], [108, 105, 115, 116], [98, 111, 120]])], _⟩ _
        refine goL ?_
        refine VO_r (QR_ar) ?_
        obtain ⟨x18, hx18, h⟩ := bnd_s h
        obtain ⟨⟨x18_0_0, x18_0_1, x18_0_2⟩, ⟨x18_1_0, x18_1_1, x18_1_2⟩⟩ := x18
        refine VO_cG [0] (s_l4Ty 8 (Tl1Cur.mk x17_1_0 x17_1_1 x17_1_2) vars (IntKind.i64.wrap (deep - 1)) hx18) ?_
        rintro _ _ ⟨rfl, rfl⟩
        show VO _ _ _ _ ⟨(_, .d (.st [.i .i64 x18_0_0, .s x18_0_1, .sl 3 (eTypes x18_0_2)])) :: _, [.box [.d (.sl 1 (eBytes x18_1_0)), .d (.i .i64 x18_1_1), .d (.i .i64 x18_1_2)], .box [.d (.i .i64 0), .d (.s []), .nilsl], .frz 9 1 0 (eStrs [[108, 105, 115, 116], [108, 105, 115, 116], [98, 111, 120]])], _⟩ _
        refine VO_la1 (u := (.st [.i .i64 x18_0_0, .s x18_0_1, .sl 3 (eTypes x18_0_2)])) ?_
        refine VO_freeze 3 rfl rfl ?_
        obtain ⟨x19, hx19, h⟩ := bnd_s h
        obtain ⟨x19_0, x19_1, x19_2⟩ := x19
        refine VO_cG [] (w_l4ConA x17_0 [(TType.mk x18_0_0 x18_0_1 x18_0_2)] hx19) ?_
        rintro _ _ ⟨rfl, rfl⟩
        show VO _ _ _ _ ⟨(_, .ag [.d (.i .i64 x19_0), .d (.s x19_1), .sl 4 0]) :: _, [.box [.d (.sl 1 (eBytes x18_1_0)), .d (.i .i64 x18_1_1), .d (.i .i64 x18_1_2)], .box [.d (.i .i64 0), .d (.s []), .nilsl], .frz 9 1 0 (eStrs [[108, 105, 115, 116], [108, 105, 115, 116], [98, 111, 120]]), .frz 27 3 0 (eTypes [(TType.mk x18_0_0 x18_0_1 x18_0_2)]), .arr 27 3 0 (eTypes x19_2)], _⟩ _
        refine goL ?_
        refine V_pk (fr' := [(6, .ptr 2 0)]) (Lc := [.box [.d (.sl 1 (eBytes x18_1_0)), .d (.i .i64 x18_1_1), .d (.i .i64 x18_1_2)], .arr 27 3 0 (eTypes x19_2), .box [.d (.i .i64 x19_0), .d (.s x19_1), .sl 1 0]]) 1 [0, 4, 1] ?_
        refine V_ret ?_
        replace h := Option.some.inj h
        subst h
        exact R_rH [.ag [.d (.i .i64 x19_0), .d (.s x19_1), .sl 1 0]] [.box [.d (.sl 1 (eBytes x18_1_0)), .d (.i .i64 x18_1_1), .d (.i .i64 x18_1_2)], .arr 27 3 0 (eTypes x19_2)] ⟨rfl, rfl⟩
def b_l4FreeA (c : Tl1Cur) (deep : Int) : Option (TType × Tl1Cur) :=
bnd (b_l4TyA c [[97], [98]] deep) fun x1 =>
bnd (b_l1Below x1.2 8) fun x2 =>
(cnd (x2.1 == 0) (
bnd (b_l1Pick x2.2 [[97, 100, 100], [115, 104, 111, 119]]) fun x4 =>
bnd (b_l4ProjA x4.1 x1.1) fun x5 =>
(some (x5, x4.2))) (
(cnd (x2.1 == 1) (
bnd (b_l4ProjA [97, 100, 100] x1.1) fun x7 =>
bnd (b_l4ConA [108, 105, 115, 116] [x7]) fun x8 =>
(some (x8, x2.2))) (
(cnd (x2.1 == 2) (
(some ((TType.mk 4 [115, 104, 111, 119] []), x2.2))) (
(some (x1.1, x2.2))))))))
set_option maxHeartbeats 4000000 in
theorem w_l4FreeA (c : Tl1Cur) (deep : Int) {r : TType × Tl1Cur} (h : b_l4FreeA c deep = some r) : Go.Eng.Spec Tryz.prog 35 [.ptr 0 0, .d (.i .i64 deep)] [.box [.d (.sl 1 (eBytes c.b)), .d (.i .i64 c.i), .d (.i .i64 c.h)]] (fun sv Lo => sv = .ag [.d (.i .i64 r.1.kind), .d (.s r.1.name), .sl 1 0] ∧ Lo = [.box [.d (.sl 1 (eBytes r.2.b)), .d (.i .i64 r.2.i), .d (.i .i64 r.2.h)], .arr 27 3 0 (eTypes r.1.args)]) := by
  obtain ⟨c_0, c_1, c_2⟩ := c
  unfold b_l4FreeA at h
  refine Spec_intro 1 Tryz.func35 rfl (by kernel_rfl) rfl rfl fun A _ => ?_
  refine goL ?_
  refine VO_lb (us := eStrs [[97], [98]]) ?_
  refine goL ?_
  refine VO_freeze 2 rfl rfl ?_
  obtain ⟨x1, hx1, h⟩ := bnd_s h
  obtain ⟨⟨x1_0_0, x1_0_1, x1_0_2⟩, ⟨x1_1_0, x1_1_1, x1_1_2⟩⟩ := x1
  refine VO_cG [0] (w_l4TyA (Tl1Cur.mk c_0 c_1 c_2) [[97], [98]] deep hx1) ?_
  rintro _ _ ⟨rfl, rfl⟩
  show VO _ _ _ _ ⟨(_, .ag [.d (.i .i64 x1_0_0), .d (.s x1_0_1), .sl 3 0]) :: _, [.box [.d (.sl 1 (eBytes x1_1_0)), .d (.i .i64 x1_1_1), .d (.i .i64 x1_1_2)], .box [.d (.i .i64 0), .d (.s []), .nilsl], .frz 9 1 0 (eStrs [[97], [98]]), .arr 27 3 0 (eTypes x1_0_2)], _⟩ _
  refine goL ?_
  obtain ⟨x2, hx2, h⟩ := bnd_s h
  obtain ⟨x2_0, ⟨x2_1_0, x2_1_1, x2_1_2⟩⟩ := x2
  refine VO_cG [0] (w_l1Below (Tl1Cur.mk x1_1_0 x1_1_1 x1_1_2) 8 hx2) ?_
  rintro _ _ ⟨rfl, rfl⟩
  show VO _ _ _ _ ⟨(_, .d (.i .i64 x2_0)) :: _, [.box [.d (.sl 1 (eBytes x2_1_0)), .d (.i .i64 x2_1_1), .d (.i .i64 x2_1_2)], .box [.d (.i .i64 0), .d (.s []), .nilsl], .frz 9 1 0 (eStrs [[97], [98]]), .arr 27 3 0 (eTypes x1_0_2), .box [.d (.i .i64 x1_0_0), .d (.s x1_0_1), .sl 3 0]], _⟩ _
  refine goL ?_
  refine V_block ?_
  refine goL ?_
  refine V_cb (fun c3 => ?_) (fun c3 => ?_)
  · replace h := cnd_t c3 h
    obtain ⟨x4, hx4, h⟩ := bnd_s h
    obtain ⟨x4_0, ⟨x4_1_0, x4_1_1, x4_1_2⟩⟩ := x4
    obtain ⟨x5, hx5, h⟩ := bnd_s h
    obtain ⟨x5_0, x5_1, x5_2⟩ := x5
    refine V_seq_drawTJ (P := Tryz.prog) Mix.h (.q 0 (.h 1 (.h 2 (.h 3 (.h 4 (.h 5 .nil .nil) .nil) .nil) (.h 3 (.h 2 (.h 4 (.h 5 .nil .nil) .nil) .nil) .nil)) (.h 3 (.h 1 (.h 2 (.h 4 (.h 5 .nil .nil) .nil) .nil) .nil) .nil))) ⟨[(4, .ptr 1 0)], [.box [.d (.sl 1 (eBytes x4_1_0)), .d (.i .i64 x4_1_1), .d (.i .i64 x4_1_2)], .box [.d (.i .i64 x5_0), .d (.s x5_1), .sl 6 0], .frz 9 1 0 (eStrs [[97], [98]]), .frz 27 3 0 (eTypes x1_0_2), .box [.d (.i .i64 x1_0_0), .d (.s x1_0_1), .sl 3 0], .frz 9 1 0 (eStrs [[97, 100, 100], [115, 104, 111, 119]]), .arr 27 3 0 (eTypes x5_2)], Tryz.f35.ntmps⟩ (by kernel_rfl) ?_ ?_
    · refine goT ?_
      refine VT_h (VY_lb (T := 69) (us := eStrs [[97, 100, 100], [115, 104, 111, 119]]) VY_e) ?_ ?_
      · refine VT_h (VY_frz 5 rfl rfl (VY_cG (sv := .d (.s x4_0)) (L' := [.box [.d (.sl 1 (eBytes x4_1_0)), .d (.i .i64 x4_1_1), .d (.i .i64 x4_1_2)], .box [.d (.i .i64 0), .d (.s []), .nilsl], .frz 9 1 0 (eStrs [[97], [98]]), .arr 27 3 0 (eTypes x1_0_2), .box [.d (.i .i64 x1_0_0), .d (.s x1_0_1), .sl 3 0], .frz 9 1 0 (eStrs [[97, 100, 100], [115, 104, 111, 119]])]) [0] (w_l1Pick (Tl1Cur.mk x2_1_0 x2_1_1 x2_1_2) [[97, 100, 100], [115, 104, 111, 119]] hx4) VY_e)) ?_ ?_
        · refine VT_h1 (VY_dh VY_e) ?_
          refine VT_h1 (VY_frz 3 rfl rfl (VY_cG (sv := .ag [.d (.i .i64 x5_0), .d (.s x5_1), .sl 6 0]) (L' := [.box [.d (.sl 1 (eBytes x4_1_0)), .d (.i .i64 x4_1_1), .d (.i .i64 x4_1_2)], .box [.d (.i .i64 0), .d (.s []), .nilsl], .frz 9 1 0 (eStrs [[97], [98]]), .frz 27 3 0 (eTypes x1_0_2), .box [.d (.i .i64 x1_0_0), .d (.s x1_0_1), .sl 3 0], .frz 9 1 0 (eStrs [[97, 100, 100], [115, 104, 111, 119]]), .arr 27 3 0 (eTypes x5_2)]) [] (w_l4ProjA x4_0 (TType.mk x1_0_0 x1_0_1 x1_0_2) hx5) VY_e)) ?_
          refine goT ?_
          refine VT_nil ?_
          exact R_pk 1 [0, 1, 2, 3, 4, 5, 6]
        refine VT_h1 (VY_dh VY_e) ?_
        refine VT_h1 (VY_frz 5 rfl rfl (VY_cG (sv := .d (.s x4_0)) (L' := [.box [.d (.sl 1 (eBytes x4_1_0)), .d (.i .i64 x4_1_1), .d (.i .i64 x4_1_2)], .box [.d (.i .i64 0), .d (.s []), .nilsl], .frz 9 1 0 (eStrs [[97], [98]]), .arr 27 3 0 (eTypes x1_0_2), .box [.d (.i .i64 x1_0_0), .d (.s x1_0_1), .sl 3 0], .frz 9 1 0 (eStrs [[97, 100, 100], [115, 104, 111, 119]])]) [0] (w_l1Pick (Tl1Cur.mk x2_1_0 x2_1_1 x2_1_2) [[97, 100, 100], [115, 104, 111, 119]] hx4) VY_e)) ?_
        refine VT_h1 (VY_frz 3 rfl rfl (VY_cG (sv := .ag [.d (.i .i64 x5_0), .d (.s x5_1), .sl 6 0]) (L' := [.box [.d (.sl 1 (eBytes x4_1_0)), .d (.i .i64 x4_1_1), .d (.i .i64 x4_1_2)], .box [.d (.i .i64 0), .d (.s []), .nilsl], .frz 9 1 0 (eStrs [[97], [98]]), .frz 27 3 0 (eTypes x1_0_2), .box [.d (.i .i64 x1_0_0), .d (.s x1_0_1), .sl 3 0], .frz 9 1 0 (eStrs [[97, 100, 100], [115, 104, 111, 119]]), .arr 27 3 0 (eTypes x5_2)]) [] (w_l4ProjA x4_0 (TType.mk x1_0_0 x1_0_1 x1_0_2) hx5) VY_e)) ?_
        refine goT ?_
        refine VT_nil ?_
        exact R_pk 1 [0, 1, 2, 3, 4, 5, 6]
      refine VT_h1 (VY_dh VY_e) ?_
      refine VT_h1 (VY_lb (T := 69) (us := eStrs [[97, 100, 100], [115, 104, 111, 119]]) VY_e) ?_
      refine VT_h1 (VY_frz 5 rfl rfl (VY_cG (sv := .d (.s x4_0)) (L' := [.box [.d (.sl 1 (eBytes x4_1_0)), .d (.i .i64 x4_1_1), .d (.i .i64 x4_1_2)], .box [.d (.i .i64 0), .d (.s []), .nilsl], .frz 9 1 0 (eStrs [[97], [98]]), .arr 27 3 0 (eTypes x1_0_2), .box [.d (.i .i64 x1_0_0), .d (.s x1_0_1), .sl 3 0], .frz 9 1 0 (eStrs [[97, 100, 100], [115, 104, 111, 119]])]) [0] (w_l1Pick (Tl1Cur.mk x2_1_0 x2_1_1 x2_1_2) [[97, 100, 100], [115, 104, 111, 119]] hx4) VY_e)) ?_
      refine VT_h1 (VY_frz 3 rfl rfl (VY_cG (sv := .ag [.d (.i .i64 x5_0), .d (.s x5_1), .sl 6 0]) (L' := [.box [.d (.sl 1 (eBytes x4_1_0)), .d (.i .i64 x4_1_1), .d (.i .i64 x4_1_2)], .box [.d (.i .i64 0), .d (.s []), .nilsl], .frz 9 1 0 (eStrs [[97], [98]]), .frz 27 3 0 (eTypes x1_0_2), .box [.d (.i .i64 x1_0_0), .d (.s x1_0_1), .sl 3 0], .frz 9 1 0 (eStrs [[97, 100, 100], [115, 104, 111, 119]]), .arr 27 3 0 (eTypes x5_2)]) [] (w_l4ProjA x4_0 (TType.mk x1_0_0 x1_0_1 x1_0_2) hx5) VY_e)) ?_
      refine goT ?_
      refine VT_nil ?_
      exact R_pk 1 [0, 1, 2, 3, 4, 5, 6]
    refine goL ?_
    refine V_pk (fr' := [(4, .ptr 2 0)]) (Lc := [.box [.d (.sl 1 (eBytes x4_1_0)), .d (.i .i64 x4_1_1), .d (.i .i64 x4_1_2)], .arr 27 3 0 (eTypes x5_2), .box [.d (.i .i64 x5_0), .d (.s x5_1), .sl 1 0]]) 1 [0, 6, 1] ?_
    refine V_ret ?_
    replace h := Option.some.inj h
    subst h
    exact R_rH [.ag [.d (.i .i64 x5_0), .d (.s x5_1), .sl 1 0]] [.box [.d (.sl 1 (eBytes x4_1_0)), .d (.i .i64 x4_1_1), .d (.i .i64 x4_1_2)], .arr 27 3 0 (eTypes x5_2)] ⟨rfl, rfl⟩
  · replace h := cnd_f c3 h
    refine goL ?_
    refine V_cb (fun c6 => ?_) (fun c6 => ?_)
    · replace h := cnd_t c6 h
      refine goL ?_
      refine VO_freeze 3 rfl rfl ?_
      obtain ⟨x7, hx7, h⟩ := bnd_s h
      obtain ⟨x7_0, x7_1, x7_2⟩ := x7
      refine VO_cG [] (w_l4ProjA [97, 100, 100] (TType.mk x1_0_0 x1_0_1 x1_0_2) hx7) ?_
      rintro _ _ ⟨rfl, rfl⟩
      show VO _ _ _ _ ⟨(_, .ag [.d (.i .i64 x7_0), .d (.s x7_1), .sl 5 0]) :: _, [.box [.d (.sl 1 (eBytes x2_1_0)), .d (.i .i64 x2_1_1), .d (.i .i64 x2_1_2)], .box [.d (.i .i64 0), .d (.s []), .nilsl], .frz 9 1 0 (eStrs [[97], [98]]), .frz 27 3 0 (eTypes x1_0_2), .box [.d (.i .i64 x1_0_0), .d (.s x1_0_1), .sl 3 0], .arr 27 3 0 (eTypes x7_2)], _⟩ _
      refine VO_freeze 5 rfl rfl ?_
      refine VO_la1 (u := (.st [.i .i64 x7_0, .s x7_1, .sl 3 (eTypes x7_2)])) ?_
      refine VO_freeze 6 rfl rfl ?_
      obtain ⟨x8, hx8, h⟩ := bnd_s h
      obtain ⟨x8_0, x8_1, x8_2⟩ := x8
      refine VO_cG [] (w_l4ConA [108, 105, 115, 116] [(TType.mk x7_0 x7_1 x7_2)] hx8) ?_
      rintro _ _ ⟨rfl, rfl⟩
      show VO _ _ _ _ ⟨(_, .ag [.d (.i .i64 x8_0), .d (.s x8_1), .sl 7 0]) :: _, [.box [.d (.sl 1 (eBytes x2_1_0)), .d (.i .i64 x2_1_1), .d (.i .i64 x2_1_2)], .box [.d (.i .i64 0), .d (.s []), .nilsl], .frz 9 1 0 (eStrs [[97], [98]]), .frz 27 3 0 (eTypes x1_0_2), .box [.d (.i .i64 x1_0_0), .d (.s x1_0_1), .sl 3 0], .frz 27 3 0 (eTypes x7_2), .frz 27 3 0 (eTypes [(TType.mk x7_0 x7_1 x7_2)]), .arr 27 3 0 (eTypes x8_2)], _⟩ _
      refine goL ?_
      refine V_pk (fr' := [(4, .ptr 2 0)]) (Lc := [.box [.d (.sl 1 (eBytes x2_1_0)), .d (.i .i64 x2_1_1), .d (.i .i64 x2_1_2)], .arr 27 3 0 (eTypes x8_2), .box [.d (.i .i64 x8_0), .d (.s x8_1), .sl 1 0]]) 1 [0, 7, 1] ?_
      refine V_ret ?_
      replace h := Option.some.inj h
      subst h
      exact R_rH [.ag [.d (.i .i64 x8_0), .d (.s x8_1), .sl 1 0]] [.box [.d (.sl 1 (eBytes x2_1_0)), .d (.i .i64 x2_1_1), .d (.i .i64 x2_1_2)], .arr 27 3 0 (eTypes x8_2)] ⟨rfl, rfl⟩
    · replace h := cnd_f c6 h
      refine goL ?_
      refine V_cb (fun c9 => ?_) (fun c9 => ?_)
      · replace h := cnd_t c9 h
        refine goL ?_
        refine VO_k (Q_build TBd.h TZ.h rfl (by repeat constructor)) ?_
        refine goL ?_
        refine V_adoptA 27 3 1 2 rfl rfl (by repeat constructor) (by repeat constructor) (by repeat constructor) (by repeat constructor) ?_
        refine V_pk (fr' := [(4, .ptr 2 0)]) (Lc := [.box [.d (.sl 1 (eBytes x2_1_0)), .d (.i .i64 x2_1_1), .d (.i .i64 x2_1_2)], .arr 27 3 0 [], .box [.d (.i .i64 4), .d (.s [115, 104, 111, 119]), .sl 1 0]]) 1 [0, 5, 1] ?_
        refine V_ret ?_
        replace h := Option.some.inj h
        subst h
        exact R_rH [.ag [.d (.i .i64 4), .d (.s [115, 104, 111, 119]), .sl 1 0]] [.box [.d (.sl 1 (eBytes x2_1_0)), .d (.i .i64 x2_1_1), .d (.i .i64 x2_1_2)], .arr 27 3 0 []] ⟨rfl, rfl⟩
      · replace h := cnd_f c9 h
        refine V_skip ?_
        show V _ _ _ _ _
        refine goL ?_
        refine V_pk (fr' := [(4, .ptr 2 0)]) (Lc := [.box [.d (.sl 1 (eBytes x2_1_0)), .d (.i .i64 x2_1_1), .d (.i .i64 x2_1_2)], .arr 27 3 0 (eTypes x1_0_2), .box [.d (.i .i64 x1_0_0), .d (.s x1_0_1), .sl 1 0]]) 1 [0, 3, 1] ?_
        refine V_ret ?_
        replace h := Option.some.inj h
        subst h
        exact R_rH [.ag [.d (.i .i64 x1_0_0), .d (.s x1_0_1), .sl 1 0]] [.box [.d (.sl 1 (eBytes x2_1_0)), .d (.i .i64 x2_1_1), .d (.i .i64 x2_1_2)], .arr 27 3 0 (eTypes x1_0_2)] ⟨rfl, rfl⟩
def b_l4Bent_l1 (x2 : Int × Tl1Cur) : Nat → Int → (List UInt8) → (List TType) → Option (TType × Tl1Cur)
  | 0, y13, y14, y15 => (some ((TType.mk y13 y14 y15), x2.2))
  | m19 + 1, y13, y14, y15 => bnd (b_l4ConA [108, 105, 115, 116] [(TType.mk y13 y14 y15)]) fun x20 =>
b_l4Bent_l1 x2 m19 x20.kind x20.name x20.args
def b_l4Bent (c : Tl1Cur) : Option (TType × Tl1Cur) :=
bnd (b_l4FreeA c 3) fun x1 =>
bnd (b_l1Below x1.2 12) fun x2 =>
(cnd (x2.1 == 0) (
bnd (b_l1Below x2.2 7) fun x4 =>
(some ((TType.mk (IntKind.i64.wrap (x4.1 - 1)) x1.1.name x1.1.args), x4.2))) (
(cnd (x2.1 == 1) (
bnd (b_l1Pick x2.2 [[], [105, 110, 116], [65], [97, 115, 115, 111, 99], [97, 98, 99, 100, 101, 102, 103, 104, 105]]) fun x6 =>
(some ((TType.mk x1.1.kind x6.1 x1.1.args), x6.2))) (
(cnd (x2.1 == 2) (
bnd (b_l4Int ) fun x8 =>
bnd (b_l4Bool ) fun x9 =>
bnd (b_l4Int ) fun x10 =>
gd (x1.1.args.length + [x8, x9, x10].length ≤ 4294967296) (
(some ((TType.mk x1.1.kind x1.1.name (x1.1.args ++ [x8, x9, x10])), x2.2)))) (
(cnd (x2.1 == 3) (
b_l4Bent_l1 x2 6 x1.1.kind x1.1.name x1.1.args) (
(some (x1.1, x2.2))))))))))
set_option maxHeartbeats 4000000 in
theorem w_l4Bent (c : Tl1Cur) {r : TType × Tl1Cur} (h : b_l4Bent c = some r) : Go.Eng.Spec Tryz.prog 17 [.ptr 0 0] [.box [.d (.sl 1 (eBytes c.b)), .d (.i .i64 c.i), .d (.i .i64 c.h)]] (fun sv Lo => sv = .d (eType r.1) ∧ Lo = [.box [.d (.sl 1 (eBytes r.2.b)), .d (.i .i64 r.2.i), .d (.i .i64 r.2.h)]]) := by
  obtain ⟨c_0, c_1, c_2⟩ := c
  unfold b_l4Bent at h
  refine Spec_intro 1 Tryz.func17 rfl (by kernel_rfl) rfl rfl fun A _ => ?_
  refine goL ?_
  obtain ⟨x1, hx1, h⟩ := bnd_s h
  obtain ⟨⟨x1_0_0, x1_0_1, x1_0_2⟩, ⟨x1_1_0, x1_1_1, x1_1_2⟩⟩ := x1
  refine VO_cG [0] (w_l4FreeA (Tl1Cur.mk c_0 c_1 c_2) 3 hx1) ?_
  rintro _ _ ⟨rfl, rfl⟩
  show VO _ _ _ _ ⟨(_, .ag [.d (.i .i64 x1_0_0), .d (.s x1_0_1), .sl 2 0]) :: _, [.box [.d (.sl 1 (eBytes x1_1_0)), .d (.i .i64 x1_1_1), .d (.i .i64 x1_1_2)], .box [.d (.i .i64 0), .d (.s []), .nilsl], .arr 27 3 0 (eTypes x1_0_2)], _⟩ _
  refine goL ?_
  obtain ⟨x2, hx2, h⟩ := bnd_s h
  obtain ⟨x2_0, ⟨x2_1_0, x2_1_1, x2_1_2⟩⟩ := x2
  refine VO_cG [0] (w_l1Below (Tl1Cur.mk x1_1_0 x1_1_1 x1_1_2) 12 hx2) ?_
  rintro _ _ ⟨rfl, rfl⟩
  show VO _ _ _ _ ⟨(_, .d (.i .i64 x2_0)) :: _, [.box [.d (.sl 1 (eBytes x2_1_0)), .d (.i .i64 x2_1_1), .d (.i .i64 x2_1_2)], .box [.d (.i .i64 0), .d (.s []), .nilsl], .arr 27 3 0 (eTypes x1_0_2), .box [.d (.i .i64 x1_0_0), .d (.s x1_0_1), .sl 2 0]], _⟩ _
  refine goL ?_
  refine V_block ?_
  refine goL ?_
  refine V_cb (fun c3 => ?_) (fun c3 => ?_)
  · replace h := cnd_t c3 h
    refine goL ?_
    obtain ⟨x4, hx4, h⟩ := bnd_s h
    obtain ⟨x4_0, ⟨x4_1_0, x4_1_1, x4_1_2⟩⟩ := x4
    refine VO_cG [0] (w_l1Below (Tl1Cur.mk x2_1_0 x2_1_1 x2_1_2) 7 hx4) ?_
    rintro _ _ ⟨rfl, rfl⟩
    show VO _ _ _ _ ⟨(_, .d (.i .i64 x4_0)) :: _, [.box [.d (.sl 1 (eBytes x4_1_0)), .d (.i .i64 x4_1_1), .d (.i .i64 x4_1_2)], .box [.d (.i .i64 0), .d (.s []), .nilsl], .arr 27 3 0 (eTypes x1_0_2), .box [.d (.i .i64 x1_0_0), .d (.s x1_0_1), .sl 2 0]], _⟩ _
    refine VO_r (QR_ar) ?_
    refine goL ?_
    refine V_freeze 2 rfl rfl ?_
    refine V_ret ?_
    replace h := Option.some.inj h
    subst h
    exact R_rF [.d (.st [.i .i64 (IntKind.i64.wrap (x4_0 - 1)), .s x1_0_1, .sl 3 (eTypes x1_0_2)])] [.box [.d (.sl 1 (eBytes x4_1_0)), .d (.i .i64 x4_1_1), .d (.i .i64 x4_1_2)]] ⟨rfl, rfl⟩
  · replace h := cnd_f c3 h
    refine goL ?_
    refine V_cb (fun c5 => ?_) (fun c5 => ?_)
    · replace h := cnd_t c5 h
      refine goL ?_
      refine VO_lb (us := eStrs [[], [105, 110, 116], [65], [97, 115, 115, 111, 99], [97, 98, 99, 100, 101, 102, 103, 104, 105]]) ?_
      refine VO_freeze 4 rfl rfl ?_
      obtain ⟨x6, hx6, h⟩ := bnd_s h
      obtain ⟨x6_0, ⟨x6_1_0, x6_1_1, x6_1_2⟩⟩ := x6
      refine VO_cG [0] (w_l1Pick (Tl1Cur.mk x2_1_0 x2_1_1 x2_1_2) [[], [105, 110, 116], [65], [97, 115, 115, 111, 99], [97, 98, 99, 100, 101, 102, 103, 104, 105]] hx6) ?_
      rintro _ _ ⟨rfl, rfl⟩
      show VO _ _ _ _ ⟨(_, .d (.s x6_0)) :: _, [.box [.d (.sl 1 (eBytes x6_1_0)), .d (.i .i64 x6_1_1), .d (.i .i64 x6_1_2)], .box [.d (.i .i64 0), .d (.s []), .nilsl], .arr 27 3 0 (eTypes x1_0_2), .box [.d (.i .i64 x1_0_0), .d (.s x1_0_1), .sl 2 0], .frz 9 1 0 (eStrs [[], [105, 110, 116], [65], [97, 115, 115, 111, 99], [97, 98, 99, 100, 101, 102, 103, 104, 105]])], _⟩ _
      refine goL ?_
      refine V_freeze 2 rfl rfl ?_
      refine V_ret ?_
      replace h := Option.some.inj h
      subst h
      exact R_rF [.d (.st [.i .i64 x1_0_0, .s x6_0, .sl 3 (eTypes x1_0_2)])] [.box [.d (.sl 1 (eBytes x6_1_0)), .d (.i .i64 x6_1_1), .d (.i .i64 x6_1_2)]] ⟨rfl, rfl⟩
    · replace h := cnd_f c5 h
      refine goL ?_
      refine V_cb (fun c7 => ?_) (fun c7 => ?_)
      · replace h := cnd_t c7 h
        refine V_drawX (P := Tryz.prog) Mix.h [(0, true), (1, true), (2, true), (3, true), (4, true), (5, false), (6, false), (7, true), (8, false)] (by kernel_rfl) ?_
        refine goY ?_
        obtain ⟨x8, hx8, h⟩ := bnd_s h
        obtain ⟨x8_0, x8_1, x8_2⟩ := x8
        refine VY_ri rfl (QR_call (w_l4Int  hx8)) ?_
        obtain ⟨x9, hx9, h⟩ := bnd_s h
        obtain ⟨x9_0, x9_1, x9_2⟩ := x9
        refine VY_ri rfl (QR_call (w_l4Bool  hx9)) ?_
        obtain ⟨x10, hx10, h⟩ := bnd_s h
        obtain ⟨x10_0, x10_1, x10_2⟩ := x10
        refine VY_ri rfl (QR_call (w_l4Int  hx10)) ?_
        refine VY_lb (T := 25) (us := eTypes [(TType.mk x8_0 x8_1 x8_2), (TType.mk x9_0 x9_1 x9_2), (TType.mk x10_0 x10_1 x10_2)]) ?_
        obtain ⟨g11, h⟩ := gd_s h
        refine VY_apa (T := 25) g11 ?_
        refine goY ?_
        refine VY_nil ?_
        refine goL ?_
        refine V_freeze 2 rfl rfl ?_
        refine V_ret ?_
        replace h := Option.some.inj h
        subst h
        exact R_rF [.d (.st [.i .i64 x1_0_0, .s x1_0_1, .sl 3 (eTypes (x1_0_2 ++ [(TType.mk x8_0 x8_1 x8_2), (TType.mk x9_0 x9_1 x9_2), (TType.mk x10_0 x10_1 x10_2)]))])] [.box [.d (.sl 1 (eBytes x2_1_0)), .d (.i .i64 x2_1_1), .d (.i .i64 x2_1_2)]] ⟨rfl, rfl⟩
      · replace h := cnd_f c7 h
        refine goL ?_
        refine V_cb (fun c12 => ?_) (fun c12 => ?_)
        · replace h := cnd_t c12 h
          refine goL ?_
          refine V_block ?_
          show V _ _ _ _ _
          refine V_loopR5 (fun (y17 : Nat) (y13 : Int) (y14 : List UInt8) (y15 : List TType) (v16 : Nat) => ⟨[(2, .ptr 1 0), (3, .ptr 3 0), (4, .d (.i .i64 (y17 : Int)))], [.box [.d (.sl 1 (eBytes x2_1_0)), .d (.i .i64 x2_1_1), .d (.i .i64 x2_1_2)], .box [.d (.i .i64 0), .d (.s []), .nilsl], .arr 27 3 v16 (eTypes y15), .box [.d (.i .i64 y13), .d (.s y14), .sl 2 v16]], Tryz.f17.ntmps⟩) (fun y17 y13 y14 y15 v16 => y17 ≤ 6 ∧ b_l4Bent_l1 (x2_0, (Tl1Cur.mk x2_1_0 x2_1_1 x2_1_2)) (6 - y17) y13 y14 y15 = some r) (fun y17 y13 y14 y15 v16 => 6 - y17) 0 x1_0_0 x1_0_1 x1_0_2 0 ⟨rfl, ⟨⟨rfl, rfl⟩, ⟨rfl, rfl⟩, ⟨rfl, rfl⟩, trivial⟩, ⟨[], rfl⟩, rfl⟩ ⟨by simp, h⟩ ?_
          rintro y17 y13 y14 y15 v16 ⟨hky17, h⟩
          refine goL ?_
          refine V_cb (fun c18 => ?_) (fun c18 => ?_)
          · have hky172 : y17 < 6 := by have := of_decide_eq_true c18; omega
            obtain ⟨m19, hm19⟩ : ∃ m, 6 - y17 = m + 1 := ⟨6 - y17 - 1, by omega⟩
            rw [hm19, b_l4Bent_l1.eq_2] at h
            refine V_skip ?_
            show V _ _ _ _ _
            refine V_seq (V_block ?_)
            refine goL ?_
            refine VO_freeze 2 rfl rfl ?_
            refine VO_la1 (u := (.st [.i .i64 y13, .s y14, .sl 3 (eTypes y15)])) ?_
            refine VO_freeze 4 rfl rfl ?_
            obtain ⟨x20, hx20, h⟩ := bnd_s h
            obtain ⟨x20_0, x20_1, x20_2⟩ := x20
            refine VO_cG [] (w_l4ConA [108, 105, 115, 116] [(TType.mk y13 y14 y15)] hx20) ?_
            rintro _ _ ⟨rfl, rfl⟩
            show VO _ _ _ _ ⟨(_, .ag [.d (.i .i64 x20_0), .d (.s x20_1), .sl 5 0]) :: _, [.box [.d (.sl 1 (eBytes x2_1_0)), .d (.i .i64 x2_1_1), .d (.i .i64 x2_1_2)], .box [.d (.i .i64 0), .d (.s []), .nilsl], .frz 27 3 v16 (eTypes y15), .box [.d (.i .i64 y13), .d (.s y14), .sl 2 v16], .frz 27 3 0 (eTypes [(TType.mk y13 y14 y15)]), .arr 27 3 0 (eTypes x20_2)], _⟩ _
            refine goL ?_
            refine VO_r (QR_inc y17 (by omega)) ?_
            refine goL ?_
            rw [show m19 = 6 - (y17 + 1) by omega] at h
            exact ⟨(y17 + 1), x20_0, x20_1, x20_2, 0, ⟨by omega, h⟩, by omega, R_pk 1 [0, 1, 5, 3]⟩
          · have hky172 : 6 ≤ y17 := by have := of_decide_eq_false c18; omega
            rw [show 6 - y17 = 0 by omega, b_l4Bent_l1.eq_1] at h
            refine V_exit ?_
            show V _ _ _ _ _
            refine goL ?_
            refine V_freeze 2 rfl rfl ?_
            refine V_ret ?_
            replace h := Option.some.inj h
            subst h
            exact R_rF [.d (.st [.i .i64 y13, .s y14, .sl 3 (eTypes y15)])] [.box [.d (.sl 1 (eBytes x2_1_0)), .d (.i .i64 x2_1_1), .d (.i .i64 x2_1_2)]] ⟨rfl, rfl⟩
        · replace h := cnd_f c12 h
          refine V_skip ?_
          show V _ _ _ _ _
          refine goL ?_
          refine V_freeze 2 rfl rfl ?_
          refine V_ret ?_
          replace h := Option.some.inj h
          subst h
          exact R_rF [.d (.st [.i .i64 x1_0_0, .s x1_0_1, .sl 3 (eTypes x1_0_2)])] [.box [.d (.sl 1 (eBytes x2_1_0)), .d (.i .i64 x2_1_1), .d (.i .i64 x2_1_2)]] ⟨rfl, rfl⟩
def b_l6Binds_l1 (x1 : Int × Tl1Cur) : Nat → (List UInt8) → Int → Int → (List TBinding) → Int → Option (List TBinding × Tl1Cur)
  | 0, y2, y3, y4, y5, y7 => none
  | n8 + 1, y2, y3, y4, y5, y7 => (cnd (decide (y7 < x1.1)) (
bnd (b_l1Pick (Tl1Cur.mk y2 y3 y4) [[97], [98], [99]]) fun x10 =>
bnd (b_l4Free x10.2 2) fun x11 =>
bnd (b_sLookup y5 x10.1) fun x12 =>
(cnd (!x12.2) (
gd (y5.length + [(TBinding.mk x10.1 x11.1)].length ≤ 4294967296) (
b_l6Binds_l1 x1 n8 x11.2.b x11.2.i x11.2.h (y5 ++ [(TBinding.mk x10.1 x11.1)]) (IntKind.i64.wrap (y7 + 1)))) (
bnd (b_l1Once x11.2 4) fun x15 =>
(cnd x15.1 (
gd (y5.length + [(TBinding.mk x10.1 x11.1)].length ≤ 4294967296) (
b_l6Binds_l1 x1 n8 x15.2.b x15.2.i x15.2.h (y5 ++ [(TBinding.mk x10.1 x11.1)]) (IntKind.i64.wrap (y7 + 1)))) (
b_l6Binds_l1 x1 n8 x15.2.b x15.2.i x15.2.h y5 (IntKind.i64.wrap (y7 + 1))))))) (
(cnd (decide (x1.1 > 0)) (
(cnd (decide ((y5.length : Int) > 0)) (
bnd (b_l1Once (Tl1Cur.mk y2 y3 y4) 8) fun x20 =>
(cnd x20.1 (
bnd (b_l4Bent x20.2) fun x22 =>
bnd (at? y5 0) fun x23 =>
(some ((y5.set 0 (TBinding.mk x23.var_ x22.1)), x22.2))) (
(some (y5, x20.2))))) (
(some (y5, (Tl1Cur.mk y2 y3 y4)))))) (
(some (y5, (Tl1Cur.mk y2 y3 y4)))))))
def b_l6Binds (c : Tl1Cur) (n0 : Nat) : Option (List TBinding × Tl1Cur) :=
bnd (b_l1Below c 4) fun x1 =>
b_l6Binds_l1 x1 n0 x1.2.b x1.2.i x1.2.h [] 0
set_option maxHeartbeats 4000000 in
theorem w_l6Binds (c : Tl1Cur) {n0 : Nat} {r : List TBinding × Tl1Cur} (h : b_l6Binds c n0 = some r) : Go.Eng.Spec Tryz.prog 16 [.ptr 0 0] [.box [.d (.sl 1 (eBytes c.b)), .d (.i .i64 c.i), .d (.i .i64 c.h)]] (fun sv Lo => sv = .d (.sl 4 (eBindings r.1)) ∧ Lo = [.box [.d (.sl 1 (eBytes r.2.b)), .d (.i .i64 r.2.i), .d (.i .i64 r.2.h)]]) := by
  obtain ⟨c_0, c_1, c_2⟩ := c
  unfold b_l6Binds at h
  refine Spec_intro 1 Tryz.func16 rfl (by kernel_rfl) rfl rfl fun A _ => ?_
  refine goL ?_
  refine VO_l0a ?_
  refine goL ?_
  obtain ⟨x1, hx1, h⟩ := bnd_s h
  obtain ⟨x1_0, ⟨x1_1_0, x1_1_1, x1_1_2⟩⟩ := x1
  refine VO_cG [0] (w_l1Below (Tl1Cur.mk c_0 c_1 c_2) 4 hx1) ?_
  rintro _ _ ⟨rfl, rfl⟩
  show VO _ _ _ _ ⟨(_, .d (.i .i64 x1_0)) :: _, [.box [.d (.sl 1 (eBytes x1_1_0)), .d (.i .i64 x1_1_1), .d (.i .i64 x1_1_2)], .arr 37 4 0 []], _⟩ _
  refine goL ?_
  refine V_block ?_
  show V _ _ _ _ _
  refine V_loop7 (fun (n8 : Nat) (y2 : List UInt8) (y3 : Int) (y4 : Int) (y5 : List TBinding) (y7 : Int) (v6 : Nat) => ⟨[(0, .ptr 0 0), (3, .sl 1 v6), (4, .d (.i .i64 x1_0)), (5, .d (.i .i64 y7))], [.box [.d (.sl 1 (eBytes y2)), .d (.i .i64 y3), .d (.i .i64 y4)], .arr 37 4 v6 (eBindings y5)], Tryz.f16.ntmps⟩) (fun n8 y2 y3 y4 y5 y7 v6 => b_l6Binds_l1 (x1_0, (Tl1Cur.mk x1_1_0 x1_1_1 x1_1_2)) n8 y2 y3 y4 y5 y7 = some r) (fun n8 y2 y3 y4 y5 y7 v6 => n8) n0 x1_1_0 x1_1_1 x1_1_2 [] 0 0 ⟨rfl, ⟨⟨rfl, rfl⟩, ⟨rfl, rfl⟩, ⟨rfl, rfl⟩, ⟨rfl, rfl⟩, trivial⟩, ⟨[], rfl⟩, rfl⟩ h ?_
  rintro n8 y2 y3 y4 y5 y7 v6 h
  rcases n8 with _ | n8
  · cases h
  rw [b_l6Binds_l1.eq_2] at h
  refine goL ?_
  refine V_cb (fun c9 => ?_) (fun c9 => ?_)
  · replace h := cnd_t c9 h
    refine V_skip ?_
    show V _ _ _ _ _
    refine V_seq (V_block ?_)
    refine goL ?_
    refine VO_lb (us := eStrs [[97], [98], [99]]) ?_
    refine VO_freeze 2 rfl rfl ?_
    obtain ⟨x10, hx10, h⟩ := bnd_s h
    obtain ⟨x10_0, ⟨x10_1_0, x10_1_1, x10_1_2⟩⟩ := x10
    refine VO_cG [0] (w_l1Pick (Tl1Cur.mk y2 y3 y4) [[97], [98], [99]] hx10) ?_
    rintro _ _ ⟨rfl, rfl⟩
    show VO _ _ _ _ ⟨(_, .d (.s x10_0)) :: _, [.box [.d (.sl 1 (eBytes x10_1_0)), .d (.i .i64 x10_1_1), .d (.i .i64 x10_1_2)], .arr 37 4 v6 (eBindings y5), .frz 9 1 0 (eStrs [[97], [98], [99]])], _⟩ _
    refine goL ?_
    obtain ⟨x11, hx11, h⟩ := bnd_s h
    obtain ⟨⟨x11_0_0, x11_0_1, x11_0_2⟩, ⟨x11_1_0, x11_1_1, x11_1_2⟩⟩ := x11
    refine VO_cG [0] (w_l4Free (Tl1Cur.mk x10_1_0 x10_1_1 x10_1_2) 2 hx11) ?_
    rintro _ _ ⟨rfl, rfl⟩
    show VO _ _ _ _ ⟨(_, .d (.st [.i .i64 x11_0_0, .s x11_0_1, .sl 3 (eTypes x11_0_2)])) :: _, [.box [.d (.sl 1 (eBytes x11_1_0)), .d (.i .i64 x11_1_1), .d (.i .i64 x11_1_2)], .arr 37 4 v6 (eBindings y5), .frz 9 1 0 (eStrs [[97], [98], [99]])], _⟩ _
    refine VO_k (Q_build TBd.h TZ.h rfl (by repeat constructor)) ?_
    refine goL ?_
    obtain ⟨x12, hx12, h⟩ := bnd_s h
    obtain ⟨⟨x12_0_0, x12_0_1, x12_0_2⟩, x12_1⟩ := x12
    refine VO_co (w_sLookup y5 x10_0 hx12) ?_
    refine goL ?_
    refine VO_case 32 (fun c13 => ?_) (fun c13 => ?_)
    · replace h := cnd_t c13 h
      refine goL ?_
      refine V_ct ?_
      refine goL ?_
      refine VO_la1 (u := (.st [.s x10_0, .st [.i .i64 x11_0_0, .s x11_0_1, .sl 3 (eTypes x11_0_2)]])) ?_
      obtain ⟨g14, h⟩ := gd_s h
      refine VO_apa g14 ?_
      refine goL ?_
      refine VO_r (QR_ar) ?_
      refine goL ?_
      exact ⟨n8, x11_1_0, x11_1_1, x11_1_2, (y5 ++ [(TBinding.mk x10_0 (TType.mk x11_0_0 x11_0_1 x11_0_2))]), (IntKind.i64.wrap (y7 + 1)), (v6 + 1), h, Nat.lt_succ_self _, ⟨rfl, ⟨⟨rfl, rfl⟩, ⟨rfl, rfl⟩, ⟨rfl, rfl⟩, ⟨rfl, rfl⟩, trivial⟩, ⟨_, rfl⟩, rfl⟩⟩
    · replace h := cnd_f c13 h
      refine goL ?_
      refine VO_b ?_
      obtain ⟨x15, hx15, h⟩ := bnd_s h
      obtain ⟨x15_0, ⟨x15_1_0, x15_1_1, x15_1_2⟩⟩ := x15
      refine VO_cG [0] (w_l1Once (Tl1Cur.mk x11_1_0 x11_1_1 x11_1_2) 4 hx15) ?_
      rintro _ _ ⟨rfl, rfl⟩
      show VO _ _ _ _ ⟨(_, .d (.b x15_0)) :: _, [.box [.d (.sl 1 (eBytes x15_1_0)), .d (.i .i64 x15_1_1), .d (.i .i64 x15_1_2)], .arr 37 4 v6 (eBindings y5), .frz 9 1 0 (eStrs [[97], [98], [99]]), .box [.d (.s x10_0), .d (.i .i64 x11_0_0), .d (.s x11_0_1), .d (.sl 3 (eTypes x11_0_2))], .own 27 3 0 (eTypes x12_0_2), .box [.d (.i .i64 x12_0_0), .d (.s x12_0_1), .sl 4 0]], _⟩ _
      refine goL ?_
      refine V_cb (fun c16 => ?_) (fun c16 => ?_)
      · replace h := cnd_t c16 h
        refine goL ?_
        refine VO_la1 (u := (.st [.s x10_0, .st [.i .i64 x11_0_0, .s x11_0_1, .sl 3 (eTypes x11_0_2)]])) ?_
        obtain ⟨g17, h⟩ := gd_s h
        refine VO_apa g17 ?_
        refine goL ?_
        refine VO_r (QR_ar) ?_
        refine goL ?_
        exact ⟨n8, x15_1_0, x15_1_1, x15_1_2, (y5 ++ [(TBinding.mk x10_0 (TType.mk x11_0_0 x11_0_1 x11_0_2))]), (IntKind.i64.wrap (y7 + 1)), (v6 + 1), h, Nat.lt_succ_self _, ⟨rfl, ⟨⟨rfl, rfl⟩, ⟨rfl, rfl⟩, ⟨rfl, rfl⟩, ⟨rfl, rfl⟩, trivial⟩, ⟨_, rfl⟩, rfl⟩⟩
      · replace h := cnd_f c16 h
        refine V_skip ?_
        show V _ _ _ _ _
        refine goL ?_
        refine VO_r (QR_ar) ?_
        refine goL ?_
        exact ⟨n8, x15_1_0, x15_1_1, x15_1_2, y5, (IntKind.i64.wrap (y7 + 1)), v6, h, Nat.lt_succ_self _, ⟨rfl, ⟨⟨rfl, rfl⟩, ⟨rfl, rfl⟩, ⟨rfl, rfl⟩, ⟨rfl, rfl⟩, trivial⟩, ⟨_, rfl⟩, rfl⟩⟩
  · replace h := cnd_f c9 h
    refine V_exit ?_
    show V _ _ _ _ _
    refine goL ?_
    refine VO_case 42 (fun c18 => ?_) (fun c18 => ?_) (by first | rfl | (simp only [eTypes_len, eBindings_len]; rfl))
    · replace h := cnd_t c18 h
      refine goL ?_
      refine VO_b ?_
      refine goL ?_
      refine VO_case 47 (fun c19 => ?_) (fun c19 => ?_) (by first | rfl | (simp only [eTypes_len, eBindings_len]; rfl))
      · replace h := cnd_t c19 h
        refine goL ?_
        refine VO_b ?_
        obtain ⟨x20, hx20, h⟩ := bnd_s h
        obtain ⟨x20_0, ⟨x20_1_0, x20_1_1, x20_1_2⟩⟩ := x20
        refine VO_cG [0] (w_l1Once (Tl1Cur.mk y2 y3 y4) 8 hx20) ?_
        rintro _ _ ⟨rfl, rfl⟩
        show VO _ _ _ _ ⟨(_, .d (.b x20_0)) :: _, [.box [.d (.sl 1 (eBytes x20_1_0)), .d (.i .i64 x20_1_1), .d (.i .i64 x20_1_2)], .arr 37 4 v6 (eBindings y5)], _⟩ _
        refine goL ?_
        refine V_cb (fun c21 => ?_) (fun c21 => ?_)
        · replace h := cnd_t c21 h
          refine goL ?_
          obtain ⟨x22, hx22, h⟩ := bnd_s h
          obtain ⟨⟨x22_0_0, x22_0_1, x22_0_2⟩, ⟨x22_1_0, x22_1_1, x22_1_2⟩⟩ := x22
          refine VO_cG [0] (w_l4Bent (Tl1Cur.mk x20_1_0 x20_1_1 x20_1_2) hx22) ?_
          rintro _ _ ⟨rfl, rfl⟩
          show VO _ _ _ _ ⟨(_, .d (.st [.i .i64 x22_0_0, .s x22_0_1, .sl 3 (eTypes x22_0_2)])) :: _, [.box [.d (.sl 1 (eBytes x22_1_0)), .d (.i .i64 x22_1_1), .d (.i .i64 x22_1_2)], .arr 37 4 v6 (eBindings y5)], _⟩ _
          obtain ⟨x23, hx23, h⟩ := bnd_s h
          obtain ⟨hx230, hx23⟩ := at_s hx23
          obtain ⟨x23_0, ⟨x23_1_0, x23_1_1, x23_1_2⟩⟩ := x23
          refine VO_k (Q_ixa 0 (List.getElem?_eq_some_iff.1 hx23).1) ?_
          refine VO_k (Q_fla) ?_
          refine VO_sta [(.s x23_0)] (.st [.i .i64 x23_1_0, .s x23_1_1, .sl 3 (eTypes x23_1_2)]) (.st [.i .i64 x22_0_0, .s x22_0_1, .sl 3 (eTypes x22_0_2)]) (TBinding.mk x23_0 (TType.mk x23_1_0 x23_1_1 x23_1_2)) (TBinding.mk x23_0 (TType.mk x22_0_0 x22_0_1 x22_0_2)) hx23 ?_
          refine goL ?_
          refine V_freeze 1 rfl rfl ?_
          refine V_ret ?_
          replace h := Option.some.inj h
          subst h
          exact R_rF [.d (.sl 4 (eBindings (y5.set 0 (TBinding.mk x23_0 (TType.mk x22_0_0 x22_0_1 x22_0_2)))))] [.box [.d (.sl 1 (eBytes x22_1_0)), .d (.i .i64 x22_1_1), .d (.i .i64 x22_1_2)]] ⟨rfl, rfl⟩
        · replace h := cnd_f c21 h
          refine V_skip ?_
          show V _ _ _ _ _
          refine goL ?_
          refine V_freeze 1 rfl rfl ?_
          refine V_ret ?_
          replace h := Option.some.inj h
          subst h
          exact R_rF [.d (.sl 4 (eBindings y5))] [.box [.d (.sl 1 (eBytes x20_1_0)), .d (.i .i64 x20_1_1), .d (.i .i64 x20_1_2)]] ⟨rfl, rfl⟩
      · replace h := cnd_f c19 h
        refine goL ?_
        refine V_cf ?_
        refine V_skip ?_
        show V _ _ _ _ _
        refine goL ?_
        refine V_freeze 1 rfl rfl ?_
        refine V_ret ?_
        replace h := Option.some.inj h
        subst h
        exact R_rF [.d (.sl 4 (eBindings y5))] [.box [.d (.sl 1 (eBytes y2)), .d (.i .i64 y3), .d (.i .i64 y4)]] ⟨rfl, rfl⟩
    · replace h := cnd_f c18 h
      refine goL ?_
      refine V_cf ?_
      refine V_skip ?_
      show V _ _ _ _ _
      refine goL ?_
      refine V_freeze 1 rfl rfl ?_
      refine V_ret ?_
      replace h := Option.some.inj h
      subst h
      exact R_rF [.d (.sl 4 (eBindings y5))] [.box [.d (.sl 1 (eBytes y2)), .d (.i .i64 y3), .d (.i .i64 y4)]] ⟨rfl, rfl⟩
def l6BindsT (c : Tl1Cur) : Option (List TBinding × Tl1Cur) := b_l6Binds c 8
theorem t_l6Binds (c : Tl1Cur) {r : List TBinding × Tl1Cur} (h : l6BindsT c = some r) : Go.Eng.Spec Tryz.prog 16 [.ptr 0 0] [.box [.d (.sl 1 (eBytes c.b)), .d (.i .i64 c.i), .d (.i .i64 c.h)]] (fun sv Lo => sv = .d (.sl 4 (eBindings r.1)) ∧ Lo = [.box [.d (.sl 1 (eBytes r.2.b)), .d (.i .i64 r.2.i), .d (.i .i64 r.2.h)]]) := w_l6Binds c h
end Go.Proofs.YtgmlpaaklnkghaaGreat
