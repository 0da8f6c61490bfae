/- The byte cursor, drawn values, EvalPrim, a list of bytes that came in. -/
import Derived.Test.YthojhakapbfbiaaDoorFacts
import Derived.Test.YthojhakapbfbiaaDoorEng50
set_option linter.unusedVariables false
set_option linter.unusedSimpArgs false
set_option linter.unusedSectionVars false
namespace Go.Proofs.YthojhakapbfbiaaDoor
open Go Go.Eng
attribute [local irreducible] V VO VQ VY Quiet QR SpecP SpecO MSpec Rng PostP PostO PostG
def b_l1New_l1 (code : List UInt8) : Nat → Int → Int → Option (Tl1Cur)
  | 0, y1, y2 => none
  | n3 + 1, y1, y2 => lt_ ((cnd (decide (y2 < (code.length : Int))) ((decide (y2 < 4000))) (false))) fun b4 =>
(cnd b4 (
bnd (at? code y2) fun x7 =>
b_l1New_l1 code n3 (andI (IntKind.i64.wrap ((IntKind.i64.wrap ((IntKind.i64.wrap (y1 * 131)) + (IntKind.i64.wrap (x7.toNat : Int)))) + 7)) 1073741823) (IntKind.i64.wrap (y2 + 1))) (
(some (Tl1Cur.mk code 0 y1))))
def b_l1New (code : List UInt8) (n0 : Nat) : Option (Tl1Cur) :=
b_l1New_l1 code n0 (IntKind.i64.wrap ((28803 : Int) + (code.length : Int))) 0
set_option maxHeartbeats 4000000 in
theorem w_l1New (code : List UInt8) {n0 : Nat} {r : Tl1Cur} (h : b_l1New code n0 = some r) : Go.Eng.Spec Tryd.prog 58 [.d (.sl 1 (eBytes code))] [] (fun sv Lo => sv = .ptr 0 0 ∧ Lo = [.box [.d (.sl 1 (eBytes r.b)), .d (.i .i64 r.i), .d (.i .i64 r.h)]]) := by
  unfold b_l1New at h
  refine Spec_intro 0 Tryd.func58 rfl (by kernel_rfl) rfl rfl fun A _ => ?_
  refine goL ?_
  refine VO_r (QR_nilp) ?_
  refine goL ?_
  refine VO_r (QR_ar) ?_
  refine goL ?_
  refine V_block ?_
  show V _ _ _ _ _
  refine V_loop3 (fun (n3 : Nat) (y1 : Int) (y2 : Int) => ⟨[(0, .d (.sl 1 (eBytes code))), (3, .d (.i .i64 y1)), (4, .d (.i .i64 y2))], [], Tryd.f58.ntmps⟩) (fun n3 y1 y2 => b_l1New_l1 code n3 y1 y2 = some r) (fun n3 y1 y2 => n3) n0 (IntKind.i64.wrap ((28803 : Int) + (code.length : Int))) 0 ⟨rfl, ⟨⟨rfl, rfl⟩, ⟨rfl, rfl⟩, ⟨rfl, rfl⟩, trivial⟩, ⟨[], rfl⟩, rfl⟩ h ?_
  rintro n3 y1 y2 h
  rcases n3 with _ | n3
  · cases h
  rw [b_l1New_l1.eq_2] at h
  refine goL ?_
  obtain ⟨b4, hb4, h⟩ := lt_x h
  refine VO_join ⟨[(0, .d (.sl 1 (eBytes code))), (3, .d (.i .i64 y1)), (4, .d (.i .i64 y2)), (15, .d (.b b4))], [], Tryd.f58.ntmps⟩ ?_ ?_
  · refine VO_case 12 (fun c5 => ?_) (fun c5 => ?_)
    · replace hb4 := cnd_t c5 hb4
      refine goL ?_
      cases hb4
      exact ⟨rfl, ⟨⟨rfl, rfl⟩, ⟨rfl, rfl⟩, ⟨rfl, rfl⟩, ⟨rfl, rfl⟩, trivial⟩, ⟨[], rfl⟩, rfl⟩
    · replace hb4 := cnd_f c5 hb4
      refine goL ?_
      cases hb4
      exact ⟨rfl, ⟨⟨rfl, rfl⟩, ⟨rfl, rfl⟩, ⟨rfl, rfl⟩, ⟨rfl, rfl⟩, trivial⟩, ⟨[], rfl⟩, rfl⟩
  refine goL ?_
  refine V_cb (fun c6 => ?_) (fun c6 => ?_)
  · replace h := cnd_t c6 h
    refine V_skip ?_
    show V _ _ _ _ _
    refine V_seq (V_block ?_)
    refine goL ?_
    refine VO_r (QR_ar) ?_
    refine goL ?_
    obtain ⟨x7, hx7, h⟩ := bnd_s h
    obtain ⟨hx70, hx7⟩ := at_s hx7
    refine VO_r (QR_ixi hx70 (gByte hx7)) ?_
    refine goL ?_
    refine VO_r (QR_cv Tryd.underlying5 Tryd.underlying3) ?_
    refine VO_r (QR_ar) ?_
    refine VO_r (QR_ar) ?_
    refine VO_r (QR_and) ?_
    refine goL ?_
    refine VO_r (QR_ar) ?_
    refine goL ?_
    exact ⟨n3, (andI (IntKind.i64.wrap ((IntKind.i64.wrap ((IntKind.i64.wrap (y1 * 131)) + (IntKind.i64.wrap (x7.toNat : Int)))) + 7)) 1073741823), (IntKind.i64.wrap (y2 + 1)), h, Nat.lt_succ_self _, ⟨rfl, ⟨⟨rfl, rfl⟩, ⟨rfl, rfl⟩, ⟨rfl, rfl⟩, trivial⟩, ⟨_, rfl⟩, rfl⟩⟩
  · replace h := cnd_f c6 h
    refine V_exit ?_
    show V _ _ _ _ _
    refine goL ?_
    refine VO_k (Q_build TBd.h TZ.h rfl (by repeat constructor)) ?_
    refine goL ?_
    refine V_ret ?_
    replace h := Option.some.inj h
    subst h
    exact R_rH [.ptr 0 0] [.box [.d (.sl 1 (eBytes code)), .d (.i .i64 0), .d (.i .i64 y1)]] ⟨rfl, rfl⟩
/-- The cursor at its start. -/
def l1NewT (code : List UInt8) : Tl1Cur := (b_l1New code 4001).getD ⟨[], 0, 0⟩
theorem l1New_l1_ok (code : List UInt8) : ∀ (n : Nat) (y1 y2 : Int), 0 ≤ y2 → y2 ≤ 4000 → (4001 - y2).toNat ≤ n → ∃ h, b_l1New_l1 code n y1 y2 = some ⟨code, 0, h⟩
  | 0, y1, y2, h0, h1, hn => by omega
  | n + 1, y1, y2, h0, h1, hn => by
    simp only [b_l1New_l1, lt_]
    cases hc : decide (y2 < (code.length : Int)) with
    | false => exact ⟨y1, rfl⟩
    | true =>
      simp only [cnd_true]
      cases hd : decide (y2 < 4000) with
      | false => exact ⟨y1, rfl⟩
      | true =>
        have h3 := of_decide_eq_true hc
        have h4 := of_decide_eq_true hd
        have hx : at? code y2 = some (code[y2.toNat]'(by omega)) := by unfold at?; rw [if_pos h0]; exact List.getElem?_eq_getElem _
        simp only [cnd_true]
        rw [bnd_eq hx, wrap_in (y2 + 1) (by omega) (by omega)]
        exact l1New_l1_ok code n _ (y2 + 1) (by omega) (by omega) (by omega)
theorem l1New_eq (code : List UInt8) : b_l1New code 4001 = some (l1NewT code) ∧ (l1NewT code).b = code ∧ (l1NewT code).i = 0 := by
  obtain ⟨h, e⟩ := l1New_l1_ok code 4001 (IntKind.i64.wrap ((28803 : Int) + (code.length : Int))) 0 (by omega) (by omega) (by omega)
  have e' : b_l1New code 4001 = some ⟨code, 0, h⟩ := e
  unfold l1NewT
  rw [e']
  exact ⟨rfl, rfl, rfl⟩

theorem t_l1New (code : List UInt8) : Go.Eng.Spec Tryd.prog 58 [.d (.sl 1 (eBytes code))] [] (fun sv Lo => sv = .ptr 0 0 ∧ Lo = [.box [.d (.sl 1 (eBytes (l1NewT code).b)), .d (.i .i64 (l1NewT code).i), .d (.i .i64 (l1NewT code).h)]]) := w_l1New code (l1New_eq code).1
def b_l1Byte (c : Tl1Cur) : Option (Int × Tl1Cur) :=
(cnd (decide (c.i < (c.b.length : Int))) (
bnd (at? c.b c.i) fun x2 =>
(some ((andI (IntKind.i64.wrap ((andI (xorI (shrI (IntKind.i64.wrap ((IntKind.i64.wrap (c.h * 6364136223846793005)) + 1442695040888963407)) 33) (shrI (IntKind.i64.wrap ((IntKind.i64.wrap (c.h * 6364136223846793005)) + 1442695040888963407)) 45)) 255) + (IntKind.i64.wrap (x2.toNat : Int)))) 255), (Tl1Cur.mk c.b (IntKind.i64.wrap (c.i + 1)) (IntKind.i64.wrap ((IntKind.i64.wrap (c.h * 6364136223846793005)) + 1442695040888963407)))))) (
(some ((andI (xorI (shrI (IntKind.i64.wrap ((IntKind.i64.wrap (c.h * 6364136223846793005)) + 1442695040888963407)) 33) (shrI (IntKind.i64.wrap ((IntKind.i64.wrap (c.h * 6364136223846793005)) + 1442695040888963407)) 45)) 255), (Tl1Cur.mk c.b c.i (IntKind.i64.wrap ((IntKind.i64.wrap (c.h * 6364136223846793005)) + 1442695040888963407)))))))
set_option maxHeartbeats 4000000 in
theorem w_l1Byte (c : Tl1Cur) {r : Int × Tl1Cur} (h : b_l1Byte c = some r) : Go.Eng.Spec Tryd.prog 106 [.ptr 0 0] [.box [.d (.sl 1 (eBytes c.b)), .d (.i .i64 c.i), .d (.i .i64 c.h)]] (fun sv Lo => sv = .d (.i .i64 r.1) ∧ Lo = [.box [.d (.sl 1 (eBytes r.2.b)), .d (.i .i64 r.2.i), .d (.i .i64 r.2.h)]]) := by
  obtain ⟨c_0, c_1, c_2⟩ := c
  unfold b_l1Byte at h
  refine Spec_intro 1 Tryd.func106 rfl (by kernel_rfl) rfl rfl fun A _ => ?_
  refine goL ?_
  refine VO_r (QR_nc) ?_
  refine goL ?_
  refine VO_r (QR_ar) ?_
  refine VO_r (QR_ar) ?_
  refine VO_r (QR_nc) ?_
  refine goL ?_
  refine VQ_r (QR_nc) ?_
  refine goL ?_
  refine VQ_r (QR_shr) ?_
  refine goL ?_
  refine VQ_r (QR_nc) ?_
  refine goL ?_
  refine VQ_r (QR_shr) ?_
  refine VQ_r (QR_xor) ?_
  refine VQ_r (QR_and) ?_
  refine goL ?_
  refine VQ_r (QR_nc) ?_
  refine goL ?_
  refine VQ_r (QR_nc) ?_
  refine goL ?_
  refine V_cb (fun c1 => ?_) (fun c1 => ?_)
  · replace h := cnd_t c1 h
    refine goL ?_
    refine VQ_r (QR_nc) ?_
    refine goL ?_
    refine VQ_r (QR_nc) ?_
    refine goL ?_
    obtain ⟨x2, hx2, h⟩ := bnd_s h
    obtain ⟨hx20, hx2⟩ := at_s hx2
    refine VQ_r (QR_ixi hx20 (gByte hx2)) ?_
    refine goL ?_
    refine VQ_r (QR_cv Tryd.underlying5 Tryd.underlying3) ?_
    refine VQ_r (QR_ar) ?_
    refine VQ_r (QR_and) ?_
    refine goL ?_
    refine VO_r (QR_nc) ?_
    refine goL ?_
    refine VO_r (QR_ar) ?_
    refine VO_r (QR_nc) ?_
    refine goL ?_
    refine V_ret ?_
    replace h := Option.some.inj h
    subst h
    exact R_rH [.d (.i .i64 (andI (IntKind.i64.wrap ((andI (xorI (shrI (IntKind.i64.wrap ((IntKind.i64.wrap (c_2 * 6364136223846793005)) + 1442695040888963407)) 33) (shrI (IntKind.i64.wrap ((IntKind.i64.wrap (c_2 * 6364136223846793005)) + 1442695040888963407)) 45)) 255) + (IntKind.i64.wrap (x2.toNat : Int)))) 255))] [.box [.d (.sl 1 (eBytes c_0)), .d (.i .i64 (IntKind.i64.wrap (c_1 + 1))), .d (.i .i64 (IntKind.i64.wrap ((IntKind.i64.wrap (c_2 * 6364136223846793005)) + 1442695040888963407)))]] ⟨rfl, rfl⟩
  · replace h := cnd_f c1 h
    refine V_skip ?_
    show V _ _ _ _ _
    refine goL ?_
    refine V_ret ?_
    replace h := Option.some.inj h
    subst h
    exact R_rH [.d (.i .i64 (andI (xorI (shrI (IntKind.i64.wrap ((IntKind.i64.wrap (c_2 * 6364136223846793005)) + 1442695040888963407)) 33) (shrI (IntKind.i64.wrap ((IntKind.i64.wrap (c_2 * 6364136223846793005)) + 1442695040888963407)) 45)) 255))] [.box [.d (.sl 1 (eBytes c_0)), .d (.i .i64 c_1), .d (.i .i64 (IntKind.i64.wrap ((IntKind.i64.wrap (c_2 * 6364136223846793005)) + 1442695040888963407)))]] ⟨rfl, rfl⟩
def b_l1Below (c : Tl1Cur) (n : Int) : Option (Int × Tl1Cur) :=
(cnd (decide (n ≤ 0)) (
(some (0, c))) (
(cnd (decide (n ≤ 256)) (
bnd (b_l1Byte c) fun x3 =>
gd (n ≠ 0) (
(some ((Int.tmod x3.1 n), x3.2)))) (
bnd (b_l1Byte c) fun x5 =>
bnd (b_l1Byte x5.2) fun x6 =>
bnd (b_l1Byte x6.2) fun x7 =>
bnd (b_l1Byte x7.2) fun x8 =>
gd (n ≠ 0) (
(some ((Int.tmod (IntKind.i64.wrap ((IntKind.i64.wrap ((IntKind.i64.wrap ((IntKind.i64.wrap (x5.1 * 16777216)) + (IntKind.i64.wrap (x6.1 * 65536)))) + (IntKind.i64.wrap (x7.1 * 256)))) + x8.1)) n), x8.2)))))))
set_option maxHeartbeats 4000000 in
theorem w_l1Below (c : Tl1Cur) (n : Int) {r : Int × Tl1Cur} (h : b_l1Below c n = some r) : Go.Eng.Spec Tryd.prog 90 [.ptr 0 0, .d (.i .i64 n)] [.box [.d (.sl 1 (eBytes c.b)), .d (.i .i64 c.i), .d (.i .i64 c.h)]] (fun sv Lo => sv = .d (.i .i64 r.1) ∧ Lo = [.box [.d (.sl 1 (eBytes r.2.b)), .d (.i .i64 r.2.i), .d (.i .i64 r.2.h)]]) := by
  obtain ⟨c_0, c_1, c_2⟩ := c
  unfold b_l1Below at h
  refine Spec_intro 1 Tryd.func90 rfl (by kernel_rfl) rfl rfl fun A _ => ?_
  refine goL ?_
  refine V_cb (fun c1 => ?_) (fun c1 => ?_)
  · replace h := cnd_t c1 h
    refine goL ?_
    refine V_ret ?_
    replace h := Option.some.inj h
    subst h
    exact R_rH [.d (.i .i64 0)] [.box [.d (.sl 1 (eBytes c_0)), .d (.i .i64 c_1), .d (.i .i64 c_2)]] ⟨rfl, rfl⟩
  · replace h := cnd_f c1 h
    refine V_skip ?_
    show V _ _ _ _ _
    refine goL ?_
    refine V_cb (fun c2 => ?_) (fun c2 => ?_)
    · replace h := cnd_t c2 h
      refine goL ?_
      obtain ⟨x3, hx3, h⟩ := bnd_s h
      obtain ⟨x3_0, ⟨x3_1_0, x3_1_1, x3_1_2⟩⟩ := x3
      refine VO_cG [0] (w_l1Byte (Tl1Cur.mk c_0 c_1 c_2) hx3) ?_
      rintro _ _ ⟨rfl, rfl⟩
      show VO _ _ _ _ ⟨(_, .d (.i .i64 x3_0)) :: _, [.box [.d (.sl 1 (eBytes x3_1_0)), .d (.i .i64 x3_1_1), .d (.i .i64 x3_1_2)]], _⟩ _
      refine goL ?_
      obtain ⟨g4, h⟩ := gd_s h
      refine VO_r (QR_rem g4) ?_
      refine goL ?_
      refine V_ret ?_
      replace h := Option.some.inj h
      subst h
      exact R_rH [.d (.i .i64 (Int.tmod x3_0 n))] [.box [.d (.sl 1 (eBytes x3_1_0)), .d (.i .i64 x3_1_1), .d (.i .i64 x3_1_2)]] ⟨rfl, rfl⟩
    · replace h := cnd_f c2 h
      refine V_skip ?_
      show V _ _ _ _ _
      refine goL ?_
      obtain ⟨x5, hx5, h⟩ := bnd_s h
      obtain ⟨x5_0, ⟨x5_1_0, x5_1_1, x5_1_2⟩⟩ := x5
      refine VO_cG [0] (w_l1Byte (Tl1Cur.mk c_0 c_1 c_2) hx5) ?_
      rintro _ _ ⟨rfl, rfl⟩
      show VO _ _ _ _ ⟨(_, .d (.i .i64 x5_0)) :: _, [.box [.d (.sl 1 (eBytes x5_1_0)), .d (.i .i64 x5_1_1), .d (.i .i64 x5_1_2)]], _⟩ _
      refine goL ?_
      obtain ⟨x6, hx6, h⟩ := bnd_s h
      obtain ⟨x6_0, ⟨x6_1_0, x6_1_1, x6_1_2⟩⟩ := x6
      refine VO_cG [0] (w_l1Byte (Tl1Cur.mk x5_1_0 x5_1_1 x5_1_2) hx6) ?_
      rintro _ _ ⟨rfl, rfl⟩
      show VO _ _ _ _ ⟨(_, .d (.i .i64 x6_0)) :: _, [.box [.d (.sl 1 (eBytes x6_1_0)), .d (.i .i64 x6_1_1), .d (.i .i64 x6_1_2)]], _⟩ _
      refine goL ?_
      obtain ⟨x7, hx7, h⟩ := bnd_s h
      obtain ⟨x7_0, ⟨x7_1_0, x7_1_1, x7_1_2⟩⟩ := x7
      refine VO_cG [0] (w_l1Byte (Tl1Cur.mk x6_1_0 x6_1_1 x6_1_2) hx7) ?_
      rintro _ _ ⟨rfl, rfl⟩
      show VO _ _ _ _ ⟨(_, .d (.i .i64 x7_0)) :: _, [.box [.d (.sl 1 (eBytes x7_1_0)), .d (.i .i64 x7_1_1), .d (.i .i64 x7_1_2)]], _⟩ _
      refine goL ?_
      obtain ⟨x8, hx8, h⟩ := bnd_s h
      obtain ⟨x8_0, ⟨x8_1_0, x8_1_1, x8_1_2⟩⟩ := x8
      refine VO_cG [0] (w_l1Byte (Tl1Cur.mk x7_1_0 x7_1_1 x7_1_2) hx8) ?_
      rintro _ _ ⟨rfl, rfl⟩
      show VO _ _ _ _ ⟨(_, .d (.i .i64 x8_0)) :: _, [.box [.d (.sl 1 (eBytes x8_1_0)), .d (.i .i64 x8_1_1), .d (.i .i64 x8_1_2)]], _⟩ _
      refine goL ?_
      refine VO_r (QR_ar) ?_
      refine goL ?_
      refine VO_r (QR_ar) ?_
      refine VO_r (QR_ar) ?_
      refine goL ?_
      refine VO_r (QR_ar) ?_
      refine VO_r (QR_ar) ?_
      refine goL ?_
      refine VO_r (QR_ar) ?_
      refine goL ?_
      obtain ⟨g9, h⟩ := gd_s h
      refine VO_r (QR_rem g9) ?_
      refine goL ?_
      refine V_ret ?_
      replace h := Option.some.inj h
      subst h
      exact R_rH [.d (.i .i64 (Int.tmod (IntKind.i64.wrap ((IntKind.i64.wrap ((IntKind.i64.wrap ((IntKind.i64.wrap (x5_0 * 16777216)) + (IntKind.i64.wrap (x6_0 * 65536)))) + (IntKind.i64.wrap (x7_0 * 256)))) + x8_0)) n))] [.box [.d (.sl 1 (eBytes x8_1_0)), .d (.i .i64 x8_1_1), .d (.i .i64 x8_1_2)]] ⟨rfl, rfl⟩
def b_l1Pick (c : Tl1Cur) (l : List (List UInt8)) : Option (List UInt8 × Tl1Cur) :=
bnd (b_l1Below c (l.length : Int)) fun x1 =>
bnd (at? l x1.1) fun x2 =>
(some (x2, x1.2))
set_option maxHeartbeats 4000000 in
theorem w_l1Pick (c : Tl1Cur) (l : List (List UInt8)) {r : List UInt8 × Tl1Cur} (h : b_l1Pick c l = some r) : Go.Eng.Spec Tryd.prog 59 [.ptr 0 0, .d (.sl 1 (eStrs l))] [.box [.d (.sl 1 (eBytes c.b)), .d (.i .i64 c.i), .d (.i .i64 c.h)]] (fun sv Lo => sv = .d (.s r.1) ∧ Lo = [.box [.d (.sl 1 (eBytes r.2.b)), .d (.i .i64 r.2.i), .d (.i .i64 r.2.h)]]) := by
  obtain ⟨c_0, c_1, c_2⟩ := c
  unfold b_l1Pick at h
  refine Spec_intro 1 Tryd.func59 rfl (by kernel_rfl) rfl rfl fun A _ => ?_
  refine goL ?_
  obtain ⟨x1, hx1, h⟩ := bnd_s h
  obtain ⟨x1_0, ⟨x1_1_0, x1_1_1, x1_1_2⟩⟩ := x1
  refine VO_cG [0] (w_l1Below (Tl1Cur.mk c_0 c_1 c_2) (l.length : Int) hx1) ?_
  rintro _ _ ⟨rfl, rfl⟩
  show VO _ _ _ _ ⟨(_, .d (.i .i64 x1_0)) :: _, [.box [.d (.sl 1 (eBytes x1_1_0)), .d (.i .i64 x1_1_1), .d (.i .i64 x1_1_2)]], _⟩ _
  obtain ⟨x2, hx2, h⟩ := bnd_s h
  obtain ⟨hx20, hx2⟩ := at_s hx2
  refine VO_r (QR_ixi hx20 (gStr hx2)) ?_
  refine goL ?_
  refine V_ret ?_
  replace h := Option.some.inj h
  subst h
  exact R_rH [.d (.s x2)] [.box [.d (.sl 1 (eBytes x1_1_0)), .d (.i .i64 x1_1_1), .d (.i .i64 x1_1_2)]] ⟨rfl, rfl⟩
def b_l1PickInt (c : Tl1Cur) (l : List Int) : Option (Int × Tl1Cur) :=
bnd (b_l1Below c (l.length : Int)) fun x1 =>
bnd (at? l x1.1) fun x2 =>
(some (x2, x1.2))
set_option maxHeartbeats 4000000 in
theorem w_l1PickInt (c : Tl1Cur) (l : List Int) {r : Int × Tl1Cur} (h : b_l1PickInt c l = some r) : Go.Eng.Spec Tryd.prog 91 [.ptr 0 0, .d (.sl 1 (eInts l))] [.box [.d (.sl 1 (eBytes c.b)), .d (.i .i64 c.i), .d (.i .i64 c.h)]] (fun sv Lo => sv = .d (.i .i64 r.1) ∧ Lo = [.box [.d (.sl 1 (eBytes r.2.b)), .d (.i .i64 r.2.i), .d (.i .i64 r.2.h)]]) := by
  obtain ⟨c_0, c_1, c_2⟩ := c
  unfold b_l1PickInt at h
  refine Spec_intro 1 Tryd.func91 rfl (by kernel_rfl) rfl rfl fun A _ => ?_
  refine goL ?_
  obtain ⟨x1, hx1, h⟩ := bnd_s h
  obtain ⟨x1_0, ⟨x1_1_0, x1_1_1, x1_1_2⟩⟩ := x1
  refine VO_cG [0] (w_l1Below (Tl1Cur.mk c_0 c_1 c_2) (l.length : Int) hx1) ?_
  rintro _ _ ⟨rfl, rfl⟩
  show VO _ _ _ _ ⟨(_, .d (.i .i64 x1_0)) :: _, [.box [.d (.sl 1 (eBytes x1_1_0)), .d (.i .i64 x1_1_1), .d (.i .i64 x1_1_2)]], _⟩ _
  obtain ⟨x2, hx2, h⟩ := bnd_s h
  obtain ⟨hx20, hx2⟩ := at_s hx2
  refine VO_r (QR_ixi hx20 (gInt hx2)) ?_
  refine goL ?_
  refine V_ret ?_
  replace h := Option.some.inj h
  subst h
  exact R_rH [.d (.i .i64 x2)] [.box [.d (.sl 1 (eBytes x1_1_0)), .d (.i .i64 x1_1_1), .d (.i .i64 x1_1_2)]] ⟨rfl, rfl⟩
end Go.Proofs.YthojhakapbfbiaaDoor

set_option linter.unusedVariables false
set_option linter.unusedSimpArgs false
set_option linter.unusedSectionVars false
namespace Go.Proofs.YthojhakapbfbiaaDoor
open Go Go.Eng
attribute [local irreducible] V VO VQ VY Quiet QR SpecP SpecO MSpec Rng PostP PostO PostG
def b_l37Draw (rec_l37Draw : Tl1Cur → Int → Option (TValue × Tl1Cur)) (c : Tl1Cur) (deep : Int) : Option (TValue × Tl1Cur) :=
bnd (b_l1Below c 6) fun x1 =>
(cnd (x1.1 == 0) (
bnd (b_l1Below x1.2 3) fun x3 =>
(some ((TValue.mk 2 x3.1 [] (TDictionary.mk 0 (TInstanceRef.mk 0 0) [] []) []), x3.2))) (
(cnd (x1.1 == 1) (
(cnd (x1.1 == 1) (
(cnd (decide (deep > 0)) (
bnd (rec_l37Draw x1.2 (IntKind.i64.wrap (deep - 1))) fun x7 =>
bnd (rec_l37Draw x7.2 (IntKind.i64.wrap (deep - 1))) fun x8 =>
(some ((TValue.mk 3 0 [99, 111, 110, 115] (TDictionary.mk 0 (TInstanceRef.mk 0 0) [] []) [x7.1, x8.1]), x8.2))) (
bnd (b_l1PickInt x1.2 [0, 1, (-5), 7, 9223372036854775807, (-9223372036854775808)]) fun x9 =>
(some ((TValue.mk 1 x9.1 [] (TDictionary.mk 0 (TInstanceRef.mk 0 0) [] []) []), x9.2))))) (
(cnd (x1.1 == 3) (
(some ((TValue.mk 3 0 [110, 105, 108] (TDictionary.mk 0 (TInstanceRef.mk 0 0) [] []) []), x1.2))) (
(cnd (x1.1 == 4) (
(cnd (decide (deep > 0)) (
bnd (rec_l37Draw x1.2 (IntKind.i64.wrap (deep - 1))) fun x13 =>
(some ((TValue.mk 4 0 [115, 104, 111, 119] (TDictionary.mk 0 (TInstanceRef.mk 0 0) [] []) [x13.1]), x13.2))) (
bnd (b_l1PickInt x1.2 [0, 1, (-5), 7, 9223372036854775807, (-9223372036854775808)]) fun x14 =>
(some ((TValue.mk 1 x14.1 [] (TDictionary.mk 0 (TInstanceRef.mk 0 0) [] []) []), x14.2))))) (
bnd (b_l1PickInt x1.2 [0, 1, (-5), 7, 9223372036854775807, (-9223372036854775808)]) fun x15 =>
(some ((TValue.mk 1 x15.1 [] (TDictionary.mk 0 (TInstanceRef.mk 0 0) [] []) []), x15.2))))))))) (
(cnd (x1.1 == 2) (
(cnd (decide (deep > 0)) (
bnd (rec_l37Draw x1.2 (IntKind.i64.wrap (deep - 1))) fun x18 =>
bnd (rec_l37Draw x18.2 (IntKind.i64.wrap (deep - 1))) fun x19 =>
(some ((TValue.mk 3 0 [99, 111, 110, 115] (TDictionary.mk 0 (TInstanceRef.mk 0 0) [] []) [x18.1, x19.1]), x19.2))) (
bnd (b_l1PickInt x1.2 [0, 1, (-5), 7, 9223372036854775807, (-9223372036854775808)]) fun x20 =>
(some ((TValue.mk 1 x20.1 [] (TDictionary.mk 0 (TInstanceRef.mk 0 0) [] []) []), x20.2))))) (
(cnd (x1.1 == 3) (
(some ((TValue.mk 3 0 [110, 105, 108] (TDictionary.mk 0 (TInstanceRef.mk 0 0) [] []) []), x1.2))) (
(cnd (x1.1 == 4) (
(cnd (decide (deep > 0)) (
bnd (rec_l37Draw x1.2 (IntKind.i64.wrap (deep - 1))) fun x24 =>
(some ((TValue.mk 4 0 [115, 104, 111, 119] (TDictionary.mk 0 (TInstanceRef.mk 0 0) [] []) [x24.1]), x24.2))) (
bnd (b_l1PickInt x1.2 [0, 1, (-5), 7, 9223372036854775807, (-9223372036854775808)]) fun x25 =>
(some ((TValue.mk 1 x25.1 [] (TDictionary.mk 0 (TInstanceRef.mk 0 0) [] []) []), x25.2))))) (
bnd (b_l1PickInt x1.2 [0, 1, (-5), 7, 9223372036854775807, (-9223372036854775808)]) fun x26 =>
(some ((TValue.mk 1 x26.1 [] (TDictionary.mk 0 (TInstanceRef.mk 0 0) [] []) []), x26.2))))))))))))
set_option maxHeartbeats 4000000 in
theorem w_l37Draw {rec_l37Draw : Tl1Cur → Int → Option (TValue × Tl1Cur)} (hrec_l37Draw : ∀ (x0 : Tl1Cur) (x1 : Int) {r : TValue × Tl1Cur}, rec_l37Draw x0 x1 = some r → Go.Eng.Spec Tryd.prog 60 [.ptr 0 0, .d (.i .i64 x1)] [.box [.d (.sl 1 (eBytes x0.b)), .d (.i .i64 x0.i), .d (.i .i64 x0.h)]] (fun sv Lo => sv = .d (eValue r.1) ∧ Lo = [.box [.d (.sl 1 (eBytes r.2.b)), .d (.i .i64 r.2.i), .d (.i .i64 r.2.h)]])) (c : Tl1Cur) (deep : Int) {r : TValue × Tl1Cur} (h : b_l37Draw rec_l37Draw c deep = some r) : Go.Eng.Spec Tryd.prog 60 [.ptr 0 0, .d (.i .i64 deep)] [.box [.d (.sl 1 (eBytes c.b)), .d (.i .i64 c.i), .d (.i .i64 c.h)]] (fun sv Lo => sv = .d (eValue r.1) ∧ Lo = [.box [.d (.sl 1 (eBytes r.2.b)), .d (.i .i64 r.2.i), .d (.i .i64 r.2.h)]]) := by
  obtain ⟨c_0, c_1, c_2⟩ := c
  unfold b_l37Draw at h
  refine Spec_intro 1 Tryd.func60 rfl (by kernel_rfl) rfl rfl fun A _ => ?_
  refine goL ?_
  obtain ⟨x1, hx1, h⟩ := bnd_s h
  obtain ⟨x1_0, ⟨x1_1_0, x1_1_1, x1_1_2⟩⟩ := x1
  refine VO_cG [0] (w_l1Below (Tl1Cur.mk c_0 c_1 c_2) 6 hx1) ?_
  rintro _ _ ⟨rfl, rfl⟩
  show VO _ _ _ _ ⟨(_, .d (.i .i64 x1_0)) :: _, [.box [.d (.sl 1 (eBytes x1_1_0)), .d (.i .i64 x1_1_1), .d (.i .i64 x1_1_2)], .box [.d (.i .i64 0), .d (.i .i64 0), .d (.s []), .d (.i .i64 0), .d (.i .i64 0), .d (.i .i64 0), .nilsl, .nilsl, .nilsl]], _⟩ _
  refine goL ?_
  refine V_block ?_
  refine goL ?_
  refine V_cb (fun c2 => ?_) (fun c2 => ?_)
  · replace h := cnd_t c2 h
    refine goL ?_
    obtain ⟨x3, hx3, h⟩ := bnd_s h
    obtain ⟨x3_0, ⟨x3_1_0, x3_1_1, x3_1_2⟩⟩ := x3
    refine VO_cG [0] (w_l1Below (Tl1Cur.mk x1_1_0 x1_1_1 x1_1_2) 3 hx3) ?_
    rintro _ _ ⟨rfl, rfl⟩
    show VO _ _ _ _ ⟨(_, .d (.i .i64 x3_0)) :: _, [.box [.d (.sl 1 (eBytes x3_1_0)), .d (.i .i64 x3_1_1), .d (.i .i64 x3_1_2)], .box [.d (.i .i64 0), .d (.i .i64 0), .d (.s []), .d (.i .i64 0), .d (.i .i64 0), .d (.i .i64 0), .nilsl, .nilsl, .nilsl]], _⟩ _
    refine VO_k (Q_build TBd.h TZ.h rfl (by repeat constructor)) ?_
    refine goL ?_
    refine V_ret ?_
    replace h := Option.some.inj h
    subst h
    exact R_rH [.d (.st [.i .i64 2, .i .i64 x3_0, .s [], .st [.i .i64 0, .st [.i .i64 0, .i .i64 0], .sl 1 [], .sl 5 []], .sl 9 []])] [.box [.d (.sl 1 (eBytes x3_1_0)), .d (.i .i64 x3_1_1), .d (.i .i64 x3_1_2)]] ⟨rfl, rfl⟩
  · replace h := cnd_f c2 h
    refine goL ?_
    refine V_cb (fun c4 => ?_) (fun c4 => ?_)
    · replace h := cnd_t c4 h
      refine V_skip ?_
      show V _ _ _ _ _
      refine V_cb (fun c5 => ?_) (fun c5 => ?_)
      · replace h := cnd_t c5 h
        refine goL ?_
        refine V_cb (fun c6 => ?_) (fun c6 => ?_)
        · replace h := cnd_t c6 h
          refine goL ?_
          refine VO_r (QR_ar) ?_
          obtain ⟨x7, hx7, h⟩ := bnd_s h
          obtain ⟨⟨x7_0_0, x7_0_1, x7_0_2, ⟨x7_0_3_0, ⟨x7_0_3_1_0, x7_0_3_1_1⟩, x7_0_3_2, x7_0_3_3⟩, x7_0_4⟩, ⟨x7_1_0, x7_1_1, x7_1_2⟩⟩ := x7
          refine VO_cG [0] (hrec_l37Draw (Tl1Cur.mk x1_1_0 x1_1_1 x1_1_2) (IntKind.i64.wrap (deep - 1)) hx7) ?_
          rintro _ _ ⟨rfl, rfl⟩
          show VO _ _ _ _ ⟨(_, .d (.st [.i .i64 x7_0_0, .i .i64 x7_0_1, .s x7_0_2, .st [.i .i64 x7_0_3_0, .st [.i .i64 x7_0_3_1_0, .i .i64 x7_0_3_1_1], .sl 1 (eInts x7_0_3_2), .sl 5 (eDictionarys x7_0_3_3)], .sl 9 (eValues x7_0_4)])) :: _, [.box [.d (.sl 1 (eBytes x7_1_0)), .d (.i .i64 x7_1_1), .d (.i .i64 x7_1_2)], .box [.d (.i .i64 0), .d (.i .i64 0), .d (.s []), .d (.i .i64 0), .d (.i .i64 0), .d (.i .i64 0), .nilsl, .nilsl, .nilsl]], _⟩ _
          refine goL ?_
          refine VO_r (QR_ar) ?_
          obtain ⟨x8, hx8, h⟩ := bnd_s h
          obtain ⟨⟨x8_0_0, x8_0_1, x8_0_2, ⟨x8_0_3_0, ⟨x8_0_3_1_0, x8_0_3_1_1⟩, x8_0_3_2, x8_0_3_3⟩, x8_0_4⟩, ⟨x8_1_0, x8_1_1, x8_1_2⟩⟩ := x8
          refine VO_cG [0] (hrec_l37Draw (Tl1Cur.mk x7_1_0 x7_1_1 x7_1_2) (IntKind.i64.wrap (deep - 1)) hx8) ?_
          rintro _ _ ⟨rfl, rfl⟩
          show VO _ _ _ _ ⟨(_, .d (.st [.i .i64 x8_0_0, .i .i64 x8_0_1, .s x8_0_2, .st [.i .i64 x8_0_3_0, .st [.i .i64 x8_0_3_1_0, .i .i64 x8_0_3_1_1], .sl 1 (eInts x8_0_3_2), .sl 5 (eDictionarys x8_0_3_3)], .sl 9 (eValues x8_0_4)])) :: _, [.box [.d (.sl 1 (eBytes x8_1_0)), .d (.i .i64 x8_1_1), .d (.i .i64 x8_1_2)], .box [.d (.i .i64 0), .d (.i .i64 0), .d (.s []), .d (.i .i64 0), .d (.i .i64 0), .d (.i .i64 0), .nilsl, .nilsl, .nilsl]], _⟩ _
          refine VO_lb (us := eValues [(TValue.mk x7_0_0 x7_0_1 x7_0_2 (TDictionary.mk x7_0_3_0 (TInstanceRef.mk x7_0_3_1_0 x7_0_3_1_1) x7_0_3_2 x7_0_3_3) x7_0_4), (TValue.mk x8_0_0 x8_0_1 x8_0_2 (TDictionary.mk x8_0_3_0 (TInstanceRef.mk x8_0_3_1_0 x8_0_3_1_1) x8_0_3_2 x8_0_3_3) x8_0_4)]) ?_
          refine VO_k (Q_build TBd.h TZ.h rfl (by repeat constructor)) ?_
          refine goL ?_
          refine V_freeze 2 rfl rfl ?_
          refine V_ret ?_
          replace h := Option.some.inj h
          subst h
          exact R_rH [.d (.st [.i .i64 3, .i .i64 0, .s [99, 111, 110, 115], .st [.i .i64 0, .st [.i .i64 0, .i .i64 0], .sl 1 [], .sl 5 []], .sl 9 (eValues [(TValue.mk x7_0_0 x7_0_1 x7_0_2 (TDictionary.mk x7_0_3_0 (TInstanceRef.mk x7_0_3_1_0 x7_0_3_1_1) x7_0_3_2 x7_0_3_3) x7_0_4), (TValue.mk x8_0_0 x8_0_1 x8_0_2 (TDictionary.mk x8_0_3_0 (TInstanceRef.mk x8_0_3_1_0 x8_0_3_1_1) x8_0_3_2 x8_0_3_3) x8_0_4)])])] [.box [.d (.sl 1 (eBytes x8_1_0)), .d (.i .i64 x8_1_1), .d (.i .i64 x8_1_2)]] ⟨rfl, rfl⟩
        · replace h := cnd_f c6 h
          refine V_skip ?_
          show V _ _ _ _ _
          refine goL ?_
          refine VO_lb (us := eInts [0, 1, (-5), 7, 9223372036854775807, (-9223372036854775808)]) ?_
          refine VO_freeze 2 rfl rfl ?_
          obtain ⟨x9, hx9, h⟩ := bnd_s h
          obtain ⟨x9_0, ⟨x9_1_0, x9_1_1, x9_1_2⟩⟩ := x9
          refine VO_cG [0] (w_l1PickInt (Tl1Cur.mk x1_1_0 x1_1_1 x1_1_2) [0, 1, (-5), 7, 9223372036854775807, (-9223372036854775808)] hx9) ?_
          rintro _ _ ⟨rfl, rfl⟩
          show VO _ _ _ _ ⟨(_, .d (.i .i64 x9_0)) :: _, [.box [.d (.sl 1 (eBytes x9_1_0)), .d (.i .i64 x9_1_1), .d (.i .i64 x9_1_2)], .box [.d (.i .i64 0), .d (.i .i64 0), .d (.s []), .d (.i .i64 0), .d (.i .i64 0), .d (.i .i64 0), .nilsl, .nilsl, .nilsl], .frz 3 1 0 (eInts [0, 1, (-5), 7, 9223372036854775807, (-9223372036854775808)])], _⟩ _
          refine VO_k (Q_build TBd.h TZ.h rfl (by repeat constructor)) ?_
          refine goL ?_
          refine V_ret ?_
          replace h := Option.some.inj h
          subst h
          exact R_rH [.d (.st [.i .i64 1, .i .i64 x9_0, .s [], .st [.i .i64 0, .st [.i .i64 0, .i .i64 0], .sl 1 [], .sl 5 []], .sl 9 []])] [.box [.d (.sl 1 (eBytes x9_1_0)), .d (.i .i64 x9_1_1), .d (.i .i64 x9_1_2)]] ⟨rfl, rfl⟩
      · replace h := cnd_f c5 h
        refine goL ?_
        refine V_cb (fun c10 => ?_) (fun c10 => ?_)
        · replace h := cnd_t c10 h
          refine goL ?_
          refine VO_k (Q_build TBd.h TZ.h rfl (by repeat constructor)) ?_
          refine goL ?_
          refine V_ret ?_
          replace h := Option.some.inj h
          subst h
          exact R_rH [.d (.st [.i .i64 3, .i .i64 0, .s [110, 105, 108], .st [.i .i64 0, .st [.i .i64 0, .i .i64 0], .sl 1 [], .sl 5 []], .sl 9 []])] [.box [.d (.sl 1 (eBytes x1_1_0)), .d (.i .i64 x1_1_1), .d (.i .i64 x1_1_2)]] ⟨rfl, rfl⟩
        · replace h := cnd_f c10 h
          refine goL ?_
          refine V_cb (fun c11 => ?_) (fun c11 => ?_)
          · replace h := cnd_t c11 h
            refine goL ?_
            refine V_cb (fun c12 => ?_) (fun c12 => ?_)
            · replace h := cnd_t c12 h
              refine goL ?_
              refine VO_r (QR_ar) ?_
              obtain ⟨x13, hx13, h⟩ := bnd_s h
              obtain ⟨⟨x13_0_0, x13_0_1, x13_0_2, ⟨x13_0_3_0, ⟨x13_0_3_1_0, x13_0_3_1_1⟩, x13_0_3_2, x13_0_3_3⟩, x13_0_4⟩, ⟨x13_1_0, x13_1_1, x13_1_2⟩⟩ := x13
              refine VO_cG [0] (hrec_l37Draw (Tl1Cur.mk x1_1_0 x1_1_1 x1_1_2) (IntKind.i64.wrap (deep - 1)) hx13) ?_
              rintro _ _ ⟨rfl, rfl⟩
              show VO _ _ _ _ ⟨(_, .d (.st [.i .i64 x13_0_0, .i .i64 x13_0_1, .s x13_0_2, .st [.i .i64 x13_0_3_0, .st [.i .i64 x13_0_3_1_0, .i .i64 x13_0_3_1_1], .sl 1 (eInts x13_0_3_2), .sl 5 (eDictionarys x13_0_3_3)], .sl 9 (eValues x13_0_4)])) :: _, [.box [.d (.sl 1 (eBytes x13_1_0)), .d (.i .i64 x13_1_1), .d (.i .i64 x13_1_2)], .box [.d (.i .i64 0), .d (.i .i64 0), .d (.s []), .d (.i .i64 0), .d (.i .i64 0), .d (.i .i64 0), .nilsl, .nilsl, .nilsl]], _⟩ _
              refine VO_la1 (u := (.st [.i .i64 x13_0_0, .i .i64 x13_0_1, .s x13_0_2, .st [.i .i64 x13_0_3_0, .st [.i .i64 x13_0_3_1_0, .i .i64 x13_0_3_1_1], .sl 1 (eInts x13_0_3_2), .sl 5 (eDictionarys x13_0_3_3)], .sl 9 (eValues x13_0_4)])) ?_
              refine VO_k (Q_build TBd.h TZ.h rfl (by repeat constructor)) ?_
              refine goL ?_
              refine V_freeze 2 rfl rfl ?_
              refine V_ret ?_
              replace h := Option.some.inj h
              subst h
              exact R_rH [.d (.st [.i .i64 4, .i .i64 0, .s [115, 104, 111, 119], .st [.i .i64 0, .st [.i .i64 0, .i .i64 0], .sl 1 [], .sl 5 []], .sl 9 (eValues [(TValue.mk x13_0_0 x13_0_1 x13_0_2 (TDictionary.mk x13_0_3_0 (TInstanceRef.mk x13_0_3_1_0 x13_0_3_1_1) x13_0_3_2 x13_0_3_3) x13_0_4)])])] [.box [.d (.sl 1 (eBytes x13_1_0)), .d (.i .i64 x13_1_1), .d (.i .i64 x13_1_2)]] ⟨rfl, rfl⟩
            · replace h := cnd_f c12 h
              refine V_skip ?_
              show V _ _ _ _ _
              refine goL ?_
              refine VO_lb (us := eInts [0, 1, (-5), 7, 9223372036854775807, (-9223372036854775808)]) ?_
              refine VO_freeze 2 rfl rfl ?_
              obtain ⟨x14, hx14, h⟩ := bnd_s h
              obtain ⟨x14_0, ⟨x14_1_0, x14_1_1, x14_1_2⟩⟩ := x14
              refine VO_cG [0] (w_l1PickInt (Tl1Cur.mk x1_1_0 x1_1_1 x1_1_2) [0, 1, (-5), 7, 9223372036854775807, (-9223372036854775808)] hx14) ?_
              rintro _ _ ⟨rfl, rfl⟩
              show VO _ _ _ _ ⟨(_, .d (.i .i64 x14_0)) :: _, [.box [.d (.sl 1 (eBytes x14_1_0)), .d (.i .i64 x14_1_1), .d (.i .i64 x14_1_2)], .box [.d (.i .i64 0), .d (.i .i64 0), .d (.s []), .d (.i .i64 0), .d (.i .i64 0), .d (.i .i64 0), .nilsl, .nilsl, .nilsl], .frz 3 1 0 (eInts [0, 1, (-5), 7, 9223372036854775807, (-9223372036854775808)])], _⟩ _
              refine VO_k (Q_build TBd.h TZ.h rfl (by repeat constructor)) ?_
              refine goL ?_
              refine V_ret ?_
              replace h := Option.some.inj h
              subst h
              exact R_rH [.d (.st [.i .i64 1, .i .i64 x14_0, .s [], .st [.i .i64 0, .st [.i .i64 0, .i .i64 0], .sl 1 [], .sl 5 []], .sl 9 []])] [.box [.d (.sl 1 (eBytes x14_1_0)), .d (.i .i64 x14_1_1), .d (.i .i64 x14_1_2)]] ⟨rfl, rfl⟩
          · replace h := cnd_f c11 h
            refine V_skip ?_
            show V _ _ _ _ _
            refine goL ?_
            refine VO_lb (us := eInts [0, 1, (-5), 7, 9223372036854775807, (-9223372036854775808)]) ?_
            refine VO_freeze 2 rfl rfl ?_
            obtain ⟨x15, hx15, h⟩ := bnd_s h
            obtain ⟨x15_0, ⟨x15_1_0, x15_1_1, x15_1_2⟩⟩ := x15
            refine VO_cG [0] (w_l1PickInt (Tl1Cur.mk x1_1_0 x1_1_1 x1_1_2) [0, 1, (-5), 7, 9223372036854775807, (-9223372036854775808)] hx15) ?_
            rintro _ _ ⟨rfl, rfl⟩
            show VO _ _ _ _ ⟨(_, .d (.i .i64 x15_0)) :: _, [.box [.d (.sl 1 (eBytes x15_1_0)), .d (.i .i64 x15_1_1), .d (.i .i64 x15_1_2)], .box [.d (.i .i64 0), .d (.i .i64 0), .d (.s []), .d (.i .i64 0), .d (.i .i64 0), .d (.i .i64 0), .nilsl, .nilsl, .nilsl], .frz 3 1 0 (eInts [0, 1, (-5), 7, 9223372036854775807, (-9223372036854775808)])], _⟩ _
            refine VO_k (Q_build TBd.h TZ.h rfl (by repeat constructor)) ?_
            refine goL ?_
            refine V_ret ?_
            replace h := Option.some.inj h
            subst h
            exact R_rH [.d (.st [.i .i64 1, .i .i64 x15_0, .s [], .st [.i .i64 0, .st [.i .i64 0, .i .i64 0], .sl 1 [], .sl 5 []], .sl 9 []])] [.box [.d (.sl 1 (eBytes x15_1_0)), .d (.i .i64 x15_1_1), .d (.i .i64 x15_1_2)]] ⟨rfl, rfl⟩
    · replace h := cnd_f c4 h
      refine goL ?_
      refine V_cb (fun c16 => ?_) (fun c16 => ?_)
      · replace h := cnd_t c16 h
        refine goL ?_
        refine V_cb (fun c17 => ?_) (fun c17 => ?_)
        · replace h := cnd_t c17 h
          refine goL ?_
          refine VO_r (QR_ar) ?_
          obtain ⟨x18, hx18, h⟩ := bnd_s h
          obtain ⟨⟨x18_0_0, x18_0_1, x18_0_2, ⟨x18_0_3_0, ⟨x18_0_3_1_0, x18_0_3_1_1⟩, x18_0_3_2, x18_0_3_3⟩, x18_0_4⟩, ⟨x18_1_0, x18_1_1, x18_1_2⟩⟩ := x18
          refine VO_cG [0] (hrec_l37Draw (Tl1Cur.mk x1_1_0 x1_1_1 x1_1_2) (IntKind.i64.wrap (deep - 1)) hx18) ?_
          rintro _ _ ⟨rfl, rfl⟩
          show VO _ _ _ _ ⟨(_, .d (.st [.i .i64 x18_0_0, .i .i64 x18_0_1, .s x18_0_2, .st [.i .i64 x18_0_3_0, .st [.i .i64 x18_0_3_1_0, .i .i64 x18_0_3_1_1], .sl 1 (eInts x18_0_3_2), .sl 5 (eDictionarys x18_0_3_3)], .sl 9 (eValues x18_0_4)])) :: _, [.box [.d (.sl 1 (eBytes x18_1_0)), .d (.i .i64 x18_1_1), .d (.i .i64 x18_1_2)], .box [.d (.i .i64 0), .d (.i .i64 0), .d (.s []), .d (.i .i64 0), .d (.i .i64 0), .d (.i .i64 0), .nilsl, .nilsl, .nilsl]], _⟩ _
          refine goL ?_
          refine VO_r (QR_ar) ?_
          obtain ⟨x19, hx19, h⟩ := bnd_s h
          obtain ⟨⟨x19_0_0, x19_0_1, x19_0_2, ⟨x19_0_3_0, ⟨x19_0_3_1_0, x19_0_3_1_1⟩, x19_0_3_2, x19_0_3_3⟩, x19_0_4⟩, ⟨x19_1_0, x19_1_1, x19_1_2⟩⟩ := x19
          refine VO_cG [0] (hrec_l37Draw (Tl1Cur.mk x18_1_0 x18_1_1 x18_1_2) (IntKind.i64.wrap (deep - 1)) hx19) ?_
          rintro _ _ ⟨rfl, rfl⟩
          show VO _ _ _ _ ⟨(_, .d (.st [.i .i64 x19_0_0, .i .i64 x19_0_1, .s x19_0_2, .st [.i .i64 x19_0_3_0, .st [.i .i64 x19_0_3_1_0, .i .i64 x19_0_3_1_1], .sl 1 (eInts x19_0_3_2), .sl 5 (eDictionarys x19_0_3_3)], .sl 9 (eValues x19_0_4)])) :: _, [.box [.d (.sl 1 (eBytes x19_1_0)), .d (.i .i64 x19_1_1), .d (.i .i64 x19_1_2)], .box [.d (.i .i64 0), .d (.i .i64 0), .d (.s []), .d (.i .i64 0), .d (.i .i64 0), .d (.i .i64 0), .nilsl, .nilsl, .nilsl]], _⟩ _
          refine VO_lb (us := eValues [(TValue.mk x18_0_0 x18_0_1 x18_0_2 (TDictionary.mk x18_0_3_0 (TInstanceRef.mk x18_0_3_1_0 x18_0_3_1_1) x18_0_3_2 x18_0_3_3) x18_0_4), (TValue.mk x19_0_0 x19_0_1 x19_0_2 (TDictionary.mk x19_0_3_0 (TInstanceRef.mk x19_0_3_1_0 x19_0_3_1_1) x19_0_3_2 x19_0_3_3) x19_0_4)]) ?_
          refine VO_k (Q_build TBd.h TZ.h rfl (by repeat constructor)) ?_
          refine goL ?_
          refine V_freeze 2 rfl rfl ?_
          refine V_ret ?_
          replace h := Option.some.inj h
          subst h
          exact R_rH [.d (.st [.i .i64 3, .i .i64 0, .s [99, 111, 110, 115], .st [.i .i64 0, .st [.i .i64 0, .i .i64 0], .sl 1 [], .sl 5 []], .sl 9 (eValues [(TValue.mk x18_0_0 x18_0_1 x18_0_2 (TDictionary.mk x18_0_3_0 (TInstanceRef.mk x18_0_3_1_0 x18_0_3_1_1) x18_0_3_2 x18_0_3_3) x18_0_4), (TValue.mk x19_0_0 x19_0_1 x19_0_2 (TDictionary.mk x19_0_3_0 (TInstanceRef.mk x19_0_3_1_0 x19_0_3_1_1) x19_0_3_2 x19_0_3_3) x19_0_4)])])] [.box [.d (.sl 1 (eBytes x19_1_0)), .d (.i .i64 x19_1_1), .d (.i .i64 x19_1_2)]] ⟨rfl, rfl⟩
        · replace h := cnd_f c17 h
          refine V_skip ?_
          show V _ _ _ _ _
          refine goL ?_
          refine VO_lb (us := eInts [0, 1, (-5), 7, 9223372036854775807, (-9223372036854775808)]) ?_
          refine VO_freeze 2 rfl rfl ?_
          obtain ⟨x20, hx20, h⟩ := bnd_s h
          obtain ⟨x20_0, ⟨x20_1_0, x20_1_1, x20_1_2⟩⟩ := x20
          refine VO_cG [0] (w_l1PickInt (Tl1Cur.mk x1_1_0 x1_1_1 x1_1_2) [0, 1, (-5), 7, 9223372036854775807, (-9223372036854775808)] hx20) ?_
          rintro _ _ ⟨rfl, rfl⟩
          show VO _ _ _ _ ⟨(_, .d (.i .i64 x20_0)) :: _, [.box [.d (.sl 1 (eBytes x20_1_0)), .d (.i .i64 x20_1_1), .d (.i .i64 x20_1_2)], .box [.d (.i .i64 0), .d (.i .i64 0), .d (.s []), .d (.i .i64 0), .d (.i .i64 0), .d (.i .i64 0), .nilsl, .nilsl, .nilsl], .frz 3 1 0 (eInts [0, 1, (-5), 7, 9223372036854775807, (-9223372036854775808)])], _⟩ _
          refine VO_k (Q_build TBd.h TZ.h rfl (by repeat constructor)) ?_
          refine goL ?_
          refine V_ret ?_
          replace h := Option.some.inj h
          subst h
          exact R_rH [.d (.st [.i .i64 1, .i .i64 x20_0, .s [], .st [.i .i64 0, .st [.i .i64 0, .i .i64 0], .sl 1 [], .sl 5 []], .sl 9 []])] [.box [.d (.sl 1 (eBytes x20_1_0)), .d (.i .i64 x20_1_1), .d (.i .i64 x20_1_2)]] ⟨rfl, rfl⟩
      · replace h := cnd_f c16 h
        refine goL ?_
        refine V_cb (fun c21 => ?_) (fun c21 => ?_)
        · replace h := cnd_t c21 h
          refine goL ?_
          refine VO_k (Q_build TBd.h TZ.h rfl (by repeat constructor)) ?_
          refine goL ?_
          refine V_ret ?_
          replace h := Option.some.inj h
          subst h
          exact R_rH [.d (.st [.i .i64 3, .i .i64 0, .s [110, 105, 108], .st [.i .i64 0, .st [.i .i64 0, .i .i64 0], .sl 1 [], .sl 5 []], .sl 9 []])] [.box [.d (.sl 1 (eBytes x1_1_0)), .d (.i .i64 x1_1_1), .d (.i .i64 x1_1_2)]] ⟨rfl, rfl⟩
        · replace h := cnd_f c21 h
          refine goL ?_
          refine V_cb (fun c22 => ?_) (fun c22 => ?_)
          · replace h := cnd_t c22 h
            refine goL ?_
            refine V_cb (fun c23 => ?_) (fun c23 => ?_)
            · replace h := cnd_t c23 h
              refine goL ?_
              refine VO_r (QR_ar) ?_
              obtain ⟨x24, hx24, h⟩ := bnd_s h
              obtain ⟨⟨x24_0_0, x24_0_1, x24_0_2, ⟨x24_0_3_0, ⟨x24_0_3_1_0, x24_0_3_1_1⟩, x24_0_3_2, x24_0_3_3⟩, x24_0_4⟩, ⟨x24_1_0, x24_1_1, x24_1_2⟩⟩ := x24
              refine VO_cG [0] (hrec_l37Draw (Tl1Cur.mk x1_1_0 x1_1_1 x1_1_2) (IntKind.i64.wrap (deep - 1)) hx24) ?_
              rintro _ _ ⟨rfl, rfl⟩
              show VO _ _ _ _ ⟨(_, .d (.st [.i .i64 x24_0_0, .i .i64 x24_0_1, .s x24_0_2, .st [.i .i64 x24_0_3_0, .st [.i .i64 x24_0_3_1_0, .i .i64 x24_0_3_1_1], .sl 1 (eInts x24_0_3_2), .sl 5 (eDictionarys x24_0_3_3)], .sl 9 (eValues x24_0_4)])) :: _, [.box [.d (.sl 1 (eBytes x24_1_0)), .d (.i .i64 x24_1_1), .d (.i .i64 x24_1_2)], .box [.d (.i .i64 0), .d (.i .i64 0), .d (.s []), .d (.i .i64 0), .d (.i .i64 0), .d (.i .i64 0), .nilsl, .nilsl, .nilsl]], _⟩ _
              refine VO_la1 (u := (.st [.i .i64 x24_0_0, .i .i64 x24_0_1, .s x24_0_2, .st [.i .i64 x24_0_3_0, .st [.i .i64 x24_0_3_1_0, .i .i64 x24_0_3_1_1], .sl 1 (eInts x24_0_3_2), .sl 5 (eDictionarys x24_0_3_3)], .sl 9 (eValues x24_0_4)])) ?_
              refine VO_k (Q_build TBd.h TZ.h rfl (by repeat constructor)) ?_
              refine goL ?_
              refine V_freeze 2 rfl rfl ?_
              refine V_ret ?_
              replace h := Option.some.inj h
              subst h
              exact R_rH [.d (.st [.i .i64 4, .i .i64 0, .s [115, 104, 111, 119], .st [.i .i64 0, .st [.i .i64 0, .i .i64 0], .sl 1 [], .sl 5 []], .sl 9 (eValues [(TValue.mk x24_0_0 x24_0_1 x24_0_2 (TDictionary.mk x24_0_3_0 (TInstanceRef.mk x24_0_3_1_0 x24_0_3_1_1) x24_0_3_2 x24_0_3_3) x24_0_4)])])] [.box [.d (.sl 1 (eBytes x24_1_0)), .d (.i .i64 x24_1_1), .d (.i .i64 x24_1_2)]] ⟨rfl, rfl⟩
            · replace h := cnd_f c23 h
              refine V_skip ?_
              show V _ _ _ _ _
              refine goL ?_
              refine VO_lb (us := eInts [0, 1, (-5), 7, 9223372036854775807, (-9223372036854775808)]) ?_
              refine VO_freeze 2 rfl rfl ?_
              obtain ⟨x25, hx25, h⟩ := bnd_s h
              obtain ⟨x25_0, ⟨x25_1_0, x25_1_1, x25_1_2⟩⟩ := x25
              refine VO_cG [0] (w_l1PickInt (Tl1Cur.mk x1_1_0 x1_1_1 x1_1_2) [0, 1, (-5), 7, 9223372036854775807, (-9223372036854775808)] hx25) ?_
              rintro _ _ ⟨rfl, rfl⟩
              show VO _ _ _ _ ⟨(_, .d (.i .i64 x25_0)) :: _, [.box [.d (.sl 1 (eBytes x25_1_0)), .d (.i .i64 x25_1_1), .d (.i .i64 x25_1_2)], .box [.d (.i .i64 0), .d (.i .i64 0), .d (.s []), .d (.i .i64 0), .d (.i .i64 0), .d (.i .i64 0), .nilsl, .nilsl, .nilsl], .frz 3 1 0 (eInts [0, 1, (-5), 7, 9223372036854775807, (-9223372036854775808)])], _⟩ _
              refine VO_k (Q_build TBd.h TZ.h rfl (by repeat constructor)) ?_
              refine goL ?_
              refine V_ret ?_
              replace h := Option.some.inj h
              subst h
              exact R_rH [.d (.st [.i .i64 1, .i .i64 x25_0, .s [], .st [.i .i64 0, .st [.i .i64 0, .i .i64 0], .sl 1 [], .sl 5 []], .sl 9 []])] [.box [.d (.sl 1 (eBytes x25_1_0)), .d (.i .i64 x25_1_1), .d (.i .i64 x25_1_2)]] ⟨rfl, rfl⟩
          · replace h := cnd_f c22 h
            refine V_skip ?_
            show V _ _ _ _ _
            refine goL ?_
            refine VO_lb (us := eInts [0, 1, (-5), 7, 9223372036854775807, (-9223372036854775808)]) ?_
            refine VO_freeze 2 rfl rfl ?_
            obtain ⟨x26, hx26, h⟩ := bnd_s h
            obtain ⟨x26_0, ⟨x26_1_0, x26_1_1, x26_1_2⟩⟩ := x26
            refine VO_cG [0] (w_l1PickInt (Tl1Cur.mk x1_1_0 x1_1_1 x1_1_2) [0, 1, (-5), 7, 9223372036854775807, (-9223372036854775808)] hx26) ?_
            rintro _ _ ⟨rfl, rfl⟩
            show VO _ _ _ _ ⟨(_, .d (.i .i64 x26_0)) :: _, [.box [.d (.sl 1 (eBytes x26_1_0)), .d (.i .i64 x26_1_1), .d (.i .i64 x26_1_2)], .box [.d (.i .i64 0), .d (.i .i64 0), .d (.s []), .d (.i .i64 0), .d (.i .i64 0), .d (.i .i64 0), .nilsl, .nilsl, .nilsl], .frz 3 1 0 (eInts [0, 1, (-5), 7, 9223372036854775807, (-9223372036854775808)])], _⟩ _
            refine VO_k (Q_build TBd.h TZ.h rfl (by repeat constructor)) ?_
            refine goL ?_
            refine V_ret ?_
            replace h := Option.some.inj h
            subst h
            exact R_rH [.d (.st [.i .i64 1, .i .i64 x26_0, .s [], .st [.i .i64 0, .st [.i .i64 0, .i .i64 0], .sl 1 [], .sl 5 []], .sl 9 []])] [.box [.d (.sl 1 (eBytes x26_1_0)), .d (.i .i64 x26_1_1), .d (.i .i64 x26_1_2)]] ⟨rfl, rfl⟩
def m_l37Draw : Nat → Tl1Cur → Int → Option (TValue × Tl1Cur)
  | 0, _, _ => none
  | n + 1, x0, x1 => b_l37Draw (m_l37Draw n) x0 x1
theorem s_l37Draw : ∀ (n : Nat) (x0 : Tl1Cur) (x1 : Int) {r : TValue × Tl1Cur}, m_l37Draw n x0 x1 = some r → Go.Eng.Spec Tryd.prog 60 [.ptr 0 0, .d (.i .i64 x1)] [.box [.d (.sl 1 (eBytes x0.b)), .d (.i .i64 x0.i), .d (.i .i64 x0.h)]] (fun sv Lo => sv = .d (eValue r.1) ∧ Lo = [.box [.d (.sl 1 (eBytes r.2.b)), .d (.i .i64 r.2.i), .d (.i .i64 r.2.h)]]) := by
  intro n
  induction n with
  | zero => intro x0 x1 r h; cases h
  | succ n ih => intro x0 x1 r h; exact w_l37Draw ih x0 x1 h
end Go.Proofs.YthojhakapbfbiaaDoor

set_option linter.unusedVariables false
set_option linter.unusedSimpArgs false
set_option linter.unusedSectionVars false
namespace Go.Proofs.YthojhakapbfbiaaDoor
open Go Go.Eng
attribute [local irreducible] V VO VQ VY Quiet QR SpecP SpecO MSpec Rng PostP PostO PostG
def b_big (a0 : List UInt8) : Bool :=
(decide ((a0.length : Int) > 1048576))
set_option maxHeartbeats 4000000 in
theorem w_big (a0 : List UInt8) : SpecP Tryd.prog 21 [.d (.sl 1 (eBytes a0))] [.b (b_big a0)] := by
  obtain ⟨r, h⟩ : ∃ r, b_big a0 = r := ⟨_, rfl⟩
  rw [h]
  unfold b_big at h
  refine SpecP_intro Tryd.func21 rfl (by kernel_rfl) rfl fun A _ => ?_
  refine goL ?_
  refine V_ret ?_
  subst h
  exact R_rP
def b_EvalPrim1 (a0 : Bool) : TValue :=
(cnd a0 (
(TValue.mk 2 1 [] (TDictionary.mk 0 (TInstanceRef.mk 0 0) [] []) [])) (
(TValue.mk 2 0 [] (TDictionary.mk 0 (TInstanceRef.mk 0 0) [] []) [])))
set_option maxHeartbeats 4000000 in
theorem w_EvalPrim1 (a0 : Bool) : SpecP Tryd.prog 61 [.d (.b a0)] [eValue (b_EvalPrim1 a0)] := by
  obtain ⟨r, h⟩ : ∃ r, b_EvalPrim1 a0 = r := ⟨_, rfl⟩
  rw [h]
  unfold b_EvalPrim1 at h
  refine SpecP_intro Tryd.func61 rfl (by kernel_rfl) rfl fun A _ => ?_
  refine goL ?_
  refine V_cb (fun c1 => ?_) (fun c1 => ?_)
  · replace h := cnd_t c1 h
    refine goL ?_
    refine VO_k (Q_build TBd.h TZ.h rfl (by repeat constructor)) ?_
    refine goL ?_
    refine V_ret ?_
    subst h
    exact R_rP
  · replace h := cnd_f c1 h
    refine V_skip ?_
    show V _ _ _ _ _
    refine goL ?_
    refine VO_k (Q_build TBd.h TZ.h rfl (by repeat constructor)) ?_
    refine goL ?_
    refine V_ret ?_
    subst h
    exact R_rP
def b_iEvalPrim (a0 : List UInt8) (a1 : TValue) (a2 : TValue) : TValue × Bool :=
lt_ ((cnd (a1.kind != 1) (true) ((a2.kind != 1)))) fun b1 =>
(cnd b1 (
((TValue.mk 0 0 [] (TDictionary.mk 0 (TInstanceRef.mk 0 0) [] []) []), false)) (
(cnd (a0 == [43]) (
((TValue.mk 1 (IntKind.i64.wrap (a1.n + a2.n)) [] (TDictionary.mk 0 (TInstanceRef.mk 0 0) [] []) []), true)) (
(cnd (a0 == [45]) (
((TValue.mk 1 (IntKind.i64.wrap (a1.n - a2.n)) [] (TDictionary.mk 0 (TInstanceRef.mk 0 0) [] []) []), true)) (
(cnd (a0 == [42]) (
((TValue.mk 1 (IntKind.i64.wrap (a1.n * a2.n)) [] (TDictionary.mk 0 (TInstanceRef.mk 0 0) [] []) []), true)) (
(cnd (a0 == [60]) (
lt_ (b_EvalPrim1 (decide (a1.n < a2.n))) fun x8 =>
(x8, true)) (
(cnd (a0 == [61]) (
lt_ (b_EvalPrim1 (a1.n == a2.n)) fun x10 =>
(x10, true)) (
((TValue.mk 0 0 [] (TDictionary.mk 0 (TInstanceRef.mk 0 0) [] []) []), false)))))))))))))
set_option maxHeartbeats 4000000 in
theorem w_iEvalPrim (a0 : List UInt8) (a1 : TValue) (a2 : TValue) : SpecP Tryd.prog 23 [.d (.s a0), .d (eValue a1), .d (eValue a2)] [eValue (b_iEvalPrim a0 a1 a2).1, .b (b_iEvalPrim a0 a1 a2).2] := by
  obtain ⟨r, h⟩ : ∃ r, b_iEvalPrim a0 a1 a2 = r := ⟨_, rfl⟩
  rw [h]
  obtain ⟨a1_0, a1_1, a1_2, ⟨a1_3_0, ⟨a1_3_1_0, a1_3_1_1⟩, a1_3_2, a1_3_3⟩, a1_4⟩ := a1
  obtain ⟨a2_0, a2_1, a2_2, ⟨a2_3_0, ⟨a2_3_1_0, a2_3_1_1⟩, a2_3_2, a2_3_3⟩, a2_4⟩ := a2
  unfold b_iEvalPrim at h
  refine SpecP_intro Tryd.func23 rfl (by kernel_rfl) rfl fun A _ => ?_
  refine goL ?_
  obtain ⟨b1, hb1, h⟩ := lt_x h
  refine VO_join ⟨[(0, .d (.s a0)), (4, .ptr 0 0), (5, .ptr 1 0), (6, .ptr 2 0), (16, .d (.b b1))], [.box [.d (.i .i64 a1_0), .d (.i .i64 a1_1), .d (.s a1_2), .d (.i .i64 a1_3_0), .d (.i .i64 a1_3_1_0), .d (.i .i64 a1_3_1_1), .d (.sl 1 (eInts a1_3_2)), .d (.sl 5 (eDictionarys a1_3_3)), .d (.sl 9 (eValues a1_4))], .box [.d (.i .i64 a2_0), .d (.i .i64 a2_1), .d (.s a2_2), .d (.i .i64 a2_3_0), .d (.i .i64 a2_3_1_0), .d (.i .i64 a2_3_1_1), .d (.sl 1 (eInts a2_3_2)), .d (.sl 5 (eDictionarys a2_3_3)), .d (.sl 9 (eValues a2_4))], .box [.d (.i .i64 0), .d (.i .i64 0), .d (.s []), .d (.i .i64 0), .d (.i .i64 0), .d (.i .i64 0), .nilsl, .nilsl, .nilsl]], Tryd.f23.ntmps⟩ ?_ ?_
  · refine VO_case 12 (fun c2 => ?_) (fun c2 => ?_)
    · replace hb1 := cnd_t c2 hb1
      refine goL ?_
      cases hb1
      exact ⟨rfl, ⟨⟨rfl, rfl⟩, ⟨rfl, rfl⟩, ⟨rfl, rfl⟩, ⟨rfl, rfl⟩, ⟨rfl, rfl⟩, trivial⟩, ⟨[], rfl⟩, rfl⟩
    · replace hb1 := cnd_f c2 hb1
      refine goL ?_
      cases hb1
      exact ⟨rfl, ⟨⟨rfl, rfl⟩, ⟨rfl, rfl⟩, ⟨rfl, rfl⟩, ⟨rfl, rfl⟩, ⟨rfl, rfl⟩, trivial⟩, ⟨[], rfl⟩, rfl⟩
  refine goL ?_
  refine V_cb (fun c3 => ?_) (fun c3 => ?_)
  · replace h := cnd_t c3 h
    refine goL ?_
    refine VO_k (Q_build TBd.h TZ.h rfl (by repeat constructor)) ?_
    refine goL ?_
    refine V_ret ?_
    subst h
    exact R_rP
  · replace h := cnd_f c3 h
    refine V_skip ?_
    show V _ _ _ _ _
    refine goL ?_
    refine V_block ?_
    refine goL ?_
    refine V_cb (fun c4 => ?_) (fun c4 => ?_)
    · replace h := cnd_t c4 h
      refine goL ?_
      refine VO_r (QR_ar) ?_
      refine VO_k (Q_build TBd.h TZ.h rfl (by repeat constructor)) ?_
      refine goL ?_
      refine V_ret ?_
      subst h
      exact R_rP
    · replace h := cnd_f c4 h
      refine goL ?_
      refine V_cb (fun c5 => ?_) (fun c5 => ?_)
      · replace h := cnd_t c5 h
        refine goL ?_
        refine VO_r (QR_ar) ?_
        refine VO_k (Q_build TBd.h TZ.h rfl (by repeat constructor)) ?_
        refine goL ?_
        refine V_ret ?_
        subst h
        exact R_rP
      · replace h := cnd_f c5 h
        refine goL ?_
        refine V_cb (fun c6 => ?_) (fun c6 => ?_)
        · replace h := cnd_t c6 h
          refine goL ?_
          refine VO_r (QR_ar) ?_
          refine VO_k (Q_build TBd.h TZ.h rfl (by repeat constructor)) ?_
          refine goL ?_
          refine V_ret ?_
          subst h
          exact R_rP
        · replace h := cnd_f c6 h
          refine goL ?_
          refine V_cb (fun c7 => ?_) (fun c7 => ?_)
          · replace h := cnd_t c7 h
            refine goL ?_
            obtain ⟨x8, hx8, h⟩ := lt_x h
            obtain ⟨x8_0, x8_1, x8_2, ⟨x8_3_0, ⟨x8_3_1_0, x8_3_1_1⟩, x8_3_2, x8_3_3⟩, x8_4⟩ := x8
            have sx8 := w_EvalPrim1 (decide (a1_1 < a2_1))
            rw [hx8] at sx8
            refine VO_r (QR_call (sx8)) ?_
            refine goL ?_
            refine V_ret ?_
            subst h
            exact R_rP
          · replace h := cnd_f c7 h
            refine goL ?_
            refine V_cb (fun c9 => ?_) (fun c9 => ?_)
            · replace h := cnd_t c9 h
              refine goL ?_
              obtain ⟨x10, hx10, h⟩ := lt_x h
              obtain ⟨x10_0, x10_1, x10_2, ⟨x10_3_0, ⟨x10_3_1_0, x10_3_1_1⟩, x10_3_2, x10_3_3⟩, x10_4⟩ := x10
              have sx10 := w_EvalPrim1 (a1_1 == a2_1)
              rw [hx10] at sx10
              refine VO_r (QR_call (sx10)) ?_
              refine goL ?_
              refine V_ret ?_
              subst h
              exact R_rP
            · replace h := cnd_f c9 h
              refine V_skip ?_
              show V _ _ _ _ _
              refine goL ?_
              refine VO_k (Q_build TBd.h TZ.h rfl (by repeat constructor)) ?_
              refine goL ?_
              refine V_ret ?_
              subst h
              exact R_rP
def b_l37Truth (a0 : Bool) : TValue :=
(cnd a0 (
(TValue.mk 2 1 [] (TDictionary.mk 0 (TInstanceRef.mk 0 0) [] []) [])) (
(TValue.mk 2 0 [] (TDictionary.mk 0 (TInstanceRef.mk 0 0) [] []) [])))
set_option maxHeartbeats 4000000 in
theorem w_l37Truth (a0 : Bool) : SpecP Tryd.prog 62 [.d (.b a0)] [eValue (b_l37Truth a0)] := by
  obtain ⟨r, h⟩ : ∃ r, b_l37Truth a0 = r := ⟨_, rfl⟩
  rw [h]
  unfold b_l37Truth at h
  refine SpecP_intro Tryd.func62 rfl (by kernel_rfl) rfl fun A _ => ?_
  refine goL ?_
  refine V_cb (fun c1 => ?_) (fun c1 => ?_)
  · replace h := cnd_t c1 h
    refine goL ?_
    refine VO_k (Q_build TBd.h TZ.h rfl (by repeat constructor)) ?_
    refine goL ?_
    refine V_ret ?_
    subst h
    exact R_rP
  · replace h := cnd_f c1 h
    refine V_skip ?_
    show V _ _ _ _ _
    refine goL ?_
    refine VO_k (Q_build TBd.h TZ.h rfl (by repeat constructor)) ?_
    refine goL ?_
    refine V_ret ?_
    subst h
    exact R_rP
def b_sEvalPrim (a0 : List UInt8) (a1 : TValue) (a2 : TValue) : TValue × Bool :=
lt_ ((cnd (a1.kind != 1) (true) ((a2.kind != 1)))) fun b1 =>
(cnd b1 (
((TValue.mk 0 0 [] (TDictionary.mk 0 (TInstanceRef.mk 0 0) [] []) []), false)) (
(cnd (a0 == [43]) (
((TValue.mk 1 (IntKind.i64.wrap (a1.n + a2.n)) [] (TDictionary.mk 0 (TInstanceRef.mk 0 0) [] []) []), true)) (
(cnd (a0 == [45]) (
((TValue.mk 1 (IntKind.i64.wrap (a1.n - a2.n)) [] (TDictionary.mk 0 (TInstanceRef.mk 0 0) [] []) []), true)) (
(cnd (a0 == [42]) (
((TValue.mk 1 (IntKind.i64.wrap (a1.n * a2.n)) [] (TDictionary.mk 0 (TInstanceRef.mk 0 0) [] []) []), true)) (
(cnd (a0 == [60]) (
lt_ (b_l37Truth (decide (a1.n < a2.n))) fun x8 =>
(x8, true)) (
(cnd (a0 == [61]) (
lt_ (b_l37Truth (a1.n == a2.n)) fun x10 =>
(x10, true)) (
((TValue.mk 0 0 [] (TDictionary.mk 0 (TInstanceRef.mk 0 0) [] []) []), false)))))))))))))
set_option maxHeartbeats 4000000 in
theorem w_sEvalPrim (a0 : List UInt8) (a1 : TValue) (a2 : TValue) : SpecP Tryd.prog 24 [.d (.s a0), .d (eValue a1), .d (eValue a2)] [eValue (b_sEvalPrim a0 a1 a2).1, .b (b_sEvalPrim a0 a1 a2).2] := by
  obtain ⟨r, h⟩ : ∃ r, b_sEvalPrim a0 a1 a2 = r := ⟨_, rfl⟩
  rw [h]
  obtain ⟨a1_0, a1_1, a1_2, ⟨a1_3_0, ⟨a1_3_1_0, a1_3_1_1⟩, a1_3_2, a1_3_3⟩, a1_4⟩ := a1
  obtain ⟨a2_0, a2_1, a2_2, ⟨a2_3_0, ⟨a2_3_1_0, a2_3_1_1⟩, a2_3_2, a2_3_3⟩, a2_4⟩ := a2
  unfold b_sEvalPrim at h
  refine SpecP_intro Tryd.func24 rfl (by kernel_rfl) rfl fun A _ => ?_
  refine goL ?_
  obtain ⟨b1, hb1, h⟩ := lt_x h
  refine VO_join ⟨[(0, .d (.s a0)), (4, .ptr 0 0), (5, .ptr 1 0), (6, .ptr 2 0), (15, .d (.b b1))], [.box [.d (.i .i64 a1_0), .d (.i .i64 a1_1), .d (.s a1_2), .d (.i .i64 a1_3_0), .d (.i .i64 a1_3_1_0), .d (.i .i64 a1_3_1_1), .d (.sl 1 (eInts a1_3_2)), .d (.sl 5 (eDictionarys a1_3_3)), .d (.sl 9 (eValues a1_4))], .box [.d (.i .i64 a2_0), .d (.i .i64 a2_1), .d (.s a2_2), .d (.i .i64 a2_3_0), .d (.i .i64 a2_3_1_0), .d (.i .i64 a2_3_1_1), .d (.sl 1 (eInts a2_3_2)), .d (.sl 5 (eDictionarys a2_3_3)), .d (.sl 9 (eValues a2_4))], .box [.d (.i .i64 0), .d (.i .i64 0), .d (.s []), .d (.i .i64 0), .d (.i .i64 0), .d (.i .i64 0), .nilsl, .nilsl, .nilsl]], Tryd.f24.ntmps⟩ ?_ ?_
  · refine VO_case 11 (fun c2 => ?_) (fun c2 => ?_)
    · replace hb1 := cnd_t c2 hb1
      refine goL ?_
      cases hb1
      exact ⟨rfl, ⟨⟨rfl, rfl⟩, ⟨rfl, rfl⟩, ⟨rfl, rfl⟩, ⟨rfl, rfl⟩, ⟨rfl, rfl⟩, trivial⟩, ⟨[], rfl⟩, rfl⟩
    · replace hb1 := cnd_f c2 hb1
      refine goL ?_
      cases hb1
      exact ⟨rfl, ⟨⟨rfl, rfl⟩, ⟨rfl, rfl⟩, ⟨rfl, rfl⟩, ⟨rfl, rfl⟩, ⟨rfl, rfl⟩, trivial⟩, ⟨[], rfl⟩, rfl⟩
  refine goL ?_
  refine V_cb (fun c3 => ?_) (fun c3 => ?_)
  · replace h := cnd_t c3 h
    refine goL ?_
    refine VO_k (Q_build TBd.h TZ.h rfl (by repeat constructor)) ?_
    refine goL ?_
    refine V_ret ?_
    subst h
    exact R_rP
  · replace h := cnd_f c3 h
    refine V_skip ?_
    show V _ _ _ _ _
    refine goL ?_
    refine V_block ?_
    refine goL ?_
    refine V_cb (fun c4 => ?_) (fun c4 => ?_)
    · replace h := cnd_t c4 h
      refine goL ?_
      refine VO_r (QR_ar) ?_
      refine VO_k (Q_build TBd.h TZ.h rfl (by repeat constructor)) ?_
      refine goL ?_
      refine V_ret ?_
      subst h
      exact R_rP
    · replace h := cnd_f c4 h
      refine goL ?_
      refine V_cb (fun c5 => ?_) (fun c5 => ?_)
      · replace h := cnd_t c5 h
        refine goL ?_
        refine VO_r (QR_ar) ?_
        refine VO_k (Q_build TBd.h TZ.h rfl (by repeat constructor)) ?_
        refine goL ?_
        refine V_ret ?_
        subst h
        exact R_rP
      · replace h := cnd_f c5 h
        refine goL ?_
        refine V_cb (fun c6 => ?_) (fun c6 => ?_)
        · replace h := cnd_t c6 h
          refine goL ?_
          refine VO_r (QR_ar) ?_
          refine VO_k (Q_build TBd.h TZ.h rfl (by repeat constructor)) ?_
          refine goL ?_
          refine V_ret ?_
          subst h
          exact R_rP
        · replace h := cnd_f c6 h
          refine goL ?_
          refine V_cb (fun c7 => ?_) (fun c7 => ?_)
          · replace h := cnd_t c7 h
            refine goL ?_
            obtain ⟨x8, hx8, h⟩ := lt_x h
            obtain ⟨x8_0, x8_1, x8_2, ⟨x8_3_0, ⟨x8_3_1_0, x8_3_1_1⟩, x8_3_2, x8_3_3⟩, x8_4⟩ := x8
            have sx8 := w_l37Truth (decide (a1_1 < a2_1))
            rw [hx8] at sx8
            refine VO_r (QR_call (sx8)) ?_
            refine goL ?_
            refine V_ret ?_
            subst h
            exact R_rP
          · replace h := cnd_f c7 h
            refine goL ?_
            refine V_cb (fun c9 => ?_) (fun c9 => ?_)
            · replace h := cnd_t c9 h
              refine goL ?_
              obtain ⟨x10, hx10, h⟩ := lt_x h
              obtain ⟨x10_0, x10_1, x10_2, ⟨x10_3_0, ⟨x10_3_1_0, x10_3_1_1⟩, x10_3_2, x10_3_3⟩, x10_4⟩ := x10
              have sx10 := w_l37Truth (a1_1 == a2_1)
              rw [hx10] at sx10
              refine VO_r (QR_call (sx10)) ?_
              refine goL ?_
              refine V_ret ?_
              subst h
              exact R_rP
            · replace h := cnd_f c9 h
              refine V_skip ?_
              show V _ _ _ _ _
              refine goL ?_
              refine VO_k (Q_build TBd.h TZ.h rfl (by repeat constructor)) ?_
              refine goL ?_
              refine V_ret ?_
              subst h
              exact R_rP
end Go.Proofs.YthojhakapbfbiaaDoor

set_option linter.unusedVariables false
set_option linter.unusedSimpArgs false
namespace Go.Proofs.YthojhakapbfbiaaDoor
open Go Go.Eng Go.RowKit
theorem bridgeB {H : Type} {enc : TypeId × Value → H} {P : Program} {w : World} {sp : Nat → Bool} {held : Bool} {T e : TypeId} {v : Value} {d : DataW H} {ps : List MemPlace} (hund : P.underlying T = some (.slice e)) (he : P.underlying e = some (.int .u8)) (hce : P.cellsOf e = 1) (hbe : 0 < P.bytesOf e)
    (h : DataW.Trod enc P w 0 sp held T v d ps) (hw : ∀ x ∈ d.weights P T, x ≤ reachBytes) (hna : ∀ cs, v ≠ .agg cs) : ∃ code : List UInt8, SVr (fun b => b < w.heap.size) [] [] w (.d (.sl 1 (eBytes code))) v := by
  obtain ⟨fuel, h⟩ := h
  have hc : v.cells = #[v] := by cases v <;> first | rfl | (exact absurd rfl (hna _))
  rw [hc] at h
  suffices hs : ∃ code : List UInt8, Rd (fun b => b < w.heap.size) w (.sl 1 (eBytes code)) [v] by
    obtain ⟨code, h1⟩ := hs
    refine ⟨code, ?_⟩
    simp only [SVr]
    exact ⟨[v], by simp [val, U.isSt], h1⟩
  have hlenB : ∀ l : List UInt8, (eBytes l).length = l.length := fun l => Enc.len l
  cases fuel with
  | zero => simp [DataW.trod] at h
  | succ fuel =>
    rcases DataW.trod_slice hund h with ⟨h0, hx⟩ | ⟨a, len, cap, elems, rest, n, hn, h0, hx, _, hlc, _, hel, hget, _, _⟩
    · simp at h0
      subst h0
      exact ⟨[], by simp only [Rd, eBytes]; exact ⟨by simp [big_eq], none, 0, rfl, .inl trivial⟩⟩
    · obtain rfl : fuel = n := by omega
      simp at h0
      subst h0
      simp only [Prod.mk.injEq] at hx
      obtain ⟨rfl, rfl⟩ := hx
      simp only [DataW.weights, hund] at hw
      have hlen : len ≤ big := by
        have h1 := hw _ (List.mem_cons_self)
        simp only [List.length_map] at h1
        refine reach_big (Nat.le_trans ?_ h1)
        rw [hel]
        calc len ≤ len * P.bytesOf e := Nat.le_mul_of_pos_right _ hbe
          _ ≤ (len + rest.length) * P.bytesOf e := Nat.mul_le_mul_right _ (by omega)
      have each : ∀ i, i < len → ∃ x : UInt8, (a.spot = none → At w a.block (a.off + i * 1) [.int .u8 (x.toNat : Int)]) ∧ (i = 0 → a.spot = none) ∧ a.block < w.heap.size := by
        intro i hi
        have h1 := hget i hi
        rw [List.getElem?_eq_getElem (by omega)] at h1
        cases hc : w.cells? 0 (a.add (i * P.cellsOf e)) (P.cellsOf e) with
        | none => rw [hc] at h1; simp at h1
        | some cs =>
          rw [hc] at h1
          simp only [Option.bind_some] at h1
          rw [hce] at hc
          obtain ⟨k1, k2, k3⟩ := cells_At (by omega) hc
          obtain ⟨m, rfl, _, hwf⟩ := DataW.trod_int he h1
          simp [Lit.wf, IntKind.min, IntKind.max, IntKind.bits, IntKind.signed] at hwf
          have hblk : (a.add (i * 1)).block = a.block := by unfold Addr.add; split <;> rfl
          refine ⟨UInt8.ofNat m.toNat, fun hsp => ?_, fun h0 => ?_, ?_⟩
          · have hoff : (a.add (i * 1)).off = a.off + i * 1 := by unfold Addr.add; split <;> simp_all
            rw [hblk, hoff] at k3
            have e1 : ((UInt8.ofNat m.toNat).toNat : Int) = m := by
              rw [UInt8.toNat_ofNat']
              omega
            rw [e1]
            exact k3
          · subst h0
            rw [Nat.zero_mul] at k2
            exact k2
          · rw [← hblk]; exact k3.lt
      obtain ⟨us, hul, hus⟩ := exists_list len each
      refine ⟨us, ?_⟩
      simp only [Rd]
      refine ⟨by rw [hlenB, hul]; exact hlen, some a, cap, by rw [hlenB, hul], ?_⟩
      by_cases h0 : us = []
      · subst h0; exact .inl rfl
      · have hpos : 0 < len := by rw [← hul]; exact List.length_pos_iff.2 h0
        obtain ⟨u0, _, hsp, hblt⟩ := each 0 hpos
        have hsp := hsp rfl
        refine .inr ⟨a.block, a.off, ?_, hblt, RdE.mk (eBytes us) a.off (fun k u hk => ?_)⟩
        · obtain ⟨b, o, sp⟩ := a
          simp only at hsp
          subst hsp
          rfl
        · have hk2 : k < us.length := by rw [← hlenB]; exact (List.getElem?_eq_some_iff.1 hk).1
          have hk3 := gByte (List.getElem?_eq_getElem hk2)
          rw [hk] at hk3
          obtain rfl := Option.some.inj hk3
          obtain ⟨k1, _, _⟩ := hus k _ (List.getElem?_eq_getElem hk2)
          exact ⟨_, rfl, k1 hsp, by simp only [Rd]⟩
end Go.Proofs.YthojhakapbfbiaaDoor
