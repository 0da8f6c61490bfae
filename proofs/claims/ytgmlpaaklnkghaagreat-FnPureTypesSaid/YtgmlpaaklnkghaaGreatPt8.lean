/- Pt8. Written by a program of mine (aw.py). -/
import Derived.Test.YtgmlpaaklnkghaaGreatEng39
import Derived.Test.YtgmlpaaklnkghaaGreatUn2
set_option linter.unusedVariables false
set_option linter.unusedSimpArgs false
set_option linter.unusedSectionVars false
namespace Go.Proofs.YtgmlpaaklnkghaaGreat
open Go Go.Eng
attribute [local irreducible] V VO VQ VY Quiet QR SpecP SpecO Rng PostP PostO PostG
def b_l24Ev_l1 (rec_l24Ev : Tl1Cur → Int → Option (TEvidence × Tl1Cur)) (deep : Int) (x11 : Int × Tl1Cur) (x12 : Int × Tl1Cur) (x13 : Int × Tl1Cur) : Nat → (List UInt8) → Int → Int → (List TEvidence) → Int → Option (TEvidence × Tl1Cur)
  | 0, y14, y15, y16, y17, y19 => none
  | n20 + 1, y14, y15, y16, y17, y19 => (cnd (decide (y19 < x13.1)) (
bnd (rec_l24Ev (Tl1Cur.mk y14 y15 y16) (IntKind.i64.wrap (deep - 1))) fun x22 =>
gd (y17.length + [x22.1].length ≤ 4294967296) (
b_l24Ev_l1 rec_l24Ev deep x11 x12 x13 n20 x22.2.b x22.2.i x22.2.h (y17 ++ [x22.1]) (IntKind.i64.wrap (y19 + 1)))) (
(some ((TEvidence.mk 1 0 (TInstanceRef.mk x11.1 x12.1) y17), (Tl1Cur.mk y14 y15 y16)))))
def b_l24Ev_l2 (rec_l24Ev : Tl1Cur → Int → Option (TEvidence × Tl1Cur)) (deep : Int) (x25 : Int × Tl1Cur) (x26 : Int × Tl1Cur) (x27 : Int × Tl1Cur) : Nat → (List UInt8) → Int → Int → (List TEvidence) → Int → Option (TEvidence × Tl1Cur)
  | 0, y28, y29, y30, y31, y33 => none
  | n34 + 1, y28, y29, y30, y31, y33 => (cnd (decide (y33 < x27.1)) (
bnd (rec_l24Ev (Tl1Cur.mk y28 y29 y30) (IntKind.i64.wrap (deep - 1))) fun x36 =>
gd (y31.length + [x36.1].length ≤ 4294967296) (
b_l24Ev_l2 rec_l24Ev deep x25 x26 x27 n34 x36.2.b x36.2.i x36.2.h (y31 ++ [x36.1]) (IntKind.i64.wrap (y33 + 1)))) (
(some ((TEvidence.mk 1 0 (TInstanceRef.mk x25.1 x26.1) y31), (Tl1Cur.mk y28 y29 y30)))))
def b_l24Ev (rec_l24Ev : Tl1Cur → Int → Option (TEvidence × Tl1Cur)) (c : Tl1Cur) (deep : Int) (n0 : Nat) : Option (TEvidence × Tl1Cur) :=
bnd (b_l1Below c 6) fun x1 =>
(cnd (decide (deep ≤ 0)) (
bnd (b_l1Below x1.2 3) fun x8 =>
(some ((TEvidence.mk 2 x8.1 (TInstanceRef.mk 0 0) []), x8.2))) (
(cnd (x1.1 == 0) (
bnd (b_l1Below x1.2 2) fun x11 =>
bnd (b_l1Below x11.2 8) fun x12 =>
bnd (b_l1Below x12.2 3) fun x13 =>
b_l24Ev_l1 rec_l24Ev deep x11 x12 x13 n0 x13.2.b x13.2.i x13.2.h [] 0) (
(cnd (x1.1 == 4) (
bnd (b_l1Below x1.2 2) fun x25 =>
bnd (b_l1Below x25.2 8) fun x26 =>
bnd (b_l1Below x26.2 3) fun x27 =>
b_l24Ev_l2 rec_l24Ev deep x25 x26 x27 n0 x27.2.b x27.2.i x27.2.h [] 0) (
(cnd (x1.1 == 2) (
bnd (b_l1Below x1.2 2) fun x39 =>
bnd (rec_l24Ev x39.2 (IntKind.i64.wrap (deep - 1))) fun x40 =>
(some ((TEvidence.mk 3 x39.1 (TInstanceRef.mk 0 0) [x40.1]), x40.2))) (
(cnd (x1.1 == 3) (
(some ((TEvidence.mk 4 0 (TInstanceRef.mk 0 0) []), x1.2))) (
(cnd (x1.1 == 5) (
(some ((TEvidence.mk 5 0 (TInstanceRef.mk 0 0) []), x1.2))) (
bnd (b_l1Below x1.2 3) fun x43 =>
(some ((TEvidence.mk 2 x43.1 (TInstanceRef.mk 0 0) []), x43.2))))))))))))))
set_option maxHeartbeats 4000000 in
theorem w_l24Ev {rec_l24Ev : Tl1Cur → Int → Option (TEvidence × Tl1Cur)} (hrec_l24Ev : ∀ (x0 : Tl1Cur) (x1 : Int) {r : TEvidence × Tl1Cur}, rec_l24Ev x0 x1 = some r → Go.Eng.Spec Tryz.prog 56 [.ptr 0 0, .d (.i .i64 x1)] [.box [.d (.sl 1 (eBytes x0.b)), .d (.i .i64 x0.i), .d (.i .i64 x0.h)]] (fun sv Lo => sv = .d (eEvidence r.1) ∧ Lo = [.box [.d (.sl 1 (eBytes r.2.b)), .d (.i .i64 r.2.i), .d (.i .i64 r.2.h)]])) (c : Tl1Cur) (deep : Int) {n0 : Nat} {r : TEvidence × Tl1Cur} (h : b_l24Ev rec_l24Ev c deep n0 = some r) : Go.Eng.Spec Tryz.prog 56 [.ptr 0 0, .d (.i .i64 deep)] [.box [.d (.sl 1 (eBytes c.b)), .d (.i .i64 c.i), .d (.i .i64 c.h)]] (fun sv Lo => sv = .d (eEvidence r.1) ∧ Lo = [.box [.d (.sl 1 (eBytes r.2.b)), .d (.i .i64 r.2.i), .d (.i .i64 r.2.h)]]) := by
  obtain ⟨c_0, c_1, c_2⟩ := c
  unfold b_l24Ev at h
  refine Spec_intro 1 Tryz.func56 rfl (by kernel_rfl) rfl rfl fun A _ => ?_
  refine goL ?_
  obtain ⟨x1, hx1, h⟩ := bnd_s h
  obtain ⟨x1_0, ⟨x1_1_0, x1_1_1, x1_1_2⟩⟩ := x1
  refine VO_cG [0] (w_l1Below (Tl1Cur.mk c_0 c_1 c_2) 6 hx1) ?_
  rintro _ _ ⟨rfl, rfl⟩
  show VO _ _ _ _ ⟨(_, .d (.i .i64 x1_0)) :: _, [.box [.d (.sl 1 (eBytes x1_1_0)), .d (.i .i64 x1_1_1), .d (.i .i64 x1_1_2)], .box [.d (.i .i64 0), .d (.i .i64 0), .d (.i .i64 0), .d (.i .i64 0), .nilsl]], _⟩ _
  refine goL ?_
  refine V_cb (fun c2 => ?_) (fun c2 => ?_)
  · replace h := cnd_t c2 h
    refine goL ?_
    refine V_block ?_
    refine goL ?_
    refine V_cb (fun c3 => ?_) (fun c3 => ?_)
    · exact absurd c3 (by decide)
    · refine goL ?_
      refine V_cb (fun c4 => ?_) (fun c4 => ?_)
      · exact absurd c4 (by decide)
      · refine goL ?_
        refine V_cb (fun c5 => ?_) (fun c5 => ?_)
        · exact absurd c5 (by decide)
        · refine goL ?_
          refine V_cb (fun c6 => ?_) (fun c6 => ?_)
          · exact absurd c6 (by decide)
          · refine goL ?_
            refine V_cb (fun c7 => ?_) (fun c7 => ?_)
            · exact absurd c7 (by decide)
            · refine V_skip ?_
              show V _ _ _ _ _
              refine goL ?_
              obtain ⟨x8, hx8, h⟩ := bnd_s h
              obtain ⟨x8_0, ⟨x8_1_0, x8_1_1, x8_1_2⟩⟩ := x8
              refine VO_cG [0] (w_l1Below (Tl1Cur.mk x1_1_0 x1_1_1 x1_1_2) 3 hx8) ?_
              rintro _ _ ⟨rfl, rfl⟩
              show VO _ _ _ _ ⟨(_, .d (.i .i64 x8_0)) :: _, [.box [.d (.sl 1 (eBytes x8_1_0)), .d (.i .i64 x8_1_1), .d (.i .i64 x8_1_2)], .box [.d (.i .i64 0), .d (.i .i64 0), .d (.i .i64 0), .d (.i .i64 0), .nilsl]], _⟩ _
              refine VO_k (Q_build TBd.h TZ.h rfl (by repeat constructor)) ?_
              refine goL ?_
              refine V_ret ?_
              replace h := Option.some.inj h
              subst h
              exact R_rH [.d (.st [.i .i64 2, .i .i64 x8_0, .st [.i .i64 0, .i .i64 0], .sl 5 []])] [.box [.d (.sl 1 (eBytes x8_1_0)), .d (.i .i64 x8_1_1), .d (.i .i64 x8_1_2)]] ⟨rfl, rfl⟩
  · replace h := cnd_f c2 h
    refine V_skip ?_
    show V _ _ _ _ _
    refine goL ?_
    refine V_block ?_
    refine goL ?_
    refine V_cb (fun c9 => ?_) (fun c9 => ?_)
    · replace h := cnd_t c9 h
      refine V_skip ?_
      show V _ _ _ _ _
      refine V_cb (fun c10 => ?_) (fun c10 => ?_)
      · refine goL ?_
        obtain ⟨x11, hx11, h⟩ := bnd_s h
        obtain ⟨x11_0, ⟨x11_1_0, x11_1_1, x11_1_2⟩⟩ := x11
        refine VO_cG [0] (w_l1Below (Tl1Cur.mk x1_1_0 x1_1_1 x1_1_2) 2 hx11) ?_
        rintro _ _ ⟨rfl, rfl⟩
        show VO _ _ _ _ ⟨(_, .d (.i .i64 x11_0)) :: _, [.box [.d (.sl 1 (eBytes x11_1_0)), .d (.i .i64 x11_1_1), .d (.i .i64 x11_1_2)], .box [.d (.i .i64 0), .d (.i .i64 0), .d (.i .i64 0), .d (.i .i64 0), .nilsl]], _⟩ _
        refine goL ?_
        obtain ⟨x12, hx12, h⟩ := bnd_s h
        obtain ⟨x12_0, ⟨x12_1_0, x12_1_1, x12_1_2⟩⟩ := x12
        refine VO_cG [0] (w_l1Below (Tl1Cur.mk x11_1_0 x11_1_1 x11_1_2) 8 hx12) ?_
        rintro _ _ ⟨rfl, rfl⟩
        show VO _ _ _ _ ⟨(_, .d (.i .i64 x12_0)) :: _, [.box [.d (.sl 1 (eBytes x12_1_0)), .d (.i .i64 x12_1_1), .d (.i .i64 x12_1_2)], .box [.d (.i .i64 0), .d (.i .i64 0), .d (.i .i64 0), .d (.i .i64 0), .nilsl]], _⟩ _
        refine VO_k (Q_build TBd.h TZ.h rfl (by repeat constructor)) ?_
        refine VO_k (Q_build TBd.h TZ.h rfl (by repeat constructor)) ?_
        refine goL ?_
        obtain ⟨x13, hx13, h⟩ := bnd_s h
        obtain ⟨x13_0, ⟨x13_1_0, x13_1_1, x13_1_2⟩⟩ := x13
        refine VO_cG [0] (w_l1Below (Tl1Cur.mk x12_1_0 x12_1_1 x12_1_2) 3 hx13) ?_
        rintro _ _ ⟨rfl, rfl⟩
        show VO _ _ _ _ ⟨(_, .d (.i .i64 x13_0)) :: _, [.box [.d (.sl 1 (eBytes x13_1_0)), .d (.i .i64 x13_1_1), .d (.i .i64 x13_1_2)], .box [.d (.i .i64 0), .d (.i .i64 0), .d (.i .i64 0), .d (.i .i64 0), .nilsl], .box [.d (.i .i64 1), .d (.i .i64 0), .d (.i .i64 x11_0), .d (.i .i64 x12_0), .nilsl]], _⟩ _
        refine goL ?_
        refine V_block ?_
        show V _ _ _ _ _
        refine V_adoptA 42 5 2 4 rfl rfl (by repeat constructor) (by repeat constructor) (by repeat constructor) (by repeat constructor) ?_
        show V _ _ _ _ _
        refine V_loop7 (fun (n20 : Nat) (y14 : List UInt8) (y15 : Int) (y16 : Int) (y17 : List TEvidence) (y19 : Int) (v18 : Nat) => ⟨[(0, .ptr 0 0), (1, .d (.i .i64 deep)), (4, .ptr 1 0), (6, .ptr 2 0), (7, .d (.i .i64 x13_0)), (8, .d (.i .i64 y19))], [.box [.d (.sl 1 (eBytes y14)), .d (.i .i64 y15), .d (.i .i64 y16)], .box [.d (.i .i64 0), .d (.i .i64 0), .d (.i .i64 0), .d (.i .i64 0), .nilsl], .box [.d (.i .i64 1), .d (.i .i64 0), .d (.i .i64 x11_0), .d (.i .i64 x12_0), .sl 3 v18], .arr 42 5 v18 (eEvidences y17)], Tryz.f56.ntmps⟩) (fun n20 y14 y15 y16 y17 y19 v18 => b_l24Ev_l1 rec_l24Ev deep (x11_0, (Tl1Cur.mk x11_1_0 x11_1_1 x11_1_2)) (x12_0, (Tl1Cur.mk x12_1_0 x12_1_1 x12_1_2)) (x13_0, (Tl1Cur.mk x13_1_0 x13_1_1 x13_1_2)) n20 y14 y15 y16 y17 y19 = some r) (fun n20 y14 y15 y16 y17 y19 v18 => n20) n0 x13_1_0 x13_1_1 x13_1_2 [] 0 0 ⟨rfl, ⟨⟨rfl, rfl⟩, ⟨rfl, rfl⟩, ⟨rfl, rfl⟩, ⟨rfl, rfl⟩, ⟨rfl, rfl⟩, ⟨rfl, rfl⟩, trivial⟩, ⟨[], rfl⟩, rfl⟩ h ?_
        rintro n20 y14 y15 y16 y17 y19 v18 h
        rcases n20 with _ | n20
        · cases h
        rw [b_l24Ev_l1.eq_2] at h
        refine goL ?_
        refine V_cb (fun c21 => ?_) (fun c21 => ?_)
        · replace h := cnd_t c21 h
          refine V_skip ?_
          show V _ _ _ _ _
          refine V_seq (V_block ?_)
          obtain ⟨x22, hx22, h⟩ := bnd_s h
          obtain ⟨⟨x22_0_0, x22_0_1, ⟨x22_0_2_0, x22_0_2_1⟩, x22_0_3⟩, ⟨x22_1_0, x22_1_1, x22_1_2⟩⟩ := x22
          obtain ⟨g23, h⟩ := gd_s h
          refine V_drawTJ (P := Tryz.prog) Mix.h (.q 2 (.q 3 (.q 4 (.h 0 (.h 1 (.h 5 (.h 6 (.h 7 (.q 8 (.h 9 .nil .nil)) .nil) .nil) .nil) (.h 5 (.h 1 (.h 6 (.h 7 (.q 8 (.h 9 .nil .nil)) .nil) .nil) (.h 6 (.h 1 (.h 7 (.q 8 (.h 9 .nil .nil)) .nil) .nil) .nil)) .nil)) (.h 5 (.h 0 (.h 1 (.h 6 (.h 7 (.q 8 (.h 9 .nil .nil)) .nil) .nil) (.h 6 (.h 1 (.h 7 (.q 8 (.h 9 .nil .nil)) .nil) .nil) .nil)) (.h 6 (.h 0 (.h 1 (.h 7 (.q 8 (.h 9 .nil .nil)) .nil) .nil) .nil) .nil)) .nil))))) ⟨[(0, .ptr 0 0), (1, .d (.i .i64 deep)), (4, .ptr 1 0), (6, .ptr 2 0), (7, .d (.i .i64 x13_0)), (8, .d (.i .i64 y19))], [.box [.d (.sl 1 (eBytes x22_1_0)), .d (.i .i64 x22_1_1), .d (.i .i64 x22_1_2)], .box [.d (.i .i64 0), .d (.i .i64 0), .d (.i .i64 0), .d (.i .i64 0), .nilsl], .box [.d (.i .i64 1), .d (.i .i64 0), .d (.i .i64 x11_0), .d (.i .i64 x12_0), .sl 3 (v18 + 1)], .arr 42 5 (v18 + 1) (eEvidences (y17 ++ [(TEvidence.mk x22_0_0 x22_0_1 (TInstanceRef.mk x22_0_2_0 x22_0_2_1) x22_0_3)])), .arr 42 5 0 (eEvidences [(TEvidence.mk x22_0_0 x22_0_1 (TInstanceRef.mk x22_0_2_0 x22_0_2_1) x22_0_3)])], Tryz.f56.ntmps⟩ (by kernel_rfl) ?_ ?_
          · refine goT ?_
            refine VT_r0 rfl (QR_ar) ?_
            refine VT_h (VY_dh VY_e) ?_ ?_
            · refine VT_h (VY_dh VY_e) ?_ ?_
              · refine VT_h1 (VY_cG (sv := .d (.st [.i .i64 x22_0_0, .i .i64 x22_0_1, .st [.i .i64 x22_0_2_0, .i .i64 x22_0_2_1], .sl 5 (eEvidences x22_0_3)])) (L' := [.box [.d (.sl 1 (eBytes x22_1_0)), .d (.i .i64 x22_1_1), .d (.i .i64 x22_1_2)], .box [.d (.i .i64 0), .d (.i .i64 0), .d (.i .i64 0), .d (.i .i64 0), .nilsl], .box [.d (.i .i64 1), .d (.i .i64 0), .d (.i .i64 x11_0), .d (.i .i64 x12_0), .sl 3 v18], .arr 42 5 v18 (eEvidences y17)]) [0] (hrec_l24Ev (Tl1Cur.mk y14 y15 y16) (IntKind.i64.wrap (deep - 1)) hx22) VY_e) ?_
                refine VT_h1 (VY_lb (T := 40) (us := eEvidences [(TEvidence.mk x22_0_0 x22_0_1 (TInstanceRef.mk x22_0_2_0 x22_0_2_1) x22_0_3)]) VY_e) ?_
                refine VT_h1 (VY_apa (T := 40) g23 VY_e) ?_
                refine goT ?_
                refine VT_nil ?_
                exact R_pk 1 [0, 1, 2, 3, 4]
              refine VT_h1 (VY_cG (sv := .d (.st [.i .i64 x22_0_0, .i .i64 x22_0_1, .st [.i .i64 x22_0_2_0, .i .i64 x22_0_2_1], .sl 5 (eEvidences x22_0_3)])) (L' := [.box [.d (.sl 1 (eBytes x22_1_0)), .d (.i .i64 x22_1_1), .d (.i .i64 x22_1_2)], .box [.d (.i .i64 0), .d (.i .i64 0), .d (.i .i64 0), .d (.i .i64 0), .nilsl], .box [.d (.i .i64 1), .d (.i .i64 0), .d (.i .i64 x11_0), .d (.i .i64 x12_0), .sl 3 v18], .arr 42 5 v18 (eEvidences y17)]) [0] (hrec_l24Ev (Tl1Cur.mk y14 y15 y16) (IntKind.i64.wrap (deep - 1)) hx22) VY_e) ?_
              refine VT_h (VY_dh VY_e) ?_ ?_
              · refine VT_h1 (VY_lb (T := 40) (us := eEvidences [(TEvidence.mk x22_0_0 x22_0_1 (TInstanceRef.mk x22_0_2_0 x22_0_2_1) x22_0_3)]) VY_e) ?_
                refine VT_h1 (VY_apa (T := 40) g23 VY_e) ?_
                refine goT ?_
                refine VT_nil ?_
                exact R_pk 1 [0, 1, 2, 3, 4]
              refine VT_h1 (VY_lb (T := 40) (us := eEvidences [(TEvidence.mk x22_0_0 x22_0_1 (TInstanceRef.mk x22_0_2_0 x22_0_2_1) x22_0_3)]) VY_e) ?_
              refine VT_h1 (VY_dh VY_e) ?_
              refine VT_h1 (VY_apa (T := 40) g23 VY_e) ?_
              refine goT ?_
              refine VT_nil ?_
              exact R_pk 1 [0, 1, 2, 3, 4]
            refine VT_h1 (VY_cG (sv := .d (.st [.i .i64 x22_0_0, .i .i64 x22_0_1, .st [.i .i64 x22_0_2_0, .i .i64 x22_0_2_1], .sl 5 (eEvidences x22_0_3)])) (L' := [.box [.d (.sl 1 (eBytes x22_1_0)), .d (.i .i64 x22_1_1), .d (.i .i64 x22_1_2)], .box [.d (.i .i64 0), .d (.i .i64 0), .d (.i .i64 0), .d (.i .i64 0), .nilsl], .box [.d (.i .i64 1), .d (.i .i64 0), .d (.i .i64 x11_0), .d (.i .i64 x12_0), .sl 3 v18], .arr 42 5 v18 (eEvidences y17)]) [0] (hrec_l24Ev (Tl1Cur.mk y14 y15 y16) (IntKind.i64.wrap (deep - 1)) hx22) VY_e) ?_
            refine VT_h (VY_dh VY_e) ?_ ?_
            · refine VT_h (VY_dh VY_e) ?_ ?_
              · refine VT_h1 (VY_lb (T := 40) (us := eEvidences [(TEvidence.mk x22_0_0 x22_0_1 (TInstanceRef.mk x22_0_2_0 x22_0_2_1) x22_0_3)]) VY_e) ?_
                refine VT_h1 (VY_apa (T := 40) g23 VY_e) ?_
                refine goT ?_
                refine VT_nil ?_
                exact R_pk 1 [0, 1, 2, 3, 4]
              refine VT_h1 (VY_lb (T := 40) (us := eEvidences [(TEvidence.mk x22_0_0 x22_0_1 (TInstanceRef.mk x22_0_2_0 x22_0_2_1) x22_0_3)]) VY_e) ?_
              refine VT_h1 (VY_dh VY_e) ?_
              refine VT_h1 (VY_apa (T := 40) g23 VY_e) ?_
              refine goT ?_
              refine VT_nil ?_
              exact R_pk 1 [0, 1, 2, 3, 4]
            refine VT_h1 (VY_lb (T := 40) (us := eEvidences [(TEvidence.mk x22_0_0 x22_0_1 (TInstanceRef.mk x22_0_2_0 x22_0_2_1) x22_0_3)]) VY_e) ?_
            refine VT_h1 (VY_dh VY_e) ?_
            refine VT_h1 (VY_dh VY_e) ?_
            refine VT_h1 (VY_apa (T := 40) g23 VY_e) ?_
            refine goT ?_
            refine VT_nil ?_
            exact R_pk 1 [0, 1, 2, 3, 4]
          refine goL ?_
          refine VO_r (QR_ar) ?_
          refine goL ?_
          exact ⟨n20, x22_1_0, x22_1_1, x22_1_2, (y17 ++ [(TEvidence.mk x22_0_0 x22_0_1 (TInstanceRef.mk x22_0_2_0 x22_0_2_1) x22_0_3)]), (IntKind.i64.wrap (y19 + 1)), (v18 + 1), h, Nat.lt_succ_self _, ⟨rfl, ⟨⟨rfl, rfl⟩, ⟨rfl, rfl⟩, ⟨rfl, rfl⟩, ⟨rfl, rfl⟩, ⟨rfl, rfl⟩, ⟨rfl, rfl⟩, trivial⟩, ⟨_, rfl⟩, rfl⟩⟩
        · replace h := cnd_f c21 h
          refine V_exit ?_
          show V _ _ _ _ _
          refine goL ?_
          refine V_freeze 3 rfl rfl ?_
          refine V_ret ?_
          replace h := Option.some.inj h
          subst h
          exact R_rF [.d (.st [.i .i64 1, .i .i64 0, .st [.i .i64 x11_0, .i .i64 x12_0], .sl 5 (eEvidences y17)])] [.box [.d (.sl 1 (eBytes y14)), .d (.i .i64 y15), .d (.i .i64 y16)]] ⟨rfl, rfl⟩
      · exact absurd (c9.symm.trans c10) (by decide)
    · replace h := cnd_f c9 h
      refine goL ?_
      refine V_cb (fun c24 => ?_) (fun c24 => ?_)
      · replace h := cnd_t c24 h
        refine goL ?_
        obtain ⟨x25, hx25, h⟩ := bnd_s h
        obtain ⟨x25_0, ⟨x25_1_0, x25_1_1, x25_1_2⟩⟩ := x25
        refine VO_cG [0] (w_l1Below (Tl1Cur.mk x1_1_0 x1_1_1 x1_1_2) 2 hx25) ?_
        rintro _ _ ⟨rfl, rfl⟩
        show VO _ _ _ _ ⟨(_, .d (.i .i64 x25_0)) :: _, [.box [.d (.sl 1 (eBytes x25_1_0)), .d (.i .i64 x25_1_1), .d (.i .i64 x25_1_2)], .box [.d (.i .i64 0), .d (.i .i64 0), .d (.i .i64 0), .d (.i .i64 0), .nilsl]], _⟩ _
        refine goL ?_
        obtain ⟨x26, hx26, h⟩ := bnd_s h
        obtain ⟨x26_0, ⟨x26_1_0, x26_1_1, x26_1_2⟩⟩ := x26
        refine VO_cG [0] (w_l1Below (Tl1Cur.mk x25_1_0 x25_1_1 x25_1_2) 8 hx26) ?_
        rintro _ _ ⟨rfl, rfl⟩
        show VO _ _ _ _ ⟨(_, .d (.i .i64 x26_0)) :: _, [.box [.d (.sl 1 (eBytes x26_1_0)), .d (.i .i64 x26_1_1), .d (.i .i64 x26_1_2)], .box [.d (.i .i64 0), .d (.i .i64 0), .d (.i .i64 0), .d (.i .i64 0), .nilsl]], _⟩ _
        refine VO_k (Q_build TBd.h TZ.h rfl (by repeat constructor)) ?_
        refine VO_k (Q_build TBd.h TZ.h rfl (by repeat constructor)) ?_
        refine goL ?_
        obtain ⟨x27, hx27, h⟩ := bnd_s h
        obtain ⟨x27_0, ⟨x27_1_0, x27_1_1, x27_1_2⟩⟩ := x27
        refine VO_cG [0] (w_l1Below (Tl1Cur.mk x26_1_0 x26_1_1 x26_1_2) 3 hx27) ?_
        rintro _ _ ⟨rfl, rfl⟩
        show VO _ _ _ _ ⟨(_, .d (.i .i64 x27_0)) :: _, [.box [.d (.sl 1 (eBytes x27_1_0)), .d (.i .i64 x27_1_1), .d (.i .i64 x27_1_2)], .box [.d (.i .i64 0), .d (.i .i64 0), .d (.i .i64 0), .d (.i .i64 0), .nilsl], .box [.d (.i .i64 1), .d (.i .i64 0), .d (.i .i64 x25_0), .d (.i .i64 x26_0), .nilsl]], _⟩ _
        refine goL ?_
        refine V_block ?_
        show V _ _ _ _ _
        refine V_adoptA 42 5 2 4 rfl rfl (by repeat constructor) (by repeat constructor) (by repeat constructor) (by repeat constructor) ?_
        show V _ _ _ _ _
        refine V_loop7 (fun (n34 : Nat) (y28 : List UInt8) (y29 : Int) (y30 : Int) (y31 : List TEvidence) (y33 : Int) (v32 : Nat) => ⟨[(0, .ptr 0 0), (1, .d (.i .i64 deep)), (4, .ptr 1 0), (6, .ptr 2 0), (7, .d (.i .i64 x27_0)), (8, .d (.i .i64 y33))], [.box [.d (.sl 1 (eBytes y28)), .d (.i .i64 y29), .d (.i .i64 y30)], .box [.d (.i .i64 0), .d (.i .i64 0), .d (.i .i64 0), .d (.i .i64 0), .nilsl], .box [.d (.i .i64 1), .d (.i .i64 0), .d (.i .i64 x25_0), .d (.i .i64 x26_0), .sl 3 v32], .arr 42 5 v32 (eEvidences y31)], Tryz.f56.ntmps⟩) (fun n34 y28 y29 y30 y31 y33 v32 => b_l24Ev_l2 rec_l24Ev deep (x25_0, (Tl1Cur.mk x25_1_0 x25_1_1 x25_1_2)) (x26_0, (Tl1Cur.mk x26_1_0 x26_1_1 x26_1_2)) (x27_0, (Tl1Cur.mk x27_1_0 x27_1_1 x27_1_2)) n34 y28 y29 y30 y31 y33 = some r) (fun n34 y28 y29 y30 y31 y33 v32 => n34) n0 x27_1_0 x27_1_1 x27_1_2 [] 0 0 ⟨rfl, ⟨⟨rfl, rfl⟩, ⟨rfl, rfl⟩, ⟨rfl, rfl⟩, ⟨rfl, rfl⟩, ⟨rfl, rfl⟩, ⟨rfl, rfl⟩, trivial⟩, ⟨[], rfl⟩, rfl⟩ h ?_
        rintro n34 y28 y29 y30 y31 y33 v32 h
        rcases n34 with _ | n34
        · cases h
        rw [b_l24Ev_l2.eq_2] at h
        refine goL ?_
        refine V_cb (fun c35 => ?_) (fun c35 => ?_)
        · replace h := cnd_t c35 h
          refine V_skip ?_
          show V _ _ _ _ _
          refine V_seq (V_block ?_)
          obtain ⟨x36, hx36, h⟩ := bnd_s h
          obtain ⟨⟨x36_0_0, x36_0_1, ⟨x36_0_2_0, x36_0_2_1⟩, x36_0_3⟩, ⟨x36_1_0, x36_1_1, x36_1_2⟩⟩ := x36
          obtain ⟨g37, h⟩ := gd_s h
          refine V_drawTJ (P := Tryz.prog) Mix.h (.q 2 (.q 3 (.q 4 (.h 0 (.h 1 (.h 5 (.h 6 (.h 7 (.q 8 (.h 9 .nil .nil)) .nil) .nil) .nil) (.h 5 (.h 1 (.h 6 (.h 7 (.q 8 (.h 9 .nil .nil)) .nil) .nil) (.h 6 (.h 1 (.h 7 (.q 8 (.h 9 .nil .nil)) .nil) .nil) .nil)) .nil)) (.h 5 (.h 0 (.h 1 (.h 6 (.h 7 (.q 8 (.h 9 .nil .nil)) .nil) .nil) (.h 6 (.h 1 (.h 7 (.q 8 (.h 9 .nil .nil)) .nil) .nil) .nil)) (.h 6 (.h 0 (.h 1 (.h 7 (.q 8 (.h 9 .nil .nil)) .nil) .nil) .nil) .nil)) .nil))))) ⟨[(0, .ptr 0 0), (1, .d (.i .i64 deep)), (4, .ptr 1 0), (6, .ptr 2 0), (7, .d (.i .i64 x27_0)), (8, .d (.i .i64 y33))], [.box [.d (.sl 1 (eBytes x36_1_0)), .d (.i .i64 x36_1_1), .d (.i .i64 x36_1_2)], .box [.d (.i .i64 0), .d (.i .i64 0), .d (.i .i64 0), .d (.i .i64 0), .nilsl], .box [.d (.i .i64 1), .d (.i .i64 0), .d (.i .i64 x25_0), .d (.i .i64 x26_0), .sl 3 (v32 + 1)], .arr 42 5 (v32 + 1) (eEvidences (y31 ++ [(TEvidence.mk x36_0_0 x36_0_1 (TInstanceRef.mk x36_0_2_0 x36_0_2_1) x36_0_3)])), .arr 42 5 0 (eEvidences [(TEvidence.mk x36_0_0 x36_0_1 (TInstanceRef.mk x36_0_2_0 x36_0_2_1) x36_0_3)])], Tryz.f56.ntmps⟩ (by kernel_rfl) ?_ ?_
          · refine goT ?_
            refine VT_r0 rfl (QR_ar) ?_
            refine VT_h (VY_dh VY_e) ?_ ?_
            · refine VT_h (VY_dh VY_e) ?_ ?_
              · refine VT_h1 (VY_cG (sv := .d (.st [.i .i64 x36_0_0, .i .i64 x36_0_1, .st [.i .i64 x36_0_2_0, .i .i64 x36_0_2_1], .sl 5 (eEvidences x36_0_3)])) (L' := [.box [.d (.sl 1 (eBytes x36_1_0)), .d (.i .i64 x36_1_1), .d (.i .i64 x36_1_2)], .box [.d (.i .i64 0), .d (.i .i64 0), .d (.i .i64 0), .d (.i .i64 0), .nilsl], .box [.d (.i .i64 1), .d (.i .i64 0), .d (.i .i64 x25_0), .d (.i .i64 x26_0), .sl 3 v32], .arr 42 5 v32 (eEvidences y31)]) [0] (hrec_l24Ev (Tl1Cur.mk y28 y29 y30) (IntKind.i64.wrap (deep - 1)) hx36) VY_e) ?_
                refine VT_h1 (VY_lb (T := 40) (us := eEvidences [(TEvidence.mk x36_0_0 x36_0_1 (TInstanceRef.mk x36_0_2_0 x36_0_2_1) x36_0_3)]) VY_e) ?_
                refine VT_h1 (VY_apa (T := 40) g37 VY_e) ?_
                refine goT ?_
                refine VT_nil ?_
                exact R_pk 1 [0, 1, 2, 3, 4]
              refine VT_h1 (VY_cG (sv := .d (.st [.i .i64 x36_0_0, .i .i64 x36_0_1, .st [.i .i64 x36_0_2_0, .i .i64 x36_0_2_1], .sl 5 (eEvidences x36_0_3)])) (L' := [.box [.d (.sl 1 (eBytes x36_1_0)), .d (.i .i64 x36_1_1), .d (.i .i64 x36_1_2)], .box [.d (.i .i64 0), .d (.i .i64 0), .d (.i .i64 0), .d (.i .i64 0), .nilsl], .box [.d (.i .i64 1), .d (.i .i64 0), .d (.i .i64 x25_0), .d (.i .i64 x26_0), .sl 3 v32], .arr 42 5 v32 (eEvidences y31)]) [0] (hrec_l24Ev (Tl1Cur.mk y28 y29 y30) (IntKind.i64.wrap (deep - 1)) hx36) VY_e) ?_
              refine VT_h (VY_dh VY_e) ?_ ?_
              · refine VT_h1 (VY_lb (T := 40) (us := eEvidences [(TEvidence.mk x36_0_0 x36_0_1 (TInstanceRef.mk x36_0_2_0 x36_0_2_1) x36_0_3)]) VY_e) ?_
                refine VT_h1 (VY_apa (T := 40) g37 VY_e) ?_
                refine goT ?_
                refine VT_nil ?_
                exact R_pk 1 [0, 1, 2, 3, 4]
              refine VT_h1 (VY_lb (T := 40) (us := eEvidences [(TEvidence.mk x36_0_0 x36_0_1 (TInstanceRef.mk x36_0_2_0 x36_0_2_1) x36_0_3)]) VY_e) ?_
              refine VT_h1 (VY_dh VY_e) ?_
              refine VT_h1 (VY_apa (T := 40) g37 VY_e) ?_
              refine goT ?_
              refine VT_nil ?_
              exact R_pk 1 [0, 1, 2, 3, 4]
            refine VT_h1 (VY_cG (sv := .d (.st [.i .i64 x36_0_0, .i .i64 x36_0_1, .st [.i .i64 x36_0_2_0, .i .i64 x36_0_2_1], .sl 5 (eEvidences x36_0_3)])) (L' := [.box [.d (.sl 1 (eBytes x36_1_0)), .d (.i .i64 x36_1_1), .d (.i .i64 x36_1_2)], .box [.d (.i .i64 0), .d (.i .i64 0), .d (.i .i64 0), .d (.i .i64 0), .nilsl], .box [.d (.i .i64 1), .d (.i .i64 0), .d (.i .i64 x25_0), .d (.i .i64 x26_0), .sl 3 v32], .arr 42 5 v32 (eEvidences y31)]) [0] (hrec_l24Ev (Tl1Cur.mk y28 y29 y30) (IntKind.i64.wrap (deep - 1)) hx36) VY_e) ?_
            refine VT_h (VY_dh VY_e) ?_ ?_
            · refine VT_h (VY_dh VY_e) ?_ ?_
              · refine VT_h1 (VY_lb (T := 40) (us := eEvidences [(TEvidence.mk x36_0_0 x36_0_1 (TInstanceRef.mk x36_0_2_0 x36_0_2_1) x36_0_3)]) VY_e) ?_
                refine VT_h1 (VY_apa (T := 40) g37 VY_e) ?_
                refine goT ?_
                refine VT_nil ?_
                exact R_pk 1 [0, 1, 2, 3, 4]
              refine VT_h1 (VY_lb (T := 40) (us := eEvidences [(TEvidence.mk x36_0_0 x36_0_1 (TInstanceRef.mk x36_0_2_0 x36_0_2_1) x36_0_3)]) VY_e) ?_
              refine VT_h1 (VY_dh VY_e) ?_
              refine VT_h1 (VY_apa (T := 40) g37 VY_e) ?_
              refine goT ?_
              refine VT_nil ?_
              exact R_pk 1 [0, 1, 2, 3, 4]
            refine VT_h1 (VY_lb (T := 40) (us := eEvidences [(TEvidence.mk x36_0_0 x36_0_1 (TInstanceRef.mk x36_0_2_0 x36_0_2_1) x36_0_3)]) VY_e) ?_
            refine VT_h1 (VY_dh VY_e) ?_
            refine VT_h1 (VY_dh VY_e) ?_
            refine VT_h1 (VY_apa (T := 40) g37 VY_e) ?_
            refine goT ?_
            refine VT_nil ?_
            exact R_pk 1 [0, 1, 2, 3, 4]
          refine goL ?_
          refine VO_r (QR_ar) ?_
          refine goL ?_
          exact ⟨n34, x36_1_0, x36_1_1, x36_1_2, (y31 ++ [(TEvidence.mk x36_0_0 x36_0_1 (TInstanceRef.mk x36_0_2_0 x36_0_2_1) x36_0_3)]), (IntKind.i64.wrap (y33 + 1)), (v32 + 1), h, Nat.lt_succ_self _, ⟨rfl, ⟨⟨rfl, rfl⟩, ⟨rfl, rfl⟩, ⟨rfl, rfl⟩, ⟨rfl, rfl⟩, ⟨rfl, rfl⟩, ⟨rfl, rfl⟩, trivial⟩, ⟨_, rfl⟩, rfl⟩⟩
        · replace h := cnd_f c35 h
          refine V_exit ?_
          show V _ _ _ _ _
          refine goL ?_
          refine V_freeze 3 rfl rfl ?_
          refine V_ret ?_
          replace h := Option.some.inj h
          subst h
          exact R_rF [.d (.st [.i .i64 1, .i .i64 0, .st [.i .i64 x25_0, .i .i64 x26_0], .sl 5 (eEvidences y31)])] [.box [.d (.sl 1 (eBytes y28)), .d (.i .i64 y29), .d (.i .i64 y30)]] ⟨rfl, rfl⟩
      · replace h := cnd_f c24 h
        refine goL ?_
        refine V_cb (fun c38 => ?_) (fun c38 => ?_)
        · replace h := cnd_t c38 h
          refine goL ?_
          obtain ⟨x39, hx39, h⟩ := bnd_s h
          obtain ⟨x39_0, ⟨x39_1_0, x39_1_1, x39_1_2⟩⟩ := x39
          refine VO_cG [0] (w_l1Below (Tl1Cur.mk x1_1_0 x1_1_1 x1_1_2) 2 hx39) ?_
          rintro _ _ ⟨rfl, rfl⟩
          show VO _ _ _ _ ⟨(_, .d (.i .i64 x39_0)) :: _, [.box [.d (.sl 1 (eBytes x39_1_0)), .d (.i .i64 x39_1_1), .d (.i .i64 x39_1_2)], .box [.d (.i .i64 0), .d (.i .i64 0), .d (.i .i64 0), .d (.i .i64 0), .nilsl]], _⟩ _
          refine goL ?_
          refine VO_r (QR_ar) ?_
          obtain ⟨x40, hx40, h⟩ := bnd_s h
          obtain ⟨⟨x40_0_0, x40_0_1, ⟨x40_0_2_0, x40_0_2_1⟩, x40_0_3⟩, ⟨x40_1_0, x40_1_1, x40_1_2⟩⟩ := x40
          refine VO_cG [0] (hrec_l24Ev (Tl1Cur.mk x39_1_0 x39_1_1 x39_1_2) (IntKind.i64.wrap (deep - 1)) hx40) ?_
          rintro _ _ ⟨rfl, rfl⟩
          show VO _ _ _ _ ⟨(_, .d (.st [.i .i64 x40_0_0, .i .i64 x40_0_1, .st [.i .i64 x40_0_2_0, .i .i64 x40_0_2_1], .sl 5 (eEvidences x40_0_3)])) :: _, [.box [.d (.sl 1 (eBytes x40_1_0)), .d (.i .i64 x40_1_1), .d (.i .i64 x40_1_2)], .box [.d (.i .i64 0), .d (.i .i64 0), .d (.i .i64 0), .d (.i .i64 0), .nilsl]], _⟩ _
          refine VO_la1 (u := (.st [.i .i64 x40_0_0, .i .i64 x40_0_1, .st [.i .i64 x40_0_2_0, .i .i64 x40_0_2_1], .sl 5 (eEvidences x40_0_3)])) ?_
          refine VO_k (Q_build TBd.h TZ.h rfl (by repeat constructor)) ?_
          refine goL ?_
          refine V_freeze 2 rfl rfl ?_
          refine V_ret ?_
          replace h := Option.some.inj h
          subst h
          exact R_rF [.d (.st [.i .i64 3, .i .i64 x39_0, .st [.i .i64 0, .i .i64 0], .sl 5 (eEvidences [(TEvidence.mk x40_0_0 x40_0_1 (TInstanceRef.mk x40_0_2_0 x40_0_2_1) x40_0_3)])])] [.box [.d (.sl 1 (eBytes x40_1_0)), .d (.i .i64 x40_1_1), .d (.i .i64 x40_1_2)]] ⟨rfl, rfl⟩
        · replace h := cnd_f c38 h
          refine goL ?_
          refine V_cb (fun c41 => ?_) (fun c41 => ?_)
          · replace h := cnd_t c41 h
            refine goL ?_
            refine VO_k (Q_build TBd.h TZ.h rfl (by repeat constructor)) ?_
            refine goL ?_
            refine V_ret ?_
            replace h := Option.some.inj h
            subst h
            exact R_rH [.d (.st [.i .i64 4, .i .i64 0, .st [.i .i64 0, .i .i64 0], .sl 5 []])] [.box [.d (.sl 1 (eBytes x1_1_0)), .d (.i .i64 x1_1_1), .d (.i .i64 x1_1_2)]] ⟨rfl, rfl⟩
          · replace h := cnd_f c41 h
            refine goL ?_
            refine V_cb (fun c42 => ?_) (fun c42 => ?_)
            · replace h := cnd_t c42 h
              refine goL ?_
              refine VO_k (Q_build TBd.h TZ.h rfl (by repeat constructor)) ?_
              refine goL ?_
              refine V_ret ?_
              replace h := Option.some.inj h
              subst h
              exact R_rH [.d (.st [.i .i64 5, .i .i64 0, .st [.i .i64 0, .i .i64 0], .sl 5 []])] [.box [.d (.sl 1 (eBytes x1_1_0)), .d (.i .i64 x1_1_1), .d (.i .i64 x1_1_2)]] ⟨rfl, rfl⟩
            · replace h := cnd_f c42 h
              refine V_skip ?_
              show V _ _ _ _ _
              refine goL ?_
              obtain ⟨x43, hx43, h⟩ := bnd_s h
              obtain ⟨x43_0, ⟨x43_1_0, x43_1_1, x43_1_2⟩⟩ := x43
              refine VO_cG [0] (w_l1Below (Tl1Cur.mk x1_1_0 x1_1_1 x1_1_2) 3 hx43) ?_
              rintro _ _ ⟨rfl, rfl⟩
              show VO _ _ _ _ ⟨(_, .d (.i .i64 x43_0)) :: _, [.box [.d (.sl 1 (eBytes x43_1_0)), .d (.i .i64 x43_1_1), .d (.i .i64 x43_1_2)], .box [.d (.i .i64 0), .d (.i .i64 0), .d (.i .i64 0), .d (.i .i64 0), .nilsl]], _⟩ _
              refine VO_k (Q_build TBd.h TZ.h rfl (by repeat constructor)) ?_
              refine goL ?_
              refine V_ret ?_
              replace h := Option.some.inj h
              subst h
              exact R_rH [.d (.st [.i .i64 2, .i .i64 x43_0, .st [.i .i64 0, .i .i64 0], .sl 5 []])] [.box [.d (.sl 1 (eBytes x43_1_0)), .d (.i .i64 x43_1_1), .d (.i .i64 x43_1_2)]] ⟨rfl, rfl⟩
def m_l24Ev : Nat → Tl1Cur → Int → Option (TEvidence × Tl1Cur)
  | 0, _, _ => none
  | n + 1, x0, x1 => b_l24Ev (m_l24Ev n) x0 x1 n
theorem s_l24Ev : ∀ (n : Nat) (x0 : Tl1Cur) (x1 : Int) {r : TEvidence × Tl1Cur}, m_l24Ev n x0 x1 = some r → Go.Eng.Spec Tryz.prog 56 [.ptr 0 0, .d (.i .i64 x1)] [.box [.d (.sl 1 (eBytes x0.b)), .d (.i .i64 x0.i), .d (.i .i64 x0.h)]] (fun sv Lo => sv = .d (eEvidence r.1) ∧ Lo = [.box [.d (.sl 1 (eBytes r.2.b)), .d (.i .i64 r.2.i), .d (.i .i64 r.2.h)]]) := by
  intro n
  induction n with
  | zero => intro x0 x1 r h; cases h
  | succ n ih => intro x0 x1 r h; exact w_l24Ev ih x0 x1 h
def b_l24EvA_l1 (deep : Int) (x11 : Int × Tl1Cur) (x12 : Int × Tl1Cur) (x13 : Int × Tl1Cur) : Nat → (List UInt8) → Int → Int → (List TEvidence) → Int → Option (TEvidence × Tl1Cur)
  | 0, y14, y15, y16, y17, y19 => none
  | n20 + 1, y14, y15, y16, y17, y19 => (cnd (decide (y19 < x13.1)) (
bnd (m_l24Ev 8 (Tl1Cur.mk y14 y15 y16) (IntKind.i64.wrap (deep - 1))) fun x22 =>
gd (y17.length + [x22.1].length ≤ 4294967296) (
b_l24EvA_l1 deep x11 x12 x13 n20 x22.2.b x22.2.i x22.2.h (y17 ++ [x22.1]) (IntKind.i64.wrap (y19 + 1)))) (
(some ((TEvidence.mk 1 0 (TInstanceRef.mk x11.1 x12.1) y17), (Tl1Cur.mk y14 y15 y16)))))
def b_l24EvA_l2 (deep : Int) (x25 : Int × Tl1Cur) (x26 : Int × Tl1Cur) (x27 : Int × Tl1Cur) : Nat → (List UInt8) → Int → Int → (List TEvidence) → Int → Option (TEvidence × Tl1Cur)
  | 0, y28, y29, y30, y31, y33 => none
  | n34 + 1, y28, y29, y30, y31, y33 => (cnd (decide (y33 < x27.1)) (
bnd (m_l24Ev 8 (Tl1Cur.mk y28 y29 y30) (IntKind.i64.wrap (deep - 1))) fun x36 =>
gd (y31.length + [x36.1].length ≤ 4294967296) (
b_l24EvA_l2 deep x25 x26 x27 n34 x36.2.b x36.2.i x36.2.h (y31 ++ [x36.1]) (IntKind.i64.wrap (y33 + 1)))) (
(some ((TEvidence.mk 1 0 (TInstanceRef.mk x25.1 x26.1) y31), (Tl1Cur.mk y28 y29 y30)))))
def b_l24EvA (c : Tl1Cur) (deep : Int) (n0 : Nat) : Option (TEvidence × Tl1Cur) :=
bnd (b_l1Below c 6) fun x1 =>
(cnd (decide (deep ≤ 0)) (
bnd (b_l1Below x1.2 3) fun x8 =>
(some ((TEvidence.mk 2 x8.1 (TInstanceRef.mk 0 0) []), x8.2))) (
(cnd (x1.1 == 0) (
bnd (b_l1Below x1.2 2) fun x11 =>
bnd (b_l1Below x11.2 8) fun x12 =>
bnd (b_l1Below x12.2 3) fun x13 =>
b_l24EvA_l1 deep x11 x12 x13 n0 x13.2.b x13.2.i x13.2.h [] 0) (
(cnd (x1.1 == 4) (
bnd (b_l1Below x1.2 2) fun x25 =>
bnd (b_l1Below x25.2 8) fun x26 =>
bnd (b_l1Below x26.2 3) fun x27 =>
b_l24EvA_l2 deep x25 x26 x27 n0 x27.2.b x27.2.i x27.2.h [] 0) (
(cnd (x1.1 == 2) (
bnd (b_l1Below x1.2 2) fun x39 =>
bnd (m_l24Ev 8 x39.2 (IntKind.i64.wrap (deep - 1))) fun x40 =>
(some ((TEvidence.mk 3 x39.1 (TInstanceRef.mk 0 0) [x40.1]), x40.2))) (
(cnd (x1.1 == 3) (
(some ((TEvidence.mk 4 0 (TInstanceRef.mk 0 0) []), x1.2))) (
(cnd (x1.1 == 5) (
(some ((TEvidence.mk 5 0 (TInstanceRef.mk 0 0) []), x1.2))) (
bnd (b_l1Below x1.2 3) fun x43 =>
(some ((TEvidence.mk 2 x43.1 (TInstanceRef.mk 0 0) []), x43.2))))))))))))))
set_option maxHeartbeats 4000000 in
theorem w_l24EvA (c : Tl1Cur) (deep : Int) {n0 : Nat} {r : TEvidence × Tl1Cur} (h : b_l24EvA c deep n0 = some r) : Go.Eng.Spec Tryz.prog 56 [.ptr 0 0, .d (.i .i64 deep)] [.box [.d (.sl 1 (eBytes c.b)), .d (.i .i64 c.i), .d (.i .i64 c.h)]] (fun sv Lo => sv = .ag [.d (.i .i64 r.1.kind), .d (.i .i64 r.1.n), .d (.i .i64 r.1.at_.package), .d (.i .i64 r.1.at_.at_), .sl 1 0] ∧ Lo = [.box [.d (.sl 1 (eBytes r.2.b)), .d (.i .i64 r.2.i), .d (.i .i64 r.2.h)], .arr 42 5 0 (eEvidences r.1.args)]) := by
  obtain ⟨c_0, c_1, c_2⟩ := c
  unfold b_l24EvA at h
  refine Spec_intro 1 Tryz.func56 rfl (by kernel_rfl) rfl rfl fun A _ => ?_
  refine goL ?_
  obtain ⟨x1, hx1, h⟩ := bnd_s h
  obtain ⟨x1_0, ⟨x1_1_0, x1_1_1, x1_1_2⟩⟩ := x1
  refine VO_cG [0] (w_l1Below (Tl1Cur.mk c_0 c_1 c_2) 6 hx1) ?_
  rintro _ _ ⟨rfl, rfl⟩
  show VO _ _ _ _ ⟨(_, .d (.i .i64 x1_0)) :: _, [.box [.d (.sl 1 (eBytes x1_1_0)), .d (.i .i64 x1_1_1), .d (.i .i64 x1_1_2)], .box [.d (.i .i64 0), .d (.i .i64 0), .d (.i .i64 0), .d (.i .i64 0), .nilsl]], _⟩ _
  refine goL ?_
  refine V_cb (fun c2 => ?_) (fun c2 => ?_)
  · replace h := cnd_t c2 h
    refine goL ?_
    refine V_block ?_
    refine goL ?_
    refine V_cb (fun c3 => ?_) (fun c3 => ?_)
    · exact absurd c3 (by decide)
    · refine goL ?_
      refine V_cb (fun c4 => ?_) (fun c4 => ?_)
      · exact absurd c4 (by decide)
      · refine goL ?_
        refine V_cb (fun c5 => ?_) (fun c5 => ?_)
        · exact absurd c5 (by decide)
        · refine goL ?_
          refine V_cb (fun c6 => ?_) (fun c6 => ?_)
          · exact absurd c6 (by decide)
          · refine goL ?_
            refine V_cb (fun c7 => ?_) (fun c7 => ?_)
            · exact absurd c7 (by decide)
            · refine V_skip ?_
              show V _ _ _ _ _
              refine goL ?_
              obtain ⟨x8, hx8, h⟩ := bnd_s h
              obtain ⟨x8_0, ⟨x8_1_0, x8_1_1, x8_1_2⟩⟩ := x8
              refine VO_cG [0] (w_l1Below (Tl1Cur.mk x1_1_0 x1_1_1 x1_1_2) 3 hx8) ?_
              rintro _ _ ⟨rfl, rfl⟩
              show VO _ _ _ _ ⟨(_, .d (.i .i64 x8_0)) :: _, [.box [.d (.sl 1 (eBytes x8_1_0)), .d (.i .i64 x8_1_1), .d (.i .i64 x8_1_2)], .box [.d (.i .i64 0), .d (.i .i64 0), .d (.i .i64 0), .d (.i .i64 0), .nilsl]], _⟩ _
              refine VO_k (Q_build TBd.h TZ.h rfl (by repeat constructor)) ?_
              refine goL ?_
              refine V_adoptA 42 5 1 4 rfl rfl (by repeat constructor) (by repeat constructor) (by repeat constructor) (by repeat constructor) ?_
              refine V_pk (fr' := [(4, .ptr 2 0)]) (Lc := [.box [.d (.sl 1 (eBytes x8_1_0)), .d (.i .i64 x8_1_1), .d (.i .i64 x8_1_2)], .arr 42 5 0 [], .box [.d (.i .i64 2), .d (.i .i64 x8_0), .d (.i .i64 0), .d (.i .i64 0), .sl 1 0]]) 1 [0, 2, 1] ?_
              refine V_ret ?_
              replace h := Option.some.inj h
              subst h
              exact R_rH [.ag [.d (.i .i64 2), .d (.i .i64 x8_0), .d (.i .i64 0), .d (.i .i64 0), .sl 1 0]] [.box [.d (.sl 1 (eBytes x8_1_0)), .d (.i .i64 x8_1_1), .d (.i .i64 x8_1_2)], .arr 42 5 0 []] ⟨rfl, rfl⟩
  · replace h := cnd_f c2 h
    refine V_skip ?_
    show V _ _ _ _ _
    refine goL ?_
    refine V_block ?_
    refine goL ?_
    refine V_cb (fun c9 => ?_) (fun c9 => ?_)
    · replace h := cnd_t c9 h
      refine V_skip ?_
      show V _ _ _ _ _
      refine V_cb (fun c10 => ?_) (fun c10 => ?_)
      · refine goL ?_
        obtain ⟨x11, hx11, h⟩ := bnd_s h
        obtain ⟨x11_0, ⟨x11_1_0, x11_1_1, x11_1_2⟩⟩ := x11
        refine VO_cG [0] (w_l1Below (Tl1Cur.mk x1_1_0 x1_1_1 x1_1_2) 2 hx11) ?_
        rintro _ _ ⟨rfl, rfl⟩
        show VO _ _ _ _ ⟨(_, .d (.i .i64 x11_0)) :: _, [.box [.d (.sl 1 (eBytes x11_1_0)), .d (.i .i64 x11_1_1), .d (.i .i64 x11_1_2)], .box [.d (.i .i64 0), .d (.i .i64 0), .d (.i .i64 0), .d (.i .i64 0), .nilsl]], _⟩ _
        refine goL ?_
        obtain ⟨x12, hx12, h⟩ := bnd_s h
        obtain ⟨x12_0, ⟨x12_1_0, x12_1_1, x12_1_2⟩⟩ := x12
        refine VO_cG [0] (w_l1Below (Tl1Cur.mk x11_1_0 x11_1_1 x11_1_2) 8 hx12) ?_
        rintro _ _ ⟨rfl, rfl⟩
        show VO _ _ _ _ ⟨(_, .d (.i .i64 x12_0)) :: _, [.box [.d (.sl 1 (eBytes x12_1_0)), .d (.i .i64 x12_1_1), .d (.i .i64 x12_1_2)], .box [.d (.i .i64 0), .d (.i .i64 0), .d (.i .i64 0), .d (.i .i64 0), .nilsl]], _⟩ _
        refine VO_k (Q_build TBd.h TZ.h rfl (by repeat constructor)) ?_
        refine VO_k (Q_build TBd.h TZ.h rfl (by repeat constructor)) ?_
        refine goL ?_
        obtain ⟨x13, hx13, h⟩ := bnd_s h
        obtain ⟨x13_0, ⟨x13_1_0, x13_1_1, x13_1_2⟩⟩ := x13
        refine VO_cG [0] (w_l1Below (Tl1Cur.mk x12_1_0 x12_1_1 x12_1_2) 3 hx13) ?_
        rintro _ _ ⟨rfl, rfl⟩
        show VO _ _ _ _ ⟨(_, .d (.i .i64 x13_0)) :: _, [.box [.d (.sl 1 (eBytes x13_1_0)), .d (.i .i64 x13_1_1), .d (.i .i64 x13_1_2)], .box [.d (.i .i64 0), .d (.i .i64 0), .d (.i .i64 0), .d (.i .i64 0), .nilsl], .box [.d (.i .i64 1), .d (.i .i64 0), .d (.i .i64 x11_0), .d (.i .i64 x12_0), .nilsl]], _⟩ _
        refine goL ?_
        refine V_block ?_
        show V _ _ _ _ _
        refine V_adoptA 42 5 2 4 rfl rfl (by repeat constructor) (by repeat constructor) (by repeat constructor) (by repeat constructor) ?_
        show V _ _ _ _ _
        refine V_loop7 (fun (n20 : Nat) (y14 : List UInt8) (y15 : Int) (y16 : Int) (y17 : List TEvidence) (y19 : Int) (v18 : Nat) => ⟨[(0, .ptr 0 0), (1, .d (.i .i64 deep)), (4, .ptr 1 0), (6, .ptr 2 0), (7, .d (.i .i64 x13_0)), (8, .d (.i .i64 y19))], [.box [.d (.sl 1 (eBytes y14)), .d (.i .i64 y15), .d (.i .i64 y16)], .box [.d (.i .i64 0), .d (.i .i64 0), .d (.i .i64 0), .d (.i .i64 0), .nilsl], .box [.d (.i .i64 1), .d (.i .i64 0), .d (.i .i64 x11_0), .d (.i .i64 x12_0), .sl 3 v18], .arr 42 5 v18 (eEvidences y17)], Tryz.f56.ntmps⟩) (fun n20 y14 y15 y16 y17 y19 v18 => b_l24EvA_l1 deep (x11_0, (Tl1Cur.mk x11_1_0 x11_1_1 x11_1_2)) (x12_0, (Tl1Cur.mk x12_1_0 x12_1_1 x12_1_2)) (x13_0, (Tl1Cur.mk x13_1_0 x13_1_1 x13_1_2)) n20 y14 y15 y16 y17 y19 = some r) (fun n20 y14 y15 y16 y17 y19 v18 => n20) n0 x13_1_0 x13_1_1 x13_1_2 [] 0 0 ⟨rfl, ⟨⟨rfl, rfl⟩, ⟨rfl, rfl⟩, ⟨rfl, rfl⟩, ⟨rfl, rfl⟩, ⟨rfl, rfl⟩, ⟨rfl, rfl⟩, trivial⟩, ⟨[], rfl⟩, rfl⟩ h ?_
        rintro n20 y14 y15 y16 y17 y19 v18 h
        rcases n20 with _ | n20
        · cases h
        rw [b_l24EvA_l1.eq_2] at h
        refine goL ?_
        refine V_cb (fun c21 => ?_) (fun c21 => ?_)
        · replace h := cnd_t c21 h
          refine V_skip ?_
          show V _ _ _ _ _
          refine V_seq (V_block ?_)
          obtain ⟨x22, hx22, h⟩ := bnd_s h
          obtain ⟨⟨x22_0_0, x22_0_1, ⟨x22_0_2_0, x22_0_2_1⟩, x22_0_3⟩, ⟨x22_1_0, x22_1_1, x22_1_2⟩⟩ := x22
          obtain ⟨g23, h⟩ := gd_s h
          refine V_drawTJ (P := Tryz.prog) Mix.h (.q 2 (.q 3 (.q 4 (.h 0 (.h 1 (.h 5 (.h 6 (.h 7 (.q 8 (.h 9 .nil .nil)) .nil) .nil) .nil) (.h 5 (.h 1 (.h 6 (.h 7 (.q 8 (.h 9 .nil .nil)) .nil) .nil) (.h 6 (.h 1 (.h 7 (.q 8 (.h 9 .nil .nil)) .nil) .nil) .nil)) .nil)) (.h 5 (.h 0 (.h 1 (.h 6 (.h 7 (.q 8 (.h 9 .nil .nil)) .nil) .nil) (.h 6 (.h 1 (.h 7 (.q 8 (.h 9 .nil .nil)) .nil) .nil) .nil)) (.h 6 (.h 0 (.h 1 (.h 7 (.q 8 (.h 9 .nil .nil)) .nil) .nil) .nil) .nil)) .nil))))) ⟨[(0, .ptr 0 0), (1, .d (.i .i64 deep)), (4, .ptr 1 0), (6, .ptr 2 0), (7, .d (.i .i64 x13_0)), (8, .d (.i .i64 y19))], [.box [.d (.sl 1 (eBytes x22_1_0)), .d (.i .i64 x22_1_1), .d (.i .i64 x22_1_2)], .box [.d (.i .i64 0), .d (.i .i64 0), .d (.i .i64 0), .d (.i .i64 0), .nilsl], .box [.d (.i .i64 1), .d (.i .i64 0), .d (.i .i64 x11_0), .d (.i .i64 x12_0), .sl 3 (v18 + 1)], .arr 42 5 (v18 + 1) (eEvidences (y17 ++ [(TEvidence.mk x22_0_0 x22_0_1 (TInstanceRef.mk x22_0_2_0 x22_0_2_1) x22_0_3)])), .arr 42 5 0 (eEvidences [(TEvidence.mk x22_0_0 x22_0_1 (TInstanceRef.mk x22_0_2_0 x22_0_2_1) x22_0_3)])], Tryz.f56.ntmps⟩ (by kernel_rfl) ?_ ?_
          · refine goT ?_
            refine VT_r0 rfl (QR_ar) ?_
            refine VT_h (VY_dh VY_e) ?_ ?_
            · refine VT_h (VY_dh VY_e) ?_ ?_
              · refine VT_h1 (VY_cG (sv := .d (.st [.i .i64 x22_0_0, .i .i64 x22_0_1, .st [.i .i64 x22_0_2_0, .i .i64 x22_0_2_1], .sl 5 (eEvidences x22_0_3)])) (L' := [.box [.d (.sl 1 (eBytes x22_1_0)), .d (.i .i64 x22_1_1), .d (.i .i64 x22_1_2)], .box [.d (.i .i64 0), .d (.i .i64 0), .d (.i .i64 0), .d (.i .i64 0), .nilsl], .box [.d (.i .i64 1), .d (.i .i64 0), .d (.i .i64 x11_0), .d (.i .i64 x12_0), .sl 3 v18], .arr 42 5 v18 (eEvidences y17)]) [0] (s_l24Ev 8 (Tl1Cur.mk y14 y15 y16) (IntKind.i64.wrap (deep - 1)) hx22) VY_e) ?_
                refine VT_h1 (VY_lb (T := 40) (us := eEvidences [(TEvidence.mk x22_0_0 x22_0_1 (TInstanceRef.mk x22_0_2_0 x22_0_2_1) x22_0_3)]) VY_e) ?_
                refine VT_h1 (VY_apa (T := 40) g23 VY_e) ?_
                refine goT ?_
                refine VT_nil ?_
                exact R_pk 1 [0, 1, 2, 3, 4]
              refine VT_h1 (VY_cG (sv := .d (.st [.i .i64 x22_0_0, .i .i64 x22_0_1, .st [.i .i64 x22_0_2_0, .i .i64 x22_0_2_1], .sl 5 (eEvidences x22_0_3)])) (L' := [.box [.d (.sl 1 (eBytes x22_1_0)), .d (.i .i64 x22_1_1), .d (.i .i64 x22_1_2)], .box [.d (.i .i64 0), .d (.i .i64 0), .d (.i .i64 0), .d (.i .i64 0), .nilsl], .box [.d (.i .i64 1), .d (.i .i64 0), .d (.i .i64 x11_0), .d (.i .i64 x12_0), .sl 3 v18], .arr 42 5 v18 (eEvidences y17)]) [0] (s_l24Ev 8 (Tl1Cur.mk y14 y15 y16) (IntKind.i64.wrap (deep - 1)) hx22) VY_e) ?_
              refine VT_h (VY_dh VY_e) ?_ ?_
              · refine VT_h1 (VY_lb (T := 40) (us := eEvidences [(TEvidence.mk x22_0_0 x22_0_1 (TInstanceRef.mk x22_0_2_0 x22_0_2_1) x22_0_3)]) VY_e) ?_
                refine VT_h1 (VY_apa (T := 40) g23 VY_e) ?_
                refine goT ?_
                refine VT_nil ?_
                exact R_pk 1 [0, 1, 2, 3, 4]
              refine VT_h1 (VY_lb (T := 40) (us := eEvidences [(TEvidence.mk x22_0_0 x22_0_1 (TInstanceRef.mk x22_0_2_0 x22_0_2_1) x22_0_3)]) VY_e) ?_
              refine VT_h1 (VY_dh VY_e) ?_
              refine VT_h1 (VY_apa (T := 40) g23 VY_e) ?_
              refine goT ?_
              refine VT_nil ?_
              exact R_pk 1 [0, 1, 2, 3, 4]
            refine VT_h1 (VY_cG (sv := .d (.st [.i .i64 x22_0_0, .i .i64 x22_0_1, .st [.i .i64 x22_0_2_0, .i .i64 x22_0_2_1], .sl 5 (eEvidences x22_0_3)])) (L' := [.box [.d (.sl 1 (eBytes x22_1_0)), .d (.i .i64 x22_1_1), .d (.i .i64 x22_1_2)], .box [.d (.i .i64 0), .d (.i .i64 0), .d (.i .i64 0), .d (.i .i64 0), .nilsl], .box [.d (.i .i64 1), .d (.i .i64 0), .d (.i .i64 x11_0), .d (.i .i64 x12_0), .sl 3 v18], .arr 42 5 v18 (eEvidences y17)]) [0] (s_l24Ev 8 (Tl1Cur.mk y14 y15 y16) (IntKind.i64.wrap (deep - 1)) hx22) VY_e) ?_
            refine VT_h (VY_dh VY_e) ?_ ?_
            · refine VT_h (VY_dh VY_e) ?_ ?_
              · refine VT_h1 (VY_lb (T := 40) (us := eEvidences [(TEvidence.mk x22_0_0 x22_0_1 (TInstanceRef.mk x22_0_2_0 x22_0_2_1) x22_0_3)]) VY_e) ?_
                refine VT_h1 (VY_apa (T := 40) g23 VY_e) ?_
                refine goT ?_
                refine VT_nil ?_
                exact R_pk 1 [0, 1, 2, 3, 4]
              refine VT_h1 (VY_lb (T := 40) (us := eEvidences [(TEvidence.mk x22_0_0 x22_0_1 (TInstanceRef.mk x22_0_2_0 x22_0_2_1) x22_0_3)]) VY_e) ?_
              refine VT_h1 (VY_dh VY_e) ?_
              refine VT_h1 (VY_apa (T := 40) g23 VY_e) ?_
              refine goT ?_
              refine VT_nil ?_
              exact R_pk 1 [0, 1, 2, 3, 4]
            refine VT_h1 (VY_lb (T := 40) (us := eEvidences [(TEvidence.mk x22_0_0 x22_0_1 (TInstanceRef.mk x22_0_2_0 x22_0_2_1) x22_0_3)]) VY_e) ?_
            refine VT_h1 (VY_dh VY_e) ?_
            refine VT_h1 (VY_dh VY_e) ?_
            refine VT_h1 (VY_apa (T := 40) g23 VY_e) ?_
            refine goT ?_
            refine VT_nil ?_
            exact R_pk 1 [0, 1, 2, 3, 4]
          refine goL ?_
          refine VO_r (QR_ar) ?_
          refine goL ?_
          exact ⟨n20, x22_1_0, x22_1_1, x22_1_2, (y17 ++ [(TEvidence.mk x22_0_0 x22_0_1 (TInstanceRef.mk x22_0_2_0 x22_0_2_1) x22_0_3)]), (IntKind.i64.wrap (y19 + 1)), (v18 + 1), h, Nat.lt_succ_self _, ⟨rfl, ⟨⟨rfl, rfl⟩, ⟨rfl, rfl⟩, ⟨rfl, rfl⟩, ⟨rfl, rfl⟩, ⟨rfl, rfl⟩, ⟨rfl, rfl⟩, trivial⟩, ⟨_, rfl⟩, rfl⟩⟩
        · replace h := cnd_f c21 h
          refine V_exit ?_
          show V _ _ _ _ _
          refine goL ?_
          refine V_pk (fr' := [(4, .ptr 2 0)]) (Lc := [.box [.d (.sl 1 (eBytes y14)), .d (.i .i64 y15), .d (.i .i64 y16)], .arr 42 5 v18 (eEvidences y17), .box [.d (.i .i64 1), .d (.i .i64 0), .d (.i .i64 x11_0), .d (.i .i64 x12_0), .sl 1 v18]]) 1 [0, 3, 1] ?_
          refine V_rv (fr' := [(4, .ptr 2 0)]) (L' := [.box [.d (.sl 1 (eBytes y14)), .d (.i .i64 y15), .d (.i .i64 y16)], .arr 42 5 0 (eEvidences y17), .box [.d (.i .i64 1), .d (.i .i64 0), .d (.i .i64 x11_0), .d (.i .i64 x12_0), .sl 1 0]]) 1 1 ?_
          refine V_ret ?_
          replace h := Option.some.inj h
          subst h
          exact R_rH [.ag [.d (.i .i64 1), .d (.i .i64 0), .d (.i .i64 x11_0), .d (.i .i64 x12_0), .sl 1 0]] [.box [.d (.sl 1 (eBytes y14)), .d (.i .i64 y15), .d (.i .i64 y16)], .arr 42 5 0 (eEvidences y17)] ⟨rfl, rfl⟩
      · exact absurd (c9.symm.trans c10) (by decide)
    · replace h := cnd_f c9 h
      refine goL ?_
      refine V_cb (fun c24 => ?_) (fun c24 => ?_)
      · replace h := cnd_t c24 h
        refine goL ?_
        obtain ⟨x25, hx25, h⟩ := bnd_s h
        obtain ⟨x25_0, ⟨x25_1_0, x25_1_1, x25_1_2⟩⟩ := x25
        refine VO_cG [0] (w_l1Below (Tl1Cur.mk x1_1_0 x1_1_1 x1_1_2) 2 hx25) ?_
        rintro _ _ ⟨rfl, rfl⟩
        show VO _ _ _ _ ⟨(_, .d (.i .i64 x25_0)) :: _, [.box [.d (.sl 1 (eBytes x25_1_0)), .d (.i .i64 x25_1_1), .d (.i .i64 x25_1_2)], .box [.d (.i .i64 0), .d (.i .i64 0), .d (.i .i64 0), .d (.i .i64 0), .nilsl]], _⟩ _
        refine goL ?_
        obtain ⟨x26, hx26, h⟩ := bnd_s h
        obtain ⟨x26_0, ⟨x26_1_0, x26_1_1, x26_1_2⟩⟩ := x26
        refine VO_cG [0] (w_l1Below (Tl1Cur.mk x25_1_0 x25_1_1 x25_1_2) 8 hx26) ?_
        rintro _ _ ⟨rfl, rfl⟩
        show VO _ _ _ _ ⟨(_, .d (.i .i64 x26_0)) :: _, [.box [.d (.sl 1 (eBytes x26_1_0)), .d (.i .i64 x26_1_1), .d (.i .i64 x26_1_2)], .box [.d (.i .i64 0), .d (.i .i64 0), .d (.i .i64 0), .d (.i .i64 0), .nilsl]], _⟩ _
        refine VO_k (Q_build TBd.h TZ.h rfl (by repeat constructor)) ?_
        refine VO_k (Q_build TBd.h TZ.h rfl (by repeat constructor)) ?_
        refine goL ?_
        obtain ⟨x27, hx27, h⟩ := bnd_s h
        obtain ⟨x27_0, ⟨x27_1_0, x27_1_1, x27_1_2⟩⟩ := x27
        refine VO_cG [0] (w_l1Below (Tl1Cur.mk x26_1_0 x26_1_1 x26_1_2) 3 hx27) ?_
        rintro _ _ ⟨rfl, rfl⟩
        show VO _ _ _ _ ⟨(_, .d (.i .i64 x27_0)) :: _, [.box [.d (.sl 1 (eBytes x27_1_0)), .d (.i .i64 x27_1_1), .d (.i .i64 x27_1_2)], .box [.d (.i .i64 0), .d (.i .i64 0), .d (.i .i64 0), .d (.i .i64 0), .nilsl], .box [.d (.i .i64 1), .d (.i .i64 0), .d (.i .i64 x25_0), .d (.i .i64 x26_0), .nilsl]], _⟩ _
        refine goL ?_
        refine V_block ?_
        show V _ _ _ _ _
        refine V_adoptA 42 5 2 4 rfl rfl (by repeat constructor) (by repeat constructor) (by repeat constructor) (by repeat constructor) ?_
        show V _ _ _ _ _
        refine V_loop7 (fun (n34 : Nat) (y28 : List UInt8) (y29 : Int) (y30 : Int) (y31 : List TEvidence) (y33 : Int) (v32 : Nat) => ⟨[(0, .ptr 0 0), (1, .d (.i .i64 deep)), (4, .ptr 1 0), (6, .ptr 2 0), (7, .d (.i .i64 x27_0)), (8, .d (.i .i64 y33))], [.box [.d (.sl 1 (eBytes y28)), .d (.i .i64 y29), .d (.i .i64 y30)], .box [.d (.i .i64 0), .d (.i .i64 0), .d (.i .i64 0), .d (.i .i64 0), .nilsl], .box [.d (.i .i64 1), .d (.i .i64 0), .d (.i .i64 x25_0), .d (.i .i64 x26_0), .sl 3 v32], .arr 42 5 v32 (eEvidences y31)], Tryz.f56.ntmps⟩) (fun n34 y28 y29 y30 y31 y33 v32 => b_l24EvA_l2 deep (x25_0, (Tl1Cur.mk x25_1_0 x25_1_1 x25_1_2)) (x26_0, (Tl1Cur.mk x26_1_0 x26_1_1 x26_1_2)) (x27_0, (Tl1Cur.mk x27_1_0 x27_1_1 x27_1_2)) n34 y28 y29 y30 y31 y33 = some r) (fun n34 y28 y29 y30 y31 y33 v32 => n34) n0 x27_1_0 x27_1_1 x27_1_2 [] 0 0 ⟨rfl, ⟨⟨rfl, rfl⟩, ⟨rfl, rfl⟩, ⟨rfl, rfl⟩, ⟨rfl, rfl⟩, ⟨rfl, rfl⟩, ⟨rfl, rfl⟩, trivial⟩, ⟨[], rfl⟩, rfl⟩ h ?_
        rintro n34 y28 y29 y30 y31 y33 v32 h
        rcases n34 with _ | n34
        · cases h
        rw [b_l24EvA_l2.eq_2] at h
        refine goL ?_
        refine V_cb (fun c35 => ?_) (fun c35 => ?_)
        · replace h := cnd_t c35 h
          refine V_skip ?_
          show V _ _ _ _ _
          refine V_seq (V_block ?_)
          obtain ⟨x36, hx36, h⟩ := bnd_s h
          obtain ⟨⟨x36_0_0, x36_0_1, ⟨x36_0_2_0, x36_0_2_1⟩, x36_0_3⟩, ⟨x36_1_0, x36_1_1, x36_1_2⟩⟩ := x36
          obtain ⟨g37, h⟩ := gd_s h
          refine V_drawTJ (P := Tryz.prog) Mix.h (.q 2 (.q 3 (.q 4 (.h 0 (.h 1 (.h 5 (.h 6 (.h 7 (.q 8 (.h 9 .nil .nil)) .nil) .nil) .nil) (.h 5 (.h 1 (.h 6 (.h 7 (.q 8 (.h 9 .nil .nil)) .nil) .nil) (.h 6 (.h 1 (.h 7 (.q 8 (.h 9 .nil .nil)) .nil) .nil) .nil)) .nil)) (.h 5 (.h 0 (.h 1 (.h 6 (.h 7 (.q 8 (.h 9 .nil .nil)) .nil) .nil) (.h 6 (.h 1 (.h 7 (.q 8 (.h 9 .nil .nil)) .nil) .nil) .nil)) (.h 6 (.h 0 (.h 1 (.h 7 (.q 8 (.h 9 .nil .nil)) .nil) .nil) .nil) .nil)) .nil))))) ⟨[(0, .ptr 0 0), (1, .d (.i .i64 deep)), (4, .ptr 1 0), (6, .ptr 2 0), (7, .d (.i .i64 x27_0)), (8, .d (.i .i64 y33))], [.box [.d (.sl 1 (eBytes x36_1_0)), .d (.i .i64 x36_1_1), .d (.i .i64 x36_1_2)], .box [.d (.i .i64 0), .d (.i .i64 0), .d (.i .i64 0), .d (.i .i64 0), .nilsl], .box [.d (.i .i64 1), .d (.i .i64 0), .d (.i .i64 x25_0), .d (.i .i64 x26_0), .sl 3 (v32 + 1)], .arr 42 5 (v32 + 1) (eEvidences (y31 ++ [(TEvidence.mk x36_0_0 x36_0_1 (TInstanceRef.mk x36_0_2_0 x36_0_2_1) x36_0_3)])), .arr 42 5 0 (eEvidences [(TEvidence.mk x36_0_0 x36_0_1 (TInstanceRef.mk x36_0_2_0 x36_0_2_1) x36_0_3)])], Tryz.f56.ntmps⟩ (by kernel_rfl) ?_ ?_
          · refine goT ?_
            refine VT_r0 rfl (QR_ar) ?_
            refine VT_h (VY_dh VY_e) ?_ ?_
            · refine VT_h (VY_dh VY_e) ?_ ?_
              · refine VT_h1 (VY_cG (sv := .d (.st [.i .i64 x36_0_0, .i .i64 x36_0_1, .st [.i .i64 x36_0_2_0, .i .i64 x36_0_2_1], .sl 5 (eEvidences x36_0_3)])) (L' := [.box [.d (.sl 1 (eBytes x36_1_0)), .d (.i .i64 x36_1_1), .d (.i .i64 x36_1_2)], .box [.d (.i .i64 0), .d (.i .i64 0), .d (.i .i64 0), .d (.i .i64 0), .nilsl], .box [.d (.i .i64 1), .d (.i .i64 0), .d (.i .i64 x25_0), .d (.i .i64 x26_0), .sl 3 v32], .arr 42 5 v32 (eEvidences y31)]) [0] (s_l24Ev 8 (Tl1Cur.mk y28 y29 y30) (IntKind.i64.wrap (deep - 1)) hx36) VY_e) ?_
                refine VT_h1 (VY_lb (T := 40) (us := eEvidences [(TEvidence.mk x36_0_0 x36_0_1 (TInstanceRef.mk x36_0_2_0 x36_0_2_1) x36_0_3)]) VY_e) ?_
                refine VT_h1 (VY_apa (T := 40) g37 VY_e) ?_
                refine goT ?_
                refine VT_nil ?_
                exact R_pk 1 [0, 1, 2, 3, 4]
              refine VT_h1 (VY_cG (sv := .d (.st [.i .i64 x36_0_0, .i .i64 x36_0_1, .st [.i .i64 x36_0_2_0, .i .i64 x36_0_2_1], .sl 5 (eEvidences x36_0_3)])) (L' := [.box [.d (.sl 1 (eBytes x36_1_0)), .d (.i .i64 x36_1_1), .d (.i .i64 x36_1_2)], .box [.d (.i .i64 0), .d (.i .i64 0), .d (.i .i64 0), .d (.i .i64 0), .nilsl], .box [.d (.i .i64 1), .d (.i .i64 0), .d (.i .i64 x25_0), .d (.i .i64 x26_0), .sl 3 v32], .arr 42 5 v32 (eEvidences y31)]) [0] (s_l24Ev 8 (Tl1Cur.mk y28 y29 y30) (IntKind.i64.wrap (deep - 1)) hx36) VY_e) ?_
              refine VT_h (VY_dh VY_e) ?_ ?_
              · refine VT_h1 (VY_lb (T := 40) (us := eEvidences [(TEvidence.mk x36_0_0 x36_0_1 (TInstanceRef.mk x36_0_2_0 x36_0_2_1) x36_0_3)]) VY_e) ?_
                refine VT_h1 (VY_apa (T := 40) g37 VY_e) ?_
                refine goT ?_
                refine VT_nil ?_
                exact R_pk 1 [0, 1, 2, 3, 4]
              refine VT_h1 (VY_lb (T := 40) (us := eEvidences [(TEvidence.mk x36_0_0 x36_0_1 (TInstanceRef.mk x36_0_2_0 x36_0_2_1) x36_0_3)]) VY_e) ?_
              refine VT_h1 (VY_dh VY_e) ?_
              refine VT_h1 (VY_apa (T := 40) g37 VY_e) ?_
              refine goT ?_
              refine VT_nil ?_
              exact R_pk 1 [0, 1, 2, 3, 4]
            refine VT_h1 (VY_cG (sv := .d (.st [.i .i64 x36_0_0, .i .i64 x36_0_1, .st [.i .i64 x36_0_2_0, .i .i64 x36_0_2_1], .sl 5 (eEvidences x36_0_3)])) (L' := [.box [.d (.sl 1 (eBytes x36_1_0)), .d (.i .i64 x36_1_1), .d (.i .i64 x36_1_2)], .box [.d (.i .i64 0), .d (.i .i64 0), .d (.i .i64 0), .d (.i .i64 0), .nilsl], .box [.d (.i .i64 1), .d (.i .i64 0), .d (.i .i64 x25_0), .d (.i .i64 x26_0), .sl 3 v32], .arr 42 5 v32 (eEvidences y31)]) [0] (s_l24Ev 8 (Tl1Cur.mk y28 y29 y30) (IntKind.i64.wrap (deep - 1)) hx36) VY_e) ?_
            refine VT_h (VY_dh VY_e) ?_ ?_
            · refine VT_h (VY_dh VY_e) ?_ ?_
              · refine VT_h1 (VY_lb (T := 40) (us := eEvidences [(TEvidence.mk x36_0_0 x36_0_1 (TInstanceRef.mk x36_0_2_0 x36_0_2_1) x36_0_3)]) VY_e) ?_
                refine VT_h1 (VY_apa (T := 40) g37 VY_e) ?_
                refine goT ?_
                refine VT_nil ?_
                exact R_pk 1 [0, 1, 2, 3, 4]
              refine VT_h1 (VY_lb (T := 40) (us := eEvidences [(TEvidence.mk x36_0_0 x36_0_1 (TInstanceRef.mk x36_0_2_0 x36_0_2_1) x36_0_3)]) VY_e) ?_
              refine VT_h1 (VY_dh VY_e) ?_
              refine VT_h1 (VY_apa (T := 40) g37 VY_e) ?_
              refine goT ?_
              refine VT_nil ?_
              exact R_pk 1 [0, 1, 2, 3, 4]
            refine VT_h1 (VY_lb (T := 40) (us := eEvidences [(TEvidence.mk x36_0_0 x36_0_1 (TInstanceRef.mk x36_0_2_0 x36_0_2_1) x36_0_3)]) VY_e) ?_
            refine VT_h1 (VY_dh VY_e) ?_
            refine VT_h1 (VY_dh VY_e) ?_
            refine VT_h1 (VY_apa (T := 40) g37 VY_e) ?_
            refine goT ?_
            refine VT_nil ?_
            exact R_pk 1 [0, 1, 2, 3, 4]
          refine goL ?_
          refine VO_r (QR_ar) ?_
          refine goL ?_
          exact ⟨n34, x36_1_0, x36_1_1, x36_1_2, (y31 ++ [(TEvidence.mk x36_0_0 x36_0_1 (TInstanceRef.mk x36_0_2_0 x36_0_2_1) x36_0_3)]), (IntKind.i64.wrap (y33 + 1)), (v32 + 1), h, Nat.lt_succ_self _, ⟨rfl, ⟨⟨rfl, rfl⟩, ⟨rfl, rfl⟩, ⟨rfl, rfl⟩, ⟨rfl, rfl⟩, ⟨rfl, rfl⟩, ⟨rfl, rfl⟩, trivial⟩, ⟨_, rfl⟩, rfl⟩⟩
        · replace h := cnd_f c35 h
          refine V_exit ?_
          show V _ _ _ _ _
          refine goL ?_
          refine V_pk (fr' := [(4, .ptr 2 0)]) (Lc := [.box [.d (.sl 1 (eBytes y28)), .d (.i .i64 y29), .d (.i .i64 y30)], .arr 42 5 v32 (eEvidences y31), .box [.d (.i .i64 1), .d (.i .i64 0), .d (.i .i64 x25_0), .d (.i .i64 x26_0), .sl 1 v32]]) 1 [0, 3, 1] ?_
          refine V_rv (fr' := [(4, .ptr 2 0)]) (L' := [.box [.d (.sl 1 (eBytes y28)), .d (.i .i64 y29), .d (.i .i64 y30)], .arr 42 5 0 (eEvidences y31), .box [.d (.i .i64 1), .d (.i .i64 0), .d (.i .i64 x25_0), .d (.i .i64 x26_0), .sl 1 0]]) 1 1 ?_
          refine V_ret ?_
          replace h := Option.some.inj h
          subst h
          exact R_rH [.ag [.d (.i .i64 1), .d (.i .i64 0), .d (.i .i64 x25_0), .d (.i .i64 x26_0), .sl 1 0]] [.box [.d (.sl 1 (eBytes y28)), .d (.i .i64 y29), .d (.i .i64 y30)], .arr 42 5 0 (eEvidences y31)] ⟨rfl, rfl⟩
      · replace h := cnd_f c24 h
        refine goL ?_
        refine V_cb (fun c38 => ?_) (fun c38 => ?_)
        · replace h := cnd_t c38 h
          refine goL ?_
          obtain ⟨x39, hx39, h⟩ := bnd_s h
          obtain ⟨x39_0, ⟨x39_1_0, x39_1_1, x39_1_2⟩⟩ := x39
          refine VO_cG [0] (w_l1Below (Tl1Cur.mk x1_1_0 x1_1_1 x1_1_2) 2 hx39) ?_
          rintro _ _ ⟨rfl, rfl⟩
          show VO _ _ _ _ ⟨(_, .d (.i .i64 x39_0)) :: _, [.box [.d (.sl 1 (eBytes x39_1_0)), .d (.i .i64 x39_1_1), .d (.i .i64 x39_1_2)], .box [.d (.i .i64 0), .d (.i .i64 0), .d (.i .i64 0), .d (.i .i64 0), .nilsl]], _⟩ _
          refine goL ?_
          refine VO_r (QR_ar) ?_
          obtain ⟨x40, hx40, h⟩ := bnd_s h
          obtain ⟨⟨x40_0_0, x40_0_1, ⟨x40_0_2_0, x40_0_2_1⟩, x40_0_3⟩, ⟨x40_1_0, x40_1_1, x40_1_2⟩⟩ := x40
          refine VO_cG [0] (s_l24Ev 8 (Tl1Cur.mk x39_1_0 x39_1_1 x39_1_2) (IntKind.i64.wrap (deep - 1)) hx40) ?_
          rintro _ _ ⟨rfl, rfl⟩
          show VO _ _ _ _ ⟨(_, .d (.st [.i .i64 x40_0_0, .i .i64 x40_0_1, .st [.i .i64 x40_0_2_0, .i .i64 x40_0_2_1], .sl 5 (eEvidences x40_0_3)])) :: _, [.box [.d (.sl 1 (eBytes x40_1_0)), .d (.i .i64 x40_1_1), .d (.i .i64 x40_1_2)], .box [.d (.i .i64 0), .d (.i .i64 0), .d (.i .i64 0), .d (.i .i64 0), .nilsl]], _⟩ _
          refine VO_la1 (u := (.st [.i .i64 x40_0_0, .i .i64 x40_0_1, .st [.i .i64 x40_0_2_0, .i .i64 x40_0_2_1], .sl 5 (eEvidences x40_0_3)])) ?_
          refine VO_k (Q_build TBd.h TZ.h rfl (by repeat constructor)) ?_
          refine goL ?_
          refine V_pk (fr' := [(4, .ptr 2 0)]) (Lc := [.box [.d (.sl 1 (eBytes x40_1_0)), .d (.i .i64 x40_1_1), .d (.i .i64 x40_1_2)], .arr 42 5 0 (eEvidences [(TEvidence.mk x40_0_0 x40_0_1 (TInstanceRef.mk x40_0_2_0 x40_0_2_1) x40_0_3)]), .box [.d (.i .i64 3), .d (.i .i64 x39_0), .d (.i .i64 0), .d (.i .i64 0), .sl 1 0]]) 1 [0, 2, 1] ?_
          refine V_ret ?_
          replace h := Option.some.inj h
          subst h
          exact R_rH [.ag [.d (.i .i64 3), .d (.i .i64 x39_0), .d (.i .i64 0), .d (.i .i64 0), .sl 1 0]] [.box [.d (.sl 1 (eBytes x40_1_0)), .d (.i .i64 x40_1_1), .d (.i .i64 x40_1_2)], .arr 42 5 0 (eEvidences [(TEvidence.mk x40_0_0 x40_0_1 (TInstanceRef.mk x40_0_2_0 x40_0_2_1) x40_0_3)])] ⟨rfl, rfl⟩
        · replace h := cnd_f c38 h
          refine goL ?_
          refine V_cb (fun c41 => ?_) (fun c41 => ?_)
          · replace h := cnd_t c41 h
            refine goL ?_
            refine VO_k (Q_build TBd.h TZ.h rfl (by repeat constructor)) ?_
            refine goL ?_
            refine V_adoptA 42 5 1 4 rfl rfl (by repeat constructor) (by repeat constructor) (by repeat constructor) (by repeat constructor) ?_
            refine V_pk (fr' := [(4, .ptr 2 0)]) (Lc := [.box [.d (.sl 1 (eBytes x1_1_0)), .d (.i .i64 x1_1_1), .d (.i .i64 x1_1_2)], .arr 42 5 0 [], .box [.d (.i .i64 4), .d (.i .i64 0), .d (.i .i64 0), .d (.i .i64 0), .sl 1 0]]) 1 [0, 2, 1] ?_
            refine V_ret ?_
            replace h := Option.some.inj h
            subst h
            exact R_rH [.ag [.d (.i .i64 4), .d (.i .i64 0), .d (.i .i64 0), .d (.i .i64 0), .sl 1 0]] [.box [.d (.sl 1 (eBytes x1_1_0)), .d (.i .i64 x1_1_1), .d (.i .i64 x1_1_2)], .arr 42 5 0 []] ⟨rfl, rfl⟩
          · replace h := cnd_f c41 h
            refine goL ?_
            refine V_cb (fun c42 => ?_) (fun c42 => ?_)
            · replace h := cnd_t c42 h
              refine goL ?_
              refine VO_k (Q_build TBd.h TZ.h rfl (by repeat constructor)) ?_
              refine goL ?_
              refine V_adoptA 42 5 1 4 rfl rfl (by repeat constructor) (by repeat constructor) (by repeat constructor) (by repeat constructor) ?_
              refine V_pk (fr' := [(4, .ptr 2 0)]) (Lc := [.box [.d (.sl 1 (eBytes x1_1_0)), .d (.i .i64 x1_1_1), .d (.i .i64 x1_1_2)], .arr 42 5 0 [], .box [.d (.i .i64 5), .d (.i .i64 0), .d (.i .i64 0), .d (.i .i64 0), .sl 1 0]]) 1 [0, 2, 1] ?_
              refine V_ret ?_
              replace h := Option.some.inj h
              subst h
              exact R_rH [.ag [.d (.i .i64 5), .d (.i .i64 0), .d (.i .i64 0), .d (.i .i64 0), .sl 1 0]] [.box [.d (.sl 1 (eBytes x1_1_0)), .d (.i .i64 x1_1_1), .d (.i .i64 x1_1_2)], .arr 42 5 0 []] ⟨rfl, rfl⟩
            · replace h := cnd_f c42 h
              refine V_skip ?_
              show V _ _ _ _ _
              refine goL ?_
              obtain ⟨x43, hx43, h⟩ := bnd_s h
              obtain ⟨x43_0, ⟨x43_1_0, x43_1_1, x43_1_2⟩⟩ := x43
              refine VO_cG [0] (w_l1Below (Tl1Cur.mk x1_1_0 x1_1_1 x1_1_2) 3 hx43) ?_
              rintro _ _ ⟨rfl, rfl⟩
              show VO _ _ _ _ ⟨(_, .d (.i .i64 x43_0)) :: _, [.box [.d (.sl 1 (eBytes x43_1_0)), .d (.i .i64 x43_1_1), .d (.i .i64 x43_1_2)], .box [.d (.i .i64 0), .d (.i .i64 0), .d (.i .i64 0), .d (.i .i64 0), .nilsl]], _⟩ _
              refine VO_k (Q_build TBd.h TZ.h rfl (by repeat constructor)) ?_
              refine goL ?_
              refine V_adoptA 42 5 1 4 rfl rfl (by repeat constructor) (by repeat constructor) (by repeat constructor) (by repeat constructor) ?_
              refine V_pk (fr' := [(4, .ptr 2 0)]) (Lc := [.box [.d (.sl 1 (eBytes x43_1_0)), .d (.i .i64 x43_1_1), .d (.i .i64 x43_1_2)], .arr 42 5 0 [], .box [.d (.i .i64 2), .d (.i .i64 x43_0), .d (.i .i64 0), .d (.i .i64 0), .sl 1 0]]) 1 [0, 2, 1] ?_
              refine V_ret ?_
              replace h := Option.some.inj h
              subst h
              exact R_rH [.ag [.d (.i .i64 2), .d (.i .i64 x43_0), .d (.i .i64 0), .d (.i .i64 0), .sl 1 0]] [.box [.d (.sl 1 (eBytes x43_1_0)), .d (.i .i64 x43_1_1), .d (.i .i64 x43_1_2)], .arr 42 5 0 []] ⟨rfl, rfl⟩
def l24A8 (c : Tl1Cur) (deep : Int) : Option (TEvidence × Tl1Cur) := b_l24EvA c deep 8
def b_l24Bent_l1 (x1 : TEvidence × Tl1Cur) (x2 : Int × Tl1Cur) : Nat → (List TEvidence) → Option (TEvidence × Tl1Cur)
  | 0, y10 => (some ((TEvidence.mk x1.1.kind x1.1.n x1.1.at_ y10), x2.2))
  | m14 + 1, y10 => gd (y10.length + [(TEvidence.mk 2 0 (TInstanceRef.mk 0 0) [])].length ≤ 4294967296) (
b_l24Bent_l1 x1 x2 m14 (y10 ++ [(TEvidence.mk 2 0 (TInstanceRef.mk 0 0) [])]))
def b_l24Bent (c : Tl1Cur) : Option (TEvidence × Tl1Cur) :=
bnd (l24A8 c 3) fun x1 =>
bnd (b_l1Below x1.2 10) fun x2 =>
(cnd (x2.1 == 0) (
bnd (b_l1Below x2.2 8) fun x4 =>
(some ((TEvidence.mk (IntKind.i64.wrap (x4.1 - 1)) x1.1.n x1.1.at_ x1.1.args), x4.2))) (
(cnd (x2.1 == 1) (
bnd (b_l1PickInt x2.2 [(-1), 0, 5]) fun x6 =>
(some ((TEvidence.mk x1.1.kind x6.1 x1.1.at_ x1.1.args), x6.2))) (
(cnd (x2.1 == 2) (
bnd (b_l1PickInt x2.2 [(-1), 1]) fun x8 =>
(some ((TEvidence.mk x1.1.kind x1.1.n (TInstanceRef.mk x8.1 x1.1.at_.at_) x1.1.args), x8.2))) (
(cnd (x2.1 == 3) (
b_l24Bent_l1 x1 x2 4 x1.1.args) (
(some (x1.1, x2.2))))))))))
set_option maxHeartbeats 4000000 in
theorem w_l24Bent (c : Tl1Cur) {r : TEvidence × Tl1Cur} (h : b_l24Bent c = some r) : Go.Eng.Spec Tryz.prog 26 [.ptr 0 0] [.box [.d (.sl 1 (eBytes c.b)), .d (.i .i64 c.i), .d (.i .i64 c.h)]] (fun sv Lo => sv = .d (eEvidence r.1) ∧ Lo = [.box [.d (.sl 1 (eBytes r.2.b)), .d (.i .i64 r.2.i), .d (.i .i64 r.2.h)]]) := by
  obtain ⟨c_0, c_1, c_2⟩ := c
  unfold b_l24Bent at h
  refine Spec_intro 1 Tryz.func26 rfl (by kernel_rfl) rfl rfl fun A _ => ?_
  refine goL ?_
  obtain ⟨x1, hx1, h⟩ := bnd_s h
  obtain ⟨⟨x1_0_0, x1_0_1, ⟨x1_0_2_0, x1_0_2_1⟩, x1_0_3⟩, ⟨x1_1_0, x1_1_1, x1_1_2⟩⟩ := x1
  refine VO_cG [0] (w_l24EvA (Tl1Cur.mk c_0 c_1 c_2) 3 hx1) ?_
  rintro _ _ ⟨rfl, rfl⟩
  show VO _ _ _ _ ⟨(_, .ag [.d (.i .i64 x1_0_0), .d (.i .i64 x1_0_1), .d (.i .i64 x1_0_2_0), .d (.i .i64 x1_0_2_1), .sl 2 0]) :: _, [.box [.d (.sl 1 (eBytes x1_1_0)), .d (.i .i64 x1_1_1), .d (.i .i64 x1_1_2)], .box [.d (.i .i64 0), .d (.i .i64 0), .d (.i .i64 0), .d (.i .i64 0), .nilsl], .arr 42 5 0 (eEvidences x1_0_3)], _⟩ _
  refine goL ?_
  obtain ⟨x2, hx2, h⟩ := bnd_s h
  obtain ⟨x2_0, ⟨x2_1_0, x2_1_1, x2_1_2⟩⟩ := x2
  refine VO_cG [0] (w_l1Below (Tl1Cur.mk x1_1_0 x1_1_1 x1_1_2) 10 hx2) ?_
  rintro _ _ ⟨rfl, rfl⟩
  show VO _ _ _ _ ⟨(_, .d (.i .i64 x2_0)) :: _, [.box [.d (.sl 1 (eBytes x2_1_0)), .d (.i .i64 x2_1_1), .d (.i .i64 x2_1_2)], .box [.d (.i .i64 0), .d (.i .i64 0), .d (.i .i64 0), .d (.i .i64 0), .nilsl], .arr 42 5 0 (eEvidences x1_0_3), .box [.d (.i .i64 x1_0_0), .d (.i .i64 x1_0_1), .d (.i .i64 x1_0_2_0), .d (.i .i64 x1_0_2_1), .sl 2 0]], _⟩ _
  refine goL ?_
  refine V_block ?_
  refine goL ?_
  refine V_cb (fun c3 => ?_) (fun c3 => ?_)
  · replace h := cnd_t c3 h
    refine goL ?_
    obtain ⟨x4, hx4, h⟩ := bnd_s h
    obtain ⟨x4_0, ⟨x4_1_0, x4_1_1, x4_1_2⟩⟩ := x4
    refine VO_cG [0] (w_l1Below (Tl1Cur.mk x2_1_0 x2_1_1 x2_1_2) 8 hx4) ?_
    rintro _ _ ⟨rfl, rfl⟩
    show VO _ _ _ _ ⟨(_, .d (.i .i64 x4_0)) :: _, [.box [.d (.sl 1 (eBytes x4_1_0)), .d (.i .i64 x4_1_1), .d (.i .i64 x4_1_2)], .box [.d (.i .i64 0), .d (.i .i64 0), .d (.i .i64 0), .d (.i .i64 0), .nilsl], .arr 42 5 0 (eEvidences x1_0_3), .box [.d (.i .i64 x1_0_0), .d (.i .i64 x1_0_1), .d (.i .i64 x1_0_2_0), .d (.i .i64 x1_0_2_1), .sl 2 0]], _⟩ _
    refine VO_r (QR_ar) ?_
    refine goL ?_
    refine V_freeze 2 rfl rfl ?_
    refine V_ret ?_
    replace h := Option.some.inj h
    subst h
    exact R_rF [.d (.st [.i .i64 (IntKind.i64.wrap (x4_0 - 1)), .i .i64 x1_0_1, .st [.i .i64 x1_0_2_0, .i .i64 x1_0_2_1], .sl 5 (eEvidences x1_0_3)])] [.box [.d (.sl 1 (eBytes x4_1_0)), .d (.i .i64 x4_1_1), .d (.i .i64 x4_1_2)]] ⟨rfl, rfl⟩
  · replace h := cnd_f c3 h
    refine goL ?_
    refine V_cb (fun c5 => ?_) (fun c5 => ?_)
    · replace h := cnd_t c5 h
      refine goL ?_
      refine VO_lb (us := eInts [(-1), 0, 5]) ?_
      refine VO_freeze 4 rfl rfl ?_
      obtain ⟨x6, hx6, h⟩ := bnd_s h
      obtain ⟨x6_0, ⟨x6_1_0, x6_1_1, x6_1_2⟩⟩ := x6
      refine VO_cG [0] (w_l1PickInt (Tl1Cur.mk x2_1_0 x2_1_1 x2_1_2) [(-1), 0, 5] hx6) ?_
      rintro _ _ ⟨rfl, rfl⟩
      show VO _ _ _ _ ⟨(_, .d (.i .i64 x6_0)) :: _, [.box [.d (.sl 1 (eBytes x6_1_0)), .d (.i .i64 x6_1_1), .d (.i .i64 x6_1_2)], .box [.d (.i .i64 0), .d (.i .i64 0), .d (.i .i64 0), .d (.i .i64 0), .nilsl], .arr 42 5 0 (eEvidences x1_0_3), .box [.d (.i .i64 x1_0_0), .d (.i .i64 x1_0_1), .d (.i .i64 x1_0_2_0), .d (.i .i64 x1_0_2_1), .sl 2 0], .frz 3 1 0 (eInts [(-1), 0, 5])], _⟩ _
      refine goL ?_
      refine V_freeze 2 rfl rfl ?_
      refine V_ret ?_
      replace h := Option.some.inj h
      subst h
      exact R_rF [.d (.st [.i .i64 x1_0_0, .i .i64 x6_0, .st [.i .i64 x1_0_2_0, .i .i64 x1_0_2_1], .sl 5 (eEvidences x1_0_3)])] [.box [.d (.sl 1 (eBytes x6_1_0)), .d (.i .i64 x6_1_1), .d (.i .i64 x6_1_2)]] ⟨rfl, rfl⟩
    · replace h := cnd_f c5 h
      refine goL ?_
      refine V_cb (fun c7 => ?_) (fun c7 => ?_)
      · replace h := cnd_t c7 h
        refine goL ?_
        refine VO_lb (us := eInts [(-1), 1]) ?_
        refine VO_freeze 4 rfl rfl ?_
        obtain ⟨x8, hx8, h⟩ := bnd_s h
        obtain ⟨x8_0, ⟨x8_1_0, x8_1_1, x8_1_2⟩⟩ := x8
        refine VO_cG [0] (w_l1PickInt (Tl1Cur.mk x2_1_0 x2_1_1 x2_1_2) [(-1), 1] hx8) ?_
        rintro _ _ ⟨rfl, rfl⟩
        show VO _ _ _ _ ⟨(_, .d (.i .i64 x8_0)) :: _, [.box [.d (.sl 1 (eBytes x8_1_0)), .d (.i .i64 x8_1_1), .d (.i .i64 x8_1_2)], .box [.d (.i .i64 0), .d (.i .i64 0), .d (.i .i64 0), .d (.i .i64 0), .nilsl], .arr 42 5 0 (eEvidences x1_0_3), .box [.d (.i .i64 x1_0_0), .d (.i .i64 x1_0_1), .d (.i .i64 x1_0_2_0), .d (.i .i64 x1_0_2_1), .sl 2 0], .frz 3 1 0 (eInts [(-1), 1])], _⟩ _
        refine goL ?_
        refine V_freeze 2 rfl rfl ?_
        refine V_ret ?_
        replace h := Option.some.inj h
        subst h
        exact R_rF [.d (.st [.i .i64 x1_0_0, .i .i64 x1_0_1, .st [.i .i64 x8_0, .i .i64 x1_0_2_1], .sl 5 (eEvidences x1_0_3)])] [.box [.d (.sl 1 (eBytes x8_1_0)), .d (.i .i64 x8_1_1), .d (.i .i64 x8_1_2)]] ⟨rfl, rfl⟩
      · replace h := cnd_f c7 h
        refine goL ?_
        refine V_cb (fun c9 => ?_) (fun c9 => ?_)
        · replace h := cnd_t c9 h
          refine goL ?_
          refine V_block ?_
          show V _ _ _ _ _
          refine V_loop3 (fun (y12 : Nat) (y10 : List TEvidence) (v11 : Nat) => ⟨[(2, .ptr 1 0), (3, .ptr 3 0), (4, .d (.i .i64 (y12 : Int)))], [.box [.d (.sl 1 (eBytes x2_1_0)), .d (.i .i64 x2_1_1), .d (.i .i64 x2_1_2)], .box [.d (.i .i64 0), .d (.i .i64 0), .d (.i .i64 0), .d (.i .i64 0), .nilsl], .arr 42 5 v11 (eEvidences y10), .box [.d (.i .i64 x1_0_0), .d (.i .i64 x1_0_1), .d (.i .i64 x1_0_2_0), .d (.i .i64 x1_0_2_1), .sl 2 v11]], Tryz.f26.ntmps⟩) (fun y12 y10 v11 => y12 ≤ 4 ∧ b_l24Bent_l1 ((TEvidence.mk x1_0_0 x1_0_1 (TInstanceRef.mk x1_0_2_0 x1_0_2_1) x1_0_3), (Tl1Cur.mk x1_1_0 x1_1_1 x1_1_2)) (x2_0, (Tl1Cur.mk x2_1_0 x2_1_1 x2_1_2)) (4 - y12) y10 = some r) (fun y12 y10 v11 => 4 - y12) 0 x1_0_3 0 ⟨rfl, ⟨⟨rfl, rfl⟩, ⟨rfl, rfl⟩, ⟨rfl, rfl⟩, trivial⟩, ⟨[], rfl⟩, rfl⟩ ⟨by simp, h⟩ ?_
          rintro y12 y10 v11 ⟨hky12, h⟩
          refine goL ?_
          refine V_cb (fun c13 => ?_) (fun c13 => ?_)
          · have hky122 : y12 < 4 := by have := of_decide_eq_true c13; omega
            obtain ⟨m14, hm14⟩ : ∃ m, 4 - y12 = m + 1 := ⟨4 - y12 - 1, by omega⟩
            rw [hm14, b_l24Bent_l1.eq_2] at h
            refine V_skip ?_
            show V _ _ _ _ _
            refine V_seq (V_block ?_)
            refine goL ?_
            refine VO_k (Q_build TBd.h TZ.h rfl (by repeat constructor)) ?_
            refine VO_la1 (u := (.st [.i .i64 2, .i .i64 0, .st [.i .i64 0, .i .i64 0], .sl 5 []])) ?_
            obtain ⟨g15, h⟩ := gd_s h
            refine VO_apa g15 ?_
            refine goL ?_
            refine VO_r (QR_inc y12 (by omega)) ?_
            refine goL ?_
            rw [show m14 = 4 - (y12 + 1) by omega] at h
            exact ⟨(y12 + 1), (y10 ++ [(TEvidence.mk 2 0 (TInstanceRef.mk 0 0) [])]), (v11 + 1), ⟨by omega, h⟩, by omega, ⟨rfl, ⟨⟨rfl, rfl⟩, ⟨rfl, rfl⟩, ⟨rfl, rfl⟩, trivial⟩, ⟨_, rfl⟩, rfl⟩⟩
          · have hky122 : 4 ≤ y12 := by have := of_decide_eq_false c13; omega
            rw [show 4 - y12 = 0 by omega, b_l24Bent_l1.eq_1] at h
            refine V_exit ?_
            show V _ _ _ _ _
            refine goL ?_
            refine V_freeze 2 rfl rfl ?_
            refine V_ret ?_
            replace h := Option.some.inj h
            subst h
            exact R_rF [.d (.st [.i .i64 x1_0_0, .i .i64 x1_0_1, .st [.i .i64 x1_0_2_0, .i .i64 x1_0_2_1], .sl 5 (eEvidences y10)])] [.box [.d (.sl 1 (eBytes x2_1_0)), .d (.i .i64 x2_1_1), .d (.i .i64 x2_1_2)]] ⟨rfl, rfl⟩
        · replace h := cnd_f c9 h
          refine V_skip ?_
          show V _ _ _ _ _
          refine goL ?_
          refine V_freeze 2 rfl rfl ?_
          refine V_ret ?_
          replace h := Option.some.inj h
          subst h
          exact R_rF [.d (.st [.i .i64 x1_0_0, .i .i64 x1_0_1, .st [.i .i64 x1_0_2_0, .i .i64 x1_0_2_1], .sl 5 (eEvidences x1_0_3)])] [.box [.d (.sl 1 (eBytes x2_1_0)), .d (.i .i64 x2_1_1), .d (.i .i64 x2_1_2)]] ⟨rfl, rfl⟩
def b_drawAS (a0 : List UInt8) : Option (TEvidence × List Int) :=
lt_ (l1NewT a0) fun x1 =>
bnd (b_l24Bent x1) fun x2 =>
bnd (b_l1Below x2.2 3) fun x3 =>
bnd (b_l1Below x3.2 2) fun x4 =>
bnd (b_l1Below x4.2 4) fun x5 =>
gd (0 ≤ x5.1 ∧ x5.1 ≤ ([x3.1, x4.1, 0].length : Int)) (
(some (x2.1, ([x3.1, x4.1, 0].take (Int.toNat x5.1)))))
set_option maxHeartbeats 4000000 in
theorem w_drawAS (a0 : List UInt8) {r : TEvidence × List Int} (h : b_drawAS a0 = some r) : SpecP Tryz.prog 11 [.d (.sl 1 (eBytes a0))] [eEvidence r.1, .sl 1 (eInts r.2)] := by
  unfold b_drawAS at h
  refine SpecP_intro Tryz.func11 rfl (by kernel_rfl) rfl fun A _ => ?_
  refine goL ?_
  obtain ⟨x1, hx1, h⟩ := lt_x h
  obtain ⟨x1_0, x1_1, x1_2⟩ := x1
  have sx1 := t_l1New a0
  rw [hx1] at sx1
  refine VO_cG [] (sx1) ?_
  rintro _ _ ⟨rfl, rfl⟩
  show VO _ _ _ _ ⟨(_, .ptr 1 0) :: _, [.box [.d (.i .i64 0), .d (.i .i64 0), .d (.i .i64 0), .d (.i .i64 0), .nilsl], .box [.d (.sl 1 (eBytes x1_0)), .d (.i .i64 x1_1), .d (.i .i64 x1_2)]], _⟩ _
  refine goNL ?_
  obtain ⟨x2, hx2, h⟩ := bnd_s h
  obtain ⟨⟨x2_0_0, x2_0_1, ⟨x2_0_2_0, x2_0_2_1⟩, x2_0_3⟩, ⟨x2_1_0, x2_1_1, x2_1_2⟩⟩ := x2
  obtain ⟨x3, hx3, h⟩ := bnd_s h
  obtain ⟨x3_0, ⟨x3_1_0, x3_1_1, x3_1_2⟩⟩ := x3
  obtain ⟨x4, hx4, h⟩ := bnd_s h
  obtain ⟨x4_0, ⟨x4_1_0, x4_1_1, x4_1_2⟩⟩ := x4
  obtain ⟨x5, hx5, h⟩ := bnd_s h
  obtain ⟨x5_0, ⟨x5_1_0, x5_1_1, x5_1_2⟩⟩ := x5
  obtain ⟨g6, h⟩ := gd_s h
  refine V_seq_drawTJ (P := Tryz.prog) Mix.h (.q 0 (.q 2 (.q 4 (.q 7 (.h 1 (.h 3 (.h 5 (.h 6 (.h 8 (.h 9 (.h 10 (.q 11 .nil) .nil) (.h 10 (.h 9 (.q 11 .nil) .nil) .nil)) .nil) (.h 8 (.h 6 (.h 9 (.h 10 (.q 11 .nil) .nil) (.h 10 (.h 9 (.q 11 .nil) .nil) .nil)) (.h 10 (.h 6 (.h 9 (.q 11 .nil) .nil) .nil) .nil)) .nil)) .nil) .nil) .nil))))) ⟨[(2, .ptr 0 0), (3, .d (.sl 1 (eInts ([x3_0, x4_0, 0].take (Int.toNat x5_0)))))], [.box [.d (.i .i64 x2_0_0), .d (.i .i64 x2_0_1), .d (.i .i64 x2_0_2_0), .d (.i .i64 x2_0_2_1), .d (.sl 5 (eEvidences x2_0_3))], .box [.d (.sl 1 (eBytes x5_1_0)), .d (.i .i64 x5_1_1), .d (.i .i64 x5_1_2)], .frz 3 1 0 (eInts [x3_0, x4_0, 0])], Tryz.f11.ntmps⟩ (by kernel_rfl) ?_ ?_
  · refine goT ?_
    refine VT_h1 (VY_cG (sv := .d (.st [.i .i64 x2_0_0, .i .i64 x2_0_1, .st [.i .i64 x2_0_2_0, .i .i64 x2_0_2_1], .sl 5 (eEvidences x2_0_3)])) (L' := [.box [.d (.i .i64 0), .d (.i .i64 0), .d (.i .i64 0), .d (.i .i64 0), .nilsl], .box [.d (.sl 1 (eBytes x2_1_0)), .d (.i .i64 x2_1_1), .d (.i .i64 x2_1_2)]]) [1] (w_l24Bent (Tl1Cur.mk x1_0 x1_1 x1_2) hx2) VY_e) ?_
    refine VT_h1 (VY_cG (sv := .d (.i .i64 x3_0)) (L' := [.box [.d (.i .i64 0), .d (.i .i64 0), .d (.i .i64 0), .d (.i .i64 0), .nilsl], .box [.d (.sl 1 (eBytes x3_1_0)), .d (.i .i64 x3_1_1), .d (.i .i64 x3_1_2)]]) [1] (w_l1Below (Tl1Cur.mk x2_1_0 x2_1_1 x2_1_2) 3 hx3) VY_e) ?_
    refine VT_h1 (VY_cG (sv := .d (.i .i64 x4_0)) (L' := [.box [.d (.i .i64 0), .d (.i .i64 0), .d (.i .i64 0), .d (.i .i64 0), .nilsl], .box [.d (.sl 1 (eBytes x4_1_0)), .d (.i .i64 x4_1_1), .d (.i .i64 x4_1_2)]]) [1] (w_l1Below (Tl1Cur.mk x3_1_0 x3_1_1 x3_1_2) 2 hx4) VY_e) ?_
    refine VT_h (VY_lb (T := 43) (us := eInts [x3_0, x4_0, 0]) VY_e) ?_ ?_
    · refine VT_h1 (VY_cG (sv := .d (.i .i64 x5_0)) (L' := [.box [.d (.i .i64 0), .d (.i .i64 0), .d (.i .i64 0), .d (.i .i64 0), .nilsl], .box [.d (.sl 1 (eBytes x5_1_0)), .d (.i .i64 x5_1_1), .d (.i .i64 x5_1_2)], .arr 3 1 0 (eInts [x3_0, x4_0, 0])]) [1] (w_l1Below (Tl1Cur.mk x4_1_0 x4_1_1 x4_1_2) 4 hx5) VY_e) ?_
      refine VT_h (VY_frz 2 rfl rfl (VY_slf g6 VY_e)) ?_ ?_
      · refine goT ?_
        refine VT_nil ?_
        exact R_pk 0 [0, 1, 2]
      refine goT ?_
      refine VT_h1 (VY_frz 2 rfl rfl (VY_slf g6 VY_e)) ?_
      refine goT ?_
      refine VT_nil ?_
      exact R_pk 0 [0, 1, 2]
    refine VT_h1 (VY_cG (sv := .d (.i .i64 x5_0)) (L' := [.box [.d (.i .i64 0), .d (.i .i64 0), .d (.i .i64 0), .d (.i .i64 0), .nilsl], .box [.d (.sl 1 (eBytes x5_1_0)), .d (.i .i64 x5_1_1), .d (.i .i64 x5_1_2)]]) [1] (w_l1Below (Tl1Cur.mk x4_1_0 x4_1_1 x4_1_2) 4 hx5) VY_e) ?_
    refine VT_h (VY_lb (T := 43) (us := eInts [x3_0, x4_0, 0]) VY_e) ?_ ?_
    · refine VT_h (VY_frz 2 rfl rfl (VY_slf g6 VY_e)) ?_ ?_
      · refine goT ?_
        refine VT_nil ?_
        exact R_pk 0 [0, 1, 2]
      refine goT ?_
      refine VT_h1 (VY_frz 2 rfl rfl (VY_slf g6 VY_e)) ?_
      refine goT ?_
      refine VT_nil ?_
      exact R_pk 0 [0, 1, 2]
    refine goT ?_
    refine VT_h1 (VY_lb (T := 43) (us := eInts [x3_0, x4_0, 0]) VY_e) ?_
    refine VT_h1 (VY_frz 2 rfl rfl (VY_slf g6 VY_e)) ?_
    refine goT ?_
    refine VT_nil ?_
    exact R_pk 0 [0, 1, 2]
  refine goL ?_
  refine V_ret ?_
  replace h := Option.some.inj h
  subst h
  exact R_rP
end Go.Proofs.YtgmlpaaklnkghaaGreat
