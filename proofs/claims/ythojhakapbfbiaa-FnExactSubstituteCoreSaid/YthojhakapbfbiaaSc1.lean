/- Sc1. Written by a program of mine (aw.py). -/
import Derived.Test.YthojhakapbfbiaaFacts
import Derived.Test.YthojhakapbfbiaaZk1
set_option linter.unusedVariables false
set_option linter.unusedSimpArgs false
set_option linter.unusedSectionVars false
namespace Go.Proofs.Ythojhakapbfbiaa
open Go Go.Eng
attribute [local irreducible] V VO VQ VY Quiet QR SpecP SpecO MSpec Rng PostP PostO PostG
def b_iCopyEv (rec_iCopyEv : TEvidence → Option (TEvidence)) (rec_iCopyEvs : (List TEvidence) → Option (List TEvidence)) (a0 : TEvidence) : Option (TEvidence) :=
bnd (rec_iCopyEvs a0.args) fun x1 =>
(some (TEvidence.mk a0.kind a0.n a0.at_ x1))
set_option maxHeartbeats 4000000 in
theorem w_iCopyEv {rec_iCopyEv : TEvidence → Option (TEvidence)} {rec_iCopyEvs : (List TEvidence) → Option (List TEvidence)} (hrec_iCopyEv : ∀ (x0 : TEvidence) {r : TEvidence}, rec_iCopyEv x0 = some r → SpecO Try.prog 58 [.d (eEvidence x0)] [149] [eEvidence r]) (hrec_iCopyEvs : ∀ (x0 : List TEvidence) {r : List TEvidence}, rec_iCopyEvs x0 = some r → SpecO Try.prog 95 [.d (.sl 5 (eEvidences x0))] [149] [.sl 5 (eEvidences r)]) (a0 : TEvidence) {r : TEvidence} (h : b_iCopyEv rec_iCopyEv rec_iCopyEvs a0 = some r) : SpecO Try.prog 58 [.d (eEvidence a0)] [149] [eEvidence r] := by
  obtain ⟨a0_0, a0_1, ⟨a0_2_0, a0_2_1⟩, a0_3⟩ := a0
  unfold b_iCopyEv at h
  refine SpecO_intro Try.func58 rfl (by kernel_rfl) rfl (by simp) fun A _ => ?_
  refine goL ?_
  obtain ⟨x1, hx1, h⟩ := bnd_s h
  refine VO_co (hrec_iCopyEvs a0_3 hx1) ?_
  refine goL ?_
  refine V_ret ?_
  replace h := Option.some.inj h
  subst h
  exact R_rO
def b_iCopyEvs_l1 (rec_iCopyEv : TEvidence → Option (TEvidence)) : List TEvidence → Nat → (List TEvidence) → Option (List TEvidence)
  | [], y4, y2 => (some y2)
  | x7 :: xs, y4, y2 => bnd (rec_iCopyEv x7) fun x8 =>
gd (y4 < y2.length) (
b_iCopyEvs_l1 rec_iCopyEv xs (y4 + 1) (y2.set y4 x8))
def b_iCopyEvs (rec_iCopyEv : TEvidence → Option (TEvidence)) (rec_iCopyEvs : (List TEvidence) → Option (List TEvidence)) (a0 : List TEvidence) : Option (List TEvidence) :=
gd (a0.length ≤ 4294967296) (
b_iCopyEvs_l1 rec_iCopyEv a0 0 (List.replicate a0.length (TEvidence.mk 0 0 (TInstanceRef.mk 0 0) [])))
set_option maxHeartbeats 4000000 in
theorem w_iCopyEvs {rec_iCopyEv : TEvidence → Option (TEvidence)} {rec_iCopyEvs : (List TEvidence) → Option (List TEvidence)} (hrec_iCopyEv : ∀ (x0 : TEvidence) {r : TEvidence}, rec_iCopyEv x0 = some r → SpecO Try.prog 58 [.d (eEvidence x0)] [149] [eEvidence r]) (hrec_iCopyEvs : ∀ (x0 : List TEvidence) {r : List TEvidence}, rec_iCopyEvs x0 = some r → SpecO Try.prog 95 [.d (.sl 5 (eEvidences x0))] [149] [.sl 5 (eEvidences r)]) (a0 : List TEvidence) {r : List TEvidence} (h : b_iCopyEvs rec_iCopyEv rec_iCopyEvs a0 = some r) : SpecO Try.prog 95 [.d (.sl 5 (eEvidences a0))] [149] [.sl 5 (eEvidences r)] := by
  unfold b_iCopyEvs at h
  refine SpecO_intro Try.func95 rfl (by kernel_rfl) rfl (by simp) fun A _ => ?_
  refine goL ?_
  obtain ⟨g1, h⟩ := gd_s h
  refine VO_mk (TEvidence.mk 0 0 (TInstanceRef.mk 0 0) []) g1 ?_
  refine goL ?_
  refine V_block ?_
  show V _ _ _ _ _
  refine V_bd 9 (fun z5 => ?_)
  refine V_loop3 (fun (y4 : Nat) (y2 : List TEvidence) (v3 : Nat) => ⟨[(3, .sl 0 v3), (9, .d (.sl 5 (eEvidences a0))), (10, .d (.i .i64 (a0.length : Int))), (11, .d (.i .i64 (y4 : Int)))], [.own 149 5 v3 (eEvidences y2)], Try.f95.ntmps⟩) (fun y4 y2 v3 => b_iCopyEvs_l1 rec_iCopyEv (a0.drop y4) y4 y2 = some r) (fun y4 y2 v3 => a0.length - y4) 0 (List.replicate a0.length (TEvidence.mk 0 0 (TInstanceRef.mk 0 0) [])) 0 ⟨rfl, ⟨⟨rfl, rfl⟩, ⟨rfl, rfl⟩, ⟨rfl, rfl⟩, ⟨rfl, rfl⟩, trivial⟩, ⟨[], rfl⟩, rfl⟩ h ?_
  rintro y4 y2 v3 h
  refine goL ?_
  refine V_seq (V_cb (fun c6 => ?_) (fun c6 => ?_))
  · have hky42 := kltN c6
    obtain ⟨x7, hx7, hdx7⟩ := drop_at hky42
    rw [hdx7, b_iCopyEvs_l1.eq_2] at h
    obtain ⟨x7_0, x7_1, ⟨x7_2_0, x7_2_1⟩, x7_3⟩ := x7
    refine V_skip ?_
    show V _ _ _ _ _
    refine V_seq (V_block ?_)
    refine goL ?_
    refine VO_r (QR_ixn y4 (gEvidence hx7)) ?_
    refine goL ?_
    obtain ⟨x8, hx8, h⟩ := bnd_s h
    obtain ⟨x8_0, x8_1, ⟨x8_2_0, x8_2_1⟩, x8_3⟩ := x8
    refine VO_co (hrec_iCopyEv (TEvidence.mk x7_0 x7_1 (TInstanceRef.mk x7_2_0 x7_2_1) x7_3) hx8) ?_
    obtain ⟨g9, h⟩ := gd_s h
    refine VO_k (Q_ixo y4 g9) ?_
    refine VO_st (TEvidence.mk x8_0 x8_1 (TInstanceRef.mk x8_2_0 x8_2_1) x8_3) g9 ?_
    refine goL ?_
    refine VO_r (QR_inc y4 (by omega)) ?_
    refine goL ?_
    exact ⟨(y4 + 1), (y2.set y4 (TEvidence.mk x8_0 x8_1 (TInstanceRef.mk x8_2_0 x8_2_1) x8_3)), v3, h, by omega, ⟨rfl, ⟨⟨rfl, rfl⟩, ⟨rfl, rfl⟩, ⟨rfl, rfl⟩, ⟨rfl, rfl⟩, trivial⟩, ⟨_, rfl⟩, rfl⟩⟩
  · have hky42 := kgeN c6
    rw [drop_end hky42, b_iCopyEvs_l1.eq_1] at h
    refine V_exit ?_
    show V _ _ _ _ _
    refine goL ?_
    refine V_ret ?_
    replace h := Option.some.inj h
    subst h
    exact R_rO
mutual
def m_iCopyEv : Nat → TEvidence → Option (TEvidence)
  | 0, _ => none
  | n + 1, x0 => b_iCopyEv (m_iCopyEv n) (m_iCopyEvs n) x0
def m_iCopyEvs : Nat → (List TEvidence) → Option (List TEvidence)
  | 0, _ => none
  | n + 1, x0 => b_iCopyEvs (m_iCopyEv n) (m_iCopyEvs n) x0
end
theorem ss_iCopyEv : ∀ (n : Nat), (∀ (x0 : TEvidence) {r : TEvidence}, m_iCopyEv n x0 = some r → SpecO Try.prog 58 [.d (eEvidence x0)] [149] [eEvidence r]) ∧ (∀ (x0 : List TEvidence) {r : List TEvidence}, m_iCopyEvs n x0 = some r → SpecO Try.prog 95 [.d (.sl 5 (eEvidences x0))] [149] [.sl 5 (eEvidences r)]) := by
  intro n
  induction n with
  | zero => exact ⟨(by intro x0 r h; cases h), (by intro x0 r h; cases h)⟩
  | succ n ih =>
    obtain ⟨ih0, ih1⟩ := ih
    refine ⟨(fun x0 r h => w_iCopyEv ih0 ih1 x0 h), (fun x0 r h => w_iCopyEvs ih0 ih1 x0 h)⟩
theorem s_iCopyEv : ∀ (n : Nat) (x0 : TEvidence) {r : TEvidence}, m_iCopyEv n x0 = some r → SpecO Try.prog 58 [.d (eEvidence x0)] [149] [eEvidence r] := fun n => (ss_iCopyEv n).1
theorem s_iCopyEvs : ∀ (n : Nat) (x0 : List TEvidence) {r : List TEvidence}, m_iCopyEvs n x0 = some r → SpecO Try.prog 95 [.d (.sl 5 (eEvidences x0))] [149] [.sl 5 (eEvidences r)] := fun n => (ss_iCopyEv n).2
def b_sCopyEv (rec_sCopyEv : TEvidence → Option (TEvidence)) (rec_sCopyEvs : (List TEvidence) → Option (List TEvidence)) (a0 : TEvidence) : Option (TEvidence) :=
bnd (rec_sCopyEvs a0.args) fun x1 =>
(some (TEvidence.mk a0.kind a0.n a0.at_ x1))
set_option maxHeartbeats 4000000 in
theorem w_sCopyEv {rec_sCopyEv : TEvidence → Option (TEvidence)} {rec_sCopyEvs : (List TEvidence) → Option (List TEvidence)} (hrec_sCopyEv : ∀ (x0 : TEvidence) {r : TEvidence}, rec_sCopyEv x0 = some r → SpecO Try.prog 89 [.d (eEvidence x0)] [149] [eEvidence r]) (hrec_sCopyEvs : ∀ (x0 : List TEvidence) {r : List TEvidence}, rec_sCopyEvs x0 = some r → SpecO Try.prog 50 [.d (.sl 5 (eEvidences x0))] [149] [.sl 5 (eEvidences r)]) (a0 : TEvidence) {r : TEvidence} (h : b_sCopyEv rec_sCopyEv rec_sCopyEvs a0 = some r) : SpecO Try.prog 89 [.d (eEvidence a0)] [149] [eEvidence r] := by
  obtain ⟨a0_0, a0_1, ⟨a0_2_0, a0_2_1⟩, a0_3⟩ := a0
  unfold b_sCopyEv at h
  refine SpecO_intro Try.func89 rfl (by kernel_rfl) rfl (by simp) fun A _ => ?_
  refine goL ?_
  obtain ⟨x1, hx1, h⟩ := bnd_s h
  refine VO_co (hrec_sCopyEvs a0_3 hx1) ?_
  refine goL ?_
  refine V_ret ?_
  replace h := Option.some.inj h
  subst h
  exact R_rO
def b_sCopyEvs_l1 (rec_sCopyEv : TEvidence → Option (TEvidence)) : List TEvidence → (List TEvidence) → Option (List TEvidence)
  | [], y1 => (some y1)
  | x6 :: xs, y1 => bnd (rec_sCopyEv x6) fun x7 =>
gd (y1.length + [x7].length ≤ 4294967296) (
b_sCopyEvs_l1 rec_sCopyEv xs (y1 ++ [x7]))
def b_sCopyEvs (rec_sCopyEv : TEvidence → Option (TEvidence)) (rec_sCopyEvs : (List TEvidence) → Option (List TEvidence)) (a0 : List TEvidence) : Option (List TEvidence) :=
b_sCopyEvs_l1 rec_sCopyEv a0 []
set_option maxHeartbeats 4000000 in
theorem w_sCopyEvs {rec_sCopyEv : TEvidence → Option (TEvidence)} {rec_sCopyEvs : (List TEvidence) → Option (List TEvidence)} (hrec_sCopyEv : ∀ (x0 : TEvidence) {r : TEvidence}, rec_sCopyEv x0 = some r → SpecO Try.prog 89 [.d (eEvidence x0)] [149] [eEvidence r]) (hrec_sCopyEvs : ∀ (x0 : List TEvidence) {r : List TEvidence}, rec_sCopyEvs x0 = some r → SpecO Try.prog 50 [.d (.sl 5 (eEvidences x0))] [149] [.sl 5 (eEvidences r)]) (a0 : List TEvidence) {r : List TEvidence} (h : b_sCopyEvs rec_sCopyEv rec_sCopyEvs a0 = some r) : SpecO Try.prog 50 [.d (.sl 5 (eEvidences a0))] [149] [.sl 5 (eEvidences r)] := by
  unfold b_sCopyEvs at h
  refine SpecO_intro Try.func50 rfl (by kernel_rfl) rfl (by simp) fun A _ => ?_
  refine goL ?_
  refine VO_l0 ?_
  refine goL ?_
  refine V_block ?_
  show V _ _ _ _ _
  refine V_bd 0 (fun z4 => ?_)
  refine V_loop3 (fun (y3 : Nat) (y1 : List TEvidence) (v2 : Nat) => ⟨[(0, .d (.sl 5 (eEvidences a0))), (3, .sl 0 v2), (4, .d (.i .i64 (y3 : Int)))], [.own 149 5 v2 (eEvidences y1)], Try.f50.ntmps⟩) (fun y3 y1 v2 => b_sCopyEvs_l1 rec_sCopyEv (a0.drop y3) y1 = some r) (fun y3 y1 v2 => a0.length - y3) 0 [] 0 ⟨rfl, ⟨⟨rfl, rfl⟩, ⟨rfl, rfl⟩, ⟨rfl, rfl⟩, trivial⟩, ⟨[], rfl⟩, rfl⟩ h ?_
  rintro y3 y1 v2 h
  refine goL ?_
  refine V_cb (fun c5 => ?_) (fun c5 => ?_)
  · have hky32 := kltN c5
    obtain ⟨x6, hx6, hdx6⟩ := drop_at hky32
    rw [hdx6, b_sCopyEvs_l1.eq_2] at h
    obtain ⟨x6_0, x6_1, ⟨x6_2_0, x6_2_1⟩, x6_3⟩ := x6
    refine V_skip ?_
    show V _ _ _ _ _
    refine V_seq (V_block ?_)
    refine goL ?_
    refine VO_r (QR_ixn y3 (gEvidence hx6)) ?_
    refine goL ?_
    obtain ⟨x7, hx7, h⟩ := bnd_s h
    obtain ⟨x7_0, x7_1, ⟨x7_2_0, x7_2_1⟩, x7_3⟩ := x7
    refine VO_co (hrec_sCopyEv (TEvidence.mk x6_0 x6_1 (TInstanceRef.mk x6_2_0 x6_2_1) x6_3) hx7) ?_
    refine VO_l1t (TEvidence.mk x7_0 x7_1 (TInstanceRef.mk x7_2_0 x7_2_1) x7_3) ?_
    obtain ⟨g8, h⟩ := gd_s h
    refine VO_ap g8 ?_
    refine goL ?_
    refine VO_r (QR_inc y3 (by omega)) ?_
    refine goL ?_
    exact ⟨(y3 + 1), (y1 ++ [(TEvidence.mk x7_0 x7_1 (TInstanceRef.mk x7_2_0 x7_2_1) x7_3)]), (v2 + 1), h, by omega, ⟨rfl, ⟨⟨rfl, rfl⟩, ⟨rfl, rfl⟩, ⟨rfl, rfl⟩, trivial⟩, ⟨_, rfl⟩, rfl⟩⟩
  · have hky32 := kgeN c5
    rw [drop_end hky32, b_sCopyEvs_l1.eq_1] at h
    refine V_exit ?_
    show V _ _ _ _ _
    refine goL ?_
    refine V_ret ?_
    replace h := Option.some.inj h
    subst h
    exact R_rO
mutual
def m_sCopyEv : Nat → TEvidence → Option (TEvidence)
  | 0, _ => none
  | n + 1, x0 => b_sCopyEv (m_sCopyEv n) (m_sCopyEvs n) x0
def m_sCopyEvs : Nat → (List TEvidence) → Option (List TEvidence)
  | 0, _ => none
  | n + 1, x0 => b_sCopyEvs (m_sCopyEv n) (m_sCopyEvs n) x0
end
theorem ss_sCopyEv : ∀ (n : Nat), (∀ (x0 : TEvidence) {r : TEvidence}, m_sCopyEv n x0 = some r → SpecO Try.prog 89 [.d (eEvidence x0)] [149] [eEvidence r]) ∧ (∀ (x0 : List TEvidence) {r : List TEvidence}, m_sCopyEvs n x0 = some r → SpecO Try.prog 50 [.d (.sl 5 (eEvidences x0))] [149] [.sl 5 (eEvidences r)]) := by
  intro n
  induction n with
  | zero => exact ⟨(by intro x0 r h; cases h), (by intro x0 r h; cases h)⟩
  | succ n ih =>
    obtain ⟨ih0, ih1⟩ := ih
    refine ⟨(fun x0 r h => w_sCopyEv ih0 ih1 x0 h), (fun x0 r h => w_sCopyEvs ih0 ih1 x0 h)⟩
theorem s_sCopyEv : ∀ (n : Nat) (x0 : TEvidence) {r : TEvidence}, m_sCopyEv n x0 = some r → SpecO Try.prog 89 [.d (eEvidence x0)] [149] [eEvidence r] := fun n => (ss_sCopyEv n).1
theorem s_sCopyEvs : ∀ (n : Nat) (x0 : List TEvidence) {r : List TEvidence}, m_sCopyEvs n x0 = some r → SpecO Try.prog 50 [.d (.sl 5 (eEvidences x0))] [149] [.sl 5 (eEvidences r)] := fun n => (ss_sCopyEv n).2
/-! ### evidence, by hand -/
mutual
def evn : TEvidence → Nat
  | ⟨_, _, _, ts⟩ => 1 + evns ts
def evns : List TEvidence → Nat
  | [] => 0
  | a :: ts => evn a + evns ts
end
mutual
def eok : TEvidence → Prop
  | ⟨_, _, _, ts⟩ => ts.length ≤ 4294967296 ∧ eall ts
def eall : List TEvidence → Prop
  | [] => True
  | a :: ts => eok a ∧ eall ts
end
def esok (ts : List TEvidence) : Prop := ts.length ≤ 4294967296 ∧ eall ts
theorem eall_iff : ∀ {ts : List TEvidence}, eall ts ↔ ∀ t ∈ ts, eok t
  | [] => by simp [eall]
  | a :: ts => by simp [eall, eall_iff (ts := ts)]
theorem evn_mem {x : TEvidence} : ∀ {ts : List TEvidence}, x ∈ ts → evn x ≤ evns ts
  | [], h => by simp at h
  | a :: ts, h => by
    simp only [evns]
    rcases List.mem_cons.1 h with rfl | h
    · omega
    · have := evn_mem h
      omega
theorem evn_pos (t : TEvidence) : 1 ≤ evn t := by cases t; simp only [evn]; omega
def idE (t : TEvidence) : TEvidence := t
def idEs (t : List TEvidence) : List TEvidence := t
mutual
def eokB : TEvidence → Bool
  | ⟨_, _, _, ts⟩ => decide (ts.length ≤ 4294967296) && eallB ts
def eallB : List TEvidence → Bool
  | [] => true
  | a :: ts => eokB a && eallB ts
end
mutual
theorem eokB_iff : ∀ (t : TEvidence), eokB t = true ↔ eok t
  | ⟨k, n, p, ts⟩ => by simp only [eokB, eok, Bool.and_eq_true, decide_eq_true_eq, eallB_iff ts]
theorem eallB_iff : ∀ (ts : List TEvidence), eallB ts = true ↔ eall ts
  | [] => by simp [eallB, eall]
  | a :: ts => by simp only [eallB, eall, Bool.and_eq_true, eokB_iff a, eallB_iff ts]
end
instance (t : TEvidence) : Decidable (eok t) := decidable_of_iff _ (eokB_iff t)
instance (ts : List TEvidence) : Decidable (eall ts) := decidable_of_iff _ (eallB_iff ts)
instance (ts : List TEvidence) : Decidable (esok ts) := inferInstanceAs (Decidable (_ ∧ _))
theorem iCopyEvs_l1_eq {rec : TEvidence → Option TEvidence} : ∀ (xs : List TEvidence) (k : Nat) (y : List TEvidence), (∀ x ∈ xs, rec x = some x) → y.length = k + xs.length → b_iCopyEvs_l1 rec xs k y = some (y.take k ++ xs)
  | [], k, y, _, h => by
    simp only [b_iCopyEvs_l1, List.append_nil]
    rw [List.take_of_length_le (by simp at h; omega)]
  | x :: xs, k, y, h1, h2 => by
    simp only [b_iCopyEvs_l1]
    rw [h1 x (by simp)]
    simp only [bnd, List.length_cons] at h2 ⊢
    rw [gd_eq (by omega), iCopyEvs_l1_eq xs (k + 1) _ (fun z hz => h1 z (by simp [hz])) (by simp; omega), take_set_succ (by omega)]
    simp
theorem iCopyEv_eq : ∀ (n : Nat), (∀ t : TEvidence, 2 * evn t ≤ n → eok t → m_iCopyEv n t = some (idE t)) ∧ (∀ ts : List TEvidence, 2 * evns ts + 1 ≤ n → esok ts → m_iCopyEvs n ts = some (idEs ts))
  | 0 => ⟨fun t h => by have := evn_pos t; omega, fun ts h => by omega⟩
  | n + 1 => by
    obtain ⟨h1, h2⟩ := iCopyEv_eq n
    refine ⟨fun t hn ht => ?_, fun ts hn ht => ?_⟩
    · obtain ⟨k, s, p, ts⟩ := t
      simp only [evn] at hn
      simp only [m_iCopyEv, b_iCopyEv]
      rw [h2 ts (by omega) (by simpa only [eok, esok] using ht)]
      rfl
    · simp only [m_iCopyEvs, b_iCopyEvs]
      rw [gd_eq ht.1, iCopyEvs_l1_eq ts 0 _ (fun x hx => h1 x (by have := evn_mem hx; omega) (eall_iff.1 ht.2 x hx)) (by simp)]
      simp [idEs]
theorem sCopyEvs_l1_eq {rec : TEvidence → Option TEvidence} : ∀ (xs : List TEvidence) (y : List TEvidence), (∀ x ∈ xs, rec x = some x) → y.length + xs.length ≤ 4294967296 → b_sCopyEvs_l1 rec xs y = some (y ++ xs)
  | [], y, _, h => by simp [b_sCopyEvs_l1]
  | x :: xs, y, h1, h2 => by
    simp only [b_sCopyEvs_l1]
    rw [h1 x (by simp)]
    simp only [bnd, List.length_cons, List.length_nil] at h2 ⊢
    rw [gd_eq (by omega), sCopyEvs_l1_eq xs _ (fun z hz => h1 z (by simp [hz])) (by simp; omega)]
    simp
theorem sCopyEv_eq : ∀ (n : Nat), (∀ t : TEvidence, 2 * evn t ≤ n → eok t → m_sCopyEv n t = some (idE t)) ∧ (∀ ts : List TEvidence, 2 * evns ts + 1 ≤ n → esok ts → m_sCopyEvs n ts = some (idEs ts))
  | 0 => ⟨fun t h => by have := evn_pos t; omega, fun ts h => by omega⟩
  | n + 1 => by
    obtain ⟨h1, h2⟩ := sCopyEv_eq n
    refine ⟨fun t hn ht => ?_, fun ts hn ht => ?_⟩
    · obtain ⟨k, s, p, ts⟩ := t
      simp only [evn] at hn
      simp only [m_sCopyEv, b_sCopyEv]
      rw [h2 ts (by omega) (by simpa only [eok, esok] using ht)]
      rfl
    · simp only [m_sCopyEvs, b_sCopyEvs]
      rw [sCopyEvs_l1_eq ts _ (fun x hx => h1 x (by have := evn_mem hx; omega) (eall_iff.1 ht.2 x hx)) (by simpa using ht.1)]
      simp [idEs]

theorem t_iCopyEv (x0 : TEvidence) (h : eok x0) : SpecO Try.prog 58 [.d (eEvidence x0)] [149] [eEvidence (idE x0)] := s_iCopyEv (2 * evn x0) x0 ((iCopyEv_eq _).1 _ (Nat.le_refl _) h)
theorem t_iCopyEvs (x0 : List TEvidence) (h : esok x0) : SpecO Try.prog 95 [.d (.sl 5 (eEvidences x0))] [149] [.sl 5 (eEvidences (idEs x0))] := s_iCopyEvs (2 * evns x0 + 1) x0 ((iCopyEv_eq _).2 _ (Nat.le_refl _) h)
theorem t_sCopyEv (x0 : TEvidence) (h : eok x0) : SpecO Try.prog 89 [.d (eEvidence x0)] [149] [eEvidence (idE x0)] := s_sCopyEv (2 * evn x0) x0 ((sCopyEv_eq _).1 _ (Nat.le_refl _) h)
theorem t_sCopyEvs (x0 : List TEvidence) (h : esok x0) : SpecO Try.prog 50 [.d (.sl 5 (eEvidences x0))] [149] [.sl 5 (eEvidences (idEs x0))] := s_sCopyEvs (2 * evns x0 + 1) x0 ((sCopyEv_eq _).2 _ (Nat.le_refl _) h)
end Go.Proofs.Ythojhakapbfbiaa
