/- Rm2. Written by a program of mine (aw.py). -/
import Derived.Test.YthojhakapbfbiaaGreatFacts
import Derived.Test.YthojhakapbfbiaaGreatEng53
import Derived.Test.YthojhakapbfbiaaGreatRm1
set_option linter.unusedVariables false
set_option linter.unusedSimpArgs false
set_option linter.unusedSectionVars false
namespace Go.Proofs.YthojhakapbfbiaaGreat
open Go Go.Eng
attribute [local irreducible] V VO VQ VY Quiet QR SpecP SpecO MSpec Rng PostP PostO
/-! ### slices.Clone of integers, by hand -/
def idI (l : List Int) : List Int := l
theorem t_CloneI (l : List Int) (hl : l.length ≤ 4294967296) : SpecO Tryz.prog 99 [.d (.sl 1 (eInts l))] [3] [.sl 1 (eInts (idI l))] := by
  refine SpecO_intro Tryz.func99 rfl (by kernel_rfl) rfl (by simp) fun A _ => ?_
  refine goL ?_
  refine VO_eqnil (fun b hb => ?_)
  refine goL ?_
  cases b with
  | true =>
    have h0 : l = [] := by
      cases l with
      | nil => rfl
      | cons a l => cases hb rfl
    subst h0
    refine V_ct ?_
    refine goL ?_
    refine V_adT 3 1 2 ?_
    refine V_ret ?_
    show PostO _ _ _ [.sl 1 ([] : List U)] _ _
    exact R_rO
  | false =>
    refine V_cf ?_
    refine V_skip ?_
    refine goL ?_
    refine VO_l0 ?_
    refine goL ?_
    refine VO_ap (l := []) (r := l) (by simpa using hl) ?_
    refine goL ?_
    refine V_ret ?_
    show PostO _ _ _ [.sl 1 (eInts ([] ++ l))] _ _
    exact R_rO
def b_iCopyD (rec_iCopyD : TDictionary → Option (TDictionary)) (rec_iCopyDs : (List TDictionary) → Option (List TDictionary)) (a0 : TDictionary) : Option (TDictionary) :=
gd (a0.steps.length ≤ 4294967296) (lt_ (idI a0.steps) fun x2 =>
bnd (rec_iCopyDs a0.args) fun x3 =>
(some (TDictionary.mk a0.kind a0.at_ x2 x3)))
set_option maxHeartbeats 4000000 in
theorem w_iCopyD {rec_iCopyD : TDictionary → Option (TDictionary)} {rec_iCopyDs : (List TDictionary) → Option (List TDictionary)} (hrec_iCopyD : ∀ (x0 : TDictionary) {r : TDictionary}, rec_iCopyD x0 = some r → SpecO Tryz.prog 53 [.d (eDictionary x0)] [3, 50] [eDictionary r]) (hrec_iCopyDs : ∀ (x0 : List TDictionary) {r : List TDictionary}, rec_iCopyDs x0 = some r → SpecO Tryz.prog 49 [.d (.sl 5 (eDictionarys x0))] [50] [.sl 5 (eDictionarys r)]) (a0 : TDictionary) {r : TDictionary} (h : b_iCopyD rec_iCopyD rec_iCopyDs a0 = some r) : SpecO Tryz.prog 53 [.d (eDictionary a0)] [3, 50] [eDictionary r] := by
  obtain ⟨a0_0, ⟨a0_1_0, a0_1_1⟩, a0_2, a0_3⟩ := a0
  unfold b_iCopyD at h
  refine SpecO_intro Tryz.func53 rfl (by kernel_rfl) rfl (by simp) fun A _ => ?_
  refine goL ?_
  obtain ⟨g1, h⟩ := gd_s h
  obtain ⟨x2, hx2, h⟩ := lt_x h
  have sx2 := t_CloneI a0_2 g1
  rw [hx2] at sx2
  refine VO_co (sx2) ?_
  refine goL ?_
  obtain ⟨x3, hx3, h⟩ := bnd_s h
  refine VO_co (hrec_iCopyDs a0_3 hx3) ?_
  refine goL ?_
  refine V_ret ?_
  replace h := Option.some.inj h
  subst h
  exact R_rO
def b_iCopyDs_l1 (rec_iCopyD : TDictionary → Option (TDictionary)) : List TDictionary → Nat → (List TDictionary) → Option (List TDictionary)
  | [], y4, y2 => (some y2)
  | x7 :: xs, y4, y2 => bnd (rec_iCopyD x7) fun x8 =>
gd (y4 < y2.length) (
b_iCopyDs_l1 rec_iCopyD xs (y4 + 1) (y2.set y4 x8))
def b_iCopyDs (rec_iCopyD : TDictionary → Option (TDictionary)) (rec_iCopyDs : (List TDictionary) → Option (List TDictionary)) (a0 : List TDictionary) : Option (List TDictionary) :=
gd (a0.length ≤ 4294967296) (
b_iCopyDs_l1 rec_iCopyD a0 0 (List.replicate a0.length (TDictionary.mk 0 (TInstanceRef.mk 0 0) [] [])))
set_option maxHeartbeats 4000000 in
theorem w_iCopyDs {rec_iCopyD : TDictionary → Option (TDictionary)} {rec_iCopyDs : (List TDictionary) → Option (List TDictionary)} (hrec_iCopyD : ∀ (x0 : TDictionary) {r : TDictionary}, rec_iCopyD x0 = some r → SpecO Tryz.prog 53 [.d (eDictionary x0)] [3, 50] [eDictionary r]) (hrec_iCopyDs : ∀ (x0 : List TDictionary) {r : List TDictionary}, rec_iCopyDs x0 = some r → SpecO Tryz.prog 49 [.d (.sl 5 (eDictionarys x0))] [50] [.sl 5 (eDictionarys r)]) (a0 : List TDictionary) {r : List TDictionary} (h : b_iCopyDs rec_iCopyD rec_iCopyDs a0 = some r) : SpecO Tryz.prog 49 [.d (.sl 5 (eDictionarys a0))] [50] [.sl 5 (eDictionarys r)] := by
  unfold b_iCopyDs at h
  refine SpecO_intro Tryz.func49 rfl (by kernel_rfl) rfl (by simp) fun A _ => ?_
  refine goL ?_
  obtain ⟨g1, h⟩ := gd_s h
  refine VO_mk (TDictionary.mk 0 (TInstanceRef.mk 0 0) [] []) g1 ?_
  refine goL ?_
  refine V_block ?_
  show V _ _ _ _ _
  refine V_bd 9 (fun z5 => ?_)
  refine V_loop3 (fun (y4 : Nat) (y2 : List TDictionary) (v3 : Nat) => ⟨[(3, .sl 0 v3), (9, .d (.sl 5 (eDictionarys a0))), (10, .d (.i .i64 (a0.length : Int))), (11, .d (.i .i64 (y4 : Int)))], [.own 50 5 v3 (eDictionarys y2)], Tryz.f49.ntmps⟩) (fun y4 y2 v3 => b_iCopyDs_l1 rec_iCopyD (a0.drop y4) y4 y2 = some r) (fun y4 y2 v3 => a0.length - y4) 0 (List.replicate a0.length (TDictionary.mk 0 (TInstanceRef.mk 0 0) [] [])) 0 ⟨rfl, ⟨⟨rfl, rfl⟩, ⟨rfl, rfl⟩, ⟨rfl, rfl⟩, ⟨rfl, rfl⟩, trivial⟩, ⟨[], rfl⟩, rfl⟩ h ?_
  rintro y4 y2 v3 h
  refine goL ?_
  refine V_seq (V_cb (fun c6 => ?_) (fun c6 => ?_))
  · have hky42 := kltN c6
    obtain ⟨x7, hx7, hdx7⟩ := drop_at hky42
    rw [hdx7, b_iCopyDs_l1.eq_2] at h
    obtain ⟨x7_0, ⟨x7_1_0, x7_1_1⟩, x7_2, x7_3⟩ := x7
    refine V_skip ?_
    show V _ _ _ _ _
    refine V_seq (V_block ?_)
    refine goL ?_
    refine VO_r (QR_ixn y4 (gDictionary hx7)) ?_
    refine goL ?_
    obtain ⟨x8, hx8, h⟩ := bnd_s h
    obtain ⟨x8_0, ⟨x8_1_0, x8_1_1⟩, x8_2, x8_3⟩ := x8
    refine VO_co (hrec_iCopyD (TDictionary.mk x7_0 (TInstanceRef.mk x7_1_0 x7_1_1) x7_2 x7_3) hx8) ?_
    obtain ⟨g9, h⟩ := gd_s h
    refine VO_k (Q_ixo y4 g9) ?_
    refine VO_st (TDictionary.mk x8_0 (TInstanceRef.mk x8_1_0 x8_1_1) x8_2 x8_3) g9 ?_
    refine goL ?_
    refine VO_r (QR_inc y4 (by omega)) ?_
    refine goL ?_
    exact ⟨(y4 + 1), (y2.set y4 (TDictionary.mk x8_0 (TInstanceRef.mk x8_1_0 x8_1_1) x8_2 x8_3)), v3, h, by omega, ⟨rfl, ⟨⟨rfl, rfl⟩, ⟨rfl, rfl⟩, ⟨rfl, rfl⟩, ⟨rfl, rfl⟩, trivial⟩, ⟨_, rfl⟩, rfl⟩⟩
  · have hky42 := kgeN c6
    rw [drop_end hky42, b_iCopyDs_l1.eq_1] at h
    refine V_exit ?_
    show V _ _ _ _ _
    refine goL ?_
    refine V_ret ?_
    replace h := Option.some.inj h
    subst h
    exact R_rO
mutual
def m_iCopyD : Nat → TDictionary → Option (TDictionary)
  | 0, _ => none
  | n + 1, x0 => b_iCopyD (m_iCopyD n) (m_iCopyDs n) x0
def m_iCopyDs : Nat → (List TDictionary) → Option (List TDictionary)
  | 0, _ => none
  | n + 1, x0 => b_iCopyDs (m_iCopyD n) (m_iCopyDs n) x0
end
theorem ss_iCopyD : ∀ (n : Nat), (∀ (x0 : TDictionary) {r : TDictionary}, m_iCopyD n x0 = some r → SpecO Tryz.prog 53 [.d (eDictionary x0)] [3, 50] [eDictionary r]) ∧ (∀ (x0 : List TDictionary) {r : List TDictionary}, m_iCopyDs n x0 = some r → SpecO Tryz.prog 49 [.d (.sl 5 (eDictionarys x0))] [50] [.sl 5 (eDictionarys r)]) := by
  intro n
  induction n with
  | zero => exact ⟨(by intro x0 r h; cases h), (by intro x0 r h; cases h)⟩
  | succ n ih =>
    obtain ⟨ih0, ih1⟩ := ih
    refine ⟨(fun x0 r h => w_iCopyD ih0 ih1 x0 h), (fun x0 r h => w_iCopyDs ih0 ih1 x0 h)⟩
theorem s_iCopyD : ∀ (n : Nat) (x0 : TDictionary) {r : TDictionary}, m_iCopyD n x0 = some r → SpecO Tryz.prog 53 [.d (eDictionary x0)] [3, 50] [eDictionary r] := fun n => (ss_iCopyD n).1
theorem s_iCopyDs : ∀ (n : Nat) (x0 : List TDictionary) {r : List TDictionary}, m_iCopyDs n x0 = some r → SpecO Tryz.prog 49 [.d (.sl 5 (eDictionarys x0))] [50] [.sl 5 (eDictionarys r)] := fun n => (ss_iCopyD n).2
def b_sCopyD_l1 (rec_sCopyD : TDictionary → Option (TDictionary)) (a0 : TDictionary) : List TDictionary → (List TDictionary) → Option (TDictionary)
  | [], y2 => (some (TDictionary.mk a0.kind a0.at_ ([] ++ a0.steps) y2))
  | x7 :: xs, y2 => bnd (rec_sCopyD x7) fun x8 =>
gd (y2.length + [x8].length ≤ 4294967296) (
b_sCopyD_l1 rec_sCopyD a0 xs (y2 ++ [x8]))
def b_sCopyD (rec_sCopyD : TDictionary → Option (TDictionary)) (a0 : TDictionary) : Option (TDictionary) :=
gd (([] : List Int).length + a0.steps.length ≤ 4294967296) (
b_sCopyD_l1 rec_sCopyD a0 a0.args [])
set_option maxHeartbeats 4000000 in
theorem w_sCopyD {rec_sCopyD : TDictionary → Option (TDictionary)} (hrec_sCopyD : ∀ (x0 : TDictionary) {r : TDictionary}, rec_sCopyD x0 = some r → SpecO Tryz.prog 40 [.d (eDictionary x0)] [3, 50] [eDictionary r]) (a0 : TDictionary) {r : TDictionary} (h : b_sCopyD rec_sCopyD a0 = some r) : SpecO Tryz.prog 40 [.d (eDictionary a0)] [3, 50] [eDictionary r] := by
  obtain ⟨a0_0, ⟨a0_1_0, a0_1_1⟩, a0_2, a0_3⟩ := a0
  unfold b_sCopyD at h
  refine SpecO_intro Tryz.func40 rfl (by kernel_rfl) rfl (by simp) fun A _ => ?_
  refine goL ?_
  refine VO_l0 ?_
  refine goL ?_
  obtain ⟨g1, h⟩ := gd_s h
  refine VO_ap g1 ?_
  refine goL ?_
  refine VO_l0 ?_
  refine goL ?_
  refine V_block ?_
  show V _ _ _ _ _
  refine V_bdc 0 4 (fun z5 => ?_)
  refine V_loop3 (fun (y4 : Nat) (y2 : List TDictionary) (v3 : Nat) => ⟨[(1, .ptr 0 0), (2, .ptr 1 0), (3, .sl 3 v3), (4, .d (.i .i64 (y4 : Int)))], [.box [.d (.i .i64 a0_0), .d (.i .i64 a0_1_0), .d (.i .i64 a0_1_1), .sl 2 (0 + 1), .d (.sl 5 (eDictionarys a0_3))], .box [.d (.i .i64 0), .d (.i .i64 0), .d (.i .i64 0), .nilsl, .nilsl], .own 3 1 (0 + 1) (eInts ([] ++ a0_2)), .own 50 5 v3 (eDictionarys y2)], Tryz.f40.ntmps⟩) (fun y4 y2 v3 => b_sCopyD_l1 rec_sCopyD (TDictionary.mk a0_0 (TInstanceRef.mk a0_1_0 a0_1_1) a0_2 a0_3) (a0_3.drop y4) y2 = some r) (fun y4 y2 v3 => a0_3.length - y4) 0 [] 0 ⟨rfl, ⟨⟨rfl, rfl⟩, ⟨rfl, rfl⟩, ⟨rfl, rfl⟩, ⟨rfl, rfl⟩, trivial⟩, ⟨[], rfl⟩, rfl⟩ h ?_
  rintro y4 y2 v3 h
  refine goL ?_
  refine V_cb (fun c6 => ?_) (fun c6 => ?_)
  · have hky42 := kltN c6
    obtain ⟨x7, hx7, hdx7⟩ := drop_at hky42
    rw [hdx7, b_sCopyD_l1.eq_2] at h
    obtain ⟨x7_0, ⟨x7_1_0, x7_1_1⟩, x7_2, x7_3⟩ := x7
    refine V_skip ?_
    show V _ _ _ _ _
    refine V_seq (V_block ?_)
    refine goL ?_
    refine VO_r (QR_ixn y4 (gDictionary hx7)) ?_
    refine goL ?_
    obtain ⟨x8, hx8, h⟩ := bnd_s h
    obtain ⟨x8_0, ⟨x8_1_0, x8_1_1⟩, x8_2, x8_3⟩ := x8
    refine VO_co (hrec_sCopyD (TDictionary.mk x7_0 (TInstanceRef.mk x7_1_0 x7_1_1) x7_2 x7_3) hx8) ?_
    refine VO_l1t (TDictionary.mk x8_0 (TInstanceRef.mk x8_1_0 x8_1_1) x8_2 x8_3) ?_
    obtain ⟨g9, h⟩ := gd_s h
    refine VO_ap g9 ?_
    refine goL ?_
    refine VO_r (QR_inc y4 (by omega)) ?_
    refine goL ?_
    exact ⟨(y4 + 1), (y2 ++ [(TDictionary.mk x8_0 (TInstanceRef.mk x8_1_0 x8_1_1) x8_2 x8_3)]), (v3 + 1), h, by omega, ⟨rfl, ⟨⟨rfl, rfl⟩, ⟨rfl, rfl⟩, ⟨rfl, rfl⟩, ⟨rfl, rfl⟩, trivial⟩, ⟨_, rfl⟩, rfl⟩⟩
  · have hky42 := kgeN c6
    rw [drop_end hky42, b_sCopyD_l1.eq_1] at h
    refine V_exit ?_
    show V _ _ _ _ _
    refine goL ?_
    refine V_ret ?_
    replace h := Option.some.inj h
    subst h
    exact R_rO
def m_sCopyD : Nat → TDictionary → Option (TDictionary)
  | 0, _ => none
  | n + 1, x0 => b_sCopyD (m_sCopyD n) x0
theorem s_sCopyD : ∀ (n : Nat) (x0 : TDictionary) {r : TDictionary}, m_sCopyD n x0 = some r → SpecO Tryz.prog 40 [.d (eDictionary x0)] [3, 50] [eDictionary r] := by
  intro n
  induction n with
  | zero => intro x0 r h; cases h
  | succ n ih => intro x0 r h; exact w_sCopyD ih x0 h
/-! ### copies of dictionaries, by hand -/
def idX {α : Type} (x : α) : α := x
theorem eInts_ln (l : List Int) : (eInts l).length = l.length := Enc.len l
theorem eDs_ln (l : List TDictionary) : (eDictionarys l).length = l.length := Enc.len l
theorem take_set_succ {α : Type} {y : List α} {k : Nat} {x : α} (h : k < y.length) : (y.set k x).take (k + 1) = y.take k ++ [x] := by
  rw [List.take_succ_eq_append_getElem (by simp; omega), List.take_set_of_le (by omega)]
  simp
theorem eD_mem {a : TDictionary} {l : List TDictionary} (h : a ∈ l) : W (eDictionary a) ≤ Ws (eDictionarys l) := W_le_of_mem (by rw [show eDictionarys l = l.map eDictionary from Enc.h l]; exact List.mem_map_of_mem h)
theorem iCopyDs_l1_eq {rec : TDictionary → Option TDictionary} : ∀ (xs : List TDictionary) (k : Nat) (y : List TDictionary), (∀ a ∈ xs, rec a = some a) → y.length = k + xs.length → b_iCopyDs_l1 rec xs k y = some (y.take k ++ xs)
  | [], k, y, _, h => by
    rw [b_iCopyDs_l1.eq_1, List.take_of_length_le (by simp at h; omega), List.append_nil]
  | x :: xs, k, y, h, h2 => by
    simp only [List.length_cons] at h2
    rw [b_iCopyDs_l1.eq_2, h x (by simp)]
    simp only [bnd]
    rw [gd_eq (by omega), iCopyDs_l1_eq xs (k + 1) _ (fun a ha => h a (by simp [ha])) (by simp; omega), take_set_succ (by omega)]
    simp
theorem iD_eq : ∀ (n : Nat), (∀ e : TDictionary, 2 * W (eDictionary e) + 2 ≤ n → W (eDictionary e) ≤ 4294967296 → m_iCopyD n e = some (idX e)) ∧ (∀ es : List TDictionary, 2 * W (.sl 5 (eDictionarys es)) + 1 ≤ n → W (.sl 5 (eDictionarys es)) ≤ 4294967296 → m_iCopyDs n es = some (idX es))
  | 0 => ⟨fun _ h => by omega, fun _ h => by omega⟩
  | n + 1 => by
    obtain ⟨h1, h2⟩ := iD_eq n
    refine ⟨fun e hn hw => ?_, fun es hn hw => ?_⟩
    · obtain ⟨a0, a1, a2, a3⟩ := e
      simp only [eDictionary, W, Ws, eDs_ln, eInts_ln] at hn hw
      rw [m_iCopyD.eq_2]
      unfold b_iCopyD
      rw [gd_eq (by show a2.length ≤ _; omega)]
      simp only [lt_, idI]
      rw [h2 a3 (by simp only [W, eDs_ln]; omega) (by simp only [W, eDs_ln]; omega)]
      rfl
    · simp only [W, eDs_ln] at hn hw
      rw [m_iCopyDs.eq_2]
      unfold b_iCopyDs
      rw [gd_eq (by omega), iCopyDs_l1_eq _ 0 _ (fun a ha => ?_) (by simp)]
      · simp [idX]
      · have := eD_mem ha
        have hl : 1 ≤ es.length := List.length_pos_of_mem ha
        exact h1 a (by omega) (by omega)
theorem sCopyD_l1_eq {rec : TDictionary → Option TDictionary} (a0 : TDictionary) : ∀ (xs y : List TDictionary), (∀ a ∈ xs, rec a = some a) → y.length + xs.length ≤ 4294967296 → b_sCopyD_l1 rec a0 xs y = some (TDictionary.mk a0.kind a0.at_ ([] ++ a0.steps) (y ++ xs))
  | [], y, _, h => by rw [b_sCopyD_l1.eq_1, List.append_nil]
  | x :: xs, y, h, h2 => by
    simp only [List.length_cons] at h2
    rw [b_sCopyD_l1.eq_2, h x (by simp)]
    simp only [bnd]
    rw [gd_eq (by simp; omega), sCopyD_l1_eq a0 xs _ (fun a ha => h a (by simp [ha])) (by simp; omega)]
    simp
theorem sD_eq : ∀ (n : Nat) (e : TDictionary), W (eDictionary e) + 1 ≤ n → W (eDictionary e) ≤ 4294967296 → m_sCopyD n e = some (idX e)
  | 0, _, h, _ => by omega
  | n + 1, ⟨a0, a1, a2, a3⟩, hn, hw => by
    simp only [eDictionary, W, Ws, eDs_ln, eInts_ln] at hn hw
    rw [m_sCopyD.eq_2]
    unfold b_sCopyD
    rw [gd_eq (by show ([] : List Int).length + a2.length ≤ _; simp; omega), sCopyD_l1_eq _ _ [] (fun a ha => ?_) (by simp; omega)]
    · rfl
    · have := eD_mem (l := a3) ha
      have hl : 1 ≤ a3.length := List.length_pos_of_mem ha
      exact sD_eq n a (by omega) (by omega)
theorem u_iCopyD (x : TDictionary) (h : W (eDictionary x) ≤ 4294967296) : SpecO Tryz.prog 53 [.d (eDictionary x)] [3, 50] [eDictionary (idX x)] := s_iCopyD (2 * W (eDictionary x) + 2) x ((iD_eq (2 * W (eDictionary x) + 2)).1 x (Nat.le_refl _) h)
theorem u_iCopyDs (x : List TDictionary) (h : W (.sl 5 (eDictionarys x)) ≤ 4294967296) : SpecO Tryz.prog 49 [.d (.sl 5 (eDictionarys x))] [50] [.sl 5 (eDictionarys (idX x))] := s_iCopyDs (2 * W (.sl 5 (eDictionarys x)) + 2) x ((iD_eq (2 * W (.sl 5 (eDictionarys x)) + 2)).2 x (by omega) h)
theorem u_sCopyD (x : TDictionary) (h : W (eDictionary x) ≤ 4294967296) : SpecO Tryz.prog 40 [.d (eDictionary x)] [3, 50] [eDictionary (idX x)] := s_sCopyD (W (eDictionary x) + 1) x (sD_eq (W (eDictionary x) + 1) x (Nat.le_refl _) h)
end Go.Proofs.YthojhakapbfbiaaGreat
set_option linter.unusedVariables false
set_option linter.unusedSimpArgs false
set_option linter.unusedSectionVars false
namespace Go.Proofs.YthojhakapbfbiaaGreat
open Go Go.Eng
attribute [local irreducible] V VO VQ VY Quiet QR SpecP SpecO MSpec Rng PostP PostO
/-! ### bounds from the weight, by hand -/
theorem wP_len (w : TProgram) (h : W (eProgram w) ≤ 4294967296) : w.packages.length ≤ 4294967296 ∧ ∀ p ∈ w.packages, p.instances.length ≤ 4294967296 ∧ ∀ t ∈ p.traits, t.signatures.length ≤ 4294967296 := by
  obtain ⟨ps⟩ := w
  have e1 : (ePackages ps).length = ps.length := Enc.len ps
  simp only [eProgram, W, Ws] at h
  refine ⟨by show ps.length ≤ _; omega, fun p hp => ?_⟩
  have m1 : ePackage p ∈ ePackages ps := by rw [show ePackages ps = ps.map ePackage from Enc.h ps]; exact List.mem_map_of_mem hp
  have w1 := W_le_of_mem m1
  obtain ⟨f0, f1, f2, f3, f4, f5⟩ := p
  have e2 : (eTraits f2).length = f2.length := Enc.len f2
  have e3 : (eInstances f4).length = f4.length := Enc.len f4
  simp only [ePackage, W, Ws] at w1
  refine ⟨by show f4.length ≤ _; omega, fun t ht => ?_⟩
  have m2 : eTrait t ∈ eTraits f2 := by rw [show eTraits f2 = f2.map eTrait from Enc.h f2]; exact List.mem_map_of_mem ht
  have w2 := W_le_of_mem m2
  obtain ⟨g0, g1, g2, g3, g4⟩ := t
  have e4 : (eSignatures g4).length = g4.length := Enc.len g4
  simp only [eTrait, W, Ws] at w2
  show g4.length ≤ _
  omega
theorem t_iInst (w : TProgram) (o : TInstanceRef) : SpecP Tryz.prog 46 [.d (eProgram w), .d (eInstanceRef o)] [eInstance (instF w o).1, .b (instF w o).2] := w_iInst w o (iInst_eq w o)
theorem t_sInstAt (w : TProgram) (o : TInstanceRef) (h : W (eProgram w) ≤ 4294967296) : SpecP Tryz.prog 37 [.d (eProgram w), .d (eInstanceRef o)] [eInstance (instF w o).1, .b (instF w o).2] := w_sInstAt w o (sInstAt_eq w o (wP_len w h).1 (fun p hp => ((wP_len w h).2 p hp).1))
theorem t_methIx (x : TInstance) (n : List UInt8) : SpecP Tryz.prog 47 [.d (eInstance x), .d (.s n)] [.i .i64 (b_sMeth x n)] := w_methIx x n (methIx_eq x n)
theorem t_iFindU (l : List TUnit) (a : Int) (b : Int) (c : Int) (d : Int) : SpecP Tryz.prog 48 [.d (.sl 21 (eUnits l)), .d (.i .i64 a), .d (.i .i64 b), .d (.i .i64 c), .d (.i .i64 d)] [.i .i64 (b_sFindU l a b c d)] := w_iFindU l a b c d (findU_eq l a b c d)
theorem t_traitIx (p : TPackage) (n : List UInt8) : SpecP Tryz.prog 52 [.d (ePackage p), .d (.s n)] [.i .i64 (tIxP p n)] := w_traitIx p n (traitIx_eq p n)
theorem t_sDefault (w : TProgram) (l : List TUnit) (tn : List UInt8) (n : List UInt8) (h : W (eProgram w) ≤ 4294967296) : SpecP Tryz.prog 41 [.d (eProgram w), .d (.sl 21 (eUnits l)), .d (.s tn), .d (.s n)] [.i .i64 (dflF w l tn n)] := w_sDefault w l tn n (sDefault_eq w l tn n (fun p hp => ((wP_len w h).2 p hp).2))
def b_iRM (a0 : TProgram) (a1 : List TUnit) (a2 : TDictionary) (a3 : List UInt8) (a4 : List UInt8) : Option (Int × List TDictionary) :=
lt_ (instF a0 a2.at_) fun x1 =>
lt_ ((cnd (a2.kind != 1) (true) ((!x1.2)))) fun b2 =>
(cnd b2 (
(some ((-1), []))) (
(cnd (decide ((b_sMeth x1.1 a4) ≥ 0)) (
(cnd (decide ((b_sFindU a1 2 a2.at_.package a2.at_.at_ (b_sMeth x1.1 a4)) < 0)) (
(some ((-1), []))) (
gd (W (.sl 5 (eDictionarys a2.args)) ≤ 4294967296) (lt_ (idX a2.args) fun x8 =>
(some ((b_sFindU a1 2 a2.at_.package a2.at_.at_ (b_sMeth x1.1 a4)), x8)))))) (
lt_ (b_iTrait a0 a3) fun x9 =>
lt_ (b_iSig x9.1 a4) fun x10 =>
lt_ ((cnd (!x9.2.2) (true) ((!x10.2.2)))) fun b11 =>
(cnd b11 (
(some ((-1), []))) (
bnd (at? a0.packages x9.2.1) fun x14 =>
(cnd (decide ((b_sFindU a1 1 x9.2.1 (tIxP x14 a3) x10.2.1) < 0)) (
(some ((-1), []))) (
gd (W (eDictionary a2) ≤ 4294967296) (lt_ (idX a2) fun x17 =>
(some ((b_sFindU a1 1 x9.2.1 (tIxP x14 a3) x10.2.1), [x17])))))))))))
set_option maxHeartbeats 4000000 in
theorem w_iRM (a0 : TProgram) (a1 : List TUnit) (a2 : TDictionary) (a3 : List UInt8) (a4 : List UInt8) {r : Int × List TDictionary} (h : b_iRM a0 a1 a2 a3 a4 = some r) : SpecO Tryz.prog 17 [.d (eProgram a0), .d (.sl 21 (eUnits a1)), .d (eDictionary a2), .d (.s a3), .d (.s a4)] [50] [.i .i64 r.1, .sl 5 (eDictionarys r.2)] := by
  obtain ⟨a0_0⟩ := a0
  obtain ⟨a2_0, ⟨a2_1_0, a2_1_1⟩, a2_2, a2_3⟩ := a2
  unfold b_iRM at h
  refine SpecO_intro Tryz.func17 rfl (by kernel_rfl) rfl (by simp) fun A _ => ?_
  refine goL ?_
  obtain ⟨x1, hx1, h⟩ := lt_x h
  obtain ⟨⟨x1_0_0, x1_0_1, ⟨x1_0_2_0, x1_0_2_1, x1_0_2_2⟩, x1_0_3, x1_0_4, x1_0_5, ⟨x1_0_6_0, x1_0_6_1, x1_0_6_2⟩, x1_0_7⟩, x1_1⟩ := x1
  have sx1 := t_iInst (TProgram.mk a0_0) (TInstanceRef.mk a2_1_0 a2_1_1)
  rw [hx1] at sx1
  refine VO_r (QR_call (sx1)) ?_
  refine goL ?_
  obtain ⟨b2, hb2, h⟩ := lt_x h
  refine VO_join ⟨[(1, .d (.sl 21 (eUnits a1))), (3, .d (.s a3)), (4, .d (.s a4)), (5, .ptr 0 0), (7, .ptr 1 0), (12, .ptr 2 0), (36, .d (.b b2))], [.box [.d (.sl 6 (ePackages a0_0))], .box [.d (.i .i64 a2_0), .d (.i .i64 a2_1_0), .d (.i .i64 a2_1_1), .d (.sl 1 (eInts a2_2)), .d (.sl 5 (eDictionarys a2_3))], .box [.d (.s x1_0_0), .d (.sl 1 (eStrs x1_0_1)), .d (.i .i64 x1_0_2_0), .d (.s x1_0_2_1), .d (.sl 3 (eTypes x1_0_2_2)), .d (.sl 4 (eBounds x1_0_3)), .d (.b x1_0_4), .d (.b x1_0_5), .d (.i .i64 x1_0_6_0), .d (.s x1_0_6_1), .d (.sl 3 (eTypes x1_0_6_2)), .d (.sl 11 (eMethods x1_0_7))]], Tryz.f17.ntmps⟩ ?_ ?_
  · refine VO_case 33 (fun c3 => ?_) (fun c3 => ?_)
    · replace hb2 := cnd_t c3 hb2
      refine goL ?_
      cases hb2
      exact ⟨rfl, ⟨⟨rfl, rfl⟩, ⟨rfl, rfl⟩, ⟨rfl, rfl⟩, ⟨rfl, rfl⟩, ⟨rfl, rfl⟩, ⟨rfl, rfl⟩, ⟨rfl, rfl⟩, trivial⟩, ⟨[], rfl⟩, rfl⟩
    · replace hb2 := cnd_f c3 hb2
      refine goL ?_
      cases hb2
      exact ⟨rfl, ⟨⟨rfl, rfl⟩, ⟨rfl, rfl⟩, ⟨rfl, rfl⟩, ⟨rfl, rfl⟩, ⟨rfl, rfl⟩, ⟨rfl, rfl⟩, ⟨rfl, rfl⟩, trivial⟩, ⟨[], rfl⟩, rfl⟩
  refine goL ?_
  refine V_cb (fun c4 => ?_) (fun c4 => ?_)
  · replace h := cnd_t c4 h
    refine goL ?_
    refine V_adT 50 5 11 ?_
    refine V_ret ?_
    replace h := Option.some.inj h
    subst h
    exact R_rO
  · replace h := cnd_f c4 h
    refine V_skip ?_
    show V _ _ _ _ _
    refine goL ?_
    refine VO_r (QR_call (t_methIx (TInstance.mk x1_0_0 x1_0_1 (TType.mk x1_0_2_0 x1_0_2_1 x1_0_2_2) x1_0_3 x1_0_4 x1_0_5 (TType.mk x1_0_6_0 x1_0_6_1 x1_0_6_2) x1_0_7) a4)) ?_
    refine goL ?_
    refine V_cb (fun c5 => ?_) (fun c5 => ?_)
    · replace h := cnd_t c5 h
      refine goL ?_
      refine VO_r (QR_call (t_iFindU a1 2 a2_1_0 a2_1_1 (b_sMeth (TInstance.mk x1_0_0 x1_0_1 (TType.mk x1_0_2_0 x1_0_2_1 x1_0_2_2) x1_0_3 x1_0_4 x1_0_5 (TType.mk x1_0_6_0 x1_0_6_1 x1_0_6_2) x1_0_7) a4))) ?_
      refine goL ?_
      refine V_cb (fun c6 => ?_) (fun c6 => ?_)
      · replace h := cnd_t c6 h
        refine goL ?_
        refine V_adT 50 5 11 ?_
        refine V_ret ?_
        replace h := Option.some.inj h
        subst h
        exact R_rO
      · replace h := cnd_f c6 h
        refine V_skip ?_
        show V _ _ _ _ _
        refine goL ?_
        obtain ⟨g7, h⟩ := gd_s h
        obtain ⟨x8, hx8, h⟩ := lt_x h
        have sx8 := u_iCopyDs a2_3 g7
        rw [hx8] at sx8
        refine VO_co (sx8) ?_
        refine goL ?_
        refine V_ret ?_
        replace h := Option.some.inj h
        subst h
        exact R_rO
    · replace h := cnd_f c5 h
      refine V_skip ?_
      show V _ _ _ _ _
      refine goL ?_
      obtain ⟨x9, hx9, h⟩ := lt_x h
      obtain ⟨⟨x9_0_0, x9_0_1, x9_0_2, x9_0_3, x9_0_4⟩, x9_1, x9_2⟩ := x9
      have sx9 := w_iTrait (TProgram.mk a0_0) a3
      rw [hx9] at sx9
      refine VO_r (QR_call (sx9)) ?_
      refine goL ?_
      obtain ⟨x10, hx10, h⟩ := lt_x h
      obtain ⟨⟨x10_0_0, x10_0_1, ⟨x10_0_2_0, x10_0_2_1, x10_0_2_2⟩, x10_0_3, x10_0_4, ⟨x10_0_5_0, x10_0_5_1, x10_0_5_2, x10_0_5_3, ⟨x10_0_5_4_0, x10_0_5_4_1, x10_0_5_4_2⟩, x10_0_5_5, x10_0_5_6⟩⟩, x10_1, x10_2⟩ := x10
      have sx10 := w_iSig (TTrait.mk x9_0_0 x9_0_1 x9_0_2 x9_0_3 x9_0_4) a4
      rw [hx10] at sx10
      refine VO_r (QR_call (sx10)) ?_
      refine goL ?_
      obtain ⟨b11, hb11, h⟩ := lt_x h
      refine VO_join ⟨[(1, .d (.sl 21 (eUnits a1))), (3, .d (.s a3)), (5, .ptr 0 0), (7, .ptr 1 0), (17, .d (.i .i64 x9_1)), (20, .d (.i .i64 x10_1)), (76, .d (.b b11))], [.box [.d (.sl 6 (ePackages a0_0))], .box [.d (.i .i64 a2_0), .d (.i .i64 a2_1_0), .d (.i .i64 a2_1_1), .d (.sl 1 (eInts a2_2)), .d (.sl 5 (eDictionarys a2_3))], .box [.d (.s x1_0_0), .d (.sl 1 (eStrs x1_0_1)), .d (.i .i64 x1_0_2_0), .d (.s x1_0_2_1), .d (.sl 3 (eTypes x1_0_2_2)), .d (.sl 4 (eBounds x1_0_3)), .d (.b x1_0_4), .d (.b x1_0_5), .d (.i .i64 x1_0_6_0), .d (.s x1_0_6_1), .d (.sl 3 (eTypes x1_0_6_2)), .d (.sl 11 (eMethods x1_0_7))], .box [.d (.s x9_0_0), .d (.sl 1 (eStrs x9_0_1)), .d (.b x9_0_2), .d (.b x9_0_3), .d (.sl 16 (eSignatures x9_0_4))], .box [.d (.s x10_0_0), .d (.sl 3 (eTypes x10_0_1)), .d (.i .i64 x10_0_2_0), .d (.s x10_0_2_1), .d (.sl 3 (eTypes x10_0_2_2)), .d (.b x10_0_3), .d (.sl 1 (eStrs x10_0_4)), .d (.i .i64 x10_0_5_0), .d (.s x10_0_5_1), .d (.s x10_0_5_2), .d (.i .i64 x10_0_5_3), .d (.i .i64 x10_0_5_4_0), .d (.s x10_0_5_4_1), .d (.sl 3 (eTypes x10_0_5_4_2)), .d (.sl 9 (eExprs x10_0_5_5)), .d (.sl 11 (eArms x10_0_5_6))]], Tryz.f17.ntmps⟩ ?_ ?_
      · refine VO_case 73 (fun c12 => ?_) (fun c12 => ?_)
        · replace hb11 := cnd_t c12 hb11
          refine goL ?_
          cases hb11
          exact ⟨rfl, ⟨⟨rfl, rfl⟩, ⟨rfl, rfl⟩, ⟨rfl, rfl⟩, ⟨rfl, rfl⟩, ⟨rfl, rfl⟩, ⟨rfl, rfl⟩, ⟨rfl, rfl⟩, trivial⟩, ⟨[], rfl⟩, rfl⟩
        · replace hb11 := cnd_f c12 hb11
          refine goL ?_
          cases hb11
          exact ⟨rfl, ⟨⟨rfl, rfl⟩, ⟨rfl, rfl⟩, ⟨rfl, rfl⟩, ⟨rfl, rfl⟩, ⟨rfl, rfl⟩, ⟨rfl, rfl⟩, ⟨rfl, rfl⟩, trivial⟩, ⟨[], rfl⟩, rfl⟩
      refine goL ?_
      refine V_cb (fun c13 => ?_) (fun c13 => ?_)
      · replace h := cnd_t c13 h
        refine goL ?_
        refine V_adT 50 5 11 ?_
        refine V_ret ?_
        replace h := Option.some.inj h
        subst h
        exact R_rO
      · replace h := cnd_f c13 h
        refine V_skip ?_
        show V _ _ _ _ _
        refine goL ?_
        obtain ⟨x14, hx14, h⟩ := bnd_s h
        obtain ⟨hx140, hx14⟩ := at_s hx14
        obtain ⟨x14_0, x14_1, x14_2, x14_3, x14_4, x14_5⟩ := x14
        refine VO_r (QR_ixi hx140 (gPackage hx14)) ?_
        refine goL ?_
        refine VO_r (QR_call (t_traitIx (TPackage.mk x14_0 x14_1 x14_2 x14_3 x14_4 x14_5) a3)) ?_
        refine goL ?_
        refine VO_r (QR_call (t_iFindU a1 1 x9_1 (tIxP (TPackage.mk x14_0 x14_1 x14_2 x14_3 x14_4 x14_5) a3) x10_1)) ?_
        refine goL ?_
        refine V_cb (fun c15 => ?_) (fun c15 => ?_)
        · replace h := cnd_t c15 h
          refine goL ?_
          refine V_adT 50 5 11 ?_
          refine V_ret ?_
          replace h := Option.some.inj h
          subst h
          exact R_rO
        · replace h := cnd_f c15 h
          refine V_skip ?_
          show V _ _ _ _ _
          refine goL ?_
          obtain ⟨g16, h⟩ := gd_s h
          obtain ⟨x17, hx17, h⟩ := lt_x h
          obtain ⟨x17_0, ⟨x17_1_0, x17_1_1⟩, x17_2, x17_3⟩ := x17
          have sx17 := u_iCopyD (TDictionary.mk a2_0 (TInstanceRef.mk a2_1_0 a2_1_1) a2_2 a2_3) g16
          rw [hx17] at sx17
          refine VO_co (sx17) ?_
          refine VO_l1t (TDictionary.mk x17_0 (TInstanceRef.mk x17_1_0 x17_1_1) x17_2 x17_3) ?_
          refine goL ?_
          refine V_ret ?_
          replace h := Option.some.inj h
          subst h
          exact R_rO
def b_sRM_l1 (a1 : List TUnit) (a2 : TDictionary) (a4 : List UInt8) (x2 : TInstance × Bool) : List TDictionary → (List TDictionary) → Option (Int × List TDictionary)
  | [], y7 => (cnd (decide ((b_sFindU a1 2 a2.at_.package a2.at_.at_ (b_sMeth x2.1 a4)) < 0)) (
(some ((-1), []))) (
(some ((b_sFindU a1 2 a2.at_.package a2.at_.at_ (b_sMeth x2.1 a4)), y7))))
  | x12 :: xs, y7 => gd (W (eDictionary x12) ≤ 4294967296) (lt_ (idX x12) fun x14 =>
gd (y7.length + [x14].length ≤ 4294967296) (
b_sRM_l1 a1 a2 a4 x2 xs (y7 ++ [x14])))
def b_sRM (a0 : TProgram) (a1 : List TUnit) (a2 : TDictionary) (a3 : List UInt8) (a4 : List UInt8) : Option (Int × List TDictionary) :=
gd (W (eProgram a0) ≤ 4294967296) (lt_ (instF a0 a2.at_) fun x2 =>
lt_ ((cnd (a2.kind != 1) (true) ((!x2.2)))) fun b3 =>
(cnd b3 (
(some ((-1), []))) (
(cnd (decide ((b_sMeth x2.1 a4) ≥ 0)) (
b_sRM_l1 a1 a2 a4 x2 a2.args []) (
gd (W (eProgram a0) ≤ 4294967296) (gd (W (eDictionary a2) ≤ 4294967296) (lt_ (idX a2) fun x19 =>
gd (([] : List TDictionary).length + [x19].length ≤ 4294967296) (
(cnd (decide ((dflF a0 a1 a3 a4) < 0)) (
(some ((-1), []))) (
(some ((dflF a0 a1 a3 a4), ([] ++ [x19])))))))))))))
set_option maxHeartbeats 4000000 in
theorem w_sRM (a0 : TProgram) (a1 : List TUnit) (a2 : TDictionary) (a3 : List UInt8) (a4 : List UInt8) {r : Int × List TDictionary} (h : b_sRM a0 a1 a2 a3 a4 = some r) : SpecO Tryz.prog 14 [.d (eProgram a0), .d (.sl 21 (eUnits a1)), .d (eDictionary a2), .d (.s a3), .d (.s a4)] [50] [.i .i64 r.1, .sl 5 (eDictionarys r.2)] := by
  obtain ⟨a0_0⟩ := a0
  obtain ⟨a2_0, ⟨a2_1_0, a2_1_1⟩, a2_2, a2_3⟩ := a2
  unfold b_sRM at h
  refine SpecO_intro Tryz.func14 rfl (by kernel_rfl) rfl (by simp) fun A _ => ?_
  refine goL ?_
  obtain ⟨g1, h⟩ := gd_s h
  obtain ⟨x2, hx2, h⟩ := lt_x h
  obtain ⟨⟨x2_0_0, x2_0_1, ⟨x2_0_2_0, x2_0_2_1, x2_0_2_2⟩, x2_0_3, x2_0_4, x2_0_5, ⟨x2_0_6_0, x2_0_6_1, x2_0_6_2⟩, x2_0_7⟩, x2_1⟩ := x2
  have sx2 := t_sInstAt (TProgram.mk a0_0) (TInstanceRef.mk a2_1_0 a2_1_1) g1
  rw [hx2] at sx2
  refine VO_r (QR_call (sx2)) ?_
  refine goL ?_
  obtain ⟨b3, hb3, h⟩ := lt_x h
  refine VO_join ⟨[(1, .d (.sl 21 (eUnits a1))), (3, .d (.s a3)), (4, .d (.s a4)), (5, .ptr 0 0), (7, .ptr 1 0), (12, .ptr 2 0), (31, .d (.b b3))], [.box [.d (.sl 6 (ePackages a0_0))], .box [.d (.i .i64 a2_0), .d (.i .i64 a2_1_0), .d (.i .i64 a2_1_1), .d (.sl 1 (eInts a2_2)), .d (.sl 5 (eDictionarys a2_3))], .box [.d (.s x2_0_0), .d (.sl 1 (eStrs x2_0_1)), .d (.i .i64 x2_0_2_0), .d (.s x2_0_2_1), .d (.sl 3 (eTypes x2_0_2_2)), .d (.sl 4 (eBounds x2_0_3)), .d (.b x2_0_4), .d (.b x2_0_5), .d (.i .i64 x2_0_6_0), .d (.s x2_0_6_1), .d (.sl 3 (eTypes x2_0_6_2)), .d (.sl 11 (eMethods x2_0_7))]], Tryz.f14.ntmps⟩ ?_ ?_
  · refine VO_case 28 (fun c4 => ?_) (fun c4 => ?_)
    · replace hb3 := cnd_t c4 hb3
      refine goL ?_
      cases hb3
      exact ⟨rfl, ⟨⟨rfl, rfl⟩, ⟨rfl, rfl⟩, ⟨rfl, rfl⟩, ⟨rfl, rfl⟩, ⟨rfl, rfl⟩, ⟨rfl, rfl⟩, ⟨rfl, rfl⟩, trivial⟩, ⟨[], rfl⟩, rfl⟩
    · replace hb3 := cnd_f c4 hb3
      refine goL ?_
      cases hb3
      exact ⟨rfl, ⟨⟨rfl, rfl⟩, ⟨rfl, rfl⟩, ⟨rfl, rfl⟩, ⟨rfl, rfl⟩, ⟨rfl, rfl⟩, ⟨rfl, rfl⟩, ⟨rfl, rfl⟩, trivial⟩, ⟨[], rfl⟩, rfl⟩
  refine goL ?_
  refine V_cb (fun c5 => ?_) (fun c5 => ?_)
  · replace h := cnd_t c5 h
    refine goL ?_
    refine VO_l0 ?_
    refine goL ?_
    refine V_ret ?_
    replace h := Option.some.inj h
    subst h
    exact R_rO
  · replace h := cnd_f c5 h
    refine V_skip ?_
    show V _ _ _ _ _
    refine goL ?_
    refine VO_r (QR_call (w_sMeth (TInstance.mk x2_0_0 x2_0_1 (TType.mk x2_0_2_0 x2_0_2_1 x2_0_2_2) x2_0_3 x2_0_4 x2_0_5 (TType.mk x2_0_6_0 x2_0_6_1 x2_0_6_2) x2_0_7) a4)) ?_
    refine goL ?_
    refine VO_l0 ?_
    refine goL ?_
    refine V_cb (fun c6 => ?_) (fun c6 => ?_)
    · replace h := cnd_t c6 h
      refine goL ?_
      refine VO_r (QR_call (w_sFindU a1 2 a2_1_0 a2_1_1 (b_sMeth (TInstance.mk x2_0_0 x2_0_1 (TType.mk x2_0_2_0 x2_0_2_1 x2_0_2_2) x2_0_3 x2_0_4 x2_0_5 (TType.mk x2_0_6_0 x2_0_6_1 x2_0_6_2) x2_0_7) a4))) ?_
      refine goL ?_
      refine V_block ?_
      show V _ _ _ _ _
      refine V_bdc 1 4 (fun z10 => ?_)
      refine V_loop3 (fun (y9 : Nat) (y7 : List TDictionary) (v8 : Nat) => ⟨[(7, .ptr 1 0), (15, .d (.i .i64 (b_sFindU a1 2 a2_1_0 a2_1_1 (b_sMeth (TInstance.mk x2_0_0 x2_0_1 (TType.mk x2_0_2_0 x2_0_2_1 x2_0_2_2) x2_0_3 x2_0_4 x2_0_5 (TType.mk x2_0_6_0 x2_0_6_1 x2_0_6_2) x2_0_7) a4)))), (16, .sl 3 v8), (17, .d (.i .i64 (y9 : Int)))], [.box [.d (.sl 6 (ePackages a0_0))], .box [.d (.i .i64 a2_0), .d (.i .i64 a2_1_0), .d (.i .i64 a2_1_1), .d (.sl 1 (eInts a2_2)), .d (.sl 5 (eDictionarys a2_3))], .box [.d (.s x2_0_0), .d (.sl 1 (eStrs x2_0_1)), .d (.i .i64 x2_0_2_0), .d (.s x2_0_2_1), .d (.sl 3 (eTypes x2_0_2_2)), .d (.sl 4 (eBounds x2_0_3)), .d (.b x2_0_4), .d (.b x2_0_5), .d (.i .i64 x2_0_6_0), .d (.s x2_0_6_1), .d (.sl 3 (eTypes x2_0_6_2)), .d (.sl 11 (eMethods x2_0_7))], .own 50 5 v8 (eDictionarys y7)], Tryz.f14.ntmps⟩) (fun y9 y7 v8 => b_sRM_l1 a1 (TDictionary.mk a2_0 (TInstanceRef.mk a2_1_0 a2_1_1) a2_2 a2_3) a4 ((TInstance.mk x2_0_0 x2_0_1 (TType.mk x2_0_2_0 x2_0_2_1 x2_0_2_2) x2_0_3 x2_0_4 x2_0_5 (TType.mk x2_0_6_0 x2_0_6_1 x2_0_6_2) x2_0_7), x2_1) (a2_3.drop y9) y7 = some r) (fun y9 y7 v8 => a2_3.length - y9) 0 [] 0 ⟨rfl, ⟨⟨rfl, rfl⟩, ⟨rfl, rfl⟩, ⟨rfl, rfl⟩, ⟨rfl, rfl⟩, trivial⟩, ⟨[], rfl⟩, rfl⟩ h ?_
      rintro y9 y7 v8 h
      refine goL ?_
      refine V_cb (fun c11 => ?_) (fun c11 => ?_)
      · have hky92 := kltN c11
        obtain ⟨x12, hx12, hdx12⟩ := drop_at hky92
        rw [hdx12, b_sRM_l1.eq_2] at h
        obtain ⟨x12_0, ⟨x12_1_0, x12_1_1⟩, x12_2, x12_3⟩ := x12
        refine V_skip ?_
        show V _ _ _ _ _
        refine V_seq (V_block ?_)
        refine goL ?_
        refine VO_r (QR_ixn y9 (gDictionary hx12)) ?_
        refine goL ?_
        obtain ⟨g13, h⟩ := gd_s h
        obtain ⟨x14, hx14, h⟩ := lt_x h
        obtain ⟨x14_0, ⟨x14_1_0, x14_1_1⟩, x14_2, x14_3⟩ := x14
        have sx14 := u_sCopyD (TDictionary.mk x12_0 (TInstanceRef.mk x12_1_0 x12_1_1) x12_2 x12_3) g13
        rw [hx14] at sx14
        refine VO_co (sx14) ?_
        refine VO_l1t (TDictionary.mk x14_0 (TInstanceRef.mk x14_1_0 x14_1_1) x14_2 x14_3) ?_
        obtain ⟨g15, h⟩ := gd_s h
        refine VO_ap g15 ?_
        refine goL ?_
        refine VO_r (QR_inc y9 (by omega)) ?_
        refine goL ?_
        exact ⟨(y9 + 1), (y7 ++ [(TDictionary.mk x14_0 (TInstanceRef.mk x14_1_0 x14_1_1) x14_2 x14_3)]), (v8 + 1), h, by omega, ⟨rfl, ⟨⟨rfl, rfl⟩, ⟨rfl, rfl⟩, ⟨rfl, rfl⟩, ⟨rfl, rfl⟩, trivial⟩, ⟨_, rfl⟩, rfl⟩⟩
      · have hky92 := kgeN c11
        rw [drop_end hky92, b_sRM_l1.eq_1] at h
        refine V_exit ?_
        show V _ _ _ _ _
        refine goL ?_
        refine V_cb (fun c16 => ?_) (fun c16 => ?_)
        · replace h := cnd_t c16 h
          refine goL ?_
          refine VO_l0 ?_
          refine goL ?_
          refine V_ret ?_
          replace h := Option.some.inj h
          subst h
          exact R_rO
        · replace h := cnd_f c16 h
          refine V_skip ?_
          show V _ _ _ _ _
          refine goL ?_
          refine V_ret ?_
          replace h := Option.some.inj h
          subst h
          exact R_rO
    · replace h := cnd_f c6 h
      refine goL ?_
      obtain ⟨g17, h⟩ := gd_s h
      refine VO_r (QR_call (t_sDefault (TProgram.mk a0_0) a1 a3 a4 g17)) ?_
      refine goL ?_
      obtain ⟨g18, h⟩ := gd_s h
      obtain ⟨x19, hx19, h⟩ := lt_x h
      obtain ⟨x19_0, ⟨x19_1_0, x19_1_1⟩, x19_2, x19_3⟩ := x19
      have sx19 := u_sCopyD (TDictionary.mk a2_0 (TInstanceRef.mk a2_1_0 a2_1_1) a2_2 a2_3) g18
      rw [hx19] at sx19
      refine VO_co (sx19) ?_
      refine VO_l1t (TDictionary.mk x19_0 (TInstanceRef.mk x19_1_0 x19_1_1) x19_2 x19_3) ?_
      obtain ⟨g20, h⟩ := gd_s h
      refine VO_ap g20 ?_
      refine goL ?_
      refine V_cb (fun c21 => ?_) (fun c21 => ?_)
      · replace h := cnd_t c21 h
        refine goL ?_
        refine VO_l0 ?_
        refine goL ?_
        refine V_ret ?_
        replace h := Option.some.inj h
        subst h
        exact R_rO
      · replace h := cnd_f c21 h
        refine V_skip ?_
        show V _ _ _ _ _
        refine goL ?_
        refine V_ret ?_
        replace h := Option.some.inj h
        subst h
        exact R_rO
/-! ### ResolveMethod, by hand -/
def rmF (w : TProgram) (l : List TUnit) (d : TDictionary) (tn n : List UInt8) : Int × List TDictionary :=
  cnd (cnd (d.kind != 1) true (!(instF w d.at_).2)) (-1, [])
    (cnd (decide (b_sMeth (instF w d.at_).1 n ≥ 0))
      (cnd (decide (b_sFindU l 2 d.at_.package d.at_.at_ (b_sMeth (instF w d.at_).1 n) < 0)) (-1, []) (b_sFindU l 2 d.at_.package d.at_.at_ (b_sMeth (instF w d.at_).1 n), d.args))
      (cnd (decide (dflF w l tn n < 0)) (-1, []) (dflF w l tn n, [d])))
theorem args_W (d : TDictionary) : W (.sl 5 (eDictionarys d.args)) ≤ W (eDictionary d) := by
  obtain ⟨d0, d1, d2, d3⟩ := d
  simp only [eDictionary, W, Ws]
  omega
theorem iRM_eq (w : TProgram) (l : List TUnit) (d : TDictionary) (tn n : List UInt8) (hd : W (eDictionary d) ≤ 4294967296) : b_iRM w l d tn n = some (rmF w l d tn n) := by
  have ha := Nat.le_trans (args_W d) hd
  unfold b_iRM rmF
  simp only [lt_, idX]
  cases (cnd (d.kind != 1) true (!(instF w d.at_).2)) with
  | true => rfl
  | false =>
    simp only [cnd_false]
    cases decide (b_sMeth (instF w d.at_).1 n ≥ 0) with
    | true =>
      simp only [cnd_true]
      cases decide (b_sFindU l 2 d.at_.package d.at_.at_ (b_sMeth (instF w d.at_).1 n) < 0) with
      | true => rfl
      | false => simp only [cnd_false]; rw [gd_eq ha]
    | false =>
      simp only [cnd_false]
      unfold dflF
      rcases trait_l1 tn w.packages 0 with ⟨i, j, p, t, h1, h2, h3, h4, h5⟩ | ⟨h1, h2⟩
      · have e1 : b_iTrait w tn = (t, (i : Int), true) := by rw [Nat.zero_add] at h3; exact h3
        have e2 : b_sTrait w tn = ((i : Int), (j : Int)) := by rw [Nat.zero_add] at h4; exact h4
        rw [e1, e2]
        simp only
        rw [at_nat, h1]
        simp only [bnd, h5]
        cases (b_iSig t n).2.2 with
        | false => rfl
        | true =>
          simp only [Bool.not_true, Bool.and_true, cnd_true, cnd_false]
          cases decide (b_sFindU l 1 (i : Int) (j : Int) (b_iSig t n).2.1 < 0) with
          | true => rfl
          | false => simp only [cnd_false]; rw [gd_eq hd]
      · have e1 : b_iTrait w tn = traitZ := h1
        have e2 : b_sTrait w tn = (-1, -1) := h2
        rw [e1, e2]
        rfl
theorem sRM_l1_eq (l : List TUnit) (d : TDictionary) (n : List UInt8) (x : TInstance × Bool) : ∀ (xs y : List TDictionary), (∀ a ∈ xs, W (eDictionary a) ≤ 4294967296) → y.length + xs.length ≤ 4294967296 → b_sRM_l1 l d n x xs y = some (cnd (decide (b_sFindU l 2 d.at_.package d.at_.at_ (b_sMeth x.1 n) < 0)) (-1, []) (b_sFindU l 2 d.at_.package d.at_.at_ (b_sMeth x.1 n), y ++ xs))
  | [], y, _, _ => by
    rw [b_sRM_l1.eq_1, List.append_nil]
    cases decide (b_sFindU l 2 d.at_.package d.at_.at_ (b_sMeth x.1 n) < 0) <;> rfl
  | a :: xs, y, h, h2 => by
    simp only [List.length_cons] at h2
    rw [b_sRM_l1.eq_2, gd_eq (h a (by simp))]
    simp only [lt_, idX]
    rw [gd_eq (by simp; omega), sRM_l1_eq l d n x xs _ (fun b hb => h b (by simp [hb])) (by simp; omega), List.append_assoc]
    rfl
theorem sRM_eq (w : TProgram) (l : List TUnit) (d : TDictionary) (tn n : List UInt8) (hw : W (eProgram w) ≤ 4294967296) (hd : W (eDictionary d) ≤ 4294967296) : b_sRM w l d tn n = some (rmF w l d tn n) := by
  have ha := Nat.le_trans (args_W d) hd
  have hl : (eDictionarys d.args).length = d.args.length := Enc.len d.args
  unfold b_sRM rmF
  rw [gd_eq hw]
  simp only [lt_, idX]
  cases (cnd (d.kind != 1) true (!(instF w d.at_).2)) with
  | true => rfl
  | false =>
    simp only [cnd_false]
    cases decide (b_sMeth (instF w d.at_).1 n ≥ 0) with
    | true =>
      simp only [cnd_true]
      simp only [W] at ha
      rw [sRM_l1_eq l d n _ _ [] (fun a hm => by have := eD_mem hm; omega) (by simp; omega)]
      rfl
    | false =>
      simp only [cnd_false]
      rw [gd_eq hw, gd_eq hd, gd_eq (by simp)]
      cases decide (dflF w l tn n < 0) <;> rfl
theorem bothRM {u v : U} {us : List U} {s n : List UInt8} (h : wt (.st 15) u) (h1 : us.length ≤ big ∧ ∀ x ∈ us, wt (.st 25) x) (h2 : wt (.st 26) v) : ∃ (r0 : Int) (r1 : List U), (r1.length ≤ big ∧ ∀ x ∈ r1, wt (.st 26) x) ∧ (W u ≤ 1048576 → W (.sl 21 us) ≤ 1048576 → W v ≤ 1048576 → SpecP Tryz.prog 14 [.d u, .d (.sl 21 us), .d v, .d (.s s), .d (.s n)] [.i .i64 r0, .sl 5 r1] ∧ SpecO Tryz.prog 17 [.d u, .d (.sl 21 us), .d v, .d (.s s), .d (.s n)] [50] [.i .i64 r0, .sl 5 r1] ∧ W (.sl 5 r1) ≤ 1048577) := by
  obtain ⟨w, rfl⟩ := ofProgram u h
  obtain ⟨d, rfl⟩ := ofDictionary v h2
  obtain ⟨l, rfl⟩ := ofs (e := eUnit) (fun a ha => ofUnit a (h1.2 a ha))
  have key : (rmF w l d s n).2 = [] ∨ (rmF w l d s n).2 = d.args ∨ (rmF w l d s n).2 = [d] := by
    unfold rmF
    cases (cnd (d.kind != 1) true (!(instF w d.at_).2)) with
    | true => exact .inl rfl
    | false =>
      simp only [cnd_false]
      cases decide (b_sMeth (instF w d.at_).1 n ≥ 0) with
      | true =>
        simp only [cnd_true]
        cases decide (b_sFindU l 2 d.at_.package d.at_.at_ (b_sMeth (instF w d.at_).1 n) < 0) with
        | true => exact .inl rfl
        | false => exact .inr (.inl rfl)
      | false =>
        simp only [cnd_false]
        cases decide (dflF w l s n < 0) with
        | true => exact .inl rfl
        | false => exact .inr (.inr rfl)
  have hda : (eDictionarys d.args).length ≤ big ∧ ∀ x ∈ eDictionarys d.args, wt (.st 26) x := by
    obtain ⟨d0, d1, d2, d3⟩ := d
    obtain ⟨q0, q1, q2, q3, e, _, _, _, k⟩ := inv_Dictionary h2
    simp only [eDictionary, U.st.injEq, List.cons.injEq, U.sl.injEq, true_and, and_true] at e
    obtain ⟨_, _, _, rfl⟩ := e
    exact k
  refine ⟨(rmF w l d s n).1, eDictionarys (rmF w l d s n).2, ?_, fun hw hu hd => ⟨(w_sRM w l d s n (sRM_eq w l d s n (by omega) (by omega))).p, w_iRM w l d s n (iRM_eq w l d s n (by omega)), ?_⟩⟩
  · rcases key with k | k | k <;> rw [k]
    · exact ⟨by simp [eDictionarys], by simp [eDictionarys]⟩
    · exact hda
    · exact ⟨by simp [eDictionarys, big], by simpa [eDictionarys] using h2⟩
  · have := args_W d
    rcases key with k | k | k <;> rw [k]
    · simp [eDictionarys, W, Ws]
    · omega
    · simp only [eDictionarys, W, Ws, List.length_cons, List.length_nil]; omega
end Go.Proofs.YthojhakapbfbiaaGreat
