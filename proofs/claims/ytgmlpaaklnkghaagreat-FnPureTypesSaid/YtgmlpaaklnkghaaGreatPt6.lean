/- Th1. Written by a program of mine (aw.py). -/
import Derived.Test.YtgmlpaaklnkghaaGreatEng39
import Derived.Test.YtgmlpaaklnkghaaGreatUn3
set_option linter.unusedVariables false
set_option linter.unusedSimpArgs false
set_option linter.unusedSectionVars false
namespace Go.Proofs.YtgmlpaaklnkghaaGreat
open Go Go.Eng
attribute [local irreducible] V VO VQ VY Quiet QR SpecP SpecO Rng PostP PostO PostG
/-! ### unification, by hand: variables, sizes, substitution -/
mutual
def tvs : TType → List (List UInt8)
  | ⟨k, n, ts⟩ => (if k = 1 then [n] else []) ++ tvss ts
def tvss : List TType → List (List UInt8)
  | [] => []
  | a :: ts => tvs a ++ tvss ts
end
theorem tvss_mem {v : List UInt8} : ∀ {ts : List TType}, v ∈ tvss ts ↔ ∃ t ∈ ts, v ∈ tvs t
  | [] => by simp [tvss]
  | a :: ts => by simp [tvss, tvss_mem (ts := ts)]
theorem wrap_sm {n : Int} (h0 : 0 ≤ n) (h1 : n ≤ 4611686018427387904) : IntKind.i64.wrap n = n := wrap_in n (by omega) (by omega)
mutual
theorem tvs_len : ∀ (t : TType), (tvs t).length ≤ tnd t
  | ⟨k, n, ts⟩ => by
    have := tvss_len ts
    simp only [tvs, tnd, List.length_append]
    split <;> simp <;> omega
theorem tvss_len : ∀ (ts : List TType), (tvss ts).length ≤ tnds ts
  | [] => by simp [tvss]
  | a :: ts => by
    have h1 := tvs_len a
    have h2 := tvss_len ts
    simp only [tvss, tnds, List.length_append]
    omega
end
theorem cnt_le (v : List UInt8) (l : List (List UInt8)) : l.count v ≤ l.length := List.count_le_length
mutual
theorem tsz_big : ∀ (t : TType), tnd t ≤ 4611686018427387904 → tsz t = tnd t
  | ⟨k, n, ts⟩, h => by
    simp only [tnd] at h
    simp only [tsz, tnd]
    rw [tszs_big ts 1 (by omega) (by omega)]
    omega
theorem tszs_big : ∀ (ts : List TType) (y : Int), 0 ≤ y → y + tnds ts ≤ 4611686018427387904 → tszs ts y = y + tnds ts
  | [], y, _, _ => by simp [tszs, tnds]
  | a :: ts, y, h0, h => by
    simp only [tnds] at h
    simp only [tszs, tnds]
    rw [tsz_big a (by omega), wrap_sm (by omega) (by omega), tszs_big ts _ (by omega) (by omega)]
    omega
end
mutual
theorem ctc_eq (v : List UInt8) : ∀ (t : TType) (n : Int), 0 ≤ n → n + tnd t ≤ 4611686018427387904 → ctc v n t = n + (tvs t).count v
  | ⟨k, s, ts⟩, n, h0, h => by
    simp only [tnd] at h
    have h1 : ∀ m : Int, (m = n ∨ m = n + 1) → ctcs v m ts = m + (tvss ts).count v := fun m hm => ctcs_eq v ts m (by omega) (by omega)
    simp only [ctc, tvs, List.count_append]
    by_cases hk : k = 1
    · subst hk
      by_cases hs : s = v
      · subst hs
        simp only [beq_self_eq_true, cnd_true, if_true, List.count_singleton]
        rw [wrap_sm (by omega) (by omega), h1 _ (.inr rfl)]
        simp
        omega
      · simp only [beq_self_eq_true, cnd_true, if_true, List.count_singleton, beq_false_of_ne hs, cnd_false]
        rw [h1 _ (.inl rfl)]
        simp
    · simp only [beq_false_of_ne hk, cnd_false, if_neg hk, List.count_nil, Nat.zero_add]
      exact h1 _ (.inl rfl)
theorem ctcs_eq (v : List UInt8) : ∀ (ts : List TType) (n : Int), 0 ≤ n → n + tnds ts ≤ 4611686018427387904 → ctcs v n ts = n + (tvss ts).count v
  | [], n, _, _ => by simp [ctcs, tvss]
  | a :: ts, n, h0, h => by
    simp only [tnds] at h
    have h2 := cnt_le v (tvs a)
    have h3 := tvs_len a
    simp only [ctcs, tvss, List.count_append]
    rw [ctc_eq v a n h0 (by omega), ctcs_eq v ts _ (by omega) (by omega)]
    omega
end
mutual
theorem ctn_eq (v : List UInt8) : ∀ (t : TType), tnd t ≤ 4611686018427387904 → ctn t v = (tvs t).count v
  | ⟨k, s, ts⟩, h => by
    simp only [tnd] at h
    have h1 : ∀ m : Int, (m = 0 ∨ m = 1) → ctns ts v m = m + (tvss ts).count v := fun m hm => ctns_eq v ts m (by omega) (by omega)
    simp only [ctn, tvs, List.count_append]
    by_cases hk : k = 1
    · subst hk
      by_cases hs : s = v
      · subst hs
        simp only [beq_self_eq_true, cnd_true, if_true, List.count_singleton]
        rw [h1 _ (.inr rfl)]
        simp
      · simp only [beq_self_eq_true, cnd_true, if_true, List.count_singleton, beq_false_of_ne hs, cnd_false]
        rw [h1 _ (.inl rfl)]
        simp
    · simp only [beq_false_of_ne hk, cnd_false, if_neg hk, List.count_nil, Nat.zero_add]
      rw [h1 _ (.inl rfl)]
      simp
theorem ctns_eq (v : List UInt8) : ∀ (ts : List TType) (n : Int), 0 ≤ n → n + tnds ts ≤ 4611686018427387904 → ctns ts v n = n + (tvss ts).count v
  | [], n, _, _ => by simp [ctns, tvss]
  | a :: ts, n, h0, h => by
    simp only [tnds] at h
    have h2 := cnt_le v (tvs a)
    have h3 := tvs_len a
    simp only [ctns, tvss, List.count_append]
    rw [ctn_eq v a (by omega), wrap_sm (by omega) (by omega), ctns_eq v ts _ (by omega) (by omega)]
    omega
end
theorem iOcc {v : List UInt8} {t : TType} (h : tnd t ≤ 4611686018427387904) : b_iOccurs v t = decide (v ∈ tvs t) := by
  have e : b_iCount t v = ((tvs t).count v : Int) := by
    show ctc v 0 t = _
    rw [ctc_eq v t 0 (by omega) (by omega)]
    simp
  simp only [b_iOccurs, e]
  by_cases hm : v ∈ tvs t
  · have := List.count_pos_iff.2 hm
    simp [hm]
  · simp [hm, List.count_eq_zero_of_not_mem hm]
theorem sOcc {v : List UInt8} {t : TType} (h : tnd t ≤ 4611686018427387904) : b_sOccurs v t = decide (v ∈ tvs t) := by
  simp only [b_sOccurs, ctn_eq v t h]
  by_cases hm : v ∈ tvs t
  · have := List.count_pos_iff.2 hm
    simp [hm]
  · simp [hm, List.count_eq_zero_of_not_mem hm]
def dom (l : List TBinding) : List (List UInt8) := l.map TBinding.var_
theorem lkp_out {v : List UInt8} : ∀ {l : List TBinding}, v ∉ dom l → (lkp v l).2 = false
  | [], _ => rfl
  | b :: l, h => by
    simp only [dom, List.map_cons, List.mem_cons, not_or] at h
    simp only [lkp]
    rw [beq_false_of_ne (fun e => h.1 e.symm)]
    exact lkp_out (l := l) h.2
theorem lkp_in {v : List UInt8} {l : List TBinding} (h : v ∈ dom l) : (lkp v l).2 = true := by
  cases hb : (lkp v l).2 with
  | true => rfl
  | false =>
    exfalso
    induction l with
    | nil => simp [dom] at h
    | cons b l ih =>
      simp only [lkp] at hb
      by_cases e : b.var_ = v
      · subst e; simp [cnd_true] at hb
      · rw [beq_false_of_ne e] at hb
        simp only [dom, List.map_cons, List.mem_cons] at h
        exact ih (h.resolve_left (fun e' => e e'.symm)) hb
mutual
theorem apT_out {l : List TBinding} : ∀ (t : TType), (∀ v ∈ tvs t, v ∉ dom l) → apT l t = t
  | ⟨k, n, ts⟩, h => by
    have h1 := apTs_out (l := l) ts (fun v hv => h v (by simp [tvs, hv]))
    simp only [apT, h1]
    by_cases hk : k = 1
    · rw [lkp_out (h n (by simp [tvs, hk]))]
      cases (k == 1) <;> rfl
    · rw [beq_false_of_ne hk]
      simp [cnd_false]
theorem apTs_out {l : List TBinding} : ∀ (ts : List TType), (∀ v ∈ tvss ts, v ∉ dom l) → apTs l ts = ts
  | [], _ => rfl
  | a :: ts, h => by
    simp only [apTs]
    rw [apT_out a (fun v hv => h v (by simp [tvss, hv])), apTs_out ts (fun v hv => h v (by simp [tvss, hv]))]
end
mutual
theorem tvs_ap {l : List TBinding} {v : List UInt8} : ∀ (t : TType), v ∈ tvs (apT l t) → (v ∈ tvs t ∧ v ∉ dom l) ∨ ∃ b ∈ l, v ∈ tvs b.type_
  | ⟨k, n, ts⟩, h => by
    have key : v ∈ tvss (apTs l ts) → (v ∈ tvs ⟨k, n, ts⟩ ∧ v ∉ dom l) ∨ ∃ b ∈ l, v ∈ tvs b.type_ := fun h => (tvss_ap ts h).imp (fun h => ⟨by simp [tvs, h.1], h.2⟩) id
    simp only [apT] at h
    by_cases hk : k = 1
    · subst hk
      cases hb : (lkp n l).2 with
      | true =>
        rw [hb] at h
        simp only [beq_self_eq_true, cnd_true] at h
        obtain ⟨b, h1, _, h3⟩ := lkp_mem hb
        rw [h3] at h
        exact .inr ⟨b, h1, h⟩
      | false =>
        rw [hb] at h
        simp only [beq_self_eq_true, cnd_true, cnd_false, tvs, if_true, List.mem_append, List.mem_singleton] at h
        rcases h with rfl | h
        · refine .inl ⟨by simp [tvs], fun hd => ?_⟩
          rw [lkp_in hd] at hb
          cases hb
        · exact key h
    · rw [beq_false_of_ne hk] at h
      simp only [cnd_false, tvs, if_neg hk, List.nil_append] at h
      exact key h
theorem tvss_ap {l : List TBinding} {v : List UInt8} : ∀ (ts : List TType), v ∈ tvss (apTs l ts) → (v ∈ tvss ts ∧ v ∉ dom l) ∨ ∃ b ∈ l, v ∈ tvs b.type_
  | [], h => by simp [apTs, tvss] at h
  | a :: ts, h => by
    simp only [apTs, tvss, List.mem_append] at h
    rcases h with h | h
    · exact (tvs_ap a h).imp (fun h => ⟨by simp [tvss, h.1], h.2⟩) id
    · exact (tvss_ap ts h).imp (fun h => ⟨by simp [tvss, h.1], h.2⟩) id
end
/-- A variable is bound. -/
def bindL (l : List TBinding) (v : List UInt8) (y : TType) : List TBinding := l.map (fun b => ⟨b.var_, apT [⟨v, y⟩] b.type_⟩) ++ [⟨v, y⟩]
theorem dom_bind (l : List TBinding) (v : List UInt8) (y : TType) : dom (bindL l v y) = dom l ++ [v] := by
  simp [dom, bindL]
theorem lkp_bind (v : List UInt8) (y : TType) (n : List UInt8) : ∀ (l : List TBinding), lkp n (bindL l v y) = cnd (lkp n l).2 (apT [⟨v, y⟩] (lkp n l).1, true) (lkp n [⟨v, y⟩])
  | [] => by simp [bindL, lkp, cnd_false]
  | b :: l => by
    have h := lkp_bind v y n l
    simp only [bindL, List.map_cons, List.cons_append, lkp] at h ⊢
    cases b.var_ == n with
    | true => simp [cnd_true]
    | false => simpa [cnd_false] using h
mutual
theorem apT_bind (l : List TBinding) (v : List UInt8) (y : TType) : ∀ (t : TType), apT (bindL l v y) t = apT [⟨v, y⟩] (apT l t)
  | ⟨k, n, ts⟩ => by
    have h1 := apTs_bind l v y ts
    simp only [apT, h1, lkp_bind]
    by_cases hk : k = 1
    · subst hk
      cases hb : (lkp n l).2 with
      | true => simp [cnd_true]
      | false => simp [apT, cnd_true, cnd_false]
    · rw [beq_false_of_ne hk]
      simp [apT, beq_false_of_ne hk, cnd_false]
theorem apTs_bind (l : List TBinding) (v : List UInt8) (y : TType) : ∀ (ts : List TType), apTs (bindL l v y) ts = apTs [⟨v, y⟩] (apTs l ts)
  | [] => rfl
  | a :: ts => by simp only [apTs, apT_bind l v y a, apTs_bind l v y ts]
end
end Go.Proofs.YtgmlpaaklnkghaaGreat
set_option linter.unusedVariables false
set_option linter.unusedSimpArgs false
set_option linter.unusedSectionVars false
namespace Go.Proofs.YtgmlpaaklnkghaaGreat
open Go Go.Eng
attribute [local irreducible] V VO VQ VY Quiet QR SpecP SpecO Rng PostP PostO PostG
def b_iUnify_l2 (x9 : TType) (x11 : TType) (k2_0 : (List TBinding) → Option (Bool × List TBinding)) : Nat → Nat → (List TBinding) → Option (Bool × List TBinding)
  | 0, y22, y20 => (k2_0 y20)
  | m24 + 1, y22, y20 => bnd (at? y20 (y22 : Int)) fun x25 =>
gd (bok [(TBinding.mk x11.name x9)] ∧ tok x25.type_) (lt_ (apT [(TBinding.mk x11.name x9)] x25.type_) fun x27 =>
b_iUnify_l2 x9 x11 k2_0 m24 (y22 + 1) (y20.set y22 (TBinding.mk x25.var_ x27)))
def b_iUnify_l3 (x9 : TType) (x11 : TType) (k3_0 : (List TBinding) → Option (Bool × List TBinding)) : Nat → Nat → (List TBinding) → Option (Bool × List TBinding)
  | 0, y41, y39 => (k3_0 y39)
  | m43 + 1, y41, y39 => bnd (at? y39 (y41 : Int)) fun x44 =>
gd (bok [(TBinding.mk x9.name x11)] ∧ tok x44.type_) (lt_ (apT [(TBinding.mk x9.name x11)] x44.type_) fun x46 =>
b_iUnify_l3 x9 x11 k3_0 m43 (y41 + 1) (y39.set y41 (TBinding.mk x44.var_ x46)))
def b_iUnify_l1 (rec_iUnify : (List TBinding) → (List TType) → (List TType) → Option (Bool × List TBinding)) (bs : List TType) : List TType → Nat → (List TBinding) → Option (Bool × List TBinding)
  | [], y3, y1 => (some (true, y1))
  | x6 :: xs, y3, y1 => bnd (at? bs (y3 : Int)) fun x7 =>
gd (bok y1 ∧ tok x6) (lt_ (apT y1 x6) fun x9 =>
gd (bok y1 ∧ tok x7) (lt_ (apT y1 x7) fun x11 =>
(cnd (teq x9 x11) (
b_iUnify_l1 rec_iUnify bs xs (y3 + 1) y1) (
(cnd (decide ((IntKind.i64.wrap ((tsz x9) + (tsz x11))) > 4000)) (
(some (false, []))) (
lt_ ((cnd (x9.kind != 1) ((x11.kind == 1)) (false))) fun b14 =>
(cnd b14 (
(cnd (x11.kind == 1) (
(cnd (b_iOccurs x11.name x9) (
(some (false, []))) (
b_iUnify_l2 x9 x11 (fun y20 => gd (y20.length + [(TBinding.mk x11.name x9)].length ≤ 4294967296) (
b_iUnify_l1 rec_iUnify bs xs (y3 + 1) (y20 ++ [(TBinding.mk x11.name x9)]))) y1.length 0 y1))) (
lt_ ((cnd (x11.kind != x9.kind) (true) ((cnd (!(x11.name == x9.name)) (true) (((x11.args.length : Int) != (x9.args.length : Int))))))) fun b29 =>
(cnd b29 (
(some (false, []))) (
bnd (rec_iUnify y1 x11.args x9.args) fun x33 =>
(cnd (!x33.1) (
(some (false, []))) (
b_iUnify_l1 rec_iUnify bs xs (y3 + 1) x33.2))))))) (
(cnd (x9.kind == 1) (
(cnd (b_iOccurs x9.name x11) (
(some (false, []))) (
b_iUnify_l3 x9 x11 (fun y39 => gd (y39.length + [(TBinding.mk x9.name x11)].length ≤ 4294967296) (
b_iUnify_l1 rec_iUnify bs xs (y3 + 1) (y39 ++ [(TBinding.mk x9.name x11)]))) y1.length 0 y1))) (
lt_ ((cnd (x9.kind != x11.kind) (true) ((cnd (!(x9.name == x11.name)) (true) (((x9.args.length : Int) != (x11.args.length : Int))))))) fun b48 =>
(cnd b48 (
(some (false, []))) (
bnd (rec_iUnify y1 x9.args x11.args) fun x52 =>
(cnd (!x52.1) (
(some (false, []))) (
b_iUnify_l1 rec_iUnify bs xs (y3 + 1) x52.2))))))))))))))
def b_iUnify (rec_iUnify : (List TBinding) → (List TType) → (List TType) → Option (Bool × List TBinding)) (l0 : List TBinding) (as_ : List TType) (bs : List TType) : Option (Bool × List TBinding) :=
b_iUnify_l1 rec_iUnify bs as_ 0 l0
set_option maxHeartbeats 4000000 in
theorem w_iUnify {rec_iUnify : (List TBinding) → (List TType) → (List TType) → Option (Bool × List TBinding)} (hrec_iUnify : ∀ (x0 : List TBinding) (x1 : List TType) (x2 : List TType) (w0 : Nat) {r : Bool × List TBinding}, rec_iUnify x0 x1 x2 = some r → Go.Eng.Spec Tryz.prog 53 [.sl 0 w0, .d (.sl 3 (eTypes x1)), .d (.sl 3 (eTypes x2))] [.own 37 4 w0 (eBindings x0)] (fun sv Lo => ∃ v'0, sv = .tup [.sl 0 v'0, .d (.b r.1)] ∧ Lo = [.own 37 4 v'0 (eBindings r.2)])) (l0 : List TBinding) (as_ : List TType) (bs : List TType) (v0 : Nat) {r : Bool × List TBinding} (h : b_iUnify rec_iUnify l0 as_ bs = some r) : Go.Eng.Spec Tryz.prog 53 [.sl 0 v0, .d (.sl 3 (eTypes as_)), .d (.sl 3 (eTypes bs))] [.own 37 4 v0 (eBindings l0)] (fun sv Lo => ∃ v'0, sv = .tup [.sl 0 v'0, .d (.b r.1)] ∧ Lo = [.own 37 4 v'0 (eBindings r.2)]) := by
  unfold b_iUnify at h
  refine Spec_intro 1 Tryz.func53 rfl (by kernel_rfl) rfl rfl fun A _ => ?_
  refine goL ?_
  refine V_block ?_
  show V _ _ _ _ _
  refine V_bd 1 (fun z4 => ?_)
  refine V_loop3 (fun (y3 : Nat) (y1 : List TBinding) (v2 : Nat) => ⟨[(0, .sl 0 v2), (1, .d (.sl 3 (eTypes as_))), (2, .d (.sl 3 (eTypes bs))), (16, .d (.i .i64 (as_.length : Int))), (17, .d (.i .i64 (y3 : Int)))], [.own 37 4 v2 (eBindings y1)], Tryz.f53.ntmps⟩) (fun y3 y1 v2 => b_iUnify_l1 rec_iUnify bs (as_.drop y3) y3 y1 = some r) (fun y3 y1 v2 => as_.length - y3) 0 l0 v0 ⟨rfl, ⟨⟨rfl, rfl⟩, ⟨rfl, rfl⟩, ⟨rfl, rfl⟩, ⟨rfl, rfl⟩, ⟨rfl, rfl⟩, trivial⟩, ⟨[], rfl⟩, rfl⟩ h ?_
  rintro y3 y1 v2 h
  refine goL ?_
  refine V_seq (V_cb (fun c5 => ?_) (fun c5 => ?_))
  · have hky32 := kltN c5
    obtain ⟨x6, hx6, hdx6⟩ := drop_at hky32
    rw [hdx6, b_iUnify_l1.eq_2] at h
    obtain ⟨x6_0, x6_1, x6_2⟩ := x6
    refine V_skip ?_
    show V _ _ _ _ _
    refine V_seq (V_block ?_)
    refine goNL ?_
    obtain ⟨x7, hx7, h⟩ := bnd_s h
    rw [at_nat] at hx7
    obtain ⟨x7_0, x7_1, x7_2⟩ := x7
    obtain ⟨g8, h⟩ := gd_s h
    obtain ⟨x9, hx9, h⟩ := lt_x h
    obtain ⟨x9_0, x9_1, x9_2⟩ := x9
    have sx9 := t_iApply y1 (TType.mk x6_0 x6_1 x6_2) g8
    rw [hx9] at sx9
    obtain ⟨g10, h⟩ := gd_s h
    obtain ⟨x11, hx11, h⟩ := lt_x h
    obtain ⟨x11_0, x11_1, x11_2⟩ := x11
    have sx11 := t_iApply y1 (TType.mk x7_0 x7_1 x7_2) g10
    rw [hx11] at sx11
    refine V_seq_drawTJ (P := Tryz.prog) Mix.h (.q 0 (.q 1 (.q 2 (.q 3 (.q 4 (.q 6 (.q 7 (.q 8 (.q 9 (.q 10 (.h 5 (.h 11 (.h 12 (.h 13 (.h 14 (.h 15 .nil .nil) .nil) .nil) (.h 13 (.h 12 (.h 14 (.h 15 .nil .nil) .nil) .nil) .nil)) (.h 12 (.h 11 (.h 13 (.h 14 (.h 15 .nil .nil) .nil) .nil) (.h 13 (.h 11 (.h 14 (.h 15 .nil .nil) .nil) .nil) .nil)) (.h 13 (.h 11 (.h 12 (.h 14 (.h 15 .nil .nil) .nil) .nil) (.h 12 (.h 11 (.h 14 (.h 15 .nil .nil) .nil) .nil) .nil)) .nil))) (.h 12 (.h 5 (.h 11 (.h 13 (.h 14 (.h 15 .nil .nil) .nil) .nil) (.h 13 (.h 11 (.h 14 (.h 15 .nil .nil) .nil) .nil) .nil)) (.h 13 (.h 5 (.h 11 (.h 14 (.h 15 .nil .nil) .nil) .nil) .nil) .nil)) (.h 13 (.h 5 (.h 11 (.h 12 (.h 14 (.h 15 .nil .nil) .nil) .nil) (.h 12 (.h 11 (.h 14 (.h 15 .nil .nil) .nil) .nil) .nil)) (.h 12 (.h 5 (.h 11 (.h 14 (.h 15 .nil .nil) .nil) .nil) .nil) .nil)) .nil))))))))))))) ⟨[(0, .sl 0 v2), (1, .d (.sl 3 (eTypes as_))), (2, .d (.sl 3 (eTypes bs))), (9, .ptr 3 0), (10, .ptr 4 0), (16, .d (.i .i64 (as_.length : Int))), (17, .d (.i .i64 (y3 : Int)))], [.own 37 4 v2 (eBindings y1), .own 27 3 0 (eTypes x9_2), .own 27 3 0 (eTypes x11_2), .box [.d (.i .i64 x9_0), .d (.s x9_1), .sl 1 0], .box [.d (.i .i64 x11_0), .d (.s x11_1), .sl 2 0]], Tryz.f53.ntmps⟩ (by kernel_rfl) ?_ ?_
    · refine goT ?_
      refine VT_q (VY_ri rfl (QR_ixn y3 (gType hx6)) VY_e) ?_
      refine goT ?_
      refine VT_q (VY_ri rfl (QR_ixn y3 (gType hx7)) VY_e) ?_
      refine goT ?_
      refine VT_h (VY_co (sx9) VY_e) ?_ ?_
      · refine VT_h (VY_co (sx11) VY_e) ?_ ?_
        · refine VT_h (VY_h rfl (by repeat constructor) (by repeat (first | exact PfOk.nil | (apply PfOk.keep; focus ((repeat constructor); done)) | (apply PfOk.dep; focus kernel_rfl))) VY_e) ?_ ?_
          · refine goT ?_
            refine VT_nil ?_
            exact R_pk 1 [0, 1, 2, 3, 4]
          refine goT ?_
          refine VT_nil ?_
          exact R_pk 1 [0, 1, 2, 4, 3]
        refine VT_h (VY_h rfl (by repeat constructor) (by repeat (first | exact PfOk.nil | (apply PfOk.keep; focus ((repeat constructor); done)) | (apply PfOk.dep; focus kernel_rfl))) VY_e) ?_ ?_
        · refine VT_h (VY_co (sx11) VY_e) ?_ ?_
          · refine goT ?_
            refine VT_nil ?_
            exact R_pk 1 [0, 1, 3, 2, 4]
          refine goT ?_
          refine VT_h1 (VY_co (sx11) VY_e) ?_
          refine goT ?_
          refine VT_nil ?_
          exact R_pk 1 [0, 1, 4, 2, 3]
        refine goT ?_
        refine VT_h (VY_co (sx11) VY_e) ?_ ?_
        · refine goT ?_
          refine VT_nil ?_
          exact R_pk 1 [0, 1, 3, 4, 2]
        refine goT ?_
        refine VT_h1 (VY_co (sx11) VY_e) ?_
        refine goT ?_
        refine VT_nil ?_
        exact R_pk 1 [0, 1, 4, 3, 2]
      refine VT_h (VY_h rfl (by repeat constructor) (by repeat (first | exact PfOk.nil | (apply PfOk.keep; focus ((repeat constructor); done)) | (apply PfOk.dep; focus kernel_rfl))) VY_e) ?_ ?_
      · refine VT_h (VY_co (sx9) VY_e) ?_ ?_
        · refine VT_h (VY_co (sx11) VY_e) ?_ ?_
          · refine goT ?_
            refine VT_nil ?_
            exact R_pk 1 [0, 2, 3, 1, 4]
          refine goT ?_
          refine VT_h1 (VY_co (sx11) VY_e) ?_
          refine goT ?_
          refine VT_nil ?_
          exact R_pk 1 [0, 2, 4, 1, 3]
        refine goT ?_
        refine VT_h1 (VY_co (sx9) VY_e) ?_
        refine VT_h1 (VY_co (sx11) VY_e) ?_
        refine goT ?_
        refine VT_nil ?_
        exact R_pk 1 [0, 3, 4, 1, 2]
      refine goT ?_
      refine VT_h (VY_co (sx9) VY_e) ?_ ?_
      · refine VT_h (VY_co (sx11) VY_e) ?_ ?_
        · refine goT ?_
          refine VT_nil ?_
          exact R_pk 1 [0, 2, 3, 4, 1]
        refine goT ?_
        refine VT_h1 (VY_co (sx11) VY_e) ?_
        refine goT ?_
        refine VT_nil ?_
        exact R_pk 1 [0, 2, 4, 3, 1]
      refine goT ?_
      refine VT_h1 (VY_co (sx9) VY_e) ?_
      refine VT_h1 (VY_co (sx11) VY_e) ?_
      refine goT ?_
      refine VT_nil ?_
      exact R_pk 1 [0, 3, 4, 2, 1]
    refine goL ?_
    refine VO_k (Q_cb (t_iEqualType (TType.mk x9_0 x9_1 x9_2) (TType.mk x11_0 x11_1 x11_2))) ?_
    refine goL ?_
    refine V_cb (fun c12 => ?_) (fun c12 => ?_)
    · replace h := cnd_t c12 h
      refine V_exit ?_
      show V _ _ _ _ _
      refine goL ?_
      refine VO_r (QR_inc y3 (by omega)) ?_
      refine goL ?_
      exact ⟨(y3 + 1), y1, v2, h, by omega, ⟨rfl, ⟨⟨rfl, rfl⟩, ⟨rfl, rfl⟩, ⟨rfl, rfl⟩, ⟨rfl, rfl⟩, ⟨rfl, rfl⟩, trivial⟩, ⟨_, rfl⟩, rfl⟩⟩
    · replace h := cnd_f c12 h
      refine V_skip ?_
      show V _ _ _ _ _
      refine goL ?_
      refine VQ_k (Q_cb (t_iTypeSize (TType.mk x9_0 x9_1 x9_2))) ?_
      refine goL ?_
      refine VQ_k (Q_cb (t_iTypeSize (TType.mk x11_0 x11_1 x11_2))) ?_
      refine VQ_r (QR_ar) ?_
      refine goL ?_
      refine V_cb (fun c13 => ?_) (fun c13 => ?_)
      · replace h := cnd_t c13 h
        refine goL ?_
        refine V_nilO 6 0 ?_
        refine V_ret ?_
        replace h := Option.some.inj h
        subst h
        exact R_rH [.sl 0 (v2 + 1), .d (.b false)] [.own 37 4 (v2 + 1) []] ⟨(v2 + 1), rfl, rfl⟩
      · replace h := cnd_f c13 h
        refine V_skip ?_
        show V _ _ _ _ _
        refine goL ?_
        obtain ⟨b14, hb14, h⟩ := lt_x h
        refine VO_join ⟨[(0, .sl 0 v2), (1, .d (.sl 3 (eTypes as_))), (2, .d (.sl 3 (eTypes bs))), (9, .ptr 3 0), (10, .ptr 4 0), (16, .d (.i .i64 (as_.length : Int))), (17, .d (.i .i64 (y3 : Int))), (48, .d (.b b14))], [.own 37 4 v2 (eBindings y1), .own 27 3 0 (eTypes x9_2), .own 27 3 0 (eTypes x11_2), .box [.d (.i .i64 x9_0), .d (.s x9_1), .sl 1 0], .box [.d (.i .i64 x11_0), .d (.s x11_1), .sl 2 0]], Tryz.f53.ntmps⟩ ?_ ?_
        · refine VO_case 44 (fun c15 => ?_) (fun c15 => ?_)
          · replace hb14 := cnd_t c15 hb14
            refine goL ?_
            cases hb14
            exact ⟨rfl, ⟨⟨rfl, rfl⟩, ⟨rfl, rfl⟩, ⟨rfl, rfl⟩, ⟨rfl, rfl⟩, ⟨rfl, rfl⟩, ⟨rfl, rfl⟩, ⟨rfl, rfl⟩, ⟨rfl, rfl⟩, trivial⟩, ⟨[], rfl⟩, rfl⟩
          · replace hb14 := cnd_f c15 hb14
            refine goL ?_
            cases hb14
            exact ⟨rfl, ⟨⟨rfl, rfl⟩, ⟨rfl, rfl⟩, ⟨rfl, rfl⟩, ⟨rfl, rfl⟩, ⟨rfl, rfl⟩, ⟨rfl, rfl⟩, ⟨rfl, rfl⟩, ⟨rfl, rfl⟩, trivial⟩, ⟨[], rfl⟩, rfl⟩
        refine goL ?_
        refine V_cb (fun c16 => ?_) (fun c16 => ?_)
        · replace h := cnd_t c16 h
          refine goL ?_
          refine V_cb (fun c17 => ?_) (fun c17 => ?_)
          · replace h := cnd_t c17 h
            refine goL ?_
            refine VO_k (Q_cb (w_iOccurs x11_1 (TType.mk x9_0 x9_1 x9_2))) ?_
            refine goL ?_
            refine V_cb (fun c18 => ?_) (fun c18 => ?_)
            · replace h := cnd_t c18 h
              refine goL ?_
              refine V_nilO 6 0 ?_
              refine V_ret ?_
              replace h := Option.some.inj h
              subst h
              exact R_rH [.sl 0 (v2 + 1), .d (.b false)] [.own 37 4 (v2 + 1) []] ⟨(v2 + 1), rfl, rfl⟩
            · replace h := cnd_f c18 h
              refine V_skip ?_
              show V _ _ _ _ _
              refine goL ?_
              refine VO_k (Q_build TBd.h TZ.h rfl (by repeat constructor)) ?_
              refine VO_l1t (TBinding.mk x11_1 (TType.mk x9_0 x9_1 x9_2)) ?_
              refine goL ?_
              refine V_block ?_
              refine V_bdo 0 (fun z19 => ?_)
              refine V_share 0 ?_
              refine V_toMix 0 ?_
              show V _ _ _ _ _
              refine V_loop2 (fun (y22 : Nat) (y20 : List TBinding) => ⟨[(0, .sl 0 v2), (1, .d (.sl 3 (eTypes as_))), (2, .d (.sl 3 (eTypes bs))), (11, .sl 5 0), (16, .d (.i .i64 (as_.length : Int))), (17, .d (.i .i64 (y3 : Int))), (64, .d (.i .i64 (y1.length : Int))), (65, .d (.i .i64 (y22 : Int)))], [.mix 37 4 v2 (eBindings (y20.take y22)) (eBindings (y20.drop y22)), .dead 1, .own 27 3 0 (eTypes x11_2), .box [.d (.i .i64 x11_0), .d (.s x11_1), .sl 2 0], .box [.d (.i .i64 x9_0), .d (.s x9_1), .sl 1 0], .own 37 4 0 (eBindings [(TBinding.mk x11_1 (TType.mk x9_0 x9_1 x9_2))])], Tryz.f53.ntmps⟩) (fun y22 y20 => y20.length = y1.length ∧ y22 ≤ y1.length ∧ b_iUnify_l2 (TType.mk x9_0 x9_1 x9_2) (TType.mk x11_0 x11_1 x11_2) (fun y20 => gd (y20.length + [(TBinding.mk (TType.mk x11_0 x11_1 x11_2).name (TType.mk x9_0 x9_1 x9_2))].length ≤ 4294967296) (
b_iUnify_l1 rec_iUnify bs (as_.drop (y3 + 1)) (y3 + 1) (y20 ++ [(TBinding.mk (TType.mk x11_0 x11_1 x11_2).name (TType.mk x9_0 x9_1 x9_2))]))) (y1.length - y22) y22 y20 = some r) (fun y22 y20 => y1.length - y22) 0 y1 ⟨rfl, ⟨⟨rfl, rfl⟩, ⟨rfl, rfl⟩, ⟨rfl, rfl⟩, ⟨rfl, rfl⟩, ⟨rfl, rfl⟩, ⟨rfl, rfl⟩, ⟨rfl, rfl⟩, ⟨rfl, rfl⟩, trivial⟩, ⟨[], rfl⟩, rfl⟩ ⟨rfl, by simp, h⟩ ?_
              rintro y22 y20 ⟨hmy22, hky22, h⟩
              refine goL ?_
              refine V_seq (V_cb (fun c23 => ?_) (fun c23 => ?_))
              · have hky222 := kltN c23
                obtain ⟨m24, hm24⟩ : ∃ m, y1.length - y22 = m + 1 := ⟨y1.length - y22 - 1, by omega⟩
                rw [hm24, b_iUnify_l2.eq_2] at h
                refine V_skip ?_
                show V _ _ _ _ _
                refine V_seq (V_block ?_)
                refine goL ?_
                obtain ⟨x25, hx25, h⟩ := bnd_s h
                rw [at_nat] at hx25
                obtain ⟨x25_0, ⟨x25_1_0, x25_1_1, x25_1_2⟩⟩ := x25
                rw [drop_of hx25]
                refine VO_k (Q_ixm y22 (mix_in (es := eBindings) hx25)) ?_
                refine VO_k (Q_field_mix rfl rfl TF.h) ?_
                refine VO_k (Q_load_mix (pre := [(.s x25_0)]) (u := (.st [.i .i64 x25_1_0, .s x25_1_1, .sl 3 (eTypes x25_1_2)])) rfl rfl (mix_len (es := eBindings) hx25) rfl TI.h rfl rfl) ?_
                obtain ⟨g26, h⟩ := gd_s h
                obtain ⟨x27, hx27, h⟩ := lt_x h
                obtain ⟨x27_0, x27_1, x27_2⟩ := x27
                have sx27 := t_iApply [(TBinding.mk x11_1 (TType.mk x9_0 x9_1 x9_2))] (TType.mk x25_1_0 x25_1_1 x25_1_2) g26
                rw [hx27] at sx27
                refine VO_co (sx27) ?_
                refine VO_k (Q_ixm y22 (mix_in (es := eBindings) hx25)) ?_
                refine VO_k (Q_field_mix rfl rfl TF.h) ?_
                refine VO_storeM (pre := [(.s x25_0)]) (old := (.st [.i .i64 x25_1_0, .s x25_1_1, .sl 3 (eTypes x25_1_2)])) (u := (.st [.i .i64 x27_0, .s x27_1, .sl 3 (eTypes x27_2)])) (js := [6]) (L' := [.mix 37 4 v2 (eBindings ((y20.set y22 (TBinding.mk x25_0 (TType.mk x27_0 x27_1 x27_2))).take (y22 + 1))) (eBindings ((y20.set y22 (TBinding.mk x25_0 (TType.mk x27_0 x27_1 x27_2))).drop (y22 + 1))), .dead 1, .own 27 3 0 (eTypes x11_2), .box [.d (.i .i64 x11_0), .d (.s x11_1), .sl 2 0], .box [.d (.i .i64 x9_0), .d (.s x9_1), .sl 1 0], .own 37 4 0 (eBindings [(TBinding.mk x11_1 (TType.mk x9_0 x9_1 x9_2))]), .dead 1]) rfl rfl (mix_len (es := eBindings) hx25) rfl rfl (by (repeat constructor); first | done | fail) rfl TI.h rfl rfl (by rw [mix_s1 (es := eBindings) (TBinding.mk x25_0 (TType.mk x27_0 x27_1 x27_2)) hx25, mix_s2 (es := eBindings) (TBinding.mk x25_0 (TType.mk x27_0 x27_1 x27_2))]; rfl) ?_
                refine goL ?_
                refine VO_r (QR_inc y22 (by omega)) ?_
                refine goL ?_
                rw [show m24 = y1.length - (y22 + 1) by omega] at h
                exact ⟨(y22 + 1), (y20.set y22 (TBinding.mk x25_0 (TType.mk x27_0 x27_1 x27_2))), ⟨by rw [List.length_set]; exact hmy22, by omega, h⟩, by omega, ⟨rfl, ⟨⟨rfl, rfl⟩, ⟨rfl, rfl⟩, ⟨rfl, rfl⟩, ⟨rfl, rfl⟩, ⟨rfl, rfl⟩, ⟨rfl, rfl⟩, ⟨rfl, rfl⟩, ⟨rfl, rfl⟩, trivial⟩, ⟨_, rfl⟩, rfl⟩⟩
              · have hky222 := kgeN c23
                rw [show y1.length - y22 = 0 by omega, b_iUnify_l2.eq_1] at h
                rw [List.drop_of_length_le (l := y20) (by omega), List.take_of_length_le (l := y20) (by omega)]
                refine V_ofMix 0 ?_
                refine V_exit ?_
                show V _ _ _ _ _
                refine goL ?_
                obtain ⟨g28, h⟩ := gd_s h
                refine VO_ap g28 ?_
                refine goL ?_
                refine V_exit ?_
                show V _ _ _ _ _
                refine goL ?_
                refine VO_r (QR_inc y3 (by omega)) ?_
                refine goL ?_
                exact ⟨(y3 + 1), (y20 ++ [(TBinding.mk x11_1 (TType.mk x9_0 x9_1 x9_2))]), (v2 + 1), h, by omega, ⟨rfl, ⟨⟨rfl, rfl⟩, ⟨rfl, rfl⟩, ⟨rfl, rfl⟩, ⟨rfl, rfl⟩, ⟨rfl, rfl⟩, trivial⟩, ⟨_, rfl⟩, rfl⟩⟩
          · replace h := cnd_f c17 h
            refine V_skip ?_
            show V _ _ _ _ _
            refine goL ?_
            obtain ⟨b29, hb29, h⟩ := lt_x h
            refine VO_join ⟨[(0, .sl 0 v2), (1, .d (.sl 3 (eTypes as_))), (2, .d (.sl 3 (eTypes bs))), (9, .ptr 3 0), (10, .ptr 4 0), (16, .d (.i .i64 (as_.length : Int))), (17, .d (.i .i64 (y3 : Int))), (103, .d (.b b29))], [.own 37 4 v2 (eBindings y1), .own 27 3 0 (eTypes x9_2), .own 27 3 0 (eTypes x11_2), .box [.d (.i .i64 x11_0), .d (.s x11_1), .sl 2 0], .box [.d (.i .i64 x9_0), .d (.s x9_1), .sl 1 0]], Tryz.f53.ntmps⟩ ?_ ?_
            · refine VO_case 88 (fun c30 => ?_) (fun c30 => ?_) (by first | rfl | (simp only [eTypes_len, eBindings_len]; rfl))
              · replace hb29 := cnd_t c30 hb29
                refine goL ?_
                cases hb29
                exact ⟨rfl, ⟨⟨rfl, rfl⟩, ⟨rfl, rfl⟩, ⟨rfl, rfl⟩, ⟨rfl, rfl⟩, ⟨rfl, rfl⟩, ⟨rfl, rfl⟩, ⟨rfl, rfl⟩, ⟨by first | rfl | (simp only [eTypes_len, eBindings_len]; rfl), rfl⟩, trivial⟩, ⟨[], rfl⟩, rfl⟩
              · replace hb29 := cnd_f c30 hb29
                refine goL ?_
                refine VO_case 95 (fun c31 => ?_) (fun c31 => ?_) (by first | rfl | (simp only [eTypes_len, eBindings_len]; rfl))
                · replace hb29 := cnd_t c31 hb29
                  refine goL ?_
                  cases hb29
                  exact ⟨rfl, ⟨⟨rfl, rfl⟩, ⟨rfl, rfl⟩, ⟨rfl, rfl⟩, ⟨rfl, rfl⟩, ⟨rfl, rfl⟩, ⟨rfl, rfl⟩, ⟨rfl, rfl⟩, ⟨by first | rfl | (simp only [eTypes_len, eBindings_len]; rfl), rfl⟩, trivial⟩, ⟨[], rfl⟩, rfl⟩
                · replace hb29 := cnd_f c31 hb29
                  refine goL ?_
                  cases hb29
                  exact ⟨rfl, ⟨⟨rfl, rfl⟩, ⟨rfl, rfl⟩, ⟨rfl, rfl⟩, ⟨rfl, rfl⟩, ⟨rfl, rfl⟩, ⟨rfl, rfl⟩, ⟨rfl, rfl⟩, ⟨by first | rfl | (simp only [eTypes_len, eBindings_len]; rfl), rfl⟩, trivial⟩, ⟨[], rfl⟩, rfl⟩
            refine goL ?_
            refine V_cb (fun c32 => ?_) (fun c32 => ?_)
            · replace h := cnd_t c32 h
              refine goL ?_
              refine V_nilO 6 0 ?_
              refine V_ret ?_
              replace h := Option.some.inj h
              subst h
              exact R_rH [.sl 0 (v2 + 1), .d (.b false)] [.own 37 4 (v2 + 1) []] ⟨(v2 + 1), rfl, rfl⟩
            · replace h := cnd_f c32 h
              refine V_skip ?_
              show V _ _ _ _ _
              refine goL ?_
              refine VO_freezeO 2 rfl rfl ?_
              refine VO_freezeO 1 rfl rfl ?_
              obtain ⟨x33, hx33, h⟩ := bnd_s h
              obtain ⟨x33_0, x33_1⟩ := x33
              refine VO_cG [0] (hrec_iUnify y1 x11_2 x9_2 v2 hx33) ?_
              rintro _ _ ⟨v34, rfl, rfl⟩
              show VO _ _ _ _ ⟨(_, .tup [.sl 0 v34, .d (.b x33_0)]) :: _, [.own 37 4 v34 (eBindings x33_1), .frz 27 3 0 (eTypes x9_2), .frz 27 3 0 (eTypes x11_2), .box [.d (.i .i64 x11_0), .d (.s x11_1), .sl 2 0], .box [.d (.i .i64 x9_0), .d (.s x9_1), .sl 1 0]], _⟩ _
              refine goL ?_
              refine V_cb (fun c35 => ?_) (fun c35 => ?_)
              · replace h := cnd_t c35 h
                refine goL ?_
                refine V_nilO 6 0 ?_
                refine V_ret ?_
                replace h := Option.some.inj h
                subst h
                exact R_rH [.sl 0 (v34 + 1), .d (.b false)] [.own 37 4 (v34 + 1) []] ⟨(v34 + 1), rfl, rfl⟩
              · replace h := cnd_f c35 h
                refine V_skip ?_
                show V _ _ _ _ _
                refine goL ?_
                refine VO_r (QR_inc y3 (by omega)) ?_
                refine goL ?_
                exact ⟨(y3 + 1), x33_1, v34, h, by omega, ⟨rfl, ⟨⟨rfl, rfl⟩, ⟨rfl, rfl⟩, ⟨rfl, rfl⟩, ⟨rfl, rfl⟩, ⟨rfl, rfl⟩, trivial⟩, ⟨_, rfl⟩, rfl⟩⟩
        · replace h := cnd_f c16 h
          refine V_skip ?_
          show V _ _ _ _ _
          refine goL ?_
          refine V_cb (fun c36 => ?_) (fun c36 => ?_)
          · replace h := cnd_t c36 h
            refine goL ?_
            refine VO_k (Q_cb (w_iOccurs x9_1 (TType.mk x11_0 x11_1 x11_2))) ?_
            refine goL ?_
            refine V_cb (fun c37 => ?_) (fun c37 => ?_)
            · replace h := cnd_t c37 h
              refine goL ?_
              refine V_nilO 6 0 ?_
              refine V_ret ?_
              replace h := Option.some.inj h
              subst h
              exact R_rH [.sl 0 (v2 + 1), .d (.b false)] [.own 37 4 (v2 + 1) []] ⟨(v2 + 1), rfl, rfl⟩
            · replace h := cnd_f c37 h
              refine V_skip ?_
              show V _ _ _ _ _
              refine goL ?_
              refine VO_k (Q_build TBd.h TZ.h rfl (by repeat constructor)) ?_
              refine VO_l1t (TBinding.mk x9_1 (TType.mk x11_0 x11_1 x11_2)) ?_
              refine goL ?_
              refine V_block ?_
              refine V_bdo 0 (fun z38 => ?_)
              refine V_share 0 ?_
              refine V_toMix 0 ?_
              show V _ _ _ _ _
              refine V_loop2 (fun (y41 : Nat) (y39 : List TBinding) => ⟨[(0, .sl 0 v2), (1, .d (.sl 3 (eTypes as_))), (2, .d (.sl 3 (eTypes bs))), (11, .sl 5 0), (16, .d (.i .i64 (as_.length : Int))), (17, .d (.i .i64 (y3 : Int))), (64, .d (.i .i64 (y1.length : Int))), (65, .d (.i .i64 (y41 : Int)))], [.mix 37 4 v2 (eBindings (y39.take y41)) (eBindings (y39.drop y41)), .own 27 3 0 (eTypes x9_2), .dead 1, .box [.d (.i .i64 x9_0), .d (.s x9_1), .sl 1 0], .box [.d (.i .i64 x11_0), .d (.s x11_1), .sl 2 0], .own 37 4 0 (eBindings [(TBinding.mk x9_1 (TType.mk x11_0 x11_1 x11_2))])], Tryz.f53.ntmps⟩) (fun y41 y39 => y39.length = y1.length ∧ y41 ≤ y1.length ∧ b_iUnify_l3 (TType.mk x9_0 x9_1 x9_2) (TType.mk x11_0 x11_1 x11_2) (fun y39 => gd (y39.length + [(TBinding.mk (TType.mk x9_0 x9_1 x9_2).name (TType.mk x11_0 x11_1 x11_2))].length ≤ 4294967296) (
b_iUnify_l1 rec_iUnify bs (as_.drop (y3 + 1)) (y3 + 1) (y39 ++ [(TBinding.mk (TType.mk x9_0 x9_1 x9_2).name (TType.mk x11_0 x11_1 x11_2))]))) (y1.length - y41) y41 y39 = some r) (fun y41 y39 => y1.length - y41) 0 y1 ⟨rfl, ⟨⟨rfl, rfl⟩, ⟨rfl, rfl⟩, ⟨rfl, rfl⟩, ⟨rfl, rfl⟩, ⟨rfl, rfl⟩, ⟨rfl, rfl⟩, ⟨rfl, rfl⟩, ⟨rfl, rfl⟩, trivial⟩, ⟨[], rfl⟩, rfl⟩ ⟨rfl, by simp, h⟩ ?_
              rintro y41 y39 ⟨hmy41, hky41, h⟩
              refine goL ?_
              refine V_seq (V_cb (fun c42 => ?_) (fun c42 => ?_))
              · have hky412 := kltN c42
                obtain ⟨m43, hm43⟩ : ∃ m, y1.length - y41 = m + 1 := ⟨y1.length - y41 - 1, by omega⟩
                rw [hm43, b_iUnify_l3.eq_2] at h
                refine V_skip ?_
                show V _ _ _ _ _
                refine V_seq (V_block ?_)
                refine goL ?_
                obtain ⟨x44, hx44, h⟩ := bnd_s h
                rw [at_nat] at hx44
                obtain ⟨x44_0, ⟨x44_1_0, x44_1_1, x44_1_2⟩⟩ := x44
                rw [drop_of hx44]
                refine VO_k (Q_ixm y41 (mix_in (es := eBindings) hx44)) ?_
                refine VO_k (Q_field_mix rfl rfl TF.h) ?_
                refine VO_k (Q_load_mix (pre := [(.s x44_0)]) (u := (.st [.i .i64 x44_1_0, .s x44_1_1, .sl 3 (eTypes x44_1_2)])) rfl rfl (mix_len (es := eBindings) hx44) rfl TI.h rfl rfl) ?_
                obtain ⟨g45, h⟩ := gd_s h
                obtain ⟨x46, hx46, h⟩ := lt_x h
                obtain ⟨x46_0, x46_1, x46_2⟩ := x46
                have sx46 := t_iApply [(TBinding.mk x9_1 (TType.mk x11_0 x11_1 x11_2))] (TType.mk x44_1_0 x44_1_1 x44_1_2) g45
                rw [hx46] at sx46
                refine VO_co (sx46) ?_
                refine VO_k (Q_ixm y41 (mix_in (es := eBindings) hx44)) ?_
                refine VO_k (Q_field_mix rfl rfl TF.h) ?_
                refine VO_storeM (pre := [(.s x44_0)]) (old := (.st [.i .i64 x44_1_0, .s x44_1_1, .sl 3 (eTypes x44_1_2)])) (u := (.st [.i .i64 x46_0, .s x46_1, .sl 3 (eTypes x46_2)])) (js := [6]) (L' := [.mix 37 4 v2 (eBindings ((y39.set y41 (TBinding.mk x44_0 (TType.mk x46_0 x46_1 x46_2))).take (y41 + 1))) (eBindings ((y39.set y41 (TBinding.mk x44_0 (TType.mk x46_0 x46_1 x46_2))).drop (y41 + 1))), .own 27 3 0 (eTypes x9_2), .dead 1, .box [.d (.i .i64 x9_0), .d (.s x9_1), .sl 1 0], .box [.d (.i .i64 x11_0), .d (.s x11_1), .sl 2 0], .own 37 4 0 (eBindings [(TBinding.mk x9_1 (TType.mk x11_0 x11_1 x11_2))]), .dead 1]) rfl rfl (mix_len (es := eBindings) hx44) rfl rfl (by (repeat constructor); first | done | fail) rfl TI.h rfl rfl (by rw [mix_s1 (es := eBindings) (TBinding.mk x44_0 (TType.mk x46_0 x46_1 x46_2)) hx44, mix_s2 (es := eBindings) (TBinding.mk x44_0 (TType.mk x46_0 x46_1 x46_2))]; rfl) ?_
                refine goL ?_
                refine VO_r (QR_inc y41 (by omega)) ?_
                refine goL ?_
                rw [show m43 = y1.length - (y41 + 1) by omega] at h
                exact ⟨(y41 + 1), (y39.set y41 (TBinding.mk x44_0 (TType.mk x46_0 x46_1 x46_2))), ⟨by rw [List.length_set]; exact hmy41, by omega, h⟩, by omega, ⟨rfl, ⟨⟨rfl, rfl⟩, ⟨rfl, rfl⟩, ⟨rfl, rfl⟩, ⟨rfl, rfl⟩, ⟨rfl, rfl⟩, ⟨rfl, rfl⟩, ⟨rfl, rfl⟩, ⟨rfl, rfl⟩, trivial⟩, ⟨_, rfl⟩, rfl⟩⟩
              · have hky412 := kgeN c42
                rw [show y1.length - y41 = 0 by omega, b_iUnify_l3.eq_1] at h
                rw [List.drop_of_length_le (l := y39) (by omega), List.take_of_length_le (l := y39) (by omega)]
                refine V_ofMix 0 ?_
                refine V_exit ?_
                show V _ _ _ _ _
                refine goL ?_
                obtain ⟨g47, h⟩ := gd_s h
                refine VO_ap g47 ?_
                refine goL ?_
                refine V_exit ?_
                show V _ _ _ _ _
                refine goL ?_
                refine VO_r (QR_inc y3 (by omega)) ?_
                refine goL ?_
                exact ⟨(y3 + 1), (y39 ++ [(TBinding.mk x9_1 (TType.mk x11_0 x11_1 x11_2))]), (v2 + 1), h, by omega, ⟨rfl, ⟨⟨rfl, rfl⟩, ⟨rfl, rfl⟩, ⟨rfl, rfl⟩, ⟨rfl, rfl⟩, ⟨rfl, rfl⟩, trivial⟩, ⟨_, rfl⟩, rfl⟩⟩
          · replace h := cnd_f c36 h
            refine V_skip ?_
            show V _ _ _ _ _
            refine goL ?_
            obtain ⟨b48, hb48, h⟩ := lt_x h
            refine VO_join ⟨[(0, .sl 0 v2), (1, .d (.sl 3 (eTypes as_))), (2, .d (.sl 3 (eTypes bs))), (9, .ptr 3 0), (10, .ptr 4 0), (16, .d (.i .i64 (as_.length : Int))), (17, .d (.i .i64 (y3 : Int))), (103, .d (.b b48))], [.own 37 4 v2 (eBindings y1), .own 27 3 0 (eTypes x9_2), .own 27 3 0 (eTypes x11_2), .box [.d (.i .i64 x9_0), .d (.s x9_1), .sl 1 0], .box [.d (.i .i64 x11_0), .d (.s x11_1), .sl 2 0]], Tryz.f53.ntmps⟩ ?_ ?_
            · refine VO_case 88 (fun c49 => ?_) (fun c49 => ?_) (by first | rfl | (simp only [eTypes_len, eBindings_len]; rfl))
              · replace hb48 := cnd_t c49 hb48
                refine goL ?_
                cases hb48
                exact ⟨rfl, ⟨⟨rfl, rfl⟩, ⟨rfl, rfl⟩, ⟨rfl, rfl⟩, ⟨rfl, rfl⟩, ⟨rfl, rfl⟩, ⟨rfl, rfl⟩, ⟨rfl, rfl⟩, ⟨by first | rfl | (simp only [eTypes_len, eBindings_len]; rfl), rfl⟩, trivial⟩, ⟨[], rfl⟩, rfl⟩
              · replace hb48 := cnd_f c49 hb48
                refine goL ?_
                refine VO_case 95 (fun c50 => ?_) (fun c50 => ?_) (by first | rfl | (simp only [eTypes_len, eBindings_len]; rfl))
                · replace hb48 := cnd_t c50 hb48
                  refine goL ?_
                  cases hb48
                  exact ⟨rfl, ⟨⟨rfl, rfl⟩, ⟨rfl, rfl⟩, ⟨rfl, rfl⟩, ⟨rfl, rfl⟩, ⟨rfl, rfl⟩, ⟨rfl, rfl⟩, ⟨rfl, rfl⟩, ⟨by first | rfl | (simp only [eTypes_len, eBindings_len]; rfl), rfl⟩, trivial⟩, ⟨[], rfl⟩, rfl⟩
                · replace hb48 := cnd_f c50 hb48
                  refine goL ?_
                  cases hb48
                  exact ⟨rfl, ⟨⟨rfl, rfl⟩, ⟨rfl, rfl⟩, ⟨rfl, rfl⟩, ⟨rfl, rfl⟩, ⟨rfl, rfl⟩, ⟨rfl, rfl⟩, ⟨rfl, rfl⟩, ⟨by first | rfl | (simp only [eTypes_len, eBindings_len]; rfl), rfl⟩, trivial⟩, ⟨[], rfl⟩, rfl⟩
            refine goL ?_
            refine V_cb (fun c51 => ?_) (fun c51 => ?_)
            · replace h := cnd_t c51 h
              refine goL ?_
              refine V_nilO 6 0 ?_
              refine V_ret ?_
              replace h := Option.some.inj h
              subst h
              exact R_rH [.sl 0 (v2 + 1), .d (.b false)] [.own 37 4 (v2 + 1) []] ⟨(v2 + 1), rfl, rfl⟩
            · replace h := cnd_f c51 h
              refine V_skip ?_
              show V _ _ _ _ _
              refine goL ?_
              refine VO_freezeO 1 rfl rfl ?_
              refine VO_freezeO 2 rfl rfl ?_
              obtain ⟨x52, hx52, h⟩ := bnd_s h
              obtain ⟨x52_0, x52_1⟩ := x52
              refine VO_cG [0] (hrec_iUnify y1 x9_2 x11_2 v2 hx52) ?_
              rintro _ _ ⟨v53, rfl, rfl⟩
              show VO _ _ _ _ ⟨(_, .tup [.sl 0 v53, .d (.b x52_0)]) :: _, [.own 37 4 v53 (eBindings x52_1), .frz 27 3 0 (eTypes x9_2), .frz 27 3 0 (eTypes x11_2), .box [.d (.i .i64 x9_0), .d (.s x9_1), .sl 1 0], .box [.d (.i .i64 x11_0), .d (.s x11_1), .sl 2 0]], _⟩ _
              refine goL ?_
              refine V_cb (fun c54 => ?_) (fun c54 => ?_)
              · replace h := cnd_t c54 h
                refine goL ?_
                refine V_nilO 6 0 ?_
                refine V_ret ?_
                replace h := Option.some.inj h
                subst h
                exact R_rH [.sl 0 (v53 + 1), .d (.b false)] [.own 37 4 (v53 + 1) []] ⟨(v53 + 1), rfl, rfl⟩
              · replace h := cnd_f c54 h
                refine V_skip ?_
                show V _ _ _ _ _
                refine goL ?_
                refine VO_r (QR_inc y3 (by omega)) ?_
                refine goL ?_
                exact ⟨(y3 + 1), x52_1, v53, h, by omega, ⟨rfl, ⟨⟨rfl, rfl⟩, ⟨rfl, rfl⟩, ⟨rfl, rfl⟩, ⟨rfl, rfl⟩, ⟨rfl, rfl⟩, trivial⟩, ⟨_, rfl⟩, rfl⟩⟩
  · have hky32 := kgeN c5
    rw [drop_end hky32, b_iUnify_l1.eq_1] at h
    refine V_exit ?_
    show V _ _ _ _ _
    refine goL ?_
    refine V_ret ?_
    replace h := Option.some.inj h
    subst h
    exact R_rH [.sl 0 v2, .d (.b true)] [.own 37 4 v2 (eBindings y1)] ⟨v2, rfl, rfl⟩
def m_iUnify : Nat → (List TBinding) → (List TType) → (List TType) → Option (Bool × List TBinding)
  | 0, _, _, _ => none
  | n + 1, x0, x1, x2 => b_iUnify (m_iUnify n) x0 x1 x2
theorem s_iUnify : ∀ (n : Nat) (x0 : List TBinding) (x1 : List TType) (x2 : List TType) (w0 : Nat) {r : Bool × List TBinding}, m_iUnify n x0 x1 x2 = some r → Go.Eng.Spec Tryz.prog 53 [.sl 0 w0, .d (.sl 3 (eTypes x1)), .d (.sl 3 (eTypes x2))] [.own 37 4 w0 (eBindings x0)] (fun sv Lo => ∃ v'0, sv = .tup [.sl 0 v'0, .d (.b r.1)] ∧ Lo = [.own 37 4 v'0 (eBindings r.2)]) := by
  intro n
  induction n with
  | zero => intro x0 x1 x2 w0 r h; cases h
  | succ n ih => intro x0 x1 x2 w0 r h; exact w_iUnify ih x0 x1 x2 w0 h
end Go.Proofs.YtgmlpaaklnkghaaGreat
