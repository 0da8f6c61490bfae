/- Ud. Written by a program of mine (aw.py). -/
import Derived.Test.YtiaghdodeinecaaEng43
import Derived.Test.YtiaghdodeinecaaUc1
import Derived.Test.YtiaghdodeinecaaUn5
set_option linter.unusedVariables false
set_option linter.unusedSimpArgs false
set_option linter.unusedSectionVars false
namespace Go.Proofs.Ytiaghdodeinecaa
open Go Go.Eng
attribute [local irreducible] V VO VQ VY Quiet QR SpecP SpecO Rng PostP PostO PostG
/-! ### the cursor, by hand -/
def curok (c : Tl1Cur) : Prop := 0 ≤ c.i ∧ c.b.length ≤ 1048576
theorem byte_ok (c : Tl1Cur) (h : curok c) : ∃ x c', b_l1Byte c = some (x, c') ∧ 0 ≤ x ∧ x ≤ 255 ∧ curok c' := by
  obtain ⟨h1, h2⟩ := h
  unfold b_l1Byte
  cases hc : decide (c.i < (c.b.length : Int)) with
  | true =>
    have h3 := of_decide_eq_true hc
    have hx : at? c.b c.i = some (c.b[c.i.toNat]'(by omega)) := by unfold at?; rw [if_pos h1]; exact List.getElem?_eq_getElem _
    simp only [cnd_true]
    rw [bnd_eq hx]
    refine ⟨_, _, rfl, (andI_255 _).1, (andI_255 _).2, ?_, h2⟩
    simp only
    rw [wrap_in _ (by omega) (by omega)]
    omega
  | false => exact ⟨_, _, rfl, (andI_255 _).1, (andI_255 _).2, h1, h2⟩
theorem below_ok (c : Tl1Cur) (n : Int) (h : curok c) (h0 : 0 < n) (h1 : n ≤ 256) : ∃ x c', b_l1Below c n = some (x, c') ∧ 0 ≤ x ∧ x < n ∧ curok c' := by
  obtain ⟨x, c', e, e1, e2, e3⟩ := byte_ok c h
  unfold b_l1Below
  rw [show decide (n ≤ 0) = false from decide_eq_false (by omega), show decide (n ≤ 256) = true from decide_eq_true h1]
  simp only [cnd_true, cnd_false]
  rw [bnd_eq e, gd_eq (by omega)]
  exact ⟨_, _, rfl, Int.tmod_nonneg _ e1, Int.tmod_lt_of_pos _ h0, e3⟩
theorem pick_ok (c : Tl1Cur) (l : List (List UInt8)) (h : curok c) (h0 : 0 < l.length) (h1 : l.length ≤ 256) : ∃ x c', b_l1Pick c l = some (x, c') ∧ curok c' ∧ x ∈ l := by
  obtain ⟨x, c', e, e1, e2, e3⟩ := below_ok c l.length h (by omega) (by omega)
  unfold b_l1Pick
  have hx : at? l x = some (l[x.toNat]'(by omega)) := by unfold at?; rw [if_pos e1]; exact List.getElem?_eq_getElem _
  rw [bnd_eq e, bnd_eq hx]
  exact ⟨_, _, rfl, e3, List.getElem_mem _⟩
theorem once_ok (c : Tl1Cur) (n : Int) (h : curok c) (h0 : 0 < n) (h1 : n ≤ 256) : ∃ x c', b_l1Once c n = some (x, c') ∧ curok c' := by
  obtain ⟨x, c', e, _, _, e3⟩ := below_ok c n h h0 h1
  unfold b_l1Once
  rw [bnd_eq e]
  exact ⟨_, _, rfl, e3⟩
/-! ### what is drawn, by hand -/
structure Dr (V : List (List UInt8)) (M : Nat) (t : TType) : Prop where
  vs : ∀ v ∈ tvs t, v ∈ V
  sz : tnd t ≤ M
  ok : tok t
theorem Dr.more {V V' : List (List UInt8)} {M M' : Nat} {t : TType} (h : Dr V M t) (hV : ∀ v ∈ V, v ∈ V') (hM : M ≤ M') : Dr V' M' t := ⟨fun v hv => hV v (h.vs v hv), Nat.le_trans h.sz hM, h.ok⟩
theorem Dr.con {V : List (List UInt8)} {k : Int} {n : List UInt8} {ts : List TType} {M : Nat} (hk : k ≠ 1) (hv : ∀ t ∈ ts, ∀ v ∈ tvs t, v ∈ V) (hs : tnds ts + 1 ≤ M) (hl : ts.length ≤ 4294967296) (ho : ∀ t ∈ ts, tok t) : Dr V M ⟨k, n, ts⟩ := by
  refine ⟨fun v h => ?_, by simp only [tnd]; omega, by simp only [tok]; exact ⟨hl, tall_iff.2 ho⟩⟩
  simp only [tvs, if_neg hk, List.nil_append] at h
  obtain ⟨t, h1, h2⟩ := tvss_mem.1 h
  exact hv t h1 v h2
theorem con_eq (s : List UInt8) (args : List TType) (h : args.length ≤ 4294967296) : b_l4Con s args = some ⟨2, s, args⟩ := by
  unfold b_l4Con
  rw [gd_eq (by simpa using h)]
  rfl
theorem proj_eq (s : List UInt8) (t : TType) (h : tok t) : b_l4Proj s t = some ⟨3, s, [t]⟩ := by
  unfold b_l4Proj
  rw [gd_eq h]
  rfl
theorem wrapD (d : Nat) (h : d ≤ 8) : IntKind.i64.wrap (((d + 1 : Nat) : Int) - 1) = (d : Int) := by
  rw [wrap_in _ (by omega) (by omega)]
  omega
theorem ty_step {rec : Tl1Cur → List (List UInt8) → Int → Option (TType × Tl1Cur)} (V vars : List (List UInt8)) (d : Nat) (hd : d ≤ 8) (h0 : 0 < vars.length) (h1 : vars.length ≤ 256) (hV : ∀ v ∈ vars, v ∈ V)
    (hrec : ∀ e, d = e + 1 → ∀ c, curok c → ∃ t c', rec c vars (e : Int) = some (t, c') ∧ curok c' ∧ Dr V (2 ^ (e + 1) - 1) t) (c : Tl1Cur) (hc : curok c) : ∃ t c', b_l4Ty rec c vars (d : Int) = some (t, c') ∧ curok c' ∧ Dr V (2 ^ (d + 1) - 1) t := by
  have hpow : 1 ≤ 2 ^ (d + 1) - 1 := by
    have : 1 ≤ 2 ^ d := Nat.one_le_two_pow
    rw [Nat.pow_succ]; omega
  obtain ⟨x, c1, e1, e2, e3, e4⟩ := below_ok c 8 hc (by omega) (by omega)
  unfold b_l4Ty
  rw [bnd_eq e1]
  simp only [lt_]
  have hvl : decide ((vars.length : Int) > 0) = true := decide_eq_true (by omega)
  rw [hvl]
  cases hx : decide (x < 3) with
  | true =>
    simp only [cnd_true]
    obtain ⟨y, c2, f1, f2, f3, f4⟩ := below_ok c1 vars.length e4 (by omega) (by omega)
    have hy : at? vars y = some (vars[y.toNat]'(by omega)) := by unfold at?; rw [if_pos f2]; exact List.getElem?_eq_getElem _
    rw [bnd_eq f1, bnd_eq hy]
    refine ⟨_, _, rfl, f4, fun v hv => ?_, by simp only [b_sVar, tnd, tnds]; omega, tok_nil _ _⟩
    simp only [b_sVar, tvs, if_true, tvss, List.append_nil, List.mem_singleton] at hv
    subst hv
    exact hV _ (List.getElem_mem _)
  | false =>
    simp only [cnd_false]
    have flat : ∀ l : List (List UInt8), 0 < l.length → l.length ≤ 256 → ∃ t c', (bnd (b_l1Pick c1 l) fun x11 => bnd (b_l4Con x11.1 []) fun x12 => some (x12, x11.2)) = some (t, c') ∧ curok c' ∧ Dr V (2 ^ (d + 1) - 1) t := by
      intro l hl0 hl1
      obtain ⟨s, c2, f1, f2, _⟩ := pick_ok c1 l e4 hl0 hl1
      rw [bnd_eq f1]
      simp only [con_eq s [] (by simp), bnd]
      exact ⟨_, _, rfl, f2, .con (by decide) (by simp) (by simp only [tnds]; omega) (by simp) (by simp)⟩
    cases hx2 : decide (x < 5) with
    | true =>
      simp only [cnd_true]
      exact flat _ (by simp) (by simp)
    | false =>
      simp only [cnd_false]
      cases d with
      | zero =>
        have : decide (((0 : Nat) : Int) ≤ 0) = true := by decide
        rw [this]
        simp only [cnd_true]
        exact flat _ (by simp) (by simp)
      | succ d =>
        have hd0 : decide (((d + 1 : Nat) : Int) ≤ 0) = false := decide_eq_false (by omega)
        rw [hd0, wrapD d (by omega)]
        simp only [cnd_false]
        have hp2 : 2 ^ (d + 1 + 1) = 2 ^ (d + 1) * 2 := Nat.pow_succ ..
        have hp1 : 1 ≤ 2 ^ (d + 1) := Nat.one_le_two_pow
        cases (x == 5) with
        | true =>
          simp only [cnd_true]
          obtain ⟨t1, c2, f1, f2, f3⟩ := hrec d rfl c1 e4
          obtain ⟨t2, c3, g1, g2, g3⟩ := hrec d rfl c2 f2
          rw [bnd_eq f1, bnd_eq g1]
          simp only [con_eq _ [t1, t2] (by simp), bnd]
          refine ⟨_, _, rfl, g2, .con (by decide) ?_ ?_ (by simp) ?_⟩
          · intro t ht
            simp only [List.mem_cons, List.not_mem_nil, or_false] at ht
            rcases ht with rfl | rfl
            · exact f3.vs
            · exact g3.vs
          · have := f3.sz
            have := g3.sz
            simp only [tnds]
            omega
          · intro t ht
            simp only [List.mem_cons, List.not_mem_nil, or_false] at ht
            rcases ht with rfl | rfl
            · exact f3.ok
            · exact g3.ok
        | false =>
          simp only [cnd_false]
          obtain ⟨s, c2, f1, f2, _⟩ := pick_ok c1 [[108, 105, 115, 116], [108, 105, 115, 116], [98, 111, 120]] e4 (by simp) (by simp)
          obtain ⟨t1, c3, g1, g2, g3⟩ := hrec d rfl c2 f2
          rw [bnd_eq f1, bnd_eq g1]
          simp only [con_eq s [t1] (by simp), bnd]
          refine ⟨_, _, rfl, g2, .con (by decide) (by simpa using g3.vs) ?_ (by simp) (by simpa using g3.ok)⟩
          have := g3.sz
          simp only [tnds]
          omega
theorem ty_ok (V vars : List (List UInt8)) (h0 : 0 < vars.length) (h1 : vars.length ≤ 256) (hV : ∀ v ∈ vars, v ∈ V) : ∀ (n d : Nat), d < n → d ≤ 8 → ∀ c, curok c → ∃ t c', m_l4Ty n c vars (d : Int) = some (t, c') ∧ curok c' ∧ Dr V (2 ^ (d + 1) - 1) t
  | 0, d, h, _ => by omega
  | n + 1, d, h, h8 => fun c hc => by
    rw [m_l4Ty.eq_2]
    exact ty_step V vars d h8 h0 h1 hV (fun e he c hc => ty_ok V vars h0 h1 hV n e (by omega) (by omega) c hc) c hc
theorem free_of {f : Option (TType × Tl1Cur)} {V : List (List UInt8)} {M : Nat} (h : ∃ t c', f = some (t, c') ∧ curok c' ∧ Dr V M t) : ∃ t c', (bnd f fun x1 => bnd (b_l1Below x1.2 8) fun x2 =>
    cnd (x2.1 == 0) (bnd (b_l1Pick x2.2 [[97, 100, 100], [115, 104, 111, 119]]) fun x4 => bnd (b_l4Proj x4.1 x1.1) fun x5 => some (x5, x4.2)) (cnd (x2.1 == 1) (bnd (b_l4Proj [97, 100, 100] x1.1) fun x7 => bnd (b_l4Con [108, 105, 115, 116] [x7]) fun x8 => some (x8, x2.2)) (cnd (x2.1 == 2) (some (TType.mk 4 [115, 104, 111, 119] [], x2.2)) (some (x1.1, x2.2))))) = some (t, c') ∧ curok c' ∧ Dr V (M + 2) t := by
  obtain ⟨t, c1, e1, e2, e3⟩ := h
  rw [bnd_eq e1]
  obtain ⟨x, c2, f1, _, _, f4⟩ := below_ok c1 8 e2 (by omega) (by omega)
  rw [bnd_eq f1]
  have hp : ∀ s, Dr V (M + 1) ⟨3, s, [t]⟩ := fun s => .con (by decide) (by simpa using e3.vs) (by have := e3.sz; simp only [tnds]; omega) (by simp) (by simpa using e3.ok)
  cases (x == 0) with
  | true =>
    simp only [cnd_true]
    obtain ⟨s, c3, g1, g2, _⟩ := pick_ok c2 [[97, 100, 100], [115, 104, 111, 119]] f4 (by simp) (by simp)
    rw [bnd_eq g1]
    simp only [proj_eq s t e3.ok, bnd]
    exact ⟨_, _, rfl, g2, (hp s).more (fun _ h => h) (by omega)⟩
  | false =>
    simp only [cnd_false]
    cases (x == 1) with
    | true =>
      simp only [cnd_true]
      simp only [proj_eq _ t e3.ok, bnd]
      simp only [con_eq _ [(⟨3, [97, 100, 100], [t]⟩ : TType)] (by simp)]
      exact ⟨_, _, rfl, f4, .con (by decide) (by simpa using (hp _).vs) (by have := (hp [97, 100, 100]).sz; simp only [tnds]; omega) (by simp) (by simpa using (hp _).ok)⟩
    | false =>
      simp only [cnd_false]
      cases (x == 2) with
      | true => exact ⟨_, _, rfl, f4, .con (by decide) (by simp) (by simp only [tnds]; omega) (by simp) (by simp)⟩
      | false => exact ⟨_, _, rfl, f4, e3.more (fun _ h => h) (by omega)⟩
theorem free_ok (c : Tl1Cur) (hc : curok c) (d : Nat) (hd : d ≤ 3) : ∃ t c', b_l4Free c (d : Int) = some (t, c') ∧ curok c' ∧ Dr [[97], [98]] 17 t := by
  obtain ⟨t, c', h1, h2, h3⟩ := free_of (ty_ok [[97], [98]] [[97], [98]] (by simp) (by simp) (fun v h => h) 8 d (by omega) (by omega) c hc)
  refine ⟨t, c', h1, h2, h3.more (fun _ h => h) ?_⟩
  have : 2 ^ (d + 1) ≤ 2 ^ 4 := Nat.pow_le_pow_right (by decide) (by omega)
  omega
theorem int_eq : b_l4Int = some ⟨2, [105, 110, 116], []⟩ := rfl
theorem ap_dr {V : List (List UInt8)} {M : Nat} {l : List TBinding} {t : TType} (hl : ∀ b ∈ l, Dr V 30 b.type_) (ht : Dr V M t) : Dr V (30 * M) (apT l t) := by
  refine ⟨fun v hv => ?_, ?_, apT_tok (fun b hb => (hl b hb).ok) t ht.ok⟩
  · rcases tvs_ap t hv with ⟨h, _⟩ | ⟨b, h1, h2⟩
    · exact ht.vs v h
    · exact (hl b h1).vs v h2
  · exact Nat.le_trans (apT_tnd (M := 30) ⟨by decide, fun b hb => (hl b hb).sz⟩ t) (Nat.mul_le_mul_left _ ht.sz)
/-! ### the shapes of what is drawn, by hand -/
inductive Ty2 : Nat → TType → Prop
  | var {d : Nat} (v : List UInt8) : Ty2 d ⟨1, v, []⟩
  | con0 {d : Nat} (s : List UInt8) : Ty2 d ⟨2, s, []⟩
  | con1 {d : Nat} (s : List UInt8) {a : TType} (h : Ty2 d a) : Ty2 (d + 1) ⟨2, s, [a]⟩
  | con2 {d : Nat} (s : List UInt8) {a b : TType} (h : Ty2 d a) (h2 : Ty2 d b) : Ty2 (d + 1) ⟨2, s, [a, b]⟩
theorem Ty2.tna {d : Nat} {t : TType} (h : Ty2 d t) : tna t := by
  induction h with
  | var v => simp [Go.Proofs.Ytiaghdodeinecaa.tna, tnas]
  | con0 s => simp [Go.Proofs.Ytiaghdodeinecaa.tna, tnas]
  | con1 s _ ih => simp [Go.Proofs.Ytiaghdodeinecaa.tna, tnas, ih]
  | con2 s _ _ ih1 ih2 => simp [Go.Proofs.Ytiaghdodeinecaa.tna, tnas, ih1, ih2]
inductive Fr : Nat → TType → Prop
  | ty {d : Nat} {t : TType} (h : Ty2 d t) : Fr d t
  | proj {d : Nat} (s : List UInt8) {t : TType} (h : Ty2 d t) : Fr d ⟨3, s, [t]⟩
  | lproj {d : Nat} (s r : List UInt8) {t : TType} (h : Ty2 d t) : Fr d ⟨2, r, [⟨3, s, [t]⟩]⟩
  | dyn {d : Nat} (s : List UInt8) : Fr d ⟨4, s, []⟩
theorem Fr.tna {d : Nat} {t : TType} (h : Fr d t) : tna t := by
  cases h with
  | ty h => exact h.tna
  | proj s h => simp [Go.Proofs.Ytiaghdodeinecaa.tna, tnas, h.tna]
  | lproj s r h => simp [Go.Proofs.Ytiaghdodeinecaa.tna, tnas, h.tna]
  | dyn s => simp [Go.Proofs.Ytiaghdodeinecaa.tna, tnas]
theorem con_some {s : List UInt8} {args : List TType} {x : TType} (h : b_l4Con s args = some x) : x = ⟨2, s, args⟩ := by
  unfold b_l4Con at h
  obtain ⟨_, h⟩ := gd_s h
  simp only [List.nil_append, Option.some.injEq] at h
  exact h.symm
theorem proj_some {s : List UInt8} {t x : TType} (h : b_l4Proj s t = some x) : x = ⟨3, s, [t]⟩ := by
  unfold b_l4Proj at h
  obtain ⟨_, h⟩ := gd_s h
  simp only [lt_, idT, Option.some.injEq] at h
  exact h.symm
theorem ty_shape : ∀ (n d : Nat) (c : Tl1Cur) (vars : List (List UInt8)) (t : TType) (c' : Tl1Cur), d ≤ 8 → m_l4Ty n c vars (d : Int) = some (t, c') → Ty2 d t
  | 0, d, c, vars, t, c', _, h => by cases h
  | n + 1, d, c, vars, t, c', hd, h => by
    rw [m_l4Ty.eq_2] at h
    unfold b_l4Ty at h
    simp only [lt_] at h
    obtain ⟨x1, _, h⟩ := bnd_s h
    cases hb : (cnd (decide (x1.1 < 3)) (decide ((vars.length : Int) > 0)) false) with
    | true =>
      rw [hb] at h
      simp only [cnd_true] at h
      obtain ⟨x5, _, h⟩ := bnd_s h
      obtain ⟨x6, _, h⟩ := bnd_s h
      simp only [Option.some.injEq, Prod.mk.injEq] at h
      rw [← h.1]
      exact .var _
    | false =>
      rw [hb] at h
      simp only [cnd_false] at h
      cases hb2 : (cnd (decide (x1.1 < 5)) true (decide ((d : Int) ≤ 0))) with
      | true =>
        rw [hb2] at h
        simp only [cnd_true] at h
        obtain ⟨x5, _, h⟩ := bnd_s h
        obtain ⟨x6, e6, h⟩ := bnd_s h
        simp only [Option.some.injEq, Prod.mk.injEq] at h
        rw [← h.1, con_some e6]
        exact .con0 _
      | false =>
        rw [hb2] at h
        simp only [cnd_false] at h
        cases d with
        | zero =>
          have : decide (((0 : Nat) : Int) ≤ 0) = true := by decide
          rw [this] at hb2
          cases h9 : decide (x1.1 < 5) with
          | true => rw [h9] at hb2; simp [cnd_true] at hb2
          | false => rw [h9] at hb2; simp [cnd_false] at hb2
        | succ d =>
          rw [wrapD d (by omega)] at h
          cases hb3 : (x1.1 == 5) with
          | true =>
            rw [hb3] at h
            simp only [cnd_true] at h
            obtain ⟨x14, e14, h⟩ := bnd_s h
            obtain ⟨x15, e15, h⟩ := bnd_s h
            obtain ⟨x16, e16, h⟩ := bnd_s h
            simp only [Option.some.injEq, Prod.mk.injEq] at h
            rw [← h.1, con_some e16]
            exact .con2 _ (ty_shape n d _ _ _ _ (by omega) e14) (ty_shape n d _ _ _ _ (by omega) e15)
          | false =>
            rw [hb3] at h
            simp only [cnd_false] at h
            obtain ⟨x14, e14, h⟩ := bnd_s h
            obtain ⟨x15, e15, h⟩ := bnd_s h
            obtain ⟨x16, e16, h⟩ := bnd_s h
            simp only [Option.some.injEq, Prod.mk.injEq] at h
            rw [← h.1, con_some e16]
            exact .con1 _ (ty_shape n d _ _ _ _ (by omega) e15)
theorem free_shape {c : Tl1Cur} {d : Nat} {t : TType} {c' : Tl1Cur} (hd : d ≤ 8) (h : b_l4Free c (d : Int) = some (t, c')) : Fr d t := by
  unfold b_l4Free at h
  obtain ⟨x1, e1, h⟩ := bnd_s h
  obtain ⟨x2, _, h⟩ := bnd_s h
  have h1 := ty_shape 8 d c [[97], [98]] x1.1 x1.2 hd e1
  cases hb : (x2.1 == 0) with
  | true =>
    rw [hb] at h
    simp only [cnd_true] at h
    obtain ⟨x4, _, h⟩ := bnd_s h
    obtain ⟨x5, e5, h⟩ := bnd_s h
    simp only [Option.some.injEq, Prod.mk.injEq] at h
    rw [← h.1, proj_some e5]
    exact .proj _ h1
  | false =>
    rw [hb] at h
    simp only [cnd_false] at h
    cases hb2 : (x2.1 == 1) with
    | true =>
      rw [hb2] at h
      simp only [cnd_true] at h
      obtain ⟨x4, e4, h⟩ := bnd_s h
      obtain ⟨x5, e5, h⟩ := bnd_s h
      simp only [Option.some.injEq, Prod.mk.injEq] at h
      rw [← h.1, con_some e5, proj_some e4]
      exact .lproj _ _ h1
    | false =>
      rw [hb2] at h
      simp only [cnd_false] at h
      cases hb3 : (x2.1 == 2) with
      | true =>
        rw [hb3] at h
        simp only [cnd_true, Option.some.injEq, Prod.mk.injEq] at h
        rw [← h.1]
        exact .dyn _
      | false =>
        rw [hb3] at h
        simp only [cnd_false, Option.some.injEq, Prod.mk.injEq] at h
        rw [← h.1]
        exact .ty h1
end Go.Proofs.Ytiaghdodeinecaa
set_option linter.unusedVariables false
set_option linter.unusedSimpArgs false
set_option linter.unusedSectionVars false
namespace Go.Proofs.Ytiaghdodeinecaa
open Go Go.Eng
attribute [local irreducible] V VO VQ VY Quiet QR SpecP SpecO Rng PostP PostO PostG
/-! ### unification, by hand: runs -/
/-- A run over a row of pairs; where β holds the limit on sizes may stop it. -/
inductive UR (β : Prop) : List TBinding → List TType → List TType → Option (List TBinding) → Prop
  | nil {l : List TBinding} : UR β l [] [] (some l)
  | eq {l : List TBinding} {a b : TType} {as_ bs : List TType} {r : Option (List TBinding)} (h : apT l a = apT l b) (h2 : UR β l as_ bs r) : UR β l (a :: as_) (b :: bs) r
  | big {l : List TBinding} {a b : TType} {as_ bs : List TType} (hβ : β) (h : apT l a ≠ apT l b) (h2 : 4000 < tnd (apT l a) + tnd (apT l b)) : UR β l (a :: as_) (b :: bs) none
  | bx {l : List TBinding} {a b x y : TType} {as_ bs : List TType} {r : Option (List TBinding)} (hx : apT l a = x) (hy : apT l b = y) (h : x ≠ y) (hk : x.kind = 1) (ho : x.name ∉ tvs y) (h2 : UR β (bindL l x.name y) as_ bs r) : UR β l (a :: as_) (b :: bs) r
  | ox {l : List TBinding} {a b x y : TType} {as_ bs : List TType} (hx : apT l a = x) (hy : apT l b = y) (h : x ≠ y) (hk : x.kind = 1) (ho : x.name ∈ tvs y) : UR β l (a :: as_) (b :: bs) none
  | bv {l : List TBinding} {a b x y : TType} {as_ bs : List TType} {r : Option (List TBinding)} (hx : apT l a = x) (hy : apT l b = y) (h : x ≠ y) (hk : x.kind ≠ 1) (hk2 : y.kind = 1) (ho : y.name ∉ tvs x) (h2 : UR β (bindL l y.name x) as_ bs r) : UR β l (a :: as_) (b :: bs) r
  | ov {l : List TBinding} {a b x y : TType} {as_ bs : List TType} (hx : apT l a = x) (hy : apT l b = y) (h : x ≠ y) (hk : x.kind ≠ 1) (hk2 : y.kind = 1) (ho : y.name ∈ tvs x) : UR β l (a :: as_) (b :: bs) none
  | clash {l : List TBinding} {a b x y : TType} {as_ bs : List TType} (hx : apT l a = x) (hy : apT l b = y) (hk : x.kind ≠ 1) (hk2 : y.kind ≠ 1) (hc : ¬ (x.kind = y.kind ∧ x.name = y.name ∧ x.args.length = y.args.length)) : UR β l (a :: as_) (b :: bs) none
  | deep {l l1 : List TBinding} {a b x y : TType} {as_ bs : List TType} {r : Option (List TBinding)} (hx : apT l a = x) (hy : apT l b = y) (hk : x.kind ≠ 1) (hk2 : y.kind ≠ 1) (h1 : UR β l x.args y.args (some l1)) (h2 : UR β l1 as_ bs r) : UR β l (a :: as_) (b :: bs) r
  | deepN {l : List TBinding} {a b x y : TType} {as_ bs : List TType} (hx : apT l a = x) (hy : apT l b = y) (hk : x.kind ≠ 1) (hk2 : y.kind ≠ 1) (h1 : UR β l x.args y.args none) : UR β l (a :: as_) (b :: bs) none
/-- Where there is a solution, a run that no limit stops comes through; the solution solves what comes out. -/
theorem UR.complete {s l : List TBinding} {as_ bs : List TType} {r : Option (List TBinding)} (h : UR False l as_ bs r) : Sol s l → tnaB l → tnas as_ → tnas bs → apTs s as_ = apTs s bs → ∃ l', r = some l' ∧ Sol s l' ∧ tnaB l' := by
  induction h with
  | nil => exact fun h1 h2 _ _ _ => ⟨_, rfl, h1, h2⟩
  | eq h _ ih =>
    intro h1 h2 h3 h4 h5
    simp only [tnas] at h3 h4
    simp only [apTs, List.cons.injEq] at h5
    exact ih h1 h2 h3.2 h4.2 h5.2
  | big hβ => exact hβ.elim
  | bx hx hy h hk ho _ ih =>
    intro h1 h2 h3 h4 h5
    simp only [tnas] at h3 h4
    simp only [apTs, List.cons.injEq] at h5
    have hxn : tna _ := hx ▸ apT_tna h2 _ h3.1
    have hyn : tna _ := hy ▸ apT_tna h2 _ h4.1
    have e := tna_var hxn hk
    have hs : apT _ _ = apT _ _ := (h1 _ h3.1).trans (h5.1.trans (h1 _ h4.1).symm)
    rw [hx, hy, e] at hs
    exact ih (h1.bind h2 hs) (tnaB_bind h2 hyn) h3.2 h4.2 h5.2
  | ox hx hy h hk ho =>
    intro h1 h2 h3 h4 h5
    simp only [tnas] at h3 h4
    simp only [apTs, List.cons.injEq] at h5
    have hxn : tna _ := hx ▸ apT_tna h2 _ h3.1
    have hyn : tna _ := hy ▸ apT_tna h2 _ h4.1
    have e := tna_var hxn hk
    have hs : apT _ _ = apT _ _ := (h1 _ h3.1).trans (h5.1.trans (h1 _ h4.1).symm)
    rw [hx, hy, e] at hs
    exfalso
    rename_i x y _ _
    by_cases hk2 : y.kind = 1
    · exact h (e.trans (occ_var hyn hk2 ho).symm)
    · exact occ_lt hyn hk2 ho hs
  | bv hx hy h hk hk2 ho _ ih =>
    intro h1 h2 h3 h4 h5
    simp only [tnas] at h3 h4
    simp only [apTs, List.cons.injEq] at h5
    have hxn : tna _ := hx ▸ apT_tna h2 _ h3.1
    have hyn : tna _ := hy ▸ apT_tna h2 _ h4.1
    have e := tna_var hyn hk2
    have hs : apT _ _ = apT _ _ := (h1 _ h4.1).trans (h5.1.symm.trans (h1 _ h3.1).symm)
    rw [hx, hy, e] at hs
    exact ih (h1.bind h2 hs) (tnaB_bind h2 hxn) h3.2 h4.2 h5.2
  | ov hx hy h hk hk2 ho =>
    intro h1 h2 h3 h4 h5
    simp only [tnas] at h3 h4
    simp only [apTs, List.cons.injEq] at h5
    have hxn : tna _ := hx ▸ apT_tna h2 _ h3.1
    have hyn : tna _ := hy ▸ apT_tna h2 _ h4.1
    have e := tna_var hyn hk2
    have hs : apT _ _ = apT _ _ := (h1 _ h4.1).trans (h5.1.symm.trans (h1 _ h3.1).symm)
    rw [hx, hy, e] at hs
    exact (occ_lt hxn hk ho hs).elim
  | clash hx hy hk hk2 hc =>
    intro h1 h2 h3 h4 h5
    simp only [tnas] at h3 h4
    simp only [apTs, List.cons.injEq] at h5
    have hs : apT _ _ = apT _ _ := (h1 _ h3.1).trans (h5.1.trans (h1 _ h4.1).symm)
    rw [hx, hy] at hs
    obtain ⟨e1, e2, e3⟩ := parts_eq hk hk2 hs
    exact (hc ⟨e1, e2, apTs_inj_len e3⟩).elim
  | deep hx hy hk hk2 _ _ ih1 ih2 =>
    intro h1 h2 h3 h4 h5
    simp only [tnas] at h3 h4
    simp only [apTs, List.cons.injEq] at h5
    have hxn : tna _ := hx ▸ apT_tna h2 _ h3.1
    have hyn : tna _ := hy ▸ apT_tna h2 _ h4.1
    have hs : apT _ _ = apT _ _ := (h1 _ h3.1).trans (h5.1.trans (h1 _ h4.1).symm)
    rw [hx, hy] at hs
    obtain ⟨e1, e2, e3⟩ := parts_eq hk hk2 hs
    obtain ⟨l', q1, q2, q3⟩ := ih1 h1 h2 (tna_args hxn) (tna_args hyn) e3
    cases q1
    exact ih2 q2 q3 h3.2 h4.2 h5.2
  | deepN hx hy hk hk2 _ ih =>
    intro h1 h2 h3 h4 h5
    simp only [tnas] at h3 h4
    simp only [apTs, List.cons.injEq] at h5
    have hxn : tna _ := hx ▸ apT_tna h2 _ h3.1
    have hyn : tna _ := hy ▸ apT_tna h2 _ h4.1
    have hs : apT _ _ = apT _ _ := (h1 _ h3.1).trans (h5.1.trans (h1 _ h4.1).symm)
    rw [hx, hy] at hs
    obtain ⟨e1, e2, e3⟩ := parts_eq hk hk2 hs
    obtain ⟨l', q1, _⟩ := ih h1 h2 (tna_args hxn) (tna_args hyn) e3
    cases q1
end Go.Proofs.Ytiaghdodeinecaa
set_option linter.unusedVariables false
set_option linter.unusedSimpArgs false
set_option linter.unusedSectionVars false
namespace Go.Proofs.Ytiaghdodeinecaa
open Go Go.Eng
attribute [local irreducible] V VO VQ VY Quiet QR SpecP SpecO Rng PostP PostO PostG
/-! ### unification, by hand: what binds, and what comes out -/
structure Inv (V : List (List UInt8)) (l : List TBinding) : Prop where
  nd : (dom l).Nodup
  dv : ∀ v ∈ dom l, v ∈ V
  rv : ∀ b ∈ l, ∀ v ∈ tvs b.type_, v ∈ V ∧ v ∉ dom l
  sz : ∀ b ∈ l, tnd b.type_ ≤ 4000 ^ l.length
  ok : bok l
structure Good (V : List (List UInt8)) (t : TType) : Prop where
  vs : ∀ v ∈ tvs t, v ∈ V
  sz : tnd t ≤ 4000
  ok : tok t
theorem nodup_le : ∀ {l V : List (List UInt8)}, l.Nodup → (∀ v ∈ l, v ∈ V) → l.length ≤ V.length
  | [], _, _, _ => Nat.zero_le _
  | a :: l, V, h, hs => by
    obtain ⟨h1, h2⟩ := List.nodup_cons.1 h
    have ha : a ∈ V := hs a (by simp)
    have h3 : l.length ≤ (V.erase a).length := nodup_le h2 (fun v hv => (List.mem_erase_of_ne (fun e => h1 (by rw [← e]; exact hv))).2 (hs v (by simp [hv])))
    rw [List.length_erase_of_mem ha] at h3
    have := List.length_pos_of_mem ha
    simp only [List.length_cons]
    omega
theorem p4 (n : Nat) : 1 ≤ 4000 ^ n := by
  induction n with
  | zero => simp
  | succ n ih => rw [Nat.pow_succ]; omega
section
variable {V : List (List UInt8)} {l : List TBinding}
theorem Inv.vars (h : Inv V l) {t : TType} (ht : Good V t) : ∀ v ∈ tvs (apT l t), v ∈ V ∧ v ∉ dom l := by
  intro v hv
  rcases tvs_ap t hv with ⟨h1, h2⟩ | ⟨b, h1, h2⟩
  · exact ⟨ht.vs v h1, h2⟩
  · exact h.rv b h1 v h2
theorem Inv.idem (h : Inv V l) (t : TType) : apT l (apT l t) = apT l t := apT_out _ (fun v hv => by
  rcases tvs_ap t hv with ⟨_, h2⟩ | ⟨b, h1, h2⟩
  · exact h2
  · exact (h.rv b h1 v h2).2)
theorem tvs_one {v w : List UInt8} {y : TType} {t : TType} (h : w ∈ tvs (apT [⟨v, y⟩] t)) : (w ∈ tvs t ∧ w ≠ v) ∨ w ∈ tvs y := by
  rcases tvs_ap t h with ⟨h1, h2⟩ | ⟨b, h1, h2⟩
  · exact .inl ⟨h1, by simpa [dom] using h2⟩
  · simp only [List.mem_singleton] at h1
    subst h1
    exact .inr h2
theorem Inv.bind (h : Inv V l) {v : List UInt8} {y : TType} (hv : v ∈ V ∧ v ∉ dom l) (hy : ∀ w ∈ tvs y, w ∈ V ∧ w ∉ dom l) (hn : v ∉ tvs y) (hs : tnd y ≤ 4000) (ho : tok y) : Inv V (bindL l v y) := by
  have hlen : (bindL l v y).length = l.length + 1 := by simp [bindL]
  have hone : bnds 4000 [⟨v, y⟩] := ⟨by decide, by simpa using hs⟩
  have hp : 4000 ^ (l.length + 1) = 4000 ^ l.length * 4000 := by rw [Nat.pow_succ]
  have hpos : 1 ≤ 4000 ^ l.length := p4 _
  refine ⟨?_, ?_, ?_, ?_, ?_⟩
  · rw [dom_bind]
    refine List.nodup_append.2 ⟨h.nd, by simp, fun a ha b hb hab => ?_⟩
    simp only [List.mem_singleton] at hb
    subst hb; subst hab
    exact hv.2 ha
  · intro w hw
    rw [dom_bind] at hw
    simp only [List.mem_append, List.mem_singleton] at hw
    rcases hw with hw | rfl
    · exact h.dv w hw
    · exact hv.1
  · intro b hb w hw
    rw [dom_bind]
    simp only [bindL, List.mem_append, List.mem_map, List.mem_singleton] at hb ⊢
    have hY : w ∈ tvs y → w ∈ V ∧ ¬ (w ∈ dom l ∨ w = v) := fun hw => ⟨(hy w hw).1, fun h => h.elim (hy w hw).2 (fun e => hn (e ▸ hw))⟩
    rcases hb with ⟨c, hc, rfl⟩ | rfl
    · rcases tvs_one hw with ⟨h1, h2⟩ | h1
      · have := h.rv c hc w h1
        exact ⟨this.1, fun h => h.elim this.2 h2⟩
      · exact hY h1
    · exact hY hw
  · intro b hb
    rw [hlen, hp]
    simp only [bindL, List.mem_append, List.mem_map, List.mem_singleton] at hb
    rcases hb with ⟨c, hc, rfl⟩ | rfl
    · have h1 := apT_tnd hone c.type_
      have h2 := h.sz c hc
      have h3 : 4000 * tnd c.type_ ≤ 4000 * 4000 ^ l.length := Nat.mul_le_mul_left _ h2
      show tnd (apT [⟨v, y⟩] c.type_) ≤ _
      omega
    · show tnd y ≤ _
      omega
  · intro b hb
    simp only [bindL, List.mem_append, List.mem_map, List.mem_singleton] at hb
    rcases hb with ⟨c, hc, rfl⟩ | rfl
    · exact apT_tok (fun b hb => by simp at hb; subst hb; exact ho) _ (h.ok c hc)
    · exact ho
end
/-- What comes out of a row of pairs. -/
structure Post (V : List (List UInt8)) (l l' : List TBinding) (as_ bs : List TType) : Prop where
  inv : Inv V l'
  grow : l' = l ∨ l.length < l'.length
  ext : ∀ t, apT l' (apT l t) = apT l' t
  eq : apTs l' as_ = apTs l' bs
theorem l2_eq (y : TType) (x : TType) (k : List TBinding → Option (Bool × List TBinding)) (hb : bok [⟨x.name, y⟩]) : ∀ (m j : Nat) (l : List TBinding), l.length = j + m → (∀ b ∈ l.drop j, tok b.type_) → b_iUnify_l2 y x k m j l = k (l.take j ++ (l.drop j).map (fun b => ⟨b.var_, apT [⟨x.name, y⟩] b.type_⟩))
  | 0, j, l, h, _ => by
    simp only [b_iUnify_l2]
    rw [List.take_of_length_le (by omega), List.drop_of_length_le (by omega)]
    simp
  | m + 1, j, l, h, ht => by
    have hj : j < l.length := by omega
    have hd := List.drop_eq_getElem_cons hj
    have ht0 : tok l[j].type_ := ht _ (by rw [hd]; exact List.mem_cons_self)
    simp only [b_iUnify_l2, at_nat]
    rw [List.getElem?_eq_getElem hj]
    simp only [bnd, lt_]
    rw [gd_eq ⟨hb, ht0⟩, l2_eq y x k hb m (j + 1) _ (by simp; omega) (fun b hb' => ht b (by
      rw [List.drop_set_of_lt (by omega)] at hb'
      rw [hd]; exact List.mem_cons_of_mem _ hb')), hd, List.drop_set_of_lt (by omega), take_set_succ hj, List.map_cons, List.append_assoc]
    rfl
theorem l3_eq (x : TType) (y : TType) (k : List TBinding → Option (Bool × List TBinding)) (hb : bok [⟨x.name, y⟩]) : ∀ (m j : Nat) (l : List TBinding), l.length = j + m → (∀ b ∈ l.drop j, tok b.type_) → b_iUnify_l3 x y k m j l = k (l.take j ++ (l.drop j).map (fun b => ⟨b.var_, apT [⟨x.name, y⟩] b.type_⟩))
  | 0, j, l, h, _ => by
    simp only [b_iUnify_l3]
    rw [List.take_of_length_le (by omega), List.drop_of_length_le (by omega)]
    simp
  | m + 1, j, l, h, ht => by
    have hj : j < l.length := by omega
    have hd := List.drop_eq_getElem_cons hj
    have ht0 : tok l[j].type_ := ht _ (by rw [hd]; exact List.mem_cons_self)
    simp only [b_iUnify_l3, at_nat]
    rw [List.getElem?_eq_getElem hj]
    simp only [bnd, lt_]
    rw [gd_eq ⟨hb, ht0⟩, l3_eq x y k hb m (j + 1) _ (by simp; omega) (fun b hb' => ht b (by
      rw [List.drop_set_of_lt (by omega)] at hb'
      rw [hd]; exact List.mem_cons_of_mem _ hb')), hd, List.drop_set_of_lt (by omega), take_set_succ hj, List.map_cons, List.append_assoc]
    rfl
theorem sBound_l1_eq (v : List UInt8) (y : TType) (hb : bok [⟨v, y⟩]) : ∀ (xs r : List TBinding), (∀ b ∈ xs, tok b.type_) → r.length + xs.length ≤ 4000000 → b_sBound_l1 v y xs r = some (r ++ xs.map (fun b => ⟨b.var_, apT [⟨v, y⟩] b.type_⟩) ++ [⟨v, y⟩])
  | [], r, _, h => by
    simp only [b_sBound_l1, lt_, idT]
    rw [gd_eq (hb ⟨v, y⟩ (by simp)), gd_eq (by simp at h ⊢; omega)]
    simp
  | x :: xs, r, ht, h => by
    simp only [List.length_cons] at h
    simp only [b_sBound_l1, lt_]
    rw [gd_eq ⟨hb, ht x (by simp)⟩, gd_eq (by simp; omega), sBound_l1_eq v y hb xs _ (fun b hb' => ht b (by simp [hb'])) (by simp; omega)]
    simp
/-! ### unification, by hand: the two programs' steps -/
/-- What the program answers, and what the reference answers, where r comes out. -/
def resI : Option (List TBinding) → Bool × List TBinding
  | none => (false, [])
  | some l => (true, l)
def ResS : Option (List TBinding) → List TBinding × Bool → Prop
  | none, p => p.2 = false
  | some l, p => p = (l, true)
theorem ap_var {v : List UInt8} {y x : TType} (hk : x.kind = 1) (hv : x.name = v) : apT [⟨v, y⟩] x = y := by
  obtain ⟨k, n, ts⟩ := x
  simp only at hk hv
  subst hk; subst hv
  simp [apT, lkp, cnd_true]
theorem ap_no {v : List UInt8} {y : TType} (hn : v ∉ tvs y) : apT [⟨v, y⟩] y = y := apT_out y (fun w hw hd => by
  simp only [dom, List.map_cons, List.map_nil, List.mem_singleton] at hd
  subst hd
  exact hn hw)
theorem var_in {x : TType} (hk : x.kind = 1) : x.name ∈ tvs x := by
  obtain ⟨k, n, ts⟩ := x
  simp only at hk
  subst hk
  simp [tvs]
theorem apTs_args {l l' : List TBinding} {x y : TType} (hk : x.kind = y.kind) (hn : x.name = y.name) (h1 : x.kind ≠ 1) (h : apTs l' x.args = apTs l' y.args) : apT l' x = apT l' y := by
  obtain ⟨k, n, ts⟩ := x
  obtain ⟨k', n', ts'⟩ := y
  simp only at hk hn h1 h
  subst hk; subst hn
  simp only [apT, beq_false_of_ne h1, cnd_false, h]
theorem tall_mem {ts : List TType} (h : tall ts) : ∀ t ∈ ts, tok t := tall_iff.1 h
theorem args_good {V : List (List UInt8)} {x : TType} (hs : tnd x ≤ 4000) (ho : tok x) (hv : ∀ v ∈ tvs x, v ∈ V) : (∀ t ∈ x.args, Good V t) ∧ tnds x.args + 1 = tnd x ∧ (∀ v ∈ tvss x.args, v ∈ tvs x) := by
  obtain ⟨k, n, ts⟩ := x
  simp only [tok] at ho
  refine ⟨fun t ht => ⟨fun v h => hv v ?_, ?_, tall_mem ho.2 t ht⟩, by simp only [tnd]; omega, fun v h => by simp [tvs, h]⟩
  · simp only [tvs, List.mem_append]
    exact .inr (tvss_mem.2 ⟨t, ht, h⟩)
  · have : tnd t ≤ tnds ts := tnd_mem ht
    simp only [tnd] at hs
    omega
theorem wsum {x y : TType} (hx : tnd x ≤ 1024000000000000000) (hy : tnd y ≤ 1024000000000000000) : IntKind.i64.wrap (tsz x + tsz y) = tnd x + tnd y := by
  rw [tsz_big x (by omega), tsz_big y (by omega), wrap_sm (by omega) (by omega)]
end Go.Proofs.Ytiaghdodeinecaa
