/- Ud. Written by a program of mine (aw.py). -/
import Derived.Test.YtdofnoeiogjpjaaFacts
import Derived.Test.YtdofnoeiogjpjaaUc3
import Derived.Test.YtdofnoeiogjpjaaUn5
import Derived.Test.YtdofnoeiogjpjaaTh1
import Derived.Test.YtdofnoeiogjpjaaMt
set_option linter.unusedVariables false
set_option linter.unusedSimpArgs false
set_option linter.unusedSectionVars false
namespace Go.Proofs.Ytdofnoeiogjpjaa
open Go Go.Eng
attribute [local irreducible] V VO VQ VY Quiet QR SpecP SpecO MSpec Rng PostP PostO PostG
/-! ### the cursor, by hand -/
def curok (c : Tl1Cur) : Prop := 0 ≤ c.i ∧ c.b.length ≤ 1048576
theorem byte_ok (c : Tl1Cur) (h : curok c) : ∃ x c', b_l1Byte c = some (x, c') ∧ 0 ≤ x ∧ x ≤ 255 ∧ curok c' := by
  obtain ⟨h1, h2⟩ := h
  unfold b_l1Byte
  cases hc : decide (c.i < (c.b.length : Int)) with
  | true =>
    have h3 := of_decide_eq_true hc
    have hx : at? c.b c.i = some (c.b[c.i.toNat]'(by omega)) := by unfold at?; rw [if_pos h1]; exact List.getElem?_eq_getElem _
    simp only [cnd_true]
    rw [bnd_eq hx]
    refine ⟨_, _, rfl, (andI_255 _).1, (andI_255 _).2, ?_, h2⟩
    simp only
    rw [wrap_in _ (by omega) (by omega)]
    omega
  | false => exact ⟨_, _, rfl, (andI_255 _).1, (andI_255 _).2, h1, h2⟩
theorem below_ok (c : Tl1Cur) (n : Int) (h : curok c) (h0 : 0 < n) (h1 : n ≤ 256) : ∃ x c', b_l1Below c n = some (x, c') ∧ 0 ≤ x ∧ x < n ∧ curok c' := by
  obtain ⟨x, c', e, e1, e2, e3⟩ := byte_ok c h
  unfold b_l1Below
  rw [show decide (n ≤ 0) = false from decide_eq_false (by omega), show decide (n ≤ 256) = true from decide_eq_true h1]
  simp only [cnd_true, cnd_false]
  rw [bnd_eq e, gd_eq (by omega)]
  exact ⟨_, _, rfl, Int.tmod_nonneg _ e1, Int.tmod_lt_of_pos _ h0, e3⟩
theorem pick_ok (c : Tl1Cur) (l : List (List UInt8)) (h : curok c) (h0 : 0 < l.length) (h1 : l.length ≤ 256) : ∃ x c', b_l1Pick c l = some (x, c') ∧ curok c' ∧ x ∈ l := by
  obtain ⟨x, c', e, e1, e2, e3⟩ := below_ok c l.length h (by omega) (by omega)
  unfold b_l1Pick
  have hx : at? l x = some (l[x.toNat]'(by omega)) := by unfold at?; rw [if_pos e1]; exact List.getElem?_eq_getElem _
  rw [bnd_eq e, bnd_eq hx]
  exact ⟨_, _, rfl, e3, List.getElem_mem _⟩
theorem once_ok (c : Tl1Cur) (n : Int) (h : curok c) (h0 : 0 < n) (h1 : n ≤ 256) : ∃ x c', b_l1Once c n = some (x, c') ∧ curok c' := by
  obtain ⟨x, c', e, _, _, e3⟩ := below_ok c n h h0 h1
  unfold b_l1Once
  rw [bnd_eq e]
  exact ⟨_, _, rfl, e3⟩

/-! ### what is drawn, by hand -/
structure Dr (V : List (List UInt8)) (M : Nat) (t : TType) : Prop where
  vs : ∀ v ∈ tvs t, v ∈ V
  sz : tnd t ≤ M
  ok : tok t
theorem Dr.more {V V' : List (List UInt8)} {M M' : Nat} {t : TType} (h : Dr V M t) (hV : ∀ v ∈ V, v ∈ V') (hM : M ≤ M') : Dr V' M' t := ⟨fun v hv => hV v (h.vs v hv), Nat.le_trans h.sz hM, h.ok⟩
theorem Dr.con {V : List (List UInt8)} {k : Int} {n : List UInt8} {ts : List TType} {M : Nat} (hk : k ≠ 1) (hv : ∀ t ∈ ts, ∀ v ∈ tvs t, v ∈ V) (hs : tnds ts + 1 ≤ M) (hl : ts.length ≤ 4294967296) (ho : ∀ t ∈ ts, tok t) : Dr V M ⟨k, n, ts⟩ := by
  refine ⟨fun v h => ?_, by simp only [tnd]; omega, by simp only [tok]; exact ⟨hl, tall_iff.2 ho⟩⟩
  simp only [tvs, if_neg hk, List.nil_append] at h
  obtain ⟨t, h1, h2⟩ := tvss_mem.1 h
  exact hv t h1 v h2
theorem con_eq (s : List UInt8) (args : List TType) (h : args.length ≤ 4294967296) : b_l4Con s args = some ⟨2, s, args⟩ := by
  unfold b_l4Con
  rw [gd_eq (by simpa using h)]
  rfl
theorem conA_eq (s : List UInt8) (args : List TType) (h : args.length ≤ 4294967296) : b_l4ConA s args = some ⟨2, s, args⟩ := con_eq s args h
theorem proj_eq (s : List UInt8) (t : TType) (h : tok t) : b_l4Proj s t = some ⟨3, s, [t]⟩ := by
  unfold b_l4Proj
  rw [gd_eq h]
  rfl
theorem wrapD (d : Nat) (h : d ≤ 8) : IntKind.i64.wrap (((d + 1 : Nat) : Int) - 1) = (d : Int) := by
  rw [wrap_in _ (by omega) (by omega)]
  omega
theorem ty_step {rec : Tl1Cur → List (List UInt8) → Int → Option (TType × Tl1Cur)} (V vars : List (List UInt8)) (d : Nat) (hd : d ≤ 8) (h0 : 0 < vars.length) (h1 : vars.length ≤ 256) (hV : ∀ v ∈ vars, v ∈ V)
    (hrec : ∀ e, d = e + 1 → ∀ c, curok c → ∃ t c', rec c vars (e : Int) = some (t, c') ∧ curok c' ∧ Dr V (2 ^ (e + 1) - 1) t) (c : Tl1Cur) (hc : curok c) : ∃ t c', b_l4Ty rec c vars (d : Int) = some (t, c') ∧ curok c' ∧ Dr V (2 ^ (d + 1) - 1) t := by
  have hpow : 1 ≤ 2 ^ (d + 1) - 1 := by
    have : 1 ≤ 2 ^ d := Nat.one_le_two_pow
    rw [Nat.pow_succ]; omega
  obtain ⟨x, c1, e1, e2, e3, e4⟩ := below_ok c 8 hc (by omega) (by omega)
  unfold b_l4Ty
  rw [bnd_eq e1]
  simp only [lt_]
  have hvl : decide ((vars.length : Int) > 0) = true := decide_eq_true (by omega)
  rw [hvl]
  cases hx : decide (x < 3) with
  | true =>
    simp only [cnd_true]
    obtain ⟨y, c2, f1, f2, f3, f4⟩ := below_ok c1 vars.length e4 (by omega) (by omega)
    have hy : at? vars y = some (vars[y.toNat]'(by omega)) := by unfold at?; rw [if_pos f2]; exact List.getElem?_eq_getElem _
    rw [bnd_eq f1, bnd_eq hy]
    refine ⟨_, _, rfl, f4, fun v hv => ?_, by simp only [b_sVar, tnd, tnds]; omega, tok_nil _ _⟩
    simp only [b_sVar, tvs, if_true, tvss, List.append_nil, List.mem_singleton] at hv
    subst hv
    exact hV _ (List.getElem_mem _)
  | false =>
    simp only [cnd_false]
    have flat : ∀ l : List (List UInt8), 0 < l.length → l.length ≤ 256 → ∃ t c', (bnd (b_l1Pick c1 l) fun x11 => bnd (b_l4Con x11.1 []) fun x12 => some (x12, x11.2)) = some (t, c') ∧ curok c' ∧ Dr V (2 ^ (d + 1) - 1) t := by
      intro l hl0 hl1
      obtain ⟨s, c2, f1, f2, _⟩ := pick_ok c1 l e4 hl0 hl1
      rw [bnd_eq f1]
      simp only [con_eq s [] (by simp), bnd]
      exact ⟨_, _, rfl, f2, .con (by decide) (by simp) (by simp only [tnds]; omega) (by simp) (by simp)⟩
    cases hx2 : decide (x < 5) with
    | true =>
      simp only [cnd_true]
      exact flat _ (by simp) (by simp)
    | false =>
      simp only [cnd_false]
      cases d with
      | zero =>
        have : decide (((0 : Nat) : Int) ≤ 0) = true := by decide
        rw [this]
        simp only [cnd_true]
        exact flat _ (by simp) (by simp)
      | succ d =>
        have hd0 : decide (((d + 1 : Nat) : Int) ≤ 0) = false := decide_eq_false (by omega)
        rw [hd0, wrapD d (by omega)]
        simp only [cnd_false]
        have hp2 : 2 ^ (d + 1 + 1) = 2 ^ (d + 1) * 2 := Nat.pow_succ ..
        have hp1 : 1 ≤ 2 ^ (d + 1) := Nat.one_le_two_pow
        cases (x == 5) with
        | true =>
          simp only [cnd_true]
          obtain ⟨t1, c2, f1, f2, f3⟩ := hrec d rfl c1 e4
          obtain ⟨t2, c3, g1, g2, g3⟩ := hrec d rfl c2 f2
          rw [bnd_eq f1, bnd_eq g1]
          simp only [con_eq _ [t1, t2] (by simp), bnd]
          refine ⟨_, _, rfl, g2, .con (by decide) ?_ ?_ (by simp) ?_⟩
          · intro t ht
            simp only [List.mem_cons, List.not_mem_nil, or_false] at ht
            rcases ht with rfl | rfl
            · exact f3.vs
            · exact g3.vs
          · have := f3.sz
            have := g3.sz
            simp only [tnds]
            omega
          · intro t ht
            simp only [List.mem_cons, List.not_mem_nil, or_false] at ht
            rcases ht with rfl | rfl
            · exact f3.ok
            · exact g3.ok
        | false =>
          simp only [cnd_false]
          obtain ⟨s, c2, f1, f2, _⟩ := pick_ok c1 [[108, 105, 115, 116], [108, 105, 115, 116], [98, 111, 120]] e4 (by simp) (by simp)
          obtain ⟨t1, c3, g1, g2, g3⟩ := hrec d rfl c2 f2
          rw [bnd_eq f1, bnd_eq g1]
          simp only [con_eq s [t1] (by simp), bnd]
          refine ⟨_, _, rfl, g2, .con (by decide) (by simpa using g3.vs) ?_ (by simp) (by simpa using g3.ok)⟩
          have := g3.sz
          simp only [tnds]
          omega
theorem ty_ok (V vars : List (List UInt8)) (h0 : 0 < vars.length) (h1 : vars.length ≤ 256) (hV : ∀ v ∈ vars, v ∈ V) : ∀ (n d : Nat), d < n → d ≤ 8 → ∀ c, curok c → ∃ t c', m_l4Ty n c vars (d : Int) = some (t, c') ∧ curok c' ∧ Dr V (2 ^ (d + 1) - 1) t
  | 0, d, h, _ => by omega
  | n + 1, d, h, h8 => fun c hc => by
    rw [m_l4Ty.eq_2]
    exact ty_step V vars d h8 h0 h1 hV (fun e he c hc => ty_ok V vars h0 h1 hV n e (by omega) (by omega) c hc) c hc
theorem free_of {f : Option (TType × Tl1Cur)} {V : List (List UInt8)} {M : Nat} (h : ∃ t c', f = some (t, c') ∧ curok c' ∧ Dr V M t) : ∃ t c', (bnd f fun x1 => bnd (b_l1Below x1.2 8) fun x2 =>
    cnd (x2.1 == 0) (bnd (b_l1Pick x2.2 [[97, 100, 100], [115, 104, 111, 119]]) fun x4 => bnd (b_l4Proj x4.1 x1.1) fun x5 => some (x5, x4.2)) (cnd (x2.1 == 1) (bnd (b_l4Proj [97, 100, 100] x1.1) fun x7 => bnd (b_l4Con [108, 105, 115, 116] [x7]) fun x8 => some (x8, x2.2)) (cnd (x2.1 == 2) (some (TType.mk 4 [115, 104, 111, 119] [], x2.2)) (some (x1.1, x2.2))))) = some (t, c') ∧ curok c' ∧ Dr V (M + 2) t := by
  obtain ⟨t, c1, e1, e2, e3⟩ := h
  rw [bnd_eq e1]
  obtain ⟨x, c2, f1, _, _, f4⟩ := below_ok c1 8 e2 (by omega) (by omega)
  rw [bnd_eq f1]
  have hp : ∀ s, Dr V (M + 1) ⟨3, s, [t]⟩ := fun s => .con (by decide) (by simpa using e3.vs) (by have := e3.sz; simp only [tnds]; omega) (by simp) (by simpa using e3.ok)
  cases (x == 0) with
  | true =>
    simp only [cnd_true]
    obtain ⟨s, c3, g1, g2, _⟩ := pick_ok c2 [[97, 100, 100], [115, 104, 111, 119]] f4 (by simp) (by simp)
    rw [bnd_eq g1]
    simp only [proj_eq s t e3.ok, bnd]
    exact ⟨_, _, rfl, g2, (hp s).more (fun _ h => h) (by omega)⟩
  | false =>
    simp only [cnd_false]
    cases (x == 1) with
    | true =>
      simp only [cnd_true]
      simp only [proj_eq _ t e3.ok, bnd]
      simp only [con_eq _ [(⟨3, [97, 100, 100], [t]⟩ : TType)] (by simp)]
      exact ⟨_, _, rfl, f4, .con (by decide) (by simpa using (hp _).vs) (by have := (hp [97, 100, 100]).sz; simp only [tnds]; omega) (by simp) (by simpa using (hp _).ok)⟩
    | false =>
      simp only [cnd_false]
      cases (x == 2) with
      | true => exact ⟨_, _, rfl, f4, .con (by decide) (by simp) (by simp only [tnds]; omega) (by simp) (by simp)⟩
      | false => exact ⟨_, _, rfl, f4, e3.more (fun _ h => h) (by omega)⟩
theorem free_ok (c : Tl1Cur) (hc : curok c) (d : Nat) (hd : d ≤ 3) : ∃ t c', b_l4Free c (d : Int) = some (t, c') ∧ curok c' ∧ Dr [[97], [98]] 17 t := by
  obtain ⟨t, c', h1, h2, h3⟩ := free_of (ty_ok [[97], [98]] [[97], [98]] (by simp) (by simp) (fun v h => h) 8 d (by omega) (by omega) c hc)
  refine ⟨t, c', h1, h2, h3.more (fun _ h => h) ?_⟩
  have : 2 ^ (d + 1) ≤ 2 ^ 4 := Nat.pow_le_pow_right (by decide) (by omega)
  omega
theorem freeA_ok (c : Tl1Cur) (hc : curok c) : ∃ t c', b_l4FreeA c 3 = some (t, c') ∧ curok c' ∧ Dr [[97], [98]] 17 t := by
  obtain ⟨t, c', h1, h2, h3⟩ := free_of (ty_step (rec := m_l4Ty 8) [[97], [98]] [[97], [98]] 3 (by omega) (by simp) (by simp) (fun v h => h) (fun e he c hc => ty_ok _ _ (by simp) (by simp) (fun v h => h) 8 e (by omega) (by omega) c hc) c hc)
  exact ⟨t, c', h1, h2, h3⟩
theorem bent_l1 (x2 : Int × Tl1Cur) (V : List (List UInt8)) : ∀ (n : Nat) (k : Int) (s : List UInt8) (ts : List TType) (M : Nat), Dr V M ⟨k, s, ts⟩ → ∃ t, b_l4Bent_l1 x2 n k s ts = some (t, x2.2) ∧ Dr V (M + n) t
  | 0, k, s, ts, M, h => ⟨_, rfl, h⟩
  | n + 1, k, s, ts, M, h => by
    simp only [b_l4Bent_l1, conA_eq _ [(⟨k, s, ts⟩ : TType)] (by simp), bnd]
    obtain ⟨t, h1, h2⟩ := bent_l1 x2 V n 2 [108, 105, 115, 116] [⟨k, s, ts⟩] (M + 1) (.con (by decide) (by simpa using h.vs) (by have := h.sz; simp only [tnds]; omega) (by simp) (by simpa using h.ok))
    exact ⟨t, h1, h2.more (fun _ h => h) (by omega)⟩
theorem Dr.hd {V : List (List UInt8)} {M : Nat} {k : Int} {s : List UInt8} {ts : List TType} (h : Dr V M ⟨k, s, ts⟩) (k' : Int) (s' : List UInt8) : Dr (V ++ [s']) M ⟨k', s', ts⟩ := by
  refine ⟨fun v hv => ?_, by simpa only [tnd] using h.sz, by simpa only [tok] using h.ok⟩
  simp only [tvs, List.mem_append] at hv
  rcases hv with hv | hv
  · split at hv
    · simp only [List.mem_singleton] at hv; subst hv; simp
    · simp at hv
  · exact List.mem_append.2 (.inl (h.vs v (by simp [tvs, hv])))
theorem int_eq : b_l4Int = some ⟨2, [105, 110, 116], []⟩ := rfl
theorem bool_eq : b_l4Bool = some ⟨2, [98, 111, 111, 108], []⟩ := rfl
theorem bent_ok (c : Tl1Cur) (hc : curok c) : ∃ t c' w, b_l4Bent c = some (t, c') ∧ curok c' ∧ Dr ([[97], [98]] ++ [w]) 30 t := by
  obtain ⟨t, c1, e1, e2, e3⟩ := freeA_ok c hc
  obtain ⟨x, c2, f1, _, _, f4⟩ := below_ok c1 12 e2 (by omega) (by omega)
  obtain ⟨k, s, ts⟩ := t
  have hin : ∀ v ∈ ([[97], [98]] : List (List UInt8)), v ∈ [[97], [98]] ++ [s] := fun v h => List.mem_append.2 (.inl h)
  unfold b_l4Bent
  rw [bnd_eq e1, bnd_eq f1]
  cases (x == 0) with
  | true =>
    simp only [cnd_true]
    obtain ⟨y, c3, g1, _, _, g4⟩ := below_ok c2 7 f4 (by omega) (by omega)
    rw [bnd_eq g1]
    exact ⟨_, _, s, rfl, g4, (e3.hd _ s).more (fun _ h => h) (by omega)⟩
  | false =>
    simp only [cnd_false]
    cases (x == 1) with
    | true =>
      simp only [cnd_true]
      obtain ⟨y, c3, g1, g2, _⟩ := pick_ok c2 [[], [105, 110, 116], [65], [97, 115, 115, 111, 99], [97, 98, 99, 100, 101, 102, 103, 104, 105]] f4 (by simp) (by simp)
      rw [bnd_eq g1]
      exact ⟨_, _, y, rfl, g2, (e3.hd _ y).more (fun _ h => h) (by omega)⟩
    | false =>
      simp only [cnd_false]
      cases (x == 2) with
      | true =>
        simp only [cnd_true, int_eq, bool_eq, bnd]
        have ho := e3.ok
        have hs := e3.sz
        simp only [tok] at ho
        simp only [tnd] at hs
        have happ : ∀ (a b : List TType), tnds (a ++ b) = tnds a + tnds b := by
          intro a b
          induction a with
          | nil => simp [tnds]
          | cons x a ih => simp only [List.cons_append, tnds, ih]; omega
        have hlen : ∀ l : List TType, l.length ≤ tnds l := by
          intro l
          induction l with
          | nil => simp [tnds]
          | cons x l ih => have := tnd_pos x; simp only [List.length_cons, tnds]; omega
        have hl := hlen ts
        rw [gd_eq (by simp; omega)]
        refine ⟨_, _, s, rfl, f4, fun v hv => ?_, ?_, ?_⟩
        · refine hin v (e3.vs v ?_)
          simp only [tvs, List.mem_append] at hv ⊢
          refine hv.imp id (fun hv => ?_)
          obtain ⟨t, h1, h2⟩ := tvss_mem.1 hv
          simp only [List.mem_append, List.mem_cons, List.not_mem_nil, or_false] at h1
          rcases h1 with h1 | rfl | rfl | rfl
          · exact tvss_mem.2 ⟨t, h1, h2⟩
          · simp [tvs, tvss] at h2
          · simp [tvs, tvss] at h2
          · simp [tvs, tvss] at h2
        · simp only [tnd, happ, tnds]
          omega
        · simp only [tok]
          refine ⟨by simp; omega, tall_iff.2 fun t ht => ?_⟩
          simp only [List.mem_append, List.mem_cons, List.not_mem_nil, or_false] at ht
          rcases ht with ht | rfl | rfl | rfl
          · exact tall_iff.1 ho.2 t ht
          · exact tok_nil _ _
          · exact tok_nil _ _
          · exact tok_nil _ _
      | false =>
        simp only [cnd_false]
        cases (x == 3) with
        | true =>
          simp only [cnd_true]
          obtain ⟨t, h1, h2⟩ := bent_l1 (x, c2) [[97], [98]] 6 k s ts 17 e3
          exact ⟨t, c2, s, h1, f4, h2.more hin (by omega)⟩
        | false => exact ⟨_, _, s, rfl, f4, e3.more hin (by omega)⟩
theorem sLook_eq (v : List UInt8) (l : List TBinding) (h : bok l) : b_sLookup l v = some (lkp v l) := sLookup_l1_eq v l h
def Bs (V : List (List UInt8)) (l : List TBinding) : Prop := ∀ b ∈ l, Dr V 30 b.type_
theorem Bs.bok {V : List (List UInt8)} {l : List TBinding} (h : Bs V l) : bok l := fun b hb => (h b hb).ok
theorem binds_l1 (x1 : Int × Tl1Cur) (hx0 : 0 ≤ x1.1) (hx : x1.1 ≤ 3) : ∀ (n : Nat) (c : Tl1Cur) (y5 : List TBinding) (y7 : Int), curok c → 0 ≤ y7 → y7 ≤ x1.1 → (x1.1 - y7).toNat < n → Bs [[97], [98]] y5 → (y5.length : Int) ≤ y7 →
    ∃ l c' w, b_l6Binds_l1 x1 n c.b c.i c.h y5 y7 = some (l, c') ∧ curok c' ∧ Bs ([[97], [98]] ++ [w]) l
  | 0, c, y5, y7, hc, h0, h1, hn, hb, hl => by omega
  | n + 1, c, y5, y7, hc, h0, h1, hn, hb, hl => by
    have hmore : ∀ w, Bs ([[97], [98]] ++ [w]) y5 := fun w b hb' => (hb b hb').more (fun v h => List.mem_append.2 (.inl h)) (Nat.le_refl _)
    rw [b_l6Binds_l1.eq_2]
    cases hlt : decide (y7 < x1.1) with
    | true =>
      have hlt := of_decide_eq_true hlt
      simp only [cnd_true]
      obtain ⟨v, c1, e1, e2, _⟩ := pick_ok c [[97], [98], [99]] hc (by simp) (by simp)
      obtain ⟨t, c2, f1, f2, f3⟩ := free_ok c1 e2 2 (by omega)
      have hw : IntKind.i64.wrap (y7 + 1) = y7 + 1 := wrap_in _ (by omega) (by omega)
      have hcat : Bs [[97], [98]] (y5 ++ [⟨v, t⟩]) := fun b hb' => by
        rcases List.mem_append.1 hb' with h | h
        · exact hb b h
        · simp only [List.mem_singleton] at h
          subst h
          exact f3.more (fun _ h => h) (by omega)
      have f1' : b_l4Free c1 2 = some (t, c2) := f1
      rw [bnd_eq e1, bnd_eq f1', bnd_eq (sLook_eq v y5 hb.bok), hw]
      cases (lkp v y5).2 with
      | false =>
        simp only [Bool.not_false, cnd_true]
        rw [gd_eq (by simp; omega)]
        exact binds_l1 x1 hx0 hx n c2 _ _ f2 (by omega) (by omega) (by omega) hcat (by simp; omega)
      | true =>
        simp only [Bool.not_true, cnd_false]
        obtain ⟨o, c3, g1, g2⟩ := once_ok c2 4 f2 (by omega) (by omega)
        rw [bnd_eq g1]
        cases o with
        | true =>
          simp only [cnd_true]
          rw [gd_eq (by simp; omega)]
          exact binds_l1 x1 hx0 hx n c3 _ _ g2 (by omega) (by omega) (by omega) hcat (by simp; omega)
        | false =>
          simp only [cnd_false]
          exact binds_l1 x1 hx0 hx n c3 _ _ g2 (by omega) (by omega) (by omega) hb (by omega)
    | false =>
      simp only [cnd_false]
      have done : ∃ l c' w, (some (y5, Tl1Cur.mk c.b c.i c.h) : Option (List TBinding × Tl1Cur)) = some (l, c') ∧ curok c' ∧ Bs ([[97], [98]] ++ [w]) l := ⟨_, _, [], rfl, hc, hmore []⟩
      cases decide (x1.1 > 0) with
      | false => exact done
      | true =>
        simp only [cnd_true]
        cases hp : decide ((y5.length : Int) > 0) with
        | false => exact done
        | true =>
          have hp := of_decide_eq_true hp
          simp only [cnd_true]
          obtain ⟨o, c3, g1, g2⟩ := once_ok c 8 hc (by omega) (by omega)
          have g1' : b_l1Once (Tl1Cur.mk c.b c.i c.h) 8 = some (o, c3) := g1
          rw [bnd_eq g1']
          cases o with
          | false => exact ⟨_, _, [], rfl, g2, hmore []⟩
          | true =>
            simp only [cnd_true]
            obtain ⟨t, c4, w, q1, q2, q3⟩ := bent_ok c3 g2
            have h0 : at? y5 0 = some (y5[0]'(by omega)) := by unfold at?; rw [if_pos (by omega)]; exact List.getElem?_eq_getElem _
            rw [bnd_eq q1, bnd_eq h0]
            refine ⟨_, _, w, rfl, q2, fun b hb' => ?_⟩
            rcases List.mem_or_eq_of_mem_set hb' with h | rfl
            · exact hmore w b h
            · exact q3
theorem binds_ok (c : Tl1Cur) (hc : curok c) : ∃ l c' w, l6BindsT c = some (l, c') ∧ curok c' ∧ Bs ([[97], [98]] ++ [w]) l := by
  obtain ⟨x, c1, e1, e2, e3, e4⟩ := below_ok c 4 hc (by omega) (by omega)
  unfold l6BindsT b_l6Binds
  rw [bnd_eq e1]
  exact binds_l1 (x, c1) e2 (by omega) 8 c1 [] 0 e4 (by omega) (by omega) (by omega) (fun b hb => by simp at hb) (by simp)
theorem ap_dr {V : List (List UInt8)} {M : Nat} {l : List TBinding} {t : TType} (hl : ∀ b ∈ l, Dr V 30 b.type_) (ht : Dr V M t) : Dr V (30 * M) (apT l t) := by
  refine ⟨fun v hv => ?_, ?_, apT_tok (fun b hb => (hl b hb).ok) t ht.ok⟩
  · rcases tvs_ap t hv with ⟨h, _⟩ | ⟨b, h1, h2⟩
    · exact ht.vs v h
    · exact (hl b h1).vs v h2
  · exact Nat.le_trans (apT_tnd (M := 30) ⟨by decide, fun b hb => (hl b hb).sz⟩ t) (Nat.mul_le_mul_left _ ht.sz)

/-! ### the shapes of what is drawn, by hand -/
inductive Ty2 : Nat → TType → Prop
  | var {d : Nat} (v : List UInt8) : Ty2 d ⟨1, v, []⟩
  | con0 {d : Nat} (s : List UInt8) : Ty2 d ⟨2, s, []⟩
  | con1 {d : Nat} (s : List UInt8) {a : TType} (h : Ty2 d a) : Ty2 (d + 1) ⟨2, s, [a]⟩
  | con2 {d : Nat} (s : List UInt8) {a b : TType} (h : Ty2 d a) (h2 : Ty2 d b) : Ty2 (d + 1) ⟨2, s, [a, b]⟩
theorem Ty2.tna {d : Nat} {t : TType} (h : Ty2 d t) : tna t := by
  induction h with
  | var v => simp [Go.Proofs.Ytdofnoeiogjpjaa.tna, tnas]
  | con0 s => simp [Go.Proofs.Ytdofnoeiogjpjaa.tna, tnas]
  | con1 s _ ih => simp [Go.Proofs.Ytdofnoeiogjpjaa.tna, tnas, ih]
  | con2 s _ _ ih1 ih2 => simp [Go.Proofs.Ytdofnoeiogjpjaa.tna, tnas, ih1, ih2]
inductive Fr : Nat → TType → Prop
  | ty {d : Nat} {t : TType} (h : Ty2 d t) : Fr d t
  | proj {d : Nat} (s : List UInt8) {t : TType} (h : Ty2 d t) : Fr d ⟨3, s, [t]⟩
  | lproj {d : Nat} (s r : List UInt8) {t : TType} (h : Ty2 d t) : Fr d ⟨2, r, [⟨3, s, [t]⟩]⟩
  | dyn {d : Nat} (s : List UInt8) : Fr d ⟨4, s, []⟩
theorem Fr.tna {d : Nat} {t : TType} (h : Fr d t) : tna t := by
  cases h with
  | ty h => exact h.tna
  | proj s h => simp [Go.Proofs.Ytdofnoeiogjpjaa.tna, tnas, h.tna]
  | lproj s r h => simp [Go.Proofs.Ytdofnoeiogjpjaa.tna, tnas, h.tna]
  | dyn s => simp [Go.Proofs.Ytdofnoeiogjpjaa.tna, tnas]
theorem con_some {s : List UInt8} {args : List TType} {x : TType} (h : b_l4Con s args = some x) : x = ⟨2, s, args⟩ := by
  unfold b_l4Con at h
  obtain ⟨_, h⟩ := gd_s h
  simp only [List.nil_append, Option.some.injEq] at h
  exact h.symm
theorem proj_some {s : List UInt8} {t x : TType} (h : b_l4Proj s t = some x) : x = ⟨3, s, [t]⟩ := by
  unfold b_l4Proj at h
  obtain ⟨_, h⟩ := gd_s h
  simp only [lt_, idT, Option.some.injEq] at h
  exact h.symm
theorem ty_shape : ∀ (n d : Nat) (c : Tl1Cur) (vars : List (List UInt8)) (t : TType) (c' : Tl1Cur), d ≤ 8 → m_l4Ty n c vars (d : Int) = some (t, c') → Ty2 d t
  | 0, d, c, vars, t, c', _, h => by cases h
  | n + 1, d, c, vars, t, c', hd, h => by
    rw [m_l4Ty.eq_2] at h
    unfold b_l4Ty at h
    simp only [lt_] at h
    obtain ⟨x1, _, h⟩ := bnd_s h
    cases hb : (cnd (decide (x1.1 < 3)) (decide ((vars.length : Int) > 0)) false) with
    | true =>
      rw [hb] at h
      simp only [cnd_true] at h
      obtain ⟨x5, _, h⟩ := bnd_s h
      obtain ⟨x6, _, h⟩ := bnd_s h
      simp only [Option.some.injEq, Prod.mk.injEq] at h
      rw [← h.1]
      exact .var _
    | false =>
      rw [hb] at h
      simp only [cnd_false] at h
      cases hb2 : (cnd (decide (x1.1 < 5)) true (decide ((d : Int) ≤ 0))) with
      | true =>
        rw [hb2] at h
        simp only [cnd_true] at h
        obtain ⟨x5, _, h⟩ := bnd_s h
        obtain ⟨x6, e6, h⟩ := bnd_s h
        simp only [Option.some.injEq, Prod.mk.injEq] at h
        rw [← h.1, con_some e6]
        exact .con0 _
      | false =>
        rw [hb2] at h
        simp only [cnd_false] at h
        cases d with
        | zero =>
          have : decide (((0 : Nat) : Int) ≤ 0) = true := by decide
          rw [this] at hb2
          cases h9 : decide (x1.1 < 5) with
          | true => rw [h9] at hb2; simp [cnd_true] at hb2
          | false => rw [h9] at hb2; simp [cnd_false] at hb2
        | succ d =>
          rw [wrapD d (by omega)] at h
          cases hb3 : (x1.1 == 5) with
          | true =>
            rw [hb3] at h
            simp only [cnd_true] at h
            obtain ⟨x14, e14, h⟩ := bnd_s h
            obtain ⟨x15, e15, h⟩ := bnd_s h
            obtain ⟨x16, e16, h⟩ := bnd_s h
            simp only [Option.some.injEq, Prod.mk.injEq] at h
            rw [← h.1, con_some e16]
            exact .con2 _ (ty_shape n d _ _ _ _ (by omega) e14) (ty_shape n d _ _ _ _ (by omega) e15)
          | false =>
            rw [hb3] at h
            simp only [cnd_false] at h
            obtain ⟨x14, e14, h⟩ := bnd_s h
            obtain ⟨x15, e15, h⟩ := bnd_s h
            obtain ⟨x16, e16, h⟩ := bnd_s h
            simp only [Option.some.injEq, Prod.mk.injEq] at h
            rw [← h.1, con_some e16]
            exact .con1 _ (ty_shape n d _ _ _ _ (by omega) e15)
theorem free_shape {c : Tl1Cur} {d : Nat} {t : TType} {c' : Tl1Cur} (hd : d ≤ 8) (h : b_l4Free c (d : Int) = some (t, c')) : Fr d t := by
  unfold b_l4Free at h
  obtain ⟨x1, e1, h⟩ := bnd_s h
  obtain ⟨x2, _, h⟩ := bnd_s h
  have h1 := ty_shape 8 d c [[97], [98]] x1.1 x1.2 hd e1
  cases hb : (x2.1 == 0) with
  | true =>
    rw [hb] at h
    simp only [cnd_true] at h
    obtain ⟨x4, _, h⟩ := bnd_s h
    obtain ⟨x5, e5, h⟩ := bnd_s h
    simp only [Option.some.injEq, Prod.mk.injEq] at h
    rw [← h.1, proj_some e5]
    exact .proj _ h1
  | false =>
    rw [hb] at h
    simp only [cnd_false] at h
    cases hb2 : (x2.1 == 1) with
    | true =>
      rw [hb2] at h
      simp only [cnd_true] at h
      obtain ⟨x4, e4, h⟩ := bnd_s h
      obtain ⟨x5, e5, h⟩ := bnd_s h
      simp only [Option.some.injEq, Prod.mk.injEq] at h
      rw [← h.1, con_some e5, proj_some e4]
      exact .lproj _ _ h1
    | false =>
      rw [hb2] at h
      simp only [cnd_false] at h
      cases hb3 : (x2.1 == 2) with
      | true =>
        rw [hb3] at h
        simp only [cnd_true, Option.some.injEq, Prod.mk.injEq] at h
        rw [← h.1]
        exact .dyn _
      | false =>
        rw [hb3] at h
        simp only [cnd_false, Option.some.injEq, Prod.mk.injEq] at h
        rw [← h.1]
        exact .ty h1

end Go.Proofs.Ytdofnoeiogjpjaa
set_option linter.unusedVariables false
set_option linter.unusedSimpArgs false
set_option linter.unusedSectionVars false
namespace Go.Proofs.Ytdofnoeiogjpjaa
open Go Go.Eng
attribute [local irreducible] V VO VQ VY Quiet QR SpecP SpecO MSpec Rng PostP PostO PostG
/-! ### unification with a solution at hand -/
def RS (s l : List TBinding) : Prop := Sol s l ∧ tnaB l
def PS (V : List (List UInt8)) (s : List TBinding) (a b : TType) : Prop := (Good V a ∧ Good V b) ∧ tna a ∧ tna b ∧ apT s a = apT s b ∧ tnd (apT s a) ≤ 2000
theorem PS.sizes {V : List (List UInt8)} {s l : List TBinding} {a b : TType} (hR : RS s l) (hP : PS V s a b) : tnd (apT l a) ≤ 2000 ∧ tnd (apT l b) ≤ 2000 ∧ apT s (apT l a) = apT s (apT l b) ∧ tna (apT l a) ∧ tna (apT l b) := by
  obtain ⟨_, h1, h2, h3, h4⟩ := hP
  have n1 := apT_tna hR.2 a h1
  have n2 := apT_tna hR.2 b h2
  have s1 := hR.1 a h1
  have s2 := hR.1 b h2
  have t1 := tnd_ap s _ n1
  have t2 := tnd_ap s _ n2
  rw [s1] at t1
  rw [s2, ← h3] at t2
  exact ⟨by omega, by omega, by rw [s1, s2, h3], n1, n2⟩
theorem nodes_pos {ts : List TType} {c : TType} (h : c ∈ ts) : tnd c ≤ tnds ts := tnd_mem h
theorem solCtl (V : List (List UInt8)) (hV : V.length ≤ 8) (s : List TBinding) : Ctl False V (RS s) (PS V s) where
  few := hV
  good := fun h => h.1
  big := fun _ hR hP => by
    obtain ⟨h1, h2, _⟩ := PS.sizes hR hP
    exact ⟨by omega, by omega⟩
  lim := fun _ hR hP => by
    obtain ⟨h1, h2, _⟩ := PS.sizes hR hP
    exact .inr (by omega)
  bx := fun {l a b x y} _ hR hP hx hy _ _ hk _ => by
    obtain ⟨_, _, h3, h4, h5⟩ := PS.sizes hR hP
    rw [hx] at h3 h4
    rw [hy] at h3 h5
    have e := tna_var h4 hk
    rw [e] at h3
    exact ⟨hR.1.bind hR.2 h3, tnaB_bind hR.2 h5⟩
  bv := fun {l a b x y} _ hR hP hx hy _ _ _ hk _ => by
    obtain ⟨_, _, h3, h4, h5⟩ := PS.sizes hR hP
    rw [hx] at h3 h4
    rw [hy] at h3 h5
    have e := tna_var h5 hk
    rw [e] at h3
    exact ⟨hR.1.bind hR.2 h3.symm, tnaB_bind hR.2 h4⟩
  args := fun {l a b x y} hl hR hP hx hy _ hs kx ky _ _ _ i c d hc hd => by
    obtain ⟨z1, z2, h3, h4, h5⟩ := PS.sizes hR hP
    have vx := hl.vars hP.1.1
    have vy := hl.vars hP.1.2
    have ox := apT_tok hl.ok a hP.1.1.ok
    have oy := apT_tok hl.ok b hP.1.2.ok
    rw [hx] at h3 h4 z1 vx ox
    rw [hy] at h3 h5 z2 vy oy
    obtain ⟨_, _, e3⟩ := parts_eq kx ky h3
    have hcm : c ∈ x.args := List.mem_of_getElem? hc
    have hdm : d ∈ y.args := List.mem_of_getElem? hd
    obtain ⟨g1, _, _⟩ := args_good (V := V) (by omega) ox (fun v hv => (vx v hv).1)
    obtain ⟨g2, _, _⟩ := args_good (V := V) (by omega) oy (fun v hv => (vy v hv).1)
    refine ⟨⟨g1 c hcm, g2 d hdm⟩, tnas_iff.1 (tna_args h4) c hcm, tnas_iff.1 (tna_args h5) d hdm, apTs_get e3 hc hd, ?_⟩
    have t0 := hP.2.2.2.2
    have t1 : apT s x = apT s a := by rw [← hx]; exact hR.1 a hP.2.1
    have t2 : tnd (apT s c) ≤ tnds (apTs s x.args) := by
      refine tnd_mem ?_
      rw [apTs_map]
      exact List.mem_map_of_mem hcm
    have t3 : tnds (apTs s x.args) + 1 = tnd (apT s x) := by
      obtain ⟨k, n, ts⟩ := x
      simp only at kx
      rw [apT_con _ _ _ _ kx]
      show tnds (apTs s ts) + 1 = _
      simp only [tnd]
      omega
    rw [t1] at t3
    omega
/-- Where there is a solution the program unifies. -/
theorem iUnify_sol {V : List (List UInt8)} (hV : V.length ≤ 8) {s : List TBinding} {a b : TType} (hP : PS V s a b) : ∃ l, b_iUnifyF a b = some (l, true) ∧ m_iUnify 50000 [] [a] [b] = some (true, l) ∧ Inv V l ∧ apT l a = apT l b ∧ Sol s l ∧ tnaB l := by
  obtain ⟨r, p, q1, _, _, q4, q5⟩ := pairC (solCtl V hV s) ⟨.nil s, tnaB_nil⟩ hP
  obtain ⟨l', e, h1, h2⟩ := q5.complete (.nil s) tnaB_nil (by simp [tnas, hP.2.1]) (by simp [tnas, hP.2.2.1]) (by simp [apTs, hP.2.2.2.1])
  subst e
  obtain ⟨⟨w1, w2⟩, _⟩ := q4 l' rfl
  refine ⟨l', ?_, q1, w1, w2, h1, h2⟩
  unfold b_iUnifyF b_iUnifyAll unifyNil
  rw [q1]
  rfl
/-! ### the variables of a type -/
mutual
theorem varsT_mem (v : List UInt8) : ∀ (t : TType) (l : List (List UInt8)), v ∈ varsT t l ↔ v ∈ l ∨ v ∈ tvs t
  | ⟨k, n, ts⟩, l => by
    simp only [varsT, tvs]
    rw [varsTs_mem v ts]
    unfold addVar
    by_cases hk : k = 1
    · by_cases hn : n ∈ l
      · simp only [hk, hn, not_true, and_false, if_false, if_true, List.mem_append, List.mem_singleton]
        constructor
        · rintro (h | h)
          · exact .inl h
          · exact .inr (.inr h)
        · rintro (h | rfl | h)
          · exact .inl h
          · exact .inl hn
          · exact .inr h
      · simp only [hk, hn, not_false_eq_true, and_self, if_true, List.mem_append, List.mem_singleton]
        constructor
        · rintro ((h | h) | h)
          · exact .inl h
          · exact .inr (.inl h)
          · exact .inr (.inr h)
        · rintro (h | h | h)
          · exact .inl (.inl h)
          · exact .inl (.inr h)
          · exact .inr h
    · simp [hk]
theorem varsTs_mem (v : List UInt8) : ∀ (ts : List TType) (l : List (List UInt8)), v ∈ varsTs ts l ↔ v ∈ l ∨ v ∈ tvss ts
  | [], l => by simp [varsTs, tvss]
  | a :: ts, l => by
    simp only [varsTs, tvss, List.mem_append]
    rw [varsTs_mem v ts, varsT_mem v a]
    constructor
    · rintro ((h | h) | h)
      · exact .inl h
      · exact .inr (.inl h)
      · exact .inr (.inr h)
    · rintro (h | h | h)
      · exact .inl (.inl h)
      · exact .inl (.inr h)
      · exact .inr h
end
theorem ground_vars {t : TType} (h : varsT t [] = []) : tvs t = [] := by
  refine List.eq_nil_iff_forall_not_mem.2 fun v hv => ?_
  have := (varsT_mem v t []).2 (.inr hv)
  rw [h] at this
  cases this
mutual
theorem ground_tna : ∀ (t : TType), tvs t = [] → tna t
  | ⟨k, n, ts⟩, h => by
    simp only [tvs, List.append_eq_nil_iff] at h
    simp only [tna]
    refine ⟨fun hk => ?_, ground_tnas ts h.2⟩
    rw [if_pos hk] at h
    exact absurd h.1 (by simp)
theorem ground_tnas : ∀ (ts : List TType), tvss ts = [] → tnas ts
  | [], _ => trivial
  | a :: ts, h => by
    simp only [tvss, List.append_eq_nil_iff] at h
    exact ⟨ground_tna a h.1, ground_tnas ts h.2⟩
end
theorem ap_ground {t : TType} (s : List TBinding) (h : tvs t = []) : apT s t = t := apT_out t (fun v hv => by rw [h] at hv; cases hv)
theorem sTV_eq (t : TType) (h : tnd t ≤ 4000000) : b_sTypeVariables t = some (varsT t []) := by
  unfold b_sTypeVariables
  rw [gd_eq (by simp only [List.length_nil]; omega)]
  rfl
theorem variablesOf_eq (t : TType) (h : tnd t ≤ 4000000) : b_variablesOf [t] = some (varsT t []) := by
  unfold b_variablesOf
  simp only [b_variablesOf_l1, lt_, List.length_nil]
  rw [gd_eq (by omega)]
/-! ### Union: it comes to an end -/
theorem grow_eq (n : Nat) (h : n ≤ 4000000) : b_GrowN n = some [] := by
  unfold b_GrowN
  rw [show decide ((n : Int) < 0) = false from decide_eq_false (by omega), cnd_false]
  have h0 : IntKind.i64.wrap ((0 : Int) - 0) = 0 := wrap_in _ (by omega) (by omega)
  have h1 : IntKind.i64.wrap ((n : Int) - 0) = n := by rw [wrap_in _ (by omega) (by omega)]; omega
  rw [h0, h1]
  cases hb : decide ((n : Int) > 0) with
  | true => rw [cnd_true, gd_eq ⟨of_decide_eq_true hb, by omega⟩]
  | false => rfl
theorem concat_eq (a b : List (List UInt8)) (ha : a.length ≤ 1000000) (hb : b.length ≤ 1000000) : b_ConcatS [a, b] = some (a ++ b) := by
  unfold b_ConcatS
  simp only [b_ConcatS_l1]
  have h1 : IntKind.i64.wrap (0 + (a.length : Int)) = a.length := by rw [wrap_in _ (by omega) (by omega)]; omega
  have h2 : IntKind.i64.wrap ((a.length : Int) + (b.length : Int)) = ((a.length + b.length : Nat) : Int) := by rw [wrap_in _ (by omega) (by omega)]; omega
  rw [h1, h2, show decide ((a.length : Int) < 0) = false from decide_eq_false (by omega), show decide ((((a.length + b.length : Nat) : Int)) < 0) = false from decide_eq_false (by omega), cnd_false, cnd_false, bnd_eq (grow_eq _ (by omega))]
  simp only [b_ConcatS_l2]
  rw [gd_eq (by simp; omega), gd_eq (by simp; omega)]
  rfl
/-- The elements of a row, each once. -/
def onceS : List (List UInt8) → List (List UInt8) → List (List UInt8)
  | [], y => y
  | x :: xs, y => if x ∈ y then onceS xs y else onceS xs (y ++ [x])
theorem union_l1 : ∀ (xs y : List (List UInt8)), y.length + xs.length ≤ 4000000 → b_iUnion_l1 xs y y = some (onceS xs y)
  | [], y, _ => rfl
  | x :: xs, y, h => by
    simp only [List.length_cons] at h
    simp only [b_iUnion_l1, onceS]
    by_cases hx : x ∈ y
    · simp only [hx, decide_true, Bool.not_true, cnd_false, if_true]
      exact union_l1 xs y (by omega)
    · simp only [hx, decide_false, Bool.not_false, cnd_true, if_false]
      rw [gd_eq (by simp; omega)]
      exact union_l1 xs _ (by simp; omega)
theorem union_eq (a b : List (List UInt8)) (ha : a.length ≤ 1000000) (hb : b.length ≤ 1000000) : b_iUnion a b = some (onceS (a ++ b) []) := by
  unfold b_iUnion
  rw [bnd_eq (concat_eq a b ha hb)]
  exact union_l1 _ [] (by simp; omega)
theorem apart_ground {p t : TType} (hp : tnd p ≤ 4000) (ht : tnd t ≤ 4000) (hg : tvs t = []) : renApartT [p] [t] = some [] := by
  have h0 : varsT t [] = [] := by
    refine List.eq_nil_iff_forall_not_mem.2 fun v hv => ?_
    rcases (varsT_mem v t []).1 hv with h | h
    · cases h
    · rw [hg] at h; cases h
  have hl := varsT_len p []
  unfold renApartT b_renApart
  rw [bnd_eq (variablesOf_eq p (by omega)), variablesOf_eq t (by omega), h0]
  simp only [bnd]
  rw [union_eq (varsT p []) [] (by simp at hl; omega) (by simp)]
  rfl
/-! ### what is drawn -/
theorem two7_ok (code : List UInt8) (hc : curok (l1NewT code)) : ∃ p t, b_drawMatch code = some (p, t) ∧ Dr [[97], [98]] 17 p ∧ tna p ∧ tok t ∧ tnd t ≤ 600 := by
  obtain ⟨a, c1, e1, e2, e3⟩ := free_ok _ hc 3 (by omega)
  obtain ⟨o, c2, f1, f2⟩ := once_ok c1 4 e2 (by omega) (by omega)
  have hna : tna a := (free_shape (d := 3) (by omega) e1).tna
  unfold b_drawMatch b_l7Two
  simp only [lt_]
  have e1' : b_l4Free (l1NewT code) 3 = some (a, c1) := e1
  rw [bnd_eq e1', bnd_eq f1]
  cases o with
  | true =>
    simp only [cnd_true]
    obtain ⟨b, c3, g1, g2, g3⟩ := free_ok c2 f2 3 (by omega)
    have g1' : b_l4Free c2 3 = some (b, c3) := g1
    rw [bnd_eq g1']
    exact ⟨a, b, rfl, e3, hna, g3.ok, by have := g3.sz; omega⟩
  | false =>
    simp only [cnd_false]
    obtain ⟨l, c3, w, h1, h2, h3⟩ := binds_ok c2 f2
    rw [bnd_eq h1, gd_eq ⟨h3.bok, e3.ok⟩]
    obtain ⟨o2, c4, i1, i2⟩ := once_ok c3 6 h2 (by omega) (by omega)
    rw [bnd_eq i1]
    have ha : Dr ([[97], [98]] ++ [w]) 17 a := e3.more (fun v h => List.mem_append.2 (.inl h)) (Nat.le_refl _)
    have hd := ap_dr h3 ha
    have hs := hd.sz
    cases o2 with
    | true =>
      simp only [cnd_true, int_eq, bnd]
      have hb1 : bok [(⟨[98], ⟨2, [105, 110, 116], []⟩⟩ : TBinding)] := fun b hb => by simp at hb; subst hb; exact tok_nil _ _
      rw [gd_eq ⟨hb1, hd.ok⟩]
      refine ⟨a, apT [⟨[98], ⟨2, [105, 110, 116], []⟩⟩] (apT l a), rfl, e3, hna, apT_tok hb1 _ hd.ok, ?_⟩
      have hm : bnds 1 [(⟨[98], ⟨2, [105, 110, 116], []⟩⟩ : TBinding)] := ⟨by decide, fun b hb => by simp at hb; subst hb; simp [tnd, tnds]⟩
      have := apT_tnd hm (apT l a)
      omega
    | false =>
      simp only [cnd_false]
      exact ⟨a, apT l a, rfl, e3, hna, hd.ok, by omega⟩
theorem tail_ok (code : List UInt8) : ∃ c, b_tailB code = some c ∧ c.length ≤ code.length := by
  unfold b_tailB
  cases hb : ((code.length : Int) == 0) with
  | true => exact ⟨code, rfl, Nat.le_refl _⟩
  | false =>
    have h0 : ¬ (code.length : Int) = 0 := by simpa using hb
    rw [cnd_false, gd_eq ⟨by omega, by omega⟩]
    exact ⟨_, rfl, by simp⟩
/-! ### the law -/
theorem FnUnifyMost_eq (code : List UInt8) (h : ∀ c : List UInt8, c.length ≤ 1048576 → curok (l1NewT c)) : b_FnUnifyMost code = some true := by
  unfold b_FnUnifyMost b_big
  cases hb : decide ((code.length : Int) > 1048576) with
  | true => rfl
  | false =>
    have hb := of_decide_eq_false hb
    simp only [cnd_false]
    obtain ⟨p, t, e1, hp, np, ot, st⟩ := two7_ok code (h code (by omega))
    have sp := hp.sz
    rw [bnd_eq e1]
    dsimp only
    rw [bnd_eq (sTV_eq t (by omega))]
    cases hv : decide (((varsT t []).length : Int) > 0) with
    | true =>
      rw [cnd_true, bnd_eq (iMatches_eq p t (by omega) ot), bnd_eq (sMatches_eq p t (by omega) ot), beq_self_eq_true]
    | false =>
      have hv := of_decide_eq_false hv
      have hg : tvs t = [] := ground_vars (List.length_eq_zero_iff.1 (by omega))
      rw [cnd_false]
      obtain ⟨q, m1, m2⟩ := iMatchF_eq p t (by omega) ot
      rw [bnd_eq m1]
      cases hm : mtT p t [] with
      | none =>
        rw [hm] at m2
        have e : q.1 = false := m2
        rw [e]
        rfl
      | some l =>
        rw [hm] at m2
        have e : q = (true, l) := m2
        subst e
        dsimp only
        rw [Bool.not_true, cnd_false]
        obtain ⟨s1, s2, s3⟩ := mtT_sound p t [] l np hm
        obtain ⟨r1, _⟩ := mtT_rng (Q := fun x => tok x ∧ tnd x ≤ 600 ∧ tvs x = []) (fun x hx y hy => ⟨rtok x hx.1 y hy, by
          obtain ⟨k, n, ts⟩ := x
          have : tnd y ≤ tnds ts := tnd_mem hy
          have := hx.2.1
          simp only [tnd] at this
          omega, by
          obtain ⟨k, n, ts⟩ := x
          have h3 := hx.2.2
          simp only [tvs, List.append_eq_nil_iff] at h3
          refine List.eq_nil_iff_forall_not_mem.2 fun v hv => ?_
          have : v ∈ tvss ts := tvss_mem.2 ⟨y, hy, hv⟩
          rw [h3.2] at this
          cases this⟩) p t [] l ⟨ot, st, hg⟩ (fun b hb => by simp at hb) hm
        have hlb : bok l := fun b hb => (r1 b hb).1
        obtain ⟨code2, t1, t2⟩ := tail_ok code
        obtain ⟨q2, t3, u1, hq, nq, _, _⟩ := two7_ok code2 (h code2 (by omega))
        have sq := hq.sz
        rw [bnd_eq t1, bnd_eq u1]
        dsimp only
        rw [gd_eq ⟨hlb, hq.ok⟩]
        simp only [lt_]
        have su : tnd (apT l q2) ≤ 600 * 17 := Nat.le_trans (apT_tnd (M := 600) ⟨by decide, fun b hb => (r1 b hb).2.1⟩ q2) (Nat.mul_le_mul_left _ sq)
        rw [bnd_eq (sTV_eq _ (by omega))]
        have tt : tna t := ground_tna t hg
        have gp : Good [[97], [98]] p := ⟨hp.vs, by omega, hp.ok⟩
        have gt : Good [[97], [98]] t := ⟨fun v hv => (by rw [hg] at hv; cases hv), by omega, ot⟩
        have gq : Good [[97], [98]] q2 := ⟨hq.vs, by omega, hq.ok⟩
        cases hc : cnd (decide (((varsT (apT l q2) []).length : Int) > 0)) true (!(teq (apT l q2) t)) with
        | true =>
          rw [cnd_true]
          obtain ⟨l2, w1, _⟩ := iUnify_sol (V := [[97], [98]]) (by decide) (s := l) (a := p) (b := t) ⟨⟨gp, gt⟩, np, tt, by rw [s3, ap_ground l hg], by rw [s3]; omega⟩
          have hout : apT [] t = t := apT_out t (fun v _ hd => by simp [dom] at hd)
          unfold b_iUnifiable
          rw [bnd_eq (apart_ground (by omega) (by omega) hg), gd_eq ⟨fun b hb => by simp at hb, ot⟩]
          simp only [lt_]
          rw [hout, bnd_eq w1]
          rfl
        | false =>
          rw [cnd_false]
          have e5 : apT l q2 = t := by
            cases hd : decide (((varsT (apT l q2) []).length : Int) > 0) with
            | true => rw [hd] at hc; simp [cnd_true] at hc
            | false =>
              rw [hd, cnd_false] at hc
              exact (teq_iff _ _).1 (by simpa using hc)
          obtain ⟨m, w1, _, w3, w4, w5, w6⟩ := iUnify_sol (V := [[97], [98]]) (by decide) (s := l) (a := p) (b := q2) ⟨⟨gp, gq⟩, np, nq, by rw [s3, e5], by rw [s3]; omega⟩
          rw [bnd_eq w1]
          dsimp only
          rw [cnd_true, gd_eq ⟨w3.ok, hp.ok⟩]
          have n1 := apT_tna w6 p np
          have hs := w5 p np
          have z := tnd_ap l _ n1
          rw [hs, s3] at z
          obtain ⟨l', c1, _⟩ := mtT_complete (s := l) (apT m p) t [] n1 (by rw [hs, s3]) (.nil l)
          have ha : b_iAtLeast t (apT m p) = some true := by
            unfold b_iAtLeast
            rw [bnd_eq (iMatches_eq (apT m p) t (by omega) ot), c1]
            rfl
          rw [bnd_eq ha]
          rfl

end Go.Proofs.Ytdofnoeiogjpjaa
