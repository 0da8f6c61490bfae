/- Th4. Written by a program of mine (aw.py). -/
import Derived.Test.YtgmlpaaklnkghaaGreatEng39
import Derived.Test.YtgmlpaaklnkghaaGreatTh2
import Derived.Test.YtgmlpaaklnkghaaGreatPt10
import Derived.Test.YtgmlpaaklnkghaaGreatPv3
set_option linter.unusedVariables false
set_option linter.unusedSimpArgs false
set_option linter.unusedSectionVars false
namespace Go.Proofs.YtgmlpaaklnkghaaGreat
open Go Go.Eng
attribute [local irreducible] V VO VQ VY Quiet QR SpecP SpecO Rng PostP PostO PostG
/-! ### the cursor, by hand -/
def curok (c : Tl1Cur) : Prop := 0 ≤ c.i ∧ c.b.length ≤ 1048576
theorem byte_ok (c : Tl1Cur) (h : curok c) : ∃ x c', b_l1Byte c = some (x, c') ∧ 0 ≤ x ∧ x ≤ 255 ∧ curok c' := by
  obtain ⟨h1, h2⟩ := h
  unfold b_l1Byte
  cases hc : decide (c.i < (c.b.length : Int)) with
  | true =>
    have h3 := of_decide_eq_true hc
    have hx : at? c.b c.i = some (c.b[c.i.toNat]'(by omega)) := by unfold at?; rw [if_pos h1]; exact List.getElem?_eq_getElem _
    simp only [cnd_true]
    rw [bnd_eq hx]
    refine ⟨_, _, rfl, (andI_255 _).1, (andI_255 _).2, ?_, h2⟩
    simp only
    rw [wrap_in _ (by omega) (by omega)]
    omega
  | false => exact ⟨_, _, rfl, (andI_255 _).1, (andI_255 _).2, h1, h2⟩
theorem below_ok (c : Tl1Cur) (n : Int) (h : curok c) (h0 : 0 < n) (h1 : n ≤ 256) : ∃ x c', b_l1Below c n = some (x, c') ∧ 0 ≤ x ∧ x < n ∧ curok c' := by
  obtain ⟨x, c', e, e1, e2, e3⟩ := byte_ok c h
  unfold b_l1Below
  rw [show decide (n ≤ 0) = false from decide_eq_false (by omega), show decide (n ≤ 256) = true from decide_eq_true h1]
  simp only [cnd_true, cnd_false]
  rw [bnd_eq e, gd_eq (by omega)]
  exact ⟨_, _, rfl, Int.tmod_nonneg _ e1, Int.tmod_lt_of_pos _ h0, e3⟩
theorem pick_ok (c : Tl1Cur) (l : List (List UInt8)) (h : curok c) (h0 : 0 < l.length) (h1 : l.length ≤ 256) : ∃ x c', b_l1Pick c l = some (x, c') ∧ curok c' ∧ x ∈ l := by
  obtain ⟨x, c', e, e1, e2, e3⟩ := below_ok c l.length h (by omega) (by omega)
  unfold b_l1Pick
  have hx : at? l x = some (l[x.toNat]'(by omega)) := by unfold at?; rw [if_pos e1]; exact List.getElem?_eq_getElem _
  rw [bnd_eq e, bnd_eq hx]
  exact ⟨_, _, rfl, e3, List.getElem_mem _⟩
theorem once_ok (c : Tl1Cur) (n : Int) (h : curok c) (h0 : 0 < n) (h1 : n ≤ 256) : ∃ x c', b_l1Once c n = some (x, c') ∧ curok c' := by
  obtain ⟨x, c', e, _, _, e3⟩ := below_ok c n h h0 h1
  unfold b_l1Once
  rw [bnd_eq e]
  exact ⟨_, _, rfl, e3⟩
/-! ### what is drawn, by hand -/
structure Dr (V : List (List UInt8)) (M : Nat) (t : TType) : Prop where
  vs : ∀ v ∈ tvs t, v ∈ V
  sz : tnd t ≤ M
  ok : tok t
theorem Dr.more {V V' : List (List UInt8)} {M M' : Nat} {t : TType} (h : Dr V M t) (hV : ∀ v ∈ V, v ∈ V') (hM : M ≤ M') : Dr V' M' t := ⟨fun v hv => hV v (h.vs v hv), Nat.le_trans h.sz hM, h.ok⟩
theorem Dr.con {V : List (List UInt8)} {k : Int} {n : List UInt8} {ts : List TType} {M : Nat} (hk : k ≠ 1) (hv : ∀ t ∈ ts, ∀ v ∈ tvs t, v ∈ V) (hs : tnds ts + 1 ≤ M) (hl : ts.length ≤ 4294967296) (ho : ∀ t ∈ ts, tok t) : Dr V M ⟨k, n, ts⟩ := by
  refine ⟨fun v h => ?_, by simp only [tnd]; omega, by simp only [tok]; exact ⟨hl, tall_iff.2 ho⟩⟩
  simp only [tvs, if_neg hk, List.nil_append] at h
  obtain ⟨t, h1, h2⟩ := tvss_mem.1 h
  exact hv t h1 v h2
theorem con_eq (s : List UInt8) (args : List TType) (h : args.length ≤ 4294967296) : b_l4Con s args = some ⟨2, s, args⟩ := by
  unfold b_l4Con
  rw [gd_eq (by simpa using h)]
  rfl
theorem conA_eq (s : List UInt8) (args : List TType) (h : args.length ≤ 4294967296) : b_l4ConA s args = some ⟨2, s, args⟩ := con_eq s args h
theorem proj_eq (s : List UInt8) (t : TType) (h : tok t) : b_l4Proj s t = some ⟨3, s, [t]⟩ := by
  unfold b_l4Proj
  rw [gd_eq h]
  rfl
theorem wrapD (d : Nat) (h : d ≤ 8) : IntKind.i64.wrap (((d + 1 : Nat) : Int) - 1) = (d : Int) := by
  rw [wrap_in _ (by omega) (by omega)]
  omega
theorem ty_step {rec : Tl1Cur → List (List UInt8) → Int → Option (TType × Tl1Cur)} (V vars : List (List UInt8)) (d : Nat) (hd : d ≤ 8) (h0 : 0 < vars.length) (h1 : vars.length ≤ 256) (hV : ∀ v ∈ vars, v ∈ V)
    (hrec : ∀ e, d = e + 1 → ∀ c, curok c → ∃ t c', rec c vars (e : Int) = some (t, c') ∧ curok c' ∧ Dr V (2 ^ (e + 1) - 1) t) (c : Tl1Cur) (hc : curok c) : ∃ t c', b_l4Ty rec c vars (d : Int) = some (t, c') ∧ curok c' ∧ Dr V (2 ^ (d + 1) - 1) t := by
  have hpow : 1 ≤ 2 ^ (d + 1) - 1 := by
    have : 1 ≤ 2 ^ d := Nat.one_le_two_pow
    rw [Nat.pow_succ]; omega
  obtain ⟨x, c1, e1, e2, e3, e4⟩ := below_ok c 8 hc (by omega) (by omega)
  unfold b_l4Ty
  rw [bnd_eq e1]
  simp only [lt_]
  have hvl : decide ((vars.length : Int) > 0) = true := decide_eq_true (by omega)
  rw [hvl]
  cases hx : decide (x < 3) with
  | true =>
    simp only [cnd_true]
    obtain ⟨y, c2, f1, f2, f3, f4⟩ := below_ok c1 vars.length e4 (by omega) (by omega)
    have hy : at? vars y = some (vars[y.toNat]'(by omega)) := by unfold at?; rw [if_pos f2]; exact List.getElem?_eq_getElem _
    rw [bnd_eq f1, bnd_eq hy]
    refine ⟨_, _, rfl, f4, fun v hv => ?_, by simp only [b_sVar, tnd, tnds]; omega, tok_nil _ _⟩
    simp only [b_sVar, tvs, if_true, tvss, List.append_nil, List.mem_singleton] at hv
    subst hv
    exact hV _ (List.getElem_mem _)
  | false =>
    simp only [cnd_false]
    have flat : ∀ l : List (List UInt8), 0 < l.length → l.length ≤ 256 → ∃ t c', (bnd (b_l1Pick c1 l) fun x11 => bnd (b_l4Con x11.1 []) fun x12 => some (x12, x11.2)) = some (t, c') ∧ curok c' ∧ Dr V (2 ^ (d + 1) - 1) t := by
      intro l hl0 hl1
      obtain ⟨s, c2, f1, f2, _⟩ := pick_ok c1 l e4 hl0 hl1
      rw [bnd_eq f1]
      simp only [con_eq s [] (by simp), bnd]
      exact ⟨_, _, rfl, f2, .con (by decide) (by simp) (by simp only [tnds]; omega) (by simp) (by simp)⟩
    cases hx2 : decide (x < 5) with
    | true =>
      simp only [cnd_true]
      exact flat _ (by simp) (by simp)
    | false =>
      simp only [cnd_false]
      cases d with
      | zero =>
        have : decide (((0 : Nat) : Int) ≤ 0) = true := by decide
        rw [this]
        simp only [cnd_true]
        exact flat _ (by simp) (by simp)
      | succ d =>
        have hd0 : decide (((d + 1 : Nat) : Int) ≤ 0) = false := decide_eq_false (by omega)
        rw [hd0, wrapD d (by omega)]
        simp only [cnd_false]
        have hp2 : 2 ^ (d + 1 + 1) = 2 ^ (d + 1) * 2 := Nat.pow_succ ..
        have hp1 : 1 ≤ 2 ^ (d + 1) := Nat.one_le_two_pow
        cases (x == 5) with
        | true =>
          simp only [cnd_true]
          obtain ⟨t1, c2, f1, f2, f3⟩ := hrec d rfl c1 e4
          obtain ⟨t2, c3, g1, g2, g3⟩ := hrec d rfl c2 f2
          rw [bnd_eq f1, bnd_eq g1]
          simp only [con_eq _ [t1, t2] (by simp), bnd]
          refine ⟨_, _, rfl, g2, .con (by decide) ?_ ?_ (by simp) ?_⟩
          · intro t ht
            simp only [List.mem_cons, List.not_mem_nil, or_false] at ht
            rcases ht with rfl | rfl
            · exact f3.vs
            · exact g3.vs
          · have := f3.sz
            have := g3.sz
            simp only [tnds]
            omega
          · intro t ht
            simp only [List.mem_cons, List.not_mem_nil, or_false] at ht
            rcases ht with rfl | rfl
            · exact f3.ok
            · exact g3.ok
        | false =>
          simp only [cnd_false]
          obtain ⟨s, c2, f1, f2, _⟩ := pick_ok c1 [[108, 105, 115, 116], [108, 105, 115, 116], [98, 111, 120]] e4 (by simp) (by simp)
          obtain ⟨t1, c3, g1, g2, g3⟩ := hrec d rfl c2 f2
          rw [bnd_eq f1, bnd_eq g1]
          simp only [con_eq s [t1] (by simp), bnd]
          refine ⟨_, _, rfl, g2, .con (by decide) (by simpa using g3.vs) ?_ (by simp) (by simpa using g3.ok)⟩
          have := g3.sz
          simp only [tnds]
          omega
theorem ty_ok (V vars : List (List UInt8)) (h0 : 0 < vars.length) (h1 : vars.length ≤ 256) (hV : ∀ v ∈ vars, v ∈ V) : ∀ (n d : Nat), d < n → d ≤ 8 → ∀ c, curok c → ∃ t c', m_l4Ty n c vars (d : Int) = some (t, c') ∧ curok c' ∧ Dr V (2 ^ (d + 1) - 1) t
  | 0, d, h, _ => by omega
  | n + 1, d, h, h8 => fun c hc => by
    rw [m_l4Ty.eq_2]
    exact ty_step V vars d h8 h0 h1 hV (fun e he c hc => ty_ok V vars h0 h1 hV n e (by omega) (by omega) c hc) c hc
theorem free_of {f : Option (TType × Tl1Cur)} {V : List (List UInt8)} {M : Nat} (h : ∃ t c', f = some (t, c') ∧ curok c' ∧ Dr V M t) : ∃ t c', (bnd f fun x1 => bnd (b_l1Below x1.2 8) fun x2 =>
    cnd (x2.1 == 0) (bnd (b_l1Pick x2.2 [[97, 100, 100], [115, 104, 111, 119]]) fun x4 => bnd (b_l4Proj x4.1 x1.1) fun x5 => some (x5, x4.2)) (cnd (x2.1 == 1) (bnd (b_l4Proj [97, 100, 100] x1.1) fun x7 => bnd (b_l4Con [108, 105, 115, 116] [x7]) fun x8 => some (x8, x2.2)) (cnd (x2.1 == 2) (some (TType.mk 4 [115, 104, 111, 119] [], x2.2)) (some (x1.1, x2.2))))) = some (t, c') ∧ curok c' ∧ Dr V (M + 2) t := by
  obtain ⟨t, c1, e1, e2, e3⟩ := h
  rw [bnd_eq e1]
  obtain ⟨x, c2, f1, _, _, f4⟩ := below_ok c1 8 e2 (by omega) (by omega)
  rw [bnd_eq f1]
  have hp : ∀ s, Dr V (M + 1) ⟨3, s, [t]⟩ := fun s => .con (by decide) (by simpa using e3.vs) (by have := e3.sz; simp only [tnds]; omega) (by simp) (by simpa using e3.ok)
  cases (x == 0) with
  | true =>
    simp only [cnd_true]
    obtain ⟨s, c3, g1, g2, _⟩ := pick_ok c2 [[97, 100, 100], [115, 104, 111, 119]] f4 (by simp) (by simp)
    rw [bnd_eq g1]
    simp only [proj_eq s t e3.ok, bnd]
    exact ⟨_, _, rfl, g2, (hp s).more (fun _ h => h) (by omega)⟩
  | false =>
    simp only [cnd_false]
    cases (x == 1) with
    | true =>
      simp only [cnd_true]
      simp only [proj_eq _ t e3.ok, bnd]
      simp only [con_eq _ [(⟨3, [97, 100, 100], [t]⟩ : TType)] (by simp)]
      exact ⟨_, _, rfl, f4, .con (by decide) (by simpa using (hp _).vs) (by have := (hp [97, 100, 100]).sz; simp only [tnds]; omega) (by simp) (by simpa using (hp _).ok)⟩
    | false =>
      simp only [cnd_false]
      cases (x == 2) with
      | true => exact ⟨_, _, rfl, f4, .con (by decide) (by simp) (by simp only [tnds]; omega) (by simp) (by simp)⟩
      | false => exact ⟨_, _, rfl, f4, e3.more (fun _ h => h) (by omega)⟩
theorem free_ok (c : Tl1Cur) (hc : curok c) (d : Nat) (hd : d ≤ 3) : ∃ t c', b_l4Free c (d : Int) = some (t, c') ∧ curok c' ∧ Dr [[97], [98]] 17 t := by
  obtain ⟨t, c', h1, h2, h3⟩ := free_of (ty_ok [[97], [98]] [[97], [98]] (by simp) (by simp) (fun v h => h) 8 d (by omega) (by omega) c hc)
  refine ⟨t, c', h1, h2, h3.more (fun _ h => h) ?_⟩
  have : 2 ^ (d + 1) ≤ 2 ^ 4 := Nat.pow_le_pow_right (by decide) (by omega)
  omega
theorem freeA_ok (c : Tl1Cur) (hc : curok c) : ∃ t c', b_l4FreeA c 3 = some (t, c') ∧ curok c' ∧ Dr [[97], [98]] 17 t := by
  obtain ⟨t, c', h1, h2, h3⟩ := free_of (ty_step (rec := m_l4Ty 8) [[97], [98]] [[97], [98]] 3 (by omega) (by simp) (by simp) (fun v h => h) (fun e he c hc => ty_ok _ _ (by simp) (by simp) (fun v h => h) 8 e (by omega) (by omega) c hc) c hc)
  exact ⟨t, c', h1, h2, h3⟩
theorem bent_l1 (x2 : Int × Tl1Cur) (V : List (List UInt8)) : ∀ (n : Nat) (k : Int) (s : List UInt8) (ts : List TType) (M : Nat), Dr V M ⟨k, s, ts⟩ → ∃ t, b_l4Bent_l1 x2 n k s ts = some (t, x2.2) ∧ Dr V (M + n) t
  | 0, k, s, ts, M, h => ⟨_, rfl, h⟩
  | n + 1, k, s, ts, M, h => by
    simp only [b_l4Bent_l1, conA_eq _ [(⟨k, s, ts⟩ : TType)] (by simp), bnd]
    obtain ⟨t, h1, h2⟩ := bent_l1 x2 V n 2 [108, 105, 115, 116] [⟨k, s, ts⟩] (M + 1) (.con (by decide) (by simpa using h.vs) (by have := h.sz; simp only [tnds]; omega) (by simp) (by simpa using h.ok))
    exact ⟨t, h1, h2.more (fun _ h => h) (by omega)⟩
theorem Dr.hd {V : List (List UInt8)} {M : Nat} {k : Int} {s : List UInt8} {ts : List TType} (h : Dr V M ⟨k, s, ts⟩) (k' : Int) (s' : List UInt8) : Dr (V ++ [s']) M ⟨k', s', ts⟩ := by
  refine ⟨fun v hv => ?_, by simpa only [tnd] using h.sz, by simpa only [tok] using h.ok⟩
  simp only [tvs, List.mem_append] at hv
  rcases hv with hv | hv
  · split at hv
    · simp only [List.mem_singleton] at hv; subst hv; simp
    · simp at hv
  · exact List.mem_append.2 (.inl (h.vs v (by simp [tvs, hv])))
theorem int_eq : b_l4Int = some ⟨2, [105, 110, 116], []⟩ := rfl
theorem bool_eq : b_l4Bool = some ⟨2, [98, 111, 111, 108], []⟩ := rfl
theorem bent_ok (c : Tl1Cur) (hc : curok c) : ∃ t c' w, b_l4Bent c = some (t, c') ∧ curok c' ∧ Dr ([[97], [98]] ++ [w]) 30 t := by
  obtain ⟨t, c1, e1, e2, e3⟩ := freeA_ok c hc
  obtain ⟨x, c2, f1, _, _, f4⟩ := below_ok c1 12 e2 (by omega) (by omega)
  obtain ⟨k, s, ts⟩ := t
  have hin : ∀ v ∈ ([[97], [98]] : List (List UInt8)), v ∈ [[97], [98]] ++ [s] := fun v h => List.mem_append.2 (.inl h)
  unfold b_l4Bent
  rw [bnd_eq e1, bnd_eq f1]
  cases (x == 0) with
  | true =>
    simp only [cnd_true]
    obtain ⟨y, c3, g1, _, _, g4⟩ := below_ok c2 7 f4 (by omega) (by omega)
    rw [bnd_eq g1]
    exact ⟨_, _, s, rfl, g4, (e3.hd _ s).more (fun _ h => h) (by omega)⟩
  | false =>
    simp only [cnd_false]
    cases (x == 1) with
    | true =>
      simp only [cnd_true]
      obtain ⟨y, c3, g1, g2, _⟩ := pick_ok c2 [[], [105, 110, 116], [65], [97, 115, 115, 111, 99], [97, 98, 99, 100, 101, 102, 103, 104, 105]] f4 (by simp) (by simp)
      rw [bnd_eq g1]
      exact ⟨_, _, y, rfl, g2, (e3.hd _ y).more (fun _ h => h) (by omega)⟩
    | false =>
      simp only [cnd_false]
      cases (x == 2) with
      | true =>
        simp only [cnd_true, int_eq, bool_eq, bnd]
        have ho := e3.ok
        have hs := e3.sz
        simp only [tok] at ho
        simp only [tnd] at hs
        have happ : ∀ (a b : List TType), tnds (a ++ b) = tnds a + tnds b := by
          intro a b
          induction a with
          | nil => simp [tnds]
          | cons x a ih => simp only [List.cons_append, tnds, ih]; omega
        have hlen : ∀ l : List TType, l.length ≤ tnds l := by
          intro l
          induction l with
          | nil => simp [tnds]
          | cons x l ih => have := tnd_pos x; simp only [List.length_cons, tnds]; omega
        have hl := hlen ts
        rw [gd_eq (by simp; omega)]
        refine ⟨_, _, s, rfl, f4, fun v hv => ?_, ?_, ?_⟩
        · refine hin v (e3.vs v ?_)
          simp only [tvs, List.mem_append] at hv ⊢
          refine hv.imp id (fun hv => ?_)
          obtain ⟨t, h1, h2⟩ := tvss_mem.1 hv
          simp only [List.mem_append, List.mem_cons, List.not_mem_nil, or_false] at h1
          rcases h1 with h1 | rfl | rfl | rfl
          · exact tvss_mem.2 ⟨t, h1, h2⟩
          · simp [tvs, tvss] at h2
          · simp [tvs, tvss] at h2
          · simp [tvs, tvss] at h2
        · simp only [tnd, happ, tnds]
          omega
        · simp only [tok]
          refine ⟨by simp; omega, tall_iff.2 fun t ht => ?_⟩
          simp only [List.mem_append, List.mem_cons, List.not_mem_nil, or_false] at ht
          rcases ht with ht | rfl | rfl | rfl
          · exact tall_iff.1 ho.2 t ht
          · exact tok_nil _ _
          · exact tok_nil _ _
          · exact tok_nil _ _
      | false =>
        simp only [cnd_false]
        cases (x == 3) with
        | true =>
          simp only [cnd_true]
          obtain ⟨t, h1, h2⟩ := bent_l1 (x, c2) [[97], [98]] 6 k s ts 17 e3
          exact ⟨t, c2, s, h1, f4, h2.more hin (by omega)⟩
        | false => exact ⟨_, _, s, rfl, f4, e3.more hin (by omega)⟩
theorem sLook_eq (v : List UInt8) (l : List TBinding) (h : bok l) : b_sLookup l v = some (lkp v l) := sLookup_l1_eq v l h
def Bs (V : List (List UInt8)) (l : List TBinding) : Prop := ∀ b ∈ l, Dr V 30 b.type_
theorem Bs.bok {V : List (List UInt8)} {l : List TBinding} (h : Bs V l) : bok l := fun b hb => (h b hb).ok
theorem binds_l1 (x1 : Int × Tl1Cur) (hx0 : 0 ≤ x1.1) (hx : x1.1 ≤ 3) : ∀ (n : Nat) (c : Tl1Cur) (y5 : List TBinding) (y7 : Int), curok c → 0 ≤ y7 → y7 ≤ x1.1 → (x1.1 - y7).toNat < n → Bs [[97], [98]] y5 → (y5.length : Int) ≤ y7 →
    ∃ l c' w, b_l6Binds_l1 x1 n c.b c.i c.h y5 y7 = some (l, c') ∧ curok c' ∧ Bs ([[97], [98]] ++ [w]) l
  | 0, c, y5, y7, hc, h0, h1, hn, hb, hl => by omega
  | n + 1, c, y5, y7, hc, h0, h1, hn, hb, hl => by
    have hmore : ∀ w, Bs ([[97], [98]] ++ [w]) y5 := fun w b hb' => (hb b hb').more (fun v h => List.mem_append.2 (.inl h)) (Nat.le_refl _)
    rw [b_l6Binds_l1.eq_2]
    cases hlt : decide (y7 < x1.1) with
    | true =>
      have hlt := of_decide_eq_true hlt
      simp only [cnd_true]
      obtain ⟨v, c1, e1, e2, _⟩ := pick_ok c [[97], [98], [99]] hc (by simp) (by simp)
      obtain ⟨t, c2, f1, f2, f3⟩ := free_ok c1 e2 2 (by omega)
      have hw : IntKind.i64.wrap (y7 + 1) = y7 + 1 := wrap_in _ (by omega) (by omega)
      have hcat : Bs [[97], [98]] (y5 ++ [⟨v, t⟩]) := fun b hb' => by
        rcases List.mem_append.1 hb' with h | h
        · exact hb b h
        · simp only [List.mem_singleton] at h
          subst h
          exact f3.more (fun _ h => h) (by omega)
      have f1' : b_l4Free c1 2 = some (t, c2) := f1
      rw [bnd_eq e1, bnd_eq f1', bnd_eq (sLook_eq v y5 hb.bok), hw]
      cases (lkp v y5).2 with
      | false =>
        simp only [Bool.not_false, cnd_true]
        rw [gd_eq (by simp; omega)]
        exact binds_l1 x1 hx0 hx n c2 _ _ f2 (by omega) (by omega) (by omega) hcat (by simp; omega)
      | true =>
        simp only [Bool.not_true, cnd_false]
        obtain ⟨o, c3, g1, g2⟩ := once_ok c2 4 f2 (by omega) (by omega)
        rw [bnd_eq g1]
        cases o with
        | true =>
          simp only [cnd_true]
          rw [gd_eq (by simp; omega)]
          exact binds_l1 x1 hx0 hx n c3 _ _ g2 (by omega) (by omega) (by omega) hcat (by simp; omega)
        | false =>
          simp only [cnd_false]
          exact binds_l1 x1 hx0 hx n c3 _ _ g2 (by omega) (by omega) (by omega) hb (by omega)
    | false =>
      simp only [cnd_false]
      have done : ∃ l c' w, (some (y5, Tl1Cur.mk c.b c.i c.h) : Option (List TBinding × Tl1Cur)) = some (l, c') ∧ curok c' ∧ Bs ([[97], [98]] ++ [w]) l := ⟨_, _, [], rfl, hc, hmore []⟩
      cases decide (x1.1 > 0) with
      | false => exact done
      | true =>
        simp only [cnd_true]
        cases hp : decide ((y5.length : Int) > 0) with
        | false => exact done
        | true =>
          have hp := of_decide_eq_true hp
          simp only [cnd_true]
          obtain ⟨o, c3, g1, g2⟩ := once_ok c 8 hc (by omega) (by omega)
          have g1' : b_l1Once (Tl1Cur.mk c.b c.i c.h) 8 = some (o, c3) := g1
          rw [bnd_eq g1']
          cases o with
          | false => exact ⟨_, _, [], rfl, g2, hmore []⟩
          | true =>
            simp only [cnd_true]
            obtain ⟨t, c4, w, q1, q2, q3⟩ := bent_ok c3 g2
            have h0 : at? y5 0 = some (y5[0]'(by omega)) := by unfold at?; rw [if_pos (by omega)]; exact List.getElem?_eq_getElem _
            rw [bnd_eq q1, bnd_eq h0]
            refine ⟨_, _, w, rfl, q2, fun b hb' => ?_⟩
            rcases List.mem_or_eq_of_mem_set hb' with h | rfl
            · exact hmore w b h
            · exact q3
theorem binds_ok (c : Tl1Cur) (hc : curok c) : ∃ l c' w, l6BindsT c = some (l, c') ∧ curok c' ∧ Bs ([[97], [98]] ++ [w]) l := by
  obtain ⟨x, c1, e1, e2, e3, e4⟩ := below_ok c 4 hc (by omega) (by omega)
  unfold l6BindsT b_l6Binds
  rw [bnd_eq e1]
  exact binds_l1 (x, c1) e2 (by omega) 8 c1 [] 0 e4 (by omega) (by omega) (by omega) (fun b hb => by simp at hb) (by simp)
theorem ap_dr {V : List (List UInt8)} {M : Nat} {l : List TBinding} {t : TType} (hl : ∀ b ∈ l, Dr V 30 b.type_) (ht : Dr V M t) : Dr V (30 * M) (apT l t) := by
  refine ⟨fun v hv => ?_, ?_, apT_tok (fun b hb => (hl b hb).ok) t ht.ok⟩
  · rcases tvs_ap t hv with ⟨h, _⟩ | ⟨b, h1, h2⟩
    · exact ht.vs v h
    · exact (hl b h1).vs v h2
  · exact Nat.le_trans (apT_tnd (M := 30) ⟨by decide, fun b hb => (hl b hb).sz⟩ t) (Nat.mul_le_mul_left _ ht.sz)
theorem Dr.good {V : List (List UInt8)} {M : Nat} {t : TType} (h : Dr V M t) (hM : M ≤ 4000) : Good V t := ⟨h.vs, Nat.le_trans h.sz hM, h.ok⟩
theorem two_ok (code : List UInt8) (hc : curok (l1NewT code)) : ∃ V a b, V.length ≤ 4 ∧ b_drawUnify code = some (a, b) ∧ Good V a ∧ Good V b := by
  obtain ⟨a, c1, e1, e2, e3⟩ := free_ok _ hc 3 (by omega)
  obtain ⟨b, c2, f1, f2, f3⟩ := free_ok c1 e2 3 (by omega)
  obtain ⟨x, c3, g1, _, _, g4⟩ := below_ok c2 4 f2 (by omega) (by omega)
  unfold b_drawUnify b_l8Two
  simp only [lt_]
  have e1' : b_l4Free (l1NewT code) 3 = some (a, c1) := e1
  have f1' : b_l4Free c1 3 = some (b, c2) := f1
  rw [bnd_eq e1', bnd_eq f1', bnd_eq g1]
  cases (x == 0) with
  | true =>
    simp only [cnd_true]
    obtain ⟨l, c4, w, h1, _, h3⟩ := binds_ok c3 g4
    rw [bnd_eq h1, gd_eq ⟨h3.bok, e3.ok⟩]
    have ha : Dr ([[97], [98]] ++ [w]) 17 a := e3.more (fun v h => List.mem_append.2 (.inl h)) (Nat.le_refl _)
    exact ⟨[[97], [98]] ++ [w], a, _, by simp, rfl, ha.good (by omega), (ap_dr h3 ha).good (by omega)⟩
  | false =>
    simp only [cnd_false]
    cases (x == 1) with
    | true =>
      simp only [cnd_true]
      have hV : ∀ v ∈ ([[97], [98], [99], [100]] : List (List UInt8)), v ∈ ([[97], [98], [99], [100]] : List (List UInt8)) := fun v h => h
      obtain ⟨t, c4, h1, h2, h3⟩ := ty_ok [[97], [98], [99], [100]] [[97], [98], [99], [100]] (by simp) (by simp) hV 8 3 (by omega) (by omega) c3 g4
      obtain ⟨t1, c5, i1, i2, i3⟩ := ty_ok [[97], [98], [99], [100]] [[98]] (by simp) (by simp) (by simp) 8 1 (by omega) (by omega) c4 h2
      obtain ⟨t2, c6, j1, _, j3⟩ := ty_ok [[97], [98], [99], [100]] [[100]] (by simp) (by simp) (by simp) 8 1 (by omega) (by omega) c5 i2
      have h1' : m_l4Ty 8 c3 [[97], [98], [99], [100]] 3 = some (t, c4) := h1
      have i1' : m_l4Ty 8 c4 [[98]] 1 = some (t1, c5) := i1
      have j1' : m_l4Ty 8 c5 [[100]] 1 = some (t2, c6) := j1
      have k1 : ∀ b ∈ [(⟨[97], t1⟩ : TBinding)], Dr [[97], [98], [99], [100]] 30 b.type_ := fun b hb => by simp at hb; subst hb; exact i3.more (fun _ h => h) (by decide)
      have k2 : ∀ b ∈ [(⟨[99], t2⟩ : TBinding)], Dr [[97], [98], [99], [100]] 30 b.type_ := fun b hb => by simp at hb; subst hb; exact j3.more (fun _ h => h) (by decide)
      rw [bnd_eq h1', bnd_eq i1', gd_eq ⟨fun b hb => (k1 b hb).ok, h3.ok⟩, bnd_eq j1', gd_eq ⟨fun b hb => (k2 b hb).ok, h3.ok⟩]
      exact ⟨[[97], [98], [99], [100]], _, _, by simp, rfl, (ap_dr k1 h3).good (by decide), (ap_dr k2 h3).good (by decide)⟩
    | false => exact ⟨[[97], [98]], a, b, by simp, rfl, e3.good (by omega), f3.good (by omega)⟩
end Go.Proofs.YtgmlpaaklnkghaaGreat
set_option linter.unusedVariables false
set_option linter.unusedSimpArgs false
set_option linter.unusedSectionVars false
namespace Go.Proofs.YtgmlpaaklnkghaaGreat
open Go Go.Eng
attribute [local irreducible] V VO VQ VY Quiet QR SpecP SpecO Rng PostP PostO PostG
/-! what is drawn of evidence -/
def Evd (M : Nat) (e : TEvidence) : Prop := evn e ≤ M ∧ eint e
theorem eints_app : ∀ {xs ys : List TEvidence}, eints xs → eints ys → eints (xs ++ ys)
  | [], _, _, h => h
  | x :: xs, ys, h1, h2 => by
    simp only [eints] at h1
    exact ⟨h1.1, eints_app h1.2 h2⟩
theorem evns_app : ∀ (xs ys : List TEvidence), evns (xs ++ ys) = evns xs + evns ys
  | [], ys => by simp [evns]
  | x :: xs, ys => by simp only [List.cons_append, evns, evns_app xs ys]; omega
def EvR (M : Nat) (f : Tl1Cur → Option (TEvidence × Tl1Cur)) : Prop := ∀ c, curok c → ∃ e c', f c = some (e, c') ∧ curok c' ∧ Evd M e
theorem evd_mk {M : Nat} {k n p a : Int} {ts : List TEvidence} (hn : -10 ≤ n ∧ n ≤ 10) (hp : -10 ≤ p ∧ p ≤ 10) (ha : -10 ≤ a ∧ a ≤ 10) (hs : eints ts) (hl : 1 + evns ts ≤ M) : Evd M ⟨k, n, ⟨p, a⟩, ts⟩ := ⟨by simpa only [evn] using hl, by simp only [eint]; exact ⟨hn, hp, ha, hs⟩⟩
theorem z10 : -10 ≤ (0 : Int) ∧ (0 : Int) ≤ 10 := by decide
theorem evl1 {rec : Tl1Cur → Int → Option (TEvidence × Tl1Cur)} {deep : Int} {M : Nat} (hM : M ≤ 1000) (hr : EvR M fun c => rec c (IntKind.i64.wrap (deep - 1))) (p a q : Int × Tl1Cur) (hp : 0 ≤ p.1 ∧ p.1 < 2) (ha : 0 ≤ a.1 ∧ a.1 < 8) (hq : 0 ≤ q.1 ∧ q.1 < 3) : ∀ (n k : Nat) (c : Tl1Cur) (ts : List TEvidence), curok c → 3 ≤ n + k → k ≤ 2 → 0 < n → (k : Int) ≤ q.1 → ts.length ≤ k → eints ts → evns ts ≤ k * M →
    ∃ e c', b_l24Ev_l1 rec deep p a q n c.b c.i c.h ts (k : Int) = some (e, c') ∧ curok c' ∧ Evd (1 + 2 * M) e
  | 0, k, c, ts, _, _, _, h, _, _, _, _ => by omega
  | n + 1, k, c, ts, hc, h1, h2, h3, h4, h5, h6, h7 => by
    have hk : k * M ≤ 2 * M := Nat.mul_le_mul_right M h2
    simp only [b_l24Ev_l1]
    by_cases hlt : (k : Int) < q.1
    · rw [decide_eq_true hlt, cnd_true]
      obtain ⟨e, c', e1, e2, e3, e4⟩ := hr c hc
      have e1' : rec ⟨c.b, c.i, c.h⟩ (IntKind.i64.wrap (deep - 1)) = some (e, c') := e1
      rw [bnd_eq e1', gd_eq (by simp; omega)]
      have ew : IntKind.i64.wrap ((k : Int) + 1) = ((k + 1 : Nat) : Int) := by rw [wrap_in _ (by omega) (by omega)]; omega
      dsimp only
      rw [ew]
      exact evl1 hM hr p a q hp ha hq n (k + 1) c' (ts ++ [e]) e2 (by omega) (by omega) (by omega) (by omega) (by simp; omega) (eints_app h6 ⟨e4, trivial⟩) (by rw [evns_app]; simp only [evns]; rw [Nat.add_mul]; omega)
    · rw [decide_eq_false hlt, cnd_false]
      exact ⟨_, _, rfl, hc, evd_mk z10 (by omega) (by omega) h6 (by omega)⟩
theorem evl2 {rec : Tl1Cur → Int → Option (TEvidence × Tl1Cur)} {deep : Int} {M : Nat} (hM : M ≤ 1000) (hr : EvR M fun c => rec c (IntKind.i64.wrap (deep - 1))) (p a q : Int × Tl1Cur) (hp : 0 ≤ p.1 ∧ p.1 < 2) (ha : 0 ≤ a.1 ∧ a.1 < 8) (hq : 0 ≤ q.1 ∧ q.1 < 3) : ∀ (n k : Nat) (c : Tl1Cur) (ts : List TEvidence), curok c → 3 ≤ n + k → k ≤ 2 → 0 < n → (k : Int) ≤ q.1 → ts.length ≤ k → eints ts → evns ts ≤ k * M →
    ∃ e c', b_l24Ev_l2 rec deep p a q n c.b c.i c.h ts (k : Int) = some (e, c') ∧ curok c' ∧ Evd (1 + 2 * M) e
  | 0, k, c, ts, _, _, _, h, _, _, _, _ => by omega
  | n + 1, k, c, ts, hc, h1, h2, h3, h4, h5, h6, h7 => by
    have hk : k * M ≤ 2 * M := Nat.mul_le_mul_right M h2
    simp only [b_l24Ev_l2]
    by_cases hlt : (k : Int) < q.1
    · rw [decide_eq_true hlt, cnd_true]
      obtain ⟨e, c', e1, e2, e3, e4⟩ := hr c hc
      have e1' : rec ⟨c.b, c.i, c.h⟩ (IntKind.i64.wrap (deep - 1)) = some (e, c') := e1
      rw [bnd_eq e1', gd_eq (by simp; omega)]
      have ew : IntKind.i64.wrap ((k : Int) + 1) = ((k + 1 : Nat) : Int) := by rw [wrap_in _ (by omega) (by omega)]; omega
      dsimp only
      rw [ew]
      exact evl2 hM hr p a q hp ha hq n (k + 1) c' (ts ++ [e]) e2 (by omega) (by omega) (by omega) (by omega) (by simp; omega) (eints_app h6 ⟨e4, trivial⟩) (by rw [evns_app]; simp only [evns]; rw [Nat.add_mul]; omega)
    · rw [decide_eq_false hlt, cnd_false]
      exact ⟨_, _, rfl, hc, evd_mk z10 (by omega) (by omega) h6 (by omega)⟩
theorem ev_step {rec : Tl1Cur → Int → Option (TEvidence × Tl1Cur)} {M : Nat} (hM : M ≤ 400) (deep : Int) (n : Nat) (hn : 3 ≤ n) (hr : 0 < deep → EvR M fun c => rec c (IntKind.i64.wrap (deep - 1))) : EvR (1 + 2 * M) fun c => b_l24Ev rec c deep n := by
  intro c hc
  simp only [b_l24Ev]
  obtain ⟨x, c1, e1, h1, h2, h3⟩ := below_ok c 6 hc (by decide) (by decide)
  rw [bnd_eq e1]
  dsimp only
  by_cases hd : deep ≤ 0
  · rw [decide_eq_true hd, cnd_true]
    obtain ⟨y, c2, e2, g1, g2, g3⟩ := below_ok c1 3 h3 (by decide) (by decide)
    rw [bnd_eq e2]
    exact ⟨_, _, rfl, g3, evd_mk (by omega) z10 z10 trivial (by simp only [evns]; omega)⟩
  · rw [decide_eq_false hd, cnd_false]
    have hr := hr (by omega)
    have k0 : ∀ a : Int, x ≠ a → (x == a) = false := fun a h => by simpa using h
    by_cases x0 : x = 0
    · subst x0
      simp only [beq_self_eq_true, cnd_true]
      obtain ⟨y, c2, e2, g1, g2, g3⟩ := below_ok c1 2 h3 (by decide) (by decide)
      rw [bnd_eq e2]
      obtain ⟨z, c3, e3, i1, i2, i3⟩ := below_ok c2 8 g3 (by decide) (by decide)
      dsimp only
      rw [bnd_eq e3]
      obtain ⟨w, c4, e4, j1, j2, j3⟩ := below_ok c3 3 i3 (by decide) (by decide)
      dsimp only
      rw [bnd_eq e4]
      exact evl1 (by omega) hr (y, c2) (z, c3) (w, c4) ⟨g1, g2⟩ ⟨i1, i2⟩ ⟨j1, j2⟩ n 0 c4 [] j3 (by omega) (by omega) (by omega) (by simpa using j1) (by simp) trivial (by simp [evns])
    · rw [k0 0 x0, cnd_false]
      by_cases x4 : x = 4
      · subst x4
        simp only [beq_self_eq_true, cnd_true]
        obtain ⟨y, c2, e2, g1, g2, g3⟩ := below_ok c1 2 h3 (by decide) (by decide)
        rw [bnd_eq e2]
        obtain ⟨z, c3, e3, i1, i2, i3⟩ := below_ok c2 8 g3 (by decide) (by decide)
        dsimp only
        rw [bnd_eq e3]
        obtain ⟨w, c4, e4, j1, j2, j3⟩ := below_ok c3 3 i3 (by decide) (by decide)
        dsimp only
        rw [bnd_eq e4]
        exact evl2 (by omega) hr (y, c2) (z, c3) (w, c4) ⟨g1, g2⟩ ⟨i1, i2⟩ ⟨j1, j2⟩ n 0 c4 [] j3 (by omega) (by omega) (by omega) (by simpa using j1) (by simp) trivial (by simp [evns])
      · rw [k0 4 x4, cnd_false]
        by_cases x2 : x = 2
        · subst x2
          simp only [beq_self_eq_true, cnd_true]
          obtain ⟨y, c2, e2, g1, g2, g3⟩ := below_ok c1 2 h3 (by decide) (by decide)
          rw [bnd_eq e2]
          dsimp only
          obtain ⟨e, c3, e3, i1, i2, i3⟩ := hr c2 g3
          have e3' : rec c2 (IntKind.i64.wrap (deep - 1)) = some (e, c3) := e3
          rw [bnd_eq e3']
          exact ⟨_, _, rfl, i1, evd_mk (by omega) z10 z10 ⟨i3, trivial⟩ (by simp only [evns]; omega)⟩
        · rw [k0 2 x2, cnd_false]
          by_cases x3 : x = 3
          · subst x3
            simp only [beq_self_eq_true, cnd_true]
            exact ⟨_, _, rfl, h3, evd_mk z10 z10 z10 trivial (by simp only [evns]; omega)⟩
          · rw [k0 3 x3, cnd_false]
            by_cases x5 : x = 5
            · subst x5
              simp only [beq_self_eq_true, cnd_true]
              exact ⟨_, _, rfl, h3, evd_mk z10 z10 z10 trivial (by simp only [evns]; omega)⟩
            · rw [k0 5 x5, cnd_false]
              obtain ⟨y, c2, e2, g1, g2, g3⟩ := below_ok c1 3 h3 (by decide) (by decide)
              rw [bnd_eq e2]
              exact ⟨_, _, rfl, g3, evd_mk (by omega) z10 z10 trivial (by simp only [evns]; omega)⟩
theorem evr0 : EvR 3 fun c => m_l24Ev 6 c 0 := fun c hc => by
  have h := ev_step (rec := m_l24Ev 5) (M := 1) (by decide) 0 5 (by decide) (fun h => absurd h (by decide)) c hc
  exact h
theorem evr1 : EvR 7 fun c => m_l24Ev 7 c 1 := fun c hc => ev_step (rec := m_l24Ev 6) (M := 3) (by decide) 1 6 (by decide) (fun _ => evr0) c hc
theorem evr2 : EvR 15 fun c => m_l24Ev 8 c 2 := fun c hc => ev_step (rec := m_l24Ev 7) (M := 7) (by decide) 2 7 (by decide) (fun _ => evr1) c hc
theorem evA1 (deep : Int) (p a q : Int × Tl1Cur) : ∀ (n : Nat) (b : List UInt8) (i h : Int) (ts : List TEvidence) (k : Int), b_l24EvA_l1 deep p a q n b i h ts k = b_l24Ev_l1 (m_l24Ev 8) deep p a q n b i h ts k
  | 0, _, _, _, _, _ => rfl
  | n + 1, b, i, h, ts, k => by simp only [b_l24EvA_l1, b_l24Ev_l1, evA1 deep p a q n]
theorem evA2 (deep : Int) (p a q : Int × Tl1Cur) : ∀ (n : Nat) (b : List UInt8) (i h : Int) (ts : List TEvidence) (k : Int), b_l24EvA_l2 deep p a q n b i h ts k = b_l24Ev_l2 (m_l24Ev 8) deep p a q n b i h ts k
  | 0, _, _, _, _, _ => rfl
  | n + 1, b, i, h, ts, k => by simp only [b_l24EvA_l2, b_l24Ev_l2, evA2 deep p a q n]
theorem evA_eq (c : Tl1Cur) (deep : Int) (n : Nat) : b_l24EvA c deep n = b_l24Ev (m_l24Ev 8) c deep n := by
  simp only [b_l24EvA, b_l24Ev, evA1, evA2]
theorem evA_ok : EvR 31 fun c => l24A8 c 3 := fun c hc => by
  obtain ⟨e, c', h1, h2, h3⟩ := ev_step (rec := m_l24Ev 8) (M := 15) (by decide) 3 8 (by decide) (fun _ => evr2) c hc
  exact ⟨e, c', (evA_eq c 3 8).trans h1, h2, h3⟩
theorem pickI_ok (c : Tl1Cur) (l : List Int) (h : curok c) (h0 : 0 < l.length) (h1 : l.length ≤ 256) : ∃ x c', b_l1PickInt c l = some (x, c') ∧ curok c' ∧ x ∈ l := by
  obtain ⟨x, c', e, e1, e2, e3⟩ := below_ok c l.length h (by omega) (by omega)
  unfold b_l1PickInt
  have hx : at? l x = some (l[x.toNat]'(by omega)) := by unfold at?; rw [if_pos e1]; exact List.getElem?_eq_getElem _
  rw [bnd_eq e, bnd_eq hx]
  exact ⟨_, _, rfl, e3, List.getElem_mem _⟩
theorem evB_l1 (x1 : TEvidence × Tl1Cur) (x2 : Int × Tl1Cur) : ∀ (n : Nat) (ts : List TEvidence), n + ts.length ≤ 1000 → ∃ us, b_l24Bent_l1 x1 x2 n ts = some (⟨x1.1.kind, x1.1.n, x1.1.at_, us⟩, x2.2) ∧ evns us = evns ts + n ∧ (eints ts → eints us)
  | 0, ts, _ => ⟨ts, rfl, by omega, id⟩
  | n + 1, ts, h => by
    simp only [b_l24Bent_l1]
    rw [gd_eq (by simp; omega)]
    obtain ⟨us, e1, e2, e3⟩ := evB_l1 x1 x2 n (ts ++ [⟨2, 0, ⟨0, 0⟩, []⟩]) (by simp; omega)
    refine ⟨us, e1, ?_, fun ht => e3 (eints_app ht ?_)⟩
    · rw [e2, evns_app]; simp only [evns, evn]; omega
    · simp only [eints, eint]
      exact ⟨⟨z10, z10, z10, trivial⟩, trivial⟩
theorem evB_ok (c : Tl1Cur) (hc : curok c) : ∃ e c', b_l24Bent c = some (e, c') ∧ curok c' ∧ Evd 100 e := by
  unfold b_l24Bent
  obtain ⟨⟨k, n, ⟨p, a⟩, ts⟩, c1, e1, h1, h2, h3⟩ := evA_ok c hc
  have e1' : l24A8 c 3 = some (⟨k, n, ⟨p, a⟩, ts⟩, c1) := e1
  rw [bnd_eq e1']
  dsimp only
  simp only [eint] at h3
  obtain ⟨i1, i2, i3, i4⟩ := h3
  simp only [evn] at h2
  obtain ⟨x, c2, e2, g1, g2, g3⟩ := below_ok c1 10 h1 (by decide) (by decide)
  rw [bnd_eq e2]
  dsimp only
  cases x == 0 with
  | true =>
    rw [cnd_true]
    obtain ⟨y, c3, e3, j1, j2, j3⟩ := below_ok c2 8 g3 (by decide) (by decide)
    rw [bnd_eq e3]
    exact ⟨_, _, rfl, j3, evd_mk i1 i2 i3 i4 (by omega)⟩
  | false =>
    rw [cnd_false]
    cases x == 1 with
    | true =>
      rw [cnd_true]
      obtain ⟨y, c3, e3, j1, j2⟩ := pickI_ok c2 [(-1), 0, 5] g3 (by decide) (by decide)
      rw [bnd_eq e3]
      refine ⟨_, _, rfl, j1, evd_mk ?_ i2 i3 i4 (by omega)⟩
      simp only [List.mem_cons, List.not_mem_nil, or_false] at j2
      rcases j2 with rfl | rfl | rfl <;> (dsimp only; decide)
    | false =>
      rw [cnd_false]
      cases x == 2 with
      | true =>
        rw [cnd_true]
        obtain ⟨y, c3, e3, j1, j2⟩ := pickI_ok c2 [(-1), 1] g3 (by decide) (by decide)
        rw [bnd_eq e3]
        refine ⟨_, _, rfl, j1, evd_mk i1 ?_ i3 i4 (by omega)⟩
        simp only [List.mem_cons, List.not_mem_nil, or_false] at j2
        rcases j2 with rfl | rfl <;> (dsimp only; decide)
      | false =>
        rw [cnd_false]
        cases x == 3 with
        | true =>
          rw [cnd_true]
          have := evns_len ts
          obtain ⟨us, e3, e4, e5⟩ := evB_l1 (⟨k, n, ⟨p, a⟩, ts⟩, c1) (x, c2) 4 ts (by omega)
          rw [e3]
          exact ⟨_, _, rfl, g3, evd_mk i1 i2 i3 (e5 i4) (by omega)⟩
        | false => exact ⟨_, _, rfl, g3, evd_mk i1 i2 i3 i4 (by omega)⟩
theorem drawAS_ok (code : List UInt8) (h : curok (l1NewT code)) : ∃ e l, b_drawAS code = some (e, l) ∧ Evd 100 e := by
  unfold b_drawAS
  simp only [lt_]
  obtain ⟨e, c1, e1, h1, h2⟩ := evB_ok _ h
  rw [bnd_eq e1]
  dsimp only
  obtain ⟨x, c2, e2, g1, g2, g3⟩ := below_ok c1 3 h1 (by decide) (by decide)
  rw [bnd_eq e2]
  dsimp only
  obtain ⟨y, c3, e3, i1, i2, i3⟩ := below_ok c2 2 g3 (by decide) (by decide)
  rw [bnd_eq e3]
  dsimp only
  obtain ⟨z, c4, e4, j1, j2, j3⟩ := below_ok c3 4 i3 (by decide) (by decide)
  rw [bnd_eq e4]
  dsimp only
  rw [gd_eq ⟨j1, by simp; omega⟩]
  exact ⟨_, _, rfl, h2⟩
end Go.Proofs.YtgmlpaaklnkghaaGreat
