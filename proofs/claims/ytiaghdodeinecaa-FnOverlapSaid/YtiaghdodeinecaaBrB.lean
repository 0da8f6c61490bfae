/- Ov5. Written by a program of mine (aw.py). -/
import Derived.Test.YtiaghdodeinecaaEng43
import Derived.Test.YtiaghdodeinecaaTh2
import Derived.Test.YtiaghdodeinecaaOv2
import Derived.Test.YtiaghdodeinecaaMa7
import Derived.Test.YtiaghdodeinecaaMs
import Derived.Test.YtiaghdodeinecaaOv4
import Derived.Test.YtiaghdodeinecaaEng51
set_option linter.unusedVariables false
set_option linter.unusedSimpArgs false
set_option linter.unusedSectionVars false
namespace Go.Proofs.Ytiaghdodeinecaa
open Go Go.Eng
attribute [local irreducible] V VO VQ VY Quiet QR SpecP SpecO Rng PostP PostO PostG
/-! ### the draws of instances end, by hand -/
def OK {α : Type} (p : α → Prop) (o : Option (α × Tl1Cur)) : Prop := ∃ x c', o = some (x, c') ∧ curok c' ∧ p x
section
variable {α β : Type} {p : α → Prop} {q : β → Prop}
theorem okB {f : Option (β × Tl1Cur)} {k : β × Tl1Cur → Option (α × Tl1Cur)} (h : OK q f) (hk : ∀ x c', curok c' → q x → OK p (k (x, c'))) : OK p (bnd f k) := by
  obtain ⟨x, c', e, h1, h2⟩ := h
  rw [bnd_eq e]
  exact hk x c' h1 h2
theorem okC {b : Bool} {x y : Option (α × Tl1Cur)} (h1 : b = true → OK p x) (h2 : b = false → OK p y) : OK p (cnd b x y) := by
  cases b with
  | true => exact h1 rfl
  | false => exact h2 rfl
theorem okG {P : Prop} [Decidable P] {x : Option (α × Tl1Cur)} (hP : P) (h : OK p x) : OK p (gd P x) := by rw [gd_eq hP]; exact h
theorem okS {c : Tl1Cur} {x : α} (hc : curok c) (h : p x) : OK p (some (x, c)) := ⟨x, c, rfl, hc, h⟩
theorem okO {f : Option β} {k : β → Option (α × Tl1Cur)} {x : β} (e : f = some x) (h : OK p (k x)) : OK p (bnd f k) := by rw [bnd_eq e]; exact h
end
theorem belK {c : Tl1Cur} {n : Int} (h : curok c) (h0 : 0 < n) (h1 : n ≤ 256) : OK (fun x => 0 ≤ x ∧ x < n) (b_l1Below c n) := by
  obtain ⟨x, c', e, e1, e2, e3⟩ := below_ok c n h h0 h1
  exact ⟨x, c', e, e3, e1, e2⟩
theorem pikK {c : Tl1Cur} {l : List (List UInt8)} (h : curok c) (h0 : 0 < l.length) (h1 : l.length ≤ 256) : OK (fun _ => True) (b_l1Pick c l) := by
  obtain ⟨x, c', e, e1, _⟩ := pick_ok c l h h0 h1
  exact ⟨x, c', e, e1, trivial⟩
theorem oncK {c : Tl1Cur} {n : Int} (h : curok c) (h0 : 0 < n) (h1 : n ≤ 256) : OK (fun _ => True) (b_l1Once c n) := by
  obtain ⟨x, c', e, e1⟩ := once_ok c n h h0 h1
  exact ⟨x, c', e, e1, trivial⟩
theorem tyK (vars : List (List UInt8)) (hv : vars.length ≤ 256) : ∀ (n d : Nat), d < n → d ≤ 8 → ∀ c, curok c → OK (fun _ => True) (m_l4Ty n c vars (d : Int))
  | 0, d, h, _ => by omega
  | n + 1, d, h, h8 => fun c hc => by
    rw [m_l4Ty.eq_2]
    unfold b_l4Ty
    refine okB (belK hc (by omega) (by omega)) fun x c1 h1 hx => ?_
    simp only [lt_]
    refine okC (fun e => ?_) fun _ => ?_
    · have hl : 0 < vars.length := by
        cases hx3 : decide (x < 3) with
        | true =>
          rw [hx3] at e
          have := of_decide_eq_true (show decide ((vars.length : Int) > 0) = true from e)
          omega
        | false =>
          rw [hx3] at e
          cases e
      refine okB (belK h1 (by omega) (by omega)) fun y c2 h2 hy => ?_
      have : at? vars y = some (vars[y.toNat]'(by omega)) := by unfold at?; rw [if_pos hy.1]; exact List.getElem?_eq_getElem _
      exact okO this (okS h2 trivial)
    · refine okC (fun _ => ?_) fun e => ?_
      · refine okB (pikK h1 (by simp) (by simp)) fun y c2 h2 _ => ?_
        exact okO (con_eq _ _ (by simp)) (okS h2 trivial)
      · have hd : 0 < d := by
          cases hx5 : decide (x < 5) with
          | true =>
            rw [hx5] at e
            cases e
          | false =>
            rw [hx5] at e
            have := of_decide_eq_false (show decide ((d : Int) ≤ 0) = false from e)
            omega
        obtain ⟨d, rfl⟩ : ∃ e, d = e + 1 := ⟨d - 1, by omega⟩
        rw [wrapD d (by omega)]
        have hrec := fun c hc => tyK vars hv n d (by omega) (by omega) c hc
        refine okC (fun _ => ?_) fun _ => ?_
        · refine okB (hrec _ h1) fun t1 c2 h2 _ => okB (hrec _ h2) fun t2 c3 h3 _ => ?_
          exact okO (con_eq _ _ (by simp)) (okS h3 trivial)
        · refine okB (pikK h1 (by simp) (by simp)) fun y c2 h2 _ => okB (hrec _ h2) fun t1 c3 h3 _ => ?_
          exact okO (con_eq _ _ (by simp)) (okS h3 trivial)
theorem tyL_eq : ∀ n, m_l4TyL n = m_l4Ty n
  | 0 => rfl
  | n + 1 => by
    funext c vars d
    rw [m_l4TyL.eq_2, m_l4Ty.eq_2, tyL_eq n]
    rfl
theorem op_eq (k : Int) (s : List UInt8) (l : List TExpr) (h : l.length ≤ 4294967296) : ∃ e, b_l11Op k s l = some e := by
  unfold b_l11Op
  exact ⟨_, gd_eq (by simpa using h)⟩
theorem exK : ∀ (n d : Nat) (vars : List (List UInt8)), d < n → d ≤ 8 → vars.length + 2 * d ≤ 200 → ∀ c, curok c → OK (fun _ => True) (m_l11Expr n c vars (d : Int))
  | 0, d, _, h, _, _ => by omega
  | n + 1, d, vars, h, h8, hv => fun c hc => by
    rw [m_l11Expr.eq_2]
    unfold b_l11Expr
    refine okB (belK hc (by omega) (by omega)) fun x c1 h1 hx => ?_
    obtain ⟨b2, e2, h2⟩ : ∃ b2, (cnd (decide ((d : Int) ≤ 0)) (gd ((3 : Int) ≠ 0) (some (Int.tmod x 3))) (some x)) = some b2 ∧ (d = 0 → b2 < 4) := by
      cases hd : decide ((d : Int) ≤ 0) with
      | true => exact ⟨_, gd_eq (by decide), fun _ => by have := Int.tmod_lt_of_pos x (show (0 : Int) < 3 by decide); omega⟩
      | false => exact ⟨_, rfl, fun e => by have := of_decide_eq_false hd; omega⟩
    refine okO e2 ?_
    have hrec : ∀ (vs : List (List UInt8)), vs.length ≤ vars.length + 2 → 4 ≤ b2 → ∀ c, curok c → OK (fun _ => True) (m_l11Expr n c vs (IntKind.i64.wrap ((d : Int) - 1))) := fun vs hvs hb c hc => by
      obtain ⟨d, rfl⟩ : ∃ e, d = e + 1 := ⟨d - 1, by have : d ≠ 0 := fun e => by have := h2 e; omega
                                                     omega⟩
      rw [wrapD d (by omega)]
      exact exK n d vs (by omega) (by omega) (by omega) c hc
    have hr := hrec vars (by omega)
    have hb : ∀ {k : Int}, (b2 == k) = true → 4 ≤ k → 4 ≤ b2 := fun e hk => by have := eq_of_beq e; omega
    have hint : OK (fun _ => True) (bnd (b_l1Below c1 20) fun x13 => lt_ (b_l11Int (IntKind.i64.wrap (x13.1 - 5))) fun x14 => some (x14, x13.2)) :=
      okB (belK h1 (by omega) (by omega)) fun y c2 h2 _ => okS h2 trivial
    refine okC (fun _ => okB (belK h1 (by omega) (by omega)) fun y c2 h2 _ => okS h2 trivial) fun _ => ?_
    obtain ⟨b7, e7⟩ : ∃ b7, (cnd (b2 == 2) (some (b2 == 2)) (some (b2 == 3)) : Option Bool) = some b7 := by
      cases (b2 == 2) with
      | true => exact ⟨_, rfl⟩
      | false => exact ⟨_, rfl⟩
    refine okO e7 (okC (fun _ => ?_) fun _ => ?_)
    · refine okC (fun e => ?_) fun _ => hint
      have := of_decide_eq_true e
      exact okB (pikK h1 (by omega) (by omega)) fun y c2 h2 _ => okS h2 trivial
    refine okC (fun e => ?_) fun _ => okC (fun e => ?_) fun _ => okC (fun e => ?_) fun _ => okC (fun e => ?_) fun _ => okC (fun e => ?_) fun _ => okC (fun e => ?_) fun _ => okC (fun e => ?_) fun _ => okC (fun e => ?_) fun _ => okC (fun e => ?_) fun _ => hint
    · have hr := hr (hb e (by omega))
      refine okB (pikK h1 (by simp) (by simp)) fun y c2 h2 _ => okB (hr _ h2) fun t1 c3 h3 _ => ?_
      obtain ⟨_, w⟩ := op_eq 4 y [t1] (by simp)
      exact okO w (okS h3 trivial)
    · have hr := hr (hb e (by omega))
      exact okB (pikK h1 (by simp) (by simp)) fun y c2 h2 _ => okB (hr _ h2) fun t1 c3 h3 _ => okB (hr _ h3) fun t2 c4 h4 _ => okS h4 trivial
    · have hr := hr (hb e (by omega))
      refine okB (hr _ h1) fun t1 c3 h3 _ => okB (hr _ h3) fun t2 c4 h4 _ => ?_
      obtain ⟨_, w⟩ := op_eq 6 [99, 111, 110, 115] [t1, t2] (by simp)
      exact okO w (okS h4 trivial)
    · have h4 := hb e (by omega)
      have hr := hr h4
      refine okG (by simp; omega) (okG (by simp; omega) ?_)
      exact okB (hr _ h1) fun t1 c3 h3 _ => okB (hr _ h3) fun t2 c4 h4' _ => okB (hrec _ (by simp) h4 _ h4') fun t3 c5 h5 _ => okS h5 trivial
    · have h4 := hb e (by omega)
      have hr := hr h4
      refine okB (hr _ h1) fun t1 c3 h3 _ => okG (by simp; omega) (okG (by simp; omega) ?_)
      refine okB (hrec _ (by simp) h4 _ h3) fun t3 c5 h5 _ => ?_
      obtain ⟨_, w⟩ := op_eq 8 [121] [t1, t3] (by simp)
      exact okO w (okS h5 trivial)
    · have hr := hr (hb e (by omega))
      refine okB (hr _ h1) fun t1 c3 h3 _ => okB (hr _ h3) fun t2 c4 h4 _ => okB (hr _ h4) fun t3 c5 h5 _ => ?_
      obtain ⟨_, w⟩ := op_eq 9 [] [t1, t2, t3] (by simp)
      exact okO w (okS h5 trivial)
    · have hr := hr (hb e (by omega))
      refine okB (pikK h1 (by simp) (by simp)) fun y c2 h2 _ => okB (hr _ h2) fun t1 c3 h3 _ => okB (hr _ h3) fun t2 c4 h4 _ => ?_
      obtain ⟨_, w⟩ := op_eq 10 y [t1, t2] (by simp)
      exact okO w (okS h4 trivial)
    · have hr := hr (hb e (by omega))
      exact okB (hr _ h1) fun t1 c3 h3 _ => okS h3 trivial
    · have hr := hr (hb e (by omega))
      exact okB (tyK [[97]] (by simp) 8 1 (by omega) (by omega) _ h1) fun t1 c3 h3 _ => okB (hr _ h3) fun t2 c4 h4 _ => okS h4 trivial
/-! ### the heads of drawn instances, by hand -/
def Hd (t : TType) : Prop := Fr 3 t ∧ Dr [[97], [98]] 17 t
theorem Ty2.more {d e : Nat} {t : TType} (h : Ty2 d t) (hd : d ≤ e) : Ty2 e t := by
  induction h generalizing e with
  | var v => exact .var v
  | con0 s => exact .con0 s
  | con1 s _ ih =>
    obtain ⟨e, rfl⟩ : ∃ f, e = f + 1 := ⟨e - 1, by omega⟩
    exact .con1 s (ih (by omega))
  | con2 s _ _ ih1 ih2 =>
    obtain ⟨e, rfl⟩ : ∃ f, e = f + 1 := ⟨e - 1, by omega⟩
    exact .con2 s (ih1 (by omega)) (ih2 (by omega))
theorem Fr.more {d e : Nat} {t : TType} (h : Fr d t) (hd : d ≤ e) : Fr e t := by
  cases h with
  | ty h => exact .ty (h.more hd)
  | proj s h => exact .proj s (h.more hd)
  | lproj s r h => exact .lproj s r (h.more hd)
  | dyn s => exact .dyn s
theorem freeK (d : Nat) (hd : d ≤ 3) {c : Tl1Cur} (hc : curok c) : OK Hd (b_l4Free c (d : Int)) := by
  obtain ⟨t, c', e, e1, e2⟩ := free_ok c hc d hd
  exact ⟨t, c', e, e1, (free_shape (by omega) e).more hd, e2⟩
theorem joinK {f : Option (TType × Tl1Cur)} (h : OK (fun _ => True) f) (x : Bool) (c : Tl1Cur) (hc : curok c) : ∃ b, cnd x (bnd f fun x10 => some (x10.2.b, x10.2.i, x10.2.h, true, x10.1.kind, x10.1.name, x10.1.args)) (some (c.b, c.i, c.h, false, (0 : Int), ([] : List UInt8), ([] : List TType))) = some b ∧ curok ⟨b.1, b.2.1, b.2.2.1⟩ := by
  obtain ⟨t, c', e, h1, _⟩ := h
  cases x with
  | true =>
    rw [cnd_true, bnd_eq e]
    exact ⟨_, rfl, h1⟩
  | false => exact ⟨_, rfl, hc⟩
theorem tailK {n : Int} {c : Tl1Cur} (hc : curok c) {H : TType} (hH : Hd H) {I0 : TType × Tl1Cur → TInstance} {I1 : List UInt8 × Tl1Cur → TInstance} {I2 : TType × Tl1Cur → TInstance} {I3 : TExpr × Tl1Cur → TMethod → TInstance} {I4 : TType → TInstance} {I5 : TMethod → TInstance} {I6 : TInstance} {m m' : TMethod}
    {G1 : List UInt8 × Tl1Cur → Prop} [∀ x, Decidable (G1 x)] {G2 : TType × Tl1Cur → Prop} [∀ x, Decidable (G2 x)] (g1 : ∀ x, G1 x) (g2 : ∀ x, G2 x)
    (h0 : ∀ x, (I0 x).head = x.1) (h1 : ∀ x, (I1 x).head = H) (h2 : ∀ x, (I2 x).head = H) (h3 : ∀ x y, (I3 x y).head = H) (h4 : ∀ x, (I4 x).head = H) (h5 : ∀ x, (I5 x).head = H) (h6 : I6.head = H) :
    OK (fun x : TInstance => Hd x.head) (cnd (n == 0) (bnd (b_l4Free c 2) fun x14 => some (I0 x14, x14.2)) (cnd (n == 1) (bnd (b_l1Pick c [[97], [99]]) fun x16 => gd (G1 x16) (some (I1 x16, x16.2)))
      (cnd (n == 2) (bnd (b_l4Free c 1) fun x19 => gd (G2 x19) (some (I2 x19, x19.2))) (cnd (n == 3) (bnd (m_l11Expr 8 c [[120], [121]] 2) fun x22 => bnd (at? [m] 0) fun x23 => some (I3 x22 x23, x22.2))
      (cnd (n == 4) (bnd b_l4Int fun x25 => some (I4 x25, c)) (cnd (n == 5) (bnd (at? [m'] 0) fun x27 => some (I5 x27, c)) (some (I6, c)))))))) := by
  refine okC (fun _ => ?_) fun _ => okC (fun _ => ?_) fun _ => okC (fun _ => ?_) fun _ => okC (fun _ => ?_) fun _ => okC (fun _ => ?_) fun _ => okC (fun _ => ?_) fun _ => ?_
  · exact okB (freeK 2 (by omega) hc) fun t c1 k1 ht => okS k1 (by rw [h0]; exact ht)
  · exact okB (pikK hc (by simp) (by simp)) fun t c1 k1 _ => okG (g1 _) (okS k1 (by rw [h1]; exact hH))
  · exact okB (freeK 1 (by omega) hc) fun t c1 k1 _ => okG (g2 _) (okS k1 (by rw [h2]; exact hH))
  · exact okB (exK 8 2 [[120], [121]] (by omega) (by omega) (by simp) _ hc) fun t c1 k1 _ => okO (x := m) rfl (okS k1 (by rw [h3]; exact hH))
  · exact okO int_eq (okS hc (by rw [h4]; exact hH))
  · exact okO (x := m') rfl (okS hc (by rw [h5]; exact hH))
  · exact okS hc (by rw [h6]; exact hH)
theorem hd_var (v : List UInt8) (h : v ∈ ([[97], [98]] : List (List UInt8))) : Hd (b_sVar v) := show Hd ⟨1, v, []⟩ from ⟨.ty (.var v), ⟨fun u hu => by
  simp only [tvs, if_true, tvss, List.append_nil, List.mem_singleton] at hu
  subst hu
  exact h, by simp [tnd, tnds], tok_nil _ _⟩⟩
theorem instK {c : Tl1Cur} (hc : curok c) : OK (fun x : TInstance => Hd x.head) (b_l13Inst c) := by
  have va := hd_var [97] (by simp)
  have vb := hd_var [98] (by simp)
  unfold b_l13Inst
  refine okB (pikK hc (by simp) (by simp)) fun s c1 k1 _ => okB (belK k1 (by omega) (by omega)) fun n1 c2 k2 _ => ?_
  simp only [lt_]
  refine okB (belK k2 (by omega) (by omega)) fun n2 c3 k3 _ => okC (fun _ => ?_) fun _ => okC (fun _ => ?_) fun _ => okC (fun _ => ?_) fun _ => ?_
  · refine okO int_eq (okB (oncK k3 (by omega) (by omega)) fun x c4 k4 _ => ?_)
    obtain ⟨b, e, k5⟩ := joinK (tyK [] (by simp) 8 1 (by omega) (by omega) _ k4) x c4 k4
    refine okO e (okB (oncK k5 (by omega) (by omega)) fun y c6 k6 _ => okB (belK k6 (by omega) (by omega)) fun n7 c7 k7 _ => ?_)
    exact tailK k7 (H := ⟨2, [105, 110, 116], []⟩) ⟨.ty (.con0 _), .con (by decide) (by simp) (by simp [tnds]) (by simp) (by simp)⟩ (fun _ => by simp) (fun _ => by simp) (fun _ => rfl) (fun _ => rfl) (fun _ => rfl) (fun _ _ => rfl) (fun _ => rfl) (fun _ => rfl) rfl
  · refine okO (con_eq _ _ (by simp)) (okB (oncK k3 (by omega) (by omega)) fun x c4 k4 _ => ?_)
    obtain ⟨b, e, k5⟩ := joinK (tyK [[97]] (by simp) 8 1 (by omega) (by omega) _ k4) x c4 k4
    rw [tyL_eq]
    refine okO e (okB (oncK k5 (by omega) (by omega)) fun y c6 k6 _ => okB (belK k6 (by omega) (by omega)) fun n7 c7 k7 _ => ?_)
    exact tailK k7 (H := ⟨2, [108, 105, 115, 116], [b_sVar [97]]⟩) ⟨.ty (.con1 _ (.var _)), .con (by decide) (fun t ht => by obtain rfl := List.mem_singleton.1 ht; exact va.2.vs) (by simp [b_sVar, tnds, tnd]) (by simp) (fun t ht => by obtain rfl := List.mem_singleton.1 ht; exact va.2.ok)⟩ (fun _ => by simp) (fun _ => by simp) (fun _ => rfl) (fun _ => rfl) (fun _ => rfl) (fun _ _ => rfl) (fun _ => rfl) (fun _ => rfl) rfl
  · refine okO (con_eq _ _ (by simp)) (okB (oncK k3 (by omega) (by omega)) fun x c4 k4 _ => ?_)
    obtain ⟨b, e, k5⟩ := joinK (tyK [[97], [98]] (by simp) 8 1 (by omega) (by omega) _ k4) x c4 k4
    rw [tyL_eq]
    refine okO e (okB (oncK k5 (by omega) (by omega)) fun y c6 k6 _ => okB (belK k6 (by omega) (by omega)) fun n7 c7 k7 _ => ?_)
    refine tailK k7 (H := ⟨2, [112, 97, 105, 114], [b_sVar [97], b_sVar [98]]⟩) ⟨.ty (.con2 _ (.var _) (.var _)), .con (by decide) (fun t ht => ?_) (by simp [b_sVar, tnds, tnd]) (by simp) (fun t ht => ?_)⟩ (fun _ => by simp) (fun _ => by simp) (fun _ => rfl) (fun _ => rfl) (fun _ => rfl) (fun _ _ => rfl) (fun _ => rfl) (fun _ => rfl) rfl
    · rcases List.mem_cons.1 ht with rfl | ht
      · exact va.2.vs
      · obtain rfl := List.mem_singleton.1 ht
        exact vb.2.vs
    · rcases List.mem_cons.1 ht with rfl | ht
      · exact va.2.ok
      · obtain rfl := List.mem_singleton.1 ht
        exact vb.2.ok
  · refine okB (oncK k3 (by omega) (by omega)) fun x c4 k4 _ => ?_
    obtain ⟨b, e, k5⟩ := joinK (tyK [[97]] (by simp) 8 1 (by omega) (by omega) _ k4) x c4 k4
    rw [tyL_eq]
    refine okO e (okB (oncK k5 (by omega) (by omega)) fun y c6 k6 _ => okB (belK k6 (by omega) (by omega)) fun n7 c7 k7 _ => ?_)
    exact tailK k7 (H := b_sVar [97]) va (fun _ => by simp) (fun _ => by simp) (fun _ => rfl) (fun _ => rfl) (fun _ => rfl) (fun _ _ => rfl) (fun _ => rfl) (fun _ => rfl) rfl
end Go.Proofs.Ytiaghdodeinecaa
set_option linter.unusedVariables false
set_option linter.unusedSimpArgs false
set_option linter.unusedSectionVars false
namespace Go.Proofs.Ytiaghdodeinecaa
open Go Go.Eng
attribute [local irreducible] V VO VQ VY Quiet QR SpecP SpecO Rng PostP PostO PostG
/-! ### the law FnOverlap -/
/-- More specific, as matching says. -/
def msp (a b : TType) : Bool := (mtT b a []).isSome && !(mtT a b []).isSome
theorem iMS_eq {a b : TType} (ha : tok a) (hb : tok b) (sa : tnd a ≤ 40000) (sb : tnd b ≤ 40000) : b_iMoreSpec a b = some (msp a b) := by
  unfold b_iMoreSpec msp
  rw [bnd_eq (iMatches_eq b a sb ha), iMatches_eq a b sa hb]
  cases (mtT b a []).isSome <;> rfl
theorem sMS_eq {a b : TType} (ha : tok a) (hb : tok b) (sa : tnd a ≤ 40000) (sb : tnd b ≤ 40000) : b_sMoreSpec a b = some (msp a b) := by
  unfold b_sMoreSpec b_sAtLeast msp
  rw [sMatches_eq b a sb ha, sMatches_eq a b sa hb]
  cases (mtT b a []).isSome <;> rfl
/-- What is known of the heads. -/
def H2 (t : TType) : Prop := Fr 3 t ∧ Dr [[97], [98]] 600 t
theorem Hd.two {t : TType} (h : Hd t) : H2 t := ⟨h.1, h.2.more (fun v h => h) (by omega)⟩
theorem int_dr (M : Nat) (h : 1 ≤ M) : Dr [[97], [98]] M ⟨2, [105, 110, 116], []⟩ := .con (by decide) (by simp) (by simpa [tnds] using h) (by simp) (by simp)
theorem Hd.int {t : TType} (h : Hd t) : H2 (apT [⟨[97], ⟨2, [105, 110, 116], []⟩⟩] t) := by
  have hv : ∀ {d : Nat} {t : TType}, Ty2 d t → Ty2 d (apT [⟨[97], ⟨2, [105, 110, 116], []⟩⟩] t) := fun ht => by
    have := ht.ap (s := [⟨[97], ⟨2, [105, 110, 116], []⟩⟩]) (e := 0) (fun v _ => by
      rw [ap_sub]
      split
      · exact .con0 _
      · exact .var _)
    simpa using this
  obtain ⟨h1, h2⟩ := h
  refine ⟨?_, (ap_dr (fun b hb => by simp at hb; subst hb; exact int_dr 30 (by omega)) h2).more (fun v h => h) (by omega)⟩
  cases h1 with
  | ty h => exact .ty (hv h)
  | proj s h =>
    rw [apT_con _ _ _ _ (by decide)]
    exact .proj s (hv h)
  | lproj s r h =>
    rw [apT_con _ _ _ _ (by decide)]
    simp only [apTs]
    rw [apT_con _ _ _ _ (by decide)]
    exact .lproj s r (hv h)
  | dyn s =>
    rw [apT_con _ _ _ _ (by decide)]
    exact .dyn s
theorem pairK {a b : TType} (ha : H2 a) (hb : H2 b) : ∃ v, b_iUnifiable a b = some v ∧ b_sUnifiable a b = some v ∧ b_iUnifiable b a = some v ∧ (Meet a b → v = true) := by
  have short2 : ∀ v ∈ ([[97], [98]] : List (List UInt8)), v.length ≤ 100 := by simp
  have h1 : Fit a b := fit_of ha.2 hb.2 (by omega) (by omega) (by decide) (by decide) (.inl short2)
  have h2 : Fit b a := fit_of hb.2 ha.2 (by omega) (by omega) (by decide) (by decide) (.inl short2)
  have ca := vars_few ha.2.vs
  have cb := vars_few hb.2.vs
  obtain ⟨v, e1, e2⟩ := freeV ha.1 hb.1 h1 ca cb
  obtain ⟨w, f1, f2⟩ := freeV hb.1 ha.1 h2 cb ca
  have hvw : v = w := by
    cases v with
    | true => exact (f2.2 (e2.1 rfl).symm).symm
    | false =>
      cases w with
      | false => rfl
      | true => exact e2.2 (f2.1 rfl).symm
  subst hvw
  exact ⟨v, (unifiable h1 e1).1, (unifiable h1 e1).2, (unifiable h2 f1).1, e2.2⟩
def ovl (v : Bool) (a b : TInstance) : Bool := (!(a.trait == b.trait) || !v) || (msp a.head b.head && b.default_ || msp b.head a.head && a.default_)
theorem ovl_symm (v : Bool) (a b : TInstance) : ovl v b a = ovl v a b := by
  unfold ovl
  rw [show (b.trait == a.trait) = (a.trait == b.trait) from BEq.comm, Bool.or_comm (msp b.head a.head && a.default_)]
theorem iOv_eq {a b : TInstance} {v : Bool} (e : b_iUnifiable a.head b.head = some v) (m1 : b_iMoreSpec a.head b.head = some (msp a.head b.head)) (m2 : b_iMoreSpec b.head a.head = some (msp b.head a.head)) : b_iOverlap a b = some (ovl v a b) := by
  unfold b_iOverlap ovl
  rw [e, m1, m2]
  cases (a.trait == b.trait) <;> cases v <;> cases (msp a.head b.head) <;> cases (msp b.head a.head) <;> cases a.default_ <;> cases b.default_ <;> rfl
theorem sOv_eq {a b : TInstance} {v : Bool} (e : b_sUnifiable a.head b.head = some v) (m1 : b_sMoreSpec a.head b.head = some (msp a.head b.head)) (m2 : b_sMoreSpec b.head a.head = some (msp b.head a.head)) : b_sOverlap a b = some (ovl v a b) := by
  unfold b_sOverlap ovl
  rw [e, m1, m2]
  cases (a.trait == b.trait) <;> cases v <;> cases (msp a.head b.head) <;> cases (msp b.head a.head) <;> cases a.default_ <;> cases b.default_ <;> rfl
theorem int_bok : bok [⟨[97], ⟨2, [105, 110, 116], []⟩⟩] := fun b hb => by simp at hb; subst hb; exact tok_nil _ _
theorem drawOv_ok (code : List UInt8) (hc : curok (l1NewT code)) : ∃ a b, b_drawOverlap code = some (a, b) ∧ Hd a.head ∧ H2 b.head := by
  obtain ⟨a, c1, e1, k1, ha⟩ := instK hc
  obtain ⟨b, c2, e2, k2, hb⟩ := instK k1
  obtain ⟨x, c3, e3, k3⟩ := once_ok c2 2 k2 (by omega) (by omega)
  obtain ⟨y, c4, e4, k4⟩ := once_ok c3 3 k3 (by omega) (by omega)
  unfold b_drawOverlap
  simp only [lt_]
  rw [bnd_eq e1, bnd_eq e2, bnd_eq e3]
  dsimp only
  rw [e4, int_eq]
  have hg : bok [⟨[97], ⟨2, [105, 110, 116], []⟩⟩] ∧ tok a.head := ⟨int_bok, ha.2.ok⟩
  cases x <;> cases y <;> simp only [cnd_true, cnd_false, bnd] <;> (try rw [gd_eq hg])
  · exact ⟨_, _, rfl, ha, hb.two⟩
  · exact ⟨_, _, rfl, ha, ha.int⟩
  · exact ⟨_, _, rfl, ha, hb.two⟩
  · exact ⟨_, _, rfl, ha, ha.int⟩
theorem match_two {a b t : TType} (na : tna a) (nb : tna b) (h1 : (mtT a t []).isSome = true) (h2 : (mtT b t []).isSome = true) : Meet a b := by
  obtain ⟨l, hl⟩ := Option.isSome_iff_exists.1 h1
  obtain ⟨m, hm⟩ := Option.isSome_iff_exists.1 h2
  obtain ⟨_, _, h3⟩ := mtT_sound a t [] l na hl
  obtain ⟨_, _, h4⟩ := mtT_sound b t [] m nb hm
  rw [apF_ap l a na] at h3
  rw [apF_ap m b nb] at h4
  exact ⟨_, _, h3.trans h4.symm⟩
theorem FnOverlap_eq (code : List UInt8) (h : code.length ≤ 1048576 → curok (l1NewT code)) : b_FnOverlap code = some true := by
  unfold b_FnOverlap b_big
  cases hb : decide ((code.length : Int) > 1048576) with
  | true => rfl
  | false =>
    have hb := of_decide_eq_false hb
    obtain ⟨a, b, e, ha, hb⟩ := drawOv_ok code (h (by omega))
    obtain ⟨v, g1, g2, g3, g4⟩ := pairK ha.two hb
    have sa : tnd a.head ≤ 40000 := Nat.le_trans ha.2.sz (by omega)
    have sb : tnd b.head ≤ 40000 := Nat.le_trans hb.2.sz (by omega)
    have oa := ha.2.ok
    have ob := hb.2.ok
    have i1 := iMS_eq oa ob sa sb
    have i2 := iMS_eq ob oa sb sa
    rw [cnd_false, bnd_eq e]
    dsimp only
    rw [bnd_eq (iOv_eq g1 i1 i2), bnd_eq (sOv_eq g2 (sMS_eq oa ob sa sb) (sMS_eq ob oa sb sa)), iOv_eq g3 i2 i1, ovl_symm v a b]
    have hbk : bok [⟨[97], ⟨2, [105, 110, 116], []⟩⟩, ⟨[98], ⟨2, [105, 110, 116], []⟩⟩] := fun b hb => by
      simp at hb
      rcases hb with rfl | rfl <;> exact tok_nil _ _
    have ht := apT_tok hbk _ oa
    rw [gd_eq ⟨hbk, oa⟩]
    simp only [lt_]
    rw [sMatches_eq a.head _ sa ht, sMatches_eq b.head _ sb ht, i1, i2]
    simp only [beq_self_eq_true, Bool.not_true, cnd_false, bnd]
    cases ho : ovl v a b with
    | false => rfl
    | true =>
      cases htr : (a.trait == b.trait) with
      | false => rfl
      | true =>
        cases m1 : (mtT a.head (apT [⟨[97], ⟨2, [105, 110, 116], []⟩⟩, ⟨[98], ⟨2, [105, 110, 116], []⟩⟩] a.head) []).isSome with
        | false => rfl
        | true =>
          cases m2 : (mtT b.head (apT [⟨[97], ⟨2, [105, 110, 116], []⟩⟩, ⟨[98], ⟨2, [105, 110, 116], []⟩⟩] a.head) []).isSome with
          | false => rfl
          | true =>
            have hv := g4 (match_two ha.1.tna hb.1.tna m1 m2)
            subst hv
            unfold ovl at ho
            rw [htr] at ho
            revert ho
            cases (msp a.head b.head) <;> cases (msp b.head a.head) <;> cases a.default_ <;> cases b.default_ <;> intro ho <;> first | rfl | cases ho
end Go.Proofs.Ytiaghdodeinecaa
set_option linter.unusedVariables false
set_option linter.unusedSimpArgs false
namespace Go.Proofs.Ytiaghdodeinecaa
open Go Go.Eng Go.RowKit
theorem bridgeB {H : Type} {enc : TypeId × Value → H} {P : Program} {w : World} {sp : Nat → Bool} {held : Bool} {T e : TypeId} {v : Value} {d : DataW H} {ps : List MemPlace} (hund : P.underlying T = some (.slice e)) (he : P.underlying e = some (.int .u8)) (hce : P.cellsOf e = 1) (hbe : 0 < P.bytesOf e)
    (h : DataW.Trod enc P w 0 sp held T v d ps) (hw : ∀ x ∈ d.weights P T, x ≤ reachBytes) (hna : ∀ cs, v ≠ .agg cs) : ∃ code : List UInt8, SVr (fun b => b < w.heap.size) [] [] w (.d (.sl 1 (eBytes code))) v := by
  obtain ⟨fuel, h⟩ := h
  have hc : v.cells = #[v] := by cases v <;> first | rfl | (exact absurd rfl (hna _))
  rw [hc] at h
  suffices hs : ∃ code : List UInt8, Rd (fun b => b < w.heap.size) w (.sl 1 (eBytes code)) [v] by
    obtain ⟨code, h1⟩ := hs
    refine ⟨code, ?_⟩
    simp only [SVr]
    exact ⟨[v], by simp [val, U.isSt], h1⟩
  have hlenB : ∀ l : List UInt8, (eBytes l).length = l.length := fun l => Enc.len l
  cases fuel with
  | zero => simp [DataW.trod] at h
  | succ fuel =>
    rcases DataW.trod_slice hund h with ⟨h0, hx⟩ | ⟨a, len, cap, elems, rest, n, hn, h0, hx, _, hlc, _, hel, hget, _, _⟩
    · simp at h0
      subst h0
      exact ⟨[], by simp only [Rd, eBytes]; exact ⟨by simp [big_eq], none, 0, rfl, .inl trivial⟩⟩
    · obtain rfl : fuel = n := by omega
      simp at h0
      subst h0
      simp only [Prod.mk.injEq] at hx
      obtain ⟨rfl, rfl⟩ := hx
      simp only [DataW.weights, hund] at hw
      have hlen : len ≤ big := by
        have h1 := hw _ (List.mem_cons_self)
        simp only [List.length_map] at h1
        refine reach_big (Nat.le_trans ?_ h1)
        rw [hel]
        calc len ≤ len * P.bytesOf e := Nat.le_mul_of_pos_right _ hbe
          _ ≤ (len + rest.length) * P.bytesOf e := Nat.mul_le_mul_right _ (by omega)
      have each : ∀ i, i < len → ∃ x : UInt8, (a.spot = none → At w a.block (a.off + i * 1) [.int .u8 (x.toNat : Int)]) ∧ (i = 0 → a.spot = none) ∧ a.block < w.heap.size := by
        intro i hi
        have h1 := hget i hi
        rw [List.getElem?_eq_getElem (by omega)] at h1
        cases hc : w.cells? 0 (a.add (i * P.cellsOf e)) (P.cellsOf e) with
        | none => rw [hc] at h1; simp at h1
        | some cs =>
          rw [hc] at h1
          simp only [Option.bind_some] at h1
          rw [hce] at hc
          obtain ⟨k1, k2, k3⟩ := cells_At (by omega) hc
          obtain ⟨m, rfl, _, hwf⟩ := DataW.trod_int he h1
          simp [Lit.wf, IntKind.min, IntKind.max, IntKind.bits, IntKind.signed] at hwf
          have hblk : (a.add (i * 1)).block = a.block := by unfold Addr.add; split <;> rfl
          refine ⟨UInt8.ofNat m.toNat, fun hsp => ?_, fun h0 => ?_, ?_⟩
          · have hoff : (a.add (i * 1)).off = a.off + i * 1 := by unfold Addr.add; split <;> simp_all
            rw [hblk, hoff] at k3
            have e1 : ((UInt8.ofNat m.toNat).toNat : Int) = m := by
              rw [UInt8.toNat_ofNat']
              omega
            rw [e1]
            exact k3
          · subst h0
            rw [Nat.zero_mul] at k2
            exact k2
          · rw [← hblk]; exact k3.lt
      obtain ⟨us, hul, hus⟩ := exists_list len each
      refine ⟨us, ?_⟩
      simp only [Rd]
      refine ⟨by rw [hlenB, hul]; exact hlen, some a, cap - len, by rw [hlenB, hul, Nat.add_sub_cancel' hlc], ?_⟩
      by_cases h0 : us = []
      · subst h0; exact .inl rfl
      · have hpos : 0 < len := by rw [← hul]; exact List.length_pos_iff.2 h0
        obtain ⟨u0, _, hsp, hblt⟩ := each 0 hpos
        have hsp := hsp rfl
        refine .inr ⟨a.block, a.off, ?_, hblt, RdE.mk (eBytes us) a.off (fun k u hk => ?_)⟩
        · obtain ⟨b, o, sp⟩ := a
          simp only at hsp
          subst hsp
          rfl
        · have hk2 : k < us.length := by rw [← hlenB]; exact (List.getElem?_eq_some_iff.1 hk).1
          have hk3 := gByte (List.getElem?_eq_getElem hk2)
          rw [hk] at hk3
          obtain rfl := Option.some.inj hk3
          obtain ⟨k1, _, _⟩ := hus k _ (List.getElem?_eq_getElem hk2)
          exact ⟨_, rfl, k1 hsp, by simp only [Rd]⟩
end Go.Proofs.Ytiaghdodeinecaa
