/- Ma7. Written by a program of mine (aw.py). -/
import Derived.Test.YtopgfacbgbmloaaFacts
import Derived.Test.YtopgfacbgbmloaaMa6
import Derived.Test.YtopgfacbgbmloaaEng50
set_option linter.unusedVariables false
set_option linter.unusedSimpArgs false
set_option linter.unusedSectionVars false
namespace Go.Proofs.Ytopgfacbgbmloaa
open Go Go.Eng
attribute [local irreducible] V VO VQ VY Quiet QR SpecP SpecO MSpec Rng PostP PostO PostG
/-! ### the law FnMeets -/
theorem shn_of {va : List (List UInt8)} {t : TType} {V : List (List UInt8)} (h : ∀ v ∈ va, v ∈ V) (hV : ∀ v ∈ V, v.length ≤ 100) : Shn va t := fun v _ hm => Nat.le_trans (hV v (h v hm)) (by omega)
/-- What the law asks of a pair. -/
def Goal (a b : TType) : Prop := ∃ v m, b_iUnifiable a b = some v ∧ b_sUnifiable a b = some v ∧ b_iUnifiable b a = some v ∧ b_iMatches a b = some m ∧ (m = true → v = true) ∧ b_iUnifiable a a = some true
theorem self_ok {a : TType} (na : tna a) (h : Fit a a) : b_iUnifiable a a = some true := by
  obtain ⟨v, h1, _, _, h4⟩ := verdict (instL (σ := []) na (out_nil a).symm h)
  rw [(unifiable h h1).1, h4 trivial]
theorem goal_inst {a b : TType} {σ : List TBinding} (na : tna a) (hb : b = apT σ a) (h1 : Fit a b) (h2 : Fit b a) (h3 : Fit a a) : Goal a b := by
  obtain ⟨v, e1, _, _, e4⟩ := verdict (instL na hb h1)
  obtain ⟨w, f1, _, _, f4⟩ := verdict (instR na hb h2)
  have hv := e4 trivial
  have hw := f4 trivial
  subst hv; subst hw
  have sa := h1.sa
  exact ⟨true, _, (unifiable h1 e1).1, (unifiable h1 e1).2, (unifiable h2 f1).1, iMatches_eq a b (by omega) h1.ob, fun _ => rfl, self_ok na h3⟩
theorem goal_small {a b : TType} {f g : List UInt8 → TType} (na : tna a) (nb : tna b) (e : apF f a = apF g b) (hs : tnd (apF f a) ≤ 2000) (h1 : Fit a b) (h2 : Fit b a) (h3 : Fit a a) : Goal a b := by
  obtain ⟨v, e1, rfl⟩ := small na nb h1 e hs
  obtain ⟨w, f1, rfl⟩ := small nb na h2 e.symm (by rw [← e]; exact hs)
  have sa := h1.sa
  exact ⟨true, _, (unifiable h1 e1).1, (unifiable h1 e1).2, (unifiable h2 f1).1, iMatches_eq a b (by omega) h1.ob, fun _ => rfl, self_ok na h3⟩
theorem match_meet {a b : TType} (na : tna a) (nb : tna b) (h : (mtT a b []).isSome = true) : Meet a b := by
  obtain ⟨l, hl⟩ := Option.isSome_iff_exists.1 h
  obtain ⟨_, _, h3⟩ := mtT_sound a b [] l na hl
  rw [apF_ap l a na] at h3
  exact ⟨_, vr, h3.trans (apF_vr b nb).symm⟩
theorem goal_free {a b : TType} (ha : Fr 3 a) (hb : Fr 3 b) (h1 : Fit a b) (h2 : Fit b a) (h3 : Fit a a) (ca : (varsT a []).length ≤ 2) (cb : (varsT b []).length ≤ 2) : Goal a b := by
  obtain ⟨v, e1, e2⟩ := freeV ha hb h1 ca cb
  obtain ⟨w, f1, f2⟩ := freeV hb ha h2 cb ca
  have hvw : v = w := by
    cases v with
    | true => exact (f2.2 (e2.1 rfl).symm).symm
    | false =>
      cases w with
      | false => rfl
      | true => exact e2.2 (f2.1 rfl).symm
  subst hvw
  have sa := h1.sa
  exact ⟨v, _, (unifiable h1 e1).1, (unifiable h1 e1).2, (unifiable h2 f1).1, iMatches_eq a b (by omega) h1.ob, fun hm => e2.2 (match_meet ha.tna hb.tna hm), self_ok ha.tna h3⟩
theorem fit_of {a b : TType} {Va Vb : List (List UInt8)} {M N : Nat} (ha : Dr Va M a) (hb : Dr Vb N b) (hM : M ≤ 1000) (hN : N ≤ 1000) (cA : Va.length ≤ 4) (cB : Vb.length ≤ 4) (hs : (∀ v ∈ Va, v.length ≤ 100) ∨ (∀ v ∈ Vb, v.length ≤ 100)) : Fit a b := by
  have s1 := ha.sz
  have s2 := hb.sz
  refine ⟨ha.ok, hb.ok, by omega, by omega, Nat.le_trans (vars_few ha.vs) cA, Nat.le_trans (vars_few hb.vs) cB, fun v hv hm => ?_⟩
  rcases hs with hs | hs
  · have := hs v (ha.vs v (varsT_sub a v hm)); omega
  · have := hs v (hb.vs v hv); omega
theorem apF_size {f : List UInt8 → TType} {M : Nat} (hM : 1 ≤ M) {t : TType} (ht : tna t) (h : ∀ v ∈ tvs t, tnd (f v) ≤ M) : tnd (apF f t) ≤ M * tnd t := by
  have e : apF f t = apT (lof f (tvs t)) t := (ap_lof f (tvs t) t ht (fun v hv => hv)).symm
  rw [e]
  refine apT_tnd (M := M) ⟨hM, fun b hb => ?_⟩ t
  obtain ⟨w, hw, rfl⟩ := List.mem_map.1 hb
  exact h w hw
mutual
theorem apF_comp (f g : List UInt8 → TType) : ∀ (t : TType), apF f (apF g t) = apF (fun v => apF f (g v)) t
  | ⟨k, n, ts⟩ => by
    simp only [apF]
    by_cases hk : k = 1
    · rw [if_pos hk, if_pos hk]
    · rw [if_neg hk, if_neg hk]
      simp only [apF, if_neg hk]
      rw [apFs_comp f g ts]
theorem apFs_comp (f g : List UInt8 → TType) : ∀ (ts : List TType), apFs f (apFs g ts) = apFs (fun v => apF f (g v)) ts
  | [] => rfl
  | a :: ts => by simp only [apFs, apF_comp f g a, apFs_comp f g ts]
end
theorem ap_sub {v w : List UInt8} {y : TType} : apT [⟨v, y⟩] (vr w) = if w = v then y else vr w := by
  by_cases e : w = v
  · rw [if_pos e]; exact ap_var rfl (by simpa [vr] using e)
  · rw [if_neg e]; exact ap_free (by simpa [dom] using e)
theorem two8_ok (code : List UInt8) (hc : curok (l1NewT code)) : ∃ a b, b_drawUnifiable code = some (a, b) ∧ Goal a b := by
  obtain ⟨a, c1, e1, e2, e3⟩ := free_ok _ hc 3 (by omega)
  obtain ⟨b, c2, f1, f2, f3⟩ := free_ok c1 e2 3 (by omega)
  obtain ⟨x, c3, g1, _, _, g4⟩ := below_ok c2 4 f2 (by omega) (by omega)
  have sha : Fr 3 a := free_shape (d := 3) (by omega) e1
  have shb : Fr 3 b := free_shape (d := 3) (by omega) f1
  have short2 : ∀ v ∈ ([[97], [98]] : List (List UInt8)), v.length ≤ 100 := by simp
  have fa : Fit a a := fit_of e3 e3 (by omega) (by omega) (by decide) (by decide) (.inl short2)
  unfold b_drawUnifiable b_l8Two
  simp only [lt_]
  have e1' : b_l4Free (l1NewT code) 3 = some (a, c1) := e1
  have f1' : b_l4Free c1 3 = some (b, c2) := f1
  rw [bnd_eq e1', bnd_eq f1', bnd_eq g1]
  cases (x == 0) with
  | true =>
    simp only [cnd_true]
    obtain ⟨l, c4, w, h1, _, h3⟩ := binds_ok c3 g4
    rw [bnd_eq h1, gd_eq ⟨h3.bok, e3.ok⟩]
    have ha : Dr ([[97], [98]] ++ [w]) 17 a := e3.more (fun v h => List.mem_append.2 (.inl h)) (Nat.le_refl _)
    have hd := ap_dr h3 ha
    exact ⟨a, apT l a, rfl, goal_inst sha.tna rfl (fit_of e3 hd (by omega) (by omega) (by decide) (by simp) (.inl short2)) (fit_of hd e3 (by omega) (by omega) (by simp) (by decide) (.inr short2)) fa⟩
  | false =>
    simp only [cnd_false]
    cases (x == 1) with
    | true =>
      simp only [cnd_true]
      have hV : ∀ v ∈ ([[97], [98], [99], [100]] : List (List UInt8)), v ∈ ([[97], [98], [99], [100]] : List (List UInt8)) := fun v h => h
      obtain ⟨t, c4, h1, h2, h3⟩ := ty_ok [[97], [98], [99], [100]] [[97], [98], [99], [100]] (by simp) (by simp) hV 8 3 (by omega) (by omega) c3 g4
      obtain ⟨t1, c5, i1, i2, i3⟩ := ty_ok [[98]] [[98]] (by simp) (by simp) (by simp) 8 1 (by omega) (by omega) c4 h2
      obtain ⟨t2, c6, j1, _, j3⟩ := ty_ok [[100]] [[100]] (by simp) (by simp) (by simp) 8 1 (by omega) (by omega) c5 i2
      have nt := (ty_shape 8 3 c3 _ t c4 (by omega) h1).tna
      have nt1 := (ty_shape 8 1 c4 _ t1 c5 (by omega) i1).tna
      have nt2 := (ty_shape 8 1 c5 _ t2 c6 (by omega) j1).tna
      have h1' : m_l4Ty 8 c3 [[97], [98], [99], [100]] 3 = some (t, c4) := h1
      have i1' : m_l4Ty 8 c4 [[98]] 1 = some (t1, c5) := i1
      have j1' : m_l4Ty 8 c5 [[100]] 1 = some (t2, c6) := j1
      have k1 : ∀ b ∈ [(⟨[97], t1⟩ : TBinding)], Dr [[97], [98], [99], [100]] 30 b.type_ := fun b hb => by simp at hb; subst hb; exact i3.more (by simp) (by decide)
      have k2 : ∀ b ∈ [(⟨[99], t2⟩ : TBinding)], Dr [[97], [98], [99], [100]] 30 b.type_ := fun b hb => by simp at hb; subst hb; exact j3.more (by simp) (by decide)
      rw [bnd_eq h1', bnd_eq i1', gd_eq ⟨fun b hb => (k1 b hb).ok, h3.ok⟩, bnd_eq j1', gd_eq ⟨fun b hb => (k2 b hb).ok, h3.ok⟩]
      have da := ap_dr k1 h3
      have db := ap_dr k2 h3
      have short4 : ∀ v ∈ ([[97], [98], [99], [100]] : List (List UInt8)), v.length ≤ 100 := by simp
      have n1 : tna (apT [⟨[97], t1⟩] t) := apT_tna (fun b hb => by simp at hb; subst hb; exact nt1) t nt
      have n2 : tna (apT [⟨[99], t2⟩] t) := apT_tna (fun b hb => by simp at hb; subst hb; exact nt2) t nt
      refine ⟨_, _, rfl, ?_⟩
      have e : apF (fun v => if v = [99] then t2 else vr v) (apT [⟨[97], t1⟩] t) = apF (fun v => if v = [97] then t1 else if v = [99] then t2 else vr v) t := by
        rw [apF_ap _ t nt, apF_comp]
        refine apF_congr t fun v _ => ?_
        rw [show (⟨1, v, []⟩ : TType) = vr v from rfl, ap_sub]
        by_cases hv : v = [97]
        · rw [if_pos hv, if_pos hv]
          have : apF (fun v => if v = [99] then t2 else vr v) t1 = apF vr t1 := apF_congr t1 fun w hw => by
            have := i3.vs w hw
            simp at this
            subst this
            rfl
          rw [this, apF_vr t1 nt1]
        · rw [if_neg hv, if_neg hv]
          simp [apF, vr]
      have e' : apF (fun v => if v = [97] then t1 else vr v) (apT [⟨[99], t2⟩] t) = apF (fun v => if v = [97] then t1 else if v = [99] then t2 else vr v) t := by
        rw [apF_ap _ t nt, apF_comp]
        refine apF_congr t fun v _ => ?_
        rw [show (⟨1, v, []⟩ : TType) = vr v from rfl, ap_sub]
        by_cases hv : v = [99]
        · rw [if_pos hv]
          have : apF (fun v => if v = [97] then t1 else vr v) t2 = apF vr t2 := apF_congr t2 fun w hw => by
            have := j3.vs w hw
            simp at this
            subst this
            rfl
          rw [this, apF_vr t2 nt2, if_neg (by rw [hv]; decide)]
        · rw [if_neg hv]
          by_cases hv2 : v = [97]
          · simp [apF, vr, hv2]
          · simp [apF, vr, hv, hv2]
      refine goal_small n1 n2 (e.trans e'.symm) ?_ (fit_of da db (by decide) (by decide) (by decide) (by decide) (.inl short4)) (fit_of db da (by decide) (by decide) (by decide) (by decide) (.inl short4)) (fit_of da da (by decide) (by decide) (by decide) (by decide) (.inl short4))
      rw [e]
      have sz := apF_size (M := 3) (f := fun v => if v = [97] then t1 else if v = [99] then t2 else vr v) (by omega) nt (fun v _ => by
        have s1 := i3.sz
        have s2 := j3.sz
        show tnd (if v = [97] then t1 else if v = [99] then t2 else vr v) ≤ 3
        split
        · exact s1
        · split
          · exact s2
          · simp [vr, tnd, tnds])
      have := h3.sz
      have h15 : 2 ^ (3 + 1) - 1 = 15 := by decide
      omega
    | false =>
      simp only [cnd_false]
      exact ⟨a, b, rfl, goal_free sha shb (fit_of e3 f3 (by omega) (by omega) (by decide) (by decide) (.inl short2)) (fit_of f3 e3 (by omega) (by omega) (by decide) (by decide) (.inl short2)) fa (vars_few e3.vs) (vars_few f3.vs)⟩
theorem FnMeets_eq (code : List UInt8) (h : code.length ≤ 1048576 → curok (l1NewT code)) : b_FnMeets code = some true := by
  unfold b_FnMeets b_big
  cases hb : decide ((code.length : Int) > 1048576) with
  | true => rfl
  | false =>
    have hb := of_decide_eq_false hb
    obtain ⟨a, b, e, v, m, g1, g2, g3, g4, g5, g6⟩ := two8_ok code (h (by omega))
    rw [cnd_false, bnd_eq e]
    dsimp only
    rw [bnd_eq g1, bnd_eq g2, beq_self_eq_true, cnd_true, bnd_eq g3, beq_self_eq_true, cnd_true, bnd_eq g4, g6]
    cases m with
    | false => rfl
    | true => rw [g5 rfl]; rfl

end Go.Proofs.Ytopgfacbgbmloaa
set_option linter.unusedVariables false
set_option linter.unusedSimpArgs false
namespace Go.Proofs.Ytopgfacbgbmloaa
open Go Go.Eng Go.RowKit
theorem bridgeB {H : Type} {enc : TypeId × Value → H} {P : Program} {w : World} {sp : Nat → Bool} {held : Bool} {T e : TypeId} {v : Value} {d : DataW H} {ps : List MemPlace} (hund : P.underlying T = some (.slice e)) (he : P.underlying e = some (.int .u8)) (hce : P.cellsOf e = 1) (hbe : 0 < P.bytesOf e)
    (h : DataW.Trod enc P w 0 sp held T v d ps) (hw : ∀ x ∈ d.weights P T, x ≤ reachBytes) (hna : ∀ cs, v ≠ .agg cs) : ∃ code : List UInt8, SVr (fun b => b < w.heap.size) [] [] w (.d (.sl 1 (eBytes code))) v := by
  obtain ⟨fuel, h⟩ := h
  have hc : v.cells = #[v] := by cases v <;> first | rfl | (exact absurd rfl (hna _))
  rw [hc] at h
  suffices hs : ∃ code : List UInt8, Rd (fun b => b < w.heap.size) w (.sl 1 (eBytes code)) [v] by
    obtain ⟨code, h1⟩ := hs
    refine ⟨code, ?_⟩
    simp only [SVr]
    exact ⟨[v], by simp [val, U.isSt], h1⟩
  have hlenB : ∀ l : List UInt8, (eBytes l).length = l.length := fun l => Enc.len l
  cases fuel with
  | zero => simp [DataW.trod] at h
  | succ fuel =>
    rcases DataW.trod_slice hund h with ⟨h0, hx⟩ | ⟨a, len, cap, elems, rest, n, hn, h0, hx, _, hlc, _, hel, hget, _, _⟩
    · simp at h0
      subst h0
      exact ⟨[], by simp only [Rd, eBytes]; exact ⟨by simp [big_eq], none, 0, rfl, .inl trivial⟩⟩
    · obtain rfl : fuel = n := by omega
      simp at h0
      subst h0
      simp only [Prod.mk.injEq] at hx
      obtain ⟨rfl, rfl⟩ := hx
      simp only [DataW.weights, hund] at hw
      have hlen : len ≤ big := by
        have h1 := hw _ (List.mem_cons_self)
        simp only [List.length_map] at h1
        refine reach_big (Nat.le_trans ?_ h1)
        rw [hel]
        calc len ≤ len * P.bytesOf e := Nat.le_mul_of_pos_right _ hbe
          _ ≤ (len + rest.length) * P.bytesOf e := Nat.mul_le_mul_right _ (by omega)
      have each : ∀ i, i < len → ∃ x : UInt8, (a.spot = none → At w a.block (a.off + i * 1) [.int .u8 (x.toNat : Int)]) ∧ (i = 0 → a.spot = none) ∧ a.block < w.heap.size := by
        intro i hi
        have h1 := hget i hi
        rw [List.getElem?_eq_getElem (by omega)] at h1
        cases hc : w.cells? 0 (a.add (i * P.cellsOf e)) (P.cellsOf e) with
        | none => rw [hc] at h1; simp at h1
        | some cs =>
          rw [hc] at h1
          simp only [Option.bind_some] at h1
          rw [hce] at hc
          obtain ⟨k1, k2, k3⟩ := cells_At (by omega) hc
          obtain ⟨m, rfl, _, hwf⟩ := DataW.trod_int he h1
          simp [Lit.wf, IntKind.min, IntKind.max, IntKind.bits, IntKind.signed] at hwf
          have hblk : (a.add (i * 1)).block = a.block := by unfold Addr.add; split <;> rfl
          refine ⟨UInt8.ofNat m.toNat, fun hsp => ?_, fun h0 => ?_, ?_⟩
          · have hoff : (a.add (i * 1)).off = a.off + i * 1 := by unfold Addr.add; split <;> simp_all
            rw [hblk, hoff] at k3
            have e1 : ((UInt8.ofNat m.toNat).toNat : Int) = m := by
              rw [UInt8.toNat_ofNat']
              omega
            rw [e1]
            exact k3
          · subst h0
            rw [Nat.zero_mul] at k2
            exact k2
          · rw [← hblk]; exact k3.lt
      obtain ⟨us, hul, hus⟩ := exists_list len each
      refine ⟨us, ?_⟩
      simp only [Rd]
      refine ⟨by rw [hlenB, hul]; exact hlen, some a, cap - len, by rw [hlenB, hul, Nat.add_sub_cancel' hlc], ?_⟩
      by_cases h0 : us = []
      · subst h0; exact .inl rfl
      · have hpos : 0 < len := by rw [← hul]; exact List.length_pos_iff.2 h0
        obtain ⟨u0, _, hsp, hblt⟩ := each 0 hpos
        have hsp := hsp rfl
        refine .inr ⟨a.block, a.off, ?_, hblt, RdE.mk (eBytes us) a.off (fun k u hk => ?_)⟩
        · obtain ⟨b, o, sp⟩ := a
          simp only at hsp
          subst hsp
          rfl
        · have hk2 : k < us.length := by rw [← hlenB]; exact (List.getElem?_eq_some_iff.1 hk).1
          have hk3 := gByte (List.getElem?_eq_getElem hk2)
          rw [hk] at hk3
          obtain rfl := Option.some.inj hk3
          obtain ⟨k1, _, _⟩ := hus k _ (List.getElem?_eq_getElem hk2)
          exact ⟨_, rfl, k1 hsp, by simp only [Rd]⟩
end Go.Proofs.Ytopgfacbgbmloaa
