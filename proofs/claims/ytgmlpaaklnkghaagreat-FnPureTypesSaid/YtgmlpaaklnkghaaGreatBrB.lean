/- Pv1. Written by a program of mine (aw.py). -/
import Derived.Test.YtgmlpaaklnkghaaGreatEng39
import Derived.Test.YtgmlpaaklnkghaaGreatPt5
import Derived.Test.YtgmlpaaklnkghaaGreatPv4
import Derived.Test.YtgmlpaaklnkghaaGreatEng51
set_option linter.unusedVariables false
set_option linter.unusedSimpArgs false
set_option linter.unusedSectionVars false
namespace Go.Proofs.YtgmlpaaklnkghaaGreat
open Go Go.Eng
attribute [local irreducible] V VO VQ VY Quiet QR SpecP SpecO Rng PostP PostO PostG
/-! ### texts of types, by hand: the two programs print the same -/
mutual
theorem tsz_small : ∀ (t : TType), tnd t ≤ 4294967297 → tsz t = tnd t
  | ⟨k, n, ts⟩, h => by
    simp only [tnd] at h
    simp only [tsz, tnd]
    rw [tszs_small ts 1 (by omega) (by omega)]
    omega
theorem tszs_small : ∀ (ts : List TType) (y : Int), 0 ≤ y → y + tnds ts ≤ 4294967297 → tszs ts y = y + tnds ts
  | [], y, _, _ => by simp [tszs, tnds]
  | a :: ts, y, h0, h => by
    simp only [tnds] at h
    simp only [tszs, tnds]
    rw [tsz_small a (by omega), wrap_small (by omega) (by omega), tszs_small ts _ (by omega) (by omega)]
    omega
end
theorem validType_eq (t : TType) (h : tnd t ≤ 4294967296) : b_sValidType t = some (b_iValidType t) := by
  unfold b_sValidType b_iValidType
  rw [gd_eq ⟨h, by decide, by decide⟩]
  have e : decide (l4left t 60 ≥ 0) = decide (tsz t ≤ 60) := by
    rw [tsz_small t (by omega)]
    unfold l4left lfts
    rw [if_pos (by decide)]
    by_cases h1 : tnd t ≤ 60
    · rw [decide_eq_true (by omega), decide_eq_true (by omega)]
    · rw [decide_eq_false (by omega), decide_eq_false (by omega)]
  simp only [lt_, e]
  generalize decide (tsz t ≤ 60) = p1
  generalize decide (tdp t ≤ 6) = p2
  generalize frm t = p3
  cases p1 <;> cases p2 <;> cases p3 <;> rfl
mutual
def snd : TSExpr → Nat
  | ⟨_, l⟩ => 1 + snds l
def snds : List TSExpr → Nat
  | [] => 0
  | a :: l => snd a + snds l
end
theorem snd_pos (x : TSExpr) : 1 ≤ snd x := by cases x; simp only [snd]; omega
theorem snd_mem {x : TSExpr} : ∀ {ts : List TSExpr}, x ∈ ts → snd x ≤ snds ts
  | [], h => by simp at h
  | a :: ts, h => by
    simp only [snds]
    rcases List.mem_cons.1 h with rfl | h
    · omega
    · have := snd_mem h
      omega
theorem snds_len : ∀ (ts : List TSExpr), ts.length ≤ snds ts
  | [] => by simp [snds]
  | a :: ts => by
    have := snds_len ts
    have := snd_pos a
    simp only [List.length_cons, snds]
    omega
theorem byte_all : ∀ n : Fin 256, b_iAtomByte ((UInt8.ofNat n.val).toNat : Int) = b_sByte ((UInt8.ofNat n.val).toNat : Int) := by decide +kernel
theorem byte_eq (x : UInt8) : b_iAtomByte (x.toNat : Int) = b_sByte (x.toNat : Int) := by
  have h := byte_all ⟨x.toNat, x.toNat_lt⟩
  simpa using h
def vat (s : List UInt8) : Bool := s.all (fun x => b_sByte (x.toNat : Int)) && (decide ((s.length : Int) ≥ 1) && decide ((s.length : Int) ≤ 12))
theorem iValidAtom_l1_eq (a : List UInt8) : ∀ (xs : List UInt8), b_iValidAtom_l1 a xs = (xs.all (fun x => b_sByte (x.toNat : Int)) && (decide ((a.length : Int) ≥ 1) && decide ((a.length : Int) ≤ 12)))
  | [] => by
    simp only [b_iValidAtom_l1, lt_, List.all_nil, Bool.true_and]
    generalize decide ((a.length : Int) ≥ 1) = p
    cases p <;> rfl
  | x :: xs => by
    simp only [b_iValidAtom_l1, byte_eq, List.all_cons, iValidAtom_l1_eq a xs]
    cases b_sByte (x.toNat : Int) <;> rfl
theorem sValidAtom_l1_eq (a : List UInt8) : ∀ (xs : List UInt8), b_sValidAtom_l1 a xs = (xs.all (fun x => b_sByte (x.toNat : Int)) && (decide ((a.length : Int) ≥ 1) && decide ((a.length : Int) ≤ 12)))
  | [] => by
    simp only [b_sValidAtom_l1, b_l1In, lt_, List.all_nil, Bool.true_and]
    generalize decide ((a.length : Int) ≥ 1) = p
    cases p <;> rfl
  | x :: xs => by
    simp only [b_sValidAtom_l1, List.all_cons, sValidAtom_l1_eq a xs]
    cases b_sByte (x.toNat : Int) <;> rfl
theorem iVat (s : List UInt8) : b_iValidAtom s = vat s := iValidAtom_l1_eq s s
theorem sVat (s : List UInt8) : b_sValidAtom s = vat s := sValidAtom_l1_eq s s
theorem IndexFuncX_l1_eq {p : TSExpr → Option Bool} {q : TSExpr → Bool} : ∀ (xs : List TSExpr) (k : Nat), (∀ x ∈ xs, p x = some (q x)) → ∃ i, b_IndexFuncX_l1 p xs k = some i ∧ decide (i ≥ 0) = xs.any q
  | [], k, _ => ⟨-1, rfl, rfl⟩
  | x :: xs, k, h => by
    simp only [b_IndexFuncX_l1, h x (by simp), bnd]
    cases hq : q x with
    | true => exact ⟨_, rfl, by simp [hq]⟩
    | false =>
      obtain ⟨i, h1, h2⟩ := IndexFuncX_l1_eq xs (k + 1) (fun z hz => h z (by simp [hz]))
      exact ⟨i, h1, by rw [h2]; simp [hq]⟩
theorem ContainsFuncX_eq {p : TSExpr → Option Bool} {q : TSExpr → Bool} (xs : List TSExpr) (h : ∀ x ∈ xs, p x = some (q x)) : b_ContainsFuncX xs p = some (xs.any q) := by
  obtain ⟨i, h1, h2⟩ := IndexFuncX_l1_eq xs 0 h
  unfold b_ContainsFuncX b_IndexFuncX
  rw [h1, ← h2]
  rfl
mutual
def sxf : TSExpr → Bool
  | ⟨a, l⟩ => cnd (!(a == [])) (cnd (vat a) ((l.length : Int) == 0) false) (sxfs l)
def sxfs : List TSExpr → Bool
  | [] => true
  | a :: l => sxf a && sxfs l
end
theorem sxfs_any : ∀ (ts : List TSExpr), ts.any (fun x => !sxf x) = !sxfs ts
  | [] => rfl
  | a :: ts => by simp only [List.any_cons, sxfs, sxfs_any ts, Bool.not_and]
theorem iAtoms_eq : ∀ (n : Nat), (∀ t : TSExpr, 2 * snd t ≤ n → m_iAtoms n t = some (sxf t)) ∧ (∀ t : TSExpr, 2 * snd t + 1 ≤ n → m_iAtoms1 n t = some (!sxf t))
  | 0 => ⟨fun t h => by have := snd_pos t; omega, fun t h => by omega⟩
  | n + 1 => by
    obtain ⟨h1, h2⟩ := iAtoms_eq n
    refine ⟨fun t hn => ?_, fun t hn => ?_⟩
    · obtain ⟨s, ts⟩ := t
      simp only [snd] at hn
      have hc := ContainsFuncX_eq (p := m_iAtoms1 n) (q := fun x => !sxf x) ts (fun x hx => h2 x (by have := snd_mem hx; omega))
      rw [sxfs_any] at hc
      simp only [m_iAtoms, b_iAtoms, sxf, hc, iVat, lt_, bnd, Bool.not_not]
      generalize vat s = p1
      generalize ((ts.length : Int) == 0) = p3
      generalize sxfs ts = p6
      cases s == [] <;> cases p1 <;> cases p3 <;> cases p6 <;> rfl
    · simp only [m_iAtoms1, b_iAtoms1, h1 t (by omega), bnd]
theorem l2Form_l1_eq {rec : TSExpr → Option Bool} : ∀ (xs : List TSExpr), (∀ x ∈ xs, rec x = some (sxf x)) → b_l2Form_l1 rec xs = some (sxfs xs)
  | [], _ => rfl
  | x :: xs, h => by
    simp only [b_l2Form_l1, h x (by simp), bnd, sxfs]
    cases sxf x with
    | false => rfl
    | true => simp only [Bool.not_true, cnd_false, Bool.true_and]; exact l2Form_l1_eq xs (fun z hz => h z (by simp [hz]))
theorem l2Form_eq : ∀ (n : Nat) (t : TSExpr), snd t ≤ n → m_l2Form n t = some (sxf t)
  | 0, t, h => by have := snd_pos t; omega
  | n + 1, ⟨s, ts⟩, h => by
    simp only [snd] at h
    simp only [m_l2Form, b_l2Form, sxf, sVat, lt_]
    rw [l2Form_l1_eq ts (fun x hx => l2Form_eq n x (by have := snd_mem hx; omega))]
    cases s == [] <;> rfl
mutual
def sxd : TSExpr → Int
  | ⟨a, l⟩ => cnd (!(a == [])) 0 (sxds l 0)
def sxds : List TSExpr → Int → Int
  | [], y => IntKind.i64.wrap (y + 1)
  | a :: l, y => sxds l (if y < sxd a then sxd a else y)
end
theorem iXDepth_l1_eq {rec : TSExpr → Option Int} : ∀ (xs : List TSExpr) (y : Int), (∀ x ∈ xs, rec x = some (sxd x)) → b_iXDepth_l1 rec xs y = some (sxds xs y)
  | [], y, _ => rfl
  | x :: xs, y, h => by
    simp only [b_iXDepth_l1, h x (by simp), bnd, sxds]
    exact iXDepth_l1_eq xs _ (fun z hz => h z (by simp [hz]))
theorem iXDepth_eq : ∀ (n : Nat) (t : TSExpr), snd t ≤ n → m_iXDepth n t = some (sxd t)
  | 0, t, h => by have := snd_pos t; omega
  | n + 1, ⟨s, ts⟩, h => by
    simp only [snd] at h
    simp only [m_iXDepth, b_iXDepth, sxd]
    rw [iXDepth_l1_eq ts 0 (fun x hx => iXDepth_eq n x (by have := snd_mem hx; omega))]
    cases s == [] <;> rfl
theorem sXDepth_l1_eq {rec : TSExpr → Option Int} : ∀ (xs : List TSExpr) (y : Int), (∀ x ∈ xs, rec x = some (sxd x)) → b_sXDepth_l1 rec xs y = some (sxds xs y)
  | [], y, _ => rfl
  | x :: xs, y, h => by
    simp only [b_sXDepth_l1, h x (by simp), bnd, sxds, l1Max_eq]
    exact sXDepth_l1_eq xs _ (fun z hz => h z (by simp [hz]))
theorem sXDepth_eq : ∀ (n : Nat) (t : TSExpr), snd t ≤ n → m_sXDepth n t = some (sxd t)
  | 0, t, h => by have := snd_pos t; omega
  | n + 1, ⟨s, ts⟩, h => by
    simp only [snd] at h
    simp only [m_sXDepth, b_sXDepth, sxd]
    rw [sXDepth_l1_eq ts 0 (fun x hx => sXDepth_eq n x (by have := snd_mem hx; omega))]
    cases s == [] <;> rfl
theorem iXSize_l1_eq {rec : TSExpr → Option Int} : ∀ (xs : List TSExpr) (y : Int), (∀ x ∈ xs, rec x = some (snd x : Int)) → 0 ≤ y → y + snds xs ≤ 4294967296 → b_iXSize_l1 rec xs y = some (y + snds xs)
  | [], y, _, _, _ => by simp [b_iXSize_l1, snds]
  | x :: xs, y, h, h0, h1 => by
    simp only [snds] at h1
    simp only [b_iXSize_l1, h x (by simp), bnd, snds]
    rw [wrap_small (by omega) (by omega), iXSize_l1_eq xs _ (fun z hz => h z (by simp [hz])) (by omega) (by omega)]
    congr 1
    omega
theorem iXSize_eq : ∀ (n : Nat) (t : TSExpr), snd t ≤ n → snd t ≤ 4294967296 → m_iXSize n t = some (snd t : Int)
  | 0, t, h, _ => by have := snd_pos t; omega
  | n + 1, ⟨s, ts⟩, h, hb => by
    simp only [snd] at h hb
    simp only [m_iXSize, b_iXSize, snd]
    rw [iXSize_l1_eq ts 1 (fun x hx => iXSize_eq n x (by have := snd_mem hx; omega) (by have := snd_mem hx; omega)) (by omega) (by omega)]
    congr 1
theorem l2Left_l1_eq {rec : TSExpr → Int → Option Int} (t : TSExpr) (ht : t.list.length ≤ 4294967296) : ∀ (f k : Nat) (y : Int), -1 ≤ y → y ≤ 4294967296 → (∀ x ∈ t.list.drop k, ∀ y : Int, 0 ≤ y → y ≤ 4294967296 → rec x y = some (lfts y (snd x))) → t.list.length < k + f → k ≤ t.list.length →
    b_l2Left_l1 rec t f y (k : Int) = some (lfts y (snds (t.list.drop k)))
  | 0, k, y, _, _, _, h1, h2 => by omega
  | f + 1, k, y, hy0, hy1, h, h1, h2 => by
    simp only [b_l2Left_l1, lt_]
    by_cases hk : k < t.list.length
    · have e1 : decide ((k : Int) < (t.list.length : Int)) = true := by simp; exact hk
      rw [e1, cnd_true, at_nat, List.getElem?_eq_getElem hk]
      by_cases hy : 0 ≤ y
      · have e2 : decide (y ≥ 0) = true := by simpa using hy
        have hd := List.drop_eq_getElem_cons hk
        have hm : t.list[k] ∈ t.list.drop k := by rw [hd]; exact List.mem_cons_self
        rw [e2, cnd_true]
        simp only [bnd]
        rw [h _ hm y hy hy1]
        simp only []
        have e3 : IntKind.i64.wrap ((k : Int) + 1) = ((k + 1 : Nat) : Int) := by rw [wrap_small (by omega) (by omega)]; omega
        have hr : -1 ≤ lfts y (snd t.list[k]) ∧ lfts y (snd t.list[k]) ≤ y := by
          unfold lfts
          rw [if_pos hy]
          omega
        rw [e3, l2Left_l1_eq t ht f (k + 1) _ hr.1 (by omega) (fun x hx => h x (by rw [hd]; exact List.mem_cons_of_mem _ hx)) (by omega) (by omega), hd]
        simp only [snds]
        rw [lfts_add]
      · have e2 : decide (y ≥ 0) = false := by simp; omega
        rw [e2, cnd_false]
        simp only [lfts, if_neg hy]
    · have e1 : decide ((k : Int) < (t.list.length : Int)) = false := by simp; omega
      rw [e1, cnd_false, cnd_false, List.drop_eq_nil_of_le (by omega)]
      simp only [snds, lfts]
      split <;> simp <;> omega
theorem l2Left_eq : ∀ (n : Nat) (t : TSExpr) (y : Int), snd t + 1 ≤ n → snd t ≤ 4294967296 → 0 ≤ y → y ≤ 4294967296 → m_l2Left n t y = some (lfts y (snd t))
  | 0, t, y, h, _, _, _ => by omega
  | n + 1, ⟨s, ts⟩, y, h, hb, hy0, hy1 => by
    have hl := snds_len ts
    simp only [snd] at h hb
    simp only [m_l2Left, b_l2Left]
    rw [wrap_small (by omega) (by omega)]
    have := l2Left_l1_eq (rec := m_l2Left n) ⟨s, ts⟩ (by simp only []; omega) n 0 (y - 1) (by omega) (by omega) (fun x hx y hy hy' => by
      have := snd_mem (ts := ts) (x := x) (by simpa using hx)
      exact l2Left_eq n x y (by omega) (by omega) hy hy') (by simp only []; omega) (by simp)
    simp only [List.drop_zero, Int.natCast_zero] at this
    rw [this]
    simp only [lfts, snd]
    rw [if_pos hy0]
    split <;> simp <;> omega
def vx (x : TSExpr) : Bool := sxf x && (decide (sxd x ≤ 14) && decide (snd x ≤ 900))
theorem iValidX_eq (x : TSExpr) (h : snd x ≤ 2000) : b_iValidX x = some (vx x) := by
  unfold b_iValidX vx
  rw [(iAtoms_eq 5000).1 x (by omega), iXDepth_eq 5000 x (by omega), iXSize_eq 5000 x (by omega) (by omega)]
  simp only [bnd]
  have e : decide ((snd x : Int) ≤ 900) = decide (snd x ≤ 900) := decide_eq_decide.2 (by omega)
  rw [e]
  generalize decide (snd x ≤ 900) = p1
  generalize decide (sxd x ≤ 14) = p2
  generalize sxf x = p3
  cases p1 <;> cases p2 <;> cases p3 <;> rfl
theorem sValidX_eq (x : TSExpr) (h : snd x ≤ 2000) : b_sValidX x = some (vx x) := by
  unfold b_sValidX vx
  rw [l2Left_eq 5000 x 900 (by omega) (by omega) (by decide) (by decide), l2Form_eq 5000 x (by omega), sXDepth_eq 5000 x (by omega)]
  simp only [bnd]
  have e : decide (lfts 900 (snd x) ≥ 0) = decide (snd x ≤ 900) := by
    unfold lfts
    rw [if_pos (by decide)]
    exact decide_eq_decide.2 (by omega)
  rw [e]
  generalize decide (snd x ≤ 900) = p1
  generalize decide (sxd x ≤ 14) = p2
  generalize sxf x = p3
  cases p1 <;> cases p2 <;> cases p3 <;> rfl
end Go.Proofs.YtgmlpaaklnkghaaGreat
set_option linter.unusedVariables false
set_option linter.unusedSimpArgs false
set_option linter.unusedSectionVars false
namespace Go.Proofs.YtgmlpaaklnkghaaGreat
open Go Go.Eng
attribute [local irreducible] V VO VQ VY Quiet QR SpecP SpecO Rng PostP PostO PostG
/-! the text of an expression -/
mutual
def wtx : TSExpr → List UInt8
  | ⟨a, l⟩ => cnd (!(a == [])) a ([40] ++ wtxs l 0 ++ [41])
def wtxs : List TSExpr → Nat → List UInt8
  | [], _ => []
  | x :: l, k => cnd (decide ((k : Int) > 0)) [32] [] ++ wtx x ++ wtxs l (k + 1)
end
mutual
theorem wtx_len : ∀ (x : TSExpr), sxf x = true → (wtx x).length + 1 ≤ 15 * snd x
  | ⟨a, l⟩, h => by
    simp only [sxf] at h
    simp only [wtx, snd]
    cases ha : a == [] with
    | false =>
      simp only [ha, Bool.not_false, cnd_true] at h ⊢
      have hv : vat a = true := by
        cases hv : vat a with
        | true => rfl
        | false => rw [hv] at h; exact absurd h (by simp [cnd])
      unfold vat at hv
      simp only [Bool.and_eq_true, decide_eq_true_eq] at hv
      omega
    | true =>
      simp only [ha, Bool.not_true, cnd_false] at h ⊢
      have := wtxs_len l 0 h
      simp only [List.length_append, List.length_singleton]
      omega
theorem wtxs_len : ∀ (l : List TSExpr) (k : Nat), sxfs l = true → (wtxs l k).length ≤ 15 * snds l
  | [], k, _ => by simp [wtxs]
  | x :: l, k, h => by
    simp only [sxfs, Bool.and_eq_true] at h
    have h1 := wtx_len x h.1
    have h2 := wtxs_len l (k + 1) h.2
    simp only [wtxs, snds, List.length_append]
    have h3 : (cnd (decide ((k : Int) > 0)) [32] [] : List UInt8).length ≤ 1 := by cases decide ((k : Int) > 0) <;> simp [cnd]
    omega
end
theorem iWrite_l1_eq {rec : List UInt8 → TSExpr → Option (List UInt8)} : ∀ (xs : List TSExpr) (k : Nat) (y : List UInt8), (∀ x ∈ xs, ∀ b : List UInt8, b.length + (wtx x).length ≤ 4294967296 → rec b x = some (b ++ wtx x)) → y.length + (wtxs xs k).length + 1 ≤ 4294967296 → b_iWrite_l1 rec xs k y = some (y ++ wtxs xs k ++ [41])
  | [], k, y, _, h => by
    simp only [wtxs, List.length_nil] at h
    simp only [b_iWrite_l1, wtxs]
    rw [gd_eq (by omega)]
    simp
  | x :: xs, k, y, h, hl => by
    simp only [wtxs, List.length_append] at hl
    simp only [b_iWrite_l1, wtxs]
    cases hk : decide ((k : Int) > 0) with
    | true =>
      rw [hk] at hl
      simp only [cnd_true, List.length_singleton] at hl ⊢
      rw [gd_eq (by omega), h x (by simp) _ (by simp; omega)]
      simp only [bnd]
      rw [iWrite_l1_eq xs (k + 1) _ (fun z hz => h z (by simp [hz])) (by simp; omega)]
      simp
    | false =>
      rw [hk] at hl
      simp only [cnd_false, List.length_nil] at hl ⊢
      rw [h x (by simp) _ (by omega)]
      simp only [bnd]
      rw [iWrite_l1_eq xs (k + 1) _ (fun z hz => h z (by simp [hz])) (by simp; omega)]
      simp
theorem iWrite_eq : ∀ (n : Nat) (b : List UInt8) (x : TSExpr), snd x ≤ n → b.length + (wtx x).length ≤ 4294967296 → m_iWrite n b x = some (b ++ wtx x)
  | 0, b, x, h, _ => by have := snd_pos x; omega
  | n + 1, b, ⟨a, l⟩, h, hl => by
    simp only [snd] at h
    simp only [wtx] at hl
    simp only [m_iWrite, b_iWrite, wtx]
    cases ha : a == [] with
    | false =>
      simp only [ha, Bool.not_false, cnd_true] at hl ⊢
      rw [gd_eq hl]
    | true =>
      simp only [ha, Bool.not_true, cnd_false, List.length_append, List.length_singleton] at hl ⊢
      rw [gd_eq (by omega), iWrite_l1_eq l 0 _ (fun x hx b hb => iWrite_eq n b x (by have := snd_mem hx; omega) hb) (by simp; omega)]
      simp
def jn : List (List UInt8) → Nat → List UInt8
  | [], _ => []
  | x :: l, k => cnd (decide ((k : Int) > 0)) [32] [] ++ x ++ jn l (k + 1)
theorem wtxs_jn : ∀ (l : List TSExpr) (k : Nat), jn (l.map wtx) k = wtxs l k
  | [], _ => by simp [jn, wtxs]
  | x :: l, k => by simp only [List.map_cons, jn, wtxs, wtxs_jn l]
theorem sJoin_l1_eq : ∀ (xs : List (List UInt8)) (k : Nat) (y : List UInt8), y.length + (jn xs k).length ≤ 4294967296 → b_sJoin_l1 [32] xs k y = some (y ++ jn xs k)
  | [], k, y, _ => by simp [b_sJoin_l1, jn]
  | x :: xs, k, y, hl => by
    simp only [jn, List.length_append] at hl
    simp only [b_sJoin_l1, jn]
    cases hk : decide ((k : Int) > 0) with
    | true =>
      rw [hk] at hl
      simp only [cnd_true, List.length_singleton] at hl ⊢
      rw [gd_eq (by omega), gd_eq (by simp; omega), sJoin_l1_eq xs (k + 1) _ (by simp; omega)]
      simp
    | false =>
      rw [hk] at hl
      simp only [cnd_false, List.length_nil] at hl ⊢
      rw [gd_eq (by omega), sJoin_l1_eq xs (k + 1) _ (by simp; omega)]
      simp
theorem sText_l1_eq {rec : TSExpr → Option (List UInt8)} : ∀ (xs ys : List TSExpr), (∀ x ∈ xs, rec x = some (wtx x)) → ys.length + xs.length ≤ 4294967296 → (wtxs (ys ++ xs) 0).length + 2 ≤ 4294967296 → b_sText_l1 rec xs (ys.map wtx) = some ([40] ++ wtxs (ys ++ xs) 0 ++ [41])
  | [], ys, _, _, h2 => by
    rw [List.append_nil] at h2 ⊢
    simp only [b_sText_l1, b_sJoin]
    rw [sJoin_l1_eq _ 0 [] (by rw [wtxs_jn]; simp; omega), wtxs_jn]
    simp only [bnd, List.nil_append]
    rw [gd_eq (by simp; omega), gd_eq (by simp; omega)]
  | x :: xs, ys, h, h1, h2 => by
    simp only [List.length_cons] at h1
    simp only [b_sText_l1, h x (by simp), bnd]
    rw [gd_eq (by simp; omega)]
    have e : ys.map wtx ++ [wtx x] = (ys ++ [x]).map wtx := by simp
    rw [e, sText_l1_eq xs (ys ++ [x]) (fun z hz => h z (by simp [hz])) (by simp; omega) (by simpa using h2)]
    simp
theorem sText_eq : ∀ (n : Nat) (x : TSExpr), snd x ≤ n → sxf x = true → snd x ≤ 1000 → m_sText n x = some (wtx x)
  | 0, x, h, _, _ => by have := snd_pos x; omega
  | n + 1, ⟨a, l⟩, h, hf, hb => by
    have hl := wtx_len ⟨a, l⟩ hf
    simp only [snd] at h hb hl
    simp only [wtx] at hl
    simp only [sxf] at hf
    simp only [m_sText, b_sText, wtx]
    cases ha : a == [] with
    | false => simp only [ha, Bool.not_false, cnd_true]
    | true =>
      simp only [ha, Bool.not_true, cnd_false, List.length_append, List.length_singleton] at hl hf ⊢
      have hm : ∀ x ∈ l, sxf x = true := by
        intro x hx
        have e := sxfs_any l
        rw [hf, Bool.not_true, List.any_eq_false] at e
        simpa using e x hx
      have := snds_len l
      have h3 := sText_l1_eq (rec := m_sText n) l [] (fun x hx => sText_eq n x (by have := snd_mem hx; omega) (hm x hx) (by have := snd_mem hx; omega)) (by simp; omega) (by simp; omega)
      simpa using h3
theorem wtx_ne (x : TSExpr) : wtx x ≠ [] := by
  obtain ⟨a, l⟩ := x
  simp only [wtx]
  cases ha : a == [] with
  | false =>
    simp only [Bool.not_false, cnd_true]
    intro h
    rw [h] at ha
    exact absurd ha (by decide)
  | true => simp [cnd]
theorem fmtX (x : TSExpr) (h : snd x ≤ 1000) : ∃ s, b_iFormatX x = some s ∧ b_sFormatX x = some s ∧ s.length ≤ 15000 := by
  unfold b_iFormatX b_sFormatX
  rw [iValidX_eq x (by omega), sValidX_eq x (by omega)]
  simp only [bnd]
  cases hv : vx x with
  | false => exact ⟨[], rfl, rfl, by simp⟩
  | true =>
    simp only [Bool.not_true, cnd_false]
    have hf : sxf x = true := by
      unfold vx at hv
      simp only [Bool.and_eq_true] at hv
      exact hv.1
    have hl := wtx_len x hf
    refine ⟨wtx x, ?_, ?_, by omega⟩
    · rw [iWrite_eq 5000 [] x (by omega) (by simp; omega)]
      simp only [List.nil_append]
      rw [gd_eq ⟨wtx_ne x, by omega⟩]
    · rw [sText_eq 5000 x (by omega) hf h]
/-! what is printed of a type -/
mutual
def encX : TType → TSExpr
  | ⟨k, n, ts⟩ => cnd (k == 1) ⟨39 :: n, []⟩ (cnd (k == 4) ⟨[], [⟨[100, 121, 110], []⟩, ⟨n, []⟩]⟩ (cnd (k == 3) ⟨[], ⟨[97, 115, 115, 111, 99], []⟩ :: ⟨n, []⟩ :: encXs ts⟩ (cnd ((ts.length : Int) == 0) ⟨n, []⟩ ⟨[], ⟨n, []⟩ :: encXs ts⟩)))
def encXs : List TType → List TSExpr
  | [] => []
  | a :: ts => encX a :: encXs ts
end
theorem encXs_len : ∀ (ts : List TType), (encXs ts).length = ts.length
  | [] => rfl
  | a :: ts => by simp only [encXs, List.length_cons, encXs_len ts]
mutual
theorem encX_snd : ∀ (t : TType), snd (encX t) ≤ 3 * tnd t
  | ⟨k, n, ts⟩ => by
    have h := encXs_snd ts
    simp only [encX, tnd]
    cases k == 1 <;> cases k == 4 <;> cases k == 3 <;> cases ((ts.length : Int) == 0) <;> simp only [cnd_true, cnd_false, snd, snds] <;> omega
theorem encXs_snd : ∀ (ts : List TType), snds (encXs ts) ≤ 3 * tnds ts
  | [] => by simp [encXs, snds]
  | a :: ts => by
    have h1 := encX_snd a
    have h2 := encXs_snd ts
    simp only [encXs, snds, tnds]
    omega
end
theorem iEncs_l1_eq {rec : TType → Option TSExpr} : ∀ (xs : List TType) (y : List TSExpr), (∀ x ∈ xs, rec x = some (encX x)) → y.length + xs.length ≤ 4294967296 → b_iEncs_l1 rec xs y = some (y ++ encXs xs)
  | [], y, _, _ => by simp [b_iEncs_l1, encXs]
  | x :: xs, y, h, hl => by
    simp only [List.length_cons] at hl
    simp only [b_iEncs_l1, h x (by simp), bnd, encXs]
    rw [gd_eq (by simp; omega), iEncs_l1_eq xs _ (fun z hz => h z (by simp [hz])) (by simp; omega)]
    simp
theorem sEnc_l1_eq {rec : TType → Option TSExpr} : ∀ (xs : List TType) (y : List TSExpr), (∀ x ∈ xs, rec x = some (encX x)) → y.length + xs.length ≤ 4294967296 → b_sEnc_l1 rec xs y = some ⟨[], y ++ encXs xs⟩
  | [], y, _, _ => by simp [b_sEnc_l1, encXs]
  | x :: xs, y, h, hl => by
    simp only [List.length_cons] at hl
    simp only [b_sEnc_l1, h x (by simp), bnd, encXs]
    rw [gd_eq (by simp; omega), sEnc_l1_eq xs _ (fun z hz => h z (by simp [hz])) (by simp; omega)]
    simp
theorem sEnc_l2_eq {rec : TType → Option TSExpr} : ∀ (xs : List TType) (y : List TSExpr), (∀ x ∈ xs, rec x = some (encX x)) → y.length + xs.length ≤ 4294967296 → b_sEnc_l2 rec xs y = some ⟨[], y ++ encXs xs⟩
  | [], y, _, _ => by simp [b_sEnc_l2, encXs]
  | x :: xs, y, h, hl => by
    simp only [List.length_cons] at hl
    simp only [b_sEnc_l2, h x (by simp), bnd, encXs]
    rw [gd_eq (by simp; omega), sEnc_l2_eq xs _ (fun z hz => h z (by simp [hz])) (by simp; omega)]
    simp
theorem vname_len {s : List UInt8} (h : b_iValidName s = true) : s.length ≤ 8 := by
  unfold b_iValidName at h
  rw [iValidName_l1_eq, Bool.and_eq_true] at h
  have h2 := h.2
  simp only [b_iValidName_l1, lt_] at h2
  cases e1 : decide ((s.length : Int) ≥ 1) with
  | false => rw [e1] at h2; exact absurd h2 (by simp [cnd])
  | true =>
    cases e2 : decide ((s.length : Int) ≤ 8) with
    | false => rw [e1, e2] at h2; exact absurd h2 (by simp [cnd])
    | true =>
      have := of_decide_eq_true e2
      omega
theorem frm_hd {k : Int} {n : List UInt8} {ts : List TType} (h : frm ⟨k, n, ts⟩ = true) : frms ts = true ∧ (k = 1 ∧ n.length ≤ 8 ∨ k = 4 ∨ (k = 3 ∧ ts.length = 1) ∨ k = 2) := by
  simp only [frm, hdB, Bool.and_eq_true] at h
  refine ⟨h.2, ?_⟩
  have h1 := h.1
  by_cases e1 : k = 1
  · subst e1
    simp only [beq_self_eq_true, cnd_true, Bool.and_eq_true] at h1
    exact .inl ⟨rfl, vname_len h1.1⟩
  by_cases e4 : k = 4
  · exact .inr (.inl e4)
  have b1 : (k == 1) = false := by simpa using e1
  have b4 : (k == 4) = false := by simpa using e4
  rw [b1, b4] at h1
  simp only [cnd_false] at h1
  by_cases e3 : k = 3
  · subst e3
    refine .inr (.inr (.inl ⟨rfl, ?_⟩))
    simp only [beq_self_eq_true, cnd_true, Bool.and_eq_true, beq_iff_eq] at h1
    omega
  have b3 : (k == 3) = false := by simpa using e3
  rw [b3] at h1
  simp only [cnd_false] at h1
  by_cases e2 : k = 2
  · exact .inr (.inr (.inr e2))
  have b2 : (k == 2) = false := by simpa using e2
  rw [b2] at h1
  exact absurd h1 (by simp [cnd])
theorem frms_mem {x : TType} : ∀ {ts : List TType}, frms ts = true → x ∈ ts → frm x = true
  | [], _, h => by simp at h
  | a :: ts, hf, h => by
    simp only [frms, Bool.and_eq_true] at hf
    rcases List.mem_cons.1 h with rfl | h
    · exact hf.1
    · exact frms_mem hf.2 h
theorem cons_len {n : List UInt8} (h : n.length ≤ 8) : ([39] : List UInt8).length + n.length ≤ 4294967296 := by simp; omega
theorem sEnc_eq : ∀ (n : Nat) (t : TType), tnd t ≤ n → tnd t ≤ 1000 → frm t = true  → m_sEnc n t = some (encX t)
  | 0, t, h, _, _ => by have := tnd_pos t; omega
  | n + 1, ⟨k, s, ts⟩, h, hb, hf => by
    obtain ⟨hfs, hk⟩ := frm_hd hf
    simp only [tnd] at h hb
    have hlen := tnds_len ts
    have hm : ∀ x ∈ ts, m_sEnc n x = some (encX x) := fun x hx => sEnc_eq n x (by have := tnd_mem hx; omega) (by have := tnd_mem hx; omega) (frms_mem hfs hx)
    have a1 := sEnc_l1_eq (rec := m_sEnc n) ts [⟨[97, 115, 115, 111, 99], []⟩, ⟨s, []⟩] hm (by simp; omega)
    have a2 := sEnc_l2_eq (rec := m_sEnc n) ts [⟨s, []⟩] hm (by simp; omega)
    simp only [m_sEnc, b_sEnc, encX, b_sAtom, b_sList, lt_]
    simp only [List.nil_append, List.length_nil, List.length_cons, List.length_append]
    simp only [gd_eq (show (0 : Nat) + 1 ≤ 4294967296 by decide), gd_eq (show (0 + 1 : Nat) + (0 + 1) ≤ 4294967296 by decide), gd_eq (show (0 : Nat) + (0 + 1) ≤ 4294967296 by decide), gd_eq (show (0 : Nat) + (0 + 1 + 1) ≤ 4294967296 by decide)]
    simp only [List.cons_append, List.nil_append] at a1 a2 ⊢
    rw [a1, a2]
    rcases hk with ⟨rfl, hs⟩ | rfl | ⟨rfl, hl⟩ | rfl
    · rw [gd_eq (by omega)]
      rfl
    · rfl
    · rfl
    · cases ((ts.length : Int) == 0) <;> rfl
theorem iEnc_eq : ∀ (n : Nat), (∀ t : TType, 2 * tnd t ≤ n → tnd t ≤ 1000 → frm t = true  → m_iEnc n t = some (encX t)) ∧ (∀ ts : List TType, 2 * tnds ts + 1 ≤ n → tnds ts ≤ 1000 → frms ts = true  → m_iEncs n ts = some (encXs ts))
  | 0 => ⟨fun t h => by have := tnd_pos t; omega, fun t h => by omega⟩
  | n + 1 => by
    obtain ⟨h1, h2⟩ := iEnc_eq n
    refine ⟨fun t h hb hf => ?_, fun ts h hb hf => ?_⟩
    · obtain ⟨k, s, ts⟩ := t
      obtain ⟨hfs, hk⟩ := frm_hd hf
      simp only [tnd] at h hb
      have hlen := tnds_len ts
      have hel := encXs_len ts
      simp only [m_iEnc, b_iEnc, encX, b_iAtom, b_iList, lt_]
      rcases hk with ⟨rfl, hs⟩ | rfl | ⟨rfl, hl⟩ | rfl
      · rw [gd_eq (cons_len hs)]
        rfl
      · rfl
      · match ts, hl with
        | [x], _ =>
          have hx := h1 x (by simp only [tnds] at h; omega) (by simp only [tnds] at hb; omega) (frms_mem hfs (by simp))
          have e0 : at? [x] 0 = some x := rfl
          rw [e0]
          simp only [bnd, hx]
          rfl
      · rw [h2 ts (by omega) (by omega) hfs]
        simp only [bnd, show ((2 : Int) == 1) = false from rfl, show ((2 : Int) == 4) = false from rfl, show ((2 : Int) == 3) = false from rfl, cnd_false]
        rw [gd_eq (by simp; omega)]
        cases ((ts.length : Int) == 0) <;> rfl
    · simp only [m_iEncs, b_iEncs]
      have hlen := tnds_len ts
      have h3 := iEncs_l1_eq (rec := m_iEnc n) ts [] (fun x hx => h1 x (by have := tnd_mem hx; omega) (by have := tnd_mem hx; omega) (frms_mem hf hx)) (by simp; omega)
      simpa using h3
theorem fmt_eq (t : TType) (h : tnd t ≤ 4294967296) : ∃ s, b_iFormatT t = some s ∧ b_sFormatT t = some s ∧ s.length ≤ 15000 := by
  unfold b_iFormatT b_sFormatT
  rw [validType_eq t h]
  simp only [bnd]
  cases hv : b_iValidType t with
  | false => exact ⟨[], rfl, rfl, by simp⟩
  | true =>
    simp only [Bool.not_true, cnd_false]
    unfold b_iValidType at hv
    simp only [lt_] at hv
    have hf : frm t = true ∧ tsz t ≤ 60 := by
      cases e1 : frm t with
      | false => rw [e1] at hv; exact absurd hv (by simp [cnd])
      | true =>
        cases e2 : decide (tdp t ≤ 6) with
        | false => rw [e1, e2] at hv; exact absurd hv (by simp [cnd])
        | true => rw [e1, e2] at hv; exact ⟨rfl, of_decide_eq_true hv⟩
    have hs := tsz_small t (by omega)
    have hx := encX_snd t
    rw [(iEnc_eq 5000).1 t (by omega) (by omega) hf.1, sEnc_eq 5000 t (by omega) (by omega) hf.1]
    simp only []
    obtain ⟨s, h1, h2, h3⟩ := fmtX (encX t) (by omega)
    rw [h1, h2]
    exact ⟨s, rfl, rfl, h3⟩
end Go.Proofs.YtgmlpaaklnkghaaGreat
set_option linter.unusedVariables false
set_option linter.unusedSimpArgs false
set_option linter.unusedSectionVars false
namespace Go.Proofs.YtgmlpaaklnkghaaGreat
open Go Go.Eng
attribute [local irreducible] V VO VQ VY Quiet QR SpecP SpecO Rng PostP PostO PostG
/-! ### the law, by hand -/
theorem str_self (s : List UInt8) : (s == s) = true := by simp
def Lok (l : List TBinding) : Prop := ∀ (i : Nat) (b : TBinding), l[i]? = some b → b.type_.args.length ≤ 4294967296
theorem pt_l3 (y : Nat) (k3 : List TBinding → Option Bool) (N : Nat) (hK : ∀ l : List TBinding, l.length = N → Lok l → k3 l = some true) (hy : y < N) : ∀ (n j : Nat) (l : List TBinding), l.length = N → Lok l → 4294967296 < n + j → j ≤ 4294967296 → b_FnPureTypes_l3 y k3 n l j = some true
  | 0, j, l, _, _, h1, h2 => by omega
  | n + 1, j, l, hl, ho, h1, h2 => by
    have hb : l[y]? = some (l[y]'(by omega)) := List.getElem?_eq_getElem _
    have hlen := ho y _ hb
    generalize l[y]'(by omega) = b at hb hlen
    simp only [b_FnPureTypes_l3, at_nat, hb, bnd]
    by_cases hj : j < b.type_.args.length
    · have e1 : decide ((j : Int) < (b.type_.args.length : Int)) = true := by simpa using hj
      rw [e1, cnd_true, List.getElem?_eq_getElem hj]
      simp only []
      rw [gd_eq (by omega)]
      refine pt_l3 y k3 N hK hy n (j + 1) _ (by simpa using hl) (fun i c hc => ?_) (by omega) (by omega)
      by_cases hi : y = i
      · subst hi
        rw [List.getElem?_set_self (by omega)] at hc
        have hc := Option.some.inj hc
        subst hc
        simpa using hlen
      · rw [List.getElem?_set_ne hi] at hc
        exact ho i c hc
    · have e1 : decide ((j : Int) < (b.type_.args.length : Int)) = false := by simp; omega
      rw [e1, cnd_false]
      exact hK l hl ho
theorem pt_l4 {x2 : List TBinding × TType} {x3 : TType × TType} {x4 x5 x6 : List UInt8} {x17 x18 : List TBinding × Bool} {x34 : TEvidence × List Int} {x35 : List UInt8} (hu : x17.2 = x18.2) (h4 : b_sFormatT x2.2 = some x4) (h5 : b_sFormatT x3.1 = some x5) (h6 : b_sFormatT x3.2 = some x6) (hl : x5.length + x6.length ≤ 4294967296) (he : b_sFormatEv x34.1 = some x35) : ∀ (n j : Nat) (l : List TEvidence), l.length ≤ 4294967296 → l.length < n + j → j ≤ l.length → b_FnPureTypes_l4 x2 x3 x4 x5 x6 x17 x18 x34 x35 n l j = some true
  | 0, j, l, _, h1, h2 => by omega
  | n + 1, j, l, h, h1, h2 => by
    simp only [b_FnPureTypes_l4, at_nat]
    by_cases hj : j < l.length
    · have e1 : decide ((j : Int) < (l.length : Int)) = true := by simpa using hj
      rw [e1, cnd_true, List.getElem?_eq_getElem hj]
      simp only [bnd]
      rw [gd_eq (by omega)]
      exact pt_l4 hu h4 h5 h6 hl he n (j + 1) _ (by simpa using h) (by simp; omega) (by simp; omega)
    · have e1 : decide ((j : Int) < (l.length : Int)) = false := by simp; omega
      rw [e1, cnd_false, h4, h5, h6, he, hu, beq_self_eq_true, cnd_true]
      simp only [bnd]
      rw [gd_eq hl]
      simp only [str_self, cnd_true]
theorem pt_l2 {code : List UInt8} {x2 : List TBinding × TType} {x3 : TType × TType} {x4 x5 x6 : List UInt8} {x17 x18 : List TBinding × Bool} (hu : x17.2 = x18.2) (h4 : b_sFormatT x2.2 = some x4) (h5 : b_sFormatT x3.1 = some x5) (h6 : b_sFormatT x3.2 = some x6) (hl : x5.length + x6.length ≤ 4294967296) (hc : curok (l1NewT code)) (n0 : Nat) (hn : 4294967296 < n0) : ∀ (n j : Nat) (l : List TBinding), l.length ≤ 4294967296 → Lok l → l.length < n + j → j ≤ l.length → b_FnPureTypes_l2 code x2 x3 x4 x5 x6 x17 x18 n0 n l j = some true
  | 0, j, l, _, _, h1, h2 => by omega
  | n + 1, j, l, h, ho, h1, h2 => by
    simp only [b_FnPureTypes_l2]
    by_cases hj : j < l.length
    · have e1 : decide ((j : Int) < (l.length : Int)) = true := by simpa using hj
      rw [e1, cnd_true]
      refine pt_l3 j _ l.length (fun l' e2 e3 => ?_) hj n0 0 l rfl ho (by omega) (by omega)
      rw [gd_eq (by omega)]
      exact pt_l2 hu h4 h5 h6 hl hc n0 hn n (j + 1) l' (by omega) e3 (by omega) (by omega)
    · have e1 : decide ((j : Int) < (l.length : Int)) = false := by simp; omega
      rw [e1, cnd_false]
      obtain ⟨e, sup, e2, e3, e4⟩ := drawAS_ok code hc
      rw [bnd_eq e2]
      obtain ⟨s, e5⟩ := formatEv_ok e (by omega) e4
      dsimp only
      rw [bnd_eq e5]
      obtain ⟨r, e6, e7⟩ := applySup_ok e sup (by omega)
      rw [bnd_eq e6]
      exact pt_l4 (x34 := (e, sup)) hu h4 h5 h6 hl e5 n0 0 r.args (by omega) (by omega) (by omega)
theorem pt_l1 {code : List UInt8} {x2 : List TBinding × TType} {x3 : TType × TType} {x4 x5 x6 : List UInt8} {x17 x18 : List TBinding × Bool} (hu : x17.2 = x18.2) (h4 : b_sFormatT x2.2 = some x4) (h5 : b_sFormatT x3.1 = some x5) (h6 : b_sFormatT x3.2 = some x6) (hl : x5.length + x6.length ≤ 4294967296) (hc : curok (l1NewT code)) (n0 : Nat) (hn : 4294967296 < n0) (hI : b_iUnifyF x3.1 x3.2 = some x17) (hS : b_sUnifyF x3.1 x3.2 = some x18) (hb : Lok x17.1) (hbl : x17.1.length ≤ 4294967296) : ∀ (n j : Nat) (l : List TType), l.length ≤ 4294967296 → l.length < n + j → j ≤ l.length → b_FnPureTypes_l1 code x2 x3 x4 x5 x6 n0 n l j = some true
  | 0, j, l, _, h1, h2 => by omega
  | n + 1, j, l, h, h1, h2 => by
    simp only [b_FnPureTypes_l1, at_nat]
    by_cases hj : j < l.length
    · have e1 : decide ((j : Int) < (l.length : Int)) = true := by simpa using hj
      rw [e1, cnd_true, List.getElem?_eq_getElem hj]
      simp only [bnd]
      rw [gd_eq (by omega)]
      exact pt_l1 hu h4 h5 h6 hl hc n0 hn hI hS hb hbl n (j + 1) _ (by simpa using h) (by simp; omega) (by simp; omega)
    · have e1 : decide ((j : Int) < (l.length : Int)) = false := by simp; omega
      rw [e1, cnd_false, bnd_eq hI, bnd_eq hS]
      exact pt_l2 hu h4 h5 h6 hl hc n0 hn n0 0 x17.1 hbl hb (by omega) (by omega)
theorem l6Copy_l1_eq : ∀ (xs y : List TBinding), (∀ b ∈ xs, tok b.type_) → y.length + xs.length ≤ 4000000 → b_l6Copy_l1 xs y = some (y ++ xs)
  | [], y, _, _ => by simp [b_l6Copy_l1]
  | x :: xs, y, h1, h2 => by
    simp only [List.length_cons] at h2
    simp only [b_l6Copy_l1, lt_, idT]
    rw [gd_eq (h1 x (by simp)), gd_eq (by simp; omega), l6Copy_l1_eq xs _ (fun b hb => h1 b (by simp [hb])) (by simp; omega)]
    simp
theorem Inv.empty (V : List (List UInt8)) : Inv V [] := ⟨by simp [dom], by simp [dom], by simp, by simp, fun b hb => by simp at hb⟩
theorem tok_args {t : TType} (h : tok t) : t.args.length ≤ 4294967296 := by
  obtain ⟨k, n, ts⟩ := t
  simp only [tok] at h
  exact h.1
theorem Lok.of {l : List TBinding} (h : bok l) : Lok l := fun i b hb => tok_args (h b (List.mem_of_getElem? hb))
/-- Both programs unify what is drawn, and agree whether it can be done. -/
theorem two_unify {V : List (List UInt8)} (hV : V.length ≤ 4) {a b : TType} (ha : Good V a) (hbg : Good V b) : ∃ x y, b_iUnifyF a b = some x ∧ b_sUnifyF a b = some y ∧ x.2 = y.2 ∧ Lok x.1 ∧ x.1.length ≤ 4294967296 := by
  have hout : ∀ t : TType, apT [] t = t := fun t => apT_out t (fun v _ hd => by simp [dom] at hd)
  obtain ⟨r, p, q1, q2, q3, q4⟩ := deep hV 50000 [] [a] [b] (.empty V) (by simpa using ha) (by simpa using hbg) rfl (by
    simp only [apTs, hout, tnds, List.length_nil]
    have := ha.sz
    omega)
  have q2' : m_sAll 100000 [a] [b] [] = some p := q2
  have hl1 : ((([a] : List TType).length : Int) != ([b] : List TType).length) = false := by simp
  have hI : b_iUnifyF a b = some ((resI r).2, (resI r).1) := by
    unfold b_iUnifyF b_iUnifyAll unifyO
    rw [hl1, q1]
    rfl
  cases r with
  | none =>
    refine ⟨_, ([], false), hI, ?_, rfl, fun i b hb => by simp [resI] at hb, by simp [resI]⟩
    unfold b_sUnifyF b_sUnifyAll
    rw [hl1, q2']
    have : p.2 = false := q3
    simp only [cnd_false, bnd, this, Bool.not_false, cnd_true]
  | some l =>
    have hp : p = (l, true) := q3
    obtain ⟨w1, w2, w3, w4⟩ := q4 l rfl
    have hll := w1.len hV
    refine ⟨_, (l, true), hI, ?_, rfl, Lok.of w1.ok, by simp only [resI]; omega⟩
    unfold b_sUnifyF b_sUnifyAll
    rw [hl1, q2', hp]
    simp only [cnd_false, bnd, Bool.not_true]
    unfold b_l6Copy
    rw [l6Copy_l1_eq l [] w1.ok (by simp; omega)]
    rfl
theorem FnPureTypes_eq (code : List UInt8) (h : code.length ≤ 1048576 → curok (l1NewT code)) (n0 : Nat) (hn : 4294967296 < n0) : b_FnPureTypes code n0 = some true := by
  unfold b_FnPureTypes b_big
  cases hb : decide ((code.length : Int) > 1048576) with
  | true => rfl
  | false =>
    have hb := of_decide_eq_false hb
    have hc := h (by omega)
    simp only [cnd_false]
    have hA : ∃ x, b_drawApply code = some x ∧ bok x.1 ∧ tok x.2 ∧ tnd x.2 ≤ 30 ∧ tok (apT x.1 x.2) := by
      unfold b_drawApply
      simp only [lt_]
      obtain ⟨l, c1, w, e1, e2, e3⟩ := binds_ok _ hc
      rw [bnd_eq e1]
      obtain ⟨t, c2, w2, e4, e5, e6⟩ := bent_ok c1 e2
      dsimp only
      rw [bnd_eq e4]
      exact ⟨_, rfl, e3.bok, e6.ok, e6.sz, apT_tok e3.bok t e6.ok⟩
    obtain ⟨⟨l, t⟩, e1, g1, g2, g3, g4⟩ := hA
    obtain ⟨V, a, b, hV, e2, ha, hbg⟩ := two_ok code hc
    rw [bnd_eq e1, bnd_eq e2]
    dsimp only at g1 g2 g3 g4 ⊢
    have hsa := ha.sz
    have hsb := hbg.sz
    obtain ⟨s4, i4, f4, _⟩ := fmt_eq t (by omega)
    obtain ⟨s5, i5, f5, k5⟩ := fmt_eq a (by omega)
    obtain ⟨s6, i6, f6, k6⟩ := fmt_eq b (by omega)
    rw [bnd_eq i4, bnd_eq i5, bnd_eq i6]
    simp only [lt_]
    rw [gd_eq (by omega), gd_eq ⟨g1, g2⟩]
    obtain ⟨x, y, u1, u2, u3, u4, u5⟩ := two_unify hV ha hbg
    exact pt_l1 (x2 := (l, t)) (x3 := (a, b)) u3 f4 f5 f6 (by omega) hc n0 hn u1 u2 u4 u5 n0 0 _ (tok_args g4) (by have := tok_args g4; omega) (by omega)
end Go.Proofs.YtgmlpaaklnkghaaGreat
set_option linter.unusedVariables false
set_option linter.unusedSimpArgs false
namespace Go.Proofs.YtgmlpaaklnkghaaGreat
open Go Go.Eng Go.RowKit
theorem bridgeB {H : Type} {enc : TypeId × Value → H} {P : Program} {w : World} {sp : Nat → Bool} {held : Bool} {T e : TypeId} {v : Value} {d : DataW H} {ps : List MemPlace} (hund : P.underlying T = some (.slice e)) (he : P.underlying e = some (.int .u8)) (hce : P.cellsOf e = 1) (hbe : 0 < P.bytesOf e)
    (h : DataW.Trod enc P w 0 sp held T v d ps) (hw : ∀ x ∈ d.weights P T, x ≤ reachBytes) (hna : ∀ cs, v ≠ .agg cs) : ∃ code : List UInt8, SVr (fun b => b < w.heap.size) [] [] w (.d (.sl 1 (eBytes code))) v := by
  obtain ⟨fuel, h⟩ := h
  have hc : v.cells = #[v] := by cases v <;> first | rfl | (exact absurd rfl (hna _))
  rw [hc] at h
  suffices hs : ∃ code : List UInt8, Rd (fun b => b < w.heap.size) w (.sl 1 (eBytes code)) [v] by
    obtain ⟨code, h1⟩ := hs
    refine ⟨code, ?_⟩
    simp only [SVr]
    exact ⟨[v], by simp [val, U.isSt], h1⟩
  have hlenB : ∀ l : List UInt8, (eBytes l).length = l.length := fun l => Enc.len l
  cases fuel with
  | zero => simp [DataW.trod] at h
  | succ fuel =>
    rcases DataW.trod_slice hund h with ⟨h0, hx⟩ | ⟨a, len, cap, elems, rest, n, hn, h0, hx, _, hlc, _, hel, hget, _, _⟩
    · simp at h0
      subst h0
      exact ⟨[], by simp only [Rd, eBytes]; exact ⟨by simp [big_eq], none, 0, rfl, .inl trivial⟩⟩
    · obtain rfl : fuel = n := by omega
      simp at h0
      subst h0
      simp only [Prod.mk.injEq] at hx
      obtain ⟨rfl, rfl⟩ := hx
      simp only [DataW.weights, hund] at hw
      have hlen : len ≤ big := by
        have h1 := hw _ (List.mem_cons_self)
        simp only [List.length_map] at h1
        refine reach_big (Nat.le_trans ?_ h1)
        rw [hel]
        calc len ≤ len * P.bytesOf e := Nat.le_mul_of_pos_right _ hbe
          _ ≤ (len + rest.length) * P.bytesOf e := Nat.mul_le_mul_right _ (by omega)
      have each : ∀ i, i < len → ∃ x : UInt8, (a.spot = none → At w a.block (a.off + i * 1) [.int .u8 (x.toNat : Int)]) ∧ (i = 0 → a.spot = none) ∧ a.block < w.heap.size := by
        intro i hi
        have h1 := hget i hi
        rw [List.getElem?_eq_getElem (by omega)] at h1
        cases hc : w.cells? 0 (a.add (i * P.cellsOf e)) (P.cellsOf e) with
        | none => rw [hc] at h1; simp at h1
        | some cs =>
          rw [hc] at h1
          simp only [Option.bind_some] at h1
          rw [hce] at hc
          obtain ⟨k1, k2, k3⟩ := cells_At (by omega) hc
          obtain ⟨m, rfl, _, hwf⟩ := DataW.trod_int he h1
          simp [Lit.wf, IntKind.min, IntKind.max, IntKind.bits, IntKind.signed] at hwf
          have hblk : (a.add (i * 1)).block = a.block := by unfold Addr.add; split <;> rfl
          refine ⟨UInt8.ofNat m.toNat, fun hsp => ?_, fun h0 => ?_, ?_⟩
          · have hoff : (a.add (i * 1)).off = a.off + i * 1 := by unfold Addr.add; split <;> simp_all
            rw [hblk, hoff] at k3
            have e1 : ((UInt8.ofNat m.toNat).toNat : Int) = m := by
              rw [UInt8.toNat_ofNat']
              omega
            rw [e1]
            exact k3
          · subst h0
            rw [Nat.zero_mul] at k2
            exact k2
          · rw [← hblk]; exact k3.lt
      obtain ⟨us, hul, hus⟩ := exists_list len each
      refine ⟨us, ?_⟩
      simp only [Rd]
      refine ⟨by rw [hlenB, hul]; exact hlen, some a, cap - len, by rw [hlenB, hul, Nat.add_sub_cancel' hlc], ?_⟩
      by_cases h0 : us = []
      · subst h0; exact .inl rfl
      · have hpos : 0 < len := by rw [← hul]; exact List.length_pos_iff.2 h0
        obtain ⟨u0, _, hsp, hblt⟩ := each 0 hpos
        have hsp := hsp rfl
        refine .inr ⟨a.block, a.off, ?_, hblt, RdE.mk (eBytes us) a.off (fun k u hk => ?_)⟩
        · obtain ⟨b, o, sp⟩ := a
          simp only at hsp
          subst hsp
          rfl
        · have hk2 : k < us.length := by rw [← hlenB]; exact (List.getElem?_eq_some_iff.1 hk).1
          have hk3 := gByte (List.getElem?_eq_getElem hk2)
          rw [hk] at hk3
          obtain rfl := Option.some.inj hk3
          obtain ⟨k1, _, _⟩ := hus k _ (List.getElem?_eq_getElem hk2)
          exact ⟨_, rfl, k1 hsp, by simp only [Rd]⟩
end Go.Proofs.YtgmlpaaklnkghaaGreat
