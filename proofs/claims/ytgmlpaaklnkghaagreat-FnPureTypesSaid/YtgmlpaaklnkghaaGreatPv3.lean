/- Pv3. Written by a program of mine (aw.py). -/
import Derived.Test.YtgmlpaaklnkghaaGreatEng39
import Derived.Test.YtgmlpaaklnkghaaGreatPt9
set_option linter.unusedVariables false
set_option linter.unusedSimpArgs false
set_option linter.unusedSectionVars false
namespace Go.Proofs.YtgmlpaaklnkghaaGreat
open Go Go.Eng
attribute [local irreducible] V VO VQ VY Quiet QR SpecP SpecO Rng PostP PostO PostG
/-! ### evidence, by hand -/
mutual
def evn : TEvidence → Nat
  | ⟨_, _, _, ts⟩ => 1 + evns ts
def evns : List TEvidence → Nat
  | [] => 0
  | a :: ts => evn a + evns ts
end
mutual
def eok : TEvidence → Prop
  | ⟨_, _, _, ts⟩ => ts.length ≤ 4294967296 ∧ eall ts
def eall : List TEvidence → Prop
  | [] => True
  | a :: ts => eok a ∧ eall ts
end
def esok (ts : List TEvidence) : Prop := ts.length ≤ 4294967296 ∧ eall ts
theorem eall_iff : ∀ {ts : List TEvidence}, eall ts ↔ ∀ t ∈ ts, eok t
  | [] => by simp [eall]
  | a :: ts => by simp [eall, eall_iff (ts := ts)]
theorem evn_mem {x : TEvidence} : ∀ {ts : List TEvidence}, x ∈ ts → evn x ≤ evns ts
  | [], h => by simp at h
  | a :: ts, h => by
    simp only [evns]
    rcases List.mem_cons.1 h with rfl | h
    · omega
    · have := evn_mem h
      omega
theorem evn_pos (t : TEvidence) : 1 ≤ evn t := by cases t; simp only [evn]; omega
def idE (t : TEvidence) : TEvidence := t
def idEs (t : List TEvidence) : List TEvidence := t
theorem iCopyEvs_l1_eq {rec : TEvidence → Option TEvidence} : ∀ (xs : List TEvidence) (k : Nat) (y : List TEvidence), (∀ x ∈ xs, rec x = some x) → y.length = k + xs.length → b_iCopyEvs_l1 rec xs k y = some (y.take k ++ xs)
  | [], k, y, _, h => by
    simp only [b_iCopyEvs_l1, List.append_nil]
    rw [List.take_of_length_le (by simp at h; omega)]
  | x :: xs, k, y, h1, h2 => by
    simp only [b_iCopyEvs_l1]
    rw [h1 x (by simp)]
    simp only [bnd, List.length_cons] at h2 ⊢
    rw [gd_eq (by omega), iCopyEvs_l1_eq xs (k + 1) _ (fun z hz => h1 z (by simp [hz])) (by simp; omega), take_set_succ (by omega)]
    simp
theorem iCopyEv_eq : ∀ (n : Nat), (∀ t : TEvidence, 2 * evn t ≤ n → eok t → m_iCopyEv n t = some (idE t)) ∧ (∀ ts : List TEvidence, 2 * evns ts + 1 ≤ n → esok ts → m_iCopyEvs n ts = some (idEs ts))
  | 0 => ⟨fun t h => by have := evn_pos t; omega, fun ts h => by omega⟩
  | n + 1 => by
    obtain ⟨h1, h2⟩ := iCopyEv_eq n
    refine ⟨fun t hn ht => ?_, fun ts hn ht => ?_⟩
    · obtain ⟨k, s, p, ts⟩ := t
      simp only [evn] at hn
      simp only [m_iCopyEv, b_iCopyEv]
      rw [h2 ts (by omega) (by simpa only [eok, esok] using ht)]
      rfl
    · simp only [m_iCopyEvs, b_iCopyEvs]
      rw [gd_eq ht.1, iCopyEvs_l1_eq ts 0 _ (fun x hx => h1 x (by have := evn_mem hx; omega) (eall_iff.1 ht.2 x hx)) (by simp)]
      simp [idEs]
theorem evns_len : ∀ (ts : List TEvidence), ts.length ≤ evns ts
  | [] => by simp [evns]
  | a :: ts => by
    have := evns_len ts
    have := evn_pos a
    simp only [List.length_cons, evns]
    omega
mutual
theorem eok_small : ∀ (t : TEvidence), evn t ≤ 4294967296 → eok t
  | ⟨k, n, p, ts⟩, h => by
    simp only [evn] at h
    have := evns_len ts
    simp only [eok]
    exact ⟨by omega, eall_small ts (by omega)⟩
theorem eall_small : ∀ (ts : List TEvidence), evns ts ≤ 4294967296 → eall ts
  | [], _ => trivial
  | a :: ts, h => by
    simp only [evns] at h
    exact ⟨eok_small a (by omega), eall_small ts (by omega)⟩
end
theorem applySup_l1 : ∀ (xs : List Int) (k n p a : Int) (ts : List TEvidence), ∃ e, b_iApplySup_l1 xs k n p a ts = some e ∧ e.args.length ≤ max ts.length 1
  | [], k, n, p, a, ts => ⟨_, rfl, Nat.le_max_left _ _⟩
  | x :: xs, k, n, p, a, ts => by
    obtain ⟨e, h1, h2⟩ := applySup_l1 xs 3 x 0 0 [⟨k, n, ⟨p, a⟩, ts⟩]
    refine ⟨e, h1, ?_⟩
    simp only [List.length_singleton] at h2
    omega
theorem applySup_ok (e : TEvidence) (xs : List Int) (h : evn e ≤ 1000) : ∃ r, b_iApplySup e xs = some r ∧ r.args.length ≤ 1000 := by
  unfold b_iApplySup
  rw [(iCopyEv_eq 5000).1 e (by omega) (eok_small e (by omega))]
  simp only [bnd, idE]
  obtain ⟨k, n, ⟨p, a⟩, ts⟩ := e
  obtain ⟨r, h1, h2⟩ := applySup_l1 xs k n p a ts
  have := evns_len ts
  simp only [evn] at h
  exact ⟨r, h1, by omega⟩
/-! what is printed of evidence is there -/
theorem cnd_ex {α : Type} {P : α → Prop} {c : Bool} {x y : Option α} (h1 : ∃ r, x = some r ∧ P r) (h2 : ∃ r, y = some r ∧ P r) : ∃ r, cnd c x y = some r ∧ P r := by
  cases c
  · exact h2
  · exact h1
theorem vE_l1 {rec : TEvidence → Option Bool} (a : TEvidence) : ∀ (xs : List TEvidence), (∀ x ∈ xs, ∃ r, rec x = some r ∧ True) → ∃ r, b_sValidEv_l1 rec a xs = some r ∧ True
  | [], _ => ⟨_, rfl, trivial⟩
  | x :: xs, h => by
    obtain ⟨r, hr, _⟩ := h x (by simp)
    simp only [b_sValidEv_l1, hr, bnd]
    exact cnd_ex ⟨_, rfl, trivial⟩ (vE_l1 a xs (fun z hz => h z (by simp [hz])))
theorem vE_l2 {rec : TEvidence → Option Bool} (a : TEvidence) : ∀ (xs : List TEvidence), (∀ x ∈ xs, ∃ r, rec x = some r ∧ True) → ∃ r, b_sValidEv_l2 rec a xs = some r ∧ True
  | [], _ => ⟨_, rfl, trivial⟩
  | x :: xs, h => by
    obtain ⟨r, hr, _⟩ := h x (by simp)
    simp only [b_sValidEv_l2, hr, bnd]
    exact cnd_ex ⟨_, rfl, trivial⟩ (vE_l2 a xs (fun z hz => h z (by simp [hz])))
theorem vE_l3 {rec : TEvidence → Option Bool} (a : TEvidence) : ∀ (xs : List TEvidence), (∀ x ∈ xs, ∃ r, rec x = some r ∧ True) → ∃ r, b_sValidEv_l3 rec a xs = some r ∧ True
  | [], _ => ⟨_, rfl, trivial⟩
  | x :: xs, h => by
    obtain ⟨r, hr, _⟩ := h x (by simp)
    simp only [b_sValidEv_l3, hr, bnd]
    exact cnd_ex ⟨_, rfl, trivial⟩ (vE_l3 a xs (fun z hz => h z (by simp [hz])))
theorem vE_l4 {rec : TEvidence → Option Bool} (a : TEvidence) : ∀ (xs : List TEvidence), (∀ x ∈ xs, ∃ r, rec x = some r ∧ True) → ∃ r, b_sValidEv_l4 rec a xs = some r ∧ True
  | [], _ => ⟨_, rfl, trivial⟩
  | x :: xs, h => by
    obtain ⟨r, hr, _⟩ := h x (by simp)
    simp only [b_sValidEv_l4, hr, bnd]
    exact cnd_ex ⟨_, rfl, trivial⟩ (vE_l4 a xs (fun z hz => h z (by simp [hz])))
theorem vE_l5 {rec : TEvidence → Option Bool} (a : TEvidence) : ∀ (xs : List TEvidence), (∀ x ∈ xs, ∃ r, rec x = some r ∧ True) → ∃ r, b_sValidEv_l5 rec a xs = some r ∧ True
  | [], _ => ⟨_, rfl, trivial⟩
  | x :: xs, h => by
    obtain ⟨r, hr, _⟩ := h x (by simp)
    simp only [b_sValidEv_l5, hr, bnd]
    exact cnd_ex ⟨_, rfl, trivial⟩ (vE_l5 a xs (fun z hz => h z (by simp [hz])))
theorem validEv_ok : ∀ (n : Nat) (t : TEvidence), evn t ≤ n → ∃ r, m_sValidEv n t = some r ∧ True
  | 0, t, h => by have := evn_pos t; omega
  | n + 1, ⟨k, m, p, ts⟩, h => by
    simp only [evn] at h
    have hm : ∀ x ∈ ts, ∃ r, m_sValidEv n x = some r ∧ True := fun x hx => validEv_ok n x (by have := evn_mem hx; omega)
    simp only [m_sValidEv, b_sValidEv, lt_]
    repeat' first
      | exact ⟨_, rfl, trivial⟩
      | exact vE_l1 _ ts hm
      | exact vE_l2 _ ts hm
      | exact vE_l3 _ ts hm
      | exact vE_l4 _ ts hm
      | exact vE_l5 _ ts hm
      | refine cnd_ex ?_ ?_
mutual
def eint : TEvidence → Prop
  | ⟨_, n, p, ts⟩ => (-10 ≤ n ∧ n ≤ 10) ∧ (-10 ≤ p.package ∧ p.package ≤ 10) ∧ (-10 ≤ p.at_ ∧ p.at_ ≤ 10) ∧ eints ts
def eints : List TEvidence → Prop
  | [] => True
  | a :: ts => eint a ∧ eints ts
end
theorem eints_mem {x : TEvidence} : ∀ {ts : List TEvidence}, eints ts → x ∈ ts → eint x
  | [], _, h => by simp at h
  | a :: ts, hf, h => by
    simp only [eints] at hf
    rcases List.mem_cons.1 h with rfl | h
    · exact hf.1
    · exact eints_mem hf.2 h
theorem tE_l1 {rec : TEvidence → Option (List UInt8)} : ∀ (xs : List TEvidence) (y : List UInt8), (∀ x ∈ xs, ∃ r, rec x = some r ∧ r.length + 3 ≤ 100 * evn x) → y.length + 100 * evns xs ≤ 4294967296 → ∃ r, b_sEvText_l1 rec xs y = some r ∧ r.length ≤ y.length + 100 * evns xs
  | [], y, _, _ => ⟨_, rfl, by omega⟩
  | x :: xs, y, h, hl => by
    obtain ⟨r, hr, h1⟩ := h x (by simp)
    simp only [evns] at hl
    simp only [b_sEvText_l1, hr, bnd]
    rw [gd_eq (by simp; omega), gd_eq (by simp; omega), gd_eq (by simp; omega)]
    obtain ⟨s, h2, h3⟩ := tE_l1 xs (((y ++ ([32, 40] : List UInt8)) ++ r) ++ ([41] : List UInt8)) (fun z hz => h z (by simp [hz])) (by simp; omega)
    refine ⟨s, h2, ?_⟩
    simp only [List.length_append, List.length_cons, List.length_nil] at h3
    simp only [evns]
    omega
theorem tE_l2 {rec : TEvidence → Option (List UInt8)} : ∀ (xs : List TEvidence) (y : List UInt8), (∀ x ∈ xs, ∃ r, rec x = some r ∧ r.length + 3 ≤ 100 * evn x) → y.length + 100 * evns xs ≤ 4294967296 → ∃ r, b_sEvText_l2 rec xs y = some r ∧ r.length ≤ y.length + 100 * evns xs
  | [], y, _, _ => ⟨_, rfl, by omega⟩
  | x :: xs, y, h, hl => by
    obtain ⟨r, hr, h1⟩ := h x (by simp)
    simp only [evns] at hl
    simp only [b_sEvText_l2, hr, bnd]
    rw [gd_eq (by simp; omega), gd_eq (by simp; omega), gd_eq (by simp; omega)]
    obtain ⟨s, h2, h3⟩ := tE_l2 xs (((y ++ ([32, 40] : List UInt8)) ++ r) ++ ([41] : List UInt8)) (fun z hz => h z (by simp [hz])) (by simp; omega)
    refine ⟨s, h2, ?_⟩
    simp only [List.length_append, List.length_cons, List.length_nil] at h3
    simp only [evns]
    omega
theorem tE_l3 {rec : TEvidence → Option (List UInt8)} : ∀ (xs : List TEvidence) (y : List UInt8), (∀ x ∈ xs, ∃ r, rec x = some r ∧ r.length + 3 ≤ 100 * evn x) → y.length + 100 * evns xs ≤ 4294967296 → ∃ r, b_sEvText_l3 rec xs y = some r ∧ r.length ≤ y.length + 100 * evns xs
  | [], y, _, _ => ⟨_, rfl, by omega⟩
  | x :: xs, y, h, hl => by
    obtain ⟨r, hr, h1⟩ := h x (by simp)
    simp only [evns] at hl
    simp only [b_sEvText_l3, hr, bnd]
    rw [gd_eq (by simp; omega), gd_eq (by simp; omega), gd_eq (by simp; omega)]
    obtain ⟨s, h2, h3⟩ := tE_l3 xs (((y ++ ([32, 40] : List UInt8)) ++ r) ++ ([41] : List UInt8)) (fun z hz => h z (by simp [hz])) (by simp; omega)
    refine ⟨s, h2, ?_⟩
    simp only [List.length_append, List.length_cons, List.length_nil] at h3
    simp only [evns]
    omega
theorem tE_l4 {rec : TEvidence → Option (List UInt8)} : ∀ (xs : List TEvidence) (y : List UInt8), (∀ x ∈ xs, ∃ r, rec x = some r ∧ r.length + 3 ≤ 100 * evn x) → y.length + 100 * evns xs ≤ 4294967296 → ∃ r, b_sEvText_l4 rec xs y = some r ∧ r.length ≤ y.length + 100 * evns xs
  | [], y, _, _ => ⟨_, rfl, by omega⟩
  | x :: xs, y, h, hl => by
    obtain ⟨r, hr, h1⟩ := h x (by simp)
    simp only [evns] at hl
    simp only [b_sEvText_l4, hr, bnd]
    rw [gd_eq (by simp; omega), gd_eq (by simp; omega), gd_eq (by simp; omega)]
    obtain ⟨s, h2, h3⟩ := tE_l4 xs (((y ++ ([32, 40] : List UInt8)) ++ r) ++ ([41] : List UInt8)) (fun z hz => h z (by simp [hz])) (by simp; omega)
    refine ⟨s, h2, ?_⟩
    simp only [List.length_append, List.length_cons, List.length_nil] at h3
    simp only [evns]
    omega
theorem tE_l5 {rec : TEvidence → Option (List UInt8)} : ∀ (xs : List TEvidence) (y : List UInt8), (∀ x ∈ xs, ∃ r, rec x = some r ∧ r.length + 3 ≤ 100 * evn x) → y.length + 100 * evns xs ≤ 4294967296 → ∃ r, b_sEvText_l5 rec xs y = some r ∧ r.length ≤ y.length + 100 * evns xs
  | [], y, _, _ => ⟨_, rfl, by omega⟩
  | x :: xs, y, h, hl => by
    obtain ⟨r, hr, h1⟩ := h x (by simp)
    simp only [evns] at hl
    simp only [b_sEvText_l5, hr, bnd]
    rw [gd_eq (by simp; omega), gd_eq (by simp; omega), gd_eq (by simp; omega)]
    obtain ⟨s, h2, h3⟩ := tE_l5 xs (((y ++ ([32, 40] : List UInt8)) ++ r) ++ ([41] : List UInt8)) (fun z hz => h z (by simp [hz])) (by simp; omega)
    refine ⟨s, h2, ?_⟩
    simp only [List.length_append, List.length_cons, List.length_nil] at h3
    simp only [evns]
    omega
theorem evText_ok : ∀ (n : Nat) (t : TEvidence), evn t ≤ n → evn t ≤ 1000 → eint t → ∃ r, m_sEvText n t = some r ∧ r.length + 3 ≤ 100 * evn t
  | 0, t, h, _, _ => by have := evn_pos t; omega
  | n + 1, ⟨k, m, p, ts⟩, h, hb, hi => by
    simp only [evn] at h hb
    simp only [eint] at hi
    obtain ⟨⟨i1, i2⟩, ⟨i3, i4⟩, ⟨i5, i6⟩, i7⟩ := hi
    have r1 : inRange m := ⟨by omega, by omega⟩
    have r2 : inRange p.package := ⟨by omega, by omega⟩
    have r3 : inRange p.at_ := ⟨by omega, by omega⟩
    have l1 := Lib.itoa_length_le m r1.1 r1.2
    have l2 := Lib.itoa_length_le p.package r2.1 r2.2
    have l3 := Lib.itoa_length_le p.at_ r3.1 r3.2
    have hm : ∀ x ∈ ts, ∃ r, m_sEvText n x = some r ∧ r.length + 3 ≤ 100 * evn x := fun x hx => evText_ok n x (by have := evn_mem hx; omega) (by have := evn_mem hx; omega) (eints_mem i7 hx)
    simp only [m_sEvText, b_sEvText]
    refine cnd_ex ?_ (cnd_ex ?_ (cnd_ex ?_ (cnd_ex ?_ ?_)))
    · rw [gd_eq r2, gd_eq (by simp; omega), gd_eq (by simp; omega), gd_eq r3, gd_eq (by simp; omega)]
      obtain ⟨s, h2, h3⟩ := tE_l1 ts (((([105, 110, 115, 116, 32] : List UInt8) ++ (Lib.itoa p.package)) ++ ([46] : List UInt8)) ++ (Lib.itoa p.at_)) hm (by simp; omega)
      refine ⟨s, h2, ?_⟩
      simp only [List.length_append, List.length_cons, List.length_nil] at h3
      simp only [evn]
      omega
    · rw [gd_eq r1, gd_eq (by simp; omega)]
      obtain ⟨s, h2, h3⟩ := tE_l2 ts (([98, 111, 117, 110, 100, 32] : List UInt8) ++ (Lib.itoa m)) hm (by simp; omega)
      refine ⟨s, h2, ?_⟩
      simp only [List.length_append, List.length_cons, List.length_nil] at h3
      simp only [evn]
      omega
    · rw [gd_eq r1, gd_eq (by simp; omega)]
      obtain ⟨s, h2, h3⟩ := tE_l3 ts (([115, 117, 112, 101, 114, 32] : List UInt8) ++ (Lib.itoa m)) hm (by simp; omega)
      refine ⟨s, h2, ?_⟩
      simp only [List.length_append, List.length_cons, List.length_nil] at h3
      simp only [evn]
      omega
    · obtain ⟨s, h2, h3⟩ := tE_l4 ts [100, 121, 110] hm (by simp; omega)
      refine ⟨s, h2, ?_⟩
      simp only [List.length_cons, List.length_nil] at h3
      simp only [evn]
      omega
    · obtain ⟨s, h2, h3⟩ := tE_l5 ts [97, 117, 116, 111] hm (by simp; omega)
      refine ⟨s, h2, ?_⟩
      simp only [List.length_cons, List.length_nil] at h3
      simp only [evn]
      omega
theorem formatEv_ok (t : TEvidence) (h : evn t ≤ 1000) (hi : eint t) : ∃ r, b_sFormatEv t = some r := by
  unfold b_sFormatEv
  obtain ⟨b, e1, _⟩ := validEv_ok 5000 t (by omega)
  obtain ⟨s, e2, _⟩ := evText_ok 5000 t (by omega) h hi
  rw [e1, e2]
  simp only [bnd]
  cases b
  · exact ⟨_, rfl⟩
  · exact ⟨_, rfl⟩
end Go.Proofs.YtgmlpaaklnkghaaGreat
