/- The engine, part 26: marks: what a law lays into memory to see who shares it; division, strings, bytes. -/
import Derived.Test.YtdofnoeiogjpjaaEng25
namespace Go.Eng
open Go Go.RowKit

class TU (P : Program) (T : TypeId) (k : outParam IntKind) : Prop where
  h : P.underlying T = some (.int k)
/-- The digits of n ahead of acc. -/
def dg : Nat → Nat → List UInt8 → List UInt8
  | 0, _, acc => acc
  | f + 1, n, acc => if n = 0 then acc else dg f (n / 10) (UInt8.ofNat (IntKind.u8.wrap (48 + ((n % 10 : Nat) : Int))).toNat :: acc)
def txt (k : Int) : List UInt8 := 109 :: dg 64 k.toNat []
theorem dg_len : ∀ (f n : Nat) (acc : List UInt8), (dg f n acc).length ≤ acc.length + f
  | 0, _, _ => by simp [dg]
  | f + 1, n, acc => by
    unfold dg
    split
    · omega
    · have := dg_len f (n / 10) (UInt8.ofNat (IntKind.u8.wrap (48 + ((n % 10 : Nat) : Int))).toNat :: acc)
      simp only [List.length_cons] at this
      omega
mutual
def U.mk : U → Int → U × Int
  | .i kd _, k => (.i kd k, k + 1)
  | .b _, k => (.b (k % 3 == 0), k + 1)
  | .s _, k => (.s (txt k), k + 1)
  | .st us, k => (.st (U.mks us k).1, (U.mks us k).2)
  | .sl z us, k => (.sl z (U.mks us k).1, (U.mks us k).2)
def U.mks : List U → Int → List U × Int
  | [], k => ([], k)
  | u :: us, k => ((u.mk k).1 :: (U.mks us (u.mk k).2).1, (U.mks us (u.mk k).2).2)
end
mutual
/-- What a struct by value lets be marked: its slices. -/
def U.mkt : U → Int → U × Int
  | .i kd n, k => (.i kd n, k)
  | .b x, k => (.b x, k)
  | .s l, k => (.s l, k)
  | .st us, k => (.st (U.mkts us k).1, (U.mkts us k).2)
  | .sl z us, k => (.sl z (U.mks us k).1, (U.mks us k).2)
def U.mkts : List U → Int → List U × Int
  | [], k => ([], k)
  | u :: us, k => ((u.mkt k).1 :: (U.mkts us (u.mkt k).2).1, (U.mkts us (u.mkt k).2).2)
end
mutual
/-- How many scalars. -/
def U.lf : U → Nat
  | .i _ _ => 1
  | .b _ => 1
  | .s _ => 1
  | .st us => U.lfs us
  | .sl _ us => U.lfs us
def U.lfs : List U → Nat
  | [] => 0
  | u :: us => u.lf + U.lfs us
end
mutual
theorem mk_snd : ∀ (u : U) (k : Int), (u.mk k).2 = k + u.lf
  | .i _ _, k => rfl
  | .b _, k => rfl
  | .s _, k => rfl
  | .st us, k => by simp only [U.mk, U.lf]; exact mks_snd us k
  | .sl _ us, k => by simp only [U.mk, U.lf]; exact mks_snd us k
theorem mks_snd : ∀ (us : List U) (k : Int), (U.mks us k).2 = k + U.lfs us
  | [], k => by simp [U.mks, U.lfs]
  | u :: us, k => by simp only [U.mks, U.lfs, mks_snd us, mk_snd u]; omega
end
theorem mks_len : ∀ (us : List U) (k : Int), (U.mks us k).1.length = us.length
  | [], _ => rfl
  | u :: us, k => by simp [U.mks, mks_len us]
theorem mks_append : ∀ (us vs : List U) (k : Int), (U.mks (us ++ vs) k).1 = (U.mks us k).1 ++ (U.mks vs (U.mks us k).2).1 ∧ (U.mks (us ++ vs) k).2 = (U.mks vs (U.mks us k).2).2
  | [], _, _ => ⟨rfl, rfl⟩
  | u :: us, vs, k => by
    obtain ⟨h1, h2⟩ := mks_append us vs (u.mk k).2
    exact ⟨by simp only [List.cons_append, U.mks, h1], by simp only [List.cons_append, U.mks, h2]⟩
theorem lfs_append : ∀ (us vs : List U), U.lfs (us ++ vs) = U.lfs us + U.lfs vs
  | [], _ => by simp [U.lfs]
  | u :: us, vs => by simp only [List.cons_append, U.lfs, lfs_append us vs]; omega
theorem drop_get {us : List U} {k : Nat} {u : U} (h : us[k]? = some u) : us.drop k = u :: us.drop (k + 1) := by
  obtain ⟨hk, rfl⟩ := List.getElem?_eq_some_iff.1 h
  rw [List.drop_eq_getElem_cons hk]
theorem take_get {us : List U} {k : Nat} {u : U} (h : us[k]? = some u) : us.take (k + 1) = us.take k ++ [u] := by
  obtain ⟨hk, rfl⟩ := List.getElem?_eq_some_iff.1 h
  rw [List.take_succ_eq_append_getElem hk]
theorem mks_next {us : List U} {k : Nat} {u : U} (h : us[k]? = some u) (kk : Int) : (U.mks (us.take (k + 1)) kk).1 = (U.mks (us.take k) kk).1 ++ [(u.mk (U.mks (us.take k) kk).2).1] ∧ (U.mks (us.take (k + 1)) kk).2 = (u.mk (U.mks (us.take k) kk).2).2 := by
  rw [take_get h]
  obtain ⟨h1, h2⟩ := mks_append (us.take k) [u] kk
  rw [h1, h2]
  exact ⟨rfl, rfl⟩
theorem mks_get {us : List U} {k : Nat} {u : U} (h : us[k]? = some u) (kk : Int) : (U.mks us kk).1[k]? = some (u.mk (U.mks (us.take k) kk).2).1 := by
  have hs : us = us.take k ++ (u :: us.drop (k + 1)) := by rw [← drop_get h, List.take_append_drop]
  have hk := (List.getElem?_eq_some_iff.1 h).1
  obtain ⟨h1, _⟩ := mks_append (us.take k) (u :: us.drop (k + 1)) kk
  rw [← hs] at h1
  rw [h1, List.getElem?_append_right (by rw [mks_len]; simp; omega), mks_len]
  have : k - (us.take k).length = 0 := by simp; omega
  rw [this]
  rfl
theorem lfs_mid {us : List U} {k : Nat} {u : U} (h : us[k]? = some u) : U.lfs (us.take k) + u.lf + U.lfs (us.drop (k + 1)) = U.lfs us := by
  have hs : us = us.take k ++ (u :: us.drop (k + 1)) := by rw [← drop_get h, List.take_append_drop]
  have := lfs_append (us.take k) (u :: us.drop (k + 1))
  rw [← hs] at this
  simp only [U.lfs] at this
  omega

section
variable {P : Program} {A : Amb} {σ : St} {K : St → Prop} {Q : Exit → St → Prop}
variable {dst : Option Nat} {ty : TypeId} {pos : String} {af : Array Edge} {g : Option (Nat × Bool)} {x y : Operand} {sv : SV}
theorem V_cast {c : Code} {fr : List (Nat × SV)} {L : List LO} (L' : List LO) {N : Nat} (hL : L = L') (h : V P A c ⟨fr, L', N⟩ Q) : V P A c ⟨fr, L, N⟩ Q := by subst hL; exact h
theorem Q_quo {T T' : TypeId} {m n : Nat} (hx : σ.ev x = .d (.i .i64 m)) (hy : σ.ev y = .d (.i .i64 n)) (hn : Nat.blt 0 n = true) (hm : (m : Int) ≤ 9223372036854775807) : Quiet P A σ ⟨dst, .binOp .quo T x y T', ty, pos, af, g⟩ (.d (.i .i64 ((m / n : Nat) : Int))) := Quiet.pure fun S env a w hH ho => by
  have h1 := ho x (by simp [Op.operands])
  have h2 := ho y (by simp [Op.operands])
  rw [hx, SVr.int] at h1
  rw [hy, SVr.int] at h2
  simp only [Nat.blt_eq] at hn
  refine ⟨.int .i64 ((m / n : Nat) : Int), ?_, SVr.int.2 rfl⟩
  have h0 : ¬ n = 0 := by omega
  have hle : m / n ≤ m := Nat.div_le_self m n
  have e : ((m / n : Nat) : Int) = (m : Int) / (n : Int) := by simp
  have hw : IntKind.i64.wrap ((m : Int) / (n : Int)) = (m : Int) / (n : Int) := by
    rw [← e]
    generalize m / n = q at hle
    exact wrap_in _ (by omega) (by omega)
  simp [execOp, h1, h2, eqGuard, binOp, Op.intDiv, h0, hw]
theorem Q_rem {T T' : TypeId} {m n : Nat} (hx : σ.ev x = .d (.i .i64 m)) (hy : σ.ev y = .d (.i .i64 n)) (hn : Nat.blt 0 n = true) : Quiet P A σ ⟨dst, .binOp .rem T x y T', ty, pos, af, g⟩ (.d (.i .i64 ((m % n : Nat) : Int))) := Quiet.pure fun S env a w hH ho => by
  have h1 := ho x (by simp [Op.operands])
  have h2 := ho y (by simp [Op.operands])
  rw [hx, SVr.int] at h1
  rw [hy, SVr.int] at h2
  simp only [Nat.blt_eq] at hn
  refine ⟨.int .i64 ((m % n : Nat) : Int), ?_, SVr.int.2 rfl⟩
  have h0 : ¬ n = 0 := by omega
  simp [execOp, h1, h2, eqGuard, binOp, Op.intDiv, h0]
  rw [← Int.ofNat_tmod]
  simp
/-- A conversion between kinds of integers. -/
theorem Q_convI {T T2 : TypeId} {k k1 k2 : IntKind} {m : Int} (hx : σ.ev x = .d (.i k m)) (h1 : P.underlying T = some (.int k1)) (h2 : P.underlying T2 = some (.int k2)) : Quiet P A σ ⟨dst, .convert T T2 x, ty, pos, af, g⟩ (.d (.i k2 (k2.wrap m))) := Quiet.pure fun S env a w hH ho => by
  have h3 := ho x (by simp [Op.operands])
  rw [hx, SVr.int] at h3
  exact ⟨.int k2 (k2.wrap m), by simp [execOp, h3, convert, run_underlying h1, run_underlying h2, Conv.intToInt], SVr.int.2 rfl⟩
/-- A slice of one byte, as a string. -/
theorem Q_convB1 {T T2 e : TypeId} {j ver e' : Nat} {m : Int} (hx : σ.ev x = .sl j ver) (hL : σ.L[j]? = some (.own e' 1 ver [.i .u8 m])) (h1 : P.underlying T = some (.slice e)) (h2 : P.underlying e = some (.int .u8)) (h3 : P.underlying T2 = some .string) :
    Quiet P A σ ⟨dst, .convert T T2 x, ty, pos, af, g⟩ (.d (.s [UInt8.ofNat m.toNat])) := Quiet.pure fun S env a w hH ho => by
  have h4 := ho x (by simp [Op.operands])
  rw [hx] at h4
  simp only [SVr] at h4
  obtain ⟨hv, o, k1, k2, k3, k5, k4⟩ := h4
  rw [hL] at k2
  obtain rfl := Option.some.inj k2
  have k6 := k4 rfl
  obtain ⟨_, _, ⟨xs, h5, h6⟩, _⟩ := hH.objs j _ hv hL k1
  simp only [Trs, Tr, U.sz] at h6
  have hl := h5.1
  match xs, hl with
  | [c], _ =>
    simp only [List.take_succ_cons, List.take_zero, List.cons.injEq, and_true] at h6
    obtain ⟨rfl, _⟩ := h6
    rcases h5.2 with ⟨_, h0⟩ | ⟨b, cap, cur, rfl, r⟩
    · simp at h0
    · refine ⟨.string ⟨#[UInt8.ofNat m.toNat]⟩, ?_, SVr.str.2 ⟨by simp [big_eq], rfl⟩⟩
      have hld := run_loadCells_list (P := P) (w := w) ⟨b, 0, none⟩ [.int .u8 m] (fun j u hu => h5.cells (g := b) rfl j u hu)
      simp only [List.length_cons, List.length_nil, Nat.zero_add] at hld
      simp [execOp, k6, convert, run_underlying h1, run_underlying h2, run_underlying h3, Conv.bytesToString, hld]
      rfl
theorem Q_adds {T T' : TypeId} {a b : List UInt8} (hx : σ.ev x = .d (.s a)) (hy : σ.ev y = .d (.s b)) (hl : a.length + b.length ≤ big) : Quiet P A σ ⟨dst, .binOp .add T x y T', ty, pos, af, g⟩ (.d (.s (a ++ b))) := Quiet.pure fun S env ac w hH ho => by
  have h1 := ho x (by simp [Op.operands])
  have h2 := ho y (by simp [Op.operands])
  rw [hx, SVr.str] at h1
  rw [hy, SVr.str] at h2
  refine ⟨.string ⟨(a ++ b).toArray⟩, ?_, SVr.str.2 ⟨by rw [List.length_append]; exact hl, rfl⟩⟩
  rw [big_eq] at hl
  have hs : (⟨a.toArray⟩ : ByteArray).size = a.length := rfl
  have hs' : (⟨b.toArray⟩ : ByteArray).size = b.length := rfl
  have happ : (⟨a.toArray⟩ : ByteArray) ++ ⟨b.toArray⟩ = ⟨(a ++ b).toArray⟩ := by
    apply ByteArray.ext
    simp [ByteArray.data_append]
  simp [execOp, h1.2, h2.2, eqGuard, binOp, Op.stringOp, hs, hs', happ]
  omega
end
end Go.Eng
