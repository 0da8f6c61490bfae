/- The engine, part 40: what a function owns, compact rules. -/
import Derived.Test.YtgmlpaaklnkghaaGreatEng39
set_option linter.unusedVariables false
set_option linter.unusedSimpArgs false
namespace Go.Eng
open Go Go.RowKit
section
variable {P : Program} {A : Amb} {ops : Array Oper} {K : St → Prop} {Q : Exit → St → Prop} {rest : List Oper} {σ : St} {fr : List (Nat × SV)} {L L1 L' news : List LO} {N i t n : Nat} {sv : SV} {o : Oper} {c : Code}
variable {ty T : TypeId} {pos : String} {af : Array Edge} {x y : Operand} {g : Option (Nat × Bool)} {dst : Option Nat} {op : Op} {r : List (Nat × Bool)} {pf : PF} {j : Nat}
/-- A call whose result is owned. -/
theorem VO_co {f : Operand} {fi : Nat} {args : Array Operand} {at_ : Array TypeId} {dargs : List SV} {es : List TypeId} {us : List U} (hspec : SpecO P fi dargs es us) (h : VO P A ops rest ⟨(t, sv) :: fr, L', N⟩ K) (hf : (St.mk fr L N).ev f = .fn fi [] := by rfl)
    (hargs : WCs L (args.toList.map (St.mk fr L N).ev) dargs := by ((repeat (first | exact trivial | exact rfl | exact ⟨_, rfl⟩ | refine And.intro ?_ ?_)); first | done | fail)) (hn : Ln L n := by repeat constructor) (hy : OYr n es us sv news := by ((repeat constructor); first | done | fail)) (hj : Jn L news L' := by repeat constructor) (ht : Nat.blt t N = true := by rfl) :
    VO P A ops (⟨some t, .call { callee := .value f, args := args, argTypes := at_ }, ty, pos, af, none⟩ :: rest) ⟨fr, L, N⟩ K := VO_callO hf hspec hargs hn hy hj ht h
theorem VY_co {f : Operand} {fi : Nat} {args : Array Operand} {at_ : Array TypeId} {dargs : List SV} {es : List TypeId} {us : List U} (hspec : SpecO P fi dargs es us) (h : VY P A ops K r pf ⟨(t, sv) :: fr, L', N⟩)
    (hi : ops[i]? = some ⟨some t, .call { callee := .value f, args := args, argTypes := at_ }, ty, pos, af, none⟩ := by rfl) (hf : (St.mk fr L N).ev f = .fn fi [] := by rfl)
    (hargs : WCs L (args.toList.map (St.mk fr L N).ev) dargs := by ((repeat (first | exact trivial | exact rfl | exact ⟨_, rfl⟩ | refine And.intro ?_ ?_)); first | done | fail)) (hn : Ln L n := by repeat constructor) (hy : OYr n es us sv news := by ((repeat constructor); first | done | fail)) (hj : Jn L news L' := by repeat constructor) (ht : Nat.blt t N = true := by rfl)
    (hp : PfOk ops i L' pf := by (repeat (first | exact PfOk.nil | (apply PfOk.keep; focus ((repeat constructor); done)) | (apply PfOk.dep; focus kernel_rfl)))) :
    VY P A ops K ((i, false) :: r) pf ⟨fr, L, N⟩ := VY_hst hi (HSt_callO hf hspec hargs hn hy hj ht) hp h
/-- make([]T, n), owned. -/
theorem VO_mk {α : Type} {en : α → U} {es : List α → List U} {z : Nat} [E : Enc α en es z] (a0 : α) {e bs m : Nat} {gg : Bool} (hg : m ≤ 4294967296) [TE P T e] [TI P e gg z bs] {zs : List Value} [TZ P e zs] (h : VO P A ops rest ⟨(t, .sl i 0) :: fr, L', N⟩ K)
    (hx : (St.mk fr L N).ev x = .d (.i .i64 (m : Int)) := by rfl) (hy : (St.mk fr L N).ev y = .d (.i .i64 (m : Int)) := by rfl) (hzu : ZeroT (en a0) zs := by exact zeroT (by repeat constructor) (by repeat constructor)) (hz : (Nat.blt 0 z && zs.length == z) = true := by rfl) (hb : Nat.ble bs 32768 = true := by rfl)
    (ht : Nat.blt t N = true := by rfl) (hL' : Sn (.own e z 0 (es (List.replicate m a0))) L i L' := by repeat constructor) :
    VO P A ops (⟨some t, .makeSlice T x y, ty, pos, af, none⟩ :: rest) ⟨fr, L, N⟩ K := by
  have hb := Nat.le_of_ble_eq_true hb
  rw [Enc.rep (es := es)] at hL'
  refine VR_make hx hy TE.h TI.h TZ.h hz hzu (Int.natCast_nonneg m) (Int.le_refl _) (by rw [big_eq]; omega) ?_ ht (by rwa [Int.toNat_natCast]) h
  have : bs * m ≤ 32768 * 4294967296 := Nat.mul_le_mul hb hg
  omega
theorem Q_ixo {α : Type} {en : α → U} {es : List α → List U} {z : Nat} [E : Enc α en es z] {e bs ver e' : Nat} {gg : Bool} {l : List α} (k : Nat) (hk : k < l.length) [TE P T e] [TI P e gg z bs] (hx : σ.ev x = .sl j ver := by rfl) (hL : σ.L[j]? = some (.own e' z ver (es l)) := by rfl) (hy : σ.ev y = .d (.i .i64 (k : Int)) := by rfl) :
    Quiet P A σ ⟨dst, .indexAddr T x y, ty, pos, af, g⟩ (.ep j ver z k 0) := by
  have := Q_index_own (P := P) (A := A) (dst := dst) (ty := ty) (pos := pos) (af := af) (g := g) hx hL .own hy (TE.h : tyE P T = some e) (TI.h : tyI P e = some (gg, z, bs)) (Int.natCast_nonneg k) (by rw [Enc.len]; omega)
  simpa using this
/-- A whole element is stored. -/
theorem VO_st {α : Type} {en : α → U} {es : List α → List U} {z : Nat} [E : Enc α en es z] {e bs ver k : Nat} {gg : Bool} {l : List α} (a : α) {js : List Nat} (hk : k < l.length) [TI P T gg z bs] (h : VO P A ops rest ⟨fr, L', N⟩ K) (hx : (St.mk fr L N).ev x = .ep i ver z k 0 := by rfl) (hL : L[i]? = some (.own e z ver (es l)) := by rfl)
    (hy : OV L ((St.mk fr L N).ev y) (en a) js := by ((repeat constructor); first | done | fail)) (hjs : (decide js.Nodup && !js.contains i) = true := by decide) (hk1 : KR js L L1 := by repeat constructor) (hL' : St1 (.own e z ver (es (l.set k a))) i L1 L' := by repeat constructor) :
    VO P A ops (⟨none, .store T x y, ty, pos, af, none⟩ :: rest) ⟨fr, L, N⟩ K := by
  rw [Enc.set (es := es)] at hL'
  exact VR_store hx hL hy hjs TI.h (Enc.hz a) (by rw [Enc.len]; exact hk) hk1 hL' h
/-- A literal of one element, owned. -/
theorem VO_l1t {α : Type} {en : α → U} {es : List α → List U} {z : Nat} [E : Enc α en es z] (a : α) {e bs : Nat} {gg : Bool} [TE P T e] [TI P e gg z bs] {zs : List Value} [TZ P e zs] {js : List Nat} (h : VO P A ops rest ⟨(t, .sl i 0) :: fr, L', N⟩ K) (hy : OV L ((St.mk fr L N).ev x) (en a) js := by ((repeat constructor); first | done | fail)) (hjs : decide js.Nodup = true := by decide)
    (hz : (Nat.blt 0 z && Nat.blt z 16777216 && zs.length == z) = true := by rfl) (ht : Nat.blt t N = true := by rfl) (hk1 : KR js L L1 := by repeat constructor) (hL' : Sn (.own e z 0 (es [a])) L1 i L' := by repeat constructor) :
    VO P A ops (⟨some t, .buildSlice T 1 #[(0, x)], ty, pos, af, none⟩ :: rest) ⟨fr, L, N⟩ K := by
  have e1 : es [a] = [en a] := by rw [E.h]; rfl
  rw [e1] at hL'
  exact VR_slit1 hy hjs TE.h TI.h TZ.h hz (Enc.hz a) ht hk1 hL' h
theorem VY_l1t {α : Type} {en : α → U} {es : List α → List U} {z : Nat} [E : Enc α en es z] (a : α) {e bs m : Nat} {gg : Bool} [TE P T e] [TI P e gg z bs] {zs : List Value} [TZ P e zs] {js : List Nat} (h : VY P A ops K r pf ⟨(t, .sl m 0) :: fr, L', N⟩) (hi : ops[i]? = some ⟨some t, .buildSlice T 1 #[(0, x)], ty, pos, af, none⟩ := by rfl) (hy : OV L ((St.mk fr L N).ev x) (en a) js := by ((repeat constructor); first | done | fail)) (hjs : decide js.Nodup = true := by decide)
    (hz : (Nat.blt 0 z && Nat.blt z 16777216 && zs.length == z) = true := by rfl) (ht : Nat.blt t N = true := by rfl) (hk1 : KR js L L1 := by repeat constructor) (hL' : Sn (.own e z 0 (es [a])) L1 m L' := by repeat constructor)
    (hp : PfOk ops i L' pf := by (repeat (first | exact PfOk.nil | (apply PfOk.keep; focus ((repeat constructor); done)) | (apply PfOk.dep; focus kernel_rfl)))) :
    VY P A ops K ((i, false) :: r) pf ⟨fr, L, N⟩ := by
  have e1 : es [a] = [en a] := by rw [E.h]; rfl
  rw [e1] at hL'
  exact VY_hst hi (HSt_slit1 hy hjs TE.h TI.h TZ.h hz (Enc.hz a) ht hk1 hL') hp h
/-- Append to an owned array, in a drawn region. -/
theorem VY_ap {α : Type} {en : α → U} {es : List α → List U} {z : Nat} [E : Enc α en es z] {l l' : List α} (hg : l.length + l'.length ≤ 4294967296) {e bs ver m : Nat} {gg : Bool} [TE P T e] [TI P e gg z bs] {zs : List Value} [TZ P e zs] {js : List Nat} {T' : TypeId}
    (h : VY P A ops K r pf ⟨(t, .sl m (ver + 1)) :: fr, L', N⟩) (hi : ops[i]? = some ⟨some t, .call { callee := .builtin .append, args := #[x, y], argTypes := #[T, T] }, T', pos, af, none⟩ := by rfl) (hx : (St.mk fr L N).ev x = .sl m ver := by rfl) (hL : L[m]? = some (.own e z ver (es l)) := by rfl) (hs : SrcO L z ((St.mk fr L N).ev y) (es l') js := by first | exact .own rfl | exact .nil | exact .data (Enc.all _) (eStrs_noSl _) | exact .data (Enc.all _) (eInts_noSl _))
    (hjs : (decide js.Nodup && !js.contains m) = true := by decide) (hz : (Nat.blt 0 z && zs.length == z) = true := by rfl) (hb : Nat.ble bs 32768 = true := by rfl)
    (ht : Nat.blt t N = true := by rfl) (hk1 : KR js L L1 := by repeat constructor) (hL' : St1 (.own e z (ver + 1) (es (l ++ l'))) m L1 L' := by repeat constructor)
    (hp : PfOk ops i L' pf := by (repeat (first | exact PfOk.nil | (apply PfOk.keep; focus ((repeat constructor); done)) | (apply PfOk.dep; focus kernel_rfl)))) :
    VY P A ops K ((i, false) :: r) pf ⟨fr, L, N⟩ := by
  have h1 : (es l).length = l.length := Enc.len l
  have h2 : (es l').length = l'.length := Enc.len l'
  have hb := Nat.le_of_ble_eq_true hb
  rw [Enc.app (es := es)] at hL'
  refine VY_hst hi (HSt_append hx hL hs hjs TE.h TI.h TZ.h hz (by rw [big_eq]; omega) ?_ ht hk1 hL') hp h
  rw [h1, h2]
  exact Nat.le_trans (Nat.mul_le_mul hg hb) (by decide)
end
end Go.Eng
set_option linter.unusedVariables false
set_option linter.unusedSimpArgs false
namespace Go.Eng
open Go Go.RowKit
end Go.Eng
namespace Go.Eng
open Go Go.RowKit
/-- Orders: q a quiet operation; h one that may come now, and the others that may (up to nil). -/
inductive OT where
  | nil
  | q (i : Nat) (t : OT)
  | h (i : Nat) (t r : OT)
def OT.heads : OT → List Nat
  | .h i _ r => i :: r.heads
  | _ => []
def checkT (md : Region.Mode) (ops : Array Oper) : OT → Nat → Array Bool → Bool → Bool
  | .nil, n, listed, b => b || (n == 0 && (Region.ready md ops listed).isEmpty)
  | .q i t, n, listed, b => !b && Nat.blt 0 n && (Region.ready md ops listed).contains i && Region.free md ops listed i && checkT md ops t (n - 1) (listed.setIfInBounds i true) false
  | .h i t r, n, listed, b => Nat.blt 0 n && (b || Region.ready md ops listed == i :: r.heads) && checkT md ops t (n - 1) (listed.setIfInBounds i true) false && checkT md ops r n listed true
section
variable {P : Program} {A : Amb} {ops : Array Oper} {K : St → Prop} {σ σ' : St} {t r : OT} {pf : PF} {i : Nat} {b : Bool}
def VT (P : Program) (A : Amb) (ops : Array Oper) (K : St → Prop) : OT → PF → St → Bool → Prop
  | .nil, _, σ, b => b = true ∨ K σ
  | .q i t, pf, σ, _ => ∃ o sv B, ops[i]? = some o ∧ PSt P A ops B σ o sv ∧ VT P A ops K t ((i, B) :: pf) (σ.setO o.dst sv) false
  | .h i t r, pf, σ, _ => (∃ o Z, ops[i]? = some o ∧ HStE P A ops σ o Z ∧ ∀ sv L', Z sv L' → (∀ p ∈ pf, depB .any ops ops.size p.1 i = true ∨ Keep p.2 L') ∧ VT P A ops K t pf (St.setO ⟨σ.fr, L', σ.N⟩ o.dst sv) false) ∧ VT P A ops K r pf σ true
theorem VT.vx (hK : ∀ σ σ', Alike σ σ' → K σ → K σ') : ∀ (T : OT) (n : Nat) (listed : Array Bool) (pf : PF) (σ : St), Closed .any ops listed →
    (checkT .any ops T n listed false = true → VT P A ops K T pf σ false → VX P A .any ops K n listed pf σ) ∧
    (checkT .any ops T (n + 1) listed true = true → VT P A ops K T pf σ true → ∀ j ∈ T.heads, j ∈ Region.ready .any ops listed → ∃ o, ops[j]? = some o ∧ ∃ Z, HStE P A ops σ o Z ∧ ∀ sv L', Z sv L' → (∀ p ∈ pf, depB .any ops ops.size p.1 j = true ∨ Keep p.2 L') ∧ VX P A .any ops K n (listed.setIfInBounds j true) pf (St.setO ⟨σ.fr, L', σ.N⟩ o.dst sv)) := by
  intro T
  induction T with
  | nil =>
    intro n listed pf σ hc
    refine ⟨fun hB h => ?_, fun _ _ j hj => by simp [OT.heads] at hj⟩
    simp only [checkT, Bool.false_or, Bool.and_eq_true, beq_iff_eq] at hB
    simp only [VT, Bool.false_eq_true, false_or] at h
    obtain ⟨rfl, hB⟩ := hB
    exact ⟨by simpa using hB, h⟩
  | q i t ih =>
    intro n listed pf σ hc
    refine ⟨fun hB h => ?_, fun hB => by simp [checkT] at hB⟩
    simp only [checkT, Bool.not_false, Bool.true_and, Bool.and_eq_true, Nat.blt_eq] at hB
    obtain ⟨⟨⟨h0, hr⟩, hfr⟩, hB⟩ := hB
    obtain ⟨m, rfl⟩ : ∃ m, n = m + 1 := ⟨n - 1, by omega⟩
    simp only [Nat.add_sub_cancel] at hB
    obtain ⟨o, sv, B, h1, h2, h3⟩ := h
    have hr : i ∈ Region.ready .any ops listed := by simpa using hr
    exact VX.first hK h1 m listed pf σ hc (Region.free_spec h1 hfr) hr h2 ((ih m _ _ _ (hc.step hr)).1 hB h3)
  | h i t r iht ihr =>
    intro n listed pf σ hc
    have key : ∀ (m : Nat) (b : Bool), checkT .any ops (.h i t r) (m + 1) listed b = true → VT P A ops K (.h i t r) pf σ b → ∀ j ∈ (OT.h i t r).heads, j ∈ Region.ready .any ops listed → ∃ o, ops[j]? = some o ∧ ∃ Z, HStE P A ops σ o Z ∧ ∀ sv L', Z sv L' → (∀ p ∈ pf, depB .any ops ops.size p.1 j = true ∨ Keep p.2 L') ∧ VX P A .any ops K m (listed.setIfInBounds j true) pf (St.setO ⟨σ.fr, L', σ.N⟩ o.dst sv) := by
      intro m b hB h j hj hr
      simp only [checkT, Bool.and_eq_true, Nat.add_sub_cancel] at hB
      obtain ⟨⟨_, hB1⟩, hB2⟩ := hB
      obtain ⟨⟨o, Z, h1, h2, h3⟩, h5⟩ := h
      simp only [OT.heads, List.mem_cons] at hj
      rcases hj with rfl | hj
      · exact ⟨o, h1, Z, h2, fun sv L' hz => ⟨(h3 sv L' hz).1, (iht m _ _ _ (hc.step hr)).1 hB1 (h3 sv L' hz).2⟩⟩
      · exact (ihr m listed pf σ hc).2 hB2 h5 j hj hr
    refine ⟨fun hB h => ?_, fun hB h => key n true hB h⟩
    have hB' := hB
    simp only [checkT, Bool.and_eq_true, Nat.blt_eq, Bool.false_or, beq_iff_eq] at hB'
    obtain ⟨⟨⟨h0, hrd⟩, _⟩, _⟩ := hB'
    obtain ⟨m, rfl⟩ : ∃ m, n = m + 1 := ⟨n - 1, by omega⟩
    refine ⟨fun h0 => (by rw [hrd] at h0; cases h0), fun j hj => ?_⟩
    obtain ⟨o, h1, Z, h2, h3⟩ := key m false hB h j (by simp only [OT.heads]; rw [← hrd]; exact hj) hj
    exact ⟨o, h1, .inr ⟨Z, h2, h3⟩⟩
theorem VT.mono {K' : St → Prop} (hK : ∀ s, K s → K' s) : ∀ (T : OT) (pf : PF) (σ : St) (b : Bool), VT P A ops K T pf σ b → VT P A ops K' T pf σ b
  | .nil, _, _, _, h => h.imp id (hK _)
  | .q _ t, _, _, _, ⟨o, sv, B, h1, h2, h3⟩ => ⟨o, sv, B, h1, h2, VT.mono hK t _ _ _ h3⟩
  | .h _ t r, _, _, _, ⟨⟨o, Z, h1, h2, h3⟩, h5⟩ => ⟨⟨o, Z, h1, h2, fun sv L' hz => ⟨(h3 sv L' hz).1, VT.mono hK t _ _ _ (h3 sv L' hz).2⟩⟩, VT.mono hK r _ _ _ h5⟩
theorem V_drawT {id : Nat} {l : List Oper} {Q : Exit → St → Prop} (hm : P.follows .mixedOrders = true) (T : OT) (hB : checkT .any l.toArray T l.length (Array.replicate l.length false) false = true)
    (h : VT P A l.toArray (Q .normal) T [] σ false) : V P A (.region id l.toArray true) σ Q := by
  intro a w hr
  refine wp_region_any hm ?_
  have h1 := VT.mono (K' := fun s => ∃ s', Alike s s' ∧ Q .normal s') (fun s hs => ⟨s, .refl, hs⟩) T [] σ false h
  have hc : Closed .any l.toArray (Array.replicate l.length false) := fun k o _ hl => by rw [Array.getD_eq_getD_getElem?, Array.getElem?_replicate] at hl; split at hl <;> simp at hl
  have h2 := (VT.vx (fun σ σ' ha ⟨s', k1, k2⟩ => ⟨s', ha.symm.trans k1, k2⟩) T l.length _ _ _ hc).1 hB h1
  have h3 := VX.wp (R := fun e a' w' => ∃ σ', Q e σ' ∧ Realz A σ' a' w') (fun s a' w' ⟨s', k1, k2⟩ hr' => ⟨s', k2, k1.realz hr'⟩) l.length _ _ σ a _ hr.drew h2
  simpa using h3
theorem VY_e : VY P A ops (fun s => s = σ) [] pf σ := rfl
theorem VT_q (h1 : VY P A ops (fun s => s = σ') [(i, true)] pf σ) (h : VT P A ops K t ((i, σ.L) :: pf) σ' false) : VT P A ops K (.q i t) pf σ b := by
  obtain ⟨o, sv, k1, k2, k3⟩ := h1
  have k3 : σ.setO o.dst sv = σ' := k3
  exact ⟨o, sv, σ.L, k1, k2, by rw [k3]; exact h⟩
/-- A move: it reads no object. -/
theorem VT_mv {d N : Nat} {x : Operand} {ty : TypeId} {pos : String} {af : Array Edge} {fr : List (Nat × SV)} {L : List LO} {sv : SV} (h : VT P A ops K t ((i, []) :: pf) ⟨(d, sv) :: fr, L, N⟩ false) (hi : ops[i]? = some ⟨some d, .move x, ty, pos, af, none⟩ := by rfl) (hx : (St.mk fr L N).ev x = sv := by rfl) (hd : Nat.blt d N = true := by rfl) : VT P A ops K (.q i t) pf ⟨fr, L, N⟩ b :=
  ⟨_, sv, [], hi, ⟨fun d' hd' => by cases hd'; exact hd, fun k cs hk => by simp at hk, .inl ⟨rfl, fun fr' L' he _ => Q_move (by rw [he x (by simp [Op.operands])]; exact hx)⟩⟩, h⟩
theorem VT_h (h1 : VY P A ops (fun s => s = σ') [(i, false)] pf σ) (h : VT P A ops K t pf σ' false) (hr : VT P A ops K r pf σ true) : VT P A ops K (.h i t r) pf σ b := by
  obtain ⟨o, Z, k1, k2, k3⟩ := h1
  exact ⟨⟨o, Z, k1, k2, fun sv L' hz => ⟨(k3 sv L' hz).1, by
    have k4 : St.setO ⟨σ.fr, L', σ.N⟩ o.dst sv = σ' := (k3 sv L' hz).2
    rw [k4]; exact h⟩⟩, hr⟩
theorem VT_h1 (h1 : VY P A ops (fun s => s = σ') [(i, false)] pf σ) (h : VT P A ops K t pf σ' false) : VT P A ops K (.h i t .nil) pf σ b := VT_h h1 h (.inl rfl)
theorem VT_nil (h : K σ) : VT P A ops K .nil pf σ b := .inr h
/-- The same state, its objects in another order. -/
theorem V_pk {c : Code} {Q : Exit → St → Prop} {fr fr' : List (Nat × SV)} {L Lc : List LO} {N : Nat} (n : Nat) [BaseN A n] (js : List Nat) (h : V P A c ⟨fr', Lc, N⟩ Q) (hp : pickB L (rn js L.length) 0 Lc := by ((repeat (first | exact trivial | exact rfl | refine And.intro ?_ ?_)); first | done | fail))
    (hjs : (decide js.Nodup && (js.all fun j => Nat.blt j L.length) && LO.lts Lc.length Lc) = true := by rfl) (hn : (js.length == Lc.length && Nat.ble n Lc.length && (List.range n).all fun i => js[i]? == some i) = true := by rfl)
    (hfr : LePF (rn js L.length) fr Lc.length fr' := by ((repeat (first | exact trivial | exact rfl | refine And.intro ?_ ?_)); first | done | fail)) : V P A c ⟨fr, L, N⟩ Q := by
  simp only [Bool.and_eq_true, decide_eq_true_eq, List.all_eq_true, Nat.blt_eq] at hjs
  obtain ⟨⟨hnd, hlt⟩, hlts⟩ := hjs
  exact V_pick (n := n) js h ⟨fun m o ho => by simpa using pickB_get hp m o ho, fun m m' _ _ he => rn_inj hlt hnd he, hlts⟩ hn hfr
/-- The like of goY. -/
theorem goT {X Y : Prop} (hy : Y) (h : Y → X := by
    intro hy
    repeat (first | refine VT_mv ?_ | refine VT_q (VY_r QR_len VY_e) ?_ | refine VT_q (VY_d rfl VY_e (by (repeat constructor); first | done | fail)) ?_ | refine VT_h1 (VY_h rfl (by repeat constructor) (by repeat (first | exact PfOk.nil | (apply PfOk.keep; focus ((repeat constructor); done)) | (apply PfOk.dep; focus kernel_rfl))) VY_e) ?_)
    exact hy) : X := h hy
end
end Go.Eng
namespace Go.Eng
open Go Go.RowKit
section
variable {P : Program} {A : Amb} {ops : Array Oper} {K : St → Prop} {Q : Exit → St → Prop} {rest : List Oper} {σ σ' σJ : St} {fr : List (Nat × SV)} {L : List LO} {N t : Nat} {sv : SV}
variable {ty : TypeId} {pos : String} {af : Array Edge} {op : Op}
theorem VQ.alike (hK : ∀ s s', Alike s s' → K s → K s') : ∀ (l : List Oper) {σ σ' : St}, Alike σ σ' → VQ P A ops l σ K → VQ P A ops l σ' K
  | [], _, _, ha, h => hK _ _ ha h
  | o :: l, _, _, ha, ⟨sv, h1, h2⟩ => ⟨sv, YS.congr ha.L.symm ha.N.symm (fun t _ => (ha.fr t).symm) h1, VQ.alike hK l (ha.setO o.dst sv) h2⟩
theorem LeF.alike {n : Nat} (hl : ∀ t, Go.Eng.look σ.fr t = Go.Eng.look σ'.fr t) : ∀ {fr' : List (Nat × SV)}, LeF σ.fr n fr' → LeF σ'.fr n fr'
  | [], h => h
  | p :: r, h => ⟨⟨by rw [← hl]; exact h.1.1, h.1.2⟩, LeF.alike hl h.2⟩
theorem Le.alike (ha : Alike σ σ') (h : Le σ σJ) : Le σ' σJ := ⟨by rw [← ha.N]; exact h.N, LeF.alike ha.fr h.fr, by rw [← ha.L]; exact h.L, h.lt⟩
theorem VQ_case {c : Bool} (tj : Nat) (ht : c = true → VQ P A ops rest ⟨(tj, .d (.b true)) :: fr, L, N⟩ (fun s => Le s σJ)) (hf : c = false → VQ P A ops rest ⟨(tj, .d (.b false)) :: fr, L, N⟩ (fun s => Le s σJ)) (hb : look fr tj = .d (.b c) := by rfl) : VQ P A ops rest ⟨fr, L, N⟩ (fun s => Le s σJ) := by
  have key : ∀ c', c = c' → Alike (σ := ⟨(tj, .d (.b c')) :: fr, L, N⟩) (σ' := ⟨fr, L, N⟩) := fun c' hc => ⟨rfl, rfl, fun t => by
    simp only [look]
    by_cases h : t = tj
    · subst h
      rw [if_pos rfl, ← hc, ← hb]
    · rw [if_neg h]⟩
  cases hc : c with
  | true => exact VQ.alike (fun _ _ => Le.alike) rest (key true hc) (ht hc)
  | false => exact VQ.alike (fun _ _ => Le.alike) rest (key false hc) (hf hc)
/-- A guarded operation that runs. -/
theorem VQ_rg {j tj : Nat} {want : Bool} {o' : Oper} (hq : QR P ⟨fr, L, N⟩ ⟨some t, op, ty, pos, af, some (j, want)⟩ sv) (h : VQ P A ops rest ⟨(t, sv) :: fr, L, N⟩ K) (hj : ops[j]? = some o' := by rfl) (hdst : o'.dst = some tj := by rfl) (htj : Nat.blt tj N = true := by rfl) (hb : look fr tj = .d (.b want) := by rfl) (ht : Nat.blt t N = true := by rfl) :
    VQ P A ops (⟨some t, op, ty, pos, af, some (j, want)⟩ :: rest) ⟨fr, L, N⟩ K := VQ_run hj hdst htj hb hq.q ht h
/-- A quiet region that draws, its ways joined at its end. -/
theorem V_seqJ_draw {id : Nat} {l : List Oper} {y : Code} (hm : P.follows .mixedOrders = true) (σJ : St) (hB : Region.lexB .any l.toArray = true) (h1 : VQ P A l.toArray l σ (fun s => Le s σJ)) (h2 : V P A y σJ Q) (hA : A.L0.length ≤ σJ.L.length := by rw [BaseN.h (A := A)]; exact Nat.le_of_ble_eq_true rfl) :
    V P A (.seq (.region id l.toArray true) y) σ Q := V_seqJ σJ (V_draw hm hB h1) h2 hA
/-- A drawn region; the orders end in one state, up to the numbers of the objects. -/
theorem V_drawTJ {id : Nat} {l : List Oper} (hm : P.follows .mixedOrders = true) (T : OT) (σ' : St) (hB : checkT .any l.toArray T l.length (Array.replicate l.length false) false = true)
    (h : VT P A l.toArray (fun s => ∀ a w, Realz A s a w → Realz A σ' a w) T [] σ false) (hr : Q .normal σ') : V P A (.region id l.toArray true) σ Q := fun a w hw =>
  wp_mono (V_drawT (Q := fun e s => e = .normal ∧ ∀ a w, Realz A s a w → Realz A σ' a w) hm T hB (VT.mono (fun s hs => ⟨rfl, hs⟩) T [] σ false h) a w hw) fun e a' w' ⟨s, ⟨k0, k1⟩, k2⟩ => by subst k0; exact ⟨σ', hr, k1 _ _ k2⟩
theorem V_seq_drawTJ {id : Nat} {l : List Oper} {y : Code} (hm : P.follows .mixedOrders = true) (T : OT) (σ' : St) (hB : checkT .any l.toArray T l.length (Array.replicate l.length false) false = true)
    (h : VT P A l.toArray (fun s => ∀ a w, Realz A s a w → Realz A σ' a w) T [] σ false) (hr : V P A y σ' Q) : V P A (.seq (.region id l.toArray true) y) σ Q := V_seq (V_drawTJ hm T σ' hB h hr)
theorem R_pk {fr' : List (Nat × SV)} {Lc : List LO} (n : Nat) [BaseN A n] (js : List Nat) (hp : pickB L (rn js L.length) 0 Lc := by ((repeat (first | exact trivial | exact rfl | refine And.intro ?_ ?_)); first | done | fail))
    (hjs : (decide js.Nodup && (js.all fun j => Nat.blt j L.length) && LO.lts Lc.length Lc) = true := by rfl) (hn : (js.length == Lc.length && Nat.ble n Lc.length && (List.range n).all fun i => js[i]? == some i) = true := by rfl)
    (hfr : LePF (rn js L.length) fr Lc.length fr' := by ((repeat (first | exact trivial | exact rfl | refine And.intro ?_ ?_)); first | done | fail)) : ∀ a w, Realz A ⟨fr, L, N⟩ a w → Realz A ⟨fr', Lc, N⟩ a w := by
  intro a w hr
  simp only [Bool.and_eq_true, decide_eq_true_eq, List.all_eq_true, Nat.blt_eq] at hjs
  obtain ⟨⟨hnd, hlt⟩, hlts⟩ := hjs
  exact hr.pick (n := n) js ⟨fun m o ho => by simpa using pickB_get hp m o ho, fun m m' _ _ he => rn_inj hlt hnd he, hlts⟩ hn hfr
/-- A literal of several elements. -/
theorem VO_lb {e z bs n i : Nat} {T : TypeId} {L' : List LO} {gg : Bool} [TE P T e] [TI P e gg z bs] {zs : List Value} [TZ P e zs] {us : List U} {ps : Array (Nat × Operand)} (h : VO P A ops rest ⟨(t, .sl i 0) :: fr, L', N⟩ K) (hps : ps.toList = ((ps.toList.map Prod.snd).zipIdx 0).map (fun p => (p.2, p.1)) := by rfl)
    (hy : VDs ⟨fr, L, N⟩ (ps.toList.map Prod.snd) us := by (repeat (first | exact .nil | refine .cons (by ((repeat (first | exact trivial | exact rfl | exact ⟨_, rfl⟩ | refine And.intro ?_ ?_)); first | done | fail)) ?_))) (hu : (us.all fun u => u.sz == z) = true := by rfl) (hn : ((ps.toList.map Prod.snd).length == n && Nat.blt 0 n) = true := by rfl)
    (hz : (Nat.blt 0 z && Nat.ble (n * z) 16777216 && zs.length == z) = true := by rfl) (ht : Nat.blt t N = true := by rfl) (hL' : Sn (.arr e z 0 us) L i L' := by repeat constructor) :
    VO P A ops (⟨some t, .buildSlice T n ps, ty, pos, af, none⟩ :: rest) ⟨fr, L, N⟩ K := VO_la h hps hy hu hn hz ht hL'
theorem VO_rg {j tj : Nat} {want : Bool} {o' : Oper} (hq : QR P ⟨fr, L, N⟩ ⟨some t, op, ty, pos, af, none⟩ sv) (h : VO P A ops rest ⟨(t, sv) :: fr, L, N⟩ K) (hj : ops[j]? = some o' := by rfl) (hdst : o'.dst = some tj := by rfl) (htj : Nat.blt tj N = true := by rfl) (hb : look fr tj = .d (.b want) := by rfl) (ht : Nat.blt t N = true := by rfl) :
    VO P A ops (⟨some t, op, ty, pos, af, some (j, want)⟩ :: rest) ⟨fr, L, N⟩ K := VO_b (VO_r hq h ht) hj hdst htj hb
/-! arrays of the call's own whose elements are shared data -/
theorem Q_lena {α : Type} {e : α → U} {es : List α → List U} {z z' : Nat} [E : Enc α e es z] {el : TypeId} {T T' : TypeId} {x : Operand} {g : Option (Nat × Bool)} {dst : Option Nat} [TE P T el] {l : List α} {i ver e' : Nat} (hx : σ.ev x = .sl i ver := by rfl) (hL : σ.L[i]? = some (.arr e' z' ver (es l)) := by rfl) : Quiet P A σ ⟨dst, .call { callee := .builtin .len, args := #[x], argTypes := #[T] }, T', pos, af, g⟩ (.d (.i .i64 (l.length : Int))) := by
  rw [← Enc.len (es := es) l]
  exact Q_len_arr hx hL TE.h
theorem Q_ixa {α : Type} {en : α → U} {es : List α → List U} {z : Nat} [E : Enc α en es z] {e bs ver j : Nat} {T : TypeId} {x y : Operand} {g : Option (Nat × Bool)} {dst : Option Nat} {gg : Bool} {l : List α} (k : Nat) (hk : k < l.length) [TE P T e] [TI P e gg z bs] (hx : σ.ev x = .sl j ver := by rfl) (hL : σ.L[j]? = some (.arr e z ver (es l)) := by rfl) (hy : σ.ev y = .d (.i .i64 (k : Int)) := by rfl) :
    Quiet P A σ ⟨dst, .indexAddr T x y, ty, pos, af, g⟩ (.ep j ver z k 0) := by
  have := Q_index_arr (P := P) (A := A) (dst := dst) (ty := ty) (pos := pos) (af := af) (g := g) hx hL hy (TE.h : tyE P T = some e) (TI.h : tyI P e = some (gg, z, bs)) (Int.natCast_nonneg k) (by rw [Enc.len]; omega)
  simpa using this
/-- Append data, or such an array, to such an array. -/
theorem VO_apa {α : Type} {en : α → U} {es : List α → List U} {z : Nat} [E : Enc α en es z] {l r : List α} (hg : l.length + r.length ≤ 4294967296) {e bs ver i : Nat} {T T' : TypeId} {x y : Operand} {L' : List LO} {gg : Bool} [TE P T e] [TI P e gg z bs] {zs : List Value} [TZ P e zs]
    (h : VO P A ops rest ⟨(t, .sl i (ver + 1)) :: fr, L', N⟩ K) (hx : (St.mk fr L N).ev x = .sl i ver := by rfl) (hL : L[i]? = some (.arr e z ver (es l)) := by rfl) (hs : SrcOf ⟨fr, L, N⟩ z (es r) ((St.mk fr L N).ev y) := by first | exact ⟨_, rfl⟩ | exact ⟨rfl, rfl, Enc.all _⟩ | exact rfl)
    (hz : (Nat.blt 0 z && zs.length == z) = true := by rfl) (hb : Nat.ble bs 32768 = true := by rfl) (ht : Nat.blt t N = true := by rfl) (hL' : L.set i (.arr e z (ver + 1) (es (l ++ r))) = L' := by rfl) :
    VO P A ops (⟨some t, .call { callee := .builtin .append, args := #[x, y], argTypes := #[T, T] }, T', pos, af, none⟩ :: rest) ⟨fr, L, N⟩ K := by
  have h1 : (es l).length = l.length := Enc.len l
  have h2 : (es r).length = r.length := Enc.len r
  have hb := Nat.le_of_ble_eq_true hb
  rw [Enc.app (es := es)] at hL'
  refine VO_append hx hL rfl hs TE.h TI.h TZ.h hz (Enc.all _) (by rw [big_eq]; omega) ?_ ht hL' h
  rw [h1, h2]
  exact Nat.le_trans (Nat.mul_le_mul hg hb) (by decide)
end
/-- On, until something needs help. -/
theorem goL {X Y : Prop} (hy : Y) (h : Y → X := by
    intro hy
    repeat (first | refine VO_r QR_len ?_ | refine VO_k Q_leno ?_ | refine VO_k Q_lena ?_ | refine VO_rg QR_len ?_ | refine VO_pa ?_ | refine VO_pu ?_ | refine VO_d ?_ (by (repeat constructor); first | done | fail) | refine VQ_r QR_len ?_ | refine VQ_rg QR_len ?_ | refine VQ_d ?_ (by (repeat constructor); first | done | fail) | refine VO_nil ?_ | refine VQ_nil ?_ | refine V_seq_region ?_ | refine V_seqseq ?_ | refine V_seq_draw Mix.h (by kernel_rfl) ?_ | refine V_region ?_ | refine V_draw Mix.h (by kernel_rfl) ?_)
    exact hy) : X := h hy
/-- The like; no region that draws is entered. -/
theorem goNL {X Y : Prop} (hy : Y) (h : Y → X := by
    intro hy
    repeat (first | refine VO_r QR_len ?_ | refine VO_k Q_leno ?_ | refine VO_k Q_lena ?_ | refine VO_rg QR_len ?_ | refine VO_pa ?_ | refine VO_pu ?_ | refine VO_d ?_ (by (repeat constructor); first | done | fail) | refine VQ_r QR_len ?_ | refine VQ_rg QR_len ?_ | refine VQ_d ?_ (by (repeat constructor); first | done | fail) | refine VO_nil ?_ | refine VQ_nil ?_ | refine V_seq_region ?_ | refine V_seqseq ?_ | refine V_region ?_)
    exact hy) : X := h hy
end Go.Eng
set_option linter.unusedVariables false
set_option linter.unusedSimpArgs false
namespace Go.Eng
open Go Go.RowKit
section
variable {P : Program} {A : Amb} {σ : St} {dst : Option Nat} {ty : TypeId} {pos : String} {af : Array Edge} {g : Option (Nat × Bool)}
/-- The empty literal, an array of shared elements. -/
theorem VO_l0a {ops : Array Oper} {K : St → Prop} {rest : List Oper} {fr : List (Nat × SV)} {L L' : List LO} {N i t : Nat} {T e z bs : Nat} {gg : Bool} [TE P T e] [TI P e gg z bs] (h : VO P A ops rest ⟨(t, .sl i 0) :: fr, L', N⟩ K) (ht : Nat.blt t N = true := by rfl) (hL' : Sn (.arr e z 0 []) L i L' := by repeat constructor) :
    VO P A ops (⟨some t, .buildSlice T 0 #[], ty, pos, af, none⟩ :: rest) ⟨fr, L, N⟩ K := by
  obtain ⟨hi, hL2⟩ := hL'.spec
  subst hi; subst hL2
  have hT : tyE P T = some e := TE.h
  have he : tyI P e = some (gg, z, bs) := TI.h
  refine VO_step rfl (fun S env a w hH hf hN hd => ?_) h
  obtain ⟨hH', C⟩ := hH.new (w' := w.alloc (.cells #[] e)) (.arr e z 0 []) (.slice (some ⟨w.heap.size, 0, none⟩) 0 0) (by simp) (fun b hb => heap_alloc_old w _ hb) rfl rfl rfl
    (fun b hb => by simp [LO.ft, blk] at hb; subst hb; simp)
    (fun C => ⟨by simp [big_eq], by simp, [], ⟨by simp, .inr ⟨w.heap.size, 0, #[], rfl, Nat.zero_le _, heap_alloc_new w _, Nat.le_refl _, by simp [maxLen], by simp, by simp⟩⟩, by simp [Rds]⟩)
  refine ⟨.value (.slice (some ⟨w.heap.size, 0, none⟩) 0 0), _, ?_, .inl ⟨_, rfl, realz_put hf hN hd ht hH' C ?_⟩⟩
  · simp [execOp, Instr.buildSlice, run_underlying (tyE_und hT), run_sizeOf he, Instr.fill, newRow]
    congr 2
    apply Array.ext'
    simp
  · simp only [SVr]
    exact ⟨.slice (some ⟨w.heap.size, 0, none⟩) 0 0, .arr e z 0 [], by rw [← hH.len]; simp, by simp, Nat.le_refl _, rfl, fun _ => rfl⟩
theorem VY_ri {ops : Array Oper} {K : St → Prop} {fr : List (Nat × SV)} {L : List LO} {N i t : Nat} {sv : SV} {op : Op} {r : List (Nat × Bool)} {pf : PF} (hi : ops[i]? = some ⟨some t, op, ty, pos, af, none⟩) (hq : QR P ⟨fr, L, N⟩ ⟨some t, op, ty, pos, af, none⟩ sv) (hv : VY P A ops K r ((i, L) :: pf) ⟨(t, sv) :: fr, L, N⟩) (ht : Nat.blt t N = true := by rfl) :
    VY P A ops K ((i, true) :: r) pf ⟨fr, L, N⟩ := VY_r hq hv hi ht
end
end Go.Eng
namespace Go.Eng
open Go Go.RowKit
/-- A pair of integers, as data or in parts. -/
inductive IsPair : SV → Int → Int → Prop
  | ag {a b : Int} : IsPair (.ag [.d (.i .i64 a), .d (.i .i64 b)]) a b
  | d {a b : Int} : IsPair (.d (.st [.i .i64 a, .i .i64 b])) a b
section
variable {P : Program} {A : Amb} {σ : St} {dst : Option Nat} {ty T T' : TypeId} {pos : String} {af : Array Edge} {g : Option (Nat × Bool)} {x y : Operand} {a b c d : Int}
theorem IsPair.r {S : Nat → Prop} {L : List LO} {env : List Value} {w : World} {sv : SV} {v : Value} (h : IsPair sv a b) (hv : SVr S L env w sv v) : v = .agg #[.int .i64 a, .int .i64 b] := by
  cases h with
  | ag => exact SVr.pair.1 hv
  | d =>
    simp only [SVr] at hv
    obtain ⟨cs, rfl, h⟩ := hv
    simp only [Rd, Rds] at h
    obtain ⟨c1, c2, rfl, rfl, c3, c4, rfl, rfl, rfl⟩ := h
    rfl
theorem QR_neP [TP P T] (hx : IsPair (σ.ev x) a b := by first | exact .ag | exact .d) (hy : IsPair (σ.ev y) c d := by first | exact .ag | exact .d) :
    QR P σ ⟨dst, .binOp .neq T x y T', ty, pos, af, g⟩ (.d (.b (!(a == c && b == d)))) := fun A fr' L' he _ => Quiet.pure fun S env ac w hH ho => by
  have h1 := ho x (by simp [Op.operands])
  have h2 := ho y (by simp [Op.operands])
  rw [he x (by simp [Op.operands])] at h1
  rw [he y (by simp [Op.operands])] at h2
  have h1 := hx.r h1
  have h2 := hy.r h2
  refine ⟨.bool (!(a == c && b == d)), ?_, SVr.bool.2 rfl⟩
  have := (TP.h : EqPair P T) w a b c d
  simp [execOp, h1, h2, eqGuard, binOp, this.1, this.2]
end
end Go.Eng
namespace Go.Eng
open Go Go.RowKit
end Go.Eng
namespace Go.Eng
open Go Go.RowKit
section
variable {P : Program} {A : Amb} {Q : Exit → St → Prop} {c : Code} {σ : St}
theorem V_loopR {α : Type} (I : α → St) (J : α → Prop) (μ : α → Nat) (x0 : α) (h0 : Le σ (I x0)) (hJ : J x0)
    (round : ∀ x, J x → V P A c (I x) (thenS (fun s => ∃ y, J y ∧ μ y < μ x ∧ ∀ a w, Realz A s a w → Realz A (I y) a w) Q)) (hA : ∀ x, A.L0.length ≤ (I x).L.length := by intro x; rw [BaseN.h (A := A)]; exact Nat.le_of_ble_eq_true rfl) : V P A (.loop c) σ Q := by
  intro a w hr
  refine wp_loop_ghost (fun n a w => ∃ x, μ x = n ∧ J x ∧ Realz A (I x) a w) (μ x0) ⟨x0, rfl, hJ, hr.le h0 (hA _)⟩ ?_
  intro n a w ⟨x, hn, hx, hr⟩
  refine wp_mono (round x hx a w hr) ?_
  intro e a' w' ⟨s, hq, hs⟩
  cases e with
  | normal =>
    obtain ⟨y, hJy, hlt, hle⟩ := hq
    exact ⟨μ y, hn ▸ hlt, y, rfl, hJy, hle _ _ hs⟩
  | exit id => exact ⟨s, hq, hs⟩
  | goto l => exact ⟨s, hq, hs⟩
  | ret => exact ⟨s, hq, hs⟩
  | panic ch => exact ⟨s, hq, hs⟩
  | outgrown => exact ⟨s, hq, hs⟩
theorem V_loopR5 {α0 α1 α2 α3 α4 : Type} (I : α0 → α1 → α2 → α3 → α4 → St) (J : α0 → α1 → α2 → α3 → α4 → Prop) (μ : α0 → α1 → α2 → α3 → α4 → Nat) (x0 : α0) (x1 : α1) (x2 : α2) (x3 : α3) (x4 : α4) (h0 : Le σ (I x0 x1 x2 x3 x4)) (hJ : J x0 x1 x2 x3 x4)
    (round : ∀ a0 a1 a2 a3 a4, J a0 a1 a2 a3 a4 → V P A c (I a0 a1 a2 a3 a4) (thenS (fun s => ∃ b0 b1 b2 b3 b4, J b0 b1 b2 b3 b4 ∧ μ b0 b1 b2 b3 b4 < μ a0 a1 a2 a3 a4 ∧ ∀ a w, Realz A s a w → Realz A (I b0 b1 b2 b3 b4) a w) Q)) (hA : ∀ a0 a1 a2 a3 a4, A.L0.length ≤ (I a0 a1 a2 a3 a4).L.length := by intros; rw [BaseN.h (A := A)]; exact Nat.le_of_ble_eq_true rfl) : V P A (.loop c) σ Q :=
  V_loopR (α := α0 × α1 × α2 × α3 × α4) (fun x => I (x.1) (x.2.1) (x.2.2.1) (x.2.2.2.1) (x.2.2.2.2)) (fun x => J (x.1) (x.2.1) (x.2.2.1) (x.2.2.2.1) (x.2.2.2.2)) (fun x => μ (x.1) (x.2.1) (x.2.2.1) (x.2.2.2.1) (x.2.2.2.2)) (x0, x1, x2, x3, x4) h0 hJ (fun x hx => V.mono (round (x.1) (x.2.1) (x.2.2.1) (x.2.2.2.1) (x.2.2.2.2) hx) (fun e s hq => by
    cases e with
    | normal =>
      obtain ⟨b0, b1, b2, b3, b4, h1, h2, h3⟩ := hq
      exact ⟨(b0, b1, b2, b3, b4), h1, h2, h3⟩
    | _ => exact hq)) (fun x => hA (x.1) (x.2.1) (x.2.2.1) (x.2.2.2.1) (x.2.2.2.2))
theorem V_loopR7 {α0 α1 α2 α3 α4 α5 α6 : Type} (I : α0 → α1 → α2 → α3 → α4 → α5 → α6 → St) (J : α0 → α1 → α2 → α3 → α4 → α5 → α6 → Prop) (μ : α0 → α1 → α2 → α3 → α4 → α5 → α6 → Nat) (x0 : α0) (x1 : α1) (x2 : α2) (x3 : α3) (x4 : α4) (x5 : α5) (x6 : α6) (h0 : Le σ (I x0 x1 x2 x3 x4 x5 x6)) (hJ : J x0 x1 x2 x3 x4 x5 x6)
    (round : ∀ a0 a1 a2 a3 a4 a5 a6, J a0 a1 a2 a3 a4 a5 a6 → V P A c (I a0 a1 a2 a3 a4 a5 a6) (thenS (fun s => ∃ b0 b1 b2 b3 b4 b5 b6, J b0 b1 b2 b3 b4 b5 b6 ∧ μ b0 b1 b2 b3 b4 b5 b6 < μ a0 a1 a2 a3 a4 a5 a6 ∧ ∀ a w, Realz A s a w → Realz A (I b0 b1 b2 b3 b4 b5 b6) a w) Q)) (hA : ∀ a0 a1 a2 a3 a4 a5 a6, A.L0.length ≤ (I a0 a1 a2 a3 a4 a5 a6).L.length := by intros; rw [BaseN.h (A := A)]; exact Nat.le_of_ble_eq_true rfl) : V P A (.loop c) σ Q :=
  V_loopR (α := α0 × α1 × α2 × α3 × α4 × α5 × α6) (fun x => I (x.1) (x.2.1) (x.2.2.1) (x.2.2.2.1) (x.2.2.2.2.1) (x.2.2.2.2.2.1) (x.2.2.2.2.2.2)) (fun x => J (x.1) (x.2.1) (x.2.2.1) (x.2.2.2.1) (x.2.2.2.2.1) (x.2.2.2.2.2.1) (x.2.2.2.2.2.2)) (fun x => μ (x.1) (x.2.1) (x.2.2.1) (x.2.2.2.1) (x.2.2.2.2.1) (x.2.2.2.2.2.1) (x.2.2.2.2.2.2)) (x0, x1, x2, x3, x4, x5, x6) h0 hJ (fun x hx => V.mono (round (x.1) (x.2.1) (x.2.2.1) (x.2.2.2.1) (x.2.2.2.2.1) (x.2.2.2.2.2.1) (x.2.2.2.2.2.2) hx) (fun e s hq => by
    cases e with
    | normal =>
      obtain ⟨b0, b1, b2, b3, b4, b5, b6, h1, h2, h3⟩ := hq
      exact ⟨(b0, b1, b2, b3, b4, b5, b6), h1, h2, h3⟩
    | _ => exact hq)) (fun x => hA (x.1) (x.2.1) (x.2.2.1) (x.2.2.2.1) (x.2.2.2.2.1) (x.2.2.2.2.2.1) (x.2.2.2.2.2.2))
/-! ### nil seen as an owned array: in a temporary -/
inductive AdT (n : Nat) : SV → SV → Prop
  | one : AdT n .nilsl (.sl n 0)
  | ag {cs : List SV} (k : Nat) (h : cs[k]? = some .nilsl) : AdT n (.ag cs) (.ag (cs.set k (.sl n 0)))
theorem Realz.adT {a : Act} {w : World} {fr : List (Nat × SV)} {L : List LO} {N e z t : Nat} {sv' : SV} (hs : AdT L.length (look fr t) sv') (h : Realz A ⟨fr, L, N⟩ a w) : Realz A ⟨(t, sv') :: fr, L ++ [.own e z 0 []], N⟩ a w := by
  obtain ⟨S, env, hH, hf, hN, hd⟩ := h
  obtain ⟨hH1, C1⟩ := hH.newO [] (.own e z 0 []) (.slice none 0 0) (Nat.le_refl _) (fun _ _ => rfl) rfl rfl rfl (fun b hb => by simp only [LO.ft] at hb; rw [(Tr.nil w z).2] at hb; cases hb) (fun _ => nil_own e z 0)
  rw [kill_nil] at hH1 C1
  have hnil : SVr S (L ++ [LO.own e z 0 []]) (env ++ [Value.slice none 0 0]) w (.sl L.length 0) (.slice none 0 0) := by
    simp only [SVr]
    exact ⟨.slice none 0 0, .own e z 0 [], by rw [← hH.len]; simp, by simp, Nat.le_refl _, rfl, fun _ => rfl⟩
  refine ⟨S, _, hH1, fun t' => ?_, hN, hd⟩
  have ht := SVr.carry C1 _ _ (hf t')
  simp only at ht
  by_cases he : t' = t
  · subst he
    simp only [Go.Eng.look, if_true]
    generalize look fr t' = sv at hs ht
    cases hs with
    | one =>
      simp only [SVr] at ht
      rw [ht]
      exact hnil
    | ag k hk =>
      simp only [SVr] at ht ⊢
      obtain ⟨vs, h1, h2⟩ := ht
      rw [SVrs.iff] at h2
      obtain ⟨v, v1, v2⟩ := All2.get h2 k _ hk
      simp only [SVr] at v2
      subst v2
      refine ⟨vs, h1, ?_⟩
      rw [SVrs.iff]
      have hset := All2.set k (.sl L.length 0) (.slice none 0 0) h2 hnil
      have hk' : k < vs.length := (List.getElem?_eq_some_iff.1 v1).1
      have : vs.set k (.slice none 0 0) = vs := by
        apply List.ext_getElem?
        intro m
        rw [List.getElem?_set]
        by_cases hm : k = m
        · subst hm; rw [if_pos rfl, if_pos hk', v1]
        · rw [if_neg hm]
      rwa [this] at hset
  · simp only [Go.Eng.look, if_neg he]
    exact ht
theorem V_adT {fr : List (Nat × SV)} {L L' : List LO} {N n : Nat} {sv' : SV} (e z t : Nat) (h : V P A c ⟨(t, sv') :: fr, L', N⟩ Q) (hn : Ln L n := by repeat constructor) (hs : AdT n (look fr t) sv' := by first | exact AdT.one | exact AdT.ag 0 rfl | exact AdT.ag 1 rfl | exact AdT.ag 2 rfl | exact AdT.ag 3 rfl | exact AdT.ag 4 rfl | exact AdT.ag 5 rfl | exact AdT.ag 6 rfl | exact AdT.ag 7 rfl | exact AdT.ag 8 rfl)
    (h2 : Jn L [.own e z 0 []] L' := by repeat constructor) : V P A c ⟨fr, L, N⟩ Q := by
  have e1 := hn.eq
  have e4 := h2.spec
  subst e1; subst e4
  exact fun a w hr => h a w (hr.adT hs)
end
/-! ### the look at a pointer ahead of its use -/
section
variable {P : Program} {A : Amb} {σ : St} {dst : Option Nat} {ty : TypeId} {pos : String} {af : Array Edge} {g : Option (Nat × Bool)} {x : Operand}
inductive IsPtr : SV → Prop
  | ptr {i off : Nat} : IsPtr (.ptr i off)
  | dp {u : U} : IsPtr (.dp u)
theorem IsPtr.r {S : Nat → Prop} {L : List LO} {env : List Value} {w : World} {sv : SV} {v : Value} (h : IsPtr sv) (hv : SVr S L env w sv v) : ∃ a, v = .pointer (some a) := by
  cases h with
  | ptr =>
    simp only [SVr] at hv
    obtain ⟨b, _, rfl⟩ := hv
    exact ⟨_, rfl⟩
  | dp =>
    simp only [SVr] at hv
    obtain ⟨b, off, cs, rfl, _⟩ := hv
    exact ⟨_, rfl⟩
theorem QR_nc {sv : SV} (hx : σ.ev x = sv := by rfl) (hp : IsPtr sv := by first | exact .ptr | exact .dp) : QR P σ ⟨dst, .nilCheck x, ty, pos, af, g⟩ sv := fun A fr' L' he _ => Quiet.pure fun S env a w hH ho => by
  have h1 := ho x (by simp [Op.operands])
  rw [he x (by simp [Op.operands]), hx] at h1
  obtain ⟨ad, hv⟩ := hp.r h1
  refine ⟨a.eval x, ?_, h1⟩
  simp [execOp, hv]
end
/-! ### the end of a function that hands over -/
section
variable {P : Program} {σ : St}
theorem N_rH {fn : Func} {Q : SV → List LO → Prop} {n : Nat} (svs : List SV) (Lo : List LO) (hq : Q (mkG svs) Lo) (hL : ∃ L2, σ.L = Lo ++ L2 := by exact ⟨_, rfl⟩) (hl : (LO.lts Lo.length Lo && SV.lts Lo.length svs && Nat.ble n Lo.length) = true := by rfl)
    (hr : ResG P σ fn.results.toList svs := by ((repeat (first | exact .nil | refine .data rfl rfl ?_ | refine .same rfl ?_ | refine .same (ResV_ag rfl rfl TI.h rfl rfl) ?_ | refine .same (ResV_one rfl rfl TI.h rfl) ?_ | refine .data (ResV_ag rfl rfl TI.h rfl rfl) (by ((repeat (first | exact trivial | exact rfl | exact ⟨_, rfl⟩ | refine And.intro ?_ ?_)); first | done | fail)) ?_ | refine .data (ResV_one rfl rfl TI.h rfl) (by ((repeat (first | exact trivial | exact rfl | exact ⟨_, rfl⟩ | refine And.intro ?_ ?_)); first | done | fail)) ?_)); first | done | fail)) : PostG P fn Q n .normal σ := N_rG svs Lo hq hL hl hr
theorem R_rH {fn : Func} {Q : SV → List LO → Prop} {n : Nat} (svs : List SV) (Lo : List LO) (hq : Q (mkG svs) Lo) (hL : ∃ L2, σ.L = Lo ++ L2 := by exact ⟨_, rfl⟩) (hl : (LO.lts Lo.length Lo && SV.lts Lo.length svs && Nat.ble n Lo.length) = true := by rfl)
    (hr : ResG P σ fn.results.toList svs := by ((repeat (first | exact .nil | refine .data rfl rfl ?_ | refine .same rfl ?_ | refine .same (ResV_ag rfl rfl TI.h rfl rfl) ?_ | refine .same (ResV_one rfl rfl TI.h rfl) ?_ | refine .data (ResV_ag rfl rfl TI.h rfl rfl) (by ((repeat (first | exact trivial | exact rfl | exact ⟨_, rfl⟩ | refine And.intro ?_ ?_)); first | done | fail)) ?_ | refine .data (ResV_one rfl rfl TI.h rfl) (by ((repeat (first | exact trivial | exact rfl | exact ⟨_, rfl⟩ | refine And.intro ?_ ?_)); first | done | fail)) ?_)); first | done | fail)) : PostG P fn Q n .ret σ := R_rG svs Lo hq hL hl hr
end
end Go.Eng
