/- The engine, part 43: trees of orders; quiet regions that draw, with guards whose truth is not known. -/
import Derived.Test.YthojhakapbfbiaaGreatEng40
import Derived.Lib.SliceRun
set_option linter.unusedVariables false
set_option linter.unusedSimpArgs false
namespace Go.Eng
open Go Go.RowKit
end Go.Eng
namespace Go.Eng
open Go Go.RowKit
/-- Orders: q a quiet operation; h one that may come now, and the others that may (up to nil). -/
inductive OT where
  | nil
  | q (i : Nat) (t : OT)
  | h (i : Nat) (t r : OT)
def OT.heads : OT → List Nat
  | .h i _ r => i :: r.heads
  | _ => []
def checkT (md : Region.Mode) (ops : Array Oper) : OT → Nat → Array Bool → Bool → Bool
  | .nil, n, listed, b => b || (n == 0 && (Region.ready md ops listed).isEmpty)
  | .q i t, n, listed, b => !b && Nat.blt 0 n && (Region.ready md ops listed).contains i && Region.free md ops listed i && checkT md ops t (n - 1) (listed.setIfInBounds i true) false
  | .h i t r, n, listed, b => Nat.blt 0 n && (b || Region.ready md ops listed == i :: r.heads) && checkT md ops t (n - 1) (listed.setIfInBounds i true) false && checkT md ops r n listed true
section
variable {P : Program} {A : Amb} {ops : Array Oper} {K : St → Prop} {σ σ' : St} {t r : OT} {pf : PF} {i : Nat} {b : Bool}
def VT (P : Program) (A : Amb) (ops : Array Oper) (K : St → Prop) : OT → PF → St → Bool → Prop
  | .nil, _, σ, b => b = true ∨ K σ
  | .q i t, pf, σ, _ => ∃ o sv B, ops[i]? = some o ∧ PSt P A ops B σ o sv ∧ VT P A ops K t ((i, B) :: pf) (σ.setO o.dst sv) false
  | .h i t r, pf, σ, _ => (∃ o sv L', ops[i]? = some o ∧ HSt P A ops σ o sv L' ∧ (∀ p ∈ pf, depB .any ops ops.size p.1 i = true ∨ Keep p.2 L') ∧ VT P A ops K t pf (St.setO ⟨σ.fr, L', σ.N⟩ o.dst sv) false) ∧ VT P A ops K r pf σ true
theorem VT.vx (hK : ∀ σ σ', Alike σ σ' → K σ → K σ') : ∀ (T : OT) (n : Nat) (listed : Array Bool) (pf : PF) (σ : St), Closed .any ops listed →
    (checkT .any ops T n listed false = true → VT P A ops K T pf σ false → VX P A .any ops K n listed pf σ) ∧
    (checkT .any ops T (n + 1) listed true = true → VT P A ops K T pf σ true → ∀ j ∈ T.heads, j ∈ Region.ready .any ops listed → ∃ o, ops[j]? = some o ∧ ∃ sv L', HSt P A ops σ o sv L' ∧ (∀ p ∈ pf, depB .any ops ops.size p.1 j = true ∨ Keep p.2 L') ∧ VX P A .any ops K n (listed.setIfInBounds j true) pf (St.setO ⟨σ.fr, L', σ.N⟩ o.dst sv)) := by
  intro T
  induction T with
  | nil =>
    intro n listed pf σ hc
    refine ⟨fun hB h => ?_, fun _ _ j hj => by simp [OT.heads] at hj⟩
    simp only [checkT, Bool.false_or, Bool.and_eq_true, beq_iff_eq] at hB
    simp only [VT, Bool.false_eq_true, false_or] at h
    obtain ⟨rfl, hB⟩ := hB
    exact ⟨by simpa using hB, h⟩
  | q i t ih =>
    intro n listed pf σ hc
    refine ⟨fun hB h => ?_, fun hB => by simp [checkT] at hB⟩
    simp only [checkT, Bool.not_false, Bool.true_and, Bool.and_eq_true, Nat.blt_eq] at hB
    obtain ⟨⟨⟨h0, hr⟩, hfr⟩, hB⟩ := hB
    obtain ⟨m, rfl⟩ : ∃ m, n = m + 1 := ⟨n - 1, by omega⟩
    simp only [Nat.add_sub_cancel] at hB
    obtain ⟨o, sv, B, h1, h2, h3⟩ := h
    have hr : i ∈ Region.ready .any ops listed := by simpa using hr
    exact VX.first hK h1 m listed pf σ hc (Region.free_spec h1 hfr) hr h2 ((ih m _ _ _ (hc.step hr)).1 hB h3)
  | h i t r iht ihr =>
    intro n listed pf σ hc
    have key : ∀ (m : Nat) (b : Bool), checkT .any ops (.h i t r) (m + 1) listed b = true → VT P A ops K (.h i t r) pf σ b → ∀ j ∈ (OT.h i t r).heads, j ∈ Region.ready .any ops listed → ∃ o, ops[j]? = some o ∧ ∃ sv L', HSt P A ops σ o sv L' ∧ (∀ p ∈ pf, depB .any ops ops.size p.1 j = true ∨ Keep p.2 L') ∧ VX P A .any ops K m (listed.setIfInBounds j true) pf (St.setO ⟨σ.fr, L', σ.N⟩ o.dst sv) := by
      intro m b hB h j hj hr
      simp only [checkT, Bool.and_eq_true, Nat.add_sub_cancel] at hB
      obtain ⟨⟨_, hB1⟩, hB2⟩ := hB
      obtain ⟨⟨o, sv, L', h1, h2, h3, h4⟩, h5⟩ := h
      simp only [OT.heads, List.mem_cons] at hj
      rcases hj with rfl | hj
      · exact ⟨o, h1, sv, L', h2, h3, (iht m _ _ _ (hc.step hr)).1 hB1 h4⟩
      · exact (ihr m listed pf σ hc).2 hB2 h5 j hj hr
    refine ⟨fun hB h => ?_, fun hB h => key n true hB h⟩
    have hB' := hB
    simp only [checkT, Bool.and_eq_true, Nat.blt_eq, Bool.false_or, beq_iff_eq] at hB'
    obtain ⟨⟨⟨h0, hrd⟩, _⟩, _⟩ := hB'
    obtain ⟨m, rfl⟩ : ∃ m, n = m + 1 := ⟨n - 1, by omega⟩
    refine ⟨fun h0 => (by rw [hrd] at h0; cases h0), fun j hj => ?_⟩
    obtain ⟨o, h1, sv, L', h2, h3, h4⟩ := key m false hB h j (by simp only [OT.heads]; rw [← hrd]; exact hj) hj
    exact ⟨o, h1, .inr ⟨sv, L', h2, h3, h4⟩⟩
theorem VT.mono {K' : St → Prop} (hK : ∀ s, K s → K' s) : ∀ (T : OT) (pf : PF) (σ : St) (b : Bool), VT P A ops K T pf σ b → VT P A ops K' T pf σ b
  | .nil, _, _, _, h => h.imp id (hK _)
  | .q _ t, _, _, _, ⟨o, sv, B, h1, h2, h3⟩ => ⟨o, sv, B, h1, h2, VT.mono hK t _ _ _ h3⟩
  | .h _ t r, _, _, _, ⟨⟨o, sv, L', h1, h2, h4, h3⟩, h5⟩ => ⟨⟨o, sv, L', h1, h2, h4, VT.mono hK t _ _ _ h3⟩, VT.mono hK r _ _ _ h5⟩
theorem V_drawT {id : Nat} {l : List Oper} {Q : Exit → St → Prop} (hm : P.follows .mixedOrders = true) (T : OT) (hB : checkT .any l.toArray T l.length (Array.replicate l.length false) false = true)
    (h : VT P A l.toArray (Q .normal) T [] σ false) : V P A (.region id l.toArray true) σ Q := by
  intro a w hr
  refine wp_region_any hm ?_
  have h1 := VT.mono (K' := fun s => ∃ s', Alike s s' ∧ Q .normal s') (fun s hs => ⟨s, .refl, hs⟩) T [] σ false h
  have hc : Closed .any l.toArray (Array.replicate l.length false) := fun k o _ hl => by rw [Array.getD_eq_getD_getElem?, Array.getElem?_replicate] at hl; split at hl <;> simp at hl
  have h2 := (VT.vx (fun σ σ' ha ⟨s', k1, k2⟩ => ⟨s', ha.symm.trans k1, k2⟩) T l.length _ _ _ hc).1 hB h1
  have h3 := VX.wp (R := fun e a' w' => ∃ σ', Q e σ' ∧ Realz A σ' a' w') (fun s a' w' ⟨s', k1, k2⟩ hr' => ⟨s', k2, k1.realz hr'⟩) l.length _ _ σ a _ hr.drew h2
  simpa using h3
theorem VY_e : VY P A ops (fun s => s = σ) [] pf σ := rfl
theorem VT_q (h1 : VY P A ops (fun s => s = σ') [(i, true)] pf σ) (h : VT P A ops K t ((i, σ.L) :: pf) σ' false) : VT P A ops K (.q i t) pf σ b := by
  obtain ⟨o, sv, k1, k2, k3⟩ := h1
  have k3 : σ.setO o.dst sv = σ' := k3
  exact ⟨o, sv, σ.L, k1, k2, by rw [k3]; exact h⟩
theorem VT_h (h1 : VY P A ops (fun s => s = σ') [(i, false)] pf σ) (h : VT P A ops K t pf σ' false) (hr : VT P A ops K r pf σ true) : VT P A ops K (.h i t r) pf σ b := by
  obtain ⟨o, sv, L', k1, k2, k4, k3⟩ := h1
  have k3 : St.setO ⟨σ.fr, L', σ.N⟩ o.dst sv = σ' := k3
  exact ⟨⟨o, sv, L', k1, k2, k4, by rw [k3]; exact h⟩, hr⟩
theorem VT_h1 (h1 : VY P A ops (fun s => s = σ') [(i, false)] pf σ) (h : VT P A ops K t pf σ' false) : VT P A ops K (.h i t .nil) pf σ b := VT_h h1 h (.inl rfl)
theorem VT_nil (h : K σ) : VT P A ops K .nil pf σ b := .inr h
/-- The like of goY. -/
theorem goT {X Y : Prop} (hy : Y) (h : Y → X := by
    intro hy
    repeat (first | refine VT_mv ?_ | refine VT_q (VY_r QR_len VY_e) ?_ | refine VT_q (VY_d rfl VY_e (by (repeat constructor); first | done | fail)) ?_ | refine VT_h1 (VY_h rfl (by repeat constructor) (by repeat (first | exact PfOk.nil | (apply PfOk.keep; focus ((repeat constructor); done)) | (apply PfOk.dep; focus kernel_rfl))) VY_e) ?_)
    exact hy) : X := h hy
end
end Go.Eng
namespace Go.Eng
open Go Go.RowKit
section
variable {P : Program} {A : Amb} {ops : Array Oper} {K : St → Prop} {Q : Exit → St → Prop} {rest : List Oper} {σ σ' σJ : St} {fr : List (Nat × SV)} {L : List LO} {N t : Nat} {sv : SV}
variable {ty : TypeId} {pos : String} {af : Array Edge} {op : Op}
/-- A drawn region; the orders end in one state, up to the numbers of the objects. -/
theorem V_drawTJ {id : Nat} {l : List Oper} (hm : P.follows .mixedOrders = true) (T : OT) (σ' : St) (hB : checkT .any l.toArray T l.length (Array.replicate l.length false) false = true)
    (h : VT P A l.toArray (fun s => ∀ a w, Realz A s a w → Realz A σ' a w) T [] σ false) (hr : Q .normal σ') : V P A (.region id l.toArray true) σ Q := fun a w hw =>
  wp_mono (V_drawT (Q := fun e s => e = .normal ∧ ∀ a w, Realz A s a w → Realz A σ' a w) hm T hB (VT.mono (fun s hs => ⟨rfl, hs⟩) T [] σ false h) a w hw) fun e a' w' ⟨s, ⟨k0, k1⟩, k2⟩ => by subst k0; exact ⟨σ', hr, k1 _ _ k2⟩
theorem V_seq_drawTJ {id : Nat} {l : List Oper} {y : Code} (hm : P.follows .mixedOrders = true) (T : OT) (σ' : St) (hB : checkT .any l.toArray T l.length (Array.replicate l.length false) false = true)
    (h : VT P A l.toArray (fun s => ∀ a w, Realz A s a w → Realz A σ' a w) T [] σ false) (hr : V P A y σ' Q) : V P A (.seq (.region id l.toArray true) y) σ Q := V_seq (V_drawTJ hm T σ' hB h hr)
theorem R_pk {fr' : List (Nat × SV)} {Lc : List LO} (n : Nat) [BaseN A n] (js : List Nat) (hp : pickB L (rn js L.length) 0 Lc := by ((repeat (first | exact trivial | exact rfl | refine And.intro ?_ ?_)); first | done | fail))
    (hjs : (decide js.Nodup && (js.all fun j => Nat.blt j L.length) && LO.lts Lc.length Lc) = true := by rfl) (hn : (js.length == Lc.length && Nat.ble n Lc.length && (List.range n).all fun i => js[i]? == some i) = true := by rfl)
    (hfr : LePF (rn js L.length) fr Lc.length fr' := by ((repeat (first | exact trivial | exact rfl | refine And.intro ?_ ?_)); first | done | fail)) : ∀ a w, Realz A ⟨fr, L, N⟩ a w → Realz A ⟨fr', Lc, N⟩ a w := by
  intro a w hr
  simp only [Bool.and_eq_true, decide_eq_true_eq, List.all_eq_true, Nat.blt_eq] at hjs
  obtain ⟨⟨hnd, hlt⟩, hlts⟩ := hjs
  exact hr.pick (n := n) js ⟨fun m o ho => by simpa using pickB_get hp m o ho, fun m m' _ _ he => rn_inj hlt hnd he, hlts⟩ hn hfr
/-! arrays of the call's own whose elements are shared data -/
end
/-- On, until something needs help. -/
theorem goL {X Y : Prop} (hy : Y) (h : Y → X := by
    intro hy
    repeat (first | refine VO_r QR_len ?_ | refine VO_k Q_leno ?_ | refine VO_k Q_lena ?_ | refine VO_rg QR_len ?_ | refine VO_pa ?_ | refine VO_pu ?_ | refine VO_d ?_ (by (repeat constructor); first | done | fail) | refine VQ_r QR_len ?_ | refine VQ_rg QR_len ?_ | refine VQ_d ?_ (by (repeat constructor); first | done | fail) | refine VO_nil ?_ | refine VQ_nil ?_ | refine V_seq_region ?_ | refine V_seqseq ?_ | refine V_seq_draw Mix.h (by kernel_rfl) ?_ | refine V_region ?_ | refine V_draw Mix.h (by kernel_rfl) ?_)
    exact hy) : X := h hy
/-- The like; no region that draws is entered. -/
theorem goNL {X Y : Prop} (hy : Y) (h : Y → X := by
    intro hy
    repeat (first | refine VO_r QR_len ?_ | refine VO_k Q_leno ?_ | refine VO_k Q_lena ?_ | refine VO_rg QR_len ?_ | refine VO_pa ?_ | refine VO_pu ?_ | refine VO_d ?_ (by (repeat constructor); first | done | fail) | refine VQ_r QR_len ?_ | refine VQ_rg QR_len ?_ | refine VQ_d ?_ (by (repeat constructor); first | done | fail) | refine VO_nil ?_ | refine VQ_nil ?_ | refine V_seq_region ?_ | refine V_seqseq ?_ | refine V_region ?_)
    exact hy) : X := h hy
end Go.Eng
set_option linter.unusedVariables false
set_option linter.unusedSimpArgs false
namespace Go.Eng
open Go Go.RowKit
section
variable {P : Program} {A : Amb} {σ : St} {dst : Option Nat} {ty : TypeId} {pos : String} {af : Array Edge} {g : Option (Nat × Bool)}
theorem VY_ri {ops : Array Oper} {K : St → Prop} {fr : List (Nat × SV)} {L : List LO} {N i t : Nat} {sv : SV} {op : Op} {r : List (Nat × Bool)} {pf : PF} (hi : ops[i]? = some ⟨some t, op, ty, pos, af, none⟩) (hq : QR P ⟨fr, L, N⟩ ⟨some t, op, ty, pos, af, none⟩ sv) (hv : VY P A ops K r ((i, L) :: pf) ⟨(t, sv) :: fr, L, N⟩) (ht : Nat.blt t N = true := by rfl) :
    VY P A ops K ((i, true) :: r) pf ⟨fr, L, N⟩ := VY_r hq hv hi ht
end
end Go.Eng
namespace Go.Eng
open Go Go.RowKit
section
variable {P : Program} {A : Amb} {σ : St} {dst : Option Nat} {ty T T' : TypeId} {pos : String} {af : Array Edge} {g : Option (Nat × Bool)} {x y : Operand} {a b c d : Int}
end
end Go.Eng
namespace Go.Eng
open Go Go.RowKit
/-- Into the next region. -/
theorem gREG {X Y : Prop} (hy : Y) (h : Y → X := by
    intro hy
    first | refine V_seq_region ?_ | refine V_seq (V_seq_region ?_) | refine V_seq_draw Mix.h (by kernel_rfl) ?_ | refine V_seq (V_seq_draw Mix.h (by kernel_rfl) ?_) | refine V_region ?_ | refine V_draw Mix.h (by kernel_rfl) ?_
    exact hy) : X := h hy
theorem vA {X : Prop} (h : X := by (repeat (first | exact trivial | exact rfl | exact ⟨_, rfl⟩ | refine And.intro ?_ ?_)); first | done | fail) : X := h
end Go.Eng
namespace Go.Eng
open Go Go.RowKit
section
variable {P : Program} {A : Amb} {Q : Exit → St → Prop} {c : Code} {σ : St}
/-! ### nil seen as an owned array: in a temporary -/
end
/-! ### the look at a pointer ahead of its use -/
section
variable {P : Program} {A : Amb} {σ : St} {dst : Option Nat} {ty : TypeId} {pos : String} {af : Array Edge} {g : Option (Nat × Bool)} {x : Operand}
end
/-! ### the end of a function that hands over -/
section
variable {P : Program} {σ : St}
end
end Go.Eng
set_option linter.unusedVariables false
set_option linter.unusedSimpArgs false
namespace Go.Eng
open Go Go.RowKit
section
variable {j v : Nat} {S : Nat → Prop} {L L' : List LO} {env : List Value} {w : World}
end
/-! ### calls that hand over, in regions that draw their order -/
section
variable {P : Program} {A : Amb} {ops : Array Oper} {K : St → Prop} {r : List (Nat × Bool)} {pf : PF} {fr : List (Nat × SV)} {L L' : List LO} {N i t : Nat} {sv : SV}
variable {ty : TypeId} {pos : String} {af : Array Edge}
end
/-! ### short forms of my templates' blocks -/
structure Hid (Y : Prop) : Prop where
  get : Y
theorem gGO {X Y : Prop} (hy : Y) (h : Hid Y → X := by
    intro hy
    repeat (first | refine VO_d ?_ | refine VQ_d ?_ | refine VO_nil ?_ | refine VQ_nil ?_ | refine V_seq_region ?_ | refine V_seq (V_seq_region ?_) | refine V_seq_draw Mix.h (by kernel_rfl) ?_ | refine V_seq (V_seq_draw Mix.h (by kernel_rfl) ?_) | refine V_region ?_ | refine V_draw Mix.h (by kernel_rfl) ?_)
    exact hy.get) : X := h ⟨hy⟩
/-- The like; one step at least. -/
theorem gGP {X Y : Prop} (hy : Y) (h : Hid Y → X := by
    intro hy
    first | refine VO_d ?_ | refine VQ_d ?_ | refine VO_nil ?_ | refine VQ_nil ?_ | refine V_seq_region ?_ | refine V_seq (V_seq_region ?_) | refine V_seq_draw Mix.h (by kernel_rfl) ?_ | refine V_seq (V_seq_draw Mix.h (by kernel_rfl) ?_) | refine V_region ?_ | refine V_draw Mix.h (by kernel_rfl) ?_
    repeat (first | refine VO_d ?_ | refine VQ_d ?_ | refine VO_nil ?_ | refine VQ_nil ?_ | refine V_seq_region ?_ | refine V_seq (V_seq_region ?_) | refine V_seq_draw Mix.h (by kernel_rfl) ?_ | refine V_seq (V_seq_draw Mix.h (by kernel_rfl) ?_) | refine V_region ?_ | refine V_draw Mix.h (by kernel_rfl) ?_)
    exact hy.get) : X := h ⟨hy⟩
section
variable {P : Program} {A : Amb} {ops : Array Oper} {K : St → Prop} {rest : List Oper} {fr : List (Nat × SV)} {L : List LO} {N t : Nat} {sv : SV} {ty : TypeId} {pos : String} {af : Array Edge} {op : Op}
theorem qO (hq : Quiet P A ⟨fr, L, N⟩ ⟨some t, op, ty, pos, af, none⟩ sv) (h : VO P A ops rest ⟨(t, sv) :: fr, L, N⟩ K) (ht : Nat.blt t N = true := by rfl) : VO P A ops (⟨some t, op, ty, pos, af, none⟩ :: rest) ⟨fr, L, N⟩ K := VO_q hq ht h
theorem qQ (hq : Quiet P A ⟨fr, L, N⟩ ⟨some t, op, ty, pos, af, none⟩ sv) (h : VQ P A ops rest ⟨(t, sv) :: fr, L, N⟩ K) (ht : Nat.blt t N = true := by rfl) : VQ P A ops (⟨some t, op, ty, pos, af, none⟩ :: rest) ⟨fr, L, N⟩ K := VQ_q hq ht h
end
section
variable {P : Program} {A : Amb} {σ : St} {dst : Option Nat} {ty T T' : TypeId} {pos : String} {af : Array Edge} {g : Option (Nat × Bool)} {x y : Operand}
theorem Q_remI {m n : Int} (h0 : 0 ≤ m) (hx : σ.ev x = .d (.i .i64 m) := by rfl) (hy : σ.ev y = .d (.i .i64 n) := by rfl) (hn : decide (0 < n) = true := by rfl) : Quiet P A σ ⟨dst, .binOp .rem T x y T', ty, pos, af, g⟩ (.d (.i .i64 (m % n))) := by
  obtain ⟨a, rfl⟩ := Int.eq_ofNat_of_zero_le h0
  have hn' := of_decide_eq_true hn
  obtain ⟨b, rfl⟩ := Int.eq_ofNat_of_zero_le (Int.le_of_lt hn')
  exact Q_rem hx hy (by simp only [Nat.blt_eq]; omega)
end
end Go.Eng
set_option linter.unusedVariables false
set_option linter.unusedSimpArgs false
namespace Go.Eng
open Go Go.RowKit
section
variable {P : Program} {A : Amb} {σ : St} {dst : Option Nat} {ty T T' : TypeId} {pos : String} {af : Array Edge} {g : Option (Nat × Bool)} {x y : Operand}
end
end Go.Eng
set_option linter.unusedVariables false
set_option linter.unusedSimpArgs false
namespace Go.Eng
open Go Go.RowKit
section
variable {P : Program} {A : Amb} {σ : St} {K : St → Prop} {Q : Exit → St → Prop}
variable {ops : Array Oper} {rest : List Oper} {t : Nat} {ty : TypeId} {pos : String} {af : Array Edge} {x y : Operand} {sv : SV} {dst : Option Nat} {g : Option (Nat × Bool)}
end
/-! ### elements of owned arrays in regions that draw their order -/
section
variable {P : Program} {A : Amb} {ops : Array Oper} {K : St → Prop} {r : List (Nat × Bool)} {pf : PF} {fr : List (Nat × SV)} {L L1 L' : List LO} {N i t m : Nat}
variable {ty : TypeId} {pos : String} {af : Array Edge} {x y : Operand} {T : TypeId}
theorem VY_ixo {α : Type} {en : α → U} {es : List α → List U} {z : Nat} [E : Enc α en es z] {e bs ver e' : Nat} {gg : Bool} {l : List α} (k : Nat) (hk : k < l.length) [TE P T e] [TI P e gg z bs] (h : VY P A ops K r pf ⟨(t, .ep m ver z k 0) :: fr, L, N⟩)
    (hi : ops[i]? = some ⟨some t, .indexAddr T x y, ty, pos, af, none⟩ := by rfl) (hx : (St.mk fr L N).ev x = .sl m ver := by rfl) (hL : L[m]? = some (.own e' z ver (es l)) := by rfl) (hy : (St.mk fr L N).ev y = .d (.i .i64 (k : Int)) := by rfl) (ht : Nat.blt t N = true := by rfl)
    (hp : PfOk ops i L pf := by (repeat (first | exact PfOk.nil | (apply PfOk.keep; focus ((repeat constructor); done)) | (apply PfOk.dep; focus kernel_rfl)))) : VY P A ops K ((i, false) :: r) pf ⟨fr, L, N⟩ :=
  VY_hst hi (fun fr' he' K' hK => VO_k (Q_ixo (j := m) k hk (by rw [he' x (by simp [Op.operands])]; exact hx) hL (by rw [he' y (by simp [Op.operands])]; exact hy)) (VO_nil hK) ht) hp h
theorem VY_st {α : Type} {en : α → U} {es : List α → List U} {z : Nat} [E : Enc α en es z] {e bs ver k : Nat} {gg : Bool} {l : List α} (a : α) {js : List Nat} (hk : k < l.length) [TI P T gg z bs] (h : VY P A ops K r pf ⟨fr, L', N⟩)
    (hi : ops[i]? = some ⟨none, .store T x y, ty, pos, af, none⟩ := by rfl) (hx : (St.mk fr L N).ev x = .ep m ver z k 0 := by rfl) (hL : L[m]? = some (.own e z ver (es l)) := by rfl)
    (hy : OV L ((St.mk fr L N).ev y) (en a) js := by ((repeat constructor); first | done | fail)) (hjs : (decide js.Nodup && !js.contains m) = true := by decide) (hk1 : KR js L L1 := by repeat constructor) (hL' : St1 (.own e z ver (es (l.set k a))) m L1 L' := by repeat constructor)
    (hp : PfOk ops i L' pf := by (repeat (first | exact PfOk.nil | (apply PfOk.keep; focus ((repeat constructor); done)) | (apply PfOk.dep; focus kernel_rfl)))) : VY P A ops K ((i, false) :: r) pf ⟨fr, L, N⟩ := by
  rw [Enc.set (es := es)] at hL'
  exact VY_hst (sv := .junk) hi (fun fr' he' K' hK => VR_store (by rw [he' x (by simp [Op.operands])]; exact hx) hL (by rw [he' y (by simp [Op.operands])]; exact hy) hjs TI.h (Enc.hz a) (by rw [Enc.len]; exact hk) hk1 hL' (VO_nil hK)) hp h
end
end Go.Eng
set_option linter.unusedVariables false
set_option linter.unusedSimpArgs false
namespace Go.Eng
open Go Go.RowKit
theorem RdE.take {S : Nat → Prop} {w : World} {z b : Nat} : ∀ (us : List U) (off k : Nat), RdE S w z b off us → RdE S w z b off (us.take k)
  | _, _, 0, _ => by simp [RdE]
  | [], _, _ + 1, _ => by simp [RdE]
  | u :: us, off, k + 1, h => by
    simp only [RdE] at h
    simp only [List.take_succ_cons, RdE]
    exact ⟨h.1, RdE.take us (off + z) k h.2⟩
section
variable {P : Program} {σ : St} {dst : Option Nat} {ty T : TypeId} {pos : String} {af : Array Edge} {g : Option (Nat × Bool)} {x y h : Operand}
/-- A first part of a slice of data. -/
theorem QR_pre {α : Type} {en : α → U} {es : List α → List U} {z : Nat} [E : Enc α en es z] {e bs : Nat} {gg : Bool} {l : List α} {k : Int} (hk : 0 ≤ k ∧ k ≤ l.length) [TE P T e] [TI P e gg z bs] (hx : σ.ev x = .d (.sl z (es l)) := by rfl) (hh : σ.ev h = .d (.i .i64 k) := by rfl) :
    QR P σ ⟨dst, .slice T x none (some h) none, ty, pos, af, g⟩ (.d (.sl z (es (l.take k.toNat)))) := fun A fr' L' he _ => Quiet.pure fun S env a w hH ho => by
  have h1 := ho x (by simp [Op.operands])
  have h2 := ho h (by simp [Op.operands])
  rw [he x (by simp [Op.operands]), hx] at h1
  rw [he h (by simp [Op.operands]), hh, SVr.int] at h2
  rw [SVr.slice] at h1
  obtain ⟨hbg, base, cap, h3, h4⟩ := h1
  have hlen : (es l).length = l.length := Enc.len l
  have htk : es (l.take k.toNat) = (es l).take k.toNat := by rw [E.h, E.h, List.map_take]
  have hT : P.underlying T = some (.slice e) := tyE_und TE.h
  have hel : P.elem T = e := by simp [Program.elem, hT]
  have hT' : P.underlying T = some (.slice (P.elem T)) := by rw [hel]; exact hT
  obtain ⟨hk0, hk1⟩ := hk
  have hkn : k.toNat ≤ (es l).length := by omega
  have hrun := run_slice_h (w := w) T base (es l).length ((es l).length + cap) hT' .i64 k hk0 (by omega)
  have hsz := run_sizeOf (w := w) (TI.h : tyI P e = some (gg, z, bs))
  rw [hel, hsz] at hrun
  simp only [Result.andThen] at hrun
  refine ⟨sliced base 0 k.toNat ((es l).length + cap) z, ?_, ?_⟩
  · simp [execOp, h3, h2, Instr.sliceAt, run_underlying hT, hrun]
  · rw [SVr.slice, htk]
    have htl : ((es l).take k.toNat).length = k.toNat := by rw [List.length_take]; omega
    refine ⟨by omega, ?_⟩
    rcases h4 with h4 | ⟨b, off, rfl, h5, h6⟩
    · have hl0 : (es l).length = 0 := by rw [h4]; rfl
      have hk2 : k.toNat = 0 := by omega
      refine ⟨if 0 + cap = 0 then base else base.map (·.add (0 * z)), cap, ?_, .inl (by rw [h4]; simp)⟩
      rw [htl, hl0, hk2]
      simp [sliced]
    · by_cases hc : (es l).length + cap = 0
      · have hk2 : k.toNat = 0 := by omega
        have hnil : (es l).take k.toNat = [] := List.eq_nil_of_length_eq_zero (by omega)
        refine ⟨some ⟨b, off, none⟩, 0, ?_, .inl hnil⟩
        rw [htl, hc, hk2]
        simp [sliced]
      · refine ⟨some ⟨b, off, none⟩, (es l).length + cap - k.toNat, ?_, .inr ⟨b, off, rfl, h5, RdE.take _ _ _ h6⟩⟩
        rw [htl]
        have : k.toNat + ((es l).length + cap - k.toNat) = (es l).length + cap := by omega
        rw [this]
        simp [sliced, hc, Addr.add_lit]
/-- The lesser of two integers. -/
theorem QR_min {T' ty' : TypeId} {k : IntKind} {m n : Int} (hx : σ.ev x = .d (.i k m) := by rfl) (hy : σ.ev y = .d (.i k n) := by rfl) : QR P σ ⟨dst, .call { callee := .builtin .min, args := #[x, y], argTypes := #[T, T'] }, ty', pos, af, g⟩ (.d (.i k (if n < m then n else m))) :=
  fun A fr' L' he _ => Quiet.pure fun S env a w hH ho => by
    have h1 := ho x (by simp [Op.operands, Call.operands])
    have h2 := ho y (by simp [Op.operands, Call.operands])
    rw [he x (by simp [Op.operands, Call.operands]), hx] at h1
    rw [he y (by simp [Op.operands, Call.operands]), hy] at h2
    have h1 := SVr.int.1 h1
    have h2 := SVr.int.1 h2
    refine ⟨.int k (if n < m then n else m), ?_, SVr.int.2 rfl⟩
    by_cases hmn : n < m <;> simp [execOp, resolve, invoke, builtin, h1, h2, Builtin.min_, Builtin.min2, hmn]
end
section
variable {P : Program} {A : Amb} {ops : Array Oper} {K : St → Prop} {r : List (Nat × Bool)} {pf : PF} {fr : List (Nat × SV)} {L L1 L' : List LO} {N i t m : Nat}
variable {ty : TypeId} {pos : String} {af : Array Edge} {x y : Operand} {T : TypeId}
/-- The first append to nil, in a region that draws its order. -/
theorem VY_ap0 {α : Type} {en : α → U} {es : List α → List U} {z : Nat} [E : Enc α en es z] {l' : List α} (hg : l'.length ≤ 4294967296) {e bs : Nat} {gg : Bool} [TE P T e] [TI P e gg z bs] {zs : List Value} [TZ P e zs] {js : List Nat} {T' : TypeId}
    (h : VY P A ops K r pf ⟨(t, .sl m 0) :: fr, L', N⟩) (hi : ops[i]? = some ⟨some t, .call { callee := .builtin .append, args := #[x, y], argTypes := #[T, T] }, T', pos, af, none⟩ := by rfl) (hx : (St.mk fr L N).ev x = .nilsl := by rfl) (hs : SrcO L z ((St.mk fr L N).ev y) (es l') js := by first | exact .own rfl | exact .nil | exact .data (Enc.all _) (eStrs_noSl _) | exact .data (Enc.all _) (eInts_noSl _))
    (hjs : decide js.Nodup = true := by decide) (hz : (Nat.blt 0 z && zs.length == z) = true := by rfl) (hb : Nat.ble bs 32768 = true := by rfl) (ht : Nat.blt t N = true := by rfl) (hk1 : KR js L L1 := by repeat constructor) (hL' : Sn (.own e z 0 (es l')) L1 m L' := by repeat constructor)
    (hp : PfOk ops i L' pf := by (repeat (first | exact PfOk.nil | (apply PfOk.keep; focus ((repeat constructor); done)) | (apply PfOk.dep; focus kernel_rfl)))) : VY P A ops K ((i, false) :: r) pf ⟨fr, L, N⟩ := by
  have h2 : (es l').length = l'.length := Enc.len l'
  have hb := Nat.le_of_ble_eq_true hb
  refine VY_hst hi (HSt_append_nil hx hs hjs TE.h TI.h TZ.h hz (by rw [big_eq]; omega) ?_ ht hk1 hL') hp h
  rw [h2]
  exact Nat.le_trans (Nat.mul_le_mul hg hb) (by decide)
end
/-- The like of goY: lengths of lists first. -/
theorem goZ {X Y : Prop} (hy : Y) (h : Y → X := by
    intro hy
    repeat (first | refine VY_ri rfl QR_len ?_ | refine VY_d rfl ?_ (by (repeat constructor); first | done | fail) | refine VY_h rfl (by repeat constructor) (by repeat (first | exact PfOk.nil | (apply PfOk.keep; focus ((repeat constructor); done)) | (apply PfOk.dep; focus kernel_rfl))) ?_)
    exact hy) : X := h hy
end Go.Eng
