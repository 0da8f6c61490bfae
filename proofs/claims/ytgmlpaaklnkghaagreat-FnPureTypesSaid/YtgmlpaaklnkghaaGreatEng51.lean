/- The engine, part 48: an object numbered anew; calls that hand over, in regions that draw their order. -/
import Derived.Test.YtgmlpaaklnkghaaGreatEng47
import Derived.Lib.SliceRun
set_option linter.unusedVariables false
set_option linter.unusedSimpArgs false
namespace Go.Eng
open Go Go.RowKit
mutual
/-- The same value, where object j has version 0 in place of v. -/
inductive Rv (j v : Nat) : SV → SV → Prop
  | sl : Rv j v (.sl j v) (.sl j 0)
  | ne {i ver : Nat} (h : (i == j) = false) : Rv j v (.sl i ver) (.sl i ver)
  | d {u : U} : Rv j v (.d u) (.d u)
  | ptr {i off : Nat} : Rv j v (.ptr i off) (.ptr i off)
  | dp {u : U} : Rv j v (.dp u) (.dp u)
  | nil : Rv j v .nilsl .nilsl
  | ag {cs cs' : List SV} (h : Rvs j v cs cs') : Rv j v (.ag cs) (.ag cs')
  | tup {cs cs' : List SV} (h : Rvs j v cs cs') : Rv j v (.tup cs) (.tup cs')
  | fn {f : Nat} {cs cs' : List SV} (h : Rvs j v cs cs') : Rv j v (.fn f cs) (.fn f cs')
inductive Rvs (j v : Nat) : List SV → List SV → Prop
  | nil : Rvs j v [] []
  | cons {a b : SV} {az bs : List SV} (h : Rv j v a b) (h2 : Rvs j v az bs) : Rvs j v (a :: az) (b :: bs)
end
inductive RvO (j v : Nat) : Nat → LO → LO → Prop
  | own {e z : Nat} {es : List U} : RvO j v j (.own e z v es) (.own e z 0 es)
  | arrj {e z : Nat} {es : List U} : RvO j v j (.arr e z v es) (.arr e z 0 es)
  | box {i : Nat} {cs cs' : List SV} (hi : (i == j) = false) (h : Rvs j v cs cs') : RvO j v i (.box cs) (.box cs')
  | owns {i e z ver : Nat} {es : List U} (hi : (i == j) = false) : RvO j v i (.own e z ver es) (.own e z ver es)
  | arr {i e z ver : Nat} {es : List U} (hi : (i == j) = false) : RvO j v i (.arr e z ver es) (.arr e z ver es)
  | frz {i e z ver : Nat} {es : List U} (hi : (i == j) = false) : RvO j v i (.frz e z ver es) (.frz e z ver es)
  | dead {i ver : Nat} (hi : (i == j) = false) : RvO j v i (.dead ver) (.dead ver)
inductive RvL (j v : Nat) : Nat → List LO → List LO → Prop
  | nil {i : Nat} : RvL j v i [] []
  | cons {i : Nat} {a b : LO} {az bs : List LO} (h : RvO j v i a b) (h2 : RvL j v (i + 1) az bs) : RvL j v i (a :: az) (b :: bs)
inductive RvF (j v : Nat) : List (Nat × SV) → List (Nat × SV) → Prop
  | nil : RvF j v [] []
  | cons {t : Nat} {a b : SV} {az bs : List (Nat × SV)} (h : Rv j v a b) (h2 : RvF j v az bs) : RvF j v ((t, a) :: az) ((t, b) :: bs)
section
variable {j v : Nat} {S : Nat → Prop} {L L' : List LO} {env : List Value} {w : World}
theorem RvL.get : ∀ {i : Nat} {az bs : List LO}, RvL j v i az bs → az.length = bs.length ∧ ∀ (m : Nat) (b : LO), bs[m]? = some b → ∃ a, az[m]? = some a ∧ RvO j v (i + m) a b
  | i, _, _, .nil => ⟨rfl, fun m b h => by simp at h⟩
  | i, _, _, .cons (a := a0) (b := b0) (az := az) (bs := bs) h h2 => by
    obtain ⟨k1, k2⟩ := RvL.get h2
    refine ⟨by simp [k1], fun m b hb => ?_⟩
    cases m with
    | zero => simp at hb; subst hb; exact ⟨a0, by simp, by simpa using h⟩
    | succ m =>
      obtain ⟨a, q1, q2⟩ := k2 m b (by simpa using hb)
      exact ⟨a, by simpa using q1, by rwa [show i + (m + 1) = i + 1 + m by omega]⟩
theorem RvF.look : ∀ {az bs : List (Nat × SV)}, RvF j v az bs → ∀ t, Go.Eng.look bs t = .junk ∨ Rv j v (Go.Eng.look az t) (Go.Eng.look bs t)
  | _, _, .nil, t => .inl rfl
  | _, _, .cons (t := t0) h h2, t => by
    simp only [Go.Eng.look]
    by_cases ht : t = t0
    · simp only [ht, if_true]; exact .inr h
    · simp only [if_neg ht]; exact RvF.look h2 t
mutual
theorem Rv.r (hj : ∃ o o' : LO, L[j]? = some o ∧ L'[j]? = some o' ∧ o.ver = v ∧ o'.ver = 0) (ho : ∀ (i : Nat) (o : LO), i ≠ j → L[i]? = some o → ∃ o', L'[i]? = some o' ∧ o'.ver = o.ver) : ∀ {a b : SV} {x : Value}, Rv j v a b → SVr S L env w a x → SVr S L' env w b x
  | _, _, x, .sl, h => by
    obtain ⟨o1, o2, h1, h2, h3, h4⟩ := hj
    simp only [SVr] at h ⊢
    obtain ⟨hv, o, k1, k2, k3, k4, k5⟩ := h
    rw [h1] at k2
    obtain rfl := Option.some.inj k2
    exact ⟨hv, _, k1, h2, Nat.zero_le _, k4, fun _ => k5 h3.symm⟩
  | _, _, x, .ne hi, h => by
    simp only [SVr] at h ⊢
    obtain ⟨hv, o, k1, k2, k3, k4, k5⟩ := h
    obtain ⟨o', q1, q2⟩ := ho _ o (by simpa using hi) k2
    exact ⟨hv, o', k1, q1, by rw [q2]; exact k3, k4, by rw [q2]; exact k5⟩
  | _, _, x, .d, h => by simpa only [SVr] using h
  | _, _, x, .ptr, h => by simpa only [SVr] using h
  | _, _, x, .dp, h => by simpa only [SVr] using h
  | _, _, x, .nil, h => by simpa only [SVr] using h
  | _, _, x, .ag hs, h => by
    simp only [SVr] at h ⊢
    obtain ⟨vs, h1, h2⟩ := h
    exact ⟨vs, h1, Rvs.r hj ho hs h2⟩
  | _, _, x, .tup hs, h => by
    simp only [SVr] at h ⊢
    obtain ⟨vs, h1, h2⟩ := h
    exact ⟨vs, h1, Rvs.r hj ho hs h2⟩
  | _, _, x, .fn hs, h => by
    simp only [SVr] at h ⊢
    obtain ⟨vs, h1, h2⟩ := h
    exact ⟨vs, h1, Rvs.r hj ho hs h2⟩
theorem Rvs.r (hj : ∃ o o' : LO, L[j]? = some o ∧ L'[j]? = some o' ∧ o.ver = v ∧ o'.ver = 0) (ho : ∀ (i : Nat) (o : LO), i ≠ j → L[i]? = some o → ∃ o', L'[i]? = some o' ∧ o'.ver = o.ver) : ∀ {az bs : List SV} {xs : List Value}, Rvs j v az bs → SVrs S L env w az xs → SVrs S L' env w bs xs
  | _, _, [], .nil, h => by simp only [SVrs]
  | _, _, _ :: _, .nil, h => by simp only [SVrs] at h
  | _, _, [], .cons _ _, h => by simp only [SVrs] at h
  | _, _, _ :: _, .cons h1 h2, h => by
    simp only [SVrs] at h ⊢
    exact ⟨Rv.r hj ho h1 h.1, Rvs.r hj ho h2 h.2⟩
end
theorem Realz.rv {A : Amb} {a : Act} {fr fr' : List (Nat × SV)} {N n : Nat} [hb : BaseN A n] (hn : n ≤ j) (hjl : j < L.length) (hL : RvL j v 0 L L') (hfr : RvF j v fr fr') (h : Realz A ⟨fr, L, N⟩ a w) : Realz A ⟨fr', L', N⟩ a w := by
  obtain ⟨S, env, hH, hf, hN, hd⟩ := h
  obtain ⟨hlen, hget⟩ := hL.get
  have hback : ∀ (m : Nat) (o : LO), L[m]? = some o → ∃ o', L'[m]? = some o' ∧ RvO j v m o o' := by
    intro m o ho
    have hm : m < L'.length := by rw [← hlen]; exact (List.getElem?_eq_some_iff.1 ho).1
    obtain ⟨o0, k1, k2⟩ := hget m _ (List.getElem?_eq_getElem hm)
    rw [ho] at k1
    obtain rfl := Option.some.inj k1
    exact ⟨_, List.getElem?_eq_getElem hm, by simpa using k2⟩
  have hj : ∃ o o' : LO, L[j]? = some o ∧ L'[j]? = some o' ∧ o.ver = v ∧ o'.ver = 0 := by
    obtain ⟨o', k1, k2⟩ := hback j _ (List.getElem?_eq_getElem hjl)
    generalize ho : L[j] = o at k2
    have hoj : L[j]? = some o := by rw [List.getElem?_eq_getElem hjl, ho]
    cases k2 with
    | own => exact ⟨_, _, hoj, k1, rfl, rfl⟩
    | arrj => exact ⟨_, _, hoj, k1, rfl, rfl⟩
    | box hi => simp at hi
    | owns hi => simp at hi
    | arr hi => simp at hi
    | frz hi => simp at hi
    | dead hi => simp at hi
  have ho : ∀ (i : Nat) (o : LO), i ≠ j → L[i]? = some o → ∃ o', L'[i]? = some o' ∧ o'.ver = o.ver := by
    intro i o hi h
    obtain ⟨o', k1, k2⟩ := hback i o h
    refine ⟨o', k1, ?_⟩
    cases k2 with
    | own => exact absurd rfl hi
    | arrj => exact absurd rfl hi
    | _ => rfl
  have hlive : ∀ {i : Nat} {o o' : LO}, RvO j v i o o' → o'.live = o.live ∧ ∀ hv b, o'.ft w hv b ↔ o.ft w hv b := by
    intro i o o' h
    cases h with
    | _ => exact ⟨rfl, fun _ _ => Iff.rfl⟩
  refine ⟨S, env, ⟨by rw [← hlen]; exact hH.len, fun i o' hv h1 h2 => ?_, fun i o' hv b h1 h2 h3 h4 => ?_, fun i k o1 o2 hv1 hv2 b h1 h2 h3 h4 h5 h6 h7 h8 => ?_, hH.sS, hH.sA, hH.frame, hH.size, hH.os, hH.tape, hH.output, ?_, hH.glob⟩, fun t => ?_, hN, hd⟩
  · obtain ⟨o, k1, k2⟩ := hget i o' h1
    simp only [Nat.zero_add] at k2
    have hob := hH.objs i o hv k1 h2
    cases k2 with
    | own => exact hob
    | arrj => exact hob
    | owns hi => exact hob
    | arr hi => exact hob
    | frz hi => exact hob
    | dead hi => exact hob
    | box hi hs =>
      obtain ⟨b, vals, e, r1, r2, r3, r4⟩ := hob
      exact ⟨b, vals, e, r1, r2, Rvs.r hj ho hs r3, r4⟩
  · obtain ⟨o, k1, k2⟩ := hget i o' h1
    obtain ⟨q1, q2⟩ := hlive k2
    exact hH.excl i o hv b k1 (by rw [← q1]; exact h2) h3 ((q2 hv b).1 h4)
  · obtain ⟨p1, k1, k2⟩ := hget i o1 h1
    obtain ⟨p2, k3, k4⟩ := hget k o2 h2
    obtain ⟨q1, q2⟩ := hlive k2
    obtain ⟨q3, q4⟩ := hlive k4
    exact hH.dist i k p1 p2 hv1 hv2 b k1 k3 (by rw [← q1]; exact h3) (by rw [← q3]; exact h4) h5 h6 ((q2 _ _).1 h7) ((q4 _ _).1 h8)
  · refine ⟨by rw [← hlen]; exact hH.base.1, fun i hv o hv' o' h1 h2 h3 h4 => ?_⟩
    have hi : i < n := by rw [← hb.h]; exact (List.getElem?_eq_some_iff.1 h2).1
    obtain ⟨o0, k1, k2⟩ := hget i o' h4
    obtain ⟨o1, k3, k4⟩ := ho i o0 (by omega) k1
    rw [h4] at k3
    obtain rfl := Option.some.inj k3
    have := hH.base.2 i hv o hv' o0 h1 h2 h3 k1
    rw [k4]
    exact this
  · rcases hfr.look t with hjk | hr
    · show SVr S L' env w (Go.Eng.look fr' t) _
      rw [hjk]
      simp only [SVr]
    · exact Rv.r hj ho hr (hf t)
end
theorem V_rv {P : Program} {A : Amb} {c : Code} {Q : Exit → St → Prop} {fr fr' : List (Nat × SV)} {L L' : List LO} {N v : Nat} (n : Nat) [BaseN A n] (j : Nat) (h : V P A c ⟨fr', L', N⟩ Q)
    (hL : RvL j v 0 L L' := by (repeat (first | exact Rv.sl | exact Rv.ne rfl | exact Rv.d | exact RvO.own | exact RvO.arrj | refine RvO.box rfl ?_ | exact RvO.owns rfl | exact RvO.arr rfl | exact RvO.frz rfl | exact RvO.dead rfl | constructor)); first | done | fail)
    (hfr : RvF j v fr fr' := by (repeat (first | exact Rv.sl | exact Rv.ne rfl | exact Rv.d | constructor)); first | done | fail) (hn : (Nat.ble n j && Nat.blt j L.length) = true := by rfl) : V P A c ⟨fr, L, N⟩ Q := by
  simp only [Bool.and_eq_true, Nat.blt_eq] at hn
  exact fun a w hr => h a w (hr.rv (n := n) (Nat.le_of_ble_eq_true hn.1) hn.2 hL hfr)
/-! ### calls that hand over, in regions that draw their order -/
section
variable {P : Program} {A : Amb} {ops : Array Oper} {K : St → Prop} {r : List (Nat × Bool)} {pf : PF} {fr : List (Nat × SV)} {L L' : List LO} {N i t : Nat} {sv : SV}
variable {ty : TypeId} {pos : String} {af : Array Edge}
theorem HSt_callG {f : Operand} {fi : Nat} {caps : List SV} {args : Array Operand} {at_ : Array TypeId} {cargs : List SV} {Lc Lo : List LO} {sv0 : SV} (js : List Nat) (hspec : Spec P fi cargs Lc (fun sv Lo' => sv = sv0 ∧ Lo' = Lo))
    (hsv : sv0.ren (rn js L.length) = sv) (hL' : putA js (Lo.map (LO.ren (rn js L.length))) L = L')
    (hf : (St.mk fr L N).ev f = .fn fi caps) (hp : pickB L (rn js L.length) 0 Lc)
    (hjs : (decide js.Nodup && (js.all fun j => Nat.blt j L.length) && js.length == Lc.length && LO.lts Lc.length Lc) = true)
    (hargs : AGs L (rn js L.length) Lc.length (args.toList.map (St.mk fr L N).ev ++ caps) cargs) (ht : Nat.blt t N = true) :
    HSt P A ops ⟨fr, L, N⟩ ⟨some t, .call { callee := .value f, args := args, argTypes := at_ }, ty, pos, af, none⟩ sv L' := by
  intro fr' he K hK
  have hm : args.toList.map (St.mk fr' L N).ev = args.toList.map (St.mk fr L N).ev := List.map_congr_left fun x hx => he x (by simp only [Op.operands, Call.operands]; simp; exact .inr (by simpa using hx))
  refine VO_cG (caps := caps) js hspec ?_ (by rw [he f (by simp [Op.operands, Call.operands])]; exact hf) hp hjs (by rw [hm]; exact hargs) ht
  rintro _ _ ⟨rfl, rfl⟩
  rw [hsv, hL']
  exact VO_nil hK
theorem VY_cG {f : Operand} {fi : Nat} {caps : List SV} {args : Array Operand} {at_ : Array TypeId} {cargs : List SV} {Lc Lo : List LO} {sv0 : SV} (js : List Nat) (hspec : Spec P fi cargs Lc (fun sv Lo' => sv = sv0 ∧ Lo' = Lo)) (h : VY P A ops K r pf ⟨(t, sv) :: fr, L', N⟩)
    (hi : ops[i]? = some ⟨some t, .call { callee := .value f, args := args, argTypes := at_ }, ty, pos, af, none⟩ := by rfl) (hsv : sv0.ren (rn js L.length) = sv := by rfl) (hL' : putA js (Lo.map (LO.ren (rn js L.length))) L = L' := by rfl)
    (hf : (St.mk fr L N).ev f = .fn fi caps := by rfl) (hp : pickB L (rn js L.length) 0 Lc := by ((repeat (first | exact trivial | exact rfl | refine And.intro ?_ ?_)); first | done | fail))
    (hjs : (decide js.Nodup && (js.all fun j => Nat.blt j L.length) && js.length == Lc.length && LO.lts Lc.length Lc) = true := by rfl)
    (hargs : AGs L (rn js L.length) Lc.length (args.toList.map (St.mk fr L N).ev ++ caps) cargs := by ((repeat (first | exact trivial | exact .inl ⟨rfl, rfl⟩ | exact .inr ⟨_, rfl, by ((repeat (first | exact trivial | exact rfl | exact ⟨_, rfl⟩ | refine And.intro ?_ ?_)); first | done | fail)⟩ | refine And.intro ?_ ?_)); first | done | fail))
    (ht : Nat.blt t N = true := by rfl) (hpf : PfOk ops i L' pf := by (repeat (first | exact PfOk.nil | (apply PfOk.keep; focus ((repeat constructor); done)) | (apply PfOk.dep; focus kernel_rfl)))) :
    VY P A ops K ((i, false) :: r) pf ⟨fr, L, N⟩ := VY_hst hi (HSt_callG js hspec hsv hL' hf hp hjs hargs ht) hpf h
end
/-! ### short forms of my templates' blocks -/
section
variable {P : Program} {A : Amb} {ops : Array Oper} {K : St → Prop} {rest : List Oper} {fr : List (Nat × SV)} {L : List LO} {N t : Nat} {sv : SV} {ty : TypeId} {pos : String} {af : Array Edge} {op : Op}
end
section
variable {P : Program} {A : Amb} {σ : St} {dst : Option Nat} {ty T T' : TypeId} {pos : String} {af : Array Edge} {g : Option (Nat × Bool)} {x y : Operand}
end
end Go.Eng
set_option linter.unusedVariables false
set_option linter.unusedSimpArgs false
namespace Go.Eng
open Go Go.RowKit
section
variable {P : Program} {A : Amb} {σ : St} {dst : Option Nat} {ty T T' : TypeId} {pos : String} {af : Array Edge} {g : Option (Nat × Bool)} {x y : Operand}
theorem Q_quoT {m n r : Int} (hr : IntKind.i64.wrap (m.tdiv n) = r) (hx : σ.ev x = .d (.i .i64 m) := by rfl) (hy : σ.ev y = .d (.i .i64 n) := by rfl) (hn : decide (0 < n) = true := by rfl) : Quiet P A σ ⟨dst, .binOp .quo T x y T', ty, pos, af, g⟩ (.d (.i .i64 r)) := Quiet.pure fun S env a w hH ho => by
  have h1 := ho x (by simp [Op.operands])
  have h2 := ho y (by simp [Op.operands])
  rw [hx, SVr.int] at h1
  rw [hy, SVr.int] at h2
  have h0 : ¬ n = 0 := by have := of_decide_eq_true hn; omega
  subst hr
  exact ⟨_, by simp [execOp, h1, h2, eqGuard, binOp, Op.intDiv, h0], SVr.int.2 rfl⟩
theorem Q_remT {m n : Int} (hx : σ.ev x = .d (.i .i64 m) := by rfl) (hy : σ.ev y = .d (.i .i64 n) := by rfl) (hn : decide (0 < n) = true := by rfl) : Quiet P A σ ⟨dst, .binOp .rem T x y T', ty, pos, af, g⟩ (.d (.i .i64 (m.tmod n))) := Quiet.pure fun S env a w hH ho => by
  have h1 := ho x (by simp [Op.operands])
  have h2 := ho y (by simp [Op.operands])
  rw [hx, SVr.int] at h1
  rw [hy, SVr.int] at h2
  have h0 : ¬ n = 0 := by have := of_decide_eq_true hn; omega
  exact ⟨_, by simp [execOp, h1, h2, eqGuard, binOp, Op.intDiv, h0], SVr.int.2 rfl⟩
/-- Two strings put together. -/
theorem QR_cat {a b : List UInt8} (hl : a.length + b.length ≤ 4294967296) (hx : σ.ev x = .d (.s a) := by rfl) (hy : σ.ev y = .d (.s b) := by rfl) : QR P σ ⟨dst, .binOp .add T x y T', ty, pos, af, g⟩ (.d (.s (a ++ b))) :=
  fun A fr' L' he _ => Q_adds (by rw [he x (by simp [Op.operands])]; exact hx) (by rw [he y (by simp [Op.operands])]; exact hy) (by rw [big_eq]; omega)
end
end Go.Eng
set_option linter.unusedVariables false
set_option linter.unusedSimpArgs false
namespace Go.Eng
open Go Go.RowKit
def eByte (a : UInt8) : U := .i .u8 (a.toNat : Int)
def eBytes : List UInt8 → List U
  | [] => []
  | a :: l => .i .u8 (a.toNat : Int) :: eBytes l
instance : Enc UInt8 eByte eBytes 1 := ⟨fun l => by induction l with | nil => rfl | cons a l ih => simp [eBytes, ih, eByte], fun _ => rfl⟩
theorem gByte {l : List UInt8} {k : Nat} {x : UInt8} (h : l[k]? = some x) : (eBytes l)[k]? = some (.i .u8 (x.toNat : Int)) := Enc.get h
/-- The cursor: the code, where it stands, its hash. -/
structure Tl1Cur where
  b : List UInt8
  i : Int
  h : Int
def andI (m n : Int) : Int := IntKind.i64.wrap (BitVec.ofInt 64 m &&& BitVec.ofInt 64 n).toNat
def xorI (m n : Int) : Int := IntKind.i64.wrap (BitVec.ofInt 64 m ^^^ BitVec.ofInt 64 n).toNat
def shrI (m n : Int) : Int := m.fdiv (2 ^ (min n.toNat 64))
theorem andI_255 (m : Int) : 0 ≤ andI m 255 ∧ andI m 255 ≤ 255 := by
  have h : (BitVec.ofInt 64 m &&& BitVec.ofInt 64 255).toNat ≤ 255 := by
    rw [BitVec.toNat_and]
    exact Nat.and_le_right
  unfold andI
  rw [wrap_in _ (by omega) (by omega)]
  omega
section
variable {P : Program} {A : Amb} {σ : St} {dst : Option Nat} {ty T T' : TypeId} {pos : String} {af : Array Edge} {g : Option (Nat × Bool)} {x y : Operand}
/-- The nil pointer. -/
theorem QR_nilp : QR P σ ⟨dst, .assign (.const (.pointer none)), ty, pos, af, g⟩ .junk :=
  fun A fr' L' he _ => Quiet.pure fun S env a w hH ho => ⟨.pointer none, by simp [execOp, Act.eval], by simp only [SVr]⟩
theorem QR_and {m n : Int} (hx : σ.ev x = .d (.i .i64 m) := by rfl) (hy : σ.ev y = .d (.i .i64 n) := by rfl) : QR P σ ⟨dst, .binOp .and T x y T', ty, pos, af, g⟩ (.d (.i .i64 (andI m n))) :=
  fun A fr' L' he _ => Quiet.pure fun S env a w hH ho => by
    have h1 := ho x (by simp [Op.operands])
    have h2 := ho y (by simp [Op.operands])
    rw [he x (by simp [Op.operands]), hx, SVr.int] at h1
    rw [he y (by simp [Op.operands]), hy, SVr.int] at h2
    exact ⟨_, by simp [execOp, h1, h2, eqGuard, binOp, Op.intBits]; rfl, SVr.int.2 rfl⟩
theorem QR_xor {m n : Int} (hx : σ.ev x = .d (.i .i64 m) := by rfl) (hy : σ.ev y = .d (.i .i64 n) := by rfl) : QR P σ ⟨dst, .binOp .xor T x y T', ty, pos, af, g⟩ (.d (.i .i64 (xorI m n))) :=
  fun A fr' L' he _ => Quiet.pure fun S env a w hH ho => by
    have h1 := ho x (by simp [Op.operands])
    have h2 := ho y (by simp [Op.operands])
    rw [he x (by simp [Op.operands]), hx, SVr.int] at h1
    rw [he y (by simp [Op.operands]), hy, SVr.int] at h2
    exact ⟨_, by simp [execOp, h1, h2, eqGuard, binOp, Op.intBits]; rfl, SVr.int.2 rfl⟩
theorem QR_shr {m n : Int} {k : IntKind} (hx : σ.ev x = .d (.i .i64 m) := by rfl) (hy : σ.ev y = .d (.i k n) := by rfl) (hn : decide (0 ≤ n) = true := by rfl) : QR P σ ⟨dst, .binOp .shr T x y T', ty, pos, af, g⟩ (.d (.i .i64 (shrI m n))) :=
  fun A fr' L' he _ => Quiet.pure fun S env a w hH ho => by
    have h1 := ho x (by simp [Op.operands])
    have h2 := ho y (by simp [Op.operands])
    rw [he x (by simp [Op.operands]), hx, SVr.int] at h1
    rw [he y (by simp [Op.operands]), hy, SVr.int] at h2
    have h0 : ¬ n < 0 := by have := of_decide_eq_true hn; omega
    exact ⟨_, by simp [execOp, h1, h2, eqGuard, binOp, Op.shift, h0]; rfl, SVr.int.2 rfl⟩
theorem QR_rem {m n : Int} (h0 : n ≠ 0) (hx : σ.ev x = .d (.i .i64 m) := by rfl) (hy : σ.ev y = .d (.i .i64 n) := by rfl) : QR P σ ⟨dst, .binOp .rem T x y T', ty, pos, af, g⟩ (.d (.i .i64 (m.tmod n))) :=
  fun A fr' L' he _ => Quiet.pure fun S env a w hH ho => by
    have h1 := ho x (by simp [Op.operands])
    have h2 := ho y (by simp [Op.operands])
    rw [he x (by simp [Op.operands]), hx, SVr.int] at h1
    rw [he y (by simp [Op.operands]), hy, SVr.int] at h2
    exact ⟨_, by simp [execOp, h1, h2, eqGuard, binOp, Op.intDiv, h0], SVr.int.2 rfl⟩
theorem QR_cv {T2 : TypeId} {k k1 k2 : IntKind} {m : Int} (h1 : P.underlying T = some (.int k1)) (h2 : P.underlying T2 = some (.int k2)) (hx : σ.ev x = .d (.i k m) := by rfl) : QR P σ ⟨dst, .convert T T2 x, ty, pos, af, g⟩ (.d (.i k2 (k2.wrap m))) :=
  fun A fr' L' he _ => Q_convI (by rw [he x (by simp [Op.operands])]; exact hx) h1 h2
end
end Go.Eng
set_option linter.unusedVariables false
set_option linter.unusedSimpArgs false
namespace Go.Eng
open Go Go.RowKit
theorem Rds.split {S : Nat → Prop} {w : World} : ∀ (us : List U) (vs : List U) (cs : List Value), Rds S w (us ++ vs) cs → ∃ c1 c2, cs = c1 ++ c2 ∧ Rds S w us c1 ∧ Rds S w vs c2
  | [], vs, cs, h => ⟨[], cs, rfl, by simp only [Rds], h⟩
  | u :: us, vs, cs, h => by
    simp only [List.cons_append, Rds] at h
    obtain ⟨c1, c2, rfl, h1, h2⟩ := h
    obtain ⟨d1, d2, rfl, h3, h4⟩ := Rds.split us vs c2 h2
    exact ⟨c1 ++ d1, d2, by rw [List.append_assoc], by simp only [Rds]; exact ⟨c1, d1, rfl, h1, h3⟩, h4⟩
theorem arr_mix_r {w : World} {S : Nat → Prop} {L : List LO} {env : List Value} {e z ver : Nat} {es : List U} {hv : Value} (h : ObjR S L env w (.arr e z ver es) hv) : (∀ S' L' env', S' = S → ObjR S' L' env' w (.mix e z ver [] es) hv) ∧ ∀ b, (LO.mix e z ver [] es).ft w hv b ↔ (LO.arr e z ver es).ft w hv b := by
  obtain ⟨h1, h2, xs, h3, h4⟩ := h
  have hf := fp_mix (fs := []) (n := es.length) (by simp) (Nat.zero_le _) h3
  constructor
  · rintro S' L' env' rfl
    refine ⟨by simpa using h1, by simpa using h2, ⟨xs, by simpa using h3, by simp [Trs], by simpa using h4⟩, ?_⟩
    rcases hf with ⟨_, _, _, hf⟩ | ⟨g, cap, _, hf⟩
    · rw [hf]; exact List.nodup_nil
    · rw [hf]; simp [U.fps]
  · intro b
    simp only [LO.ft]
    rcases hf with ⟨rfl, _, _, hf⟩ | ⟨g, cap, rfl, hf⟩
    · rw [hf]; simp [blk]
    · rw [hf]; simp [blk, U.fps, eq_comm]
theorem mix_own_r {w : World} {S : Nat → Prop} {L : List LO} {env : List Value} {e z ver : Nat} {fs : List U} {hv : Value} (h : ObjR S L env w (.mix e z ver fs []) hv) : ∀ S' L' env', ObjR S' L' env' w (.own e z ver fs) hv := by
  intro S' L' env'
  obtain ⟨h1, h2, ⟨xs, h3, h4, _⟩, h5⟩ := h
  simp only [List.append_nil] at h1 h2 h3
  exact ⟨h1, h2, ⟨xs, h3, by rw [List.take_of_length_le (by rw [h3.1]; exact Nat.le_refl _)] at h4; exact h4⟩, h5⟩
section
variable {P : Program} {A : Amb} {σ : St} {K : St → Prop} {Q : Exit → St → Prop}
variable {ops : Array Oper} {rest : List Oper} {t : Nat} {ty : TypeId} {pos : String} {af : Array Edge} {x y : Operand} {sv : SV} {dst : Option Nat} {g : Option (Nat × Bool)}
theorem Realz.toMix {a : Act} {w : World} {fr : List (Nat × SV)} {L : List LO} {N i e z ver : Nat} {es : List U} (hL : L[i]? = some (.arr e z ver es)) (h : Realz A ⟨fr, L, N⟩ a w) : Realz A ⟨fr, L.set i (.mix e z ver [] es), N⟩ a w := by
  obtain ⟨S, env, hH, hf, hN, hd⟩ := h
  have hi := (List.getElem?_eq_some_iff.1 hL).1
  obtain ⟨hv, hhv⟩ : ∃ hv, env[i]? = some hv := ⟨_, List.getElem?_eq_getElem (by rw [hH.len]; exact hi)⟩
  have hob := hH.objs i _ hv hL hhv
  obtain ⟨hH', C⟩ : HeapR A S (L.set i (.mix e z ver [] es)) env w ∧ Carry S L env w S (L.set i (.mix e z ver [] es)) env w := by
    refine hH.eat [] i _ hv (by rw [List.length_set]; exact hH.len) (fun j hj => ?_) (List.getElem?_set_self hi) (fun _ _ => rfl) hhv (fun _ _ _ => rfl) (fun o hv1 h1 h2 => ?_) (Nat.le_refl _) rfl rfl rfl (fun k hk => ?_) (fun C => (arr_mix_r hob).1 _ _ _ rfl)
    · rw [List.getElem?_set_ne (fun e => hj e.symm)]
      simp
    · rw [hL] at h1; rw [hhv] at h2
      cases h1; cases h2
      exact ⟨Nat.le_refl _, fun _ => rfl, fun _ _ => rfl⟩
    · have := ((arr_mix_r hob).2 k).1 hk
      exact ⟨(hH.excl i _ hv k hL rfl hhv this).2.2, .inr ⟨i, _, hv, .inl rfl, hL, rfl, hhv, this⟩⟩
  exact ⟨S, env, hH', fun t => SVr.carry C _ _ (hf t), hN, hd⟩
theorem Realz.ofMix {a : Act} {w : World} {fr : List (Nat × SV)} {L : List LO} {N i e z ver : Nat} {fs : List U} (hL : L[i]? = some (.mix e z ver fs [])) (h : Realz A ⟨fr, L, N⟩ a w) : Realz A ⟨fr, L.set i (.own e z ver fs), N⟩ a w := by
  obtain ⟨S, env, hH, hf, hN, hd⟩ := h
  have hi := (List.getElem?_eq_some_iff.1 hL).1
  obtain ⟨hv, hhv⟩ : ∃ hv, env[i]? = some hv := ⟨_, List.getElem?_eq_getElem (by rw [hH.len]; exact hi)⟩
  have hob := hH.objs i _ hv hL hhv
  obtain ⟨hH', C⟩ : HeapR A S (L.set i (.own e z ver fs)) env w ∧ Carry S L env w S (L.set i (.own e z ver fs)) env w := by
    refine hH.eat [] i _ hv (by rw [List.length_set]; exact hH.len) (fun j hj => ?_) (List.getElem?_set_self hi) (fun _ _ => rfl) hhv (fun _ _ _ => rfl) (fun o hv1 h1 h2 => ?_) (Nat.le_refl _) rfl rfl rfl (fun k hk => ?_) (fun C => mix_own_r hob _ _ _)
    · rw [List.getElem?_set_ne (fun e => hj e.symm)]
      simp
    · rw [hL] at h1; rw [hhv] at h2
      cases h1; cases h2
      exact ⟨Nat.le_refl _, fun _ => rfl, fun _ _ => rfl⟩
    · exact ⟨(hH.excl i _ hv k hL rfl hhv hk).2.2, .inr ⟨i, _, hv, .inl rfl, hL, rfl, hhv, hk⟩⟩
  exact ⟨S, env, hH', fun t => SVr.carry C _ _ (hf t), hN, hd⟩
/-- An array of shared elements, to be turned. -/
theorem V_toMix {c : Code} {fr : List (Nat × SV)} {L L' : List LO} {N e z ver : Nat} {es : List U} (i : Nat) (h : V P A c ⟨fr, L', N⟩ Q) (hL : L[i]? = some (.arr e z ver es) := by rfl) (hL' : St1 (.mix e z ver [] es) i L L' := by repeat constructor) : V P A c ⟨fr, L, N⟩ Q := by
  have := hL'.spec
  subst this
  exact fun a w hr => h a w (hr.toMix hL)
theorem V_ofMix {c : Code} {fr : List (Nat × SV)} {L L' : List LO} {N e z ver : Nat} {fs : List U} (i : Nat) (h : V P A c ⟨fr, L', N⟩ Q) (hL : L[i]? = some (.mix e z ver fs []) := by rfl) (hL' : St1 (.own e z ver fs) i L L' := by repeat constructor) : V P A c ⟨fr, L, N⟩ Q := by
  have := hL'.spec
  subst this
  exact fun a w hr => h a w (hr.ofMix hL)
theorem Q_index_mix {T e : TypeId} {i ver z : Nat} {fs es : List U} {k : IntKind} {n : Int} {gg : Bool} {bs : Nat} (hx : σ.ev x = .sl i ver) (hL : σ.L[i]? = some (.mix e z ver fs es)) (hy : σ.ev y = .d (.i k n)) (hT : tyE P T = some e) (he : tyI P e = some (gg, z, bs))
    (hn : 0 ≤ n) (hn2 : n < (fs ++ es).length) : Quiet P A σ ⟨dst, .indexAddr T x y, ty, pos, af, g⟩ (.ep i ver z n.toNat 0) := Quiet.pure fun S env a w hH ho => by
  have h1 := ho x (by simp [Op.operands])
  have h2 := ho y (by simp [Op.operands])
  rw [hy, SVr.int] at h2
  rw [hx] at h1
  simp only [SVr] at h1
  obtain ⟨hv, o, k1, k2, k3, k5, k4⟩ := h1
  rw [hL] at k2
  obtain rfl := Option.some.inj k2
  have k6 := k4 rfl
  obtain ⟨_, _, ⟨xs, h3, _, _⟩, _⟩ := hH.objs i _ hv hL k1
  rcases h3.2 with ⟨_, r2⟩ | ⟨b, cap, cur, r1, _⟩
  · rw [r2] at hn2; omega
  · refine ⟨.pointer (some ⟨b, n.toNat * z, none⟩), ?_, ?_⟩
    · simp [execOp, Instr.indexAt, h2, k6, r1, asIntOf, run_underlying (tyE_und hT), run_sizeOf he, hn, (by simpa using hn2 : n < (fs.length : Int) + es.length), Addr.add_lit]
    · simp only [SVr]
      exact ⟨hv, _, k1, hL, Nat.le_refl _, rfl, fun _ => ⟨b, by rw [r1]; rfl, rfl⟩⟩
theorem Q_ixm {T e : TypeId} {i ver z : Nat} {fs es : List U} {gg : Bool} {bs : Nat} (k : Nat) (hn2 : k < (fs ++ es).length) (hx : σ.ev x = .sl i ver := by rfl) (hL : σ.L[i]? = some (.mix e z ver fs es) := by rfl) (hy : σ.ev y = .d (.i .i64 (k : Int)) := by rfl) [TE P T e] [TI P e gg z bs] :
    Quiet P A σ ⟨dst, .indexAddr T x y, ty, pos, af, g⟩ (.ep i ver z k 0) := by
  have := Q_index_mix (P := P) (A := A) (dst := dst) (ty := ty) (pos := pos) (af := af) (g := g) hx hL hy (TE.h : tyE P T = some e) (TI.h : tyI P e = some (gg, z, bs)) (Int.natCast_nonneg k) (by omega)
  simpa using this
theorem Q_field_mix {T : TypeId} {i ver z k off f fo : Nat} {e' z' : Nat} {fs es : List U} (hx : σ.ev x = .ep i ver z k off) (hL : σ.L[i]? = some (.mix e' z' ver fs es)) (hF : tyF P T f = some fo) :
    Quiet P A σ ⟨dst, .fieldAddr T x f, ty, pos, af, g⟩ (.ep i ver z k (off + fo)) := Quiet.pure fun S env a w hH ho => by
  have h1 := ho x (by simp [Op.operands])
  rw [hx] at h1
  simp only [SVr] at h1
  obtain ⟨hv, o, k1, k2, k3, k5, k4⟩ := h1
  rw [hL] at k2
  obtain rfl := Option.some.inj k2
  obtain ⟨b, e1, e2⟩ := k4 rfl
  refine ⟨.pointer (some ⟨b, k * z + off + fo, none⟩), by simp only [execOp, e2, Sem.run_bind, tyF_run hF, Result.andThen_ok, Sem.run_pure], ?_⟩
  simp only [SVr]
  exact ⟨hv, _, k1, hL, Nat.le_refl _, rfl, fun _ => ⟨b, e1, by rw [Nat.add_assoc]⟩⟩
/-- The last field of the first element that is not owned yet. -/
theorem Q_load_mix {T : TypeId} {i ver z k off : Nat} {e' : Nat} {fs es pre : List U} {u : U} {gg : Bool} {zu bs : Nat} (hx : σ.ev x = .ep i ver z k off) (hL : σ.L[i]? = some (.mix e' z ver fs (.st (pre ++ [u]) :: es))) (hk : fs.length = k) (hoff : U.szs pre = off) (hT : tyI P T = some (gg, zu, bs)) (hzu : u.sz = zu) (hg : u.isSt = gg) :
    Quiet P A σ ⟨dst, .load T x, ty, pos, af, g⟩ (.d u) := Quiet.pure fun S env a w hH ho => by
  have h1 := ho x (by simp [Op.operands])
  rw [hx] at h1
  simp only [SVr] at h1
  obtain ⟨hv, o, k1, k2, k3, k5, k4⟩ := h1
  rw [hL] at k2
  obtain rfl := Option.some.inj k2
  obtain ⟨b, e1, e2⟩ := k4 rfl
  obtain ⟨_, hz, ⟨xs, h3, _, h4⟩, _⟩ := hH.objs i _ hv hL k1
  have hat := owns_At h3 e1
  subst hk; subst hoff; subst hzu; subst hg
  simp only [Rds] at h4
  obtain ⟨c1, c2, hxs, h5, _⟩ := h4
  simp only [Rd] at h5
  obtain ⟨p1, p2, rfl, h6, h7⟩ := Rds.split pre [u] c1 h5
  simp only [Rds] at h7
  obtain ⟨q1, q2, rfl, h8, rfl⟩ := h7
  have hp1 := Rds.length _ _ h6
  have hq1 := Rd.length _ _ h8
  have hcell : ∀ j, j < q1.length → xs[fs.length * z + U.szs pre + j]? = q1[j]? := by
    intro j hj
    have : (xs.drop (fs.length * z))[U.szs pre + j]? = q1[j]? := by
      rw [hxs, List.append_nil, List.append_assoc, List.getElem?_append_right (by omega), hp1, Nat.add_sub_cancel_left, List.getElem?_append_left hj]
    rw [← this, List.getElem?_drop, Nat.add_assoc]
  refine ⟨val u q1, ?_, ?_⟩
  · obtain ⟨row, e, fz, r1, r2⟩ := hat
    have := run_loadVar hT w b (fs.length * z + U.szs pre) q1 hq1 ⟨row, e, fz, r1, fun j hj => ?_⟩ (fun h => sz_of_not_st h)
    · simp [execOp, Instr.loadAt, e2, Instr.sureAddr, this, val]
    · rw [← hcell j hj]
      have hlt : fs.length * z + U.szs pre + j < xs.length := by
        have := hcell j hj
        rw [List.getElem?_eq_getElem hj] at this
        exact (List.getElem?_eq_some_iff.1 this).1
      have := r2 (fs.length * z + U.szs pre + j) hlt
      simpa using this
  · simp only [SVr]
    exact ⟨_, rfl, h8⟩
/-- The last field of the first element that is not owned yet is stored. -/
theorem VO_storeM {T : TypeId} {gg : Bool} {i ver z k off e bs zu : Nat} {fs es pre : List U} {old u : U} {js : List Nat} {fr : List (Nat × SV)} {L L' : List LO} {N : Nat} (hx : (St.mk fr L N).ev x = .ep i ver z k off) (hL : L[i]? = some (.mix e z ver fs (.st (pre ++ [old]) :: es))) (hk : fs.length = k) (hoff : U.szs pre = off) (hpre : U.noSls pre = true)
    (hy : OV L ((St.mk fr L N).ev y) u js) (hjs : (decide js.Nodup && !js.contains i) = true) (hT : tyI P T = some (gg, zu, bs)) (hu : u.sz = zu) (hou : old.sz = zu) (hL' : (kill js 0 L).set i (.mix e z ver (fs ++ [.st (pre ++ [u])]) es) = L')
    (h : VO P A ops rest ⟨fr, L', N⟩ K) :
    VO P A ops (⟨none, .store T x y, ty, pos, af, none⟩ :: rest) ⟨fr, L, N⟩ K := by
  subst hL'
  simp only [Bool.and_eq_true, decide_eq_true_eq, Bool.not_eq_true'] at hjs
  refine VO_step rfl (fun S env a w hH hf hN hd => ?_) h
  have h1 := Realz.ev hf hH x
  obtain ⟨cs, c1, hcells, c2, c3, c4, c5⟩ := hy.r hH hjs.1 (Realz.ev hf hH y)
  rw [hx] at h1
  simp only [SVr] at h1
  obtain ⟨hv, o, k1, k2, k3, k5, k4⟩ := h1
  rw [hL] at k2
  obtain rfl := Option.some.inj k2
  obtain ⟨b, e1, e2⟩ := k4 rfl
  have hob := hH.objs i _ hv hL k1
  obtain ⟨hbg, hz, ⟨xs, m1, m2, m3⟩, hnd⟩ := hob
  have hcl := Tr.len _ _ c2
  rw [hu] at hcl
  have hzf : ∀ v ∈ fs, v.sz = z := fun v hv' => hz v (by simp [hv'])
  have hfp := fp_mix hzf (by simp) m1
  rcases hfp with ⟨rfl, _⟩ | ⟨g, cap, rfl, hfp⟩
  · simp [blk] at e1
  simp only [blk, Option.some.injEq] at e1
  subst e1
  rcases m1.2 with ⟨hnil, _⟩ | ⟨g', cap', cur, hveq, hg0, hg, hnc, hcm, hcs, htake⟩
  · cases hnil
  cases hveq
  rw [hfp] at hnd
  -- the cells in their parts
  simp only [Rds] at m3
  obtain ⟨d1, d2, hxs, m4, m5⟩ := m3
  simp only [Rd] at m4
  obtain ⟨p1, p2, rfl, m6, m7⟩ := Rds.split pre [old] d1 m4
  have hp1 := Rds.length _ _ m6
  have hp2 := Rds.length _ _ m7
  have hd2 := Rds.length _ _ m5
  simp only [U.szs, Nat.add_zero, hou] at hp2
  have hzz : (U.st (pre ++ [old])).sz = z := hz _ (by simp)
  have hszapp : ∀ (us vs : List U), U.szs (us ++ vs) = U.szs us + U.szs vs := by
    intro us vs
    induction us with
    | nil => simp [U.szs]
    | cons a us ih => simp only [List.cons_append, U.szs, ih]; omega
  have hzo : z = off + zu := by
    simp only [U.sz, hszapp, U.szs, hou, hoff] at hzz
    omega
  have hX : (xs.take (fs.length * z)).length = fs.length * z := by
    rw [List.length_take, m1.1]
    exact Nat.min_eq_left (Nat.mul_le_mul_right _ (by simp))
  have hxs2 : xs = xs.take (fs.length * z) ++ (p1 ++ (p2 ++ d2)) := by
    conv => lhs; rw [← List.take_append_drop (fs.length * z) xs, hxs]
    simp
  have hcur : cur.toList = xs.take (fs.length * z) ++ (p1 ++ (p2 ++ (d2 ++ cur.toList.drop ((fs ++ U.st (pre ++ [old]) :: es).length * z)))) := by
    conv => lhs; rw [← List.take_append_drop ((fs ++ U.st (pre ++ [old]) :: es).length * z) cur.toList, htake, hxs2]
    simp
  generalize hX1 : xs.take (fs.length * z) = X1 at *
  generalize hR1 : cur.toList.drop ((fs ++ U.st (pre ++ [old]) :: es).length * z) = R1 at *
  have hk' : k * z = X1.length := by rw [hX, hk]
  have hst := run_storeCells_at P g (k * z + off) e cs 0 cur w hg (by
    have : cur.toList.length = X1.length + (p1.length + (p2.length + (d2.length + R1.length))) := by rw [hcur]; simp
    simp only [Array.length_toList] at this
    omega) c5
  have hnew : cur.toList.take (k * z + off) ++ cs ++ cur.toList.drop (k * z + off + cs.length) = X1 ++ (p1 ++ (cs ++ (d2 ++ R1))) := by
    rw [hcur, ← List.append_assoc X1 p1, List.take_left' (by rw [List.length_append]; omega), ← List.append_assoc (X1 ++ p1) p2, List.drop_left' (by simp only [List.length_append]; omega)]
    simp
  rw [Nat.add_zero, hnew] at hst
  have hrow := setRow_heap w g cur ((X1 ++ (p1 ++ (cs ++ (d2 ++ R1)))).toArray) e (0, 0) hg
  have hoth : ∀ b', b' ≠ g → (w.setRow g (X1 ++ (p1 ++ (cs ++ (d2 ++ R1)))).toArray).heap[b']? = w.heap[b']? := fun b' hb' => setRow_other w g b' _ hb'
  obtain ⟨q1, q2⟩ := List.nodup_cons.1 hnd
  have hap : ∀ b' ∈ u.fp w cs, b' ≠ g ∧ b' ∉ U.fps w fs X1 := by
    intro b' hb'
    obtain ⟨j, hj, ho⟩ := c4 b' hb'
    have hnot : ¬ (LO.mix e z ver fs (U.st (pre ++ [old]) :: es)).ft w (.slice (some ⟨g, 0, none⟩) (fs ++ U.st (pre ++ [old]) :: es).length cap) b' := by
      intro hft
      have := ho.inj hH ⟨_, _, hL, rfl, k1, hft⟩
      subst this
      rw [contains_mem hj] at hjs
      cases hjs.2
    simp only [LO.ft] at hnot
    rw [hfp] at hnot
    simp only [List.mem_cons, not_or] at hnot
    exact hnot
  obtain ⟨t1, t2⟩ := Trs.loc _ _ m2 (fun b' hb' => hoth b' (fun e => q1 (e ▸ hb')))
  obtain ⟨t5, t6⟩ := Tr.loc _ _ c2 (fun b' hb' => hoth b' (hap b' hb').1)
  obtain ⟨s1, s2⟩ := Rds.tr (w' := w.setRow g (X1 ++ (p1 ++ (cs ++ (d2 ++ R1)))).toArray) _ _ hpre m6
  have su : Trs (w.setRow g (X1 ++ (p1 ++ (cs ++ (d2 ++ R1)))).toArray) [u] cs ∧ U.fps (w.setRow g (X1 ++ (p1 ++ (cs ++ (d2 ++ R1)))).toArray) [u] cs = u.fp w cs := by
    simp only [Trs, U.fps]
    rw [List.take_of_length_le (by omega), List.drop_of_length_le (by omega), t6]
    exact ⟨⟨t5, rfl⟩, by simp⟩
  obtain ⟨v1, v2⟩ := Trs.append _ _ _ _ s1 su.1
  rw [s2, su.2, List.nil_append] at v2
  have hel : Trs (w.setRow g (X1 ++ (p1 ++ (cs ++ (d2 ++ R1)))).toArray) [.st (pre ++ [u])] (p1 ++ cs) ∧ U.fps (w.setRow g (X1 ++ (p1 ++ (cs ++ (d2 ++ R1)))).toArray) [.st (pre ++ [u])] (p1 ++ cs) = u.fp w cs := by
    have hl : (p1 ++ cs).length ≤ (U.st (pre ++ [u])).sz := by
      simp only [U.sz, hszapp, U.szs, List.length_append]
      omega
    simp only [Trs, U.fps]
    rw [List.take_of_length_le hl, List.drop_of_length_le hl]
    simp only [Tr, U.fp]
    exact ⟨⟨v1, trivial⟩, by rw [v2]; simp⟩
  obtain ⟨r1, r2⟩ := Trs.append _ _ _ _ t1 hel.1
  rw [t2, hel.2] at r2
  have hlenE : (fs ++ [U.st (pre ++ [u])] ++ es).length = (fs ++ U.st (pre ++ [old]) :: es).length := by simp
  have hz' : ∀ v ∈ fs ++ [U.st (pre ++ [u])] ++ es, v.sz = z := by
    intro v hv'
    simp only [List.mem_append, List.mem_singleton] at hv'
    rcases hv' with (hv' | rfl) | hv'
    · exact hzf v hv'
    · simp only [U.sz, hszapp, U.szs]; omega
    · exact hz v (by simp [hv'])
  have hf1 : (fs ++ [U.st (pre ++ [u])]).length * z = (X1 ++ (p1 ++ cs)).length := by
    simp only [List.length_append, List.length_singleton, Nat.add_mul, Nat.one_mul]
    rw [hk, hk']
    omega
  have hown' : (w.setRow g (X1 ++ (p1 ++ (cs ++ (d2 ++ R1)))).toArray).ownsRow 0 e z (.slice (some ⟨g, 0, none⟩) (fs ++ U.st (pre ++ [old]) :: es).length cap) (fs ++ [U.st (pre ++ [u])] ++ es).length (X1 ++ (p1 ++ cs) ++ d2) := by
    have hxl : (X1 ++ (p1 ++ cs) ++ d2).length = xs.length := by
      rw [hxs2]; simp only [List.length_append]; omega
    refine ⟨by rw [hxl, m1.1, hlenE], .inr ⟨g, cap, _, by rw [hlenE], hg0, hrow, by rw [hlenE]; exact hnc, hcm, ?_, ?_⟩⟩
    · rw [← hcs]
      have : cur.toList.length = X1.length + (p1.length + (p2.length + (d2.length + R1.length))) := by rw [hcur]; simp
      simp only [Array.length_toList] at this
      simp only [List.size_toArray, List.length_append]
      omega
    · rw [hlenE, ← m1.1, ← hxl]
      show List.take _ (X1 ++ (p1 ++ (cs ++ (d2 ++ R1)))) = _
      rw [show X1 ++ (p1 ++ (cs ++ (d2 ++ R1))) = X1 ++ (p1 ++ cs) ++ d2 ++ R1 by simp, List.take_left]
  have hfp' : (U.sl z (fs ++ [U.st (pre ++ [u])])).fp (w.setRow g (X1 ++ (p1 ++ (cs ++ (d2 ++ R1)))).toArray) [.slice (some ⟨g, 0, none⟩) (fs ++ U.st (pre ++ [old]) :: es).length cap] = g :: (U.fps w fs X1 ++ u.fp w cs) := by
    rcases fp_mix (fs := fs ++ [U.st (pre ++ [u])]) (fun v hv' => hz' v (by simp only [List.mem_append] at hv' ⊢; exact .inl hv')) (by simp) hown' with ⟨h, _⟩ | ⟨g2, cap2, h, hf2⟩
    · cases h
    · injection h with h1 _ _
      injection h1 with h1
      injection h1 with h1
      subst h1
      rw [hf2, hf1, List.take_left, r2]
  have hi := (List.getElem?_eq_some_iff.1 hL).1
  obtain ⟨hH', C⟩ := hH.eat (w' := w.setRow g (X1 ++ (p1 ++ (cs ++ (d2 ++ R1)))).toArray) js i (.mix e z ver (fs ++ [U.st (pre ++ [u])]) es) (.slice (some ⟨g, 0, none⟩) (fs ++ U.st (pre ++ [old]) :: es).length cap) (L' := (kill js 0 L).set i (.mix e z ver (fs ++ [U.st (pre ++ [u])]) es)) (env' := env)
    (by simp [kill_len, hH.len]) (fun j hj => by rw [List.getElem?_set_ne (fun e => hj e.symm), kill_get, Nat.zero_add]) (by rw [List.getElem?_set_self (by rw [kill_len]; exact hi)]) (fun _ _ => rfl) k1
    (fun k' hk' hno => hoth k' (fun e => hno _ _ hL k1 ⟨rfl, by simp only [LO.ft]; rw [hfp, e]; simp⟩))
    (fun o hv h1 h2 => by rw [hL] at h1; cases h1; rw [k1] at h2; cases h2; exact ⟨Nat.le_refl _, fun _ => rfl, fun _ _ => rfl⟩)
    (by rw [setRow_size]; exact Nat.le_refl _) rfl rfl rfl
    (fun b' hb' => by
      simp only [LO.ft] at hb'
      rw [hfp'] at hb'
      simp only [List.mem_cons, List.mem_append] at hb'
      have old' : ∀ j, OwnB L env w j b' → (j = i ∨ js.contains j = true) → b' < (w.setRow g (X1 ++ (p1 ++ (cs ++ (d2 ++ R1)))).toArray).heap.size ∧ (w.heap.size ≤ b' ∨ ∃ j o hv, (j = i ∨ js.contains j = true) ∧ L[j]? = some o ∧ o.live = true ∧ env[j]? = some hv ∧ o.ft w hv b') := by
        rintro j ⟨o, hv, n1, n2, n3, n4⟩ hj
        exact ⟨by rw [setRow_size]; exact (hH.excl j o hv b' n1 n2 n3 n4).2.2, .inr ⟨j, o, hv, hj, n1, n2, n3, n4⟩⟩
      have self : b' ∈ (U.sl z fs).fp w [.slice (some ⟨g, 0, none⟩) (fs ++ U.st (pre ++ [old]) :: es).length cap] → OwnB L env w i b' := fun hm => ⟨_, _, hL, rfl, k1, hm⟩
      rw [hfp] at self
      rcases hb' with rfl | hb' | hb'
      · exact old' i (self (by simp)) (.inl rfl)
      · exact old' i (self (by simp [hb'])) (.inl rfl)
      · obtain ⟨j, hj, ho⟩ := c4 b' hb'
        exact old' j ho (.inr (contains_mem hj)))
    (fun C => ⟨by rw [hlenE]; exact hbg, hz', ⟨_, hown', by rw [hf1, List.take_left]; exact r1, by rw [hf1, List.drop_left]; exact Rds.mono C.hS C.hw _ _ m5⟩, by
      rw [hfp']
      refine List.nodup_cons.2 ⟨?_, List.nodup_append.2 ⟨q2, c3, fun a' ha' b' hb' hab => (hap b' hb').2 (hab ▸ ha')⟩⟩
      simp only [List.mem_append, not_or]
      exact ⟨q1, fun hm => (hap g hm).1 rfl⟩⟩)
  refine ⟨.skip, _, ?_, .inr ⟨rfl, realz_put_none hf hN hd hH' C⟩⟩
  have hsz : (a.eval y).cells.size = zu := by rw [← hcl, ← hcells]; simp
  have e2' : a.eval x = .pointer (some ⟨g, k * z + off, none⟩) := e2
  simp [execOp, Instr.storeAt, e2', Instr.sureAddr, storeVar, run_sizeOf hT, hsz, hcells, hst]
end
/-! ### elements of owned arrays in regions that draw their order -/
section
variable {P : Program} {A : Amb} {ops : Array Oper} {K : St → Prop} {r : List (Nat × Bool)} {pf : PF} {fr : List (Nat × SV)} {L L1 L' : List LO} {N i t m : Nat}
variable {ty : TypeId} {pos : String} {af : Array Edge} {x y : Operand} {T : TypeId}
/-- A quiet operation that is taken like one that is not. -/
theorem VY_dh {op : Op} {sv : SV} (hv : VY P A ops K r pf ⟨(t, sv) :: fr, L, N⟩) (hi : ops[i]? = some ⟨some t, op, ty, pos, af, none⟩ := by rfl) (h : QF P ops ⟨some t, op, ty, pos, af, none⟩ ⟨fr, L, N⟩ t sv := by (repeat (first | exact Rng.mk (by omega) (by omega) | constructor)); first | done | fail)
    (hp : PfOk ops i L pf := by (repeat (first | exact PfOk.nil | (apply PfOk.keep; focus ((repeat constructor); done)) | (apply PfOk.dep; focus kernel_rfl)))) : VY P A ops K ((i, false) :: r) pf ⟨fr, L, N⟩ := by
  refine VY_hst hi (fun fr' he' K' hK => ?_) hp hv
  obtain ⟨h1, _, h3 | h3⟩ := h.pst (A := A)
  · exact VO_q (h3.2 fr' L he' (Keep.refl _)) (h1 t rfl) (VO_nil hK)
  · exact absurd h3.1 (by simp [Gd])
end
end Go.Eng
