/- The engine, part 48: an object numbered anew; calls that hand over, in regions that draw their order. -/
import Derived.Test.YtdofnoeiogjpjaaEng47
set_option linter.unusedVariables false
set_option linter.unusedSimpArgs false
namespace Go.Eng
open Go Go.RowKit
mutual
/-- The same value, where object j has version 0 in place of v. -/
inductive Rv (j v : Nat) : SV → SV → Prop
  | sl : Rv j v (.sl j v) (.sl j 0)
  | ne {i ver : Nat} (h : (i == j) = false) : Rv j v (.sl i ver) (.sl i ver)
  | d {u : U} : Rv j v (.d u) (.d u)
  | ptr {i off : Nat} : Rv j v (.ptr i off) (.ptr i off)
  | dp {u : U} : Rv j v (.dp u) (.dp u)
  | nil : Rv j v .nilsl .nilsl
  | ag {cs cs' : List SV} (h : Rvs j v cs cs') : Rv j v (.ag cs) (.ag cs')
  | tup {cs cs' : List SV} (h : Rvs j v cs cs') : Rv j v (.tup cs) (.tup cs')
  | fn {f : Nat} {cs cs' : List SV} (h : Rvs j v cs cs') : Rv j v (.fn f cs) (.fn f cs')
inductive Rvs (j v : Nat) : List SV → List SV → Prop
  | nil : Rvs j v [] []
  | cons {a b : SV} {az bs : List SV} (h : Rv j v a b) (h2 : Rvs j v az bs) : Rvs j v (a :: az) (b :: bs)
end
inductive RvO (j v : Nat) : Nat → LO → LO → Prop
  | own {e z : Nat} {es : List U} : RvO j v j (.own e z v es) (.own e z 0 es)
  | arrj {e z : Nat} {es : List U} : RvO j v j (.arr e z v es) (.arr e z 0 es)
  | box {i : Nat} {cs cs' : List SV} (hi : (i == j) = false) (h : Rvs j v cs cs') : RvO j v i (.box cs) (.box cs')
  | owns {i e z ver : Nat} {es : List U} (hi : (i == j) = false) : RvO j v i (.own e z ver es) (.own e z ver es)
  | arr {i e z ver : Nat} {es : List U} (hi : (i == j) = false) : RvO j v i (.arr e z ver es) (.arr e z ver es)
  | frz {i e z ver : Nat} {es : List U} (hi : (i == j) = false) : RvO j v i (.frz e z ver es) (.frz e z ver es)
  | dead {i ver : Nat} (hi : (i == j) = false) : RvO j v i (.dead ver) (.dead ver)
inductive RvL (j v : Nat) : Nat → List LO → List LO → Prop
  | nil {i : Nat} : RvL j v i [] []
  | cons {i : Nat} {a b : LO} {az bs : List LO} (h : RvO j v i a b) (h2 : RvL j v (i + 1) az bs) : RvL j v i (a :: az) (b :: bs)
inductive RvF (j v : Nat) : List (Nat × SV) → List (Nat × SV) → Prop
  | nil : RvF j v [] []
  | cons {t : Nat} {a b : SV} {az bs : List (Nat × SV)} (h : Rv j v a b) (h2 : RvF j v az bs) : RvF j v ((t, a) :: az) ((t, b) :: bs)
section
variable {j v : Nat} {S : Nat → Prop} {L L' : List LO} {env : List Value} {w : World}
theorem RvL.get : ∀ {i : Nat} {az bs : List LO}, RvL j v i az bs → az.length = bs.length ∧ ∀ (m : Nat) (b : LO), bs[m]? = some b → ∃ a, az[m]? = some a ∧ RvO j v (i + m) a b
  | i, _, _, .nil => ⟨rfl, fun m b h => by simp at h⟩
  | i, _, _, .cons (a := a0) (b := b0) (az := az) (bs := bs) h h2 => by
    obtain ⟨k1, k2⟩ := RvL.get h2
    refine ⟨by simp [k1], fun m b hb => ?_⟩
    cases m with
    | zero => simp at hb; subst hb; exact ⟨a0, by simp, by simpa using h⟩
    | succ m =>
      obtain ⟨a, q1, q2⟩ := k2 m b (by simpa using hb)
      exact ⟨a, by simpa using q1, by rwa [show i + (m + 1) = i + 1 + m by omega]⟩
theorem RvF.look : ∀ {az bs : List (Nat × SV)}, RvF j v az bs → ∀ t, Go.Eng.look bs t = .junk ∨ Rv j v (Go.Eng.look az t) (Go.Eng.look bs t)
  | _, _, .nil, t => .inl rfl
  | _, _, .cons (t := t0) h h2, t => by
    simp only [Go.Eng.look]
    by_cases ht : t = t0
    · simp only [ht, if_true]; exact .inr h
    · simp only [if_neg ht]; exact RvF.look h2 t
mutual
theorem Rv.r (hj : ∃ o o' : LO, L[j]? = some o ∧ L'[j]? = some o' ∧ o.ver = v ∧ o'.ver = 0) (ho : ∀ (i : Nat) (o : LO), i ≠ j → L[i]? = some o → ∃ o', L'[i]? = some o' ∧ o'.ver = o.ver) : ∀ {a b : SV} {x : Value}, Rv j v a b → SVr S L env w a x → SVr S L' env w b x
  | _, _, x, .sl, h => by
    obtain ⟨o1, o2, h1, h2, h3, h4⟩ := hj
    simp only [SVr] at h ⊢
    obtain ⟨hv, o, k1, k2, k3, k4, k5⟩ := h
    rw [h1] at k2
    obtain rfl := Option.some.inj k2
    exact ⟨hv, _, k1, h2, Nat.zero_le _, k4, fun _ => k5 h3.symm⟩
  | _, _, x, .ne hi, h => by
    simp only [SVr] at h ⊢
    obtain ⟨hv, o, k1, k2, k3, k4, k5⟩ := h
    obtain ⟨o', q1, q2⟩ := ho _ o (by simpa using hi) k2
    exact ⟨hv, o', k1, q1, by rw [q2]; exact k3, k4, by rw [q2]; exact k5⟩
  | _, _, x, .d, h => by simpa only [SVr] using h
  | _, _, x, .ptr, h => by simpa only [SVr] using h
  | _, _, x, .dp, h => by simpa only [SVr] using h
  | _, _, x, .nil, h => by simpa only [SVr] using h
  | _, _, x, .ag hs, h => by
    simp only [SVr] at h ⊢
    obtain ⟨vs, h1, h2⟩ := h
    exact ⟨vs, h1, Rvs.r hj ho hs h2⟩
  | _, _, x, .tup hs, h => by
    simp only [SVr] at h ⊢
    obtain ⟨vs, h1, h2⟩ := h
    exact ⟨vs, h1, Rvs.r hj ho hs h2⟩
  | _, _, x, .fn hs, h => by
    simp only [SVr] at h ⊢
    obtain ⟨vs, h1, h2⟩ := h
    exact ⟨vs, h1, Rvs.r hj ho hs h2⟩
theorem Rvs.r (hj : ∃ o o' : LO, L[j]? = some o ∧ L'[j]? = some o' ∧ o.ver = v ∧ o'.ver = 0) (ho : ∀ (i : Nat) (o : LO), i ≠ j → L[i]? = some o → ∃ o', L'[i]? = some o' ∧ o'.ver = o.ver) : ∀ {az bs : List SV} {xs : List Value}, Rvs j v az bs → SVrs S L env w az xs → SVrs S L' env w bs xs
  | _, _, [], .nil, h => by simp only [SVrs]
  | _, _, _ :: _, .nil, h => by simp only [SVrs] at h
  | _, _, [], .cons _ _, h => by simp only [SVrs] at h
  | _, _, _ :: _, .cons h1 h2, h => by
    simp only [SVrs] at h ⊢
    exact ⟨Rv.r hj ho h1 h.1, Rvs.r hj ho h2 h.2⟩
end
theorem Realz.rv {A : Amb} {a : Act} {fr fr' : List (Nat × SV)} {N n : Nat} [hb : BaseN A n] (hn : n ≤ j) (hjl : j < L.length) (hL : RvL j v 0 L L') (hfr : RvF j v fr fr') (h : Realz A ⟨fr, L, N⟩ a w) : Realz A ⟨fr', L', N⟩ a w := by
  obtain ⟨S, env, hH, hf, hN, hd⟩ := h
  obtain ⟨hlen, hget⟩ := hL.get
  have hback : ∀ (m : Nat) (o : LO), L[m]? = some o → ∃ o', L'[m]? = some o' ∧ RvO j v m o o' := by
    intro m o ho
    have hm : m < L'.length := by rw [← hlen]; exact (List.getElem?_eq_some_iff.1 ho).1
    obtain ⟨o0, k1, k2⟩ := hget m _ (List.getElem?_eq_getElem hm)
    rw [ho] at k1
    obtain rfl := Option.some.inj k1
    exact ⟨_, List.getElem?_eq_getElem hm, by simpa using k2⟩
  have hj : ∃ o o' : LO, L[j]? = some o ∧ L'[j]? = some o' ∧ o.ver = v ∧ o'.ver = 0 := by
    obtain ⟨o', k1, k2⟩ := hback j _ (List.getElem?_eq_getElem hjl)
    generalize ho : L[j] = o at k2
    have hoj : L[j]? = some o := by rw [List.getElem?_eq_getElem hjl, ho]
    cases k2 with
    | own => exact ⟨_, _, hoj, k1, rfl, rfl⟩
    | arrj => exact ⟨_, _, hoj, k1, rfl, rfl⟩
    | box hi => simp at hi
    | owns hi => simp at hi
    | arr hi => simp at hi
    | frz hi => simp at hi
    | dead hi => simp at hi
  have ho : ∀ (i : Nat) (o : LO), i ≠ j → L[i]? = some o → ∃ o', L'[i]? = some o' ∧ o'.ver = o.ver := by
    intro i o hi h
    obtain ⟨o', k1, k2⟩ := hback i o h
    refine ⟨o', k1, ?_⟩
    cases k2 with
    | own => exact absurd rfl hi
    | arrj => exact absurd rfl hi
    | _ => rfl
  have hlive : ∀ {i : Nat} {o o' : LO}, RvO j v i o o' → o'.live = o.live ∧ ∀ hv b, o'.ft w hv b ↔ o.ft w hv b := by
    intro i o o' h
    cases h with
    | _ => exact ⟨rfl, fun _ _ => Iff.rfl⟩
  refine ⟨S, env, ⟨by rw [← hlen]; exact hH.len, fun i o' hv h1 h2 => ?_, fun i o' hv b h1 h2 h3 h4 => ?_, fun i k o1 o2 hv1 hv2 b h1 h2 h3 h4 h5 h6 h7 h8 => ?_, hH.sS, hH.sA, hH.frame, hH.size, hH.os, hH.tape, hH.output, ?_, hH.glob⟩, fun t => ?_, hN, hd⟩
  · obtain ⟨o, k1, k2⟩ := hget i o' h1
    simp only [Nat.zero_add] at k2
    have hob := hH.objs i o hv k1 h2
    cases k2 with
    | own => exact hob
    | arrj => exact hob
    | owns hi => exact hob
    | arr hi => exact hob
    | frz hi => exact hob
    | dead hi => exact hob
    | box hi hs =>
      obtain ⟨b, vals, e, r1, r2, r3, r4⟩ := hob
      exact ⟨b, vals, e, r1, r2, Rvs.r hj ho hs r3, r4⟩
  · obtain ⟨o, k1, k2⟩ := hget i o' h1
    obtain ⟨q1, q2⟩ := hlive k2
    exact hH.excl i o hv b k1 (by rw [← q1]; exact h2) h3 ((q2 hv b).1 h4)
  · obtain ⟨p1, k1, k2⟩ := hget i o1 h1
    obtain ⟨p2, k3, k4⟩ := hget k o2 h2
    obtain ⟨q1, q2⟩ := hlive k2
    obtain ⟨q3, q4⟩ := hlive k4
    exact hH.dist i k p1 p2 hv1 hv2 b k1 k3 (by rw [← q1]; exact h3) (by rw [← q3]; exact h4) h5 h6 ((q2 _ _).1 h7) ((q4 _ _).1 h8)
  · refine ⟨by rw [← hlen]; exact hH.base.1, fun i hv o hv' o' h1 h2 h3 h4 => ?_⟩
    have hi : i < n := by rw [← hb.h]; exact (List.getElem?_eq_some_iff.1 h2).1
    obtain ⟨o0, k1, k2⟩ := hget i o' h4
    obtain ⟨o1, k3, k4⟩ := ho i o0 (by omega) k1
    rw [h4] at k3
    obtain rfl := Option.some.inj k3
    have := hH.base.2 i hv o hv' o0 h1 h2 h3 k1
    rw [k4]
    exact this
  · rcases hfr.look t with hjk | hr
    · show SVr S L' env w (Go.Eng.look fr' t) _
      rw [hjk]
      simp only [SVr]
    · exact Rv.r hj ho hr (hf t)
end
theorem V_rv {P : Program} {A : Amb} {c : Code} {Q : Exit → St → Prop} {fr fr' : List (Nat × SV)} {L L' : List LO} {N v : Nat} (n : Nat) [BaseN A n] (j : Nat) (h : V P A c ⟨fr', L', N⟩ Q)
    (hL : RvL j v 0 L L' := by (repeat (first | exact Rv.sl | exact Rv.ne rfl | exact Rv.d | exact RvO.own | exact RvO.arrj | refine RvO.box rfl ?_ | exact RvO.owns rfl | exact RvO.arr rfl | exact RvO.frz rfl | exact RvO.dead rfl | constructor)); first | done | fail)
    (hfr : RvF j v fr fr' := by (repeat (first | exact Rv.sl | exact Rv.ne rfl | exact Rv.d | constructor)); first | done | fail) (hn : (Nat.ble n j && Nat.blt j L.length) = true := by rfl) : V P A c ⟨fr, L, N⟩ Q := by
  simp only [Bool.and_eq_true, Nat.blt_eq] at hn
  exact fun a w hr => h a w (hr.rv (n := n) (Nat.le_of_ble_eq_true hn.1) hn.2 hL hfr)
/-! ### calls that hand over, in regions that draw their order -/
section
variable {P : Program} {A : Amb} {ops : Array Oper} {K : St → Prop} {r : List (Nat × Bool)} {pf : PF} {fr : List (Nat × SV)} {L L' : List LO} {N i t : Nat} {sv : SV}
variable {ty : TypeId} {pos : String} {af : Array Edge}
theorem HSt_callG {f : Operand} {fi : Nat} {caps : List SV} {args : Array Operand} {at_ : Array TypeId} {cargs : List SV} {Lc Lo : List LO} {sv0 : SV} (js : List Nat) (hspec : Spec P fi cargs Lc (fun sv Lo' => sv = sv0 ∧ Lo' = Lo))
    (hsv : sv0.ren (rn js L.length) = sv) (hL' : putA js (Lo.map (LO.ren (rn js L.length))) L = L')
    (hf : (St.mk fr L N).ev f = .fn fi caps) (hp : pickB L (rn js L.length) 0 Lc)
    (hjs : (decide js.Nodup && (js.all fun j => Nat.blt j L.length) && js.length == Lc.length && LO.lts Lc.length Lc) = true)
    (hargs : AGs L (rn js L.length) Lc.length (args.toList.map (St.mk fr L N).ev ++ caps) cargs) (ht : Nat.blt t N = true) :
    HSt P A ops ⟨fr, L, N⟩ ⟨some t, .call { callee := .value f, args := args, argTypes := at_ }, ty, pos, af, none⟩ sv L' := by
  intro fr' he K hK
  have hm : args.toList.map (St.mk fr' L N).ev = args.toList.map (St.mk fr L N).ev := List.map_congr_left fun x hx => he x (by simp only [Op.operands, Call.operands]; simp; exact .inr (by simpa using hx))
  refine VO_cG (caps := caps) js hspec ?_ (by rw [he f (by simp [Op.operands, Call.operands])]; exact hf) hp hjs (by rw [hm]; exact hargs) ht
  rintro _ _ ⟨rfl, rfl⟩
  rw [hsv, hL']
  exact VO_nil hK
theorem VY_cG {f : Operand} {fi : Nat} {caps : List SV} {args : Array Operand} {at_ : Array TypeId} {cargs : List SV} {Lc Lo : List LO} {sv0 : SV} (js : List Nat) (hspec : Spec P fi cargs Lc (fun sv Lo' => sv = sv0 ∧ Lo' = Lo)) (h : VY P A ops K r pf ⟨(t, sv) :: fr, L', N⟩)
    (hi : ops[i]? = some ⟨some t, .call { callee := .value f, args := args, argTypes := at_ }, ty, pos, af, none⟩ := by rfl) (hsv : sv0.ren (rn js L.length) = sv := by rfl) (hL' : putA js (Lo.map (LO.ren (rn js L.length))) L = L' := by rfl)
    (hf : (St.mk fr L N).ev f = .fn fi caps := by rfl) (hp : pickB L (rn js L.length) 0 Lc := by ((repeat (first | exact trivial | exact rfl | refine And.intro ?_ ?_)); first | done | fail))
    (hjs : (decide js.Nodup && (js.all fun j => Nat.blt j L.length) && js.length == Lc.length && LO.lts Lc.length Lc) = true := by rfl)
    (hargs : AGs L (rn js L.length) Lc.length (args.toList.map (St.mk fr L N).ev ++ caps) cargs := by ((repeat (first | exact trivial | exact .inl ⟨rfl, rfl⟩ | exact .inr ⟨_, rfl, by ((repeat (first | exact trivial | exact rfl | exact ⟨_, rfl⟩ | refine And.intro ?_ ?_)); first | done | fail)⟩ | refine And.intro ?_ ?_)); first | done | fail))
    (ht : Nat.blt t N = true := by rfl) (hpf : PfOk ops i L' pf := by (repeat (first | exact PfOk.nil | (apply PfOk.keep; focus ((repeat constructor); done)) | (apply PfOk.dep; focus kernel_rfl)))) :
    VY P A ops K ((i, false) :: r) pf ⟨fr, L, N⟩ := VY_hst hi (HSt_callG js hspec hsv hL' hf hp hjs hargs ht) hpf h
end
/-! ### short forms of my templates' blocks -/
structure Hid (Y : Prop) : Prop where
  get : Y
theorem gGO {X Y : Prop} (hy : Y) (h : Hid Y → X := by
    intro hy
    repeat (first | refine VO_d ?_ | refine VQ_d ?_ | refine VO_nil ?_ | refine VQ_nil ?_ | refine V_seq_region ?_ | refine V_seq (V_seq_region ?_) | refine V_seq_draw Mix.h (by kernel_rfl) ?_ | refine V_seq (V_seq_draw Mix.h (by kernel_rfl) ?_) | refine V_region ?_ | refine V_draw Mix.h (by kernel_rfl) ?_)
    exact hy.get) : X := h ⟨hy⟩
/-- The like; one step at least. -/
theorem gGP {X Y : Prop} (hy : Y) (h : Hid Y → X := by
    intro hy
    first | refine VO_d ?_ | refine VQ_d ?_ | refine VO_nil ?_ | refine VQ_nil ?_ | refine V_seq_region ?_ | refine V_seq (V_seq_region ?_) | refine V_seq_draw Mix.h (by kernel_rfl) ?_ | refine V_seq (V_seq_draw Mix.h (by kernel_rfl) ?_) | refine V_region ?_ | refine V_draw Mix.h (by kernel_rfl) ?_
    repeat (first | refine VO_d ?_ | refine VQ_d ?_ | refine VO_nil ?_ | refine VQ_nil ?_ | refine V_seq_region ?_ | refine V_seq (V_seq_region ?_) | refine V_seq_draw Mix.h (by kernel_rfl) ?_ | refine V_seq (V_seq_draw Mix.h (by kernel_rfl) ?_) | refine V_region ?_ | refine V_draw Mix.h (by kernel_rfl) ?_)
    exact hy.get) : X := h ⟨hy⟩
section
variable {P : Program} {A : Amb} {ops : Array Oper} {K : St → Prop} {rest : List Oper} {fr : List (Nat × SV)} {L : List LO} {N t : Nat} {sv : SV} {ty : TypeId} {pos : String} {af : Array Edge} {op : Op}
theorem qO (hq : Quiet P A ⟨fr, L, N⟩ ⟨some t, op, ty, pos, af, none⟩ sv) (h : VO P A ops rest ⟨(t, sv) :: fr, L, N⟩ K) (ht : Nat.blt t N = true := by rfl) : VO P A ops (⟨some t, op, ty, pos, af, none⟩ :: rest) ⟨fr, L, N⟩ K := VO_q hq ht h
theorem qQ (hq : Quiet P A ⟨fr, L, N⟩ ⟨some t, op, ty, pos, af, none⟩ sv) (h : VQ P A ops rest ⟨(t, sv) :: fr, L, N⟩ K) (ht : Nat.blt t N = true := by rfl) : VQ P A ops (⟨some t, op, ty, pos, af, none⟩ :: rest) ⟨fr, L, N⟩ K := VQ_q hq ht h
end
section
variable {P : Program} {A : Amb} {σ : St} {dst : Option Nat} {ty T T' : TypeId} {pos : String} {af : Array Edge} {g : Option (Nat × Bool)} {x y : Operand}
theorem Q_remI {m n : Int} (h0 : 0 ≤ m) (hx : σ.ev x = .d (.i .i64 m) := by rfl) (hy : σ.ev y = .d (.i .i64 n) := by rfl) (hn : decide (0 < n) = true := by rfl) : Quiet P A σ ⟨dst, .binOp .rem T x y T', ty, pos, af, g⟩ (.d (.i .i64 (m % n))) := by
  obtain ⟨a, rfl⟩ := Int.eq_ofNat_of_zero_le h0
  have hn' := of_decide_eq_true hn
  obtain ⟨b, rfl⟩ := Int.eq_ofNat_of_zero_le (Int.le_of_lt hn')
  exact Q_rem hx hy (by simp only [Nat.blt_eq]; omega)
end
end Go.Eng
