/- The engine, part 61: owned arrays that are turned element by element; nil in place of an owned array; a function that is handed an owned array, called with nil. -/
import Derived.Test.YtgmlpaaklnkghaaGreatEng60
set_option linter.unusedVariables false
set_option linter.unusedSimpArgs false
namespace Go.Eng
open Go Go.RowKit
section
variable {P : Program} {A : Amb} {σ : St} {K : St → Prop} {Q : Exit → St → Prop}
theorem V_bdo {α : Type} {en : α → U} {es : List α → List U} {z : Nat} [E : Enc α en es z] {l : List α} {e z' ver N : Nat} {fr : List (Nat × SV)} {L : List LO} {c : Code} (i : Nat) (h : l.length ≤ 140737488355328 → V P A c ⟨fr, L, N⟩ Q) (hL : L[i]? = some (.own e z' ver (es l)) := by rfl) : V P A c ⟨fr, L, N⟩ Q := fun a w hr => by
  obtain ⟨S, env, hH, hf, hN, hd⟩ := hr
  have hi := (List.getElem?_eq_some_iff.1 hL).1
  rw [← hH.len] at hi
  have := (hH.objs i _ _ hL (List.getElem?_eq_getElem hi)).1
  rw [Enc.len, big_eq] at this
  exact h this a w ⟨S, env, hH, hf, hN, hd⟩
theorem V_nilO {c : Code} {fr : List (Nat × SV)} {L L' : List LO} {N e z ver : Nat} {es : List U} (t m : Nat) (h : V P A c ⟨(t, .sl m (ver + 1)) :: fr, L', N⟩ Q) (ht : look fr t = .nilsl := by rfl) (hL : L[m]? = some (.own e z ver es) := by rfl) (hL' : St1 (.own e z (ver + 1) []) m L L' := by repeat constructor) : V P A c ⟨fr, L, N⟩ Q := by
  have := hL'.spec
  subst this
  intro a w ⟨S, env, hH, hf, hN, hd⟩
  refine h a w ?_
  have hi := (List.getElem?_eq_some_iff.1 hL).1
  have hie : m < env.length := by rw [hH.len]; exact hi
  obtain ⟨hv, hhv⟩ : ∃ hv, env[m]? = some hv := ⟨_, List.getElem?_eq_getElem hie⟩
  have hob := hH.objs m _ hv hL hhv
  obtain ⟨hH', C⟩ : HeapR A S (L.set m (.own e z (ver + 1) [])) (env.set m (.slice none 0 0)) w ∧ Carry S L env w S (L.set m (.own e z (ver + 1) [])) (env.set m (.slice none 0 0)) w := by
    refine hH.eat [] m _ (.slice none 0 0) (by rw [List.length_set, List.length_set]; exact hH.len) (fun j hj => ?_) (List.getElem?_set_self hi) (fun j hj => List.getElem?_set_ne (fun e => hj e.symm)) (List.getElem?_set_self hie) (fun _ _ _ => rfl) (fun o hv1 h1 h2 => ?_) (Nat.le_refl _) rfl rfl rfl (fun k hk => ?_) (fun C => ?_)
    · rw [List.getElem?_set_ne (fun e => hj e.symm)]
      simp
    · rw [hL] at h1; rw [hhv] at h2
      cases h1; cases h2
      refine ⟨Nat.le_succ _, fun h => absurd h (by simp [LO.ver]), fun b hb => ?_⟩
      subst hb
      rcases (own_form .own hob).2 with ⟨h, _⟩ | ⟨_, _, h⟩ <;> cases h
    · simp [LO.ft, U.fp] at hk
    · exact ⟨by simp [big_eq], by simp, ⟨[], World.ownsRow_nil w 0 e z, by simp [Trs]⟩, by simp [U.fp]⟩
  refine ⟨S, _, hH', fun t' => ?_, hN, hd⟩
  have ht' := SVr.carry C _ _ (hf t')
  simp only at ht'
  by_cases he : t' = t
  · subst he
    simp only [Go.Eng.look, if_true]
    have h0 := hf t'
    simp only at h0
    rw [ht] at h0
    simp only [SVr] at h0 ⊢
    rw [h0]
    exact ⟨.slice none 0 0, _, List.getElem?_set_self hie, List.getElem?_set_self hi, Nat.le_refl _, rfl, fun _ => rfl⟩
  · simp only [Go.Eng.look, if_neg he]
    exact ht'
end
section
theorem mix_len {α : Type} {en : α → U} {es : List α → List U} {z : Nat} [E : Enc α en es z] {l : List α} {k : Nat} {a : α} (h : l[k]? = some a) : (es (l.take k)).length = k := (Enc.split (es := es) h).2
theorem mix_in {α : Type} {en : α → U} {es : List α → List U} {z : Nat} [E : Enc α en es z] {l : List α} {k : Nat} {a : α} (h : l[k]? = some a) : k < (es (l.take k) ++ es (a :: l.drop (k + 1))).length := by
  rw [List.length_append, mix_len (es := es) h, Enc.len (es := es)]
  simp
theorem drop_of {α : Type} {l : List α} {k : Nat} {a : α} (h : l[k]? = some a) : l.drop k = a :: l.drop (k + 1) := by
  obtain ⟨hk, rfl⟩ := List.getElem?_eq_some_iff.1 h
  exact List.drop_eq_getElem_cons hk
theorem mix_s1 {α : Type} {en : α → U} {es : List α → List U} {z : Nat} [E : Enc α en es z] {l : List α} {k : Nat} {a : α} (b : α) (h : l[k]? = some a) : es ((l.set k b).take (k + 1)) = es (l.take k) ++ [en b] := by
  have hk := (List.getElem?_eq_some_iff.1 h).1
  rw [List.take_add_one, List.getElem?_set_self hk, List.take_set_of_le (Nat.le_refl k)]
  simp [E.h]
theorem mix_s2 {α : Type} {en : α → U} {es : List α → List U} {z : Nat} [E : Enc α en es z] {l : List α} {k : Nat} (b : α) : es ((l.set k b).drop (k + 1)) = es (l.drop (k + 1)) := by
  rw [List.drop_set_of_lt (Nat.lt_succ_self k)]
end
theorem Spec.nilO {P : Program} {f e z : Nat} {args : List SV} {es : List U} {u2 : U} (h : Go.Eng.Spec P f (.sl 0 0 :: args) [.own e z 0 []] (fun sv Lo => ∃ v, sv = .tup [.sl 0 v, .d u2] ∧ Lo = [.own e z v es])) (ha : SV.lts 0 args = true := by rfl) :
    Go.Eng.Spec P f (.nilsl :: args) [] (fun sv Lo => sv = .tup [.sl 0 0, .d u2] ∧ Lo = [.own e z 0 es]) := by
  refine ⟨h.1, fun A S env w vs h1 h2 h3 h4 hH hargs => ?_⟩
  have henv : env = [] := List.eq_nil_of_length_eq_zero hH.len
  subst henv
  cases vs with
  | nil => simp [SVrs] at hargs
  | cons v0 vs =>
    simp only [SVrs] at hargs
    obtain ⟨hv0, hargs⟩ := hargs
    simp only [SVr] at hv0
    subst hv0
    have hob : ∀ S L env, ObjR S L env w (.own e z 0 []) (.slice none 0 0) := fun _ _ _ => ⟨by simp [big_eq], by simp, ⟨[], World.ownsRow_nil w 0 e z, by simp [Trs]⟩, by simp [U.fp]⟩
    have hH2 : HeapR { A with L0 := [.own e z 0 []], env0 := [.slice none 0 0] } S [.own e z 0 []] [.slice none 0 0] w := by
      refine ⟨rfl, fun i o hv k1 k2 => ?_, fun i o hv b k1 k2 k3 k4 => ?_, fun i j o o' hv hv' b k1 k2 k3 k4 k5 k6 k7 k8 => ?_, hH.sS, hH.sA, hH.frame, hH.size, hH.os, hH.tape, hH.output, Base.refl rfl rfl, hH.glob⟩
      · cases i with
        | zero => simp at k1 k2; subst k1; subst k2; exact hob _ _ _
        | succ i => simp at k1
      · cases i with
        | zero => simp at k1 k3; subst k1; subst k3; simp [LO.ft, U.fp] at k4
        | succ i => simp at k1
      · cases i with
        | zero => simp at k1 k5; subst k1; subst k5; simp [LO.ft, U.fp] at k7
        | succ i => simp at k1
    refine (h.2 { A with L0 := [.own e z 0 []], env0 := [.slice none 0 0] } S [.slice none 0 0] w (.slice none 0 0 :: vs) h1 h2 rfl rfl hH2 ?_).mono ?_
    · simp only [SVrs]
      refine ⟨?_, SVrs.bare _ _ ha hargs _ _⟩
      simp only [SVr]
      exact ⟨.slice none 0 0, .own e z 0 [], rfl, rfl, Nat.le_refl _, rfl, fun _ => rfl⟩
    · rintro ex w' ⟨r, sv, S', L', env', hr, ⟨v, rfl, rfl⟩, hH', hsv⟩
      obtain ⟨hv, henv'⟩ : ∃ hv, env' = [hv] := by
        have := hH'.len
        match env', this with
        | [hv], _ => exact ⟨hv, rfl⟩
      subst henv'
      have hob' := hH'.objs 0 _ hv rfl rfl
      have one : ∀ (i : Nat) (o : LO) (x : Value), ([.own e z 0 es] : List LO)[i]? = some o → ([hv] : List Value)[i]? = some x → i = 0 ∧ o = .own e z 0 es ∧ x = hv := by
        intro i o x k1 k2
        cases i with
        | zero => simp at k1 k2; exact ⟨rfl, k1.symm, k2.symm⟩
        | succ i => simp at k1
      refine ⟨r, _, S', [.own e z 0 es], [hv], hr, ⟨rfl, rfl⟩, ⟨rfl, fun i o x k1 k2 => ?_, fun i o x b k1 k2 k3 k4 => ?_, fun i j o o' x x' b k1 k2 k3 k4 k5 k6 k7 k8 => ?_, hH'.sS, hH'.sA, hH'.frame, hH'.size, hH'.os, hH'.tape, hH'.output, Base.nil h3, hH'.glob⟩, ?_⟩
      · obtain ⟨rfl, rfl, rfl⟩ := one i o x k1 k2
        exact hob'
      · obtain ⟨rfl, rfl, rfl⟩ := one i o x k1 k3
        exact hH'.excl 0 _ x b rfl rfl rfl k4
      · obtain ⟨rfl, _, _⟩ := one i o x k1 k5
        obtain ⟨rfl, _, _⟩ := one j o' x' k2 k6
        rfl
      · simp only [SVr] at hsv ⊢
        obtain ⟨xs, rfl, hxs⟩ := hsv
        match xs, hxs with
        | [x0, x1], hxs =>
          simp only [SVrs] at hxs
          obtain ⟨hx0, hx1, _⟩ := hxs
          refine ⟨[x0, x1], rfl, ?_⟩
          simp only [SVrs]
          refine ⟨?_, by simp only [SVr] at hx1 ⊢; exact hx1, trivial⟩
          simp only [SVr] at hx0 ⊢
          obtain ⟨hv1, o1, q1, q2, q3, q4, q5⟩ := hx0
          simp at q1 q2
          subst q1; subst q2
          exact ⟨hv, _, rfl, rfl, Nat.le_refl _, q4, fun _ => q5 rfl⟩
theorem Q_pref {P : Program} {A : Amb} {σ : St} {x h : Operand} {dst : Option Nat} {g : Option (Nat × Bool)} {T ty : TypeId} {pos : String} {af : Array Edge} {α : Type} {en : α → U} {es : List α → List U} {z : Nat} [E : Enc α en es z] {e bs j ver e' : Nat} {gg : Bool} {l : List α} {k : Int} (hk : 0 ≤ k ∧ k ≤ l.length) [TE P T e] [TI P e gg z bs] (hx : σ.ev x = .sl j ver := by rfl) (hL : σ.L[j]? = some (.frz e' z ver (es l)) := by rfl) (hh : σ.ev h = .d (.i .i64 k) := by rfl) :
    Quiet P A σ ⟨dst, .slice T x none (some h) none, ty, pos, af, g⟩ (.d (.sl z (es (l.take k.toNat)))) := Quiet.pure fun S env a w hH ho => by
  have h1 := ho x (by simp [Op.operands])
  have h2 := ho h (by simp [Op.operands])
  rw [hx] at h1
  rw [hh, SVr.int] at h2
  simp only [SVr] at h1
  obtain ⟨hv, o, q1, q2, q3, q5, q4⟩ := h1
  rw [hL] at q2
  obtain rfl := Option.some.inj q2
  have h1 : SVr S σ.L env w (.d (.sl z (es l))) (a.eval x) := by
    rw [q4 rfl]
    simp only [SVr]
    exact hH.objs j _ hv hL q1
  rw [SVr.slice] at h1
  obtain ⟨hbg, base, cap, h3, h4⟩ := h1
  have hlen : (es l).length = l.length := Enc.len l
  have htk : es (l.take k.toNat) = (es l).take k.toNat := by rw [E.h, E.h, List.map_take]
  have hT : P.underlying T = some (.slice e) := tyE_und TE.h
  have hel : P.elem T = e := by simp [Program.elem, hT]
  have hT' : P.underlying T = some (.slice (P.elem T)) := by rw [hel]; exact hT
  obtain ⟨hk0, hk1⟩ := hk
  have hkn : k.toNat ≤ (es l).length := by omega
  have hrun := run_slice_h (w := w) T base (es l).length ((es l).length + cap) hT' .i64 k hk0 (by omega)
  have hsz := run_sizeOf (w := w) (TI.h : tyI P e = some (gg, z, bs))
  rw [hel, hsz] at hrun
  simp only [Result.andThen] at hrun
  refine ⟨sliced base 0 k.toNat ((es l).length + cap) z, ?_, ?_⟩
  · simp [execOp, h3, h2, Instr.sliceAt, run_underlying hT, hrun]
  · rw [SVr.slice, htk]
    have htl : ((es l).take k.toNat).length = k.toNat := by rw [List.length_take]; omega
    refine ⟨by omega, ?_⟩
    rcases h4 with h4 | ⟨b, off, rfl, h5, h6⟩
    · have hl0 : (es l).length = 0 := by rw [h4]; rfl
      have hk2 : k.toNat = 0 := by omega
      refine ⟨if 0 + cap = 0 then base else base.map (·.add (0 * z)), cap, ?_, .inl (by rw [h4]; simp)⟩
      rw [htl, hl0, hk2]
      simp [sliced]
    · by_cases hc : (es l).length + cap = 0
      · have hk2 : k.toNat = 0 := by omega
        have hnil : (es l).take k.toNat = [] := List.eq_nil_of_length_eq_zero (by omega)
        refine ⟨some ⟨b, off, none⟩, 0, ?_, .inl hnil⟩
        rw [htl, hc, hk2]
        simp [sliced]
      · refine ⟨some ⟨b, off, none⟩, (es l).length + cap - k.toNat, ?_, .inr ⟨b, off, rfl, h5, RdE.take _ _ _ h6⟩⟩
        rw [htl]
        have : k.toNat + ((es l).length + cap - k.toNat) = (es l).length + cap := by omega
        rw [this]
        simp [sliced, hc, Addr.add_lit]
section
variable {P : Program} {A : Amb} {ops : Array Oper} {K : St → Prop} {r : List (Nat × Bool)} {pf : PF} {fr : List (Nat × SV)} {L L1 L' : List LO} {N i t m : Nat}
variable {ty : TypeId} {pos : String} {af : Array Edge} {x y : Operand} {T : TypeId}
theorem VY_slf {α : Type} {en : α → U} {es : List α → List U} {z : Nat} [E : Enc α en es z] {e bs ver e' : Nat} {gg : Bool} {l : List α} {k : Int} (hk : 0 ≤ k ∧ k ≤ l.length) [TE P T e] [TI P e gg z bs] (h : VY P A ops K r pf ⟨(t, .d (.sl z (es (l.take k.toNat)))) :: fr, L, N⟩)
    (hi : ops[i]? = some ⟨some t, .slice T x none (some y) none, ty, pos, af, none⟩ := by rfl) (hx : (St.mk fr L N).ev x = .sl m ver := by rfl) (hL : L[m]? = some (.frz e' z ver (es l)) := by rfl) (hy : (St.mk fr L N).ev y = .d (.i .i64 k) := by rfl) (ht : Nat.blt t N = true := by rfl)
    (hp : PfOk ops i L pf := by (repeat (first | exact PfOk.nil | (apply PfOk.keep; focus ((repeat constructor); done)) | (apply PfOk.dep; focus kernel_rfl)))) : VY P A ops K ((i, false) :: r) pf ⟨fr, L, N⟩ :=
  VY_hst hi (fun fr' he' K' hK => VO_k (Q_pref (j := m) hk (by rw [he' x (by simp [Op.operands])]; exact hx) hL (by rw [he' y (by simp [Op.operands])]; exact hy)) (VO_nil hK) ht) hp h
end
section
variable {P : Program} {A : Amb} {ops : Array Oper} {K : St → Prop} {t : OT} {pf : PF} {fr : List (Nat × SV)} {L : List LO} {N i d : Nat} {b : Bool} {op : Op} {ty : TypeId} {pos : String} {af : Array Edge} {sv : SV}
/-- A quiet operation that reads no object. -/
theorem VT_r0 (hi : ops[i]? = some ⟨some d, op, ty, pos, af, none⟩) (hq : QR P ⟨fr, [], N⟩ ⟨some d, op, ty, pos, af, none⟩ sv) (h : VT P A ops K t ((i, []) :: pf) ⟨(d, sv) :: fr, L, N⟩ false) (hd : Nat.blt d N = true := by rfl) : VT P A ops K (.q i t) pf ⟨fr, L, N⟩ b :=
  ⟨_, sv, [], hi, ⟨fun d' hd' => by cases hd'; exact hd, fun k cs hk => by simp at hk, .inl ⟨rfl, fun fr' L' he _ => hq A fr' L' (fun x hx => (he x hx).trans (by cases x <;> rfl)) (fun k cs hk => by simp at hk)⟩⟩, h⟩
end
end Go.Eng
