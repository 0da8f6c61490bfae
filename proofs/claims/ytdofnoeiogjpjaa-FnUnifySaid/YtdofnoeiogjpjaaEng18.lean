/- The engine, part 18: regions that draw their order and hold operations that are not quiet: quiet ones are taken early, the others come when nothing else may. -/
import Derived.Test.YtdofnoeiogjpjaaEng17
namespace Go.Eng
open Go Go.RowKit

/-- What a quiet operation may have read of the local objects stays: the boxes. -/
def Keep (L L' : List LO) : Prop := ∀ (k : Nat) (cs : List SV), L[k]? = some (.box cs) → L'[k]? = some (.box cs)
theorem Keep.refl (L : List LO) : Keep L L := fun _ _ h => h
theorem Keep.trans {L L' L'' : List LO} (h : Keep L L') (h' : Keep L' L'') : Keep L L'' := fun k cs hk => h' k cs (h k cs hk)
/-- The same, to be found by 'constructor'. -/
inductive Kp : List LO → List LO → Prop
  | nil {l : List LO} : Kp [] l
  | own {e z v : Nat} {es : List U} {o : LO} {l l' : List LO} (h : Kp l l') : Kp (.own e z v es :: l) (o :: l')
  | ownp {h0 : Value} {e z : Nat} {es : List U} {o : LO} {l l' : List LO} (h : Kp l l') : Kp (.ownp h0 e z es :: l) (o :: l')
  | dead {v : Nat} {o : LO} {l l' : List LO} (h : Kp l l') : Kp (.dead v :: l) (o :: l')
  | arr {e z v : Nat} {es : List U} {o : LO} {l l' : List LO} (h : Kp l l') : Kp (.arr e z v es :: l) (o :: l')
  | frz {e z v : Nat} {es : List U} {o : LO} {l l' : List LO} (h : Kp l l') : Kp (.frz e z v es :: l) (o :: l')
  | mix {e z v : Nat} {fs es : List U} {o : LO} {l l' : List LO} (h : Kp l l') : Kp (.mix e z v fs es :: l) (o :: l')
  | box {cs : List SV} {l l' : List LO} (h : Kp l l') : Kp (.box cs :: l) (.box cs :: l')
theorem Kp.keep {l l' : List LO} (h : Kp l l') : Keep l l' := by
  induction h with
  | nil => intro k cs h; simp at h
  | box h ih => intro k cs hk; cases k with
    | zero => exact hk
    | succ k => exact ih k cs (by simpa using hk)
  | _ h ih => intro k cs hk; cases k with
    | zero => simp at hk
    | succ k => exact ih k cs (by simpa using hk)

section
variable {P : Program} {A : Amb} {ops : Array Oper} {md : Region.Mode} {K : St → Prop} {σ σ' : St}

def PSt (P : Program) (A : Amb) (ops : Array Oper) (B : List LO) (σ : St) (o : Oper) (sv : SV) : Prop :=
  (∀ d, o.dst = some d → Nat.blt d σ.N = true) ∧ Keep B σ.L ∧
  ((Gd ops σ o true ∧ ∀ fr' L', (∀ x ∈ o.op.operands.toList, St.ev ⟨fr', L', σ.N⟩ x = σ.ev x) → Keep B L' → Quiet P A ⟨fr', L', σ.N⟩ o sv) ∨ (Gd ops σ o false ∧ sv = .junk))
def HSt (P : Program) (A : Amb) (ops : Array Oper) (σ : St) (o : Oper) (sv : SV) (L' : List LO) : Prop :=
  ∀ fr', (∀ x ∈ o.op.operands.toList, St.ev ⟨fr', σ.L, σ.N⟩ x = σ.ev x) → ∀ K : St → Prop, K (St.setO ⟨fr', L', σ.N⟩ o.dst sv) → VO P A ops [o] ⟨fr', σ.L, σ.N⟩ K

theorem ev_same {o : Oper} {fr fr' : List (Nat × SV)} {L L' : List LO} {N N' : Nat} (h : ∀ t, t ∈ o.looksAt ops → look fr' t = look fr t) : ∀ x ∈ o.op.operands.toList, St.ev ⟨fr', L', N'⟩ x = St.ev ⟨fr, L, N⟩ x := by
  intro x hx
  cases x with
  | tmp t => exact h t (by unfold Oper.looksAt; exact List.mem_append.2 (.inl (List.mem_filterMap.2 ⟨.tmp t, hx, rfl⟩)))
  | _ => rfl
theorem Gd.same {o : Oper} {b : Bool} (hN : σ'.N = σ.N) (h : ∀ t, t ∈ o.looksAt ops → look σ'.fr t = look σ.fr t) (hb : Gd ops σ o b) : Gd ops σ' o b := by
  unfold Gd at *
  cases hgd : o.guard with
  | none => simp only [hgd] at hb ⊢; exact hb
  | some p =>
    obtain ⟨j, want⟩ := p
    simp only [hgd] at hb ⊢
    obtain ⟨oj, tj, x, h1, h2, h3, h4, h5⟩ := hb
    refine ⟨oj, tj, x, h1, h2, by rw [hN]; exact h3, ?_, h5⟩
    rw [h tj, h4]
    unfold Oper.looksAt
    refine List.mem_append.2 (.inr ?_)
    simp [hgd, h1, h2]
theorem PSt.same {B : List LO} {o : Oper} {sv : SV} (hN : σ'.N = σ.N) (hL : Keep B σ'.L) (h : ∀ t, t ∈ o.looksAt ops → look σ'.fr t = look σ.fr t) (hy : PSt P A ops B σ o sv) : PSt P A ops B σ' o sv := by
  refine ⟨fun d hd => by rw [hN]; exact hy.1 d hd, hL, ?_⟩
  rcases hy.2.2 with ⟨h1, h2⟩ | ⟨h1, h2⟩
  · refine .inl ⟨h1.same hN h, fun fr' L' he hk => ?_⟩
    rw [hN]
    refine h2 fr' L' (fun x hx => ?_) hk
    rw [← hN, he x hx]
    exact ev_same h x hx
  · exact .inr ⟨h1.same hN h, h2⟩
theorem PSt.ys {B : List LO} {o : Oper} {sv : SV} (h : PSt P A ops B σ o sv) : YS P A ops σ o sv := by
  refine ⟨h.1, ?_⟩
  rcases h.2.2 with ⟨h1, h2⟩ | ⟨h1, h2⟩
  · exact .inl ⟨h1, h2 σ.fr σ.L (fun _ _ => rfl) h.2.1⟩
  · exact .inr ⟨h1, h2⟩
theorem HSt.same {o : Oper} {sv : SV} {L' : List LO} (hN : σ'.N = σ.N) (hL : σ'.L = σ.L) (h : ∀ t, t ∈ o.looksAt ops → look σ'.fr t = look σ.fr t) (hy : HSt P A ops σ o sv L') : HSt P A ops σ' o sv L' := by
  intro fr' he K hK
  rw [hN] at hK
  rw [hL, hN]
  refine hy fr' (fun x hx => ?_) K hK
  have := he x hx
  rw [hL, hN] at this
  rw [this]
  exact ev_same h x hx

/-- i is waited for by j, over some steps. -/
def depB (md : Region.Mode) (ops : Array Oper) : Nat → Nat → Nat → Bool
  | 0, _, _ => false
  | n + 1, i, j => match ops[j]? with
    | none => false
    | some o => o.after.any fun e => Region.binds md e && (e.on == i || depB md ops n i e.on)
def Closed (md : Region.Mode) (ops : Array Oper) (listed : Array Bool) : Prop := ∀ (k : Nat) (o : Oper), ops[k]? = some o → listed.getD k false = true → ∀ e ∈ o.after, Region.binds md e = true → listed.getD e.on false = true
theorem depB_sound {listed : Array Bool} (hc : Closed md ops listed) : ∀ (n i j : Nat), depB md ops n i j = true → (∀ o, ops[j]? = some o → ∀ e ∈ o.after, Region.binds md e = true → listed.getD e.on false = true) → listed.getD i false = true
  | 0, i, j, h, _ => by simp [depB] at h
  | n + 1, i, j, h, hj => by
    unfold depB at h
    cases ho : ops[j]? with
    | none => rw [ho] at h; cases h
    | some o =>
      rw [ho] at h
      obtain ⟨e, he, hb⟩ := Array.any_eq_true'.1 h
      simp only [Bool.and_eq_true, Bool.or_eq_true, beq_iff_eq] at hb
      obtain ⟨hb1, hb2⟩ := hb
      have hl := hj o ho e he hb1
      rcases hb2 with rfl | hb2
      · exact hl
      · exact depB_sound hc n i e.on hb2 (fun o' ho' e' he' hb' => hc e.on o' ho' hl e' he' hb')
theorem Closed.step {listed : Array Bool} {i : Nat} (hc : Closed md ops listed) (hi : i ∈ Region.ready md ops listed) : Closed md ops (listed.setIfInBounds i true) := by
  intro k o hk hl e he hb
  obtain ⟨h0, oi, hoi, hall⟩ := mem_ready.1 hi
  by_cases hki : k = i
  · subst hki
    rw [hoi] at hk
    obtain rfl := Option.some.inj hk
    exact getD_set_true (hall e he hb)
  · rw [getD_set_ne false (fun e => hki e.symm)] at hl
    exact getD_set_true (hc k o hk hl e he hb)

/-- What the quiet operations taken so far have read. -/
abbrev PF := List (Nat × List LO)
def VX (P : Program) (A : Amb) (md : Region.Mode) (ops : Array Oper) (K : St → Prop) : Nat → Array Bool → PF → St → Prop
  | 0, listed, _, σ => Region.ready md ops listed = [] ∧ K σ
  | fuel + 1, listed, pf, σ => (Region.ready md ops listed = [] → K σ) ∧
    ∀ i ∈ Region.ready md ops listed, ∃ o, ops[i]? = some o ∧
      ((∃ sv B, PSt P A ops B σ o sv ∧ VX P A md ops K fuel (listed.setIfInBounds i true) ((i, B) :: pf) (σ.setO o.dst sv)) ∨
       (∃ sv L', HSt P A ops σ o sv L' ∧ (∀ p ∈ pf, depB md ops ops.size p.1 i = true ∨ Keep p.2 L') ∧ VX P A md ops K fuel (listed.setIfInBounds i true) pf (St.setO ⟨σ.fr, L', σ.N⟩ o.dst sv)))
theorem VX.sub : ∀ (fuel : Nat) (listed : Array Bool) (pf pf' : PF) (σ : St), (∀ p ∈ pf', p ∈ pf) → VX P A md ops K fuel listed pf σ → VX P A md ops K fuel listed pf' σ
  | 0, _, _, _, _, _, h => h
  | fuel + 1, _, pf, pf', σ, hs, h => ⟨h.1, fun i hi => by
    obtain ⟨o, h1, h2⟩ := h.2 i hi
    refine ⟨o, h1, ?_⟩
    rcases h2 with ⟨sv, B, k1, k2⟩ | ⟨sv, L', k1, k2, k3⟩
    · refine .inl ⟨sv, B, k1, VX.sub fuel _ _ _ _ (fun p hp => ?_) k2⟩
      rcases List.mem_cons.1 hp with rfl | hp
      · simp
      · simp [hs p hp]
    · exact .inr ⟨sv, L', k1, fun p hp => k2 p (hs p hp), VX.sub fuel _ _ _ _ hs k3⟩⟩
theorem VX.alike (hK : ∀ σ σ', Alike σ σ' → K σ → K σ') : ∀ (fuel : Nat) (listed : Array Bool) (pf : PF) (σ σ' : St), Alike σ σ' → VX P A md ops K fuel listed pf σ → VX P A md ops K fuel listed pf σ'
  | 0, _, _, σ, σ', ha, h => ⟨h.1, hK _ _ ha h.2⟩
  | fuel + 1, _, pf, σ, σ', ha, h => ⟨fun h0 => hK _ _ ha (h.1 h0), fun i hi => by
    obtain ⟨o, h1, h2⟩ := h.2 i hi
    refine ⟨o, h1, ?_⟩
    rcases h2 with ⟨sv, B, k1, k2⟩ | ⟨sv, L', k1, k2, k3⟩
    · exact .inl ⟨sv, B, k1.same ha.N.symm (by rw [← ha.L]; exact k1.2.1) (fun t _ => (ha.fr t).symm), VX.alike hK fuel _ _ _ _ (ha.setO o.dst sv) k2⟩
    · refine .inr ⟨sv, L', k1.same ha.N.symm ha.L.symm (fun t _ => (ha.fr t).symm), k2, VX.alike hK fuel _ _ _ _ ?_ k3⟩
      have h0 : Alike ⟨σ.fr, L', σ.N⟩ ⟨σ'.fr, L', σ'.N⟩ := ⟨rfl, ha.N, ha.fr⟩
      exact h0.setO o.dst sv⟩

theorem exits_wp {o : Oper} {a : Act} {w : World} {next : Act → World → Prop} {R R' : Exit → Act → World → Prop} (h : ∀ e a w, e ≠ .normal → R e a w → R' e a w) (hw : o.wp P a w next R ∨ (o.asks P a w ∧ LetsOut R)) : o.wp P a w next R' ∨ (o.asks P a w ∧ LetsOut R') := by
  have hl : LetsOut R → LetsOut R' := fun hl => by
    obtain ⟨a, w, hl⟩ := hl
    exact ⟨a, w, h _ _ _ (by simp) hl⟩
  refine hw.imp (fun hw => ?_) (fun hw => ⟨hw.1, hl hw.2⟩)
  unfold Oper.wp at *
  generalize (execOp a.eval o).run P w = r at *
  cases r with
  | ok n w' =>
    cases n with
    | enter f args =>
      simp only [Oper.upon] at hw ⊢
      refine Calls.mono hw (fun e w'' he => ?_)
      cases e with
      | returned v => exact he
      | panicked c => exact h _ _ _ (by simp) he
      | outgrown => exact hl he
    | _ => exact hw
  | halt x w' =>
    cases x with
    | panic v => simp only [Oper.upon] at hw ⊢; exact h _ _ _ (by simp) hw
    | _ => exact hw

/-- It is the kit's own walk of all orders. -/
theorem VX.wp {R : Exit → Act → World → Prop} (hR : ∀ σ' a' w', K σ' → Realz A σ' a' w' → R .normal a' w') : ∀ (fuel : Nat) (listed : Array Bool) (pf : PF) (σ : St) (a : Act) (w : World), Realz A σ a w →
    VX P A md ops K fuel listed pf σ → wpAny P md ops R fuel listed a w
  | 0, _, _, _, _, _, hr, h => ⟨h.1, hR _ _ _ h.2 hr⟩
  | fuel + 1, listed, pf, σ, a, w, hr, h => by
    refine ⟨fun h0 => hR _ _ _ (h.1 h0) hr, fun i hi => ?_⟩
    obtain ⟨o, h1, h2⟩ := h.2 i hi
    unfold wpOp
    simp only [h1]
    rcases h2 with ⟨sv, B, h2, h3⟩ | ⟨sv, L', h2, _, h3⟩
    · have h2 := h2.ys
      obtain ⟨S, env, hH, hf, hN, hd⟩ := hr
      have put : ∀ (S' : Nat → Prop) (w' : World) (v : Value), HeapR A S' σ.L env w' → Carry S σ.L env w S' σ.L env w' → SVr S' σ.L env w' sv v → Realz A (σ.setO o.dst sv) (a.put o.dst v) w' := by
        intro S' w' v k1 k2 k3
        cases hdst : o.dst with
        | none => exact realz_put_none hf hN hd k1 k2
        | some t => exact realz_put hf hN hd (h2.1 t hdst) k1 k2 k3
      rcases h2.2 with ⟨g1, g2⟩ | ⟨g1, g2⟩
      · rw [if_pos (Gd.wanted hf hN g1)]
        refine .inl (g2 S env a w hH (fun x _ => evr hf x) _ _ (fun v w' S' k1 k2 k3 => ?_))
        exact VX.wp hR fuel _ _ _ _ _ (put S' w' v k1 k2 k3) h3
      · rw [if_neg (by rw [Gd.wanted hf hN g1]; simp)]
        subst g2
        exact VX.wp hR fuel _ _ _ _ _ (put S w undef hH Carry.refl (by simp only [SVr])) h3
    · have h4 := h2 σ.fr (fun _ _ => rfl) (fun s => VX P A md ops K fuel (listed.setIfInBounds i true) pf s) h3
      have h5 := h4 (fun e a' w' => match e with | .normal => wpAny P md ops R fuel (listed.setIfInBounds i true) a' w' | e => R e a' w') (fun σ' a' w' k1 k2 => VX.wp hR fuel _ _ _ _ _ k2 k1) a w hr
      unfold wpList at h5
      split
      · rename_i hw
        rw [if_pos hw] at h5
        refine exits_wp (R := fun e a' w' => match e with | .normal => wpAny P md ops R fuel (listed.setIfInBounds i true) a' w' | e => R e a' w') (fun e a w he h => ?_) (h5.imp (Oper.wp_mono (fun a w h => h)) id)
        cases e <;> first | exact absurd rfl he | exact h
      · rename_i hw
        rw [if_neg hw] at h5
        exact h5

/-- A quiet operation that may come up may be taken first. -/
theorem VX.first (hK : ∀ σ σ', Alike σ σ' → K σ → K σ') {i : Nat} {oi : Oper} {v : SV} {B : List LO} (hi : ops[i]? = some oi) : ∀ (fuel : Nat) (listed : Array Bool) (pf : PF) (σ : St), Closed md ops listed →
    (∀ (j : Nat) (oj : Oper), ops[j]? = some oj → j ≠ i → listed.getD j true = false → (∀ e ∈ oj.after, Region.binds md e = true → e.on ≠ i) → oi.apart ops oj = true) →
    i ∈ Region.ready md ops listed → PSt P A ops B σ oi v →
    VX P A md ops K fuel (listed.setIfInBounds i true) ((i, B) :: pf) (σ.setO oi.dst v) → VX P A md ops K (fuel + 1) listed pf σ := by
  intro fuel
  induction fuel with
  | zero =>
    intro listed pf σ hc _ hr hy H
    refine ⟨fun h => (by rw [h] at hr; cases hr), fun j hj => ?_⟩
    by_cases hji : j = i
    · subst hji; exact ⟨oi, hi, .inl ⟨v, B, hy, H⟩⟩
    · have := ready_mono hj hji
      rw [H.1] at this
      cases this
  | succ fuel ih =>
    intro listed pf σ hc hfree hr hy H
    refine ⟨fun h => (by rw [h] at hr; cases hr), fun j hj => ?_⟩
    by_cases hji : j = i
    · subst hji; exact ⟨oi, hi, .inl ⟨v, B, hy, H⟩⟩
    · obtain ⟨oj, hoj, Hj⟩ := H.2 j (ready_mono hj hji)
      refine ⟨oj, hoj, ?_⟩
      obtain ⟨hjun, oj', hoj', hall⟩ := mem_ready.1 hj
      rw [hoj] at hoj'
      obtain rfl := Option.some.inj hoj'
      have hiun := (mem_ready.1 hr).1
      have hnot : ∀ e ∈ oj.after, Region.binds md e = true → e.on ≠ i := fun e he hb heq => by
        have h1 := hall e he hb
        have h0 := hiun
        rw [heq] at h1
        rcases Nat.lt_or_ge i listed.size with h' | h'
        · simp [h'] at h0 h1; rw [h0] at h1; cases h1
        · simp [Array.getElem?_eq_none h'] at h1
      have hap := hfree j oj hoj hji hjun hnot
      obtain ⟨a1, a2, a3⟩ := Oper.apart_spec hap
      have hfree' : ∀ (k : Nat) (ok : Oper), ops[k]? = some ok → k ≠ i → (listed.setIfInBounds j true).getD k true = false →
          (∀ e ∈ ok.after, Region.binds md e = true → e.on ≠ i) → oi.apart ops ok = true := fun k ok hk hki hun hno => by
        refine hfree k ok hk hki ?_ hno
        by_cases hjk : j = k
        · subst hjk; exact hjun
        · rw [getD_set_ne true hjk] at hun; exact hun
      rcases Hj with ⟨u, Bj, hyj, Hj⟩ | ⟨u, L', hyj, hk, Hj⟩
      · have s1 : PSt P A ops Bj σ oj u := hyj.same (setO_N _ _ _).symm (by have := hyj.2.1; rwa [setO_L] at this) (fun t ht => (setO_look σ oi.dst v t (fun d hd e => a1 d hd (e ▸ ht))).symm)
        have s2 : PSt P A ops B (σ.setO oj.dst u) oi v := hy.same (setO_N _ _ _) (by rw [setO_L]; exact hy.2.1) (fun t ht => setO_look σ oj.dst u t (fun d hd e => a3 d hd (e ▸ ht)))
        refine .inl ⟨u, Bj, s1, ih (listed.setIfInBounds j true) _ _ (hc.step hj) hfree' (ready_mono hr (Ne.symm hji)) s2 ?_⟩
        rw [Array.setIfInBounds_comm _ _ hji]
        have := VX.alike hK fuel _ _ _ _ (setO_comm σ oi.dst oj.dst v u a2) Hj
        refine VX.sub fuel _ _ _ _ (fun p hp => ?_) this
        simp only [List.mem_cons] at hp ⊢
        rcases hp with h | h | h
        · exact .inr (.inl h)
        · exact .inl h
        · exact .inr (.inr h)
      · have hkeep : Keep B L' := by
          rcases hk (i, B) (by simp) with h | h
          · have := depB_sound hc _ _ _ h (fun o ho e he hb => by rw [hoj] at ho; obtain rfl := Option.some.inj ho; exact hall e he hb)
            rcases Nat.lt_or_ge i listed.size with h' | h'
            · simp [h'] at hiun this; rw [hiun] at this; cases this
            · simp [Array.getElem?_eq_none h'] at this
          · exact h
        have s1 : HSt P A ops σ oj u L' := hyj.same (setO_N _ _ _).symm (setO_L _ _ _).symm (fun t ht => (setO_look σ oi.dst v t (fun d hd e => a1 d hd (e ▸ ht))).symm)
        have s2 : PSt P A ops B (St.setO ⟨σ.fr, L', σ.N⟩ oj.dst u) oi v := hy.same (σ := σ) (by rw [setO_N]) (by rw [setO_L]; exact hkeep) (fun t ht => setO_look ⟨σ.fr, L', σ.N⟩ oj.dst u t (fun d hd e => a3 d hd (e ▸ ht)))
        refine .inr ⟨u, L', s1, fun p hp => hk p (by simp [hp]), ih (listed.setIfInBounds j true) _ _ (hc.step hj) hfree' (ready_mono hr (Ne.symm hji)) s2 ?_⟩
        rw [Array.setIfInBounds_comm _ _ hji]
        have hal : Alike (St.setO ⟨(σ.setO oi.dst v).fr, L', (σ.setO oi.dst v).N⟩ oj.dst u) ((St.setO ⟨σ.fr, L', σ.N⟩ oj.dst u).setO oi.dst v) := by
          have h1 := setO_comm ⟨σ.fr, L', σ.N⟩ oi.dst oj.dst v u a2
          have h0 : Alike ⟨(σ.setO oi.dst v).fr, L', (σ.setO oi.dst v).N⟩ (St.setO ⟨σ.fr, L', σ.N⟩ oi.dst v) := by
            cases oi.dst <;> exact Alike.refl
          exact (h0.setO oj.dst u).trans h1
        exact VX.alike hK fuel _ _ _ _ hal Hj

/-- The order: quiet operations early. -/
def pureB : Op → Bool
  | .move _ | .assign _ | .pick .. | .build .. | .load .. | .binOp .. | .unOp .. | .fieldAddr .. | .indexAddr .. | .extract .. => true
  | .call c => match c.callee with
    | .builtin .len => true
    | _ => false
  | _ => false
/-- The ready list in an order that fits; true: quiet. -/
def orderOf (md : Region.Mode) (ops : Array Oper) : Nat → Array Bool → List (Nat × Bool)
  | 0, _ => []
  | n + 1, listed => match (Region.ready md ops listed).find? (fun i => ((ops[i]?).map (fun o => pureB o.op)).getD false) with
    | some i => (i, true) :: orderOf md ops n (listed.setIfInBounds i true)
    | none => match Region.ready md ops listed with
      | i :: _ => (i, false) :: orderOf md ops n (listed.setIfInBounds i true)
      | [] => []
def checkX (md : Region.Mode) (ops : Array Oper) : List (Nat × Bool) → Array Bool → Bool
  | [], listed => (Region.ready md ops listed).isEmpty
  | (i, true) :: r, listed => (Region.ready md ops listed).contains i && Region.free md ops listed i && checkX md ops r (listed.setIfInBounds i true)
  | (i, false) :: r, listed => (Region.ready md ops listed == [i]) && checkX md ops r (listed.setIfInBounds i true)
/-- The walk of one order. -/
def VY (P : Program) (A : Amb) (ops : Array Oper) (K : St → Prop) : List (Nat × Bool) → PF → St → Prop
  | [], _, σ => K σ
  | (i, true) :: r, pf, σ => ∃ o sv, ops[i]? = some o ∧ PSt P A ops σ.L σ o sv ∧ VY P A ops K r ((i, σ.L) :: pf) (σ.setO o.dst sv)
  | (i, false) :: r, pf, σ => ∃ o sv L', ops[i]? = some o ∧ HSt P A ops σ o sv L' ∧ (∀ p ∈ pf, depB .any ops ops.size p.1 i = true ∨ Keep p.2 L') ∧ VY P A ops K r pf (St.setO ⟨σ.fr, L', σ.N⟩ o.dst sv)
theorem VY.vx (hK : ∀ σ σ', Alike σ σ' → K σ → K σ') : ∀ (l : List (Nat × Bool)) (listed : Array Bool) (pf : PF) (σ : St), Closed .any ops listed → checkX .any ops l listed = true → VY P A ops K l pf σ → VX P A .any ops K l.length listed pf σ
  | [], _, _, _, _, hB, h => ⟨by simpa [checkX] using hB, h⟩
  | (i, true) :: l, listed, pf, σ, hc, hB, h => by
    simp only [checkX, Bool.and_eq_true] at hB
    obtain ⟨o, sv, h1, h2, h3⟩ := h
    have hr : i ∈ Region.ready .any ops listed := by simpa using hB.1.1
    exact VX.first hK h1 l.length listed pf σ hc (Region.free_spec h1 hB.1.2) hr h2 (VY.vx hK l _ _ _ (hc.step hr) hB.2 h3)
  | (i, false) :: l, listed, pf, σ, hc, hB, h => by
    simp only [checkX, Bool.and_eq_true, beq_iff_eq] at hB
    obtain ⟨o, sv, L', h1, h2, h4, h3⟩ := h
    show VX P A .any ops K (l.length + 1) listed pf σ
    refine ⟨fun h0 => (by rw [hB.1] at h0; cases h0), fun j hj => ?_⟩
    rw [hB.1] at hj
    obtain rfl : j = i := by simpa using hj
    have hr : j ∈ Region.ready .any ops listed := by rw [hB.1]; simp
    exact ⟨o, h1, .inr ⟨sv, L', h2, h4, VY.vx hK l _ _ _ (hc.step hr) hB.2 h3⟩⟩
theorem VY.mono {K' : St → Prop} (hK : ∀ s, K s → K' s) : ∀ (l : List (Nat × Bool)) (pf : PF) (σ : St), VY P A ops K l pf σ → VY P A ops K' l pf σ
  | [], _, _, h => hK _ h
  | (_, true) :: l, _, _, ⟨o, sv, h1, h2, h3⟩ => ⟨o, sv, h1, h2, VY.mono hK l _ _ h3⟩
  | (_, false) :: l, _, _, ⟨o, sv, L', h1, h2, h4, h3⟩ => ⟨o, sv, L', h1, h2, h4, VY.mono hK l _ _ h3⟩
theorem V_drawX {id : Nat} {l : List Oper} {Q : Exit → St → Prop} (hm : P.follows .mixedOrders = true) (ord : List (Nat × Bool)) (hB : (checkX .any l.toArray ord (Array.replicate l.length false) && ord.length == l.length) = true)
    (h : VY P A l.toArray (Q .normal) ord [] σ) : V P A (.region id l.toArray true) σ Q := by
  intro a w hr
  simp only [Bool.and_eq_true, beq_iff_eq] at hB
  refine wp_region_any hm ?_
  have h1 := VY.mono (K' := fun s => ∃ s', Alike s s' ∧ Q .normal s') (fun s hs => ⟨s, .refl, hs⟩) ord [] σ h
  have hc : Closed .any l.toArray (Array.replicate l.length false) := fun k o _ hl => by rw [Array.getD_eq_getD_getElem?, Array.getElem?_replicate] at hl; split at hl <;> simp at hl
  have h2 := VY.vx (fun σ σ' ha ⟨s', k1, k2⟩ => ⟨s', ha.symm.trans k1, k2⟩) ord _ _ _ hc hB.1 h1
  rw [hB.2] at h2
  have h3 := VX.wp (R := fun e a' w' => ∃ σ', Q e σ' ∧ Realz A σ' a' w') (fun s a' w' ⟨s', k1, k2⟩ hr' => ⟨s', k2, k1.realz hr'⟩) l.length _ _ σ a _ hr.drew h2
  simpa using h3
theorem V_seq_drawX {id : Nat} {l : List Oper} {y : Code} {Q : Exit → St → Prop} (hm : P.follows .mixedOrders = true) (ord : List (Nat × Bool)) (hB : (checkX .any l.toArray ord (Array.replicate l.length false) && ord.length == l.length) = true)
    (h : VY P A l.toArray (fun s => V P A y s Q) ord [] σ) : V P A (.seq (.region id l.toArray true) y) σ Q := V_seq (V_drawX hm ord hB h)
end
end Go.Eng
