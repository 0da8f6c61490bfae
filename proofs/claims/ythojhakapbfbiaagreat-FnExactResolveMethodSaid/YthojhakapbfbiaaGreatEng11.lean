/- The engine, part 10: regions that draw their order, of quiet operations. -/
import Derived.Test.YthojhakapbfbiaaGreatEng9
import Derived.Still
import Derived.Laws.StructEq
namespace Go.Eng
open Go Go.RowKit
section
variable {P : Program} {A : Amb} {ops : Array Oper} {md : Region.Mode} {K : St → Prop} {σ σ' : St}
def St.setO (σ : St) (d : Option Nat) (sv : SV) : St :=
  match d with
  | some t => σ.set t sv
  | none => σ
/-- Whether a guarded operation runs. -/
def Gd (ops : Array Oper) (σ : St) (o : Oper) (b : Bool) : Prop :=
  match o.guard with
  | none => b = true
  | some (j, want) => ∃ oj tj x, ops[j]? = some oj ∧ oj.dst = some tj ∧ tj < σ.N ∧ look σ.fr tj = .d (.b x) ∧ (x == want) = b
def YS (P : Program) (A : Amb) (ops : Array Oper) (σ : St) (o : Oper) (sv : SV) : Prop :=
  (∀ d, o.dst = some d → Nat.blt d σ.N = true) ∧ ((Gd ops σ o true ∧ Quiet P A σ o sv) ∨ (Gd ops σ o false ∧ sv = .junk))
/-- The walk of the order of the text. -/
def VQ (P : Program) (A : Amb) (ops : Array Oper) : List Oper → St → (St → Prop) → Prop
  | [], σ, K => K σ
  | o :: rest, σ, K => ∃ sv, YS P A ops σ o sv ∧ VQ P A ops rest (σ.setO o.dst sv) K
theorem VQ_nil (h : K σ) : VQ P A ops [] σ K := h
theorem VQ_q {rest : List Oper} {t : Nat} {op : Op} {ty : TypeId} {pos : String} {af : Array Edge} {sv : SV} {fr : List (Nat × SV)} {L : List LO} {N : Nat}
    (hq : Quiet P A ⟨fr, L, N⟩ ⟨some t, op, ty, pos, af, none⟩ sv) (ht : Nat.blt t N = true) (h : VQ P A ops rest ⟨(t, sv) :: fr, L, N⟩ K) :
    VQ P A ops (⟨some t, op, ty, pos, af, none⟩ :: rest) ⟨fr, L, N⟩ K :=
  ⟨sv, ⟨fun d hd => by cases hd; exact ht, .inl ⟨rfl, hq⟩⟩, h⟩
theorem VQ_run {rest : List Oper} {t : Nat} {op : Op} {ty : TypeId} {pos : String} {af : Array Edge} {j tj : Nat} {want : Bool} {o' : Oper} {sv : SV}
    (hj : ops[j]? = some o') (hdst : o'.dst = some tj) (htj : Nat.blt tj σ.N = true) (hb : look σ.fr tj = .d (.b want))
    (hq : Quiet P A σ ⟨some t, op, ty, pos, af, some (j, want)⟩ sv) (ht : Nat.blt t σ.N = true) (h : VQ P A ops rest (σ.set t sv) K) :
    VQ P A ops (⟨some t, op, ty, pos, af, some (j, want)⟩ :: rest) σ K :=
  ⟨sv, ⟨fun d hd => by cases hd; exact ht, .inl ⟨⟨o', tj, want, hj, hdst, by simpa [Nat.blt_eq] using htj, hb, by simp⟩, hq⟩⟩, h⟩
theorem VQ_pass {rest : List Oper} {t : Nat} {op : Op} {ty : TypeId} {pos : String} {af : Array Edge} {j tj : Nat} {want x : Bool} {o' : Oper}
    (hj : ops[j]? = some o') (hdst : o'.dst = some tj) (htj : Nat.blt tj σ.N = true) (hb : look σ.fr tj = .d (.b x)) (hx : (x == want) = false)
    (ht : Nat.blt t σ.N = true) (h : VQ P A ops rest (σ.set t .junk) K) :
    VQ P A ops (⟨some t, op, ty, pos, af, some (j, want)⟩ :: rest) σ K :=
  ⟨.junk, ⟨fun d hd => by cases hd; exact ht, .inr ⟨⟨o', tj, x, hj, hdst, by simpa [Nat.blt_eq] using htj, hb, hx⟩, rfl⟩⟩, h⟩
/-- States that look alike. -/
structure Alike (σ σ' : St) : Prop where
  L : σ.L = σ'.L
  N : σ.N = σ'.N
  fr : ∀ t, look σ.fr t = look σ'.fr t
theorem Alike.refl : Alike σ σ := ⟨rfl, rfl, fun _ => rfl⟩
theorem Alike.symm (h : Alike σ σ') : Alike σ' σ := ⟨h.L.symm, h.N.symm, fun t => (h.fr t).symm⟩
theorem Alike.trans {σ'' : St} (h : Alike σ σ') (h' : Alike σ' σ'') : Alike σ σ'' := ⟨h.L.trans h'.L, h.N.trans h'.N, fun t => (h.fr t).trans (h'.fr t)⟩
theorem Alike.realz {a : Act} {w : World} (h : Alike σ σ') (hr : Realz A σ a w) : Realz A σ' a w := by
  obtain ⟨S, env, hH, hf, hN, hd⟩ := hr
  exact ⟨S, env, h.L ▸ hH, fun t => by rw [← h.fr t, ← h.L]; exact hf t, by rw [← h.N]; exact hN, hd⟩
theorem Alike.setO (h : Alike σ σ') (d : Option Nat) (sv : SV) : Alike (σ.setO d sv) (σ'.setO d sv) := by
  cases d with
  | none => exact h
  | some t => exact ⟨h.L, h.N, fun u => by simp only [St.setO, St.set, look]; rw [h.fr u]⟩
theorem setO_L (σ : St) (d : Option Nat) (sv : SV) : (σ.setO d sv).L = σ.L := by cases d <;> rfl
theorem setO_N (σ : St) (d : Option Nat) (sv : SV) : (σ.setO d sv).N = σ.N := by cases d <;> rfl
theorem setO_look (σ : St) (d : Option Nat) (sv : SV) (t : Nat) (h : ∀ u, d = some u → u ≠ t) : look (σ.setO d sv).fr t = look σ.fr t := by
  cases d with
  | none => rfl
  | some u => simp only [St.setO, St.set, look]; rw [if_neg (fun e => h u rfl e.symm)]
theorem setO_comm (σ : St) (x y : Option Nat) (v u : SV) (h : ∀ d, x = some d → y ≠ some d) : Alike ((σ.setO x v).setO y u) ((σ.setO y u).setO x v) := by
  refine ⟨by simp only [setO_L], by simp only [setO_N], fun t => ?_⟩
  cases x with
  | none => rfl
  | some d =>
    cases y with
    | none => rfl
    | some e =>
      have hne : d ≠ e := fun he => h d rfl (by rw [he])
      simp only [St.setO, St.set, look]
      split
      · rename_i h1
        rw [if_neg (by omega)]
      · rfl
/-- What an operation yields hangs only on what it looks at. -/
theorem YS.congr {o : Oper} {sv : SV} (hL : σ'.L = σ.L) (hN : σ'.N = σ.N) (h : ∀ t, t ∈ o.looksAt ops → look σ'.fr t = look σ.fr t) (hy : YS P A ops σ o sv) : YS P A ops σ' o sv := by
  have hev : ∀ x ∈ o.op.operands.toList, σ'.ev x = σ.ev x := by
    intro x hx
    cases x with
    | tmp t => exact h t (by unfold Oper.looksAt; exact List.mem_append.2 (.inl (List.mem_filterMap.2 ⟨.tmp t, hx, rfl⟩)))
    | _ => rfl
  have hg : ∀ b, Gd ops σ o b → Gd ops σ' o b := by
    intro b hb
    unfold Gd at *
    cases hgd : o.guard with
    | none => simp only [hgd] at hb ⊢; exact hb
    | some p =>
      obtain ⟨j, want⟩ := p
      simp only [hgd] at hb ⊢
      obtain ⟨oj, tj, x, h1, h2, h3, h4, h5⟩ := hb
      refine ⟨oj, tj, x, h1, h2, by rw [hN]; exact h3, ?_, h5⟩
      rw [h tj, h4]
      unfold Oper.looksAt
      refine List.mem_append.2 (.inr ?_)
      simp [hgd, h1, h2]
  refine ⟨fun d hd => by rw [hN]; exact hy.1 d hd, ?_⟩
  rcases hy.2 with ⟨h1, h2⟩ | ⟨h1, h2⟩
  · refine .inl ⟨hg _ h1, ?_⟩
    intro S env a w hH hx next R hn
    rw [hL] at hH
    refine h2 S env a w hH (fun x hx' => ?_) next R (fun v w' S' k1 k2 k3 => hn v w' S' ?_ ?_ ?_)
    · have := hx x hx'
      rw [hL, hev x hx'] at this
      exact this
    · rw [hL]; exact k1
    · rw [hL]; exact k2
    · rw [hL]; exact k3
  · exact .inr ⟨hg _ h1, h2⟩
/-- Whatever order is picked from here on. -/
def VAny (P : Program) (A : Amb) (md : Region.Mode) (ops : Array Oper) (K : St → Prop) : Nat → Array Bool → St → Prop
  | 0, listed, σ => Region.ready md ops listed = [] ∧ K σ
  | fuel + 1, listed, σ => (Region.ready md ops listed = [] → K σ) ∧
    ∀ i ∈ Region.ready md ops listed, ∃ o sv, ops[i]? = some o ∧ YS P A ops σ o sv ∧ VAny P A md ops K fuel (listed.setIfInBounds i true) (σ.setO o.dst sv)
theorem VAny.alike (hK : ∀ σ σ', Alike σ σ' → K σ → K σ') : ∀ (fuel : Nat) (listed : Array Bool) (σ σ' : St), Alike σ σ' → VAny P A md ops K fuel listed σ → VAny P A md ops K fuel listed σ'
  | 0, _, σ, σ', ha, h => ⟨h.1, hK _ _ ha h.2⟩
  | fuel + 1, _, σ, σ', ha, h => ⟨fun h0 => hK _ _ ha (h.1 h0), fun i hi => by
    obtain ⟨o, sv, h1, h2, h3⟩ := h.2 i hi
    exact ⟨o, sv, h1, h2.congr ha.L.symm ha.N.symm (fun t _ => (ha.fr t).symm), VAny.alike hK fuel _ _ _ (ha.setO o.dst sv) h3⟩⟩
theorem Gd.wanted {a : Act} {w : World} {S : Nat → Prop} {env : List Value} {o : Oper} {b : Bool} (hf : ∀ t, SVr S σ.L env w (look σ.fr t) (a.tmps.getD t undef)) (hN : a.tmps.size = σ.N) (h : Gd ops σ o b) :
    Region.wanted o (yielded ops a.tmps) = b := by
  unfold Gd at h
  cases hgd : o.guard with
  | none => simp only [hgd] at h; simp [Region.wanted, hgd, h]
  | some p =>
    obtain ⟨j, want⟩ := p
    simp only [hgd] at h
    obtain ⟨oj, tj, x, h1, h2, h3, h4, h5⟩ := h
    have h6 := hf tj
    rw [h4, SVr.bool] at h6
    have ht' : tj < a.tmps.size := by rw [hN]; exact h3
    have hy : yielded ops a.tmps j = some x := by
      simp only [yielded, h1, h2, Option.bind_some]
      have : a.tmps[tj]? = some (.bool x) := by
        rw [Array.getD_eq_getD_getElem?, Array.getElem?_eq_getElem ht'] at h6
        rw [Array.getElem?_eq_getElem ht']
        have h6' : a.tmps[tj] = .bool x := by simpa using h6
        rw [h6']
      rw [this]
    simp only [Region.wanted, hgd, hy]
    rw [← h5]
    cases x <;> cases want <;> rfl
/-- It is the kit's own walk of all orders. -/
theorem VAny.wp {R : Exit → Act → World → Prop} (hR : ∀ σ' a' w', K σ' → Realz A σ' a' w' → R .normal a' w') : ∀ (fuel : Nat) (listed : Array Bool) (σ : St) (a : Act) (w : World), Realz A σ a w →
    VAny P A md ops K fuel listed σ → wpAny P md ops R fuel listed a w
  | 0, _, _, _, _, hr, h => ⟨h.1, hR _ _ _ h.2 hr⟩
  | fuel + 1, listed, σ, a, w, hr, h => by
    refine ⟨fun h0 => hR _ _ _ (h.1 h0) hr, fun i hi => ?_⟩
    obtain ⟨o, sv, h1, h2, h3⟩ := h.2 i hi
    obtain ⟨S, env, hH, hf, hN, hd⟩ := hr
    unfold wpOp
    simp only [h1]
    have put : ∀ (S' : Nat → Prop) (w' : World) (v : Value), HeapR A S' σ.L env w' → Carry S σ.L env w S' σ.L env w' → SVr S' σ.L env w' sv v → Realz A (σ.setO o.dst sv) (a.put o.dst v) w' := by
      intro S' w' v k1 k2 k3
      cases hdst : o.dst with
      | none => exact realz_put_none hf hN hd k1 k2
      | some t => exact realz_put hf hN hd (h2.1 t hdst) k1 k2 k3
    rcases h2.2 with ⟨g1, g2⟩ | ⟨g1, g2⟩
    · rw [if_pos (Gd.wanted hf hN g1)]
      refine .inl (g2 S env a w hH (fun x _ => evr hf x) _ _ (fun v w' S' k1 k2 k3 => ?_))
      exact VAny.wp hR fuel _ _ _ _ (put S' w' v k1 k2 k3) h3
    · rw [if_neg (by rw [Gd.wanted hf hN g1]; simp)]
      subst g2
      exact VAny.wp hR fuel _ _ _ _ (put S w undef hH Carry.refl (by simp only [SVr])) h3
theorem YS.swap {j : Nat} {oi oj : Oper} {v : SV} {m : St → Prop} (hap : oi.apart ops oj = true) {u : SV} (hy : YS P A ops σ oi v) (hj : YS P A ops (σ.setO oi.dst v) oj u) (_ : m σ ∨ j = j) :
    YS P A ops σ oj u ∧ YS P A ops (σ.setO oj.dst u) oi v ∧ Alike ((σ.setO oi.dst v).setO oj.dst u) ((σ.setO oj.dst u).setO oi.dst v) := by
  obtain ⟨h1, h2, h3⟩ := Oper.apart_spec hap
  refine ⟨hj.congr (setO_L _ _ _).symm (setO_N _ _ _).symm (fun t ht => ?_), hy.congr (setO_L _ _ _) (setO_N _ _ _) (fun t ht => ?_), setO_comm _ _ _ _ _ h2⟩
  · exact (setO_look σ oi.dst v t (fun d hd e => h1 d hd (e ▸ ht))).symm
  · exact setO_look σ oj.dst u t (fun d hd e => h3 d hd (e ▸ ht))
/-- An operation that may come up may be taken first. -/
theorem VAny.first (hK : ∀ σ σ', Alike σ σ' → K σ → K σ') {i : Nat} {oi : Oper} {v : SV} (hi : ops[i]? = some oi) : ∀ (fuel : Nat) (listed : Array Bool) (σ : St),
    (∀ (j : Nat) (oj : Oper), ops[j]? = some oj → j ≠ i → listed.getD j true = false → (∀ e ∈ oj.after, Region.binds md e = true → e.on ≠ i) → oi.apart ops oj = true) →
    i ∈ Region.ready md ops listed → YS P A ops σ oi v →
    VAny P A md ops K fuel (listed.setIfInBounds i true) (σ.setO oi.dst v) → VAny P A md ops K (fuel + 1) listed σ := by
  intro fuel
  induction fuel with
  | zero =>
    intro listed σ _ hr hy H
    refine ⟨fun h => (by rw [h] at hr; cases hr), fun j hj => ?_⟩
    by_cases hji : j = i
    · subst hji; exact ⟨oi, v, hi, hy, H⟩
    · have := ready_mono hj hji
      rw [H.1] at this
      cases this
  | succ fuel ih =>
    intro listed σ hfree hr hy H
    refine ⟨fun h => (by rw [h] at hr; cases hr), fun j hj => ?_⟩
    by_cases hji : j = i
    · subst hji; exact ⟨oi, v, hi, hy, H⟩
    · obtain ⟨oj, u, hoj, hyj, Hj⟩ := H.2 j (ready_mono hj hji)
      obtain ⟨hjun, oj', hoj', hall⟩ := mem_ready.1 hj
      rw [hoj] at hoj'
      obtain rfl := Option.some.inj hoj'
      have hnot : ∀ e ∈ oj.after, Region.binds md e = true → e.on ≠ i := fun e he hb heq => by
        have h1 := hall e he hb
        have h0 := (mem_ready.1 hr).1
        rw [heq] at h1
        rcases Nat.lt_or_ge i listed.size with h' | h'
        · simp [h'] at h0 h1; rw [h0] at h1; cases h1
        · simp [Array.getElem?_eq_none h'] at h1
      obtain ⟨s1, s2, s3⟩ := YS.swap (j := j) (m := K) (hfree j oj hoj hji hjun hnot) hy hyj (.inr rfl)
      have hfree' : ∀ (k : Nat) (ok : Oper), ops[k]? = some ok → k ≠ i → (listed.setIfInBounds j true).getD k true = false →
          (∀ e ∈ ok.after, Region.binds md e = true → e.on ≠ i) → oi.apart ops ok = true := fun k ok hk hki hun hno => by
        refine hfree k ok hk hki ?_ hno
        by_cases hjk : j = k
        · subst hjk; exact hjun
        · rw [getD_set_ne true hjk] at hun; exact hun
      refine ⟨oj, u, hoj, s1, ih (listed.setIfInBounds j true) _ hfree' (ready_mono hr (Ne.symm hji)) s2 ?_⟩
      rw [Array.setIfInBounds_comm _ _ hji]
      exact VAny.alike hK fuel _ _ _ s3 Hj
theorem VAny.lex (hK : ∀ σ σ', Alike σ σ' → K σ → K σ') : ∀ (l : List Oper) (k : Nat) (listed : Array Bool) (σ : St), (∀ (j : Nat), l[j]? = ops[k + j]?) →
    Region.lexFrom md ops l.length k listed = true → VQ P A ops l σ K → VAny P A md ops K l.length listed σ
  | [], _, _, _, _, hB, h => ⟨by simpa [Region.lexFrom] using hB, h⟩
  | o :: l, k, listed, σ, hl, hB, h => by
    have h0 : ops[k]? = some o := by simpa using (hl 0).symm
    simp only [List.length_cons, Region.lexFrom, Bool.and_eq_true] at hB
    obtain ⟨⟨hr, hf⟩, hB'⟩ := hB
    obtain ⟨sv, hy, hrest⟩ := h
    exact VAny.first hK h0 l.length listed σ (Region.free_spec h0 hf) (by simpa using hr) hy
      (VAny.lex hK l (k + 1) _ _ (fun j => by have := hl (j + 1); simpa [Nat.add_assoc, Nat.add_comm 1 j] using this) hB' hrest)
theorem VQ.mono {K' : St → Prop} (hK : ∀ s, K s → K' s) : ∀ (l : List Oper) (σ : St), VQ P A ops l σ K → VQ P A ops l σ K'
  | [], _, h => hK _ h
  | _ :: l, _, ⟨sv, h1, h2⟩ => ⟨sv, h1, VQ.mono hK l _ h2⟩
theorem Realz.drew {a : Act} {w : World} (h : Realz A σ a w) : Realz A σ a { w with drawn := w.drawn + 1 } := by
  obtain ⟨S, env, hH, hf, hN, hd⟩ := h
  have C : Carry S σ.L env w S σ.L env { w with drawn := w.drawn + 1 } := ⟨fun _ h _ => h, fun _ _ _ => rfl, fun _ _ h => h, fun _ _ _ h1 h2 => ⟨_, _, h1, h2, Nat.le_refl _, fun _ => rfl⟩⟩
  have hfe : ∀ (i : Nat) (o' : LO) (hv' : Value), σ.L[i]? = some o' → env[i]? = some hv' → ∀ b, o'.ft { w with drawn := w.drawn + 1 } hv' b → o'.ft w hv' b := fun i o' hv' h1 h2 b hb' =>
    (LO.ft_eq (w' := { w with drawn := w.drawn + 1 }) (hH.objs i o' hv' h1 h2) (fun _ _ => rfl) b).1 hb'
  exact ⟨S, env, ⟨hH.len, fun i o hv h1 h2 => ObjR.carry C (fun _ _ _ => rfl) (hH.objs i o hv h1 h2), fun i o hv b h1 hl h2 hb => hH.excl i o hv b h1 hl h2 (hfe i o hv h1 h2 b hb), fun i j o o' hv hv' b k1 k2 l1 l2 m1 m2 n1 n2 => hH.dist i j o o' hv hv' b k1 k2 l1 l2 m1 m2 (hfe i o hv k1 m1 b n1) (hfe j o' hv' k2 m2 b n2), hH.sS, hH.sA, hH.frame, hH.size, hH.os, hH.tape, hH.output, hH.base, hH.glob⟩, fun t => SVr.carry C _ _ (hf t), hN, hd⟩
/-- A region that draws its order: one walk of the order of the text serves all orders. -/
theorem V_draw {id : Nat} {l : List Oper} {Q : Exit → St → Prop} (hm : P.follows .mixedOrders = true) (hB : Region.lexB .any l.toArray = true) (h : VQ P A l.toArray l σ (Q .normal)) :
    V P A (.region id l.toArray true) σ Q := by
  intro a w hr
  simp only [Region.lexB, Bool.and_eq_true] at hB
  refine wp_region_any hm ?_
  have h1 := VQ.mono (K' := fun s => ∃ s', Alike s s' ∧ Q .normal s') (fun s hs => ⟨s, .refl, hs⟩) l σ h
  have h2 := VAny.lex (md := .any) (fun σ σ' ha ⟨s', k1, k2⟩ => ⟨s', ha.symm.trans k1, k2⟩) l 0 (Array.replicate l.toArray.size false) σ (by simp) (by simpa using hB.2) h1
  have h3 := VAny.wp (R := fun e a' w' => ∃ σ', Q e σ' ∧ Realz A σ' a' w') (fun s a' w' ⟨s', k1, k2⟩ hr' => ⟨s', k2, k1.realz hr'⟩) l.length _ σ a _ hr.drew h2
  simpa using h3
theorem V_seq_draw {id : Nat} {l : List Oper} {y : Code} {Q : Exit → St → Prop} (hm : P.follows .mixedOrders = true) (hB : Region.lexB .any l.toArray = true) (h : VQ P A l.toArray l σ (fun s => V P A y s Q)) :
    V P A (.seq (.region id l.toArray true) y) σ Q := V_seq (V_draw hm hB h)
end
/-! which operation comes next: cheap to ask -/
section
variable {P : Program} {A : Amb} {ops : Array Oper} {K : St → Prop} {σ : St} {rest l : List Oper} {t : Nat} {ty : TypeId} {pos : String} {af : Array Edge}
end
end Go.Eng
namespace Go.Eng
open Go Go.RowKit
inductive Sh where
  | int
  | bool
  | str
  | st (n : Nat)
  | sl (s : Sh)
def flds : Nat → List Sh
  | 0 => [.str, .sl (.st 0)]
  | 1 => [.int, .str, .sl (.st 1)]
  | 2 => [.str, .st 1]
  | 3 => [.str, .sl (.str), .st 4]
  | 4 => [.int, .str, .str, .int, .st 1, .sl (.st 4), .sl (.st 3)]
  | 5 => [.str, .sl (.st 1), .st 1, .bool, .sl (.str), .st 4]
  | 6 => [.str, .sl (.str), .bool, .bool, .sl (.st 5)]
  | 7 => [.str, .sl (.st 1)]
  | 8 => [.str, .sl (.str), .sl (.st 7)]
  | 9 => [.str, .st 1]
  | 10 => [.str, .sl (.str), .st 4]
  | 11 => [.str, .sl (.str), .st 1, .sl (.st 9), .bool, .bool, .st 1, .sl (.st 10)]
  | 12 => [.str, .st 1]
  | 13 => [.str, .sl (.str), .sl (.st 9), .sl (.st 12), .st 1, .st 4]
  | 14 => [.str, .sl (.str), .sl (.st 6), .sl (.st 8), .sl (.st 11), .sl (.st 13)]
  | 15 => [.sl (.st 14)]
  | 16 => [.int, .int]
  | 17 => [.st 9, .int, .sl (.int)]
  | 18 => [.int, .int, .st 16, .sl (.st 18)]
  | 19 => [.sl (.st 9), .sl (.int), .sl (.st 18)]
  | 20 => [.str, .sl (.str), .st 21]
  | 21 => [.int, .str, .str, .int, .st 1, .sl (.st 1), .sl (.st 18), .sl (.st 21), .sl (.st 20)]
  | 22 => [.st 1, .st 1, .int]
  | 23 => [.st 9, .int]
  | 24 => [.int, .int, .int, .sl (.st 2), .sl (.st 22), .sl (.st 23), .int, .int]
  | 25 => [.int, .int, .int, .int, .sl (.str), .sl (.st 9), .sl (.st 12), .st 1, .st 21]
  | 26 => [.int, .st 16, .sl (.int), .sl (.st 26)]
  | 27 => [.int, .int, .str, .st 26, .sl (.st 27)]
  | 28 => [.int, .sl (.st 1), .sl (.str), .st 21]
  | 29 => [.str, .str, .int]
  | 30 => [.str, .st 1, .sl (.st 29)]
  | 31 => [.sl (.st 28), .sl (.st 30)]
  | 32 => [.int, .int, .int, .str, .str]
  | 33 => [.int, .sl (.st 32)]
  | 34 => [.sl (.st 33), .sl (.st 30)]
  | 35 => [.int, .int, .int, .sl (.st 27)]
  | 36 => [.sl (.st 27), .sl (.st 35), .int, .int, .bool]
  | 37 => [.int, .int, .int, .int, .int, .int]
  | 38 => [.str, .str, .sl (.st 25), .sl (.st 37)]
  | 39 => [.sl (.st 38)]
  | _ => []
def cz : Nat → Nat
  | 0 => 2
  | 1 => 3
  | 2 => 4
  | 3 => 11
  | 4 => 9
  | 5 => 16
  | 6 => 5
  | 7 => 2
  | 8 => 3
  | 9 => 4
  | 10 => 11
  | 11 => 12
  | 12 => 4
  | 13 => 16
  | 14 => 6
  | 15 => 1
  | 16 => 2
  | 17 => 6
  | 18 => 5
  | 19 => 3
  | 20 => 13
  | 21 => 11
  | 22 => 7
  | 23 => 5
  | 24 => 8
  | 25 => 21
  | 26 => 5
  | 27 => 9
  | 28 => 14
  | 29 => 3
  | 30 => 5
  | 31 => 2
  | 32 => 5
  | 33 => 2
  | 34 => 2
  | 35 => 4
  | 36 => 5
  | 37 => 6
  | 38 => 4
  | 39 => 1
  | _ => 0
def shz : Sh → Nat
  | .st n => cz n
  | _ => 1
theorem cz_ok : ∀ n, ((flds n).map shz).sum = cz n
  | 0 => rfl
  | 1 => rfl
  | 2 => rfl
  | 3 => rfl
  | 4 => rfl
  | 5 => rfl
  | 6 => rfl
  | 7 => rfl
  | 8 => rfl
  | 9 => rfl
  | 10 => rfl
  | 11 => rfl
  | 12 => rfl
  | 13 => rfl
  | 14 => rfl
  | 15 => rfl
  | 16 => rfl
  | 17 => rfl
  | 18 => rfl
  | 19 => rfl
  | 20 => rfl
  | 21 => rfl
  | 22 => rfl
  | 23 => rfl
  | 24 => rfl
  | 25 => rfl
  | 26 => rfl
  | 27 => rfl
  | 28 => rfl
  | 29 => rfl
  | 30 => rfl
  | 31 => rfl
  | 32 => rfl
  | 33 => rfl
  | 34 => rfl
  | 35 => rfl
  | 36 => rfl
  | 37 => rfl
  | 38 => rfl
  | 39 => rfl
  | _ + 40 => rfl
def inRange (n : Int) : Prop := -9223372036854775808 ≤ n ∧ n ≤ 9223372036854775807
mutual
def wt : Sh → U → Prop
  | .int, .i k n => k = .i64 ∧ inRange n
  | .bool, .b _ => True
  | .str, .s l => l.length ≤ big
  | .st n, .st us => wts (flds n) us
  | .sl s, .sl z us => z = shz s ∧ us.length ≤ big ∧ wta s us
  | _, _ => False
def wts : List Sh → List U → Prop
  | [], [] => True
  | s :: ss, u :: us => wt s u ∧ wts ss us
  | _, _ => False
def wta : Sh → List U → Prop
  | _, [] => True
  | s, u :: us => wt s u ∧ wta s us
end
theorem wta_iff {s : Sh} : ∀ {us : List U}, wta s us ↔ ∀ u ∈ us, wt s u
  | [] => by simp [wta]
  | u :: us => by simp [wta, wta_iff (us := us)]
theorem inv_int {u : U} (h : wt .int u) : ∃ n, u = .i .i64 n ∧ inRange n := by
  cases u with
  | i k n => obtain ⟨rfl, h⟩ := h; exact ⟨n, rfl, h⟩
  | _ => exact h.elim
theorem inv_bool {u : U} (h : wt .bool u) : ∃ x, u = .b x := by
  cases u with
  | b x => exact ⟨x, rfl⟩
  | _ => exact h.elim
theorem inv_str {u : U} (h : wt .str u) : ∃ l, u = .s l ∧ l.length ≤ big := by
  cases u with
  | s l => exact ⟨l, rfl, h⟩
  | _ => exact h.elim
theorem inv_st {n : Nat} {u : U} (h : wt (.st n) u) : ∃ us, u = .st us ∧ wts (flds n) us := by
  cases u with
  | st us => exact ⟨us, rfl, h⟩
  | _ => exact h.elim
theorem inv_sl {s : Sh} {u : U} (h : wt (.sl s) u) : ∃ us, u = .sl (shz s) us ∧ us.length ≤ big ∧ ∀ x ∈ us, wt s x := by
  cases u with
  | sl z us => obtain ⟨rfl, h1, h2⟩ := h; exact ⟨us, rfl, h1, wta_iff.1 h2⟩
  | _ => exact h.elim
theorem inv_cons {s : Sh} {ss : List Sh} {us : List U} (h : wts (s :: ss) us) : ∃ u vs, us = u :: vs ∧ wt s u ∧ wts ss vs := by
  cases us with
  | nil => exact h.elim
  | cons u vs => exact ⟨u, vs, rfl, h.1, h.2⟩
theorem inv_nil {us : List U} (h : wts [] us) : us = [] := by
  cases us with
  | nil => rfl
  | cons u vs => exact h.elim
mutual
theorem wt_sz : ∀ (u : U) (s : Sh), wt s u → u.sz = shz s
  | .i k n, s, h => by cases s <;> first | rfl | exact h.elim
  | .b x, s, h => by cases s <;> first | rfl | exact h.elim
  | .s l, s, h => by cases s <;> first | rfl | exact h.elim
  | .sl z us, s, h => by cases s <;> first | rfl | exact h.elim
  | .st us, s, h => by
    cases s with
    | st n =>
      simp only [U.sz, shz]
      rw [← cz_ok n]
      exact wts_sz us (flds n) h
    | _ => exact h.elim
theorem wts_sz : ∀ (us : List U) (ss : List Sh), wts ss us → U.szs us = (ss.map shz).sum
  | [], ss, h => by
    cases ss with
    | nil => rfl
    | cons s ss => exact h.elim
  | u :: us, ss, h => by
    cases ss with
    | nil => exact h.elim
    | cons s ss =>
      simp only [U.szs, List.map_cons, List.sum_cons]
      rw [wt_sz u s h.1, wts_sz us ss h.2]
end
theorem wt_isSt {n : Nat} {u : U} (h : wt (.st n) u) : u.isSt = true := by
  obtain ⟨us, rfl, _⟩ := inv_st h
  rfl
/-! ### weights: what the size check of the laws counts -/
mutual
def W : U → Nat
  | .i _ _ => 0
  | .b _ => 0
  | .s l => l.length
  | .st us => Ws us
  | .sl _ us => us.length + Ws us
def Ws : List U → Nat
  | [] => 0
  | u :: us => W u + Ws us
end
theorem Ws_append : ∀ (us vs : List U), Ws (us ++ vs) = Ws us + Ws vs
  | [], vs => by simp [Ws]
  | u :: us, vs => by simp [Ws, Ws_append us vs, Nat.add_assoc]
theorem Ws_take_succ {us : List U} {k : Nat} {u : U} (h : us[k]? = some u) : Ws (us.take (k + 1)) = Ws (us.take k) + W u := by
  obtain ⟨hk, rfl⟩ := List.getElem?_eq_some_iff.1 h
  rw [List.take_succ_eq_append_getElem hk, Ws_append]
  simp [Ws]
theorem Ws_take_le (us : List U) (k : Nat) : Ws (us.take k) ≤ Ws us := by
  have := Ws_append (us.take k) (us.drop k)
  rw [List.take_append_drop] at this
  omega
theorem W_le_of_mem : ∀ {us : List U} {u : U}, u ∈ us → W u ≤ Ws us
  | v :: us, u, h => by
    simp only [Ws]
    rcases List.mem_cons.1 h with rfl | h
    · omega
    · have := W_le_of_mem h; omega
/-! ### how many nodes -/
mutual
def U.nn : U → Nat
  | .i _ _ => 1
  | .b _ => 1
  | .s _ => 1
  | .st us => U.nns us + 1
  | .sl _ us => U.nns us + 1
def U.nns : List U → Nat
  | [] => 0
  | u :: us => u.nn + U.nns us
end
theorem nn_of_mem : ∀ {us : List U} {u : U}, u ∈ us → u.nn ≤ U.nns us
  | v :: us, u, h => by
    simp only [U.nns]
    rcases List.mem_cons.1 h with rfl | h
    · omega
    · have := nn_of_mem h; omega
/-- Induction on the number of nodes. -/
theorem U.ind {M : U → Prop} (h : ∀ u, (∀ v : U, v.nn < u.nn → M v) → M u) (u : U) : M u := by
  have : ∀ n (u : U), u.nn ≤ n → M u := by
    intro n
    induction n with
    | zero => intro u hu; cases u <;> simp [U.nn] at hu
    | succ n ih => intro u hu; exact h u (fun v hv => ih v (by omega))
  exact this u.nn u (Nat.le_refl _)
open Classical in
noncomputable def deq (u v : U) : Bool := decide (u = v)
theorem deq_true {u v : U} : deq u v = true ↔ u = v := by simp [deq]
theorem deq_false {u v : U} : deq u v = false ↔ u ≠ v := by simp [deq]
theorem deq_self (u : U) : deq u u = true := deq_true.2 rfl
/-- A size check that went through. -/
theorem ite_pos {c : Prop} [Decidable c] {a : Int} (h : ¬ (if c then a else -1) < 0) : (if c then a else -1) = a ∧ c := by
  split at h
  · rename_i hc; exact ⟨if_pos hc, hc⟩
  · omega
theorem inv_Type {u : U} (h : wt (.st 1) u) : ∃ (f0 : Int) (f1 : List UInt8) (f2 : List U), u = .st [.i .i64 f0, .s f1, .sl 3 f2] ∧ inRange f0 ∧ f1.length ≤ big ∧ (f2.length ≤ big ∧ ∀ x ∈ f2, wt (.st 1) x) := by
  obtain ⟨us0, rfl, h0⟩ := inv_st h
  obtain ⟨x0, us1, rfl, q0, h1⟩ := inv_cons h0
  obtain ⟨f0, rfl, p0⟩ := inv_int q0
  obtain ⟨x1, us2, rfl, q1, h2⟩ := inv_cons h1
  obtain ⟨f1, rfl, p1⟩ := inv_str q1
  obtain ⟨x2, us3, rfl, q2, h3⟩ := inv_cons h2
  obtain ⟨f2, rfl, p2⟩ := inv_sl q2
  obtain rfl := inv_nil h3
  exact ⟨f0, f1, f2, rfl, p0, p1, p2⟩
theorem inv_Arm {u : U} (h : wt (.st 3) u) : ∃ (f0 : List UInt8) (f1 : List U) (f2 : U), u = .st [.s f0, .sl 1 f1, f2] ∧ f0.length ≤ big ∧ (f1.length ≤ big ∧ ∀ x ∈ f1, wt (.str) x) ∧ wt (.st 4) f2 := by
  obtain ⟨us0, rfl, h0⟩ := inv_st h
  obtain ⟨x0, us1, rfl, q0, h1⟩ := inv_cons h0
  obtain ⟨f0, rfl, p0⟩ := inv_str q0
  obtain ⟨x1, us2, rfl, q1, h2⟩ := inv_cons h1
  obtain ⟨f1, rfl, p1⟩ := inv_sl q1
  obtain ⟨x2, us3, rfl, q2, h3⟩ := inv_cons h2
  have p2 := q2
  obtain rfl := inv_nil h3
  exact ⟨f0, f1, x2, rfl, p0, p1, p2⟩
theorem inv_Expr {u : U} (h : wt (.st 4) u) : ∃ (f0 : Int) (f1 : List UInt8) (f2 : List UInt8) (f3 : Int) (f4 : U) (f5 : List U) (f6 : List U), u = .st [.i .i64 f0, .s f1, .s f2, .i .i64 f3, f4, .sl 9 f5, .sl 11 f6] ∧ inRange f0 ∧ f1.length ≤ big ∧ f2.length ≤ big ∧ inRange f3 ∧ wt (.st 1) f4 ∧ (f5.length ≤ big ∧ ∀ x ∈ f5, wt (.st 4) x) ∧ (f6.length ≤ big ∧ ∀ x ∈ f6, wt (.st 3) x) := by
  obtain ⟨us0, rfl, h0⟩ := inv_st h
  obtain ⟨x0, us1, rfl, q0, h1⟩ := inv_cons h0
  obtain ⟨f0, rfl, p0⟩ := inv_int q0
  obtain ⟨x1, us2, rfl, q1, h2⟩ := inv_cons h1
  obtain ⟨f1, rfl, p1⟩ := inv_str q1
  obtain ⟨x2, us3, rfl, q2, h3⟩ := inv_cons h2
  obtain ⟨f2, rfl, p2⟩ := inv_str q2
  obtain ⟨x3, us4, rfl, q3, h4⟩ := inv_cons h3
  obtain ⟨f3, rfl, p3⟩ := inv_int q3
  obtain ⟨x4, us5, rfl, q4, h5⟩ := inv_cons h4
  have p4 := q4
  obtain ⟨x5, us6, rfl, q5, h6⟩ := inv_cons h5
  obtain ⟨f5, rfl, p5⟩ := inv_sl q5
  obtain ⟨x6, us7, rfl, q6, h7⟩ := inv_cons h6
  obtain ⟨f6, rfl, p6⟩ := inv_sl q6
  obtain rfl := inv_nil h7
  exact ⟨f0, f1, f2, f3, x4, f5, f6, rfl, p0, p1, p2, p3, p4, p5, p6⟩
theorem inv_Signature {u : U} (h : wt (.st 5) u) : ∃ (f0 : List UInt8) (f1 : List U) (f2 : U) (f3 : Bool) (f4 : List U) (f5 : U), u = .st [.s f0, .sl 3 f1, f2, .b f3, .sl 1 f4, f5] ∧ f0.length ≤ big ∧ (f1.length ≤ big ∧ ∀ x ∈ f1, wt (.st 1) x) ∧ wt (.st 1) f2 ∧ (f4.length ≤ big ∧ ∀ x ∈ f4, wt (.str) x) ∧ wt (.st 4) f5 := by
  obtain ⟨us0, rfl, h0⟩ := inv_st h
  obtain ⟨x0, us1, rfl, q0, h1⟩ := inv_cons h0
  obtain ⟨f0, rfl, p0⟩ := inv_str q0
  obtain ⟨x1, us2, rfl, q1, h2⟩ := inv_cons h1
  obtain ⟨f1, rfl, p1⟩ := inv_sl q1
  obtain ⟨x2, us3, rfl, q2, h3⟩ := inv_cons h2
  have p2 := q2
  obtain ⟨x3, us4, rfl, q3, h4⟩ := inv_cons h3
  obtain ⟨f3, rfl⟩ := inv_bool q3
  obtain ⟨x4, us5, rfl, q4, h5⟩ := inv_cons h4
  obtain ⟨f4, rfl, p4⟩ := inv_sl q4
  obtain ⟨x5, us6, rfl, q5, h6⟩ := inv_cons h5
  have p5 := q5
  obtain rfl := inv_nil h6
  exact ⟨f0, f1, x2, f3, f4, x5, rfl, p0, p1, p2, p4, p5⟩
theorem inv_Trait {u : U} (h : wt (.st 6) u) : ∃ (f0 : List UInt8) (f1 : List U) (f2 : Bool) (f3 : Bool) (f4 : List U), u = .st [.s f0, .sl 1 f1, .b f2, .b f3, .sl 16 f4] ∧ f0.length ≤ big ∧ (f1.length ≤ big ∧ ∀ x ∈ f1, wt (.str) x) ∧ (f4.length ≤ big ∧ ∀ x ∈ f4, wt (.st 5) x) := by
  obtain ⟨us0, rfl, h0⟩ := inv_st h
  obtain ⟨x0, us1, rfl, q0, h1⟩ := inv_cons h0
  obtain ⟨f0, rfl, p0⟩ := inv_str q0
  obtain ⟨x1, us2, rfl, q1, h2⟩ := inv_cons h1
  obtain ⟨f1, rfl, p1⟩ := inv_sl q1
  obtain ⟨x2, us3, rfl, q2, h3⟩ := inv_cons h2
  obtain ⟨f2, rfl⟩ := inv_bool q2
  obtain ⟨x3, us4, rfl, q3, h4⟩ := inv_cons h3
  obtain ⟨f3, rfl⟩ := inv_bool q3
  obtain ⟨x4, us5, rfl, q4, h5⟩ := inv_cons h4
  obtain ⟨f4, rfl, p4⟩ := inv_sl q4
  obtain rfl := inv_nil h5
  exact ⟨f0, f1, f2, f3, f4, rfl, p0, p1, p4⟩
theorem inv_Constructor {u : U} (h : wt (.st 7) u) : ∃ (f0 : List UInt8) (f1 : List U), u = .st [.s f0, .sl 3 f1] ∧ f0.length ≤ big ∧ (f1.length ≤ big ∧ ∀ x ∈ f1, wt (.st 1) x) := by
  obtain ⟨us0, rfl, h0⟩ := inv_st h
  obtain ⟨x0, us1, rfl, q0, h1⟩ := inv_cons h0
  obtain ⟨f0, rfl, p0⟩ := inv_str q0
  obtain ⟨x1, us2, rfl, q1, h2⟩ := inv_cons h1
  obtain ⟨f1, rfl, p1⟩ := inv_sl q1
  obtain rfl := inv_nil h2
  exact ⟨f0, f1, rfl, p0, p1⟩
theorem inv_DataType {u : U} (h : wt (.st 8) u) : ∃ (f0 : List UInt8) (f1 : List U) (f2 : List U), u = .st [.s f0, .sl 1 f1, .sl 2 f2] ∧ f0.length ≤ big ∧ (f1.length ≤ big ∧ ∀ x ∈ f1, wt (.str) x) ∧ (f2.length ≤ big ∧ ∀ x ∈ f2, wt (.st 7) x) := by
  obtain ⟨us0, rfl, h0⟩ := inv_st h
  obtain ⟨x0, us1, rfl, q0, h1⟩ := inv_cons h0
  obtain ⟨f0, rfl, p0⟩ := inv_str q0
  obtain ⟨x1, us2, rfl, q1, h2⟩ := inv_cons h1
  obtain ⟨f1, rfl, p1⟩ := inv_sl q1
  obtain ⟨x2, us3, rfl, q2, h3⟩ := inv_cons h2
  obtain ⟨f2, rfl, p2⟩ := inv_sl q2
  obtain rfl := inv_nil h3
  exact ⟨f0, f1, f2, rfl, p0, p1, p2⟩
theorem inv_Bound {u : U} (h : wt (.st 9) u) : ∃ (f0 : List UInt8) (f1 : U), u = .st [.s f0, f1] ∧ f0.length ≤ big ∧ wt (.st 1) f1 := by
  obtain ⟨us0, rfl, h0⟩ := inv_st h
  obtain ⟨x0, us1, rfl, q0, h1⟩ := inv_cons h0
  obtain ⟨f0, rfl, p0⟩ := inv_str q0
  obtain ⟨x1, us2, rfl, q1, h2⟩ := inv_cons h1
  have p1 := q1
  obtain rfl := inv_nil h2
  exact ⟨f0, x1, rfl, p0, p1⟩
theorem inv_Method {u : U} (h : wt (.st 10) u) : ∃ (f0 : List UInt8) (f1 : List U) (f2 : U), u = .st [.s f0, .sl 1 f1, f2] ∧ f0.length ≤ big ∧ (f1.length ≤ big ∧ ∀ x ∈ f1, wt (.str) x) ∧ wt (.st 4) f2 := by
  obtain ⟨us0, rfl, h0⟩ := inv_st h
  obtain ⟨x0, us1, rfl, q0, h1⟩ := inv_cons h0
  obtain ⟨f0, rfl, p0⟩ := inv_str q0
  obtain ⟨x1, us2, rfl, q1, h2⟩ := inv_cons h1
  obtain ⟨f1, rfl, p1⟩ := inv_sl q1
  obtain ⟨x2, us3, rfl, q2, h3⟩ := inv_cons h2
  have p2 := q2
  obtain rfl := inv_nil h3
  exact ⟨f0, f1, x2, rfl, p0, p1, p2⟩
theorem inv_Instance {u : U} (h : wt (.st 11) u) : ∃ (f0 : List UInt8) (f1 : List U) (f2 : U) (f3 : List U) (f4 : Bool) (f5 : Bool) (f6 : U) (f7 : List U), u = .st [.s f0, .sl 1 f1, f2, .sl 4 f3, .b f4, .b f5, f6, .sl 11 f7] ∧ f0.length ≤ big ∧ (f1.length ≤ big ∧ ∀ x ∈ f1, wt (.str) x) ∧ wt (.st 1) f2 ∧ (f3.length ≤ big ∧ ∀ x ∈ f3, wt (.st 9) x) ∧ wt (.st 1) f6 ∧ (f7.length ≤ big ∧ ∀ x ∈ f7, wt (.st 10) x) := by
  obtain ⟨us0, rfl, h0⟩ := inv_st h
  obtain ⟨x0, us1, rfl, q0, h1⟩ := inv_cons h0
  obtain ⟨f0, rfl, p0⟩ := inv_str q0
  obtain ⟨x1, us2, rfl, q1, h2⟩ := inv_cons h1
  obtain ⟨f1, rfl, p1⟩ := inv_sl q1
  obtain ⟨x2, us3, rfl, q2, h3⟩ := inv_cons h2
  have p2 := q2
  obtain ⟨x3, us4, rfl, q3, h4⟩ := inv_cons h3
  obtain ⟨f3, rfl, p3⟩ := inv_sl q3
  obtain ⟨x4, us5, rfl, q4, h5⟩ := inv_cons h4
  obtain ⟨f4, rfl⟩ := inv_bool q4
  obtain ⟨x5, us6, rfl, q5, h6⟩ := inv_cons h5
  obtain ⟨f5, rfl⟩ := inv_bool q5
  obtain ⟨x6, us7, rfl, q6, h7⟩ := inv_cons h6
  have p6 := q6
  obtain ⟨x7, us8, rfl, q7, h8⟩ := inv_cons h7
  obtain ⟨f7, rfl, p7⟩ := inv_sl q7
  obtain rfl := inv_nil h8
  exact ⟨f0, f1, x2, f3, f4, f5, x6, f7, rfl, p0, p1, p2, p3, p6, p7⟩
theorem inv_Param {u : U} (h : wt (.st 12) u) : ∃ (f0 : List UInt8) (f1 : U), u = .st [.s f0, f1] ∧ f0.length ≤ big ∧ wt (.st 1) f1 := by
  obtain ⟨us0, rfl, h0⟩ := inv_st h
  obtain ⟨x0, us1, rfl, q0, h1⟩ := inv_cons h0
  obtain ⟨f0, rfl, p0⟩ := inv_str q0
  obtain ⟨x1, us2, rfl, q1, h2⟩ := inv_cons h1
  have p1 := q1
  obtain rfl := inv_nil h2
  exact ⟨f0, x1, rfl, p0, p1⟩
theorem inv_Function {u : U} (h : wt (.st 13) u) : ∃ (f0 : List UInt8) (f1 : List U) (f2 : List U) (f3 : List U) (f4 : U) (f5 : U), u = .st [.s f0, .sl 1 f1, .sl 4 f2, .sl 4 f3, f4, f5] ∧ f0.length ≤ big ∧ (f1.length ≤ big ∧ ∀ x ∈ f1, wt (.str) x) ∧ (f2.length ≤ big ∧ ∀ x ∈ f2, wt (.st 9) x) ∧ (f3.length ≤ big ∧ ∀ x ∈ f3, wt (.st 12) x) ∧ wt (.st 1) f4 ∧ wt (.st 4) f5 := by
  obtain ⟨us0, rfl, h0⟩ := inv_st h
  obtain ⟨x0, us1, rfl, q0, h1⟩ := inv_cons h0
  obtain ⟨f0, rfl, p0⟩ := inv_str q0
  obtain ⟨x1, us2, rfl, q1, h2⟩ := inv_cons h1
  obtain ⟨f1, rfl, p1⟩ := inv_sl q1
  obtain ⟨x2, us3, rfl, q2, h3⟩ := inv_cons h2
  obtain ⟨f2, rfl, p2⟩ := inv_sl q2
  obtain ⟨x3, us4, rfl, q3, h4⟩ := inv_cons h3
  obtain ⟨f3, rfl, p3⟩ := inv_sl q3
  obtain ⟨x4, us5, rfl, q4, h5⟩ := inv_cons h4
  have p4 := q4
  obtain ⟨x5, us6, rfl, q5, h6⟩ := inv_cons h5
  have p5 := q5
  obtain rfl := inv_nil h6
  exact ⟨f0, f1, f2, f3, x4, x5, rfl, p0, p1, p2, p3, p4, p5⟩
theorem inv_Package {u : U} (h : wt (.st 14) u) : ∃ (f0 : List UInt8) (f1 : List U) (f2 : List U) (f3 : List U) (f4 : List U) (f5 : List U), u = .st [.s f0, .sl 1 f1, .sl 5 f2, .sl 3 f3, .sl 12 f4, .sl 16 f5] ∧ f0.length ≤ big ∧ (f1.length ≤ big ∧ ∀ x ∈ f1, wt (.str) x) ∧ (f2.length ≤ big ∧ ∀ x ∈ f2, wt (.st 6) x) ∧ (f3.length ≤ big ∧ ∀ x ∈ f3, wt (.st 8) x) ∧ (f4.length ≤ big ∧ ∀ x ∈ f4, wt (.st 11) x) ∧ (f5.length ≤ big ∧ ∀ x ∈ f5, wt (.st 13) x) := by
  obtain ⟨us0, rfl, h0⟩ := inv_st h
  obtain ⟨x0, us1, rfl, q0, h1⟩ := inv_cons h0
  obtain ⟨f0, rfl, p0⟩ := inv_str q0
  obtain ⟨x1, us2, rfl, q1, h2⟩ := inv_cons h1
  obtain ⟨f1, rfl, p1⟩ := inv_sl q1
  obtain ⟨x2, us3, rfl, q2, h3⟩ := inv_cons h2
  obtain ⟨f2, rfl, p2⟩ := inv_sl q2
  obtain ⟨x3, us4, rfl, q3, h4⟩ := inv_cons h3
  obtain ⟨f3, rfl, p3⟩ := inv_sl q3
  obtain ⟨x4, us5, rfl, q4, h5⟩ := inv_cons h4
  obtain ⟨f4, rfl, p4⟩ := inv_sl q4
  obtain ⟨x5, us6, rfl, q5, h6⟩ := inv_cons h5
  obtain ⟨f5, rfl, p5⟩ := inv_sl q5
  obtain rfl := inv_nil h6
  exact ⟨f0, f1, f2, f3, f4, f5, rfl, p0, p1, p2, p3, p4, p5⟩
theorem inv_Program {u : U} (h : wt (.st 15) u) : ∃ (f0 : List U), u = .st [.sl 6 f0] ∧ (f0.length ≤ big ∧ ∀ x ∈ f0, wt (.st 14) x) := by
  obtain ⟨us0, rfl, h0⟩ := inv_st h
  obtain ⟨x0, us1, rfl, q0, h1⟩ := inv_cons h0
  obtain ⟨f0, rfl, p0⟩ := inv_sl q0
  obtain rfl := inv_nil h1
  exact ⟨f0, rfl, p0⟩
theorem inv_InstanceRef {u : U} (h : wt (.st 16) u) : ∃ (f0 : Int) (f1 : Int), u = .st [.i .i64 f0, .i .i64 f1] ∧ inRange f0 ∧ inRange f1 := by
  obtain ⟨us0, rfl, h0⟩ := inv_st h
  obtain ⟨x0, us1, rfl, q0, h1⟩ := inv_cons h0
  obtain ⟨f0, rfl, p0⟩ := inv_int q0
  obtain ⟨x1, us2, rfl, q1, h2⟩ := inv_cons h1
  obtain ⟨f1, rfl, p1⟩ := inv_int q1
  obtain rfl := inv_nil h2
  exact ⟨f0, f1, rfl, p0, p1⟩
theorem inv_Evidence {u : U} (h : wt (.st 18) u) : ∃ (f0 : Int) (f1 : Int) (f2 : U) (f3 : List U), u = .st [.i .i64 f0, .i .i64 f1, f2, .sl 5 f3] ∧ inRange f0 ∧ inRange f1 ∧ wt (.st 16) f2 ∧ (f3.length ≤ big ∧ ∀ x ∈ f3, wt (.st 18) x) := by
  obtain ⟨us0, rfl, h0⟩ := inv_st h
  obtain ⟨x0, us1, rfl, q0, h1⟩ := inv_cons h0
  obtain ⟨f0, rfl, p0⟩ := inv_int q0
  obtain ⟨x1, us2, rfl, q1, h2⟩ := inv_cons h1
  obtain ⟨f1, rfl, p1⟩ := inv_int q1
  obtain ⟨x2, us3, rfl, q2, h3⟩ := inv_cons h2
  have p2 := q2
  obtain ⟨x3, us4, rfl, q3, h4⟩ := inv_cons h3
  obtain ⟨f3, rfl, p3⟩ := inv_sl q3
  obtain rfl := inv_nil h4
  exact ⟨f0, f1, x2, f3, rfl, p0, p1, p2, p3⟩
theorem inv_CoreArm {u : U} (h : wt (.st 20) u) : ∃ (f0 : List UInt8) (f1 : List U) (f2 : U), u = .st [.s f0, .sl 1 f1, f2] ∧ f0.length ≤ big ∧ (f1.length ≤ big ∧ ∀ x ∈ f1, wt (.str) x) ∧ wt (.st 21) f2 := by
  obtain ⟨us0, rfl, h0⟩ := inv_st h
  obtain ⟨x0, us1, rfl, q0, h1⟩ := inv_cons h0
  obtain ⟨f0, rfl, p0⟩ := inv_str q0
  obtain ⟨x1, us2, rfl, q1, h2⟩ := inv_cons h1
  obtain ⟨f1, rfl, p1⟩ := inv_sl q1
  obtain ⟨x2, us3, rfl, q2, h3⟩ := inv_cons h2
  have p2 := q2
  obtain rfl := inv_nil h3
  exact ⟨f0, f1, x2, rfl, p0, p1, p2⟩
theorem inv_Core {u : U} (h : wt (.st 21) u) : ∃ (f0 : Int) (f1 : List UInt8) (f2 : List UInt8) (f3 : Int) (f4 : U) (f5 : List U) (f6 : List U) (f7 : List U) (f8 : List U), u = .st [.i .i64 f0, .s f1, .s f2, .i .i64 f3, f4, .sl 3 f5, .sl 5 f6, .sl 11 f7, .sl 13 f8] ∧ inRange f0 ∧ f1.length ≤ big ∧ f2.length ≤ big ∧ inRange f3 ∧ wt (.st 1) f4 ∧ (f5.length ≤ big ∧ ∀ x ∈ f5, wt (.st 1) x) ∧ (f6.length ≤ big ∧ ∀ x ∈ f6, wt (.st 18) x) ∧ (f7.length ≤ big ∧ ∀ x ∈ f7, wt (.st 21) x) ∧ (f8.length ≤ big ∧ ∀ x ∈ f8, wt (.st 20) x) := by
  obtain ⟨us0, rfl, h0⟩ := inv_st h
  obtain ⟨x0, us1, rfl, q0, h1⟩ := inv_cons h0
  obtain ⟨f0, rfl, p0⟩ := inv_int q0
  obtain ⟨x1, us2, rfl, q1, h2⟩ := inv_cons h1
  obtain ⟨f1, rfl, p1⟩ := inv_str q1
  obtain ⟨x2, us3, rfl, q2, h3⟩ := inv_cons h2
  obtain ⟨f2, rfl, p2⟩ := inv_str q2
  obtain ⟨x3, us4, rfl, q3, h4⟩ := inv_cons h3
  obtain ⟨f3, rfl, p3⟩ := inv_int q3
  obtain ⟨x4, us5, rfl, q4, h5⟩ := inv_cons h4
  have p4 := q4
  obtain ⟨x5, us6, rfl, q5, h6⟩ := inv_cons h5
  obtain ⟨f5, rfl, p5⟩ := inv_sl q5
  obtain ⟨x6, us7, rfl, q6, h7⟩ := inv_cons h6
  obtain ⟨f6, rfl, p6⟩ := inv_sl q6
  obtain ⟨x7, us8, rfl, q7, h8⟩ := inv_cons h7
  obtain ⟨f7, rfl, p7⟩ := inv_sl q7
  obtain ⟨x8, us9, rfl, q8, h9⟩ := inv_cons h8
  obtain ⟨f8, rfl, p8⟩ := inv_sl q8
  obtain rfl := inv_nil h9
  exact ⟨f0, f1, f2, f3, x4, f5, f6, f7, f8, rfl, p0, p1, p2, p3, p4, p5, p6, p7, p8⟩
theorem inv_Unit {u : U} (h : wt (.st 25) u) : ∃ (f0 : Int) (f1 : Int) (f2 : Int) (f3 : Int) (f4 : List U) (f5 : List U) (f6 : List U) (f7 : U) (f8 : U), u = .st [.i .i64 f0, .i .i64 f1, .i .i64 f2, .i .i64 f3, .sl 1 f4, .sl 4 f5, .sl 4 f6, f7, f8] ∧ inRange f0 ∧ inRange f1 ∧ inRange f2 ∧ inRange f3 ∧ (f4.length ≤ big ∧ ∀ x ∈ f4, wt (.str) x) ∧ (f5.length ≤ big ∧ ∀ x ∈ f5, wt (.st 9) x) ∧ (f6.length ≤ big ∧ ∀ x ∈ f6, wt (.st 12) x) ∧ wt (.st 1) f7 ∧ wt (.st 21) f8 := by
  obtain ⟨us0, rfl, h0⟩ := inv_st h
  obtain ⟨x0, us1, rfl, q0, h1⟩ := inv_cons h0
  obtain ⟨f0, rfl, p0⟩ := inv_int q0
  obtain ⟨x1, us2, rfl, q1, h2⟩ := inv_cons h1
  obtain ⟨f1, rfl, p1⟩ := inv_int q1
  obtain ⟨x2, us3, rfl, q2, h3⟩ := inv_cons h2
  obtain ⟨f2, rfl, p2⟩ := inv_int q2
  obtain ⟨x3, us4, rfl, q3, h4⟩ := inv_cons h3
  obtain ⟨f3, rfl, p3⟩ := inv_int q3
  obtain ⟨x4, us5, rfl, q4, h5⟩ := inv_cons h4
  obtain ⟨f4, rfl, p4⟩ := inv_sl q4
  obtain ⟨x5, us6, rfl, q5, h6⟩ := inv_cons h5
  obtain ⟨f5, rfl, p5⟩ := inv_sl q5
  obtain ⟨x6, us7, rfl, q6, h7⟩ := inv_cons h6
  obtain ⟨f6, rfl, p6⟩ := inv_sl q6
  obtain ⟨x7, us8, rfl, q7, h8⟩ := inv_cons h7
  have p7 := q7
  obtain ⟨x8, us9, rfl, q8, h9⟩ := inv_cons h8
  have p8 := q8
  obtain rfl := inv_nil h9
  exact ⟨f0, f1, f2, f3, f4, f5, f6, x7, x8, rfl, p0, p1, p2, p3, p4, p5, p6, p7, p8⟩
theorem inv_Dictionary {u : U} (h : wt (.st 26) u) : ∃ (f0 : Int) (f1 : U) (f2 : List U) (f3 : List U), u = .st [.i .i64 f0, f1, .sl 1 f2, .sl 5 f3] ∧ inRange f0 ∧ wt (.st 16) f1 ∧ (f2.length ≤ big ∧ ∀ x ∈ f2, wt (.int) x) ∧ (f3.length ≤ big ∧ ∀ x ∈ f3, wt (.st 26) x) := by
  obtain ⟨us0, rfl, h0⟩ := inv_st h
  obtain ⟨x0, us1, rfl, q0, h1⟩ := inv_cons h0
  obtain ⟨f0, rfl, p0⟩ := inv_int q0
  obtain ⟨x1, us2, rfl, q1, h2⟩ := inv_cons h1
  have p1 := q1
  obtain ⟨x2, us3, rfl, q2, h3⟩ := inv_cons h2
  obtain ⟨f2, rfl, p2⟩ := inv_sl q2
  obtain ⟨x3, us4, rfl, q3, h4⟩ := inv_cons h3
  obtain ⟨f3, rfl, p3⟩ := inv_sl q3
  obtain rfl := inv_nil h4
  exact ⟨f0, x1, f2, f3, rfl, p0, p1, p2, p3⟩
end Go.Eng
