/- The engine, part 14: closures over read-only variables: making one; a call of a pure function that borrows the caller's boxes. -/
import Derived.Test.YtdofnoeiogjpjaaEng13
namespace Go.Eng
open Go Go.RowKit

inductive NfL (σ : St) : List Operand → List SV → Prop
  | nil : NfL σ [] []
  | cons {x : Operand} {l : List Operand} {sv : SV} {r : List SV} (h : Nf (σ.ev x) sv) (h2 : NfL σ l r) : NfL σ (x :: l) (sv :: r)
theorem NfL.eq {σ : St} {l : List Operand} {r : List SV} (h : NfL σ l r) : l.map σ.ev = r := by
  induction h with
  | nil => rfl
  | cons h _ ih => simp [h.eq, ih]

/-- A captured variable as the callee sees it. -/
def VB (L : List LO) : SV → SV → Prop
  | .ptr i off, .dp u => off = 0 ∧ ∃ cs, L[i]? = some (.box cs) ∧ VLs L cs u.flat
  | sv, sv' => sv = sv' ∧ sv.lt 0 = true
def VBs (L : List LO) : List SV → List SV → Prop
  | [], [] => True
  | a :: az, b :: bs => VB L a b ∧ VBs L az bs
  | _, _ => False
/-- An argument as the callee sees it. -/
def VC (L : List LO) : SV → SV → Prop
  | .fn f caps, .fn f' caps' => f = f' ∧ VBs L caps caps'
  | sv, .d u => VD L sv u
  | _, _ => False
def VCs (L : List LO) : List SV → List SV → Prop
  | [], [] => True
  | a :: az, b :: bs => VC L a b ∧ VCs L az bs
  | _, _ => False
def U.scal : U → Bool
  | .i _ _ | .b _ | .s _ => true
  | _ => false

section
variable {A : Amb} {S : Nat → Prop} {L : List LO} {env : List Value} {w : World}
/-- The blocks of the boxes. -/
def boxes (L : List LO) (env : List Value) (b : Nat) : Prop := ∃ (i : Nat) (cs : List SV) (hv : Value), L[i]? = some (.box cs) ∧ env[i]? = some hv ∧ blk hv = some b
theorem SVr.more {S1 : Nat → Prop} (hS : ∀ b, S b → S1 b) {sv : SV} {v : Value} (h : SVr S L env w sv v) : SVr S1 L env w sv v :=
  SVr.carry ⟨fun b hb _ => hS b hb, fun _ _ _ => rfl, fun _ _ h => h, fun _ _ _ h1 h2 => ⟨_, _, h1, h2, Nat.le_refl _, fun _ => rfl⟩⟩ _ _ h
theorem VB.r (hH : HeapR A S L env w) {sv sv' : SV} {v : Value} (h : VB L sv sv') (hv : SVr S L env w sv v) : SVr (fun b => S b ∨ boxes L env b) [] [] w sv' v := by
  have bare : sv = sv' → sv.lt 0 = true → SVr (fun b => S b ∨ boxes L env b) [] [] w sv' v := by
    rintro rfl h2
    exact SVr.bare _ _ h2 (SVr.more (fun b hb => .inl hb) hv) _ _
  cases sv with
  | ptr i off =>
    cases sv' with
    | dp u =>
      obtain ⟨rfl, cs, h1, h2⟩ := h
      simp only [SVr] at hv ⊢
      obtain ⟨b, h3, rfl⟩ := hv
      obtain ⟨b', vals, e, h4, h5, h6, _⟩ := hH.objs i _ _ h1 h3
      injection h4 with h4
      injection h4 with h4
      injection h4 with h4
      subst h4
      have h7 := VLs.r hH (U.flat_leaf u) h2 h6
      refine ⟨b, 0, vals.toList, rfl, .inr ⟨i, cs, _, h1, h3, rfl⟩, ⟨vals, e, _, h5, ?_⟩, ?_⟩
      · intro j hj
        simp
      · exact (Rd.of_leafs u _ h7).mono (fun b hb _ => .inl hb) (fun _ _ _ => rfl)
    | _ => exact bare h.1 h.2
  | _ => cases sv' <;> exact bare h.1 h.2
theorem VBs.r (hH : HeapR A S L env w) : ∀ {svs svs' : List SV} {vs : List Value}, VBs L svs svs' → SVrs S L env w svs vs → SVrs (fun b => S b ∨ boxes L env b) [] [] w svs' vs
  | [], [], [], _, _ => by simp [SVrs]
  | sv :: svs, sv' :: svs', v :: vs, h, hv => by
    simp only [SVrs] at hv ⊢
    exact ⟨VB.r hH h.1 hv.1, VBs.r hH h.2 hv.2⟩
  | [], _ :: _, _, h, _ => h.elim
  | _ :: _, [], _, h, _ => h.elim
  | [], [], _ :: _, _, h => by simp [SVrs] at h
  | _ :: _, _ :: _, [], _, h => by simp [SVrs] at h
theorem VC.r (hH : HeapR A S L env w) {sv sv' : SV} {v : Value} (h : VC L sv sv') (hv : SVr S L env w sv v) : SVr (fun b => S b ∨ boxes L env b) [] [] w sv' v := by
  cases sv' with
  | d u =>
    have := VD.r hH (show VD L sv u by cases sv <;> exact h) hv
    exact SVr.bare _ _ rfl (SVr.more (fun b hb => .inl hb) this) _ _
  | fn f' caps' =>
    cases sv with
    | fn f caps =>
      obtain ⟨rfl, h3⟩ := h
      simp only [SVr] at hv ⊢
      obtain ⟨vs, rfl, h4⟩ := hv
      exact ⟨vs, rfl, VBs.r hH h3 h4⟩
    | _ => exact h.elim
  | _ => cases sv <;> exact h.elim
theorem VCs.r (hH : HeapR A S L env w) : ∀ {svs svs' : List SV} {vs : List Value}, VCs L svs svs' → SVrs S L env w svs vs → SVrs (fun b => S b ∨ boxes L env b) [] [] w svs' vs
  | [], [], [], _, _ => by simp [SVrs]
  | sv :: svs, sv' :: svs', v :: vs, h, hv => by
    simp only [SVrs] at hv ⊢
    exact ⟨VC.r hH h.1 hv.1, VCs.r hH h.2 hv.2⟩
  | [], _ :: _, _, h, _ => h.elim
  | _ :: _, [], _, h, _ => h.elim
  | [], [], _ :: _, _, h => by simp [SVrs] at h
  | _ :: _, _ :: _, [], _, h => by simp [SVrs] at h
end

section
variable {P : Program} {A : Amb} {σ : St} {K : St → Prop}
variable {dst : Option Nat} {ty : TypeId} {pos : String} {af : Array Edge} {g : Option (Nat × Bool)} {x y : Operand} {sv : SV}
theorem SVrs.evals {S : Nat → Prop} {env : List Value} {w : World} {a : Act} : ∀ (l : List Operand), (∀ x ∈ l, SVr S σ.L env w (σ.ev x) (a.eval x)) → SVrs S σ.L env w (l.map σ.ev) (l.map a.eval)
  | [], _ => by simp [SVrs]
  | x :: l, h => by
    simp only [List.map_cons, SVrs]
    exact ⟨h x (by simp), SVrs.evals l fun y hy => h y (by simp [hy])⟩
/-- A closure is made. -/
theorem Q_mkfn {f : Nat} {cs : Array Operand} {svs : List SV} (h : NfL σ cs.toList svs) : Quiet P A σ ⟨dst, .makeFunc (.func f) #[] cs, ty, pos, af, g⟩ (.fn f svs) := Quiet.pure fun S env a w hH ho => by
  refine ⟨.func (.func f) #[] (cs.toList.map a.eval).toArray, ?_, ?_⟩
  · have : cs.map a.eval = (cs.toList.map a.eval).toArray := by apply Array.ext'; simp
    simp [execOp, Instr.makeFunc, this]
  rw [← h.eq]
  simp only [SVr]
  exact ⟨_, rfl, SVrs.evals _ fun x hx => ho x (by simpa [Op.operands] using hx)⟩
/-- A call of a pure function that may read the caller's boxes through closures; its result is a scalar. -/
theorem Q_callb {f : Operand} {fi : Nat} {caps : List SV} {args : Array Operand} {at_ : Array TypeId} {dargs : List SV} {u : U} (hf : σ.ev f = .fn fi caps)
    (hspec : SpecP P fi dargs [u]) (hu : u.scal = true) (hargs : VCs σ.L (args.toList.map σ.ev) dargs) (hc : caps = []) :
    Quiet P A σ ⟨dst, .call { callee := .value f, args := args, argTypes := at_ }, ty, pos, af, g⟩ (.d u) := by
  subst hc
  intro S env a w hH hx next R hn
  have h1 := hx f (by simp [Op.operands, Call.operands])
  rw [hf] at h1
  simp only [SVr] at h1
  obtain ⟨cvs, h1, h2⟩ := h1
  have h2' : cvs = [] := by cases cvs with
    | nil => rfl
    | cons _ _ => simp [SVrs] at h2
  subst h2'
  have h3 : SVrs S σ.L env w (args.toList.map σ.ev) (args.toList.map a.eval) := SVrs.evals _ fun x hx' => hx x (by simp [Op.operands, Call.operands]; exact .inr (by simpa using hx'))
  have h5 := VCs.r hH hargs h3
  obtain ⟨⟨fn, c1, c2, c3⟩, hs⟩ := hspec
  have hrun : (execOp a.eval ⟨dst, .call { callee := .value f, args := args, argTypes := at_ }, ty, pos, af, g⟩).run P w = .ok (.enter fi (args.toList.map a.eval).toArray) w := by
    have harr : args.map a.eval ++ ([] : List Value).toArray = (args.toList.map a.eval).toArray := by apply Array.ext'; simp
    simp only [execOp, resolve, h1, Deferred.ofValue, Sem.run_bind, Sem.run_pure, Result.andThen_ok, invoke, callFunc, run_program, c1, c2, c3, Bool.false_eq_true, if_false, Array.empty_append, harr]
  unfold Oper.wp
  rw [hrun]
  simp only [Oper.upon]
  refine (hs ⟨w, fun b => S b ∨ boxes σ.L env b, fun _ => False, [], []⟩ (fun b => S b ∨ boxes σ.L env b) [] w _ rfl rfl rfl rfl ⟨rfl, fun i o hv h => by simp at h, fun i o hv b h => by simp at h, fun i j o o' hv hv' b h => by simp at h, ?_, fun b hb => .inl hb, fun _ _ _ => rfl, Nat.le_refl _, rfl, rfl, rfl, Base.nil rfl, hH.gok (fun _ h => h.elim)⟩ h5).mono ?_
  · rintro b (hb | ⟨i, cs, hv, k1, k2, k3⟩)
    · exact hH.sS b hb
    · exact (hH.excl i _ hv b k1 rfl k2 k3).2.2
  rintro e w' ⟨r, sv, S', L', env', rfl, ⟨rfl, rfl⟩, hH', hr⟩
  have hold : ∀ b, b < w.heap.size → w'.heap[b]? = w.heap[b]? := fun b hb => hH'.frame b hb (fun h => h)
  have C : Carry S σ.L env w S σ.L env w' := ⟨fun b h _ => h, fun b _ hb => hold b hb, fun _ _ h => h, fun _ _ _ h1 h2 => ⟨_, _, h1, h2, Nat.le_refl _, fun _ => rfl⟩⟩
  have hfe : ∀ (i : Nat) (o' : LO) (hv' : Value), σ.L[i]? = some o' → o'.live = true → env[i]? = some hv' → ∀ b, o'.ft w' hv' b → o'.ft w hv' b := fun i o' hv' h1 hl h2 b hb' =>
    (LO.ft_eq (hH.objs i o' hv' h1 h2) (fun k hk => hold k (hH.excl i o' hv' k h1 hl h2 hk).2.2) b).1 hb'
  refine hn r w' S ⟨hH.len, ?_, ?_, fun i j o o' hv hv' b k1 k2 l1 l2 m1 m2 n1 n2 => hH.dist i j o o' hv hv' b k1 k2 l1 l2 m1 m2 (hfe i o hv k1 l1 m1 b n1) (hfe j o' hv' k2 l2 m2 b n2), ?_, hH.sA, ?_, Nat.le_trans hH.size hH'.size, hH'.os.trans hH.os, hH'.tape.trans hH.tape, hH'.output.trans hH.output, hH.base, hH.glob⟩ C ?_
  · intro i o hv k1 k2
    exact ObjR.carry C (fun b hl hb => hold b (hH.excl i o hv b k1 hl k2 hb).2.2) (hH.objs i o hv k1 k2)
  · intro i o hv b k1 hl k2 hb
    have := hH.excl i o hv b k1 hl k2 (hfe i o hv k1 hl k2 b hb)
    exact ⟨this.1, this.2.1, Nat.lt_of_lt_of_le this.2.2 hH'.size⟩
  · intro b hb
    exact Nat.lt_of_lt_of_le (hH.sS b hb) hH'.size
  · intro b h1 h2
    rw [hold b (Nat.lt_of_lt_of_le h1 hH.size)]
    exact hH.frame b h1 h2
  · have hr' : SVr S' [] env' w' (.d u) r := hr
    have hst : u.isSt = false := by cases u <;> simp_all [U.scal, U.isSt]
    rw [SVr.leaf hst] at hr' ⊢
    cases u <;> simp_all [Rd, U.scal]
/-- A call of a pure function through a closure: what is captured goes over as it is. -/
theorem Q_callc {f : Operand} {fi : Nat} {caps : List SV} {args : Array Operand} {at_ : Array TypeId} {dargs : List SV} {us : List U} (hf : σ.ev f = .fn fi caps)
    (hspec : SpecP P fi (dargs ++ caps) us) (hargs : VAs σ.L (args.toList.map σ.ev) dargs) (hc : SV.lts 0 caps = true) :
    Quiet P A σ ⟨dst, .call { callee := .value f, args := args, argTypes := at_ }, ty, pos, af, g⟩ (mkR us) := by
  intro S env a w hH hx next R hn
  have h1 := hx f (by simp [Op.operands, Call.operands])
  rw [hf] at h1
  simp only [SVr] at h1
  obtain ⟨cvs, h1, h2⟩ := h1
  have h3 : SVrs S σ.L env w (args.toList.map σ.ev) (args.toList.map a.eval) := by
    rw [SVrs.iff]
    have : ∀ (l : List Operand), (∀ x ∈ l, SVr S σ.L env w (σ.ev x) (a.eval x)) → All2 (SVr S σ.L env w) (l.map σ.ev) (l.map a.eval) := by
      intro l
      induction l with
      | nil => intro _; trivial
      | cons x l ih => intro h; exact ⟨h x (by simp), ih (fun y hy => h y (by simp [hy]))⟩
    exact this _ (fun x hx' => hx x (by simp [Op.operands, Call.operands]; exact .inr (by simpa using hx')))
  have _h4 : SVrs S σ.L env w (args.toList.map σ.ev ++ caps) (args.toList.map a.eval ++ cvs) := by
    have h2' := h2
    have h3' := h3
    rw [SVrs.iff] at h2' h3' ⊢
    exact All2.append h3' h2'
  have h5 : SVrs S [] [] w (dargs ++ caps) (args.toList.map a.eval ++ cvs) := by
    have k1 := VAs.r hH hargs h3
    have k2 := SVrs.bare _ _ hc h2 [] []
    rw [SVrs.iff] at k1 k2 ⊢
    exact All2.append k1 k2
  obtain ⟨⟨fn, c1, c2, c3⟩, hs⟩ := hspec
  have hrun : (execOp a.eval ⟨dst, .call { callee := .value f, args := args, argTypes := at_ }, ty, pos, af, g⟩).run P w = .ok (.enter fi (args.toList.map a.eval ++ cvs).toArray) w := by
    have harr : args.map a.eval ++ cvs.toArray = (args.toList.map a.eval ++ cvs).toArray := by apply Array.ext'; simp
    simp only [execOp, resolve, h1, Deferred.ofValue, Sem.run_bind, Sem.run_pure, Result.andThen_ok, invoke, callFunc, run_program, c1, c2, c3, Bool.false_eq_true, if_false, Array.empty_append, harr]
  unfold Oper.wp
  rw [hrun]
  simp only [Oper.upon]
  refine (hs ⟨w, S, fun _ => False, [], []⟩ S [] w _ rfl rfl rfl rfl (HeapR.enter A S hH) h5).mono ?_
  rintro e w' ⟨r, sv, S', L', env', rfl, ⟨rfl, rfl⟩, hH', hr⟩
  have hold : ∀ b, b < w.heap.size → w'.heap[b]? = w.heap[b]? := fun b hb => hH'.frame b hb (fun h => h)
  have C : Carry S σ.L env w (fun b => S b ∨ S' b) σ.L env w' := ⟨fun b h _ => .inl h, fun b _ hb => hold b hb, fun _ _ h => h, fun _ _ _ h1 h2 => ⟨_, _, h1, h2, Nat.le_refl _, fun _ => rfl⟩⟩
  have hS' : ∀ b, S' b → S b ∨ w.heap.size ≤ b := fun b hb => by
    rcases hH'.sA b hb with h | h | h
    · exact .inl h
    · exact h.elim
    · exact .inr h
  have hfe : ∀ (i : Nat) (o' : LO) (hv' : Value), σ.L[i]? = some o' → o'.live = true → env[i]? = some hv' → ∀ b, o'.ft w' hv' b → o'.ft w hv' b := fun i o' hv' h1 hl h2 b hb' =>
    (LO.ft_eq (hH.objs i o' hv' h1 h2) (fun k hk => hold k (hH.excl i o' hv' k h1 hl h2 hk).2.2) b).1 hb'
  refine hn r w' (fun b => S b ∨ S' b) ⟨hH.len, ?_, ?_, fun i j o o' hv hv' b k1 k2 l1 l2 m1 m2 n1 n2 => hH.dist i j o o' hv hv' b k1 k2 l1 l2 m1 m2 (hfe i o hv k1 l1 m1 b n1) (hfe j o' hv' k2 l2 m2 b n2), ?_, ?_, ?_, Nat.le_trans hH.size hH'.size, hH'.os.trans hH.os, hH'.tape.trans hH.tape, hH'.output.trans hH.output, hH.base, hH.glob⟩ C ?_
  · intro i o hv k1 k2
    exact ObjR.carry C (fun b hl hb => hold b (hH.excl i o hv b k1 hl k2 hb).2.2) (hH.objs i o hv k1 k2)
  · intro i o hv b k1 hl k2 hb
    have := hH.excl i o hv b k1 hl k2 (hfe i o hv k1 hl k2 b hb)
    refine ⟨fun hs => hs.elim this.1 (fun hs => ?_), this.2.1, Nat.lt_of_lt_of_le this.2.2 hH'.size⟩
    rcases hS' b hs with h | h
    · exact this.1 h
    · omega
  · intro b hb
    rcases hb with hb | hb
    · exact Nat.lt_of_lt_of_le (hH.sS b hb) hH'.size
    · exact hH'.sS b hb
  · intro b hb
    rcases hb with hb | hb
    · exact hH.sA b hb
    · rcases hS' b hb with h | h
      · exact hH.sA b h
      · exact .inr (.inr (Nat.le_trans hH.size h))
  · intro b h1 h2
    rw [hold b (Nat.lt_of_lt_of_le h1 hH.size)]
    exact hH.frame b h1 h2
  · have C2 : Carry S' [] env' w' (fun b => S b ∨ S' b) [] env' w' := ⟨fun b h _ => .inr h, fun _ _ _ => rfl, fun _ _ h => h, fun _ _ _ h1 h2 => ⟨_, _, h1, h2, Nat.le_refl _, fun _ => rfl⟩⟩
    exact SVr.bare _ _ (mkR_lt us) (SVr.carry C2 _ _ hr) _ _

end

/-- The first index at which p holds, or -1. -/
def fidx (p : U → Bool) (us : List U) : Int := match us.findIdx? p with
  | some i => i
  | none => -1
theorem fidx_hit {p : U → Bool} {us : List U} {k : Nat} {a : U} (h : us[k]? = some a) (hp : p a = true) (hb : ∀ j b, j < k → us[j]? = some b → p b = false) : fidx p us = k := by
  obtain ⟨hk, rfl⟩ := List.getElem?_eq_some_iff.1 h
  have : us.findIdx? p = some k := by
    rw [List.findIdx?_eq_some_iff_getElem]
    refine ⟨hk, hp, fun j hj => ?_⟩
    rw [hb j us[j] hj (List.getElem?_eq_getElem (by omega))]
    simp
  unfold fidx
  rw [this]
theorem fidx_none {p : U → Bool} {us : List U} (hb : ∀ j b, j < us.length → us[j]? = some b → p b = false) : fidx p us = -1 := by
  have : us.findIdx? p = none := by
    rw [List.findIdx?_eq_none_iff]
    intro x hx
    obtain ⟨j, hj, rfl⟩ := List.getElem_of_mem hx
    exact hb j _ hj (List.getElem?_eq_getElem hj)
  unfold fidx
  rw [this]
end Go.Eng
