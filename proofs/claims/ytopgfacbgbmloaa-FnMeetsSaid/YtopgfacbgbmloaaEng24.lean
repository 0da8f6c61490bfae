/- The engine, part 24: functions that turn what they are handed: their contract, entering one, calling one. -/
import Derived.Test.YtopgfacbgbmloaaEng23
namespace Go.Eng
open Go Go.RowKit

structure MPost (w w' : World) (u u' : U) (cs : List Value) : Prop where
  tr : Tr w' u' cs
  nd : (u'.fp w' cs).Nodup
  sub : ∀ b ∈ u'.fp w' cs, b < w'.heap.size ∧ (b ∈ u.fp w cs ∨ w.heap.size ≤ b)
  fr : ∀ b, b < w.heap.size → b ∉ u.fp w cs → w'.heap[b]? = w.heap[b]?
  size : w.heap.size ≤ w'.heap.size
  os : w'.os = w.os
  tape : w'.tape = w.tape
  output : w'.output = w.output
  ty : ∀ (j e z : Nat) (us : List U) (c : Value), u.flat[j]? = some (.sl z us) → cs[j]? = some c → (∃ xs, w.ownsRow 0 e z c us.length xs) → ∃ us' xs', u'.flat[j]? = some (.sl z us') ∧ us'.length ≤ big ∧ (∀ x ∈ us', x.sz = z) ∧ w'.ownsRow 0 e z c us'.length xs' ∧ Trs w' us' xs'
/-- Handed u and kk, the function turns u into u' in place and yields kk'. -/
def MSpec (P : Program) (f : Nat) (u : U) (kk : Int) (u' : U) (kk' : Int) : Prop :=
  CallOk P f ∧ ∀ (w : World) (v : Value) (cs : List Value), v = val u cs → Tr w u cs → (u.fp w cs).Nodup → Gok (fun b => b ∈ u.fp w cs) w →
    Calls P f #[v, .int .i64 kk] w (fun e w' => e = .returned (.int .i64 kk') ∧ MPost w w' u u' cs)

def tyOf (w : World) : Value → Nat
  | .slice (some a) _ _ => match w.heap[a.block]? with
    | some (.cells _ e _) => e
    | _ => 0
  | _ => 0
theorem tyOf_own {w : World} {e z n : Nat} {c : Value} {xs : List Value} (h : w.ownsRow 0 e z c n xs) : w.ownsRow 0 (tyOf w c) z c n xs ∧ (c = .slice none 0 0 ∨ e = tyOf w c) := by
  rcases h.2 with ⟨rfl, h0⟩ | ⟨g, cap, cur, rfl, _, hg, r⟩
  · exact ⟨⟨h.1, .inl ⟨rfl, h0⟩⟩, .inl rfl⟩
  · have : tyOf w (.slice (some ⟨g, 0, none⟩) n cap) = e := by simp [tyOf, hg]
    rw [this]
    exact ⟨h, .inr rfl⟩
/-- The leaves of what a function is handed to turn. -/
inductive MX (hv : Nat → Value) (e : Nat → Nat) : Nat → List U → List SV → List LO → Prop
  | nil {b : Nat} : MX hv e b [] [] []
  | sl {b z : Nat} {us r : List U} {cs : List SV} {ls : List LO} (h : MX hv e (b + 1) r cs ls) : MX hv e b (.sl z us :: r) (.sl b 0 :: cs) (.ownp (hv b) (e b) z us :: ls)
  | i {b : Nat} {k : IntKind} {n : Int} {r : List U} {cs : List SV} {ls : List LO} (h : MX hv e b r cs ls) : MX hv e b (.i k n :: r) (.d (.i k n) :: cs) ls
  | b {b : Nat} {x : Bool} {r : List U} {cs : List SV} {ls : List LO} (h : MX hv e b r cs ls) : MX hv e b (.b x :: r) (.d (.b x) :: cs) ls
  | s {b : Nat} {l : List UInt8} {r : List U} {cs : List SV} {ls : List LO} (h : MX hv e b r cs ls) : MX hv e b (.s l :: r) (.d (.s l) :: cs) ls
inductive MA (hv : Nat → Value) (e : Nat → Nat) : U → SV → List LO → Prop
  | st {us fl : List U} {cs : List SV} {ls : List LO} (hl : Lvs us fl) (h : MX hv e 0 fl cs ls) : MA hv e (.st us) (.ag cs) ls
  | sl {z : Nat} {us : List U} : MA hv e (.sl z us) (.sl 0 0) [.ownp (hv 0) (e 0) z us]
/-- The headers among the cells. -/
def slc : List U → List Value → List Value
  | .sl _ _ :: r, v :: vs => v :: slc r vs
  | _ :: r, _ :: vs => slc r vs
  | _, _ => []

mutual
theorem Tr.leafs {w : World} : ∀ (u : U) (cs : List Value), Tr w u cs → All2 (fun u c => Tr w u [c]) u.flat cs
  | .i k n, cs, h => by simp only [Tr] at h; subst h; simp [U.flat, All2, Tr]
  | .b x, cs, h => by simp only [Tr] at h; subst h; simp [U.flat, All2, Tr]
  | .s l, cs, h => by have h' := h; simp only [Tr] at h; obtain ⟨_, rfl⟩ := h; simp only [U.flat, All2, and_true]; exact h'
  | .sl z us, cs, h => by
    have h' := h
    simp only [Tr] at h
    obtain ⟨_, _, hv, e, xs, rfl, _⟩ := h
    simp only [U.flat, All2, and_true]
    exact h'
  | .st us, cs, h => by simp only [Tr] at h; simp only [U.flat]; exact Trs.leafs us cs h
theorem Trs.leafs {w : World} : ∀ (us : List U) (cs : List Value), Trs w us cs → All2 (fun u c => Tr w u [c]) (U.flats us) cs
  | [], cs, h => by simp only [Trs] at h; subst h; simp [U.flats, All2]
  | u :: us, cs, h => by
    simp only [Trs] at h
    simp only [U.flats]
    rw [← List.take_append_drop u.sz cs]
    exact All2.append (Tr.leafs u _ h.1) (Trs.leafs us _ h.2)
end

section
variable {hv : Nat → Value} {e : Nat → Nat} {w : World}
theorem MX.enter {b : Nat} {fl : List U} {cs : List SV} {ls : List LO} (h : MX hv e b fl cs ls) : ∀ (vs : List Value), All2 (fun u c => Tr w u [c]) fl vs → (fpl w fl vs).Nodup → (∀ (j : Nat) (c : Value), (slc fl vs)[j]? = some c → hv (b + j) = c) → (∀ (j : Nat), e (b + j) = tyOf w (hv (b + j))) →
    (slc fl vs).length = ls.length ∧
    (∀ (j : Nat) (o : LO) (c : Value), ls[j]? = some o → (slc fl vs)[j]? = some c → (∀ S L env, ObjR S L env w o c) ∧ o.live = true ∧ ∀ k, o.ft w c k → k ∈ fpl w fl vs) ∧
    (∀ (j j' : Nat) (o o' : LO) (c c' : Value) (k : Nat), ls[j]? = some o → ls[j']? = some o' → (slc fl vs)[j]? = some c → (slc fl vs)[j']? = some c' → o.ft w c k → o'.ft w c' k → j = j') ∧
    (∀ (S : Nat → Prop) (Lp : List LO) (ep : List Value), Lp.length = b → ep.length = b → SVrs S (Lp ++ ls) (ep ++ slc fl vs) w cs vs) := by
  induction h with
  | nil =>
    intro vs ha _ _ _
    cases vs with
    | nil => exact ⟨rfl, fun j o c h => by simp at h, fun j j' o o' c c' k h => by simp at h, fun _ _ _ _ _ => by simp [SVrs]⟩
    | cons _ _ => exact ha.elim
  | @sl b z us r cs ls h ih =>
    intro vs ha hn hh he
    cases vs with
    | nil => exact ha.elim
    | cons v vs =>
      simp only [fpl] at hn
      obtain ⟨n1, n2, n3⟩ := List.nodup_append.1 hn
      have h0 := hh 0 v rfl
      have e0 := he 0
      simp only [Nat.add_zero] at h0 e0
      obtain ⟨i1, i2, i3, i4⟩ := ih vs ha.2 n2 (fun j c hj => by have := hh (j + 1) c (by simpa [slc] using hj); rwa [← Nat.add_assoc, Nat.add_right_comm] at this) (fun j => by have := he (j + 1); rwa [← Nat.add_assoc, Nat.add_right_comm] at this)
      have ht := ha.1
      simp only [Tr] at ht
      obtain ⟨t1, t2, hv', e', xs, heq, t3, t4⟩ := ht
      simp only [List.cons.injEq, and_true] at heq
      subst heq
      have hob : ∀ S L env, ObjR S L env w (.ownp (hv b) (e b) z us) v := fun S L env => ⟨h0.symm, t1, t2, ⟨xs, by rw [e0, h0]; exact (tyOf_own t3).1, t4⟩, n1⟩
      refine ⟨by simp [slc, i1], ?_, ?_, ?_⟩
      · intro j o c hj hc
        cases j with
        | zero =>
          simp [slc] at hj hc; subst hj; subst hc
          exact ⟨hob, rfl, fun k hk => by simp only [fpl, List.mem_append]; exact .inl hk⟩
        | succ j =>
          simp only [slc, List.getElem?_cons_succ] at hj hc
          obtain ⟨q1, q2, q3⟩ := i2 j o c hj hc
          exact ⟨q1, q2, fun k hk => by simp only [fpl, List.mem_append]; exact .inr (q3 k hk)⟩
      · intro j j' o o' c c' k hj hj' hc hc' hk hk'
        cases j with
        | zero =>
          cases j' with
          | zero => rfl
          | succ j' =>
            simp [slc] at hj hc; subst hj; subst hc
            simp only [slc, List.getElem?_cons_succ] at hj' hc'
            exact (n3 k hk k ((i2 j' o' c' hj' hc').2.2 k hk') rfl).elim
        | succ j =>
          cases j' with
          | zero =>
            simp [slc] at hj' hc'; subst hj'; subst hc'
            simp only [slc, List.getElem?_cons_succ] at hj hc
            exact (n3 k hk' k ((i2 j o c hj hc).2.2 k hk) rfl).elim
          | succ j' =>
            simp only [slc, List.getElem?_cons_succ] at hj hc hj' hc'
            rw [i3 j j' o o' c c' k hj hj' hc hc' hk hk']
      · intro S Lp ep hl1 hl2
        simp only [SVrs, slc]
        refine ⟨?_, ?_⟩
        · simp only [SVr]
          refine ⟨v, .ownp (hv b) (e b) z us, by rw [List.getElem?_append_right (by omega), hl2]; simp, by rw [List.getElem?_append_right (by omega), hl1]; simp, Nat.le_refl _, ?_, fun _ => rfl⟩
          rcases t3.2 with ⟨h, _⟩ | ⟨g, cap, cur, h, _⟩ <;> rw [h] <;> rfl
        · have := i4 S (Lp ++ [.ownp (hv b) (e b) z us]) (ep ++ [v]) (by simp [hl1]) (by simp [hl2])
          simpa using this
  | i h ih =>
    intro vs ha hn hh he
    cases vs with
    | nil => exact ha.elim
    | cons v vs =>
      have ht := ha.1
      simp only [Tr, List.cons.injEq, and_true] at ht
      subst ht
      simp only [fpl, U.fp, List.nil_append] at hn ⊢
      obtain ⟨i1, i2, i3, i4⟩ := ih vs ha.2 hn (fun j c hj => hh j c (by simpa [slc] using hj)) he
      exact ⟨by simpa [slc] using i1, by simpa [slc] using i2, by simpa [slc] using i3, fun S Lp ep hl1 hl2 => by simp only [SVrs, slc]; exact ⟨SVr.int.2 rfl, i4 S Lp ep hl1 hl2⟩⟩
  | b h ih =>
    intro vs ha hn hh he
    cases vs with
    | nil => exact ha.elim
    | cons v vs =>
      have ht := ha.1
      simp only [Tr, List.cons.injEq, and_true] at ht
      subst ht
      simp only [fpl, U.fp, List.nil_append] at hn ⊢
      obtain ⟨i1, i2, i3, i4⟩ := ih vs ha.2 hn (fun j c hj => hh j c (by simpa [slc] using hj)) he
      exact ⟨by simpa [slc] using i1, by simpa [slc] using i2, by simpa [slc] using i3, fun S Lp ep hl1 hl2 => by simp only [SVrs, slc]; exact ⟨SVr.bool.2 rfl, i4 S Lp ep hl1 hl2⟩⟩
  | s h ih =>
    intro vs ha hn hh he
    cases vs with
    | nil => exact ha.elim
    | cons v vs =>
      have ht := ha.1
      simp only [Tr, List.cons.injEq, and_true] at ht
      obtain ⟨hb, rfl⟩ := ht
      simp only [fpl, U.fp, List.nil_append] at hn ⊢
      obtain ⟨i1, i2, i3, i4⟩ := ih vs ha.2 hn (fun j c hj => hh j c (by simpa [slc] using hj)) he
      exact ⟨by simpa [slc] using i1, by simpa [slc] using i2, by simpa [slc] using i3, fun S Lp ep hl1 hl2 => by simp only [SVrs, slc]; exact ⟨SVr.str.2 ⟨hb, rfl⟩, i4 S Lp ep hl1 hl2⟩⟩

def U.zz : U → Nat
  | .sl z _ => z
  | _ => 0
/-- What is there at the end. -/
theorem MX.leave {w0 : World} {S0 : Nat → Prop} {L0 : List LO} {env0 : List Value} {cs : List SV} {b : Nat} {fl' : List U} {ls' : List LO} (h : MX hv e b fl' cs ls') : ∀ {fl : List U} {ls : List LO}, MX hv e b fl cs ls → fl.map U.zz = fl'.map U.zz → ∀ (vs : List Value), SVrs S0 L0 env0 w0 cs vs → (∀ (j : Nat) (c : Value), (slc fl vs)[j]? = some c → hv (b + j) = c) →
    (∀ (j : Nat) (o : LO), ls'[j]? = some o → ∃ S L env, ObjR S L env w o (hv (b + j))) → (∀ (j j' : Nat) (o o' : LO) (k : Nat), ls'[j]? = some o → ls'[j']? = some o' → o.ft w (hv (b + j)) k → o'.ft w (hv (b + j')) k → j = j') →
    All2 (fun u c => Tr w u [c]) fl' vs ∧ (fpl w fl' vs).Nodup ∧ (∀ k ∈ fpl w fl' vs, ∃ (j : Nat) (o : LO), ls'[j]? = some o ∧ o.ft w (hv (b + j)) k) ∧
    ∀ (j z : Nat) (us : List U) (c : Value), fl[j]? = some (.sl z us) → vs[j]? = some c → ∃ us' m xs', fl'[j]? = some (.sl z us') ∧ us'.length ≤ big ∧ (∀ x ∈ us', x.sz = z) ∧ c = hv m ∧ w.ownsRow 0 (e m) z c us'.length xs' ∧ Trs w us' xs' := by
  induction h with
  | nil =>
    intro fl ls g _ vs hs _ _ _
    cases g
    cases vs with
    | nil => exact ⟨trivial, by simp [fpl], by simp [fpl], fun j z us c h => by simp at h⟩
    | cons _ _ => simp [SVrs] at hs
  | @sl b z us' r' cs ls' h ih =>
    intro fl ls g hzz vs hs hh hob hd
    cases g with
    | @sl _ z2 us r _ ls g =>
    simp only [List.map_cons, List.cons.injEq, U.zz] at hzz
    obtain ⟨hz0, hzz⟩ := hzz
    subst hz0
    cases vs with
    | nil => simp [SVrs] at hs
    | cons v vs =>
      simp only [SVrs] at hs
      have h0 := hh 0 v rfl
      simp only [Nat.add_zero] at h0
      obtain ⟨i1, i2, i3, i4⟩ := ih g hzz vs hs.2 (fun j c hj => by have := hh (j + 1) c (by simpa [slc] using hj); rwa [← Nat.add_assoc, Nat.add_right_comm] at this)
        (fun j o hj => by have := hob (j + 1) o (by simpa using hj); rwa [← Nat.add_assoc, Nat.add_right_comm] at this)
        (fun j j' o o' k hj hj' hk hk' => by
          rw [Nat.add_right_comm, Nat.add_assoc] at hk hk'
          have := hd (j + 1) (j' + 1) o o' k (by simpa using hj) (by simpa using hj') hk hk'
          omega)
      obtain ⟨S, L, env, hob0⟩ := hob 0 _ rfl
      simp only [Nat.add_zero] at hob0
      obtain ⟨p0, p1, p2, ⟨xs, p3, p4⟩, p5⟩ := hob0
      rw [h0] at p3 p5
      have ht : Tr w (.sl z2 us') [v] := by simp only [Tr]; exact ⟨p1, p2, v, _, xs, rfl, p3, p4⟩
      refine ⟨⟨ht, i1⟩, ?_, ?_, ?_⟩
      · simp only [fpl]
        refine List.nodup_append.2 ⟨p5, i2, fun x hx y hy hxy => ?_⟩
        subst hxy
        obtain ⟨j, o, q1, q2⟩ := i3 x hy
        rw [Nat.add_right_comm, Nat.add_assoc] at q2
        have := hd 0 (j + 1) _ o x rfl (by simpa using q1) (by simp only [LO.ft, Nat.add_zero]; rw [h0]; exact hx) q2
        omega
      · intro k hk
        simp only [fpl, List.mem_append] at hk
        rcases hk with hk | hk
        · exact ⟨0, _, rfl, by simp only [LO.ft, Nat.add_zero]; rw [h0]; exact hk⟩
        · obtain ⟨j, o, q1, q2⟩ := i3 k hk
          rw [Nat.add_right_comm, Nat.add_assoc] at q2
          exact ⟨j + 1, o, by simpa using q1, q2⟩
      · intro j z1 us1 c hj hc
        cases j with
        | zero =>
          simp only [List.getElem?_cons_zero, Option.some.injEq, U.sl.injEq] at hj hc
          obtain ⟨rfl, rfl⟩ := hj
          subst hc
          exact ⟨us', b, xs, rfl, p1, p2, h0.symm, p3, p4⟩
        | succ j =>
          simp only [List.getElem?_cons_succ] at hj hc ⊢
          exact i4 j z1 us1 c hj hc
  | i h ih =>
    intro fl ls g hzz vs hs hh hob hd
    cases g with
    | i g =>
    simp only [List.map_cons, List.cons.injEq, U.zz, true_and] at hzz
    cases vs with
    | nil => simp [SVrs] at hs
    | cons v vs =>
      simp only [SVrs] at hs
      have := SVr.int.1 hs.1
      subst this
      obtain ⟨i1, i2, i3, i4⟩ := ih g hzz vs hs.2 (fun j c hj => hh j c (by simpa [slc] using hj)) hob hd
      refine ⟨⟨by simp [Tr], i1⟩, by simpa [fpl, U.fp] using i2, by simpa [fpl, U.fp] using i3, fun j z us c hj hc => ?_⟩
      cases j with
      | zero => simp at hj
      | succ j => simp only [List.getElem?_cons_succ] at hj hc ⊢; exact i4 j z us c hj hc
  | b h ih =>
    intro fl ls g hzz vs hs hh hob hd
    cases g with
    | b g =>
    simp only [List.map_cons, List.cons.injEq, U.zz, true_and] at hzz
    cases vs with
    | nil => simp [SVrs] at hs
    | cons v vs =>
      simp only [SVrs] at hs
      have := SVr.bool.1 hs.1
      subst this
      obtain ⟨i1, i2, i3, i4⟩ := ih g hzz vs hs.2 (fun j c hj => hh j c (by simpa [slc] using hj)) hob hd
      refine ⟨⟨by simp [Tr], i1⟩, by simpa [fpl, U.fp] using i2, by simpa [fpl, U.fp] using i3, fun j z us c hj hc => ?_⟩
      cases j with
      | zero => simp at hj
      | succ j => simp only [List.getElem?_cons_succ] at hj hc ⊢; exact i4 j z us c hj hc
  | s h ih =>
    intro fl ls g hzz vs hs hh hob hd
    cases g with
    | s g =>
    simp only [List.map_cons, List.cons.injEq, U.zz, true_and] at hzz
    cases vs with
    | nil => simp [SVrs] at hs
    | cons v vs =>
      simp only [SVrs] at hs
      obtain ⟨hb, rfl⟩ := SVr.str.1 hs.1
      obtain ⟨i1, i2, i3, i4⟩ := ih g hzz vs hs.2 (fun j c hj => hh j c (by simpa [slc] using hj)) hob hd
      refine ⟨⟨by simp only [Tr]; exact ⟨hb, trivial⟩, i1⟩, by simpa [fpl, U.fp] using i2, by simpa [fpl, U.fp] using i3, fun j z us c hj hc => ?_⟩
      cases j with
      | zero => simp at hj
      | succ j => simp only [List.getElem?_cons_succ] at hj hc ⊢; exact i4 j z us c hj hc
end

/-- The form that both kinds of arguments take. -/
theorem MA.form {hv : Nat → Value} {e : Nat → Nat} {u : U} {arg : SV} {ls : List LO} (h : MA hv e u arg ls) : ∃ cs, MX hv e 0 u.flat cs ls ∧ (u.isSt = true → arg = .ag cs) ∧ (u.isSt = false → cs = [arg]) := by
  cases h with
  | st hl h => have := hl.eq; subst this; exact ⟨_, by simpa only [U.flat] using h, fun _ => rfl, fun h => (by cases h)⟩
  | sl => exact ⟨[.sl 0 0], .sl .nil, fun h => (by cases h), fun _ => rfl⟩

section
variable {P : Program}
theorem MSpec_intro {f r : Nat} {fn : Func} {c : Code} {u u' : U} {kk kk' : Int} {arg : SV} (Ls Ls' : (Nat → Value) → (Nat → Nat) → List LO) (hf : P.funcs[f]? = some fn) (hb : fn.body = some c) (hname : (fn.name == "runtime.NumGoroutine") = false)
    (hn : Nat.ble 2 fn.ntmps = true) (hres : fn.results.toList = [.tmp r]) (h1 : ∀ hv e, MA hv e u arg (Ls hv e)) (h2 : ∀ hv e, MA hv e u' arg (Ls' hv e)) (hst : u.isSt = u'.isSt) (hzz : u.flat.map U.zz = u'.flat.map U.zz)
    (hw : ∀ A hv e [BaseN A 0], V P A c ⟨frameOf 0 [arg, .d (.i .i64 kk)], Ls hv e, fn.ntmps⟩ (fun ex σ' => (match ex with | .normal => True | .ret => True | _ => False) ∧ look σ'.fr r = .d (.i .i64 kk') ∧ ∃ L2, σ'.L = Ls' hv e ++ L2)) : MSpec P f u kk u' kk' := by
  refine ⟨⟨fn, hf, hname, by rw [hb]; rfl⟩, ?_⟩
  intro w v cs hv0 htr hnd hgk
  have hlen := Tr.len _ _ htr
  have hleaf := Tr.leafs _ _ htr
  rw [fp_flat _ _ hlen] at hnd
  let hv : Nat → Value := fun j => ((slc u.flat cs)[j]?).getD undef
  let e : Nat → Nat := fun j => tyOf w (hv j)
  obtain ⟨ccs, hmx, ha1, ha2⟩ := (h1 hv e).form
  have hhv : ∀ (j : Nat) (c : Value), (slc u.flat cs)[j]? = some c → hv (0 + j) = c := fun j c hj => by simp only [hv, Nat.zero_add]; rw [hj]; rfl
  obtain ⟨m1, m2, m3, m4⟩ := hmx.enter (w := w) cs hleaf hnd hhv (fun j => rfl)
  have hsv : SVr (fun _ => False) (Ls hv e) (slc u.flat cs) w arg v := by
    have := m4 (fun _ => False) [] [] rfl rfl
    simp only [List.nil_append] at this
    cases hs : u.isSt with
    | true =>
      rw [ha1 hs, hv0]
      simp only [SVr, val, hs, if_true]
      exact ⟨cs, rfl, this⟩
    | false =>
      have hcc := ha2 hs
      subst hcc
      match cs, this with
      | [c], this =>
        rw [hv0]
        simp only [val, hs, Bool.false_eq_true, if_false, List.headD_cons]
        simpa [SVrs] using this
  have hH : HeapR ⟨w, fun _ => False, fun b => b ∈ u.fp w cs, [], []⟩ (fun _ => False) (Ls hv e) (slc u.flat cs) w := by
    refine ⟨m1, fun i o c k1 k2 => (m2 i o c k1 k2).1 _ _ _, fun i o c b k1 _ k2 k3 => ⟨fun h => h, .inl ?_, ?_⟩, fun i j o o' c c' b k1 k2 _ _ k3 k4 k5 k6 => m3 i j o o' c c' b k1 k2 k3 k4 k5 k6, fun b hb => hb.elim, fun b hb => hb.elim, fun _ _ _ => rfl, Nat.le_refl _, rfl, rfl, rfl, Base.nil rfl, hgk⟩
    · show b ∈ u.fp w cs
      rw [fp_flat _ _ hlen]
      exact (m2 i o c k1 k2).2.2 b k3
    · have := (m2 i o c k1 k2).2.2 b k3
      rw [← fp_flat _ _ hlen] at this
      exact Tr.lt _ _ htr b this
  have hn' := Nat.le_of_ble_eq_true hn
  refine calls_of_wp hf hb ?_
  have hargs : SVrs (fun _ => False) (Ls hv e) (slc u.flat cs) w [arg, .d (.i .i64 kk)] [v, .int .i64 kk] := by simp only [SVrs]; exact ⟨hsv, SVr.int.2 rfl, trivial⟩
  have hb0 : BaseN ⟨w, fun _ => False, fun b => b ∈ u.fp w cs, [], []⟩ 0 := ⟨rfl⟩
  refine wp_mono (hw ⟨w, fun _ => False, fun b => b ∈ u.fp w cs, [], []⟩ hv e _ w ⟨fun _ => False, slc u.flat cs, hH, fun t => ?_, ?_, rfl⟩) ?_
  · have := frameOf_look [arg, .d (.i .i64 kk)] [v, .int .i64 kk] 0 [] (List.replicate (fn.ntmps - 2) undef) rfl hargs t
    have e' : (#[v, .int .i64 kk] : Array Value) ++ Array.replicate (fn.ntmps - (#[v, .int .i64 kk] : Array Value).size) undef = ([] ++ [v, .int .i64 kk] ++ List.replicate (fn.ntmps - 2) undef).toArray := by apply Array.ext'; simp
    rw [e']
    exact this
  · simp; omega
  · rintro ex a' w' ⟨σ', ⟨he, hlk, L2, hL2⟩, S', env', hH', hf', hN', hd'⟩
    have hk := hf' r
    rw [hlk] at hk
    have hk := SVr.int.1 hk
    have hrun : (results fn a'.tmps).run P w' = .ok (.int .i64 kk') w' := by
      rw [results_eq]
      simp only [Sem.run_bind]
      rw [← Array.toArray_toList (xs := fn.results)]
      simp only [List.mapM_toArray, Sem.run_map, hres]
      simp [getR, hk]
    obtain ⟨ccs', hmx', hb1, hb2⟩ := (h2 hv e).form
    have hcs : ccs' = ccs := by
      cases hs : u.isSt with
      | true => have := ha1 hs; rw [hb1 (by rw [← hst]; exact hs)] at this; injection this
      | false => rw [ha2 hs, hb2 (by rw [← hst]; exact hs)]
    subst hcs
    rw [hL2] at hH'
    have hget : ∀ (j : Nat) (o : LO), (Ls' hv e)[j]? = some o → (Ls' hv e ++ L2)[j]? = some o := fun j o hj => by rw [List.getElem?_append_left (List.getElem?_eq_some_iff.1 hj).1]; exact hj
    have hpin : ∀ (j : Nat) (o : LO), (Ls' hv e)[j]? = some o → env'[j]? = some (hv j) ∧ o.live = true := by
      intro j o hj
      have hlt := (List.getElem?_eq_some_iff.1 hj).1
      have hen : j < env'.length := by rw [hH'.len]; simp; omega
      have key : ∀ {b : Nat} {fl : List U} {cs : List SV} {ls : List LO}, MX hv e b fl cs ls → ∀ (j : Nat) (o : LO), ls[j]? = some o → ∃ z us, o = .ownp (hv (b + j)) (e (b + j)) z us := by
        intro b fl cs ls hm
        induction hm with
        | nil => intro j o h; simp at h
        | sl h ih =>
          intro j o hj
          cases j with
          | zero => simp at hj; subst hj; exact ⟨_, _, rfl⟩
          | succ j =>
            simp only [List.getElem?_cons_succ] at hj
            obtain ⟨z, us, rfl⟩ := ih j o hj
            exact ⟨z, us, by rw [Nat.add_right_comm, Nat.add_assoc]⟩
        | i h ih => exact ih
        | b h ih => exact ih
        | s h ih => exact ih
      obtain ⟨z, us, rfl⟩ := key hmx' j o hj
      have := hH'.objs j _ _ (hget j _ hj) (List.getElem?_eq_getElem hen)
      refine ⟨?_, rfl⟩
      rw [List.getElem?_eq_getElem hen, this.1, Nat.zero_add]
    have m5 := m4 (fun _ => False) [] [] rfl rfl
    simp only [List.nil_append] at m5
    obtain ⟨l1, l2, l3, l4⟩ := hmx'.leave (w := w') (fl := u.flat) hmx hzz cs m5 hhv
      (fun j o hj => by rw [Nat.zero_add]; exact ⟨_, _, _, hH'.objs j o _ (hget j o hj) (hpin j o hj).1⟩)
      (fun j j' o o' k hj hj' hk hk' => by
        rw [Nat.zero_add] at hk hk'
        exact hH'.dist j j' o o' _ _ k (hget j o hj) (hget j' o' hj') (hpin j o hj).2 (hpin j' o' hj').2 (hpin j o hj).1 (hpin j' o' hj').1 hk hk')
    have htr' : Tr w' u' cs := Tr.of_leafs _ _ l1
    have hlen' := Tr.len _ _ htr'
    have fin : (Ending.returned (Value.int .i64 kk')) = .returned (.int .i64 kk') ∧ MPost w w' u u' cs := by
      refine ⟨rfl, htr', by rw [fp_flat _ _ hlen']; exact l2, fun b hb => ?_, fun b h1 h2 => hH'.frame b h1 h2, hH'.size, hH'.os, hH'.tape, hH'.output, fun j e' z us c hj hc hx => ?_⟩
      · rw [fp_flat _ _ hlen'] at hb
        obtain ⟨j, o, q1, q2⟩ := l3 b hb
        rw [Nat.zero_add] at q2
        have := hH'.excl j o _ b (hget j o q1) (hpin j o q1).2 (hpin j o q1).1 q2
        exact ⟨this.2.2, this.2.1⟩
      · obtain ⟨us', m, xs', r1, r2, r3, r4, r5, r6⟩ := l4 j z us c hj hc
        obtain ⟨xs, hx⟩ := hx
        refine ⟨us', xs', r1, r2, r3, ?_, r6⟩
        rcases (tyOf_own hx).2 with h | h
        · subst h
          rcases r5.2 with ⟨_, h⟩ | ⟨g, cap, cur, h, _⟩
          · exact ⟨r5.1, .inl ⟨rfl, h⟩⟩
          · cases h
        · rw [h, r4]
          rw [r4] at r5
          exact r5
    cases ex with
    | normal => exact ⟨hd', _, hrun, fin⟩
    | ret => exact ⟨hd', _, hrun, fin⟩
    | exit id => exact he.elim
    | goto l => exact he.elim
    | panic c => exact he.elim
    | outgrown => exact he.elim
end
end Go.Eng
