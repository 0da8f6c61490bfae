/- The engine, part 17: values seen as owned data; storing them into owned arrays, making, appending, slice literals. -/
import Derived.Test.YtdofnoeiogjpjaaEng16
namespace Go.Eng
open Go Go.RowKit

mutual
/-- The leaves of data. -/
inductive Lv : U → List U → Prop
  | i {k : IntKind} {n : Int} : Lv (.i k n) [.i k n]
  | b {x : Bool} : Lv (.b x) [.b x]
  | s {l : List UInt8} : Lv (.s l) [.s l]
  | sl {z : Nat} {us : List U} : Lv (.sl z us) [.sl z us]
  | st {us fl : List U} : Lvs us fl → Lv (.st us) fl
inductive Lvs : List U → List U → Prop
  | nil : Lvs [] []
  | cons {u : U} {us a b c : List U} : Lv u a → Lvs us b → Jn a b c → Lvs (u :: us) c
end
mutual
theorem Lv.eq : ∀ {u : U} {fl : List U}, Lv u fl → u.flat = fl
  | _, _, .i => rfl
  | _, _, .b => rfl
  | _, _, .s => rfl
  | _, _, .sl => rfl
  | _, _, .st h => by simp only [U.flat]; exact h.eq
theorem Lvs.eq : ∀ {us fl : List U}, Lvs us fl → U.flats us = fl
  | _, _, .nil => rfl
  | _, _, .cons h1 h2 h3 => by simp only [U.flats, h1.eq, h2.eq]; exact h3.spec
end
/-- A cell seen as an owned leaf; the objects that go into it. -/
inductive OL (L : List LO) : SV → U → List Nat → Prop
  | i {k : IntKind} {n : Int} : OL L (.d (.i k n)) (.i k n) []
  | b {x : Bool} : OL L (.d (.b x)) (.b x) []
  | s {l : List UInt8} : OL L (.d (.s l)) (.s l) []
  | nil {z : Nat} : OL L .nilsl (.sl z []) []
  | sl {i ver e z : Nat} {es : List U} (h : L[i]? = some (.own e z ver es)) : OL L (.sl i ver) (.sl z es) [i]
inductive OLs (L : List LO) : List SV → List U → List Nat → Prop
  | nil : OLs L [] [] []
  | cons {sv : SV} {svs : List SV} {u : U} {us : List U} {js js' r : List Nat} (h : OL L sv u js) (h2 : OLs L svs us js') (h3 : Jn js js' r) : OLs L (sv :: svs) (u :: us) r
inductive OV (L : List LO) : SV → U → List Nat → Prop
  | ag {cs : List SV} {us fl : List U} {js : List Nat} (h : Lvs us fl) (h2 : OLs L cs fl js) : OV L (.ag cs) (.st us) js
  | leaf {sv : SV} {u : U} {js : List Nat} (h : OL L sv u js) : OV L sv u js
  | d {us : List U} (h : U.noSls us = true) : OV L (.d (.st us)) (.st us) []

def OwnB (L : List LO) (env : List Value) (w : World) (j b : Nat) : Prop := ∃ o hv, L[j]? = some o ∧ o.live = true ∧ env[j]? = some hv ∧ o.ft w hv b
theorem OwnB.inj {A : Amb} {S : Nat → Prop} {L : List LO} {env : List Value} {w : World} (hH : HeapR A S L env w) {j j' b : Nat} (h : OwnB L env w j b) (h' : OwnB L env w j' b) : j = j' := by
  obtain ⟨o, hv, h1, h2, h3, h4⟩ := h
  obtain ⟨o', hv', h1', h2', h3', h4'⟩ := h'
  exact hH.dist j j' o o' hv hv' b h1 h1' h2 h2' h3 h3' h4 h4'

mutual
theorem Tr.of_leafs {w : World} : ∀ (u : U) (cs : List Value), All2 (fun u c => Tr w u [c]) u.flat cs → Tr w u cs
  | .i k n, cs, h => by
    match cs, h with
    | [c], h => exact h.1
    | _ :: _ :: _, h => exact h.2.elim
  | .b x, cs, h => by
    match cs, h with
    | [c], h => exact h.1
    | _ :: _ :: _, h => exact h.2.elim
  | .s l, cs, h => by
    match cs, h with
    | [c], h => exact h.1
    | _ :: _ :: _, h => exact h.2.elim
  | .sl z us, cs, h => by
    match cs, h with
    | [c], h => exact h.1
    | _ :: _ :: _, h => exact h.2.elim
  | .st us, cs, h => by simp only [U.flat] at h; simp only [Tr]; exact Trs.of_leafs us cs h
theorem Trs.of_leafs {w : World} : ∀ (us : List U) (cs : List Value), All2 (fun u c => Tr w u [c]) (U.flats us) cs → Trs w us cs
  | [], cs, h => by
    simp only [U.flats] at h
    match cs, h with
    | [], _ => simp [Trs]
  | u :: us, cs, h => by
    simp only [U.flats] at h
    obtain ⟨c1, c2, rfl, h2, h3⟩ := All2.split h
    have hl : c1.length = u.sz := by rw [← h2.length, U.flat_len]
    simp only [Trs]
    rw [← hl, List.take_left, List.drop_left]
    exact ⟨Tr.of_leafs u c1 h2, Trs.of_leafs us c2 h3⟩
end

section
variable {A : Amb} {S : Nat → Prop} {L : List LO} {env : List Value} {w : World}
theorem OL.r (hH : HeapR A S L env w) {sv : SV} {u : U} {js : List Nat} {v : Value} (h : OL L sv u js) (hv : SVr S L env w sv v) :
    Tr w u [v] ∧ (u.fp w [v]).Nodup ∧ (∀ b ∈ u.fp w [v], ∃ j ∈ js, OwnB L env w j b) ∧ v.oneCell' = true ∧ u.isSt = false := by
  cases h with
  | i => have := SVr.int.1 hv; subst this; exact ⟨by simp [Tr], by simp [U.fp], by simp [U.fp], rfl, rfl⟩
  | b => have := SVr.bool.1 hv; subst this; exact ⟨by simp [Tr], by simp [U.fp], by simp [U.fp], rfl, rfl⟩
  | s => obtain ⟨h1, rfl⟩ := SVr.str.1 hv; exact ⟨by simp only [Tr]; exact ⟨h1, trivial⟩, by simp [U.fp], by simp [U.fp], rfl, rfl⟩
  | nil =>
    simp only [SVr] at hv
    subst hv
    obtain ⟨k1, k2⟩ := Tr.nil w ‹Nat›
    exact ⟨k1, by rw [k2]; exact List.nodup_nil, by rw [k2]; simp, rfl, rfl⟩
  | @sl i ver e z es h =>
    simp only [SVr] at hv
    obtain ⟨hv', o, k1, k2, k3, k5, k4⟩ := hv
    rw [h] at k2
    obtain rfl := Option.some.inj k2
    have k6 := k4 rfl
    subst k6
    have ho := hH.objs i _ _ h k1
    exact ⟨own_tr ho, ho.2.2.2, fun b hb => ⟨i, by simp, _, _, h, rfl, k1, hb⟩, k5, rfl⟩
theorem OLs.r (hH : HeapR A S L env w) {svs : List SV} {us : List U} {js : List Nat} (h : OLs L svs us js) : ∀ {vs : List Value}, js.Nodup → SVrs S L env w svs vs →
    All2 (fun u c => Tr w u [c]) us vs ∧ (fpl w us vs).Nodup ∧ (∀ b ∈ fpl w us vs, ∃ j ∈ js, OwnB L env w j b) ∧ ∀ v ∈ vs, v.oneCell' = true := by
  induction h with
  | nil =>
    intro vs _ hv
    cases vs with
    | nil => exact ⟨trivial, by simp [fpl], by simp [fpl], by simp⟩
    | cons _ _ => simp [SVrs] at hv
  | @cons sv svs u us js js' r h h2 h3 ih =>
    intro vs hn hv
    cases vs with
    | nil => simp [SVrs] at hv
    | cons v vs =>
      simp only [SVrs] at hv
      have hr := h3.spec
      subst hr
      obtain ⟨n1, n2, n3⟩ := List.nodup_append.1 hn
      obtain ⟨a1, a2, a3, a4, _⟩ := h.r hH hv.1
      obtain ⟨b1, b2, b3, b4⟩ := ih n2 hv.2
      refine ⟨⟨a1, b1⟩, ?_, ?_, ?_⟩
      · simp only [fpl]
        refine List.nodup_append.2 ⟨a2, b2, fun x hx y hy hxy => ?_⟩
        subst hxy
        obtain ⟨j, hj, o1⟩ := a3 x hx
        obtain ⟨j', hj', o2⟩ := b3 x hy
        exact n3 j hj j' hj' (o1.inj hH o2)
      · intro b hb
        simp only [fpl, List.mem_append] at hb
        rcases hb with hb | hb
        · obtain ⟨j, hj, o⟩ := a3 b hb
          exact ⟨j, by simp [hj], o⟩
        · obtain ⟨j, hj, o⟩ := b3 b hb
          exact ⟨j, by simp [hj], o⟩
      · intro x hx
        rcases List.mem_cons.1 hx with rfl | hx
        · exact a4
        · exact b4 x hx
theorem OV.r (hH : HeapR A S L env w) {sv : SV} {u : U} {js : List Nat} {v : Value} (h : OV L sv u js) (hn : js.Nodup) (hv : SVr S L env w sv v) :
    ∃ cs, v = val u cs ∧ v.cells.toList = cs ∧ Tr w u cs ∧ (u.fp w cs).Nodup ∧ (∀ b ∈ u.fp w cs, ∃ j ∈ js, OwnB L env w j b) ∧ ∀ c ∈ cs, c.oneCell' = true := by
  cases h with
  | @ag cs us fl js h h2 =>
    simp only [SVr] at hv
    obtain ⟨vs, rfl, hv⟩ := hv
    have hfl := h.eq
    subst hfl
    obtain ⟨a1, a2, a3, a4⟩ := h2.r hH hn hv
    have hl : vs.length = (U.st us).sz := by rw [← a1.length, U.flats_len]; rfl
    refine ⟨vs, rfl, by simp [Value.cells], Tr.of_leafs (.st us) vs (by simp only [U.flat]; exact a1), ?_, ?_, a4⟩
    · rw [fp_flat _ _ hl]; simp only [U.flat]; exact a2
    · rw [fp_flat _ _ hl]; simp only [U.flat]; exact a3
  | leaf h =>
    obtain ⟨a1, a2, a3, a4, a5⟩ := h.r hH hv
    exact ⟨[v], by simp [val, a5], by rw [cells_one a4], a1, a2, a3, by simpa using a4⟩
  | @d us h =>
    simp only [SVr] at hv
    obtain ⟨cs, rfl, hv⟩ := hv
    obtain ⟨k1, k2⟩ := Rd.tr (w' := w) (.st us) cs (by simpa only [U.noSl] using h) hv
    exact ⟨cs, rfl, val_cells hv, k1, by rw [k2]; exact List.nodup_nil, by rw [k2]; simp, Rd.oneCell _ _ hv⟩
end

section
variable {P : Program} {A : Amb} {σ : St} {K : St → Prop}
variable {ops : Array Oper} {rest : List Oper} {t : Nat} {ty : TypeId} {pos : String} {af : Array Edge} {x y : Operand} {sv : SV}
theorem contains_mem {js : List Nat} {j : Nat} (h : j ∈ js) : js.contains j = true := by simpa using h
theorem own_g {w : World} {e z : Nat} {xs : List Value} {us : List U} {hv : Value} (hz : ∀ u ∈ us, u.sz = z) (h : w.ownsRow 0 e z hv us.length xs) (b : Nat) (hb : blk hv = some b) : (U.sl z us).fp w [hv] = b :: U.fps w us xs := by
  rcases fp_own hz h with ⟨rfl, _, _⟩ | ⟨g, cap, rfl, hf⟩
  · simp [blk] at hb
  · simp [blk] at hb
    subst hb
    exact hf

/-- A whole element of an owned array is stored. -/
theorem VO_storeO {T : TypeId} {gg : Bool} {i ver z k e bs : Nat} {es : List U} {u : U} {js : List Nat} {fr : List (Nat × SV)} {L L' : List LO} {N : Nat} (hx : (St.mk fr L N).ev x = .ep i ver z k 0) (hL : L[i]? = some (.own e z ver es)) (hy : OV L ((St.mk fr L N).ev y) u js)
    (hjs : (decide js.Nodup && !js.contains i) = true) (hT : tyI P T = some (gg, z, bs)) (hu : u.sz = z) (hk : k < es.length) (hL' : (kill js 0 L).set i (.own e z ver (es.set k u)) = L')
    (h : VO P A ops rest ⟨fr, L', N⟩ K) :
    VO P A ops (⟨none, .store T x y, ty, pos, af, none⟩ :: rest) ⟨fr, L, N⟩ K := by
  subst hL'
  simp only [Bool.and_eq_true, decide_eq_true_eq, Bool.not_eq_true'] at hjs
  refine VO_step rfl (fun S env a w hH hf hN hd => ?_) h
  have h1 := Realz.ev hf hH x
  obtain ⟨cs, c1, hcells, c2, c3, c4, c5⟩ := hy.r hH hjs.1 (Realz.ev hf hH y)
  rw [hx] at h1
  simp only [SVr] at h1
  obtain ⟨hv, o, k1, k2, k3, k5, k4⟩ := h1
  rw [hL] at k2
  obtain rfl := Option.some.inj k2
  obtain ⟨b, e1, e2⟩ := k4 rfl
  obtain ⟨hbg, hz, ⟨xs, m1, m2⟩, hnd⟩ := hH.objs i _ hv hL k1
  have hcl := Tr.len _ _ c2
  rw [hu] at hcl
  have hfp := own_g hz m1 b e1
  rw [hfp] at hnd
  rcases m1.2 with ⟨rfl, _⟩ | ⟨g, cap, cur, rfl, hg0, hg, hnc, hcm, hcs, htake⟩
  · simp [blk] at e1
  simp only [blk, Option.some.injEq] at e1
  subst e1
  have hkz : (k + 1) * z ≤ es.length * z := Nat.mul_le_mul_right _ hk
  have hcap : es.length * z ≤ cap * z := Nat.mul_le_mul_right _ hnc
  have hkz1 : (k + 1) * z = k * z + z := by rw [Nat.add_mul]; omega
  have hxl := m1.1
  have hst := run_storeCells_at P g (k * z) e cs 0 cur w hg (by omega) c5
  rw [Nat.add_zero, hcl] at hst
  have hrow := setRow_heap w g cur ((cur.toList.take (k * z) ++ cs ++ cur.toList.drop (k * z + z)).toArray) e (0, 0) hg
  -- the elements before and behind
  have hes : es = es.take k ++ (es[k] :: es.drop (k + 1)) := by rw [← List.drop_eq_getElem_cons hk, List.take_append_drop]
  have hset : es.set k u = es.take k ++ (u :: es.drop (k + 1)) := by rw [List.set_eq_take_append_cons_drop, if_pos hk]
  have hz1 : ∀ v ∈ es.take k, v.sz = z := fun v hv => hz v (List.mem_of_mem_take hv)
  have s1 : U.szs (es.take k) = k * z := by rw [szs_all _ hz1, List.length_take, Nat.min_eq_left (by omega)]
  have hm2 := m2
  rw [hes] at hm2
  obtain ⟨p1, p2, p3⟩ := Trs.split (es.take k) xs _ hm2
  rw [s1] at p1 p2 p3
  rw [← hes] at p3
  simp only [Trs] at p2
  have hszk : es[k].sz = z := hz _ (List.getElem_mem hk)
  rw [hszk, List.drop_drop] at p2
  have p3' : U.fps w es xs = U.fps w (es.take k) (xs.take (k * z)) ++ (es[k].fp w ((xs.drop (k * z)).take z) ++ U.fps w (es.drop (k + 1)) (xs.drop (k * z + z))) := by
    rw [p3]; simp only [U.fps]; rw [hszk, List.drop_drop]
  rw [p3'] at hnd
  obtain ⟨q1, q2⟩ := List.nodup_cons.1 hnd
  simp only [List.mem_append, not_or] at q1
  obtain ⟨d1, d2, d3⟩ := List.nodup_append.1 q2
  obtain ⟨d4, d5, d6⟩ := List.nodup_append.1 d2
  -- the stored value's blocks are apart
  have hap : ∀ b' ∈ u.fp w cs, ¬ (LO.own e z ver es).ft w (.slice (some ⟨g, 0, none⟩) es.length cap) b' := by
    intro b' hb' hft
    obtain ⟨j, hj, ho⟩ := c4 b' hb'
    have := ho.inj hH ⟨_, _, hL, rfl, k1, hft⟩
    subst this
    rw [contains_mem hj] at hjs
    cases hjs.2
  have hap' : ∀ b' ∈ u.fp w cs, b' ≠ g ∧ b' ∉ U.fps w (es.take k) (xs.take (k * z)) ∧ b' ∉ U.fps w (es.drop (k + 1)) (xs.drop (k * z + z)) := by
    intro b' hb'
    have := hap b' hb'
    simp only [LO.ft] at this
    rw [hfp, p3'] at this
    simp only [List.mem_cons, List.mem_append, not_or] at this
    exact ⟨this.1, this.2.1, this.2.2.2⟩
  have hoth : ∀ b', b' ≠ g → (w.setRow g (cur.toList.take (k * z) ++ cs ++ cur.toList.drop (k * z + z)).toArray).heap[b']? = w.heap[b']? := fun b' hb' => setRow_other w g b' _ hb'
  obtain ⟨t1, t2⟩ := Trs.loc _ _ p1 (fun b' hb' => hoth b' (fun e => q1.1 (e ▸ hb')))
  obtain ⟨t3, t4⟩ := Trs.loc _ _ p2.2 (fun b' hb' => hoth b' (fun e => q1.2.2 (e ▸ hb')))
  obtain ⟨t5, t6⟩ := Tr.loc _ _ c2 (fun b' hb' => hoth b' (hap' b' hb').1)
  have tcons : Trs (w.setRow g (cur.toList.take (k * z) ++ cs ++ cur.toList.drop (k * z + z)).toArray) (u :: es.drop (k + 1)) (cs ++ xs.drop (k * z + z)) ∧ U.fps (w.setRow g (cur.toList.take (k * z) ++ cs ++ cur.toList.drop (k * z + z)).toArray) (u :: es.drop (k + 1)) (cs ++ xs.drop (k * z + z)) = u.fp w cs ++ U.fps w (es.drop (k + 1)) (xs.drop (k * z + z)) := by
    simp only [Trs, U.fps]
    rw [List.take_left' (by rw [hcl, hu]), List.drop_left' (by rw [hcl, hu]), t6, t4]
    exact ⟨⟨t5, t3⟩, rfl⟩
  obtain ⟨r1, r2⟩ := Trs.append _ _ _ _ t1 tcons.1
  rw [← hset, ← List.append_assoc] at r1 r2
  rw [t2, tcons.2] at r2
  have hown' : (w.setRow g (cur.toList.take (k * z) ++ cs ++ cur.toList.drop (k * z + z)).toArray).ownsRow 0 e z (.slice (some ⟨g, 0, none⟩) es.length cap) (es.set k u).length (xs.take (k * z) ++ cs ++ xs.drop (k * z + z)) := by
    refine ⟨by simp only [List.length_append, List.length_take, List.length_drop, List.length_set, hxl, hcl]; omega, .inr ⟨g, cap, _, by simp, hg0, hrow, by simpa using hnc, hcm, by simp only [List.size_toArray, List.length_append, List.length_take, List.length_drop, Array.length_toList, hcl]; omega, ?_⟩⟩
    rw [List.length_set, ← htake]
    have := splice_take cur.toList (k * z) (es.length * z) cs (by rw [hcl]; omega) (by simp only [Array.length_toList]; omega)
    rw [hcl] at this
    exact this
  have hz' : ∀ v ∈ es.set k u, v.sz = z := fun v hv => by
    rcases List.mem_or_eq_of_mem_set hv with hv | rfl
    · exact hz v hv
    · exact hu
  have hfp' := own_g hz' hown' g rfl
  have hi := (List.getElem?_eq_some_iff.1 hL).1
  obtain ⟨hH', C⟩ := hH.eat (w' := w.setRow g (cur.toList.take (k * z) ++ cs ++ cur.toList.drop (k * z + z)).toArray) js i (.own e z ver (es.set k u)) (.slice (some ⟨g, 0, none⟩) es.length cap) (L' := (kill js 0 L).set i (.own e z ver (es.set k u))) (env' := env)
    (by simp [kill_len, hH.len]) (fun j hj => by rw [List.getElem?_set_ne (fun e => hj e.symm), kill_get, Nat.zero_add]) (by rw [List.getElem?_set_self (by rw [kill_len]; exact hi)]) (fun _ _ => rfl) k1
    (fun k' hk' hno => hoth k' (fun e => hno _ _ hL k1 ⟨rfl, by simp only [LO.ft]; rw [hfp, e]; simp⟩))
    (fun o hv h1 h2 => by rw [hL] at h1; cases h1; rw [k1] at h2; cases h2; exact ⟨Nat.le_refl _, fun _ => rfl, fun _ _ => rfl⟩)
    (by rw [setRow_size]; exact Nat.le_refl _) rfl rfl rfl
    (fun b' hb' => by
      simp only [LO.ft] at hb'
      rw [hfp', r2] at hb'
      simp only [List.mem_cons, List.mem_append] at hb'
      have old : ∀ j, OwnB L env w j b' → (j = i ∨ js.contains j = true) → b' < (w.setRow g (cur.toList.take (k * z) ++ cs ++ cur.toList.drop (k * z + z)).toArray).heap.size ∧ (w.heap.size ≤ b' ∨ ∃ j o hv, (j = i ∨ js.contains j = true) ∧ L[j]? = some o ∧ o.live = true ∧ env[j]? = some hv ∧ o.ft w hv b') := by
        rintro j ⟨o, hv, n1, n2, n3, n4⟩ hj
        exact ⟨by rw [setRow_size]; exact (hH.excl j o hv b' n1 n2 n3 n4).2.2, .inr ⟨j, o, hv, hj, n1, n2, n3, n4⟩⟩
      have self : b' ∈ (U.sl z es).fp w [.slice (some ⟨g, 0, none⟩) es.length cap] → OwnB L env w i b' := fun hm => ⟨_, _, hL, rfl, k1, hm⟩
      rw [hfp, p3'] at self
      rcases hb' with rfl | hb' | hb' | hb'
      · exact old i (self (by simp)) (.inl rfl)
      · exact old i (self (by simp [hb'])) (.inl rfl)
      · obtain ⟨j, hj, ho⟩ := c4 b' hb'
        exact old j ho (.inr (contains_mem hj))
      · exact old i (self (by simp [hb'])) (.inl rfl))
    (fun C => ⟨by simpa using hbg, hz', ⟨_, hown', r1⟩, by
      rw [hfp', r2]
      refine List.nodup_cons.2 ⟨?_, List.nodup_append.2 ⟨d1, List.nodup_append.2 ⟨c3, d5, ?_⟩, ?_⟩⟩
      · simp only [List.mem_append, not_or]
        exact ⟨q1.1, fun hm => (hap' g hm).1 rfl, q1.2.2⟩
      · intro a' ha' b' hb' hab
        exact (hap' a' ha').2.2 (hab ▸ hb')
      · intro a' ha' b' hb' hab
        subst hab
        rcases List.mem_append.1 hb' with hb' | hb'
        · exact (hap' a' hb').2.1 ha'
        · exact d3 a' ha' a' (by simp [hb']) rfl⟩)
  refine ⟨.skip, _, ?_, .inr ⟨rfl, realz_put_none hf hN hd hH' C⟩⟩
  have hsz : (a.eval y).cells.size = z := by rw [← hcl, ← hcells]; simp
  simp [execOp, Instr.storeAt, e2, Instr.sureAddr, storeVar, run_sizeOf hT, hsz, hcells, hst]
end
end Go.Eng
