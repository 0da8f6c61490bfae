/- The engine, part 25: calls of functions that turn what they are handed. -/
import Derived.Test.YtopgfacbgbmloaaEng24
namespace Go.Eng
open Go Go.RowKit

inductive MU (L : List LO) : List SV → List U → List U → List (Nat × LO) → Prop
  | nil : MU L [] [] [] []
  | sl {i ver z : Nat} {us us' : List U} {svs : List SV} {fl fl' : List U} {ups : List (Nat × LO)} {o o' : LO} (h : L[i]? = some o) (ha : AsO o z ver us) (hp : PutO o us' o') (r : MU L svs fl fl' ups) : MU L (.sl i ver :: svs) (.sl z us :: fl) (.sl z us' :: fl') ((i, o') :: ups)
  | nl {z : Nat} {svs : List SV} {fl fl' : List U} {ups : List (Nat × LO)} (r : MU L svs fl fl' ups) : MU L (.nilsl :: svs) (.sl z [] :: fl) (.sl z [] :: fl') ups
  | i {k : IntKind} {n : Int} {svs : List SV} {fl fl' : List U} {ups : List (Nat × LO)} (r : MU L svs fl fl' ups) : MU L (.d (.i k n) :: svs) (.i k n :: fl) (.i k n :: fl') ups
  | b {x : Bool} {svs : List SV} {fl fl' : List U} {ups : List (Nat × LO)} (r : MU L svs fl fl' ups) : MU L (.d (.b x) :: svs) (.b x :: fl) (.b x :: fl') ups
  | s {l : List UInt8} {svs : List SV} {fl fl' : List U} {ups : List (Nat × LO)} (r : MU L svs fl fl' ups) : MU L (.d (.s l) :: svs) (.s l :: fl) (.s l :: fl') ups
inductive MV (L : List LO) : SV → U → U → List (Nat × LO) → Prop
  | ag {cs : List SV} {us us' fl fl' : List U} {ups : List (Nat × LO)} (hl : Lvs us fl) (hl' : Lvs us' fl') (h : MU L cs fl fl' ups) : MV L (.ag cs) (.st us) (.st us') ups
  | sl {sv : SV} {z : Nat} {us us' : List U} {ups : List (Nat × LO)} (h : MU L [sv] [.sl z us] [.sl z us'] ups) : MV L sv (.sl z us) (.sl z us') ups
inductive UpL : List (Nat × LO) → List LO → List LO → Prop
  | nil {L : List LO} : UpL [] L L
  | cons {i : Nat} {o : LO} {ups : List (Nat × LO)} {L L1 L' : List LO} (h : St1 o i L L1) (r : UpL ups L1 L') : UpL ((i, o) :: ups) L L'
theorem UpL.spec {ups : List (Nat × LO)} {L L' : List LO} (h : UpL ups L L') : (ups.map (·.1)).Nodup → (∀ p ∈ ups, p.1 < L.length) → L'.length = L.length ∧ (∀ j, j ∉ ups.map (·.1) → L'[j]? = L[j]?) ∧ ∀ p ∈ ups, L'[p.1]? = some p.2 := by
  induction h with
  | nil => intro _ _; exact ⟨rfl, fun _ _ => rfl, fun p hp => by cases hp⟩
  | @cons i o ups L L1 L' h r ih =>
    intro hn hlt
    have hs := h.spec
    subst hs
    simp only [List.map_cons, List.nodup_cons] at hn
    obtain ⟨i1, i2, i3⟩ := ih hn.2 (fun p hp => by rw [List.length_set]; exact hlt p (by simp [hp]))
    refine ⟨by rw [i1, List.length_set], fun j hj => ?_, fun p hp => ?_⟩
    · simp only [List.map_cons, List.mem_cons, not_or] at hj
      rw [i2 j hj.2, List.getElem?_set_ne (fun e => hj.1 e.symm)]
    · rcases List.mem_cons.1 hp with rfl | hp
      · rw [i2 i hn.1, List.getElem?_set_self (hlt (i, o) (by simp))]
      · exact i3 p hp

section
variable {A : Amb} {S : Nat → Prop} {L : List LO} {env : List Value} {w : World}
theorem MU.r (hH : HeapR A S L env w) {svs : List SV} {fl fl' : List U} {ups : List (Nat × LO)} (h : MU L svs fl fl' ups) : ∀ {vs : List Value}, (ups.map (·.1)).Nodup → SVrs S L env w svs vs →
    All2 (fun u c => Tr w u [c]) fl vs ∧ (fpl w fl vs).Nodup ∧ (∀ b ∈ fpl w fl vs, ∃ j ∈ ups.map (·.1), OwnB L env w j b) ∧ (∀ p ∈ ups, p.1 < L.length) ∧
    (∀ p ∈ ups, ∃ (idx z ver : Nat) (us us' : List U) (o : LO) (c : Value), fl[idx]? = some (.sl z us) ∧ fl'[idx]? = some (.sl z us') ∧ vs[idx]? = some c ∧ L[p.1]? = some o ∧ env[p.1]? = some c ∧ AsO o z ver us ∧ PutO o us' p.2) := by
  induction h with
  | nil =>
    intro vs _ hv
    cases vs with
    | nil => exact ⟨trivial, by simp [fpl], by simp [fpl], by simp, by simp⟩
    | cons _ _ => simp [SVrs] at hv
  | @sl i ver z us us' svs fl fl' ups o o' h ha hp r ih =>
    intro vs hn hv
    cases vs with
    | nil => simp [SVrs] at hv
    | cons v vs =>
      simp only [SVrs] at hv
      simp only [List.map_cons, List.nodup_cons] at hn
      obtain ⟨i1, i2, i3, i4, i5⟩ := ih hn.2 hv.2
      have h0 := hv.1
      simp only [SVr] at h0
      obtain ⟨hv', o1, k1, k2, k3, k5, k4⟩ := h0
      rw [h] at k2
      obtain rfl := Option.some.inj k2
      have hob := hH.objs i _ _ h k1
      obtain ⟨hver, hlive, hft, e, hown⟩ := ha.own' hob
      have k6 := k4 hver.symm
      subst k6
      have hfp : ∀ b ∈ (U.sl z us).fp w [v], OwnB L env w i b := fun b hb => ⟨_, _, h, hlive, k1, (hft b).2 hb⟩
      refine ⟨⟨own_tr hown, i1⟩, ?_, ?_, ?_, ?_⟩
      · simp only [fpl]
        refine List.nodup_append.2 ⟨hown.2.2.2, i2, fun x hx y hy hxy => ?_⟩
        subst hxy
        obtain ⟨j, hj, ho⟩ := i3 x hy
        have := (hfp x hx).inj hH ho
        subst this
        exact hn.1 hj
      · intro b hb
        simp only [fpl, List.mem_append] at hb
        rcases hb with hb | hb
        · exact ⟨i, by simp, hfp b hb⟩
        · obtain ⟨j, hj, ho⟩ := i3 b hb
          exact ⟨j, by simp only [List.map_cons, List.mem_cons]; exact .inr hj, ho⟩
      · intro p hp
        rcases List.mem_cons.1 hp with rfl | hp
        · exact (List.getElem?_eq_some_iff.1 h).1
        · exact i4 p hp
      · intro p hp'
        rcases List.mem_cons.1 hp' with rfl | hp'
        · exact ⟨0, z, ver, us, us', _, v, rfl, rfl, rfl, h, k1, ha, hp⟩
        · obtain ⟨idx, z', ver', us1, us1', o1, c, q1, q2, q3, q⟩ := i5 p hp'
          exact ⟨idx + 1, z', ver', us1, us1', o1, c, by simpa using q1, by simpa using q2, by simpa using q3, q⟩
  | @nl z svs fl fl' ups r ih =>
    intro vs hn hv
    cases vs with
    | nil => simp [SVrs] at hv
    | cons v vs =>
      simp only [SVrs] at hv
      obtain ⟨i1, i2, i3, i4, i5⟩ := ih hn hv.2
      have h0 := hv.1
      simp only [SVr] at h0
      subst h0
      obtain ⟨k1, k2⟩ := Tr.nil w z
      simp only [fpl, k2, List.nil_append]
      refine ⟨⟨k1, i1⟩, i2, i3, i4, fun p hp => ?_⟩
      obtain ⟨idx, z', ver', us1, us1', o1, c, q1, q2, q3, q⟩ := i5 p hp
      exact ⟨idx + 1, z', ver', us1, us1', o1, c, by simpa using q1, by simpa using q2, by simpa using q3, q⟩
  | i r ih =>
    intro vs hn hv
    cases vs with
    | nil => simp [SVrs] at hv
    | cons v vs =>
      simp only [SVrs] at hv
      obtain ⟨i1, i2, i3, i4, i5⟩ := ih hn hv.2
      have h0 := SVr.int.1 hv.1
      subst h0
      simp only [fpl, U.fp, List.nil_append]
      refine ⟨⟨by simp [Tr], i1⟩, i2, i3, i4, fun p hp => ?_⟩
      obtain ⟨idx, z', ver', us1, us1', o1, c, q1, q2, q3, q⟩ := i5 p hp
      exact ⟨idx + 1, z', ver', us1, us1', o1, c, by simpa using q1, by simpa using q2, by simpa using q3, q⟩
  | b r ih =>
    intro vs hn hv
    cases vs with
    | nil => simp [SVrs] at hv
    | cons v vs =>
      simp only [SVrs] at hv
      obtain ⟨i1, i2, i3, i4, i5⟩ := ih hn hv.2
      have h0 := SVr.bool.1 hv.1
      subst h0
      simp only [fpl, U.fp, List.nil_append]
      refine ⟨⟨by simp [Tr], i1⟩, i2, i3, i4, fun p hp => ?_⟩
      obtain ⟨idx, z', ver', us1, us1', o1, c, q1, q2, q3, q⟩ := i5 p hp
      exact ⟨idx + 1, z', ver', us1, us1', o1, c, by simpa using q1, by simpa using q2, by simpa using q3, q⟩
  | s r ih =>
    intro vs hn hv
    cases vs with
    | nil => simp [SVrs] at hv
    | cons v vs =>
      simp only [SVrs] at hv
      obtain ⟨i1, i2, i3, i4, i5⟩ := ih hn hv.2
      obtain ⟨hb, rfl⟩ := SVr.str.1 hv.1
      simp only [fpl, U.fp, List.nil_append]
      refine ⟨⟨by simp only [Tr]; exact ⟨hb, trivial⟩, i1⟩, i2, i3, i4, fun p hp => ?_⟩
      obtain ⟨idx, z', ver', us1, us1', o1, c, q1, q2, q3, q⟩ := i5 p hp
      exact ⟨idx + 1, z', ver', us1, us1', o1, c, by simpa using q1, by simpa using q2, by simpa using q3, q⟩
theorem fpl_get : ∀ (fl : List U) (vs : List Value) (j : Nat) (u : U) (c : Value), fl[j]? = some u → vs[j]? = some c → ∀ b ∈ u.fp w [c], b ∈ fpl w fl vs
  | [], _, _, _, _, h, _, _, _ => by simp at h
  | u0 :: fl, [], _, _, _, _, h, _, _ => by simp at h
  | u0 :: fl, c0 :: vs, 0, u, c, h, h', b, hb => by simp at h h'; subst h; subst h'; simp [fpl, hb]
  | u0 :: fl, c0 :: vs, j + 1, u, c, h, h', b, hb => by simp only [fpl, List.mem_append]; exact .inr (fpl_get fl vs j u c (by simpa using h) (by simpa using h') b hb)
theorem fpl_inj : ∀ (fl : List U) (vs : List Value) (j j' : Nat) (u u' : U) (c c' : Value), (fpl w fl vs).Nodup → fl[j]? = some u → vs[j]? = some c → fl[j']? = some u' → vs[j']? = some c' → ∀ b, b ∈ u.fp w [c] → b ∈ u'.fp w [c'] → j = j'
  | [], _, _, _, _, _, _, _, _, h, _, _, _, _, _, _ => by simp at h
  | u0 :: fl, [], _, _, _, _, _, _, _, _, h, _, _, _, _, _ => by simp at h
  | u0 :: fl, c0 :: vs, 0, 0, _, _, _, _, _, _, _, _, _, _, _, _ => rfl
  | u0 :: fl, c0 :: vs, 0, j' + 1, u, u', c, c', hn, h1, h2, h3, h4, b, hb, hb' => by
    simp at h1 h2; subst h1; subst h2
    simp only [fpl] at hn
    exact ((List.nodup_append.1 hn).2.2 b hb b (fpl_get fl vs j' u' c' (by simpa using h3) (by simpa using h4) b hb') rfl).elim
  | u0 :: fl, c0 :: vs, j + 1, 0, u, u', c, c', hn, h1, h2, h3, h4, b, hb, hb' => by
    simp at h3 h4; subst h3; subst h4
    simp only [fpl] at hn
    exact ((List.nodup_append.1 hn).2.2 b hb' b (fpl_get fl vs j u c (by simpa using h1) (by simpa using h2) b hb) rfl).elim
  | u0 :: fl, c0 :: vs, j + 1, j' + 1, u, u', c, c', hn, h1, h2, h3, h4, b, hb, hb' => by
    simp only [fpl] at hn
    rw [fpl_inj fl vs j j' u u' c c' (List.nodup_append.1 hn).2.1 (by simpa using h1) (by simpa using h2) (by simpa using h3) (by simpa using h4) b hb hb']
/-- The caller's heap behind such a call. -/
theorem HeapR.turned (hH : HeapR A S L env w) {L' : List LO} {svs : List SV} {u u' : U} {ups : List (Nat × LO)} {cs : List Value} {w' : World} (h : MU L svs u.flat u'.flat ups) (hn : (ups.map (·.1)).Nodup) (hv : SVrs S L env w svs cs) (hup : UpL ups L L') (hlen : cs.length = u.sz) (hP : MPost w w' u u' cs) :
    HeapR A S L' env w' ∧ Carry S L env w S L' env w' := by
  obtain ⟨i1, i2, i3, i4, i5⟩ := h.r hH hn hv
  obtain ⟨l1, l2, l3⟩ := hup.spec hn i4
  have hfp : u.fp w cs = fpl w u.flat cs := fp_flat _ _ hlen
  have hlen' := Tr.len _ _ hP.tr
  have hfp' : u'.fp w' cs = fpl w' u'.flat cs := fp_flat _ _ hlen'
  have hmem : ∀ i, i ∈ ups.map (·.1) → ∃ o', (i, o') ∈ ups := fun i hi => by
    obtain ⟨p, hp, rfl⟩ := List.mem_map.1 hi
    exact ⟨p.2, hp⟩
  have hkeep : ∀ (j : Nat) (o' : LO) (hv' : Value), j ∉ ups.map (·.1) → L[j]? = some o' → o'.live = true → env[j]? = some hv' → ∀ k, o'.ft w hv' k → w'.heap[k]? = w.heap[k]? := fun j o' hv' hj h3 hl h2 k hk =>
    hP.fr k (hH.excl j o' hv' k h3 hl h2 hk).2.2 (fun hm => by
      rw [hfp] at hm
      obtain ⟨i, hi, ho⟩ := i3 k hm
      have := ho.inj hH ⟨o', hv', h3, hl, h2, hk⟩
      subst this
      exact hj hi)
  have hfe : ∀ (j : Nat) (o' : LO) (hv' : Value), j ∉ ups.map (·.1) → L[j]? = some o' → o'.live = true → env[j]? = some hv' → ∀ k, o'.ft w' hv' k → o'.ft w hv' k := fun j o' hv' hj h3 hl h2 k hk =>
    (LO.ft_eq (hH.objs j o' hv' h3 h2) (hkeep j o' hv' hj h3 hl h2) k).1 hk
  have hnew : ∀ j o' hv' k, (j, o') ∈ ups → env[j]? = some hv' → o'.ft w' hv' k → k < w'.heap.size ∧ ((∃ i ∈ ups.map (·.1), OwnB L env w i k) ∨ w.heap.size ≤ k) ∧ ∃ (idx z : Nat) (us' : List U), u'.flat[idx]? = some (.sl z us') ∧ cs[idx]? = some hv' ∧ k ∈ (U.sl z us').fp w' [hv'] := by
    intro j o' hv' k hp he hk
    obtain ⟨idx, z, ver, us, us', o, c, q1, q2, q3, q4, q5, q6, q7⟩ := i5 (j, o') hp
    rw [he] at q5
    obtain rfl := Option.some.inj q5
    have hk' := (q7.ft q6 w' hv' k).1 hk
    have := hP.sub k (by rw [hfp']; exact fpl_get _ _ idx _ _ q2 q3 k hk')
    rw [hfp] at this
    exact ⟨this.1, this.2.imp (fun h => i3 k h) id, idx, z, us', q2, q3, hk'⟩
  have C : Carry S L env w S L' env w' := by
    refine ⟨fun _ h _ => h, fun k hk hlt => hP.fr k hlt (fun hm => ?_), fun i b hi => hi, fun j hv' o h1 h2 => ?_⟩
    · rw [hfp] at hm
      obtain ⟨i, hi, o, hv', n1, n2, n3, n4⟩ := i3 k hm
      exact (hH.excl i o hv' k n1 n2 n3 n4).1 hk
    · by_cases hj : j ∈ ups.map (·.1)
      · obtain ⟨o', hp⟩ := hmem j hj
        obtain ⟨idx, z, ver, us, us', o1, c, q1, q2, q3, q4, q5, q6, q7⟩ := i5 (j, o') hp
        rw [h2] at q4
        obtain rfl := Option.some.inj q4
        exact ⟨hv', o', h1, l3 _ hp, by rw [q7.ver]; exact Nat.le_refl _, fun _ => rfl⟩
      · exact ⟨hv', o, h1, by rw [l2 j hj]; exact h2, Nat.le_refl _, fun _ => rfl⟩
  have hsplit : ∀ (j : Nat) (o : LO), L'[j]? = some o → (j ∈ ups.map (·.1) ∧ (j, o) ∈ ups) ∨ (j ∉ ups.map (·.1) ∧ L[j]? = some o) := by
    intro j o hj
    by_cases hm : j ∈ ups.map (·.1)
    · obtain ⟨o', hp⟩ := hmem j hm
      have := l3 _ hp
      simp only at this
      rw [hj] at this
      obtain rfl := Option.some.inj this
      exact .inl ⟨hm, hp⟩
    · exact .inr ⟨hm, by rw [← l2 j hm]; exact hj⟩
  refine ⟨⟨by rw [l1]; exact hH.len, ?_, ?_, ?_, fun b hb => Nat.lt_of_lt_of_le (hH.sS b hb) hP.size, hH.sA, fun k h1 h2 => ?_, Nat.le_trans hH.size hP.size, hP.os.trans hH.os, hP.tape.trans hH.tape, hP.output.trans hH.output, hH.base.carry C hH.len (by omega), hH.glob⟩, C⟩
  · intro j o hv' h1 h2
    rcases hsplit j o h1 with ⟨hm, hp⟩ | ⟨hm, h3⟩
    · obtain ⟨idx, z, ver, us, us', o1, c, q1, q2, q3, q4, q5, q6, q7⟩ := i5 (j, o) hp
      rw [h2] at q5
      obtain rfl := Option.some.inj q5
      have hob := hH.objs j _ _ q4 h2
      obtain ⟨_, _, _, e1, hown⟩ := q6.own' hob
      obtain ⟨_, _, ⟨xs, x1, _⟩, _⟩ := hown
      obtain ⟨us2, xs2, y1, y2, y3, _, _⟩ := hP.ty idx e1 z us hv' q1 q3 ⟨xs, x1⟩
      rw [q2] at y1
      simp only [Option.some.injEq, U.sl.injEq, true_and] at y1
      subst y1
      refine q7.obj q6 hob ⟨y2, y3, fun e2 he2 => ?_, ?_⟩
      · obtain ⟨us3, xs3, z1, _, _, z4, z5⟩ := hP.ty idx e2 z us hv' q1 q3 he2
        rw [q2] at z1
        simp only [Option.some.injEq, U.sl.injEq, true_and] at z1
        subst z1
        exact ⟨xs3, z4, z5⟩
      · have hnd := hP.nd
        rw [hfp'] at hnd
        have key : ∀ (fl : List U) (vs : List Value) (j : Nat) (u : U) (c : Value), (fpl w' fl vs).Nodup → fl[j]? = some u → vs[j]? = some c → (u.fp w' [c]).Nodup := by
          intro fl
          induction fl with
          | nil => intro vs j u c _ h; simp at h
          | cons u0 fl ih =>
            intro vs j u c hn h1 h2
            cases vs with
            | nil => simp at h2
            | cons c0 vs =>
              simp only [fpl] at hn
              cases j with
              | zero => simp at h1 h2; subst h1; subst h2; exact (List.nodup_append.1 hn).1
              | succ j => exact ih vs j u c (List.nodup_append.1 hn).2.1 (by simpa using h1) (by simpa using h2)
        exact key _ _ idx _ _ hnd q2 q3
    · cases hl : o.live with
      | true => exact ObjR.carry C (fun k hl hk => hkeep j o hv' hm h3 hl h2 k hk) (hH.objs j o hv' h3 h2)
      | false => exact ObjR.carry C (fun k hl' hk => by rw [hl] at hl'; cases hl') (hH.objs j o hv' h3 h2)
  · intro j o hv' k h1 hl h2 hk
    rcases hsplit j o h1 with ⟨hm, hp⟩ | ⟨hm, h3⟩
    · obtain ⟨n1, n2, _⟩ := hnew j o hv' k hp h2 hk
      rcases n2 with ⟨i, _, o1, hv1, n3, n4, n5, n6⟩ | n2
      · have := hH.excl i o1 hv1 k n3 n4 n5 n6
        exact ⟨this.1, this.2.1, n1⟩
      · exact ⟨fun hs => by have := hH.sS k hs; omega, .inr (Nat.le_trans hH.size n2), n1⟩
    · have := hH.excl j o hv' k h3 hl h2 (hfe j o hv' hm h3 hl h2 k hk)
      exact ⟨this.1, this.2.1, Nat.lt_of_lt_of_le this.2.2 hP.size⟩
  · intro j j' o o' hv1 hv1' k h1 h2 hl1 hl2 e1 e2 b1 b2
    have clash : ∀ j j' o o' hv1 hv1', (j, o) ∈ ups → env[j]? = some hv1 → o.ft w' hv1 k → j' ∉ ups.map (·.1) → L[j']? = some o' → o'.live = true → env[j']? = some hv1' → o'.ft w' hv1' k → False := by
      intro j j' o o' hv1 hv1' hp he hk hm h3 hl he' hk'
      obtain ⟨_, n2, _⟩ := hnew j o hv1 k hp he hk
      have hk2 := hfe j' o' hv1' hm h3 hl he' k hk'
      rcases n2 with ⟨i, hi, ho⟩ | n2
      · have := ho.inj hH ⟨o', hv1', h3, hl, he', hk2⟩
        subst this
        exact hm hi
      · have := (hH.excl j' o' hv1' k h3 hl he' hk2).2.2
        omega
    rcases hsplit j o h1 with ⟨hm, hp⟩ | ⟨hm, h3⟩ <;> rcases hsplit j' o' h2 with ⟨hm', hp'⟩ | ⟨hm', h3'⟩
    · obtain ⟨_, _, idx, z, us1, x1, x2, x3⟩ := hnew j o hv1 k hp e1 b1
      obtain ⟨_, _, idx', z', us1', y1, y2, y3⟩ := hnew j' o' hv1' k hp' e2 b2
      have hnd := hP.nd
      rw [hfp'] at hnd
      have hidx := fpl_inj _ _ idx idx' _ _ _ _ hnd x1 x2 y1 y2 k x3 y3
      subst hidx
      rw [x2] at y2
      obtain rfl := Option.some.inj y2
      -- the same header: the same block: the same owner
      obtain ⟨i0, zz, ver, us, us', oo, c, q1, q2, q3, q4, q5, q6, q7⟩ := i5 (j, o) hp
      obtain ⟨i0', zz', ver', uss, uss', oo', c', q1', q2', q3', q4', q5', q6', q7'⟩ := i5 (j', o') hp'
      simp only at q4 q5 q4' q5'
      rw [e1] at q5; rw [e2] at q5'
      obtain rfl := Option.some.inj q5
      obtain rfl := Option.some.inj q5'
      obtain ⟨_, f1, f2, e3, hown⟩ := q6.own' (hH.objs j _ _ q4 e1)
      obtain ⟨_, f1', f2', e3', hown'⟩ := q6'.own' (hH.objs j' _ _ q4' e2)
      obtain ⟨r1, r2, ⟨xs, r3, r4⟩, r5⟩ := hown
      obtain ⟨r1', r2', ⟨xs', r3', r4'⟩, r5'⟩ := hown'
      rcases fp_own r2 r3 with ⟨hnil, _, _⟩ | ⟨g, cap, hsome, hf⟩
      · subst hnil; simp [U.fp] at x3
      · rcases fp_own r2' r3' with ⟨hnil, _, _⟩ | ⟨g', cap', hsome', hf'⟩
        · rw [hsome] at hnil; cases hnil
        · rw [hsome] at hsome'
          have hg : g = g' := by injection hsome' with h _; injection h with h; injection h
          subst hg
          exact hH.dist j j' oo oo' hv1 hv1 g q4 q4' f1 f1' e1 e2 ((f2 g).2 (by rw [hf]; simp)) ((f2' g).2 (by rw [hf']; simp))
    · exact (clash j j' o o' hv1 hv1' hp e1 b1 hm' h3' hl2 e2 b2).elim
    · exact (clash j' j o' o hv1' hv1 hp' e2 b2 hm h3 hl1 e1 b1).elim
    · exact hH.dist j j' o o' hv1 hv1' k h3 h3' hl1 hl2 e1 e2 (hfe j o hv1 hm h3 hl1 e1 k b1) (hfe j' o' hv1' hm' h3' hl2 e2 k b2)
  · rw [hP.fr k (Nat.lt_of_lt_of_le h1 hH.size) (fun hm => ?_)]
    · exact hH.frame k h1 h2
    · rw [hfp] at hm
      obtain ⟨i, _, o, hv', n1, n2, n3, n4⟩ := i3 k hm
      rcases (hH.excl i o hv' k n1 n2 n3 n4).2.1 with hE | hE
      · exact h2 hE
      · omega
end

section
variable {P : Program} {A : Amb} {σ : St} {K : St → Prop}
variable {ops : Array Oper} {rest : List Oper} {t : Nat} {ty : TypeId} {pos : String} {af : Array Edge} {x y : Operand} {sv : SV}
/-- A call that turns what it is handed. -/
theorem VO_callM {f : Operand} {fi : Nat} {at_ : Array TypeId} {u u' : U} {kk kk' : Int} {ups : List (Nat × LO)} {fr : List (Nat × SV)} {L L' : List LO} {N : Nat} {sx : SV} (hf : (St.mk fr L N).ev f = .fn fi []) (hspec : MSpec P fi u kk u' kk') (hx : (St.mk fr L N).ev x = sx) (hy : (St.mk fr L N).ev y = .d (.i .i64 kk))
    (hm : MV L sx u u' ups) (hn : decide ((ups.map (·.1)).Nodup) = true) (hup : UpL ups L L') (ht : Nat.blt t N = true) (h : VO P A ops rest ⟨(t, .d (.i .i64 kk')) :: fr, L', N⟩ K) :
    VO P A ops (⟨some t, .call { callee := .value f, args := #[x, y], argTypes := at_ }, ty, pos, af, none⟩ :: rest) ⟨fr, L, N⟩ K := by
  have hn := of_decide_eq_true hn
  intro R hR a w ⟨S, env, hH, hfr, hN, hd⟩
  refine wpList_plain rfl fun K' hK' => ?_
  have h1 := Realz.ev hfr hH f
  rw [hf] at h1
  simp only [SVr] at h1
  obtain ⟨cvs, h1, h2⟩ := h1
  have h2' : cvs = [] := by cases cvs with
    | nil => rfl
    | cons _ _ => simp [SVrs] at h2
  subst h2'
  have h3 := Realz.ev hfr hH x
  have h4 := Realz.ev hfr hH y
  rw [hx] at h3
  rw [hy, SVr.int] at h4
  obtain ⟨svs, cs, k1, k2, k3⟩ : ∃ svs cs, a.eval x = val u cs ∧ SVrs S L env w svs cs ∧ MU L svs u.flat u'.flat ups := by
    cases hm with
    | ag hl hl' h =>
      have e1 := hl.eq
      have e2 := hl'.eq
      subst e1; subst e2
      simp only [SVr] at h3
      obtain ⟨vs, h3, h5⟩ := h3
      exact ⟨_, vs, h3, h5, by simpa only [U.flat] using h⟩
    | sl h => exact ⟨[sx], [a.eval x], rfl, by simp only [SVrs]; exact ⟨h3, trivial⟩, h⟩
  obtain ⟨i1, i2, i3, i4, i5⟩ := k3.r hH hn k2
  have htr : Tr w u cs := Tr.of_leafs _ _ i1
  have hlen := Tr.len _ _ htr
  have hnd : (u.fp w cs).Nodup := by rw [fp_flat _ _ hlen]; exact i2
  obtain ⟨hc, hs⟩ := hspec
  unfold Oper.wp
  have hrun := call_run (dst := some t) (ty := ty) (pos := pos) (af := af) (g := none) (w := w) (args := #[x, y]) (at_ := at_) h1 hc
  rw [hrun]
  simp only [Oper.upon]
  have hargs : ((#[x, y] : Array Operand).toList.map a.eval).toArray = #[a.eval x, .int .i64 kk] := by simp [h4]
  rw [hargs]
  refine (hs w (a.eval x) cs k1 htr hnd (hH.gok fun b hb => by
    rw [fp_flat _ _ hlen] at hb
    obtain ⟨j, _, o, hv, n1, n2, n3, n4⟩ := i3 b hb
    exact (hH.excl j o hv b n1 n2 n3 n4).2.1)).mono ?_
  rintro e w' ⟨rfl, hP⟩
  obtain ⟨hH', C⟩ := hH.turned k3 hn k2 hup hlen hP
  exact hK' _ _ (h R hR _ _ (realz_put (σ := ⟨fr, L, N⟩) hfr hN hd ht hH' C (SVr.int.2 rfl)))

/-! ### what lies in an element, turned -/
inductive HS (old new : U) : List U → Nat → List U → Prop
  | hit {us : List U} : HS old new (old :: us) 0 (new :: us)
  | into {ws us r : List U} {o : Nat} (hlt : Nat.blt o (U.szs ws) = true) (h : HS old new ws o r) : HS old new (.st ws :: us) o (.st r :: us)
  | over {u0 : U} {us r : List U} {o o' : Nat} (hlt : Nat.ble u0.sz o = true) (ho : o - u0.sz = o') (h : HS old new us o' r) : HS old new (u0 :: us) o (u0 :: r)
theorem HS.tr {w : World} {old new : U} (h1 : old.sz = 1) (h2 : new.sz = 1) {us us' : List U} {o : Nat} (h : HS old new us o us') : ∀ (cs : List Value), Trs w us cs → (U.fps w us cs).Nodup → (∀ b ∈ U.fps w us cs, b < w.heap.size) →
    ∃ c, cs[o]? = some c ∧ Tr w old [c] ∧ (old.fp w [c]).Nodup ∧ (∀ b ∈ old.fp w [c], b ∈ U.fps w us cs) ∧
    ∀ w', Tr w' new [c] → (new.fp w' [c]).Nodup → (∀ b ∈ new.fp w' [c], b ∈ old.fp w [c] ∨ w.heap.size ≤ b) → (∀ b, b < w.heap.size → b ∉ old.fp w [c] → w'.heap[b]? = w.heap[b]?) →
      Trs w' us' cs ∧ (U.fps w' us' cs).Nodup ∧ (∀ b ∈ U.fps w' us' cs, b ∈ U.fps w us cs ∧ (b ∈ new.fp w' [c] ∨ b ∉ old.fp w [c]) ∨ (w.heap.size ≤ b ∧ b ∈ new.fp w' [c])) ∧ U.szs us' = U.szs us := by
  induction h with
  | @hit us =>
    intro cs ht hn hlt
    have hl := Trs.len _ _ ht
    simp only [U.szs, h1] at hl
    simp only [Trs, U.fps, h1] at ht hn hlt
    cases cs with
    | nil => simp at hl; omega
    | cons c cs =>
      simp only [List.take_succ_cons, List.take_zero, List.drop_succ_cons, List.drop_zero] at ht hn hlt
      obtain ⟨n1, n2, n3⟩ := List.nodup_append.1 hn
      refine ⟨c, rfl, ht.1, n1, fun b hb => by simp only [U.fps, h1, List.take_succ_cons, List.take_zero, List.mem_append]; exact .inl hb, fun w' t1 t2 t3 t4 => ?_⟩
      obtain ⟨q1, q2⟩ := Trs.loc (w' := w') _ _ ht.2 (fun b hb => t4 b (hlt b (by simp [hb])) (fun hm => n3 b hm b hb rfl))
      simp only [Trs, U.fps, h1, h2, List.take_succ_cons, List.take_zero, List.drop_succ_cons, List.drop_zero, q2, U.szs]
      refine ⟨⟨t1, q1⟩, List.nodup_append.2 ⟨t2, n2, fun x hx y hy hxy => ?_⟩, fun b hb => ?_, trivial⟩
      · subst hxy
        rcases t3 x hx with h | h
        · exact n3 x h x hy rfl
        · have := hlt x (by simp [hy]); omega
      · rcases List.mem_append.1 hb with hb | hb
        · rcases t3 b hb with h | h
          · exact .inl ⟨by simp [h], .inl hb⟩
          · exact .inr ⟨h, hb⟩
        · exact .inl ⟨by simp [hb], .inr (fun hm => n3 b hm b hb rfl)⟩
  | @into ws us r o hlt0 h ih =>
    intro cs ht hn hlt
    simp only [Nat.blt_eq] at hlt0
    simp only [Trs, Tr, U.fps, U.fp, U.sz] at ht hn hlt
    obtain ⟨n1, n2, n3⟩ := List.nodup_append.1 hn
    obtain ⟨c, k1, k2, k3, k4, k5⟩ := ih _ ht.1 n1 (fun b hb => hlt b (by simp [hb]))
    refine ⟨c, by rw [List.getElem?_take, if_pos hlt0] at k1; exact k1, k2, k3, fun b hb => by simp only [U.fps, U.fp, U.sz, List.mem_append]; exact .inl (k4 b hb), fun w' t1 t2 t3 t4 => ?_⟩
    obtain ⟨p1, p2, p3, p4⟩ := k5 w' t1 t2 t3 t4
    obtain ⟨q1, q2⟩ := Trs.loc (w' := w') _ _ ht.2 (fun b hb => t4 b (hlt b (by simp [hb])) (fun hm => n3 b (k4 b hm) b hb rfl))
    simp only [Trs, Tr, U.fps, U.fp, U.sz, U.szs, p4, q2]
    refine ⟨⟨p1, q1⟩, List.nodup_append.2 ⟨p2, n2, fun x hx y hy hxy => ?_⟩, fun b hb => ?_, trivial⟩
    · subst hxy
      rcases p3 x hx with h | h
      · exact n3 x h.1 x hy rfl
      · have := hlt x (by simp [hy]); omega
    · rcases List.mem_append.1 hb with hb | hb
      · rcases p3 b hb with h | h
        · exact .inl ⟨by simp [h.1], h.2⟩
        · exact .inr h
      · exact .inl ⟨by simp [hb], .inr (fun hm => n3 b (k4 b hm) b hb rfl)⟩
  | @over u0 us r o o' hle0 ho h ih =>
    intro cs ht hn hlt
    have hle := Nat.le_of_ble_eq_true hle0
    simp only [Trs, U.fps] at ht hn hlt
    obtain ⟨n1, n2, n3⟩ := List.nodup_append.1 hn
    obtain ⟨c, k1, k2, k3, k4, k5⟩ := ih _ ht.2 n2 (fun b hb => hlt b (by simp [hb]))
    refine ⟨c, by rw [List.getElem?_drop] at k1; rw [← k1]; congr 1; omega, k2, k3, fun b hb => by simp only [U.fps, List.mem_append]; exact .inr (k4 b hb), fun w' t1 t2 t3 t4 => ?_⟩
    obtain ⟨p1, p2, p3, p4⟩ := k5 w' t1 t2 t3 t4
    obtain ⟨q1, q2⟩ := Tr.loc (w' := w') _ _ ht.1 (fun b hb => t4 b (hlt b (by simp [hb])) (fun hm => n3 b hb b (k4 b hm) rfl))
    simp only [Trs, U.fps, U.szs, p4, q2]
    refine ⟨⟨q1, p1⟩, List.nodup_append.2 ⟨n1, p2, fun x hx y hy hxy => ?_⟩, fun b hb => ?_, trivial⟩
    · subst hxy
      rcases p3 x hy with h | h
      · exact n3 x hx x h.1 rfl
      · have := hlt x (by simp [hx]); omega
    · rcases List.mem_append.1 hb with hb | hb
      · exact .inl ⟨by simp [hb], .inr (fun hm => n3 b hb b (k4 b hm) rfl)⟩
      · rcases p3 b hb with h | h
        · exact .inl ⟨by simp [h.1], h.2⟩
        · exact .inr h

/-- k = f(a[i].field, k): the field's header is read, k is read, the callee turns what the header heads. -/
theorem VO_markcall {T : TypeId} {tl tm tc : Nat} {ty1 ty2 : TypeId} {pos1 pos2 : String} {af1 af2 : Array Edge} {i ver z k off bs : Nat} {o o' : LO} {pre post us us' : List U} {old new : U} {kk kk' : Int} {f : Operand} {fi : Nat} {at_ : Array TypeId} {fr : List (Nat × SV)} {L L' : List LO} {N : Nat}
    (hx : (St.mk fr L N).ev x = .ep i ver z k off) (hL : L[i]? = some o) (ha : AsO o z ver (pre ++ .st us :: post)) (hk : pre.length = k) (hT : tyI P T = some (false, 1, bs)) (hu : HS old new us off us') (ho1 : old.sz = 1) (ho2 : new.sz = 1) (hst : old.isSt = false)
    (hy : (St.mk fr L N).ev y = .d (.i .i64 kk)) (hf : f = .func fi) (hyl : y ≠ .tmp tl) (hspec : MSpec P fi old kk new kk') (hp : PutO o (pre ++ .st us' :: post) o') (hL' : St1 o' i L L') (htl : Nat.blt tl N = true) (htm : Nat.blt tm N = true) (htc : Nat.blt tc N = true) (hne : tl ≠ tm)
    (h : VO P A ops rest ⟨(tc, .d (.i .i64 kk')) :: (tm, .d (.i .i64 kk)) :: (tl, .junk) :: fr, L', N⟩ K) :
    VO P A ops (⟨some tl, .load T x, ty, pos, af, none⟩ :: ⟨some tm, .move y, ty1, pos1, af1, none⟩ :: ⟨some tc, .call { callee := .value f, args := #[.tmp tl, .tmp tm], argTypes := at_ }, ty2, pos2, af2, none⟩ :: rest) ⟨fr, L, N⟩ K := by
  have hL2 := hL'.spec
  subst hL2; subst hk; subst hf
  intro R hR a w ⟨S, env, hH, hfr, hN, hd⟩
  have h1 := Realz.ev hfr hH x
  have h2 := Realz.ev hfr hH y
  rw [hx] at h1
  rw [hy, SVr.int] at h2
  simp only [SVr] at h1
  obtain ⟨hv, o1, k1, k2, k3, k5, k4⟩ := h1
  rw [hL] at k2
  obtain rfl := Option.some.inj k2
  have hver := (own_form ha (hH.objs i _ hv hL k1)).1
  obtain ⟨b, e1, e2⟩ := k4 hver.symm
  obtain ⟨g, cap, cur, e, hveq, hg, hfit, hsz, T1, T2, T3, T4, T5⟩ := hH.reEl hL ha hp k1
  subst hveq
  simp only [blk, Option.some.injEq] at e1
  subst e1
  simp only [Tr, U.fp] at T1 T2 T3 T4
  simp only [U.sz] at hsz
  obtain ⟨c, c1, c2, c3, c4, c5⟩ := hu.tr ho1 ho2 _ T1 T2 (fun b hb => (T4 b hb).1)
  have hoff : off < z := by
    have := (List.getElem?_eq_some_iff.1 c1).1
    simp at this
    omega
  have hcur : cur.toList[pre.length * z + off]? = some c := by
    rw [List.getElem?_take, if_pos hoff, List.getElem?_drop] at c1
    exact c1
  have htl' : tl < a.tmps.size := by rw [hN]; simpa [Nat.blt_eq] using htl
  have htm' : tm < a.tmps.size := by rw [hN]; simpa [Nat.blt_eq] using htm
  -- the load
  refine wpList_plain rfl fun K1 hK1 => ?_
  have hload := run_loadVar hT w g (pre.length * z + off) [c] rfl ⟨cur, e, (0, 0), hg, fun j hj => by simp at hj; subst hj; simpa using hcur⟩ (fun _ => rfl)
  have hrun1 : (execOp a.eval ⟨some tl, .load T x, ty, pos, af, none⟩).run P w = .ok (.value c) w := by
    simp [execOp, Instr.loadAt, e2, Instr.sureAddr, hload]
  unfold Oper.wp
  rw [hrun1]
  refine hK1 _ _ ?_
  -- the move
  refine wpList_plain rfl fun K2 hK2 => ?_
  have hey : (a.put (some tl) c).eval y = .int .i64 kk := by
    rw [Act.eval_put (fun d hd => by cases hd; exact hyl)]
    exact h2
  have hrun2 : (execOp (a.put (some tl) c).eval ⟨some tm, .move y, ty1, pos1, af1, none⟩).run P w = .ok (.value (.int .i64 kk)) w := by
    simp [execOp, hey]
  unfold Oper.wp
  rw [hrun2]
  refine hK2 _ _ ?_
  -- the call
  refine wpList_plain rfl fun K3 hK3 => ?_
  have ev1 : ((a.put (some tl) c).put (some tm) (.int .i64 kk)).eval (.tmp tl) = c := by
    show ((a.put (some tl) c).put (some tm) (.int .i64 kk)).tmps.getD tl undef = c
    rw [Act.getD_put _ tm _ (by simpa [Act.put] using htm'), if_neg hne, Act.getD_put _ tl _ htl', if_pos rfl]
  have ev2 : ((a.put (some tl) c).put (some tm) (.int .i64 kk)).eval (.tmp tm) = .int .i64 kk := by
    show ((a.put (some tl) c).put (some tm) (.int .i64 kk)).tmps.getD tm undef = .int .i64 kk
    rw [Act.getD_put _ tm _ (by simpa [Act.put] using htm'), if_pos rfl]
  obtain ⟨hc, hs⟩ := hspec
  have hrun3 := call_run (P := P) (dst := some tc) (ty := ty2) (pos := pos2) (af := af2) (g := none) (w := w) (a := (a.put (some tl) c).put (some tm) (.int .i64 kk)) (f := .func fi) (fi := fi) (args := #[.tmp tl, .tmp tm]) (at_ := at_) rfl hc
  have hargs : ((#[.tmp tl, .tmp tm] : Array Operand).toList.map ((a.put (some tl) c).put (some tm) (.int .i64 kk)).eval).toArray = #[c, .int .i64 kk] := by simp [ev1, ev2]
  rw [hargs] at hrun3
  unfold Oper.wp
  rw [hrun3]
  simp only [Oper.upon]
  refine (hs w c [c] (by simp [val, hst]) c2 c3 (hH.gok fun b hb => (T4 b (c4 b hb)).2)).mono ?_
  rintro ex w' ⟨rfl, hP⟩
  obtain ⟨p1, p2, p3, p4⟩ := c5 w' hP.tr hP.nd (fun b hb => (hP.sub b hb).2) (fun b h1 h2 => hP.fr b h1 h2)
  have hrow : (cur.toList.take (pre.length * z) ++ (cur.toList.drop (pre.length * z)).take z ++ cur.toList.drop (pre.length * z + z)).toArray = cur := by
    rw [List.append_assoc, ← List.drop_drop, List.take_append_drop, List.take_append_drop]
  have hg' : w'.heap[g]? = w.heap[g]? := hP.fr g (Array.getElem?_eq_some_iff.1 hg).1 (fun hm => T3 (c4 g hm))
  obtain ⟨hH', C⟩ := T5 w' ((cur.toList.drop (pre.length * z)).take z) (by simp; omega) (by simp only [U.sz]; rw [p4, hsz]) (by rw [hrow, hg']; exact hg) (fun b' hb1 hb2 hb3 => hP.fr b' hb1 (fun hm => hb3 (by simp only [U.fp]; exact c4 b' hm))) hP.size hP.os hP.tape hP.output (by simp only [Tr]; exact p1) (by simp only [U.fp]; exact p2) (fun b' hb' => by
      simp only [U.fp] at hb' ⊢
      rcases p3 b' hb' with ⟨q1, _⟩ | ⟨q1, q2⟩
      · exact ⟨Nat.lt_of_lt_of_le (T4 b' q1).1 hP.size, .inl q1⟩
      · exact ⟨(hP.sub b' q2).1, .inr q1⟩)
  refine hK3 _ _ (h R hR _ _ ?_)
  -- the slots
  have s1 : Realz A ⟨(tl, .junk) :: fr, L, N⟩ (a.put (some tl) c) w := realz_put (σ := ⟨fr, L, N⟩) hfr hN hd htl hH Carry.refl (by simp only [SVr])
  obtain ⟨S1, env1, hH1, hf1, hN1, hd1⟩ := (realz_put (σ := ⟨fr, L, N⟩) (sv := .junk) (v := c) hfr hN hd htl hH Carry.refl (by simp only [SVr]) : Realz A ⟨(tl, .junk) :: fr, L, N⟩ (a.put (some tl) c) w)
  clear s1 hH1 hf1
  have f1 : ∀ t, SVr S L env w (look ((tl, .junk) :: fr) t) ((a.put (some tl) c).tmps.getD t undef) := by
    intro u
    rw [Act.getD_put a tl c htl' u]
    simp only [look]
    split
    · simp only [SVr]
    · exact hfr u
  have f2 : ∀ t, SVr S L env w (look ((tm, .d (.i .i64 kk)) :: (tl, .junk) :: fr) t) (((a.put (some tl) c).put (some tm) (.int .i64 kk)).tmps.getD t undef) := by
    intro u
    rw [Act.getD_put _ tm _ (by simpa [Act.put] using htm') u]
    simp only [look]
    split
    · exact SVr.int.2 rfl
    · exact f1 u
  exact realz_put (σ := ⟨(tm, .d (.i .i64 kk)) :: (tl, .junk) :: fr, L, N⟩) f2 (by simp [Act.put, hN]) (by simp [Act.put, hd]) htc hH' C (SVr.int.2 rfl)
end
end Go.Eng
namespace Go.Eng
open Go Go.RowKit

class TU (P : Program) (T : TypeId) (k : outParam IntKind) : Prop where
  h : P.underlying T = some (.int k)
/-- The digits of n ahead of acc. -/
def dg : Nat → Nat → List UInt8 → List UInt8
  | 0, _, acc => acc
  | f + 1, n, acc => if n = 0 then acc else dg f (n / 10) (UInt8.ofNat (IntKind.u8.wrap (48 + ((n % 10 : Nat) : Int))).toNat :: acc)
def txt (k : Int) : List UInt8 := 109 :: dg 64 k.toNat []
theorem dg_len : ∀ (f n : Nat) (acc : List UInt8), (dg f n acc).length ≤ acc.length + f
  | 0, _, _ => by simp [dg]
  | f + 1, n, acc => by
    unfold dg
    split
    · omega
    · have := dg_len f (n / 10) (UInt8.ofNat (IntKind.u8.wrap (48 + ((n % 10 : Nat) : Int))).toNat :: acc)
      simp only [List.length_cons] at this
      omega
mutual
def U.mk : U → Int → U × Int
  | .i kd _, k => (.i kd k, k + 1)
  | .b _, k => (.b (k % 3 == 0), k + 1)
  | .s _, k => (.s (txt k), k + 1)
  | .st us, k => (.st (U.mks us k).1, (U.mks us k).2)
  | .sl z us, k => (.sl z (U.mks us k).1, (U.mks us k).2)
def U.mks : List U → Int → List U × Int
  | [], k => ([], k)
  | u :: us, k => ((u.mk k).1 :: (U.mks us (u.mk k).2).1, (U.mks us (u.mk k).2).2)
end
mutual
/-- What a struct by value lets be marked: its slices. -/
def U.mkt : U → Int → U × Int
  | .i kd n, k => (.i kd n, k)
  | .b x, k => (.b x, k)
  | .s l, k => (.s l, k)
  | .st us, k => (.st (U.mkts us k).1, (U.mkts us k).2)
  | .sl z us, k => (.sl z (U.mks us k).1, (U.mks us k).2)
def U.mkts : List U → Int → List U × Int
  | [], k => ([], k)
  | u :: us, k => ((u.mkt k).1 :: (U.mkts us (u.mkt k).2).1, (U.mkts us (u.mkt k).2).2)
end
mutual
/-- How many scalars. -/
def U.lf : U → Nat
  | .i _ _ => 1
  | .b _ => 1
  | .s _ => 1
  | .st us => U.lfs us
  | .sl _ us => U.lfs us
def U.lfs : List U → Nat
  | [] => 0
  | u :: us => u.lf + U.lfs us
end
mutual
theorem mk_snd : ∀ (u : U) (k : Int), (u.mk k).2 = k + u.lf
  | .i _ _, k => rfl
  | .b _, k => rfl
  | .s _, k => rfl
  | .st us, k => by simp only [U.mk, U.lf]; exact mks_snd us k
  | .sl _ us, k => by simp only [U.mk, U.lf]; exact mks_snd us k
theorem mks_snd : ∀ (us : List U) (k : Int), (U.mks us k).2 = k + U.lfs us
  | [], k => by simp [U.mks, U.lfs]
  | u :: us, k => by simp only [U.mks, U.lfs, mks_snd us, mk_snd u]; omega
end
theorem mks_len : ∀ (us : List U) (k : Int), (U.mks us k).1.length = us.length
  | [], _ => rfl
  | u :: us, k => by simp [U.mks, mks_len us]
theorem mks_append : ∀ (us vs : List U) (k : Int), (U.mks (us ++ vs) k).1 = (U.mks us k).1 ++ (U.mks vs (U.mks us k).2).1 ∧ (U.mks (us ++ vs) k).2 = (U.mks vs (U.mks us k).2).2
  | [], _, _ => ⟨rfl, rfl⟩
  | u :: us, vs, k => by
    obtain ⟨h1, h2⟩ := mks_append us vs (u.mk k).2
    exact ⟨by simp only [List.cons_append, U.mks, h1], by simp only [List.cons_append, U.mks, h2]⟩
theorem lfs_append : ∀ (us vs : List U), U.lfs (us ++ vs) = U.lfs us + U.lfs vs
  | [], _ => by simp [U.lfs]
  | u :: us, vs => by simp only [List.cons_append, U.lfs, lfs_append us vs]; omega
theorem drop_get {us : List U} {k : Nat} {u : U} (h : us[k]? = some u) : us.drop k = u :: us.drop (k + 1) := by
  obtain ⟨hk, rfl⟩ := List.getElem?_eq_some_iff.1 h
  rw [List.drop_eq_getElem_cons hk]
theorem take_get {us : List U} {k : Nat} {u : U} (h : us[k]? = some u) : us.take (k + 1) = us.take k ++ [u] := by
  obtain ⟨hk, rfl⟩ := List.getElem?_eq_some_iff.1 h
  rw [List.take_succ_eq_append_getElem hk]
theorem mks_next {us : List U} {k : Nat} {u : U} (h : us[k]? = some u) (kk : Int) : (U.mks (us.take (k + 1)) kk).1 = (U.mks (us.take k) kk).1 ++ [(u.mk (U.mks (us.take k) kk).2).1] ∧ (U.mks (us.take (k + 1)) kk).2 = (u.mk (U.mks (us.take k) kk).2).2 := by
  rw [take_get h]
  obtain ⟨h1, h2⟩ := mks_append (us.take k) [u] kk
  rw [h1, h2]
  exact ⟨rfl, rfl⟩
theorem mks_get {us : List U} {k : Nat} {u : U} (h : us[k]? = some u) (kk : Int) : (U.mks us kk).1[k]? = some (u.mk (U.mks (us.take k) kk).2).1 := by
  have hs : us = us.take k ++ (u :: us.drop (k + 1)) := by rw [← drop_get h, List.take_append_drop]
  have hk := (List.getElem?_eq_some_iff.1 h).1
  obtain ⟨h1, _⟩ := mks_append (us.take k) (u :: us.drop (k + 1)) kk
  rw [← hs] at h1
  rw [h1, List.getElem?_append_right (by rw [mks_len]; simp; omega), mks_len]
  have : k - (us.take k).length = 0 := by simp; omega
  rw [this]
  rfl
theorem lfs_mid {us : List U} {k : Nat} {u : U} (h : us[k]? = some u) : U.lfs (us.take k) + u.lf + U.lfs (us.drop (k + 1)) = U.lfs us := by
  have hs : us = us.take k ++ (u :: us.drop (k + 1)) := by rw [← drop_get h, List.take_append_drop]
  have := lfs_append (us.take k) (u :: us.drop (k + 1))
  rw [← hs] at this
  simp only [U.lfs] at this
  omega

section
variable {P : Program} {A : Amb} {σ : St} {K : St → Prop} {Q : Exit → St → Prop}
variable {dst : Option Nat} {ty : TypeId} {pos : String} {af : Array Edge} {g : Option (Nat × Bool)} {x y : Operand} {sv : SV}
theorem V_cast {c : Code} {fr : List (Nat × SV)} {L : List LO} (L' : List LO) {N : Nat} (hL : L = L') (h : V P A c ⟨fr, L', N⟩ Q) : V P A c ⟨fr, L, N⟩ Q := by subst hL; exact h
theorem Q_quo {T T' : TypeId} {m n : Nat} (hx : σ.ev x = .d (.i .i64 m)) (hy : σ.ev y = .d (.i .i64 n)) (hn : Nat.blt 0 n = true) (hm : (m : Int) ≤ 9223372036854775807) : Quiet P A σ ⟨dst, .binOp .quo T x y T', ty, pos, af, g⟩ (.d (.i .i64 ((m / n : Nat) : Int))) := Quiet.pure fun S env a w hH ho => by
  have h1 := ho x (by simp [Op.operands])
  have h2 := ho y (by simp [Op.operands])
  rw [hx, SVr.int] at h1
  rw [hy, SVr.int] at h2
  simp only [Nat.blt_eq] at hn
  refine ⟨.int .i64 ((m / n : Nat) : Int), ?_, SVr.int.2 rfl⟩
  have h0 : ¬ n = 0 := by omega
  have hle : m / n ≤ m := Nat.div_le_self m n
  have e : ((m / n : Nat) : Int) = (m : Int) / (n : Int) := by simp
  have hw : IntKind.i64.wrap ((m : Int) / (n : Int)) = (m : Int) / (n : Int) := by
    rw [← e]
    generalize m / n = q at hle
    exact wrap_in _ (by omega) (by omega)
  simp [execOp, h1, h2, eqGuard, binOp, Op.intDiv, h0, hw]
theorem Q_rem {T T' : TypeId} {m n : Nat} (hx : σ.ev x = .d (.i .i64 m)) (hy : σ.ev y = .d (.i .i64 n)) (hn : Nat.blt 0 n = true) : Quiet P A σ ⟨dst, .binOp .rem T x y T', ty, pos, af, g⟩ (.d (.i .i64 ((m % n : Nat) : Int))) := Quiet.pure fun S env a w hH ho => by
  have h1 := ho x (by simp [Op.operands])
  have h2 := ho y (by simp [Op.operands])
  rw [hx, SVr.int] at h1
  rw [hy, SVr.int] at h2
  simp only [Nat.blt_eq] at hn
  refine ⟨.int .i64 ((m % n : Nat) : Int), ?_, SVr.int.2 rfl⟩
  have h0 : ¬ n = 0 := by omega
  simp [execOp, h1, h2, eqGuard, binOp, Op.intDiv, h0]
  rw [← Int.ofNat_tmod]
  simp
/-- A conversion between kinds of integers. -/
theorem Q_convI {T T2 : TypeId} {k k1 k2 : IntKind} {m : Int} (hx : σ.ev x = .d (.i k m)) (h1 : P.underlying T = some (.int k1)) (h2 : P.underlying T2 = some (.int k2)) : Quiet P A σ ⟨dst, .convert T T2 x, ty, pos, af, g⟩ (.d (.i k2 (k2.wrap m))) := Quiet.pure fun S env a w hH ho => by
  have h3 := ho x (by simp [Op.operands])
  rw [hx, SVr.int] at h3
  exact ⟨.int k2 (k2.wrap m), by simp [execOp, h3, convert, run_underlying h1, run_underlying h2, Conv.intToInt], SVr.int.2 rfl⟩
/-- A slice of one byte, as a string. -/
theorem Q_convB1 {T T2 e : TypeId} {j ver e' : Nat} {m : Int} (hx : σ.ev x = .sl j ver) (hL : σ.L[j]? = some (.own e' 1 ver [.i .u8 m])) (h1 : P.underlying T = some (.slice e)) (h2 : P.underlying e = some (.int .u8)) (h3 : P.underlying T2 = some .string) :
    Quiet P A σ ⟨dst, .convert T T2 x, ty, pos, af, g⟩ (.d (.s [UInt8.ofNat m.toNat])) := Quiet.pure fun S env a w hH ho => by
  have h4 := ho x (by simp [Op.operands])
  rw [hx] at h4
  simp only [SVr] at h4
  obtain ⟨hv, o, k1, k2, k3, k5, k4⟩ := h4
  rw [hL] at k2
  obtain rfl := Option.some.inj k2
  have k6 := k4 rfl
  obtain ⟨_, _, ⟨xs, h5, h6⟩, _⟩ := hH.objs j _ hv hL k1
  simp only [Trs, Tr, U.sz] at h6
  have hl := h5.1
  match xs, hl with
  | [c], _ =>
    simp only [List.take_succ_cons, List.take_zero, List.cons.injEq, and_true] at h6
    obtain ⟨rfl, _⟩ := h6
    rcases h5.2 with ⟨_, h0⟩ | ⟨b, cap, cur, rfl, r⟩
    · simp at h0
    · refine ⟨.string ⟨#[UInt8.ofNat m.toNat]⟩, ?_, SVr.str.2 ⟨by simp [big_eq], rfl⟩⟩
      have hld := run_loadCells_list (P := P) (w := w) ⟨b, 0, none⟩ [.int .u8 m] (fun j u hu => h5.cells (g := b) rfl j u hu)
      simp only [List.length_cons, List.length_nil, Nat.zero_add] at hld
      simp [execOp, k6, convert, run_underlying h1, run_underlying h2, run_underlying h3, Conv.bytesToString, hld]
      rfl
theorem Q_adds {T T' : TypeId} {a b : List UInt8} (hx : σ.ev x = .d (.s a)) (hy : σ.ev y = .d (.s b)) (hl : a.length + b.length ≤ big) : Quiet P A σ ⟨dst, .binOp .add T x y T', ty, pos, af, g⟩ (.d (.s (a ++ b))) := Quiet.pure fun S env ac w hH ho => by
  have h1 := ho x (by simp [Op.operands])
  have h2 := ho y (by simp [Op.operands])
  rw [hx, SVr.str] at h1
  rw [hy, SVr.str] at h2
  refine ⟨.string ⟨(a ++ b).toArray⟩, ?_, SVr.str.2 ⟨by rw [List.length_append]; exact hl, rfl⟩⟩
  rw [big_eq] at hl
  have hs : (⟨a.toArray⟩ : ByteArray).size = a.length := rfl
  have hs' : (⟨b.toArray⟩ : ByteArray).size = b.length := rfl
  have happ : (⟨a.toArray⟩ : ByteArray) ++ ⟨b.toArray⟩ = ⟨(a ++ b).toArray⟩ := by
    apply ByteArray.ext
    simp [ByteArray.data_append]
  simp [execOp, h1.2, h2.2, eqGuard, binOp, Op.stringOp, hs, hs', happ]
  omega
end
end Go.Eng
