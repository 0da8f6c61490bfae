/- Th2. Written by a program of mine (aw.py). -/
import Derived.Test.YtgmlpaaklnkghaaGreatEng39
import Derived.Test.YtgmlpaaklnkghaaGreatPt6
set_option linter.unusedVariables false
set_option linter.unusedSimpArgs false
set_option linter.unusedSectionVars false
namespace Go.Proofs.YtgmlpaaklnkghaaGreat
open Go Go.Eng
attribute [local irreducible] V VO VQ VY Quiet QR SpecP SpecO Rng PostP PostO PostG
/-! ### unification, by hand: what binds, and what comes out -/
structure Inv (V : List (List UInt8)) (l : List TBinding) : Prop where
  nd : (dom l).Nodup
  dv : ∀ v ∈ dom l, v ∈ V
  rv : ∀ b ∈ l, ∀ v ∈ tvs b.type_, v ∈ V ∧ v ∉ dom l
  sz : ∀ b ∈ l, tnd b.type_ ≤ 4000 ^ l.length
  ok : bok l
structure Good (V : List (List UInt8)) (t : TType) : Prop where
  vs : ∀ v ∈ tvs t, v ∈ V
  sz : tnd t ≤ 4000
  ok : tok t
theorem nodup_le : ∀ {l V : List (List UInt8)}, l.Nodup → (∀ v ∈ l, v ∈ V) → l.length ≤ V.length
  | [], _, _, _ => Nat.zero_le _
  | a :: l, V, h, hs => by
    obtain ⟨h1, h2⟩ := List.nodup_cons.1 h
    have ha : a ∈ V := hs a (by simp)
    have h3 : l.length ≤ (V.erase a).length := nodup_le h2 (fun v hv => (List.mem_erase_of_ne (fun e => h1 (by rw [← e]; exact hv))).2 (hs v (by simp [hv])))
    rw [List.length_erase_of_mem ha] at h3
    have := List.length_pos_of_mem ha
    simp only [List.length_cons]
    omega
theorem p4 (n : Nat) : 1 ≤ 4000 ^ n := by
  induction n with
  | zero => simp
  | succ n ih => rw [Nat.pow_succ]; omega
section
variable {V : List (List UInt8)} {l : List TBinding}
theorem Inv.len (h : Inv V l) (hV : V.length ≤ 4) : l.length ≤ 4 := by
  have := nodup_le h.nd h.dv
  simp only [dom, List.length_map] at this
  omega
theorem pow_le4 {n : Nat} (h : n ≤ 4) : 4000 ^ n ≤ 256000000000000 := by
  rcases n with _ | _ | _ | _ | _ | n
  · decide
  · decide
  · decide
  · decide
  · decide
  · omega
theorem Inv.big (h : Inv V l) (hV : V.length ≤ 4) {t : TType} (ht : tnd t ≤ 4000) : tnd (apT l t) ≤ 1024000000000000000 := by
  have h1 := apT_tnd (M := 4000 ^ l.length) ⟨p4 _, h.sz⟩ t
  have h2 := pow_le4 (h.len hV)
  have h3 : 4000 ^ l.length * tnd t ≤ 256000000000000 * 4000 := Nat.mul_le_mul h2 ht
  omega
theorem Inv.vars (h : Inv V l) {t : TType} (ht : Good V t) : ∀ v ∈ tvs (apT l t), v ∈ V ∧ v ∉ dom l := by
  intro v hv
  rcases tvs_ap t hv with ⟨h1, h2⟩ | ⟨b, h1, h2⟩
  · exact ⟨ht.vs v h1, h2⟩
  · exact h.rv b h1 v h2
theorem Inv.idem (h : Inv V l) (t : TType) : apT l (apT l t) = apT l t := apT_out _ (fun v hv => by
  rcases tvs_ap t hv with ⟨_, h2⟩ | ⟨b, h1, h2⟩
  · exact h2
  · exact (h.rv b h1 v h2).2)
theorem tvs_one {v w : List UInt8} {y : TType} {t : TType} (h : w ∈ tvs (apT [⟨v, y⟩] t)) : (w ∈ tvs t ∧ w ≠ v) ∨ w ∈ tvs y := by
  rcases tvs_ap t h with ⟨h1, h2⟩ | ⟨b, h1, h2⟩
  · exact .inl ⟨h1, by simpa [dom] using h2⟩
  · simp only [List.mem_singleton] at h1
    subst h1
    exact .inr h2
theorem Inv.bind (h : Inv V l) {v : List UInt8} {y : TType} (hv : v ∈ V ∧ v ∉ dom l) (hy : ∀ w ∈ tvs y, w ∈ V ∧ w ∉ dom l) (hn : v ∉ tvs y) (hs : tnd y ≤ 4000) (ho : tok y) : Inv V (bindL l v y) := by
  have hlen : (bindL l v y).length = l.length + 1 := by simp [bindL]
  have hone : bnds 4000 [⟨v, y⟩] := ⟨by decide, by simpa using hs⟩
  have hp : 4000 ^ (l.length + 1) = 4000 ^ l.length * 4000 := by rw [Nat.pow_succ]
  have hpos : 1 ≤ 4000 ^ l.length := p4 _
  refine ⟨?_, ?_, ?_, ?_, ?_⟩
  · rw [dom_bind]
    refine List.nodup_append.2 ⟨h.nd, by simp, fun a ha b hb hab => ?_⟩
    simp only [List.mem_singleton] at hb
    subst hb; subst hab
    exact hv.2 ha
  · intro w hw
    rw [dom_bind] at hw
    simp only [List.mem_append, List.mem_singleton] at hw
    rcases hw with hw | rfl
    · exact h.dv w hw
    · exact hv.1
  · intro b hb w hw
    rw [dom_bind]
    simp only [bindL, List.mem_append, List.mem_map, List.mem_singleton] at hb ⊢
    have hY : w ∈ tvs y → w ∈ V ∧ ¬ (w ∈ dom l ∨ w = v) := fun hw => ⟨(hy w hw).1, fun h => h.elim (hy w hw).2 (fun e => hn (e ▸ hw))⟩
    rcases hb with ⟨c, hc, rfl⟩ | rfl
    · rcases tvs_one hw with ⟨h1, h2⟩ | h1
      · have := h.rv c hc w h1
        exact ⟨this.1, fun h => h.elim this.2 h2⟩
      · exact hY h1
    · exact hY hw
  · intro b hb
    rw [hlen, hp]
    simp only [bindL, List.mem_append, List.mem_map, List.mem_singleton] at hb
    rcases hb with ⟨c, hc, rfl⟩ | rfl
    · have h1 := apT_tnd hone c.type_
      have h2 := h.sz c hc
      have h3 : 4000 * tnd c.type_ ≤ 4000 * 4000 ^ l.length := Nat.mul_le_mul_left _ h2
      show tnd (apT [⟨v, y⟩] c.type_) ≤ _
      omega
    · show tnd y ≤ _
      omega
  · intro b hb
    simp only [bindL, List.mem_append, List.mem_map, List.mem_singleton] at hb
    rcases hb with ⟨c, hc, rfl⟩ | rfl
    · exact apT_tok (fun b hb => by simp at hb; subst hb; exact ho) _ (h.ok c hc)
    · exact ho
end
/-- What comes out of a row of pairs. -/
structure Post (V : List (List UInt8)) (l l' : List TBinding) (as_ bs : List TType) : Prop where
  inv : Inv V l'
  grow : l' = l ∨ l.length < l'.length
  ext : ∀ t, apT l' (apT l t) = apT l' t
  eq : apTs l' as_ = apTs l' bs
theorem l2_eq (y : TType) (x : TType) (k : List TBinding → Option (Bool × List TBinding)) (hb : bok [⟨x.name, y⟩]) : ∀ (m j : Nat) (l : List TBinding), l.length = j + m → (∀ b ∈ l.drop j, tok b.type_) → b_iUnify_l2 y x k m j l = k (l.take j ++ (l.drop j).map (fun b => ⟨b.var_, apT [⟨x.name, y⟩] b.type_⟩))
  | 0, j, l, h, _ => by
    simp only [b_iUnify_l2]
    rw [List.take_of_length_le (by omega), List.drop_of_length_le (by omega)]
    simp
  | m + 1, j, l, h, ht => by
    have hj : j < l.length := by omega
    have hd := List.drop_eq_getElem_cons hj
    have ht0 : tok l[j].type_ := ht _ (by rw [hd]; exact List.mem_cons_self)
    simp only [b_iUnify_l2, at_nat]
    rw [List.getElem?_eq_getElem hj]
    simp only [bnd, lt_]
    rw [gd_eq ⟨hb, ht0⟩, l2_eq y x k hb m (j + 1) _ (by simp; omega) (fun b hb' => ht b (by
      rw [List.drop_set_of_lt (by omega)] at hb'
      rw [hd]; exact List.mem_cons_of_mem _ hb')), hd, List.drop_set_of_lt (by omega), take_set_succ hj, List.map_cons, List.append_assoc]
    rfl
theorem l3_eq (x : TType) (y : TType) (k : List TBinding → Option (Bool × List TBinding)) (hb : bok [⟨x.name, y⟩]) : ∀ (m j : Nat) (l : List TBinding), l.length = j + m → (∀ b ∈ l.drop j, tok b.type_) → b_iUnify_l3 x y k m j l = k (l.take j ++ (l.drop j).map (fun b => ⟨b.var_, apT [⟨x.name, y⟩] b.type_⟩))
  | 0, j, l, h, _ => by
    simp only [b_iUnify_l3]
    rw [List.take_of_length_le (by omega), List.drop_of_length_le (by omega)]
    simp
  | m + 1, j, l, h, ht => by
    have hj : j < l.length := by omega
    have hd := List.drop_eq_getElem_cons hj
    have ht0 : tok l[j].type_ := ht _ (by rw [hd]; exact List.mem_cons_self)
    simp only [b_iUnify_l3, at_nat]
    rw [List.getElem?_eq_getElem hj]
    simp only [bnd, lt_]
    rw [gd_eq ⟨hb, ht0⟩, l3_eq x y k hb m (j + 1) _ (by simp; omega) (fun b hb' => ht b (by
      rw [List.drop_set_of_lt (by omega)] at hb'
      rw [hd]; exact List.mem_cons_of_mem _ hb')), hd, List.drop_set_of_lt (by omega), take_set_succ hj, List.map_cons, List.append_assoc]
    rfl
theorem sBound_l1_eq (v : List UInt8) (y : TType) (hb : bok [⟨v, y⟩]) : ∀ (xs r : List TBinding), (∀ b ∈ xs, tok b.type_) → r.length + xs.length ≤ 4000000 → b_sBound_l1 v y xs r = some (r ++ xs.map (fun b => ⟨b.var_, apT [⟨v, y⟩] b.type_⟩) ++ [⟨v, y⟩])
  | [], r, _, h => by
    simp only [b_sBound_l1, lt_, idT]
    rw [gd_eq (hb ⟨v, y⟩ (by simp)), gd_eq (by simp at h ⊢; omega)]
    simp
  | x :: xs, r, ht, h => by
    simp only [List.length_cons] at h
    simp only [b_sBound_l1, lt_]
    rw [gd_eq ⟨hb, ht x (by simp)⟩, gd_eq (by simp; omega), sBound_l1_eq v y hb xs _ (fun b hb' => ht b (by simp [hb'])) (by simp; omega)]
    simp
theorem sBound_eq (l : List TBinding) (v : List UInt8) (y : TType) (hl : bok l) (hy : tok y) (h : l.length ≤ 4) : b_sBound l v y = some (bindL l v y) := by
  unfold b_sBound
  rw [sBound_l1_eq v y (fun b hb => by simp at hb; subst hb; exact hy) l [] hl (by simp; omega)]
  simp [bindL]
/-! ### unification, by hand: the two programs' steps -/
/-- What the program answers, and what the reference answers, where r comes out. -/
def resI : Option (List TBinding) → Bool × List TBinding
  | none => (false, [])
  | some l => (true, l)
def ResS : Option (List TBinding) → List TBinding × Bool → Prop
  | none, p => p.2 = false
  | some l, p => p = (l, true)
theorem bind_gives {V : List (List UInt8)} (hV : V.length ≤ 4) {l : List TBinding} (hl : Inv V l) {a b : TType} (ha : Good V a) (hb : Good V b) {v : List UInt8} {y : TType} (hy : tnd y ≤ 4000) (hok : tok y) (hv : v ∈ V ∧ v ∉ dom l) (hyv : ∀ w ∈ tvs y, w ∈ V ∧ w ∉ dom l) (hn : v ∉ tvs y)
    (hab : apT [⟨v, y⟩] (apT l a) = apT [⟨v, y⟩] (apT l b)) : Inv V (bindL l v y) ∧ (bindL l v y = l ∨ l.length < (bindL l v y).length) ∧ (∀ t, apT (bindL l v y) (apT l t) = apT (bindL l v y) t) ∧ apT (bindL l v y) a = apT (bindL l v y) b := by
  refine ⟨hl.bind hv hyv hn hy hok, .inr (by simp [bindL]), fun t => ?_, ?_⟩
  · rw [apT_bind, apT_bind, hl.idem]
  · rw [apT_bind, apT_bind]; exact hab
theorem ap_var {v : List UInt8} {y x : TType} (hk : x.kind = 1) (hv : x.name = v) : apT [⟨v, y⟩] x = y := by
  obtain ⟨k, n, ts⟩ := x
  simp only at hk hv
  subst hk; subst hv
  simp [apT, lkp, cnd_true]
theorem ap_no {v : List UInt8} {y : TType} (hn : v ∉ tvs y) : apT [⟨v, y⟩] y = y := apT_out y (fun w hw hd => by
  simp only [dom, List.map_cons, List.map_nil, List.mem_singleton] at hd
  subst hd
  exact hn hw)
theorem var_in {x : TType} (hk : x.kind = 1) : x.name ∈ tvs x := by
  obtain ⟨k, n, ts⟩ := x
  simp only at hk
  subst hk
  simp [tvs]
theorem apTs_args {l l' : List TBinding} {x y : TType} (hk : x.kind = y.kind) (hn : x.name = y.name) (h1 : x.kind ≠ 1) (h : apTs l' x.args = apTs l' y.args) : apT l' x = apT l' y := by
  obtain ⟨k, n, ts⟩ := x
  obtain ⟨k', n', ts'⟩ := y
  simp only at hk hn h1 h
  subst hk; subst hn
  simp only [apT, beq_false_of_ne h1, cnd_false, h]
theorem tall_mem {ts : List TType} (h : tall ts) : ∀ t ∈ ts, tok t := tall_iff.1 h
theorem args_good {V : List (List UInt8)} {x : TType} (hs : tnd x ≤ 4000) (ho : tok x) (hv : ∀ v ∈ tvs x, v ∈ V) : (∀ t ∈ x.args, Good V t) ∧ tnds x.args + 1 = tnd x ∧ (∀ v ∈ tvss x.args, v ∈ tvs x) := by
  obtain ⟨k, n, ts⟩ := x
  simp only [tok] at ho
  refine ⟨fun t ht => ⟨fun v h => hv v ?_, ?_, tall_mem ho.2 t ht⟩, by simp only [tnd]; omega, fun v h => by simp [tvs, h]⟩
  · simp only [tvs, List.mem_append]
    exact .inr (tvss_mem.2 ⟨t, ht, h⟩)
  · have : tnd t ≤ tnds ts := tnd_mem ht
    simp only [tnd] at hs
    omega
/-- What is asked of the deeper calls. -/
def Deep (V : List (List UInt8)) (n : Nat) : Prop := ∀ (l : List TBinding) (as_ bs : List TType), Inv V l → (∀ t ∈ as_, Good V t) → (∀ t ∈ bs, Good V t) → as_.length = bs.length → (4 - l.length) * 4001 + tnds (apTs l as_) < n →
  ∃ r p, m_iUnify n l as_ bs = some (resI r) ∧ m_sAll (2 * n) as_ bs l = some p ∧ ResS r p ∧ ∀ l', r = some l' → Post V l l' as_ bs
theorem wsum {x y : TType} (hx : tnd x ≤ 1024000000000000000) (hy : tnd y ≤ 1024000000000000000) : IntKind.i64.wrap (tsz x + tsz y) = tnd x + tnd y := by
  rw [tsz_big x (by omega), tsz_big y (by omega), wrap_sm (by omega) (by omega)]
/-- One pair. -/
theorem step {V : List (List UInt8)} (hV : V.length ≤ 4) (n : Nat) (hD : Deep V n) (l : List TBinding) (a b : TType) (xs bs : List TType) (k : Nat) (hl : Inv V l) (ha : Good V a) (hb : Good V b) (hk : bs[k]? = some b)
    (hm : (4 - l.length) * 4001 + tnd (apT l a) ≤ n ∨ (4 - l.length) * 4001 + 4000 < n) :
    ∃ r p, (∀ l', r = some l' → b_iUnify_l1 (m_iUnify n) bs (a :: xs) k l = b_iUnify_l1 (m_iUnify n) bs xs (k + 1) l') ∧ (r = none → b_iUnify_l1 (m_iUnify n) bs (a :: xs) k l = some (false, [])) ∧
      m_sUnify (2 * n + 1) a b l = some p ∧ ResS r p ∧ ∀ l', r = some l' → Inv V l' ∧ (l' = l ∨ l.length < l'.length) ∧ (∀ t, apT l' (apT l t) = apT l' t) ∧ apT l' a = apT l' b := by
  have hbk : bok l := hl.ok
  have hx4 := hl.big hV ha.sz
  have hy4 := hl.big hV hb.sz
  have hxv := hl.vars ha
  have hyv := hl.vars hb
  have hxo := apT_tok hbk a ha.ok
  have hyo := apT_tok hbk b hb.ok
  have hll := hl.len hV
  have hix := hl.idem a
  have hiy := hl.idem b
  have hw := wsum hx4 hy4
  generalize hI : b_iUnify_l1 (m_iUnify n) bs (a :: xs) k l = rI
  rw [b_iUnify_l1.eq_2, at_nat, hk] at hI
  simp only [bnd, lt_] at hI
  rw [gd_eq ⟨hbk, ha.ok⟩, gd_eq ⟨hbk, hb.ok⟩] at hI
  generalize hS : m_sUnify (2 * n + 1) a b l = rS
  rw [m_sUnify.eq_2] at hS
  unfold b_sUnify at hS
  simp only [lt_] at hS
  rw [gd_eq ⟨hbk, ha.ok⟩, gd_eq ⟨hbk, hb.ok⟩] at hS
  subst hI
  subst hS
  rw [hw]
  have hxlk : ∀ v ∈ tvs (apT l a), v ∈ V ∧ v ∉ dom l := hxv
  generalize hX : apT l a = x at *
  generalize hY : apT l b = y at *
  cases ht : teq x y with
  | true =>
    have e := (teq_iff x y).1 ht
    simp only [cnd_true]
    refine ⟨some l, (l, true), fun l' h => (by cases h; rfl), fun h => (by cases h), rfl, rfl, fun l' h => ?_⟩
    cases h
    exact ⟨hl, .inl rfl, hl.idem, by rw [hX, hY, e]⟩
  | false =>
    simp only [cnd_false]
    by_cases hs : tnd x + tnd y ≤ 4000
    · have hd : decide (((tnd x : Int) + (tnd y : Int)) > 4000) = false := decide_eq_false (by omega)
      rw [hd]
      simp only [cnd_false]
      by_cases kx : x.kind = 1
      · have e1 : (x.kind == 1) = true := by simp [kx]
        have e2 : (x.kind != 1) = false := by simp [kx]
        simp only [e1, e2, cnd_true, cnd_false]
        rw [iOcc (by omega), sOcc (by omega), sBound_eq l x.name y hbk hyo hll]
        by_cases ho : x.name ∈ tvs y
        · have : decide (x.name ∈ tvs y) = true := decide_eq_true ho
          rw [this]
          simp only [cnd_true, bnd]
          exact ⟨none, _, fun l' h => (by cases h), fun _ => (by trivial), rfl, rfl, fun l' h => (by cases h)⟩
        · have : decide (x.name ∈ tvs y) = false := decide_eq_false ho
          rw [this]
          simp only [cnd_false, bnd]
          rw [l3_eq x y _ (fun c hc => by simp at hc; subst hc; exact hyo) l.length 0 l (by simp) (fun c hc => hbk c (by simpa using hc))]
          have e3 : List.take 0 l ++ List.map (fun b => (⟨b.var_, apT [⟨x.name, y⟩] b.type_⟩ : TBinding)) (List.drop 0 l) ++ [⟨x.name, y⟩] = bindL l x.name y := by simp [bindL]
          rw [gd_eq (by simp; omega), e3]
          refine ⟨some (bindL l x.name y), _, fun l' h => (by cases h; rfl), fun h => (by cases h), rfl, rfl, fun l' h => ?_⟩
          cases h
          exact bind_gives hV hl ha hb (by omega) hyo (hxlk _ (var_in kx)) hyv ho (by rw [hX, hY, ap_var kx rfl, ap_no ho])
      · have e1 : (x.kind == 1) = false := beq_false_of_ne kx
        have e2 : (x.kind != 1) = true := by simp [kx]
        simp only [e1, e2, cnd_true, cnd_false]
        by_cases ky : y.kind = 1
        · have e4 : (y.kind == 1) = true := by simp [ky]
          simp only [e4, cnd_true]
          rw [iOcc (by omega), sOcc (by omega), sBound_eq l y.name x hbk hxo hll]
          by_cases ho : y.name ∈ tvs x
          · have : decide (y.name ∈ tvs x) = true := decide_eq_true ho
            rw [this]
            simp only [cnd_true, bnd]
            exact ⟨none, _, fun l' h => (by cases h), fun _ => (by trivial), rfl, rfl, fun l' h => (by cases h)⟩
          · have : decide (y.name ∈ tvs x) = false := decide_eq_false ho
            rw [this]
            simp only [cnd_false, bnd]
            rw [l2_eq x y _ (fun c hc => by simp at hc; subst hc; exact hxo) l.length 0 l (by simp) (fun c hc => hbk c (by simpa using hc))]
            have e3 : List.take 0 l ++ List.map (fun b => (⟨b.var_, apT [⟨y.name, x⟩] b.type_⟩ : TBinding)) (List.drop 0 l) ++ [⟨y.name, x⟩] = bindL l y.name x := by simp [bindL]
            rw [gd_eq (by simp; omega), e3]
            refine ⟨some (bindL l y.name x), _, fun l' h => (by cases h; rfl), fun h => (by cases h), rfl, rfl, fun l' h => ?_⟩
            cases h
            exact bind_gives hV hl ha hb (by omega) hxo (hyv _ (var_in ky)) hxv ho (by rw [hX, hY, ap_var ky rfl, ap_no ho])
        · have e4 : (y.kind == 1) = false := beq_false_of_ne ky
          simp only [e4, cnd_false]
          cases hc : (cnd (x.kind != y.kind) true (cnd (!(x.name == y.name)) true ((x.args.length : Int) != (y.args.length : Int)))) with
          | true =>
            simp only [cnd_true]
            exact ⟨none, _, fun l' h => (by cases h), fun _ => (by trivial), rfl, rfl, fun l' h => (by cases h)⟩
          | false =>
            simp only [cnd_false]
            have f1 : x.kind = y.kind := by
              cases h : (x.kind != y.kind) with
              | true => rw [h] at hc; simp [cnd_true] at hc
              | false => simpa using h
            have f2 : x.name = y.name := by
              rw [show (x.kind != y.kind) = false by simp [f1]] at hc
              simp only [cnd_false] at hc
              cases h : (x.name == y.name) with
              | true => exact eq_of_beq h
              | false => rw [h] at hc; simp [cnd_true] at hc
            have f3 : x.args.length = y.args.length := by
              rw [show (x.kind != y.kind) = false by simp [f1], show (x.name == y.name) = true by simp [f2]] at hc
              simp only [cnd_false, Bool.not_true] at hc
              have : ((x.args.length : Int)) = y.args.length := by simpa using hc
              omega
            obtain ⟨g1, g2, g3⟩ := args_good (V := V) (by omega) hxo (fun v hv => (hxv v hv).1)
            obtain ⟨g4, g5, g6⟩ := args_good (V := V) (by omega) hyo (fun v hv => (hyv v hv).1)
            have hxa : apTs l x.args = x.args := apTs_out _ (fun v hv => (hxv v (g3 v hv)).2)
            obtain ⟨r, p, q1, q2, q3, q4⟩ := hD l x.args y.args hl g1 g4 f3 (by rw [hxa]; omega)
            rw [q1, q2]
            simp only [bnd]
            cases r with
            | none =>
              simp only [resI, Bool.not_false, cnd_true]
              exact ⟨none, _, fun l' h => (by cases h), fun _ => (by trivial), rfl, q3, fun l' h => (by cases h)⟩
            | some l2 =>
              simp only [resI, Bool.not_true, cnd_false]
              refine ⟨some l2, _, fun l' h => (by cases h; rfl), fun h => (by cases h), rfl, ?_, fun l' h => ?_⟩
              · have : p = (l2, true) := q3
                subst this
                rfl
              · cases h
                obtain ⟨w1, w2, w3, w4⟩ := q4 l2 rfl
                refine ⟨w1, w2, w3, ?_⟩
                rw [← w3 a, ← w3 b, hX, hY]
                exact apTs_args (l := l) f1 f2 kx w4
    · have hd : decide (((tnd x : Int) + (tnd y : Int)) > 4000) = true := decide_eq_true (by omega)
      rw [hd]
      simp only [cnd_true]
      exact ⟨none, _, fun l' h => (by cases h), fun _ => (by trivial), rfl, rfl, fun l' h => (by cases h)⟩
/-- A row of pairs. -/
theorem row {V : List (List UInt8)} (hV : V.length ≤ 4) (n : Nat) (hD : Deep V n) (bs : List TType) (hbs : ∀ t ∈ bs, Good V t) (xs : List TType) : ∀ (k : Nat) (l : List TBinding), Inv V l → (∀ t ∈ xs, Good V t) → bs.length = k + xs.length → ((4 - l.length) * 4001 + tnds (apTs l xs) ≤ n ∨ (4 - l.length) * 4001 + 4000 < n) →
    ∃ r p, b_iUnify_l1 (m_iUnify n) bs xs k l = some (resI r) ∧ b_sAll_l1 (m_sUnify (2 * n + 1)) bs xs k l = some p ∧ ResS r p ∧ ∀ l', r = some l' → Post V l l' xs (bs.drop k) := by
  induction xs with
  | nil =>
    intro k l hl _ h _
    refine ⟨some l, (l, true), rfl, rfl, rfl, fun l' h' => ?_⟩
    cases h'
    exact ⟨hl, .inl rfl, hl.idem, by rw [List.drop_of_length_le (by simp at h; omega)]⟩
  | cons a xs ih =>
    intro k l hl hx h hm
    simp only [List.length_cons] at h
    have hk : k < bs.length := by omega
    have hbk : bs[k]? = some bs[k] := List.getElem?_eq_getElem hk
    have ha : tnds (apTs l (a :: xs)) = tnd (apT l a) + tnds (apTs l xs) := rfl
    rw [ha] at hm
    obtain ⟨r, p, s1, s2, s3, s4, s5⟩ := step hV n hD l a bs[k] xs bs k hl (hx a (by simp)) (hbs _ (List.getElem_mem hk)) hbk (by omega)
    have sL : b_sAll_l1 (m_sUnify (2 * n + 1)) bs (a :: xs) k l = cnd (!p.2) (some (l, false)) (b_sAll_l1 (m_sUnify (2 * n + 1)) bs xs (k + 1) p.1) := by
      rw [b_sAll_l1.eq_2, at_nat, hbk]
      simp only [bnd]
      rw [s3]
    cases r with
    | none =>
      refine ⟨none, (l, false), s2 rfl, ?_, rfl, fun l' h => by cases h⟩
      rw [sL]
      have : p.2 = false := s4
      rw [this]
      rfl
    | some l1 =>
      have hp : p = (l1, true) := s4
      subst hp
      obtain ⟨w1, w2, w3, w4⟩ := s5 l1 rfl
      have hl1 := w1.len hV
      have hm2 : (4 - l1.length) * 4001 + tnds (apTs l1 xs) ≤ n ∨ (4 - l1.length) * 4001 + 4000 < n := by
        rcases w2 with rfl | w2
        · omega
        · right
          have : (4 - l1.length) * 4001 + 4001 ≤ (4 - l.length) * 4001 := by omega
          omega
      obtain ⟨r2, p2, z1, z2, z3, z4⟩ := ih (k + 1) l1 w1 (fun t ht => hx t (by simp [ht])) (by omega) hm2
      refine ⟨r2, p2, by rw [s1 l1 rfl]; exact z1, by rw [sL]; exact z2, z3, fun l' h' => ?_⟩
      obtain ⟨y1, y2, y3, y4⟩ := z4 l' h'
      refine ⟨y1, ?_, fun t => ?_, ?_⟩
      · rcases w2 with rfl | w2
        · exact y2
        · right
          rcases y2 with rfl | y2 <;> omega
      · rw [← y3 (apT l t), w3, y3]
      · rw [List.drop_eq_getElem_cons hk]
        simp only [apTs]
        rw [y4, ← y3 a, ← y3 bs[k], w4]
theorem deep {V : List (List UInt8)} (hV : V.length ≤ 4) : ∀ n, Deep V n
  | 0 => fun l as_ bs _ _ _ _ h => by omega
  | n + 1 => fun l as_ bs hl ha hb hlen hm => by
    obtain ⟨r, p, h1, h2, h3, h4⟩ := row hV n (deep hV n) bs hb as_ 0 l hl ha (by omega) (.inl (by omega))
    refine ⟨r, p, ?_, ?_, h3, fun l' h => by simpa using h4 l' h⟩
    · rw [m_iUnify.eq_2]
      exact h1
    · rw [show 2 * (n + 1) = (2 * n + 1) + 1 by omega, m_sAll.eq_2]
      exact h2
end Go.Proofs.YtgmlpaaklnkghaaGreat
