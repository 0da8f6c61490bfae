/- The engine, part 23: owned data turned in place: a scalar in an element; a callee that turns what it is handed. -/
import Derived.Test.YtgmlpaaklnkghaaGreatEng22
namespace Go.Eng
open Go Go.RowKit
inductive PutO : LO → List U → LO → Prop
  | own {e z v : Nat} {es es' : List U} : PutO (.own e z v es) es' (.own e z v es')
  | ownp {h : Value} {e z : Nat} {es es' : List U} : PutO (.ownp h e z es) es' (.ownp h e z es')
theorem PutO.obj {S S' : Nat → Prop} {L L' : List LO} {env env' : List Value} {w w' : World} {o o' : LO} {z ver : Nat} {es es' : List U} {hv : Value} (h : PutO o es' o') (ha : AsO o z ver es) (hob : ObjR S L env w o hv)
    (hn : es'.length ≤ big ∧ (∀ u ∈ es', u.sz = z) ∧ (∀ e, (∃ xs, w.ownsRow 0 e z hv es.length xs) → ∃ xs, w'.ownsRow 0 e z hv es'.length xs ∧ Trs w' es' xs) ∧ ((U.sl z es').fp w' [hv]).Nodup) : ObjR S' L' env' w' o' hv := by
  obtain ⟨n1, n2, n3, n4⟩ := hn
  cases h with
  | own => cases ha; obtain ⟨_, _, ⟨xs, h3, _⟩, _⟩ := hob; exact ⟨n1, n2, n3 _ ⟨xs, h3⟩, n4⟩
  | ownp => cases ha; obtain ⟨h0, _, _, ⟨xs, h3, _⟩, _⟩ := hob; exact ⟨h0, n1, n2, n3 _ ⟨xs, h3⟩, n4⟩
theorem PutO.ft {o o' : LO} {z ver : Nat} {es es' : List U} (h : PutO o es' o') (ha : AsO o z ver es) (w : World) (hv : Value) (b : Nat) : o'.ft w hv b ↔ b ∈ (U.sl z es').fp w [hv] := by
  cases h <;> cases ha <;> exact Iff.rfl
theorem PutO.ver {o o' : LO} {es' : List U} (h : PutO o es' o') : o'.ver = o.ver := by cases h <;> rfl
theorem kill_nil : ∀ (L : List LO) (n : Nat), kill [] n L = L
  | [], _ => rfl
  | o :: L, n => by simp [kill, kill_nil L]
/-- One element of an owned array, made anew in place. -/
theorem HeapR.reEl {A : Amb} {S : Nat → Prop} {L : List LO} {env : List Value} {w : World} (hH : HeapR A S L env w) {i z ver : Nat} {o o' : LO} {pre post : List U} {u u' : U} {hv : Value} (hL : L[i]? = some o) (ha : AsO o z ver (pre ++ u :: post)) (hp : PutO o (pre ++ u' :: post) o') (k1 : env[i]? = some hv) :
    ∃ g cap cur e, hv = .slice (some ⟨g, 0, none⟩) (pre ++ u :: post).length cap ∧ w.heap[g]? = some (.cells cur e (0, 0)) ∧ pre.length * z + z ≤ cur.size ∧ u.sz = z ∧ Tr w u ((cur.toList.drop (pre.length * z)).take z) ∧ (u.fp w ((cur.toList.drop (pre.length * z)).take z)).Nodup ∧ g ∉ u.fp w ((cur.toList.drop (pre.length * z)).take z) ∧ (∀ b, b ∈ u.fp w ((cur.toList.drop (pre.length * z)).take z) → b < w.heap.size ∧ (A.E b ∨ A.w0.heap.size ≤ b)) ∧
      ∀ (w' : World) (c' : List Value), c'.length = z → u'.sz = z → w'.heap[g]? = some (.cells (cur.toList.take (pre.length * z) ++ c' ++ cur.toList.drop (pre.length * z + z)).toArray e (0, 0)) →
        (∀ b, b < w.heap.size → b ≠ g → b ∉ u.fp w ((cur.toList.drop (pre.length * z)).take z) → w'.heap[b]? = w.heap[b]?) → w.heap.size ≤ w'.heap.size → w'.os = w.os → w'.tape = w.tape → w'.output = w.output →
        Tr w' u' c' → (u'.fp w' c').Nodup → (∀ b ∈ u'.fp w' c', b < w'.heap.size ∧ (b ∈ u.fp w ((cur.toList.drop (pre.length * z)).take z) ∨ w.heap.size ≤ b)) →
        HeapR A S (L.set i o') env w' ∧ Carry S L env w S (L.set i o') env w' := by
  have hob := hH.objs i o hv hL k1
  obtain ⟨hver, hlive, hfto, e, hown⟩ := ha.own' hob
  obtain ⟨hbg, hz, ⟨xs, m1, m2⟩, hnd⟩ := hown
  have hself : ∀ b ∈ (U.sl z (pre ++ u :: post)).fp w [hv], OwnB L env w i b := fun b hb => ⟨o, hv, hL, hlive, k1, (hfto b).2 hb⟩
  rcases fp_own hz m1 with ⟨_, h0, _⟩ | ⟨g0, cap0, hveq, hfp⟩
  · simp at h0
  rcases m1.2 with ⟨h0, _⟩ | ⟨g, cap, cur, hveq', hg0, hg, hnc, hcm, hcs, htake⟩
  · rw [h0] at hveq; cases hveq
  subst hveq'
  have hgg : g = g0 := by injection hveq with h _; injection h with h; injection h
  subst hgg
  have hxl := m1.1
  have hlen : (pre ++ u :: post).length = pre.length + (post.length + 1) := by simp
  have hkz : (pre.length + 1) * z ≤ (pre ++ u :: post).length * z := Nat.mul_le_mul_right _ (by omega)
  have hkz1 : (pre.length + 1) * z = pre.length * z + z := by rw [Nat.add_mul]; omega
  have hcap : (pre ++ u :: post).length * z ≤ cap * z := Nat.mul_le_mul_right _ hnc
  have hsz : u.sz = z := hz u (by simp)
  have s1 : U.szs pre = pre.length * z := szs_all _ (fun v hv => hz v (by simp [hv]))
  obtain ⟨p1, p2, p3⟩ := Trs.split pre xs _ m2
  rw [s1] at p1 p2 p3
  simp only [Trs] at p2
  rw [hsz, List.drop_drop] at p2
  have helem : (xs.drop (pre.length * z)).take z = (cur.toList.drop (pre.length * z)).take z := by
    rw [← htake, List.drop_take, List.take_take, Nat.min_eq_left (by omega)]
  have p3' : U.fps w (pre ++ u :: post) xs = U.fps w pre (xs.take (pre.length * z)) ++ (u.fp w ((cur.toList.drop (pre.length * z)).take z) ++ U.fps w post (xs.drop (pre.length * z + z))) := by
    rw [p3]; simp only [U.fps]; rw [hsz, List.drop_drop, helem]
  rw [helem] at p2
  rw [hfp, p3'] at hnd
  obtain ⟨q1, q2⟩ := List.nodup_cons.1 hnd
  simp only [List.mem_append, not_or] at q1
  obtain ⟨d1, d2, d3⟩ := List.nodup_append.1 q2
  obtain ⟨d4, d5, d6⟩ := List.nodup_append.1 d2
  have hin : ∀ b, (b = g ∨ b ∈ U.fps w pre (xs.take (pre.length * z)) ∨ b ∈ u.fp w ((cur.toList.drop (pre.length * z)).take z) ∨ b ∈ U.fps w post (xs.drop (pre.length * z + z))) → OwnB L env w i b := by
    intro b hb
    refine hself b ?_
    rw [hfp, p3']
    simpa [or_assoc] using hb
  have hlt : ∀ b, OwnB L env w i b → b < w.heap.size := by
    rintro b ⟨o1, hv1, n1, n2, n3, n4⟩
    exact (hH.excl i o1 hv1 b n1 n2 n3 n4).2.2
  refine ⟨g, cap, cur, e, rfl, hg, by rw [hcs]; omega, hsz, p2.1, d4, q1.2.1, fun b hb => (by obtain ⟨o1, hv1, n1, n2, n3, n4⟩ := hin b (.inr (.inr (.inl hb))); have := hH.excl i o1 hv1 b n1 n2 n3 n4; exact ⟨this.2.2, this.2.1⟩), ?_⟩
  intro w' c' hc' hu' hg' hoth hsize hos htape hout T1 T2 T3
  obtain ⟨t1, t2⟩ := Trs.loc (w' := w') _ _ p1 (fun b hb => hoth b (hlt b (hin b (.inr (.inl hb)))) (fun e => q1.1 (e ▸ hb)) (fun hm => d3 b hb b (by simp [hm]) rfl))
  obtain ⟨t3, t4⟩ := Trs.loc (w' := w') _ _ p2.2 (fun b hb => hoth b (hlt b (hin b (.inr (.inr (.inr hb))))) (fun e => q1.2.2 (e ▸ hb)) (fun hm => d6 b hm b hb rfl))
  have tcons : Trs w' (u' :: post) (c' ++ xs.drop (pre.length * z + z)) ∧ U.fps w' (u' :: post) (c' ++ xs.drop (pre.length * z + z)) = u'.fp w' c' ++ U.fps w post (xs.drop (pre.length * z + z)) := by
    simp only [Trs, U.fps]
    rw [List.take_left' (by rw [hc', hu']), List.drop_left' (by rw [hc', hu']), t4]
    exact ⟨⟨T1, t3⟩, rfl⟩
  obtain ⟨r1, r2⟩ := Trs.append _ _ _ _ t1 tcons.1
  rw [← List.append_assoc] at r1 r2
  rw [t2, tcons.2] at r2
  have hz' : ∀ v ∈ pre ++ u' :: post, v.sz = z := fun v hv => by
    rcases List.mem_append.1 hv with hv | hv
    · exact hz v (by simp [hv])
    · rcases List.mem_cons.1 hv with rfl | hv
      · exact hu'
      · exact hz v (by simp [hv])
  have hln : (pre ++ u' :: post).length = (pre ++ u :: post).length := by simp
  have hownE : ∀ e', (∃ xs, w.ownsRow 0 e' z (.slice (some ⟨g, 0, none⟩) (pre ++ u :: post).length cap) (pre ++ u :: post).length xs) → w'.ownsRow 0 e' z (.slice (some ⟨g, 0, none⟩) (pre ++ u :: post).length cap) (pre ++ u' :: post).length (xs.take (pre.length * z) ++ c' ++ xs.drop (pre.length * z + z)) := by
    rintro e' ⟨xs', h⟩
    have he : e' = e := by
      rcases h.2 with ⟨h, _⟩ | ⟨g2, cap2, cur2, h, _, h2, _⟩
      · cases h
      · injection h with h _; injection h with h; injection h with h
        subst h
        rw [hg] at h2
        injection h2 with h2
        injection h2 with _ h2
        exact h2.symm
    subst he
    refine ⟨by simp only [List.length_append, List.length_take, List.length_drop, hxl, hc', List.length_cons]; rw [hlen] at hkz; omega, .inr ⟨g, cap, _, by rw [hln], hg0, hg', by rw [hln]; exact hnc, hcm, by simp only [List.size_toArray, List.length_append, List.length_take, List.length_drop, Array.length_toList, hc']; omega, ?_⟩⟩
    rw [hln, ← htake]
    have := splice_take cur.toList (pre.length * z) ((pre ++ u :: post).length * z) c' (by rw [hc']; omega) (by simp only [Array.length_toList]; omega)
    rw [hc'] at this
    exact this
  have hown1 := hownE e ⟨xs, m1⟩
  have hfp' := own_g hz' hown1 g rfl
  have hi := (List.getElem?_eq_some_iff.1 hL).1
  have hft' := fun b => hp.ft ha w' (.slice (some ⟨g, 0, none⟩) (pre ++ u :: post).length cap) b
  have hsub : ∀ b ∈ (U.sl z (pre ++ u' :: post)).fp w' [.slice (some ⟨g, 0, none⟩) (pre ++ u :: post).length cap], b < w'.heap.size ∧ (w.heap.size ≤ b ∨ OwnB L env w i b) := by
    intro b hb
    rw [hfp', r2] at hb
    simp only [List.mem_cons, List.mem_append] at hb
    have old : OwnB L env w i b → b < w'.heap.size ∧ (w.heap.size ≤ b ∨ OwnB L env w i b) := fun h => ⟨Nat.lt_of_lt_of_le (hlt b h) hsize, .inr h⟩
    rcases hb with h | h | h | h
    · exact old (hin b (.inl h))
    · exact old (hin b (.inr (.inl h)))
    · obtain ⟨x1, x2⟩ := T3 b h
      exact ⟨x1, x2.symm.imp id (fun h => hin b (.inr (.inr (.inl h))))⟩
    · exact old (hin b (.inr (.inr (.inr h))))
  have hnd' : ((U.sl z (pre ++ u' :: post)).fp w' [.slice (some ⟨g, 0, none⟩) (pre ++ u :: post).length cap]).Nodup := by
    rw [hfp', r2]
    have new : ∀ b ∈ u'.fp w' c', b ≠ g ∧ b ∉ U.fps w pre (xs.take (pre.length * z)) ∧ b ∉ U.fps w post (xs.drop (pre.length * z + z)) := by
      intro b hb
      rcases (T3 b hb).2 with h | h
      · exact ⟨fun e => q1.2.1 (e ▸ h), fun hm => d3 b hm b (by simp [h]) rfl, fun hm => d6 b h b hm rfl⟩
      · exact ⟨fun e => by have := hlt b (hin b (.inl e)); omega, fun hm => by have := hlt b (hin b (.inr (.inl hm))); omega, fun hm => by have := hlt b (hin b (.inr (.inr (.inr hm)))); omega⟩
    refine List.nodup_cons.2 ⟨?_, List.nodup_append.2 ⟨d1, List.nodup_append.2 ⟨T2, d5, ?_⟩, ?_⟩⟩
    · simp only [List.mem_append, not_or]
      exact ⟨q1.1, fun hm => (new g hm).1 rfl, q1.2.2⟩
    · intro a' ha' b' hb' hab
      exact (new a' ha').2.2 (hab ▸ hb')
    · intro a' ha' b' hb' hab
      subst hab
      rcases List.mem_append.1 hb' with hb' | hb'
      · exact (new a' hb').2.1 ha'
      · exact d3 a' ha' a' (by simp [hb']) rfl
  refine hH.eat (w' := w') [] i o' (.slice (some ⟨g, 0, none⟩) (pre ++ u :: post).length cap) (L' := L.set i o') (env' := env) (by simp [hH.len]) (fun j hj => ?_) (by rw [List.getElem?_set_self hi]) (fun _ _ => rfl) k1 (fun b hb hno => ?_) (fun o1 hv1 h1 h2 => ?_) hsize hos htape hout (fun b hb => ?_) (fun C => hp.obj ha hob ⟨by rw [hln]; exact hbg, hz', fun e' he' => ⟨_, hownE e' he', r1⟩, hnd'⟩)
  · rw [List.getElem?_set_ne (fun e => hj e.symm)]
    cases L[j]? <;> simp
  · refine hoth b hb (fun e => hno _ _ hL k1 ⟨hlive, (hfto b).2 ?_⟩) (fun hm => hno _ _ hL k1 ⟨hlive, (hfto b).2 ?_⟩)
    · rw [hfp, e]; simp
    · rw [hfp, p3']; simp [hm]
  · rw [hL] at h1; cases h1; rw [k1] at h2; cases h2
    exact ⟨by rw [hp.ver]; exact Nat.le_refl _, fun _ => rfl, fun _ _ => rfl⟩
  · obtain ⟨x1, x2⟩ := hsub b ((hft' b).1 hb)
    refine ⟨x1, x2.imp id ?_⟩
    rintro ⟨o1, hv1, n1, n2, n3, n4⟩
    exact ⟨i, o1, hv1, .inl rfl, n1, n2, n3, n4⟩
/-! ### a scalar in an element -/
/-- Cell number o of a list of fields is replaced. -/
inductive SL (v : U) : List U → Nat → List U → Prop
  | hitI {k : IntKind} {n : Int} {us : List U} : SL v (.i k n :: us) 0 (v :: us)
  | hitS {l : List UInt8} {us : List U} : SL v (.s l :: us) 0 (v :: us)
  | hitB {x : Bool} {us : List U} : SL v (.b x :: us) 0 (v :: us)
  | skI {k : IntKind} {n : Int} {us r : List U} {o : Nat} (h : SL v us o r) : SL v (.i k n :: us) (o + 1) (.i k n :: r)
  | skS {l : List UInt8} {us r : List U} {o : Nat} (h : SL v us o r) : SL v (.s l :: us) (o + 1) (.s l :: r)
  | skB {x : Bool} {us r : List U} {o : Nat} (h : SL v us o r) : SL v (.b x :: us) (o + 1) (.b x :: r)
  | skL {z : Nat} {xs us r : List U} {o : Nat} (h : SL v us o r) : SL v (.sl z xs :: us) (o + 1) (.sl z xs :: r)
  | into {ws us r : List U} {o : Nat} (hlt : Nat.blt o (U.szs ws) = true) (h : SL v ws o r) : SL v (.st ws :: us) o (.st r :: us)
  | over {ws us r : List U} {o o' : Nat} (hlt : Nat.ble (U.szs ws) o = true) (ho : o - U.szs ws = o') (h : SL v us o' r) : SL v (.st ws :: us) o (.st ws :: r)
inductive SU (v : U) : U → Nat → U → Prop
  | st {us us' : List U} {o : Nat} (h : SL v us o us') : SU v (.st us) o (.st us')
  | one {u : U} (h : u.scal = true) : SU v u 0 v
theorem scal_tr {w w' : World} {v : U} {c : Value} (hv : v.scal = true) (h : Tr w v [c]) : Tr w' v [c] ∧ v.fp w' [c] = [] ∧ v.sz = 1 := by
  cases v <;> first | exact ⟨by simpa only [Tr] using h, rfl, rfl⟩ | cases hv
theorem SL.tr {w w' : World} {v : U} {c : Value} (hv : v.scal = true) (hc : Tr w v [c]) {us us' : List U} {o : Nat} (h : SL v us o us') : ∀ (cs : List Value), Trs w us cs → (∀ b ∈ U.fps w us cs, w'.heap[b]? = w.heap[b]?) →
    Trs w' us' (cs.set o c) ∧ U.fps w' us' (cs.set o c) = U.fps w us cs ∧ U.szs us' = U.szs us ∧ o < U.szs us := by
  obtain ⟨v1, v2, v3⟩ := scal_tr (w' := w') hv hc
  have hit : ∀ (u0 : U) (us : List U) (cs : List Value), u0.sz = 1 → (∀ cs, u0.fp w cs = []) → Trs w (u0 :: us) cs → (∀ b ∈ U.fps w (u0 :: us) cs, w'.heap[b]? = w.heap[b]?) →
      Trs w' (v :: us) (cs.set 0 c) ∧ U.fps w' (v :: us) (cs.set 0 c) = U.fps w (u0 :: us) cs ∧ U.szs (v :: us) = U.szs (u0 :: us) ∧ 0 < U.szs (u0 :: us) := by
    intro u0 us cs h1 hf h2 hb
    have hl := Trs.len _ _ h2
    simp only [U.szs, h1] at hl
    simp only [Trs, U.fps, h1, hf, List.nil_append] at h2 hb ⊢
    obtain ⟨t1, t2⟩ := Trs.loc (w' := w') _ _ h2.2 hb
    cases cs with
    | nil => simp at hl; omega
    | cons c0 cs =>
      simp only [List.set_cons_zero, v3, List.take_succ_cons, List.take_zero, List.drop_succ_cons, List.drop_zero, v2, List.nil_append] at t1 t2 ⊢
      exact ⟨⟨v1, t1⟩, t2, by simp only [U.szs, v3, h1], by simp only [U.szs, h1]; omega⟩
  have sk : ∀ (u0 : U) (us r : List U) (o : Nat) (cs : List Value), u0.sz = 1 → (∀ cs, Trs w us cs → (∀ b ∈ U.fps w us cs, w'.heap[b]? = w.heap[b]?) → Trs w' r (cs.set o c) ∧ U.fps w' r (cs.set o c) = U.fps w us cs ∧ U.szs r = U.szs us ∧ o < U.szs us) →
      Trs w (u0 :: us) cs → (∀ b ∈ U.fps w (u0 :: us) cs, w'.heap[b]? = w.heap[b]?) → Trs w' (u0 :: r) (cs.set (o + 1) c) ∧ U.fps w' (u0 :: r) (cs.set (o + 1) c) = U.fps w (u0 :: us) cs ∧ U.szs (u0 :: r) = U.szs (u0 :: us) ∧ o + 1 < U.szs (u0 :: us) := by
    intro u0 us r o cs h1 ih h2 hb
    have hl := Trs.len _ _ h2
    simp only [U.szs, h1] at hl
    simp only [Trs, U.fps, h1, List.mem_append] at h2 hb ⊢
    cases cs with
    | nil => simp at hl; omega
    | cons c0 cs =>
      simp only [List.take_succ_cons, List.take_zero, List.drop_succ_cons, List.drop_zero, List.set_cons_succ] at h2 hb ⊢
      obtain ⟨t1, t2⟩ := Tr.loc (w' := w') _ _ h2.1 (fun b hb' => hb b (.inl hb'))
      obtain ⟨t3, t4, t5, t6⟩ := ih cs h2.2 (fun b hb' => hb b (.inr hb'))
      exact ⟨⟨t1, t3⟩, by rw [t2, t4], by simp only [U.szs, t5], by simp only [U.szs, h1]; omega⟩
  induction h with
  | hitI => intro cs h2 hb; exact hit _ _ cs rfl (fun _ => rfl) h2 hb
  | hitS => intro cs h2 hb; exact hit _ _ cs rfl (fun _ => rfl) h2 hb
  | hitB => intro cs h2 hb; exact hit _ _ cs rfl (fun _ => rfl) h2 hb
  | skI h ih => intro cs h2 hb; exact sk _ _ _ _ cs rfl ih h2 hb
  | skS h ih => intro cs h2 hb; exact sk _ _ _ _ cs rfl ih h2 hb
  | skB h ih => intro cs h2 hb; exact sk _ _ _ _ cs rfl ih h2 hb
  | skL h ih => intro cs h2 hb; exact sk _ _ _ _ cs rfl ih h2 hb
  | @into ws us r o hlt h ih =>
    intro cs h2 hb
    simp only [Nat.blt_eq] at hlt
    simp only [Trs, Tr, U.fps, U.fp, U.sz, List.mem_append] at h2 hb ⊢
    obtain ⟨t3, t4, t5, t6⟩ := ih _ h2.1 (fun b hb' => hb b (.inl hb'))
    obtain ⟨t1, t2⟩ := Trs.loc (w' := w') _ _ h2.2 (fun b hb' => hb b (.inr hb'))
    have hl := Trs.len _ _ h2.1
    simp only [List.length_take] at hl
    rw [t5, List.take_set, List.drop_set_of_lt hlt]
    exact ⟨⟨t3, t1⟩, by rw [t4, t2], by simp only [U.szs, U.sz, t5], by simp only [U.szs, U.sz]; omega⟩
  | @over ws us r o o' hlt ho h ih =>
    intro cs h2 hb
    have hle := Nat.le_of_ble_eq_true hlt
    simp only [Trs, Tr, U.fps, U.fp, U.sz, List.mem_append] at h2 hb ⊢
    obtain ⟨t3, t4, t5, t6⟩ := ih _ h2.2 (fun b hb' => hb b (.inr hb'))
    obtain ⟨t1, t2⟩ := Trs.loc (w' := w') _ _ h2.1 (fun b hb' => hb b (.inl hb'))
    have e1 : (cs.set o c).take (U.szs ws) = cs.take (U.szs ws) := by rw [List.take_set, List.set_eq_of_length_le (by simp only [List.length_take]; omega)]
    have e2 : (cs.set o c).drop (U.szs ws) = (cs.drop (U.szs ws)).set o' c := by rw [List.drop_set, if_neg (by omega), ho]
    rw [e1, e2]
    exact ⟨⟨t1, t3⟩, by rw [t2, t4], by simp only [U.szs, t5], by simp only [U.szs, U.sz]; omega⟩
theorem SU.tr {w w' : World} {v : U} {c : Value} (hv : v.scal = true) (hc : Tr w v [c]) {u u' : U} {o : Nat} (h : SU v u o u') (cs : List Value) (ht : Tr w u cs) (hb : ∀ b ∈ u.fp w cs, w'.heap[b]? = w.heap[b]?) :
    Tr w' u' (cs.set o c) ∧ u'.fp w' (cs.set o c) = u.fp w cs ∧ u'.sz = u.sz ∧ o < u.sz := by
  cases h with
  | st h =>
    simp only [Tr, U.fp, U.sz] at ht hb ⊢
    exact h.tr hv hc cs ht hb
  | one hu =>
    have hl := Tr.len _ _ ht
    have hsz : u.sz = 1 := by cases u <;> first | rfl | cases hu
    rw [hsz] at hl ⊢
    match cs, hl with
    | [c0], _ =>
      obtain ⟨v1, v2, v3⟩ := scal_tr (w' := w') hv hc
      refine ⟨v1, ?_, v3, by omega⟩
      simp only [List.set_cons_zero]
      rw [v2]
      cases u <;> first | rfl | cases hu
theorem row_set {cur : List Value} {a z off : Nat} {c : Value} (hoff : off < z) (hfit : a + z ≤ cur.length) : cur.take (a + off) ++ [c] ++ cur.drop (a + off + 1) = cur.take a ++ ((cur.drop a).take z).set off c ++ cur.drop (a + z) := by
  have h1 : cur.take (a + off) ++ [c] ++ cur.drop (a + off + 1) = cur.set (a + off) c := by rw [List.set_eq_take_append_cons_drop, if_pos (by omega)]; simp
  rw [h1]
  apply List.ext_getElem?
  intro j
  rw [List.getElem?_set]
  by_cases hj : j < a
  · rw [if_neg (by omega), List.append_assoc, List.getElem?_append_left (by simp; omega), List.getElem?_take, if_pos hj]
  · by_cases hj2 : j < a + z
    · rw [List.append_assoc, List.getElem?_append_right (by simp; omega), List.getElem?_append_left (by simp; omega), List.getElem?_set]
      simp only [List.length_take]
      have e1 : min a cur.length = a := by omega
      rw [e1]
      by_cases hj3 : j = a + off
      · subst hj3
        rw [if_pos rfl, if_pos (by omega), if_pos (by omega), if_pos (by simp; omega)]
      · rw [if_neg (by omega), if_neg (by omega), List.getElem?_take, if_pos (by omega), List.getElem?_drop]
        congr 1
        omega
    · rw [if_neg (by omega), List.getElem?_append_right (by simp; omega), List.getElem?_drop]
      congr 1
      simp
      omega
section
variable {P : Program} {A : Amb} {σ : St} {K : St → Prop}
variable {ops : Array Oper} {rest : List Oper} {t : Nat} {ty : TypeId} {pos : String} {af : Array Edge} {x y : Operand} {sv : SV}
/-- A scalar of an element of an owned array is stored. -/
theorem VO_storeF {T : TypeId} {i ver z k off bs : Nat} {o o' : LO} {pre post : List U} {u u' v : U} {fr : List (Nat × SV)} {L L' : List LO} {N : Nat} (hx : (St.mk fr L N).ev x = .ep i ver z k off) (hL : L[i]? = some o) (ha : AsO o z ver (pre ++ u :: post)) (hk : pre.length = k) (hy : (St.mk fr L N).ev y = .d v) (hv : v.scal = true)
    (hT : tyI P T = some (false, 1, bs)) (hu : SU v u off u') (hp : PutO o (pre ++ u' :: post) o') (hL' : St1 o' i L L')
    (h : VO P A ops rest ⟨fr, L', N⟩ K) :
    VO P A ops (⟨none, .store T x y, ty, pos, af, none⟩ :: rest) ⟨fr, L, N⟩ K := by
  have hL2 := hL'.spec
  subst hL2; subst hk
  refine VO_step rfl (fun S env a w hH hf hN hd => ?_) h
  have h1 := Realz.ev hf hH x
  have h2 := Realz.ev hf hH y
  rw [hx] at h1
  rw [hy] at h2
  simp only [SVr] at h1
  obtain ⟨hv', o1, k1, k2, k3, k5, k4⟩ := h1
  rw [hL] at k2
  obtain rfl := Option.some.inj k2
  have hver := (own_form ha (hH.objs i _ hv' hL k1)).1
  obtain ⟨b, e1, e2⟩ := k4 hver.symm
  obtain ⟨g, cap, cur, e, hveq, hg, hfit, hsz, T1, T2, T3, T4, T5⟩ := hH.reEl hL ha hp k1
  subst hveq
  simp only [blk, Option.some.injEq] at e1
  subst e1
  have hst0 : v.isSt = false := by cases v <;> first | rfl | cases hv
  have hrd : Tr w v [a.eval y] := by
    have := (SVr.leaf hst0).1 h2
    have hn : v.noSl = true := by cases v <;> first | rfl | cases hv
    exact (Rd.tr (w' := w) v _ hn this).1
  have hone : (a.eval y).oneCell' = true := by
    have := (SVr.leaf hst0).1 h2
    exact Rd.oneCell _ _ this _ (by simp)
  have hoff := (hu.tr (w' := w) hv hrd _ T1 (fun _ _ => rfl)).2.2.2
  rw [hsz] at hoff
  have hcells := cells_one hone
  have hst := run_storeCells_at P g (pre.length * z + off) e [a.eval y] 0 cur w hg (by simp; omega) (by simpa using hone)
  simp only [Nat.add_zero, List.length_cons, List.length_nil, Nat.zero_add] at hst
  have hrow := setRow_heap w g cur ((cur.toList.take (pre.length * z + off) ++ [a.eval y] ++ cur.toList.drop (pre.length * z + off + 1)).toArray) e (0, 0) hg
  have hoth : ∀ b', b' ≠ g → (w.setRow g (cur.toList.take (pre.length * z + off) ++ [a.eval y] ++ cur.toList.drop (pre.length * z + off + 1)).toArray).heap[b']? = w.heap[b']? := fun b' hb' => setRow_other w g b' _ hb'
  obtain ⟨r1, r2, r3, r4⟩ := hu.tr (w' := w.setRow g (cur.toList.take (pre.length * z + off) ++ [a.eval y] ++ cur.toList.drop (pre.length * z + off + 1)).toArray) hv hrd _ T1 (fun b' hb' => hoth b' (fun e => T3 (e ▸ hb')))
  obtain ⟨hH', C⟩ := T5 (w.setRow g (cur.toList.take (pre.length * z + off) ++ [a.eval y] ++ cur.toList.drop (pre.length * z + off + 1)).toArray) (((cur.toList.drop (pre.length * z)).take z).set off (a.eval y)) (by simp; omega) (by rw [r3, hsz]) (by rw [hrow, row_set hoff (by simpa using hfit)]) (fun b' _ hb' _ => hoth b' hb') (by rw [setRow_size]; exact Nat.le_refl _) rfl rfl rfl r1 (by rw [r2]; exact T2) (fun b' hb' => by
      rw [r2] at hb'
      exact ⟨by rw [setRow_size]; exact (T4 b' hb').1, .inl hb'⟩)
  refine ⟨.skip, _, ?_, .inr ⟨rfl, realz_put_none hf hN hd hH' C⟩⟩
  simp [execOp, Instr.storeAt, e2, Instr.sureAddr, storeVar, run_sizeOf hT, hcells, hst]
end
end Go.Eng
namespace Go.Eng
open Go Go.RowKit
section
variable {hv : Nat → Value} {e : Nat → Nat} {w : World}
end
section
variable {P : Program}
end
end Go.Eng
namespace Go.Eng
open Go Go.RowKit
section
variable {A : Amb} {S : Nat → Prop} {L : List LO} {env : List Value} {w : World}
end
section
variable {P : Program} {A : Amb} {σ : St} {K : St → Prop}
variable {ops : Array Oper} {rest : List Oper} {t : Nat} {ty : TypeId} {pos : String} {af : Array Edge} {x y : Operand} {sv : SV}
/-! ### what lies in an element, turned -/
inductive HS (old new : U) : List U → Nat → List U → Prop
  | hit {us : List U} : HS old new (old :: us) 0 (new :: us)
  | into {ws us r : List U} {o : Nat} (hlt : Nat.blt o (U.szs ws) = true) (h : HS old new ws o r) : HS old new (.st ws :: us) o (.st r :: us)
  | over {u0 : U} {us r : List U} {o o' : Nat} (hlt : Nat.ble u0.sz o = true) (ho : o - u0.sz = o') (h : HS old new us o' r) : HS old new (u0 :: us) o (u0 :: r)
theorem HS.tr {w : World} {old new : U} (h1 : old.sz = 1) (h2 : new.sz = 1) {us us' : List U} {o : Nat} (h : HS old new us o us') : ∀ (cs : List Value), Trs w us cs → (U.fps w us cs).Nodup → (∀ b ∈ U.fps w us cs, b < w.heap.size) →
    ∃ c, cs[o]? = some c ∧ Tr w old [c] ∧ (old.fp w [c]).Nodup ∧ (∀ b ∈ old.fp w [c], b ∈ U.fps w us cs) ∧
    ∀ w', Tr w' new [c] → (new.fp w' [c]).Nodup → (∀ b ∈ new.fp w' [c], b ∈ old.fp w [c] ∨ w.heap.size ≤ b) → (∀ b, b < w.heap.size → b ∉ old.fp w [c] → w'.heap[b]? = w.heap[b]?) →
      Trs w' us' cs ∧ (U.fps w' us' cs).Nodup ∧ (∀ b ∈ U.fps w' us' cs, b ∈ U.fps w us cs ∧ (b ∈ new.fp w' [c] ∨ b ∉ old.fp w [c]) ∨ (w.heap.size ≤ b ∧ b ∈ new.fp w' [c])) ∧ U.szs us' = U.szs us := by
  induction h with
  | @hit us =>
    intro cs ht hn hlt
    have hl := Trs.len _ _ ht
    simp only [U.szs, h1] at hl
    simp only [Trs, U.fps, h1] at ht hn hlt
    cases cs with
    | nil => simp at hl; omega
    | cons c cs =>
      simp only [List.take_succ_cons, List.take_zero, List.drop_succ_cons, List.drop_zero] at ht hn hlt
      obtain ⟨n1, n2, n3⟩ := List.nodup_append.1 hn
      refine ⟨c, rfl, ht.1, n1, fun b hb => by simp only [U.fps, h1, List.take_succ_cons, List.take_zero, List.mem_append]; exact .inl hb, fun w' t1 t2 t3 t4 => ?_⟩
      obtain ⟨q1, q2⟩ := Trs.loc (w' := w') _ _ ht.2 (fun b hb => t4 b (hlt b (by simp [hb])) (fun hm => n3 b hm b hb rfl))
      simp only [Trs, U.fps, h1, h2, List.take_succ_cons, List.take_zero, List.drop_succ_cons, List.drop_zero, q2, U.szs]
      refine ⟨⟨t1, q1⟩, List.nodup_append.2 ⟨t2, n2, fun x hx y hy hxy => ?_⟩, fun b hb => ?_, trivial⟩
      · subst hxy
        rcases t3 x hx with h | h
        · exact n3 x h x hy rfl
        · have := hlt x (by simp [hy]); omega
      · rcases List.mem_append.1 hb with hb | hb
        · rcases t3 b hb with h | h
          · exact .inl ⟨by simp [h], .inl hb⟩
          · exact .inr ⟨h, hb⟩
        · exact .inl ⟨by simp [hb], .inr (fun hm => n3 b hm b hb rfl)⟩
  | @into ws us r o hlt0 h ih =>
    intro cs ht hn hlt
    simp only [Nat.blt_eq] at hlt0
    simp only [Trs, Tr, U.fps, U.fp, U.sz] at ht hn hlt
    obtain ⟨n1, n2, n3⟩ := List.nodup_append.1 hn
    obtain ⟨c, k1, k2, k3, k4, k5⟩ := ih _ ht.1 n1 (fun b hb => hlt b (by simp [hb]))
    refine ⟨c, by rw [List.getElem?_take, if_pos hlt0] at k1; exact k1, k2, k3, fun b hb => by simp only [U.fps, U.fp, U.sz, List.mem_append]; exact .inl (k4 b hb), fun w' t1 t2 t3 t4 => ?_⟩
    obtain ⟨p1, p2, p3, p4⟩ := k5 w' t1 t2 t3 t4
    obtain ⟨q1, q2⟩ := Trs.loc (w' := w') _ _ ht.2 (fun b hb => t4 b (hlt b (by simp [hb])) (fun hm => n3 b (k4 b hm) b hb rfl))
    simp only [Trs, Tr, U.fps, U.fp, U.sz, U.szs, p4, q2]
    refine ⟨⟨p1, q1⟩, List.nodup_append.2 ⟨p2, n2, fun x hx y hy hxy => ?_⟩, fun b hb => ?_, trivial⟩
    · subst hxy
      rcases p3 x hx with h | h
      · exact n3 x h.1 x hy rfl
      · have := hlt x (by simp [hy]); omega
    · rcases List.mem_append.1 hb with hb | hb
      · rcases p3 b hb with h | h
        · exact .inl ⟨by simp [h.1], h.2⟩
        · exact .inr h
      · exact .inl ⟨by simp [hb], .inr (fun hm => n3 b (k4 b hm) b hb rfl)⟩
  | @over u0 us r o o' hle0 ho h ih =>
    intro cs ht hn hlt
    have hle := Nat.le_of_ble_eq_true hle0
    simp only [Trs, U.fps] at ht hn hlt
    obtain ⟨n1, n2, n3⟩ := List.nodup_append.1 hn
    obtain ⟨c, k1, k2, k3, k4, k5⟩ := ih _ ht.2 n2 (fun b hb => hlt b (by simp [hb]))
    refine ⟨c, by rw [List.getElem?_drop] at k1; rw [← k1]; congr 1; omega, k2, k3, fun b hb => by simp only [U.fps, List.mem_append]; exact .inr (k4 b hb), fun w' t1 t2 t3 t4 => ?_⟩
    obtain ⟨p1, p2, p3, p4⟩ := k5 w' t1 t2 t3 t4
    obtain ⟨q1, q2⟩ := Tr.loc (w' := w') _ _ ht.1 (fun b hb => t4 b (hlt b (by simp [hb])) (fun hm => n3 b hb b (k4 b hm) rfl))
    simp only [Trs, U.fps, U.szs, p4, q2]
    refine ⟨⟨q1, p1⟩, List.nodup_append.2 ⟨n1, p2, fun x hx y hy hxy => ?_⟩, fun b hb => ?_, trivial⟩
    · subst hxy
      rcases p3 x hy with h | h
      · exact n3 x hx x h.1 rfl
      · have := hlt x (by simp [hx]); omega
    · rcases List.mem_append.1 hb with hb | hb
      · exact .inl ⟨by simp [hb], .inr (fun hm => n3 b hb b (k4 b hm) rfl)⟩
      · rcases p3 b hb with h | h
        · exact .inl ⟨by simp [h.1], h.2⟩
        · exact .inr h
end
end Go.Eng
namespace Go.Eng
open Go Go.RowKit
section
variable {P : Program} {A : Amb} {σ : St} {K : St → Prop} {Q : Exit → St → Prop}
variable {dst : Option Nat} {ty : TypeId} {pos : String} {af : Array Edge} {g : Option (Nat × Bool)} {x y : Operand} {sv : SV}
/-- A conversion between kinds of integers. -/
theorem Q_convI {T T2 : TypeId} {k k1 k2 : IntKind} {m : Int} (hx : σ.ev x = .d (.i k m)) (h1 : P.underlying T = some (.int k1)) (h2 : P.underlying T2 = some (.int k2)) : Quiet P A σ ⟨dst, .convert T T2 x, ty, pos, af, g⟩ (.d (.i k2 (k2.wrap m))) := Quiet.pure fun S env a w hH ho => by
  have h3 := ho x (by simp [Op.operands])
  rw [hx, SVr.int] at h3
  exact ⟨.int k2 (k2.wrap m), by simp [execOp, h3, convert, run_underlying h1, run_underlying h2, Conv.intToInt], SVr.int.2 rfl⟩
/-- A slice of one byte, as a string. -/
theorem Q_convB1 {T T2 e : TypeId} {j ver e' : Nat} {m : Int} (hx : σ.ev x = .sl j ver) (hL : σ.L[j]? = some (.own e' 1 ver [.i .u8 m])) (h1 : P.underlying T = some (.slice e)) (h2 : P.underlying e = some (.int .u8)) (h3 : P.underlying T2 = some .string) :
    Quiet P A σ ⟨dst, .convert T T2 x, ty, pos, af, g⟩ (.d (.s [UInt8.ofNat m.toNat])) := Quiet.pure fun S env a w hH ho => by
  have h4 := ho x (by simp [Op.operands])
  rw [hx] at h4
  simp only [SVr] at h4
  obtain ⟨hv, o, k1, k2, k3, k5, k4⟩ := h4
  rw [hL] at k2
  obtain rfl := Option.some.inj k2
  have k6 := k4 rfl
  obtain ⟨_, _, ⟨xs, h5, h6⟩, _⟩ := hH.objs j _ hv hL k1
  simp only [Trs, Tr, U.sz] at h6
  have hl := h5.1
  match xs, hl with
  | [c], _ =>
    simp only [List.take_succ_cons, List.take_zero, List.cons.injEq, and_true] at h6
    obtain ⟨rfl, _⟩ := h6
    rcases h5.2 with ⟨_, h0⟩ | ⟨b, cap, cur, rfl, r⟩
    · simp at h0
    · refine ⟨.string ⟨#[UInt8.ofNat m.toNat]⟩, ?_, SVr.str.2 ⟨by simp [big_eq], rfl⟩⟩
      have hld := run_loadCells_list (P := P) (w := w) ⟨b, 0, none⟩ [.int .u8 m] (fun j u hu => h5.cells (g := b) rfl j u hu)
      simp only [List.length_cons, List.length_nil, Nat.zero_add] at hld
      simp [execOp, k6, convert, run_underlying h1, run_underlying h2, run_underlying h3, Conv.bytesToString, hld]
      rfl
theorem Q_adds {T T' : TypeId} {a b : List UInt8} (hx : σ.ev x = .d (.s a)) (hy : σ.ev y = .d (.s b)) (hl : a.length + b.length ≤ big) : Quiet P A σ ⟨dst, .binOp .add T x y T', ty, pos, af, g⟩ (.d (.s (a ++ b))) := Quiet.pure fun S env ac w hH ho => by
  have h1 := ho x (by simp [Op.operands])
  have h2 := ho y (by simp [Op.operands])
  rw [hx, SVr.str] at h1
  rw [hy, SVr.str] at h2
  refine ⟨.string ⟨(a ++ b).toArray⟩, ?_, SVr.str.2 ⟨by rw [List.length_append]; exact hl, rfl⟩⟩
  rw [big_eq] at hl
  have hs : (⟨a.toArray⟩ : ByteArray).size = a.length := rfl
  have hs' : (⟨b.toArray⟩ : ByteArray).size = b.length := rfl
  have happ : (⟨a.toArray⟩ : ByteArray) ++ ⟨b.toArray⟩ = ⟨(a ++ b).toArray⟩ := by
    apply ByteArray.ext
    simp [ByteArray.data_append]
  simp [execOp, h1.2, h2.2, eqGuard, binOp, Op.stringOp, hs, hs', happ]
  omega
end
end Go.Eng
namespace Go.Eng
open Go Go.RowKit
inductive KR : List Nat → List LO → List LO → Prop
  | nil {L : List LO} : KR [] L L
  | cons {j : Nat} {js : List Nat} {o : LO} {L L1 L' : List LO} (h : L[j]? = some o) (hs : St1 (.dead (o.ver + 1)) j L L1) (r : KR js L1 L') : KR (j :: js) L L'
theorem KR.spec {js : List Nat} {L L' : List LO} (h : KR js L L') (hn : js.Nodup) : kill js 0 L = L' := by
  have key : ∀ {js : List Nat} {L L' : List LO}, KR js L L' → js.Nodup → L'.length = L.length ∧ ∀ i, L'[i]? = L[i]?.map (fun o => if js.contains i then .dead (o.ver + 1) else o) := by
    intro js L L' h
    induction h with
    | nil => intro _; exact ⟨rfl, fun i => by cases h : (_ : List LO)[i]? <;> simp⟩
    | @cons j js o L L1 L' h hs r ih =>
      intro hn
      have h1 := hs.spec
      subst h1
      obtain ⟨n1, n2⟩ := List.nodup_cons.1 hn
      obtain ⟨i1, i2⟩ := ih n2
      refine ⟨by rw [i1, List.length_set], fun i => ?_⟩
      rw [i2 i]
      by_cases hij : j = i
      · subst hij
        have hlt := (List.getElem?_eq_some_iff.1 h).1
        have hc : js.contains j = false := by simpa using n1
        rw [List.getElem?_set_self hlt, h]
        simp only [Option.map_some, hc, List.contains_cons, beq_self_eq_true, Bool.true_or, if_true, Bool.false_eq_true, if_false]
      · rw [List.getElem?_set_ne hij]
        have : (j :: js).contains i = js.contains i := by
          have : (i == j) = false := by simpa using fun e => hij e.symm
          simp only [List.contains_cons, this, Bool.false_or]
        rw [this]
  obtain ⟨k1, k2⟩ := key h hn
  apply List.ext_getElem?
  intro i
  rw [kill_get, Nat.zero_add, k2 i]
section
variable {P : Program} {A : Amb} {σ : St} {K : St → Prop}
variable {ops : Array Oper} {rest : List Oper} {t : Nat} {ty : TypeId} {pos : String} {af : Array Edge} {x y : Operand} {sv : SV}
theorem VR_store {T : TypeId} {gg : Bool} {i ver z k e bs : Nat} {es : List U} {u : U} {js : List Nat} {fr : List (Nat × SV)} {L L1 L' : List LO} {N : Nat} (hx : (St.mk fr L N).ev x = .ep i ver z k 0) (hL : L[i]? = some (.own e z ver es)) (hy : OV L ((St.mk fr L N).ev y) u js)
    (hjs : (decide js.Nodup && !js.contains i) = true) (hT : tyI P T = some (gg, z, bs)) (hu : u.sz = z) (hk : k < es.length) (hk1 : KR js L L1) (hL' : St1 (.own e z ver (es.set k u)) i L1 L')
    (h : VO P A ops rest ⟨fr, L', N⟩ K) : VO P A ops (⟨none, .store T x y, ty, pos, af, none⟩ :: rest) ⟨fr, L, N⟩ K := by
  have hjs' := hjs
  simp only [Bool.and_eq_true, decide_eq_true_eq] at hjs'
  exact VO_storeO hx hL hy hjs hT hu hk (by rw [hk1.spec hjs'.1]; exact hL'.spec) h
theorem VR_make {T e : TypeId} {gg : Bool} {z bs : Nat} {zs : List Value} {zu : U} {k k' : IntKind} {l c : Int} {fr : List (Nat × SV)} {L L' : List LO} {N i : Nat} (hx : (St.mk fr L N).ev x = .d (.i k l)) (hy : (St.mk fr L N).ev y = .d (.i k' c))
    (hT : tyE P T = some e) (he : tyI P e = some (gg, z, bs)) (hZ : tyZ P e = some zs) (hz : (Nat.blt 0 z && zs.length == z) = true) (hzu : ZeroT zu zs)
    (h0 : 0 ≤ l) (hlc : l ≤ c) (hc : c ≤ big) (hbytes : (bs : Int) * c ≤ 281474976710656) (ht : Nat.blt t N = true) (hL' : Sn (.own e z 0 (List.replicate l.toNat zu)) L i L')
    (h : VO P A ops rest ⟨(t, .sl i 0) :: fr, L', N⟩ K) : VO P A ops (⟨some t, .makeSlice T x y, ty, pos, af, none⟩ :: rest) ⟨fr, L, N⟩ K := VO_makeO hx hy hT he hZ hz hzu h0 hlc hc hbytes ht hL'.spec.1 hL' h
theorem VR_append {T e T' : TypeId} {gg : Bool} {z bs i ver : Nat} {zs : List Value} {es us : List U} {js : List Nat} {fr : List (Nat × SV)} {L L1 L' : List LO} {N : Nat} (hx : (St.mk fr L N).ev x = .sl i ver) (hL : L[i]? = some (.own e z ver es)) (hs : SrcO L z ((St.mk fr L N).ev y) us js)
    (hjs : (decide js.Nodup && !js.contains i) = true) (hT : tyE P T = some e) (he : tyI P e = some (gg, z, bs)) (hZ : tyZ P e = some zs) (hz : (Nat.blt 0 z && zs.length == z) = true)
    (hbig : es.length + us.length ≤ big) (hbytes : (es.length + us.length) * bs ≤ 140737488355328) (ht : Nat.blt t N = true) (hk1 : KR js L L1) (hL' : St1 (.own e z (ver + 1) (es ++ us)) i L1 L')
    (h : VO P A ops rest ⟨(t, .sl i (ver + 1)) :: fr, L', N⟩ K) : VO P A ops (⟨some t, .call { callee := .builtin .append, args := #[x, y], argTypes := #[T, T] }, T', pos, af, none⟩ :: rest) ⟨fr, L, N⟩ K := by
  simp only [Bool.and_eq_true, decide_eq_true_eq] at hjs
  exact VO_appendO hx hL hs hjs.2 hT he hZ hz hbig hbytes ht (by rw [hk1.spec hjs.1]; exact hL'.spec) h
theorem VR_slit1 {T e : TypeId} {gg : Bool} {z bs i : Nat} {zs : List Value} {u : U} {js : List Nat} {fr : List (Nat × SV)} {L L1 L' : List LO} {N : Nat} (hy : OV L ((St.mk fr L N).ev x) u js) (hjs : decide js.Nodup = true) (hT : tyE P T = some e) (he : tyI P e = some (gg, z, bs)) (hZ : tyZ P e = some zs)
    (hz : (Nat.blt 0 z && Nat.blt z 16777216 && zs.length == z) = true) (hu : u.sz = z) (ht : Nat.blt t N = true) (hk1 : KR js L L1) (hL' : Sn (.own e z 0 [u]) L1 i L')
    (h : VO P A ops rest ⟨(t, .sl i 0) :: fr, L', N⟩ K) : VO P A ops (⟨some t, .buildSlice T 1 #[(0, x)], ty, pos, af, none⟩ :: rest) ⟨fr, L, N⟩ K := by
  have hk := hk1.spec (of_decide_eq_true hjs)
  obtain ⟨h1, h2⟩ := hL'.spec
  exact VO_slit1 hy hjs hT he hZ hz hu ht (by rw [← h1, ← hk, kill_len]) (by rw [hk]; exact h2) h
end
theorem tI : ∀ w, Tr w (.i .i64 0) [.int .i64 0] ∧ (U.i .i64 0).fp w [.int .i64 0] = [] := fun w => ⟨by simp [Tr], rfl⟩
theorem tB : ∀ w, Tr w (.b false) [.bool false] ∧ (U.b false).fp w [.bool false] = [] := fun w => ⟨by simp [Tr], rfl⟩
theorem tS : ∀ w, Tr w (.s []) [.string ⟨#[]⟩] ∧ (U.s []).fp w [.string ⟨#[]⟩] = [] := fun w => ⟨by simp [Tr, big], rfl⟩
theorem tL (z : Nat) : ∀ w, Tr w (.sl z []) [.slice none 0 0] ∧ (U.sl z []).fp w [.slice none 0 0] = [] := fun w => Tr.nil w z
/-- Zero values, leaf by leaf. -/
inductive ZL : List U → List Value → Prop
  | nil : ZL [] []
  | i {us : List U} {vs : List Value} (h : ZL us vs) : ZL (.i .i64 0 :: us) (.int .i64 0 :: vs)
  | b {us : List U} {vs : List Value} (h : ZL us vs) : ZL (.b false :: us) (.bool false :: vs)
  | s {us : List U} {vs : List Value} (h : ZL us vs) : ZL (.s [] :: us) (.string ⟨#[]⟩ :: vs)
  | l {z : Nat} {us : List U} {vs : List Value} (h : ZL us vs) : ZL (.sl z [] :: us) (.slice none 0 0 :: vs)
theorem ZL.r {us : List U} {vs : List Value} (h : ZL us vs) (w : World) : All2 (fun u c => Tr w u [c]) us vs ∧ fpl w us vs = [] := by
  induction h with
  | nil => exact ⟨trivial, rfl⟩
  | i h ih => exact ⟨⟨(tI w).1, ih.1⟩, by simp only [fpl, (tI w).2, ih.2, List.nil_append]⟩
  | b h ih => exact ⟨⟨(tB w).1, ih.1⟩, by simp only [fpl, (tB w).2, ih.2, List.nil_append]⟩
  | s h ih => exact ⟨⟨(tS w).1, ih.1⟩, by simp only [fpl, (tS w).2, ih.2, List.nil_append]⟩
  | l h ih => exact ⟨⟨(tL _ w).1, ih.1⟩, by simp only [fpl, (tL _ w).2, ih.2, List.nil_append]⟩
theorem zeroT {u : U} {fl : List U} {vs : List Value} (hl : Lv u fl) (h : ZL fl vs) : ZeroT u vs := fun w => by
  have := hl.eq
  subst this
  obtain ⟨h1, h2⟩ := h.r w
  exact ⟨Tr.of_leafs _ _ h1, by rw [fp_flat _ _ (by rw [← h1.length, U.flat_len]), h2]⟩
end Go.Eng
