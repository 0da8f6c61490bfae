/- The engine, part 58: a scalar in a slice that lies in an element of an owned array; owned arrays whose elements become shared. -/
import Derived.Test.YtgmlpaaklnkghaaGreatEng57
set_option linter.unusedVariables false
set_option linter.unusedSimpArgs false
namespace Go.Eng
open Go Go.RowKit
section
variable {P : Program} {A : Amb} {σ : St} {K : St → Prop} {Q : Exit → St → Prop}
variable {ops : Array Oper} {rest : List Oper} {x y : Operand}
theorem slots_put {S : Nat → Prop} {L : List LO} {env : List Value} {w : World} {fr : List (Nat × SV)} {a : Act} {t0 : Nat} {sv : SV} {v : Value} (h : ∀ t, SVr S L env w (look fr t) (a.tmps.getD t undef)) (ht : t0 < a.tmps.size) (hv : SVr S L env w sv v) :
    ∀ t, SVr S L env w (look ((t0, sv) :: fr) t) ((a.put (some t0) v).tmps.getD t undef) := by
  intro u
  rw [Act.getD_put a t0 v ht u]
  simp only [look]
  split
  · exact hv
  · exact h u
/-- One operation, run: what it gives is put away. -/
theorem wp_put {t : Nat} {op : Op} {ty : TypeId} {pos : String} {af : Array Edge} {a : Act} {w : World} {v : Value} {R : Exit → Act → World → Prop} (hrun : (execOp a.eval ⟨some t, op, ty, pos, af, none⟩).run P w = .ok (.value v) w) (h : wpList P ops R rest (a.put (some t) v) w) :
    wpList P ops R (⟨some t, op, ty, pos, af, none⟩ :: rest) a w := by
  refine wpList_plain rfl fun K' hK' => ?_
  unfold Oper.wp
  rw [hrun]
  exact hK' _ _ h
/-- A scalar in an element of a whole slice, made anew. -/
theorem Tr.put {w : World} {z off : Nat} {pre post : List U} {u u' v : U} {c cv : Value} (hg0 : Gok (fun b => b ∈ (U.sl z (pre ++ u :: post)).fp w [c]) w) (hv : v.scal = true) (hcv : Tr w v [cv]) (hu : SU v u off u') (h1 : Tr w (.sl z (pre ++ u :: post)) [c]) (h2 : ((U.sl z (pre ++ u :: post)).fp w [c]).Nodup) (h3 : ∀ b ∈ (U.sl z (pre ++ u :: post)).fp w [c], b < w.heap.size) :
    ∃ g cap cur e, c = .slice (some ⟨g, 0, none⟩) (pre ++ u :: post).length cap ∧ w.heap[g]? = some (.cells cur e (0, 0)) ∧ pre.length * z + z ≤ cur.size ∧ off < z ∧ g ∈ (U.sl z (pre ++ u :: post)).fp w [c] ∧
      ∀ w', w' = w.setRow g (cur.toList.take (pre.length * z + off) ++ [cv] ++ cur.toList.drop (pre.length * z + off + 1)).toArray →
        Tr w' (.sl z (pre ++ u' :: post)) [c] ∧ ((U.sl z (pre ++ u' :: post)).fp w' [c]).Nodup ∧ (∀ b ∈ (U.sl z (pre ++ u' :: post)).fp w' [c], b < w.heap.size ∧ b ∈ (U.sl z (pre ++ u :: post)).fp w [c]) ∧ (∀ b, b ≠ g → w'.heap[b]? = w.heap[b]?) := by
  have h1' := h1
  simp only [Tr] at h1'
  obtain ⟨b1, b2, hv0, e0, xs, hc, r0, t0⟩ := h1'
  obtain rfl : c = hv0 := by simpa using hc
  have hH : HeapR ⟨w, fun _ => False, fun b => b ∈ (U.sl z (pre ++ u :: post)).fp w [c], [], []⟩ (fun _ => False) [.own e0 z 0 (pre ++ u :: post)] [c] w := by
    have one : ∀ (i : Nat) (o : LO) (hv : Value), ([.own e0 z 0 (pre ++ u :: post)] : List LO)[i]? = some o → ([c] : List Value)[i]? = some hv → i = 0 ∧ o = .own e0 z 0 (pre ++ u :: post) ∧ hv = c := by
      intro i o hv k1 k2
      cases i with
      | zero => simp at k1 k2; exact ⟨rfl, k1.symm, k2.symm⟩
      | succ i => simp at k1
    refine ⟨rfl, fun i o hv k1 k2 => ?_, fun i o hv b k1 _ k2 k3 => ?_, fun i j o o' hv hv' b k1 k2 _ _ k3 k4 _ _ => ?_, fun b hb => hb.elim, fun b hb => hb.elim, fun b _ _ => rfl, Nat.le_refl _, rfl, rfl, rfl, Base.nil rfl, hg0⟩
    · obtain ⟨rfl, rfl, rfl⟩ := one i o hv k1 k2
      exact ⟨b1, b2, ⟨xs, r0, t0⟩, h2⟩
    · obtain ⟨rfl, rfl, rfl⟩ := one i o hv k1 k2
      exact ⟨fun h => h.elim, .inl k3, h3 b k3⟩
    · obtain ⟨rfl, _, _⟩ := one i o hv k1 k3
      obtain ⟨rfl, _, _⟩ := one j o' hv' k2 k4
      rfl
  obtain ⟨g, cap, cur, e, hveq, hg, hfit, hsz, T1, T2, T3, T4, T5⟩ := hH.reEl (i := 0) (u' := u') (o' := .own e0 z 0 (pre ++ u' :: post)) rfl .own .own rfl
  have hoff := (hu.tr (w' := w) hv hcv _ T1 (fun _ _ => rfl)).2.2.2
  rw [hsz] at hoff
  refine ⟨g, cap, cur, e, hveq, hg, hfit, hoff, by rw [hveq]; simp [U.fp], fun w' hw' => ?_⟩
  subst hw'
  have hrow := setRow_heap w g cur ((cur.toList.take (pre.length * z + off) ++ [cv] ++ cur.toList.drop (pre.length * z + off + 1)).toArray) e (0, 0) hg
  have hoth : ∀ b', b' ≠ g → (w.setRow g (cur.toList.take (pre.length * z + off) ++ [cv] ++ cur.toList.drop (pre.length * z + off + 1)).toArray).heap[b']? = w.heap[b']? := fun b' hb' => setRow_other w g b' _ hb'
  obtain ⟨r1, r2, r3, r4⟩ := hu.tr (w' := w.setRow g (cur.toList.take (pre.length * z + off) ++ [cv] ++ cur.toList.drop (pre.length * z + off + 1)).toArray) hv hcv _ T1 (fun b' hb' => hoth b' (fun e => T3 (e ▸ hb')))
  obtain ⟨hH', C⟩ := T5 (w.setRow g (cur.toList.take (pre.length * z + off) ++ [cv] ++ cur.toList.drop (pre.length * z + off + 1)).toArray) (((cur.toList.drop (pre.length * z)).take z).set off cv) (by simp; omega) (by rw [r3, hsz]) (by rw [hrow, row_set hoff (by simpa using hfit)]) (fun b' _ hb' _ => hoth b' hb') (by rw [setRow_size]; exact Nat.le_refl _) rfl rfl rfl r1 (by rw [r2]; exact T2) (fun b' hb' => by
      rw [r2] at hb'
      exact ⟨by rw [setRow_size]; exact (T4 b' hb').1, .inl hb'⟩)
  have hob := hH'.objs 0 _ c rfl rfl
  refine ⟨own_tr hob, hob.2.2.2, fun b hb => ?_, hoth⟩
  have hx := hH'.excl 0 _ c b rfl rfl rfl hb
  have hlt : b < w.heap.size := by have := hx.2.2; rwa [setRow_size] at this
  refine ⟨hlt, ?_⟩
  rcases hx.2.1 with h | h
  · exact h
  · exact absurd hlt (Nat.not_lt.2 h)
/-- The length of a slice that lies in an element of an owned array. -/
theorem VO_deeplen {T T2 e2 : TypeId} {tl tc : Nat} {ty1 ty2 : TypeId} {pos1 pos2 : String} {af1 af2 : Array Edge} {i ver z k off bs z' : Nat} {o : LO} {pre post us olds : List U} {fr : List (Nat × SV)} {L : List LO} {N : Nat}
    (hx : (St.mk fr L N).ev x = .ep i ver z k off) (hL : L[i]? = some o) (ha : AsO o z ver (pre ++ .st us :: post)) (hk : pre.length = k) (hT : tyI P T = some (false, 1, bs)) (hu : WH (.sl z' olds) (.sl z' olds) us (some off) us none) (hT2 : tyE P T2 = some e2) (htl : Nat.blt tl N = true) (htc : Nat.blt tc N = true)
    (h : VO P A ops rest ⟨(tc, .d (.i .i64 olds.length)) :: (tl, .junk) :: fr, L, N⟩ K) :
    VO P A ops (⟨some tl, .load T x, ty1, pos1, af1, none⟩ :: ⟨some tc, .call { callee := .builtin .len, args := #[.tmp tl], argTypes := #[T2] }, ty2, pos2, af2, none⟩ :: rest) ⟨fr, L, N⟩ K := by
  have hu := ((hu.spec (by simp only [U.sz]; omega)).2 _ rfl).1 rfl
  subst hk
  intro R hR a w ⟨S, env, hH, hfr, hN, hd⟩
  have h1 := Realz.ev hfr hH x
  rw [hx] at h1
  simp only [SVr] at h1
  obtain ⟨hv, o1, k1, k2, k3, k5, k4⟩ := h1
  rw [hL] at k2
  obtain rfl := Option.some.inj k2
  have hver := (own_form ha (hH.objs i _ hv hL k1)).1
  obtain ⟨b, e1, e2'⟩ := k4 hver.symm
  have hp : PutO o (pre ++ .st us :: post) o := by cases ha <;> constructor
  obtain ⟨g, cap, cur, e, hveq, hg, hfit, hsz, T1, T2', T3, T4, _⟩ := hH.reEl hL ha hp k1
  subst hveq
  simp only [blk, Option.some.injEq] at e1
  subst e1
  simp only [Tr, U.fp] at T1 T2' T3 T4
  simp only [U.sz] at hsz
  obtain ⟨c, c1, c2, c3, c4, c5⟩ := hu.tr rfl rfl _ T1 T2' (fun b hb => (T4 b hb).1)
  have hoff : off < z := by
    have := (List.getElem?_eq_some_iff.1 c1).1
    simp at this
    omega
  have hcur : cur.toList[pre.length * z + off]? = some c := by
    rw [List.getElem?_take, if_pos hoff, List.getElem?_drop] at c1
    exact c1
  have htl' : tl < a.tmps.size := by rw [hN]; simpa [Nat.blt_eq] using htl
  have hload := run_loadVar hT w g (pre.length * z + off) [c] rfl ⟨cur, e, (0, 0), hg, fun j hj => by simp at hj; subst hj; simpa using hcur⟩ (fun _ => rfl)
  have hrun1 : (execOp a.eval ⟨some tl, .load T x, ty1, pos1, af1, none⟩).run P w = .ok (.value c) w := by
    simp [execOp, Instr.loadAt, e2', Instr.sureAddr, hload]
  refine wp_put hrun1 ?_
  have ev1 : (a.put (some tl) c).eval (.tmp tl) = c := by
    show (a.put (some tl) c).tmps.getD tl undef = c
    rw [Act.getD_put _ tl _ htl', if_pos rfl]
  have hrun2 : (execOp (a.put (some tl) c).eval ⟨some tc, .call { callee := .builtin .len, args := #[.tmp tl], argTypes := #[T2] }, ty2, pos2, af2, none⟩).run P w = .ok (.value (.int .i64 olds.length)) w := by
    simp only [Tr] at c2
    obtain ⟨b1, b2, hv0, e0, xs, hc, r0, t0⟩ := c2
    obtain rfl : c = hv0 := by simpa using hc
    rcases r0.2 with ⟨rfl, h0⟩ | ⟨g2, cap2, cur2, rfl, _⟩
    · rw [h0]
      simp [execOp, resolve, invoke, builtin, Builtin.len_, ev1, run_underlying (tyE_und hT2), goInt]
    · simp [execOp, resolve, invoke, builtin, Builtin.len_, ev1, run_underlying (tyE_und hT2), goInt]
  refine wp_put hrun2 ?_
  refine h R hR _ _ ?_
  exact realz_put (σ := ⟨(tl, .junk) :: fr, L, N⟩) (slots_put hfr htl' (by simp only [SVr])) (by simp [Act.put, hN]) (by simp [Act.put, hd]) htc hH Carry.refl (SVr.int.2 rfl)
/-- A scalar in an element of a slice that lies in an element of an owned array is stored. -/
theorem VO_deepst {T T2 T3 T4 e2 : TypeId} {f fo : Nat} {tl tm ti tf : Nat} {ty1 ty2 ty3 ty4 ty5 : TypeId} {pos1 pos2 pos3 pos4 pos5 : String} {af1 af2 af3 af4 af5 : Array Edge} {i ver z k off bs bs2 bs4 z' : Nat} {gg : Bool} {o o' : LO} {pre post us us' pre2 post2 : List U} {u2 u2' v : U} {n : Nat} {yv : Operand} {cv' : Value} {fr : List (Nat × SV)} {L L' : List LO} {N : Nat}
    (hx : (St.mk fr L N).ev x = .ep i ver z k off) (hL : L[i]? = some o) (ha : AsO o z ver (pre ++ .st us :: post)) (hk : pre.length = k) (hT : tyI P T = some (false, 1, bs))
    (hu : WH (.sl z' (pre2 ++ u2 :: post2)) (.sl z' (pre2 ++ u2' :: post2)) us (some off) us' none)
    (hy : (St.mk fr L N).ev y = .d (.i .i64 (n : Int))) (hn : pre2.length = n) (hyl : y ≠ .tmp tl) (hT2 : tyE P T2 = some e2) (hI2 : tyI P e2 = some (gg, z', bs2)) (hF : tyF P T3 f = some fo) (hu2 : SU2 v u2 fo u2') (hT4 : tyI P T4 = some (false, 1, bs4)) (hv : v.scal = true)
    (hyv : yv = .const cv') (hcv : ofConst cv' = .d v)
    (hp : PutO o (pre ++ .st us' :: post) o') (hL' : St1 o' i L L') (htl : Nat.blt tl N = true) (htm : Nat.blt tm N = true) (hti : Nat.blt ti N = true) (htf : Nat.blt tf N = true) (hne : tl ≠ tm)
    (h : VO P A ops rest ⟨(tf, .junk) :: (ti, .junk) :: (tm, .d (.i .i64 (n : Int))) :: (tl, .junk) :: fr, L', N⟩ K) :
    VO P A ops (⟨some tl, .load T x, ty1, pos1, af1, none⟩ :: ⟨some tm, .move y, ty2, pos2, af2, none⟩ :: ⟨some ti, .indexAddr T2 (.tmp tl) (.tmp tm), ty3, pos3, af3, none⟩ :: ⟨some tf, .fieldAddr T3 (.tmp ti) f, ty4, pos4, af4, none⟩ :: ⟨none, .store T4 (.tmp tf) yv, ty5, pos5, af5, none⟩ :: rest) ⟨fr, L, N⟩ K := by
  have hu := ((hu.spec (by simp only [U.sz]; omega)).2 _ rfl).1 rfl
  have hL2 := hL'.spec
  subst hL2; subst hk; subst hn; subst hyv
  intro R hR a w ⟨S, env, hH, hfr, hN, hd⟩
  have h1 := Realz.ev hfr hH x
  have h2 := Realz.ev hfr hH y
  have h3 := Realz.ev hfr hH (.const cv')
  rw [hx] at h1
  rw [hy, SVr.int] at h2
  rw [show (St.mk fr L N).ev (.const cv') = ofConst cv' from rfl, hcv, show a.eval (.const cv') = cv' from rfl] at h3
  simp only [SVr] at h1
  obtain ⟨hv', o1, k1, k2, k3, k5, k4⟩ := h1
  rw [hL] at k2
  obtain rfl := Option.some.inj k2
  have hver := (own_form ha (hH.objs i _ hv' hL k1)).1
  obtain ⟨b, e1, e2'⟩ := k4 hver.symm
  obtain ⟨g, cap, cur, e, hveq, hg, hfit, hsz, T1, T2', T3', T4', T5⟩ := hH.reEl hL ha hp k1
  subst hveq
  simp only [blk, Option.some.injEq] at e1
  subst e1
  simp only [Tr, U.fp] at T1 T2' T3' T4'
  simp only [U.sz] at hsz
  obtain ⟨c, c1, c2, c3, c4, c5⟩ := hu.tr rfl rfl _ T1 T2' (fun b hb => (T4' b hb).1)
  have hoff : off < z := by
    have := (List.getElem?_eq_some_iff.1 c1).1
    simp at this
    omega
  have hcur : cur.toList[pre.length * z + off]? = some c := by
    rw [List.getElem?_take, if_pos hoff, List.getElem?_drop] at c1
    exact c1
  have hst0 : v.isSt = false := by cases v <;> first | rfl | cases hv
  have hrd : Tr w v [cv'] := by
    have := (SVr.leaf hst0).1 h3
    have hn : v.noSl = true := by cases v <;> first | rfl | cases hv
    exact (Rd.tr (w' := w) v _ hn this).1
  have hone : cv'.oneCell' = true := by
    have := (SVr.leaf hst0).1 h3
    exact Rd.oneCell _ _ this _ (by simp)
  obtain ⟨g2, cap2, cur2, ee2, hc, hg2, hfit2, hoff2, hgin, fin⟩ := Tr.put (hH.gok fun b hb => (T4' b (c4 b hb)).2) hv hrd hu2.su c2 c3 (fun b hb => (T4' b (c4 b hb)).1)
  subst hc
  obtain ⟨q1, q2, q3, q4⟩ := fin _ rfl
  have htl' : tl < a.tmps.size := by rw [hN]; simpa [Nat.blt_eq] using htl
  have htm' : tm < a.tmps.size := by rw [hN]; simpa [Nat.blt_eq] using htm
  have hti' : ti < a.tmps.size := by rw [hN]; simpa [Nat.blt_eq] using hti
  have htf' : tf < a.tmps.size := by rw [hN]; simpa [Nat.blt_eq] using htf
  have hload := run_loadVar hT w g (pre.length * z + off) [.slice (some ⟨g2, 0, none⟩) (pre2 ++ u2 :: post2).length cap2] rfl ⟨cur, e, (0, 0), hg, fun j hj => by simp at hj; subst hj; simpa using hcur⟩ (fun _ => rfl)
  have hrun1 : (execOp a.eval ⟨some tl, .load T x, ty1, pos1, af1, none⟩).run P w = .ok (.value (.slice (some ⟨g2, 0, none⟩) (pre2 ++ u2 :: post2).length cap2)) w := by
    simp [execOp, Instr.loadAt, e2', Instr.sureAddr, hload]
  refine wp_put hrun1 ?_
  generalize ha1 : a.put (some tl) (.slice (some ⟨g2, 0, none⟩) (pre2 ++ u2 :: post2).length cap2) = a1
  have s1 : a1.tmps.size = a.tmps.size := by rw [← ha1]; simp [Act.put]
  have hey : a1.eval y = .int .i64 (pre2.length : Int) := by
    rw [← ha1, Act.eval_put (fun d hd => by cases hd; exact hyl)]
    exact h2
  have ev1 : a1.eval (.tmp tl) = .slice (some ⟨g2, 0, none⟩) (pre2 ++ u2 :: post2).length cap2 := by
    rw [← ha1]
    show (a.put (some tl) _).tmps.getD tl undef = _
    rw [Act.getD_put _ tl _ htl', if_pos rfl]
  have f1 := slots_put (sv := .junk) (v := .slice (some ⟨g2, 0, none⟩) (pre2 ++ u2 :: post2).length cap2) hfr htl' (by simp only [SVr])
  rw [ha1] at f1
  refine wp_put (v := .int .i64 (pre2.length : Int)) (by simp [execOp, hey]) ?_
  generalize ha2 : a1.put (some tm) (.int .i64 (pre2.length : Int)) = a2
  have s2 : a2.tmps.size = a.tmps.size := by rw [← ha2]; simp [Act.put, s1]
  have ev2 : a2.eval (.tmp tl) = .slice (some ⟨g2, 0, none⟩) (pre2 ++ u2 :: post2).length cap2 := by
    rw [← ha2]
    show (a1.put (some tm) _).tmps.getD tl undef = _
    rw [Act.getD_put _ tm _ (by rw [s1]; exact htm'), if_neg hne]
    exact ev1
  have ev3 : a2.eval (.tmp tm) = .int .i64 (pre2.length : Int) := by
    rw [← ha2]
    show (a1.put (some tm) _).tmps.getD tm undef = _
    rw [Act.getD_put _ tm _ (by rw [s1]; exact htm'), if_pos rfl]
  have f2 := slots_put (sv := .d (.i .i64 (pre2.length : Int))) (v := .int .i64 (pre2.length : Int)) f1 (by rw [s1]; exact htm') (SVr.int.2 rfl)
  rw [ha2] at f2
  refine wp_put (v := .pointer (some ⟨g2, pre2.length * z', none⟩)) (by
    simp [execOp, Instr.indexAt, ev2, ev3, asIntOf, run_underlying (tyE_und hT2), run_sizeOf hI2, Addr.add_lit]) ?_
  generalize ha3 : a2.put (some ti) (.pointer (some ⟨g2, pre2.length * z', none⟩)) = a3
  have s3 : a3.tmps.size = a.tmps.size := by rw [← ha3]; simp [Act.put, s2]
  have ev4 : a3.eval (.tmp ti) = .pointer (some ⟨g2, pre2.length * z', none⟩) := by
    rw [← ha3]
    show (a2.put (some ti) _).tmps.getD ti undef = _
    rw [Act.getD_put _ ti _ (by rw [s2]; exact hti'), if_pos rfl]
  have f3 := slots_put (sv := .junk) (v := .pointer (some ⟨g2, pre2.length * z', none⟩)) f2 (by rw [s2]; exact hti') (by simp only [SVr])
  rw [ha3] at f3
  refine wp_put (v := .pointer (some ⟨g2, pre2.length * z' + fo, none⟩)) (by simp only [execOp, ev4, Sem.run_bind, tyF_run hF, Result.andThen_ok, Sem.run_pure]) ?_
  generalize ha4 : a3.put (some tf) (.pointer (some ⟨g2, pre2.length * z' + fo, none⟩)) = a4
  have s4 : a4.tmps.size = a.tmps.size := by rw [← ha4]; simp [Act.put, s3]
  have ev5 : a4.eval (.tmp tf) = .pointer (some ⟨g2, pre2.length * z' + fo, none⟩) := by
    rw [← ha4]
    show (a3.put (some tf) _).tmps.getD tf undef = _
    rw [Act.getD_put _ tf _ (by rw [s3]; exact htf'), if_pos rfl]
  have f4 := slots_put (sv := .junk) (v := .pointer (some ⟨g2, pre2.length * z' + fo, none⟩)) f3 (by rw [s3]; exact htf') (by simp only [SVr])
  rw [ha4] at f4
  have d4 : a4.defers = [] := by rw [← ha4, ← ha3, ← ha2, ← ha1]; simp [Act.put, hd]
  have hcells := cells_one hone
  have hst := run_storeCells_at P g2 (pre2.length * z' + fo) ee2 [cv'] 0 cur2 w hg2 (by simp; omega) (by simpa using hone)
  simp only [Nat.add_zero, List.length_cons, List.length_nil, Nat.zero_add] at hst
  obtain ⟨p1, p2, p3, p4⟩ := c5 _ q1 q2 (fun b hb => .inl (q3 b hb).2) (fun b _ h2 => q4 b (fun e => h2 (e ▸ hgin)))
  have hrow : (cur.toList.take (pre.length * z) ++ (cur.toList.drop (pre.length * z)).take z ++ cur.toList.drop (pre.length * z + z)).toArray = cur := by
    rw [List.append_assoc, ← List.drop_drop, List.take_append_drop, List.take_append_drop]
  have hgne : g ≠ g2 := fun e => T3' (c4 g (e ▸ hgin))
  obtain ⟨hH', C⟩ := T5 (w.setRow g2 (cur2.toList.take (pre2.length * z' + fo) ++ [cv'] ++ cur2.toList.drop (pre2.length * z' + fo + 1)).toArray) ((cur.toList.drop (pre.length * z)).take z) (by simp; omega) (by simp only [U.sz]; rw [p4, hsz]) (by rw [hrow, q4 g hgne]; exact hg) (fun b' hb1 hb2 hb3 => q4 b' (fun e => hb3 (by simp only [U.fp]; exact c4 b' (e ▸ hgin)))) (by rw [setRow_size]; exact Nat.le_refl _) rfl rfl rfl (by simp only [Tr]; exact p1) (by simp only [U.fp]; exact p2) (fun b' hb' => by
      simp only [U.fp] at hb' ⊢
      rcases p3 b' hb' with ⟨q1', _⟩ | ⟨q1', q2'⟩
      · exact ⟨by rw [setRow_size]; exact (T4' b' q1').1, .inl q1'⟩
      · exact ⟨by rw [setRow_size]; exact (q3 b' q2').1, .inr q1'⟩)
  refine wpList_plain rfl fun K5 hK5 => ?_
  have hrun5 : (execOp a4.eval ⟨none, .store T4 (.tmp tf) (.const cv'), ty5, pos5, af5, none⟩).run P w = .ok .skip (w.setRow g2 (cur2.toList.take (pre2.length * z' + fo) ++ [cv'] ++ cur2.toList.drop (pre2.length * z' + fo + 1)).toArray) := by
    have : a4.eval (.const cv') = cv' := rfl
    simp [execOp, Instr.storeAt, ev5, this, Instr.sureAddr, storeVar, run_sizeOf hT4, hcells, hst]
  unfold Oper.wp
  rw [hrun5]
  refine hK5 _ _ (h R hR _ _ ?_)
  exact realz_put_none (σ := ⟨(tf, .junk) :: (ti, .junk) :: (tm, .d (.i .i64 (pre2.length : Int))) :: (tl, .junk) :: fr, L, N⟩) f4 (by rw [s4, hN]) d4 hH' C
theorem Enc.split {α : Type} {e : α → U} {es : List α → List U} {z : Nat} [E : Enc α e es z] {l : List α} {k : Nat} {a : α} (h : l[k]? = some a) : es l = es (l.take k) ++ e a :: es (l.drop (k + 1)) ∧ (es (l.take k)).length = k := by
  obtain ⟨hk, rfl⟩ := List.getElem?_eq_some_iff.1 h
  constructor
  · conv => lhs; rw [← List.take_append_drop k l, List.drop_eq_getElem_cons hk]
    simp only [E.h, List.map_append, List.map_cons]
  · rw [Enc.len (es := es), List.length_take]; omega
theorem Enc.setSplit {α : Type} {e : α → U} {es : List α → List U} {z : Nat} [E : Enc α e es z] {l : List α} {k : Nat} {a : α} (b : α) (h : l[k]? = some a) : es (l.set k b) = es (l.take k) ++ e b :: es (l.drop (k + 1)) := by
  have hk := (List.getElem?_eq_some_iff.1 h).1
  have := (Enc.split (es := es) (l := l.set k b) (k := k) (a := b) (List.getElem?_set_self hk)).1
  rw [List.take_set_of_le (Nat.le_refl k), List.drop_set_of_lt (Nat.lt_succ_self k)] at this
  exact this
theorem VO_stfo {α : Type} {en : α → U} {es : List α → List U} {z : Nat} [E : Enc α en es z] {l : List α} {T : TypeId} {i ver k off e bs : Nat} {v : U} {fr : List (Nat × SV)} {L L' : List LO} {N : Nat} {ty : TypeId} {pos : String} {af : Array Edge} (a a' : α) (ha : l[k]? = some a) [TI P T false 1 bs]
    (h : VO P A ops rest ⟨fr, L', N⟩ K) (hx : (St.mk fr L N).ev x = .ep i ver z k off := by rfl) (hL : L[i]? = some (.own e z ver (es l)) := by rfl) (hy : (St.mk fr L N).ev y = .d v := by rfl) (hv : v.scal = true := by rfl) (hu : SU2 v (en a) off (en a') := by repeat constructor) (hL' : St1 (.own e z ver (es (l.set k a'))) i L L' := by repeat constructor) :
    VO P A ops (⟨none, .store T x y, ty, pos, af, none⟩ :: rest) ⟨fr, L, N⟩ K := by
  obtain ⟨s1, s2⟩ := Enc.split (es := es) ha
  rw [s1] at hL
  rw [Enc.setSplit (es := es) a' ha] at hL'
  exact VO_storeF hx hL .own s2 hy hv TI.h hu.su .own hL' h
theorem VO_dlen {α β : Type} {en : α → U} {es : List α → List U} {z : Nat} [E : Enc α en es z] {en2 : β → U} {es2 : List β → List U} {z2 : Nat} [E2 : Enc β en2 es2 z2] {l : List α} {l2 : List β} {T T2 e2 : TypeId} {tl tc : Nat} {ty1 ty2 : TypeId} {pos1 pos2 : String} {af1 af2 : Array Edge} {i ver k off e bs : Nat} {fr : List (Nat × SV)} {L : List LO} {N : Nat} (a : α) (us : List U) (ha : l[k]? = some a) [TI P T false 1 bs] [TE P T2 e2]
    (h : VO P A ops rest ⟨(tc, .d (.i .i64 (l2.length : Int))) :: (tl, .junk) :: fr, L, N⟩ K) (hx : (St.mk fr L N).ev x = .ep i ver z k off := by rfl) (hL : L[i]? = some (.own e z ver (es l)) := by rfl) (hea : en a = .st us := by rfl) (hu : WH (.sl z2 (es2 l2)) (.sl z2 (es2 l2)) us (some off) us none := by repeat constructor) (htl : Nat.blt tl N = true := by rfl) (htc : Nat.blt tc N = true := by rfl) :
    VO P A ops (⟨some tl, .load T x, ty1, pos1, af1, none⟩ :: ⟨some tc, .call { callee := .builtin .len, args := #[.tmp tl], argTypes := #[T2] }, ty2, pos2, af2, none⟩ :: rest) ⟨fr, L, N⟩ K := by
  obtain ⟨s1, s2⟩ := Enc.split (es := es) ha
  rw [s1, hea] at hL
  exact VO_deeplen hx hL .own s2 TI.h hu TE.h htl htc (by rw [Enc.len (es := es2)]; exact h)
theorem VO_dst {α β : Type} {en : α → U} {es : List α → List U} {z : Nat} [E : Enc α en es z] {en2 : β → U} {es2 : List β → List U} {z2 : Nat} [E2 : Enc β en2 es2 z2] {l : List α} {l2 : List β} {T T2 T3 T4 e2 : TypeId} {f fo : Nat} {tl tm ti tf : Nat} {ty1 ty2 ty3 ty4 ty5 : TypeId} {pos1 pos2 pos3 pos4 pos5 : String} {af1 af2 af3 af4 af5 : Array Edge} {i ver k off e bs bs2 bs4 n : Nat} {gg : Bool} {v : U} {cv' : Value} {fr : List (Nat × SV)} {L L' : List LO} {N : Nat}
    (a a' : α) (us us' : List U) (b b' : β) (ha : l[k]? = some a) (hb : l2[n]? = some b) [TI P T false 1 bs] [TE P T2 e2] [TI P e2 gg z2 bs2] [TF P T3 f fo] [TI P T4 false 1 bs4]
    (h : VO P A ops rest ⟨(tf, .junk) :: (ti, .junk) :: (tm, .d (.i .i64 (n : Int))) :: (tl, .junk) :: fr, L', N⟩ K) (hx : (St.mk fr L N).ev x = .ep i ver z k off := by rfl) (hL : L[i]? = some (.own e z ver (es l)) := by rfl) (hea : en a = .st us := by rfl) (hea' : en a' = .st us' := by rfl)
    (hu : WH (.sl z2 (es2 l2)) (.sl z2 (es2 (l2.set n b'))) us (some off) us' none := by repeat constructor) (hy : (St.mk fr L N).ev y = .d (.i .i64 (n : Int)) := by rfl) (hyl : y ≠ .tmp tl := by simp) (hcv : ofConst cv' = .d v := by rfl) (hv : v.scal = true := by rfl) (hu2 : SU2 v (en2 b) fo (en2 b') := by repeat constructor) (hL' : St1 (.own e z ver (es (l.set k a'))) i L L' := by repeat constructor)
    (htl : Nat.blt tl N = true := by rfl) (htm : Nat.blt tm N = true := by rfl) (hti : Nat.blt ti N = true := by rfl) (htf : Nat.blt tf N = true := by rfl) (hne : tl ≠ tm := by decide) :
    VO P A ops (⟨some tl, .load T x, ty1, pos1, af1, none⟩ :: ⟨some tm, .move y, ty2, pos2, af2, none⟩ :: ⟨some ti, .indexAddr T2 (.tmp tl) (.tmp tm), ty3, pos3, af3, none⟩ :: ⟨some tf, .fieldAddr T3 (.tmp ti) f, ty4, pos4, af4, none⟩ :: ⟨none, .store T4 (.tmp tf) (.const cv'), ty5, pos5, af5, none⟩ :: rest) ⟨fr, L, N⟩ K := by
  obtain ⟨s1, s2⟩ := Enc.split (es := es) ha
  obtain ⟨r1, r2⟩ := Enc.split (es := es2) hb
  rw [s1, hea] at hL
  rw [Enc.setSplit (es := es) a' ha, hea'] at hL'
  rw [r1, Enc.setSplit (es := es2) b' hb] at hu
  exact VO_deepst hx hL .own s2 TI.h hu hy r2 hyl TE.h TI.h TF.h hu2 TI.h hv rfl hcv .own hL' htl htm hti htf hne h
/-- The elements of an owned array become shared. -/
theorem Realz.share {a : Act} {w : World} {fr : List (Nat × SV)} {L : List LO} {N i e z ver : Nat} {es : List U} (hL : L[i]? = some (.own e z ver es)) (h : Realz A ⟨fr, L, N⟩ a w) : Realz A ⟨fr, L.set i (.arr e z ver es), N⟩ a w := by
  obtain ⟨S, env, hH, hf, hN, hd⟩ := h
  have hi := (List.getElem?_eq_some_iff.1 hL).1
  have hie : i < env.length := by rw [hH.len]; exact hi
  obtain ⟨hv, he⟩ : ∃ hv, env[i]? = some hv := ⟨_, List.getElem?_eq_getElem hie⟩
  have hob := hH.objs i _ hv hL he
  obtain ⟨o1, o2, ⟨xs, o3, o4⟩, o5⟩ := hob
  have hfp : ∀ b, b ∈ U.fps w es xs → b ∈ (U.sl z es).fp w [hv] ∧ blk hv ≠ some b := by
    intro b hb
    rcases fp_own o2 o3 with ⟨rfl, rfl, hf⟩ | ⟨g, cap, rfl, hf⟩
    · simp [U.fps] at hb
    · rw [hf] at o5 ⊢
      exact ⟨by simp [hb], fun hg => by simp [blk] at hg; subst hg; exact (List.nodup_cons.1 o5).1 hb⟩
  have hblk : ∀ b, blk hv = some b → b ∈ (U.sl z es).fp w [hv] := by
    intro b hb
    rcases fp_own o2 o3 with ⟨rfl, rfl, hf⟩ | ⟨g, cap, rfl, hf⟩
    · simp [blk] at hb
    · rw [hf]; simp [blk] at hb; simp [hb]
  let S' : Nat → Prop := fun b => S b ∨ b ∈ U.fps w es xs
  have hset : ∀ (j : Nat) (o' : LO), (L.set i (.arr e z ver es))[j]? = some o' → (j = i ∧ o' = .arr e z ver es) ∨ (j ≠ i ∧ L[j]? = some o') := by
    intro j o' hj
    by_cases hij : i = j
    · subst hij
      rw [List.getElem?_set_self hi] at hj
      exact .inl ⟨rfl, (Option.some.inj hj).symm⟩
    · rw [List.getElem?_set_ne hij] at hj
      exact .inr ⟨fun e => hij e.symm, hj⟩
  have C : Carry S L env w S' (L.set i (.arr e z ver es)) env w := by
    refine ⟨fun b hb _ => .inl hb, fun _ _ _ => rfl, fun _ _ h => h, fun j hv' o' h1 h2 => ?_⟩
    by_cases hij : i = j
    · subst hij
      rw [hL] at h2
      obtain rfl := Option.some.inj h2
      exact ⟨hv', .arr e z ver es, h1, by rw [List.getElem?_set_self hi], Nat.le_refl _, fun _ => rfl⟩
    · exact ⟨hv', o', h1, by rw [List.getElem?_set_ne hij]; exact h2, Nat.le_refl _, fun _ => rfl⟩
  refine ⟨S', env, ⟨by simp [hH.len], ?_, ?_, ?_, ?_, ?_, hH.frame, hH.size, hH.os, hH.tape, hH.output, hH.base.carry C hH.len (by simp), hH.glob⟩, fun t => SVr.carry C _ _ (hf t), hN, hd⟩
  · intro j o' hv' h1 h2
    rcases hset j o' h1 with ⟨rfl, rfl⟩ | ⟨hj, h3⟩
    · rw [he] at h2
      obtain rfl := Option.some.inj h2
      exact ⟨o1, o2, xs, o3, Trs.rd _ _ o4 (fun b hb => .inr hb)⟩
    · exact ObjR.carry C (fun _ _ _ => rfl) (hH.objs j o' hv' h3 h2)
  · intro j o' hv' b h1 hl h2 hb
    rcases hset j o' h1 with ⟨rfl, rfl⟩ | ⟨hj, h3⟩
    · rw [he] at h2
      obtain rfl := Option.some.inj h2
      have := hH.excl j _ hv b hL rfl he (hblk b hb)
      exact ⟨fun hs => hs.elim this.1 (fun hs => (hfp b hs).2 hb), this.2⟩
    · have := hH.excl j o' hv' b h3 hl h2 hb
      exact ⟨fun hs => hs.elim this.1 (fun hs => hj (hH.dist j i o' _ hv' hv b h3 hL hl rfl h2 he hb (hfp b hs).1)), this.2⟩
  · intro j j' o1' o2' hv1 hv2 k h1 h2 hl1 hl2 e1 e2 b1 b2
    rcases hset j o1' h1 with ⟨rfl, rfl⟩ | ⟨hj, h3⟩ <;> rcases hset j' o2' h2 with ⟨rfl, rfl⟩ | ⟨hj', h3'⟩
    · rfl
    · rw [he] at e1
      obtain rfl := Option.some.inj e1
      exact hH.dist j j' _ o2' hv hv2 k hL h3' rfl hl2 he e2 (hblk k b1) b2
    · rw [he] at e2
      obtain rfl := Option.some.inj e2
      exact hH.dist j j' o1' _ hv1 hv k h3 hL hl1 rfl e1 he b1 (hblk k b2)
    · exact hH.dist j j' o1' o2' hv1 hv2 k h3 h3' hl1 hl2 e1 e2 b1 b2
  · intro b hb
    rcases hb with hb | hb
    · exact hH.sS b hb
    · exact (hH.excl i _ hv b hL rfl he (hfp b hb).1).2.2
  · intro b hb
    rcases hb with hb | hb
    · exact hH.sA b hb
    · exact .inr (hH.excl i _ hv b hL rfl he (hfp b hb).1).2.1
theorem V_share {c : Code} {fr : List (Nat × SV)} {L L' : List LO} {N e z ver : Nat} {es : List U} (i : Nat) (h : V P A c ⟨fr, L', N⟩ Q) (hL : L[i]? = some (.own e z ver es) := by rfl) (hL' : St1 (.arr e z ver es) i L L' := by repeat constructor) : V P A c ⟨fr, L, N⟩ Q := by
  have := hL'.spec
  subst this
  exact fun a w hr => h a w (hr.share hL)
end
end Go.Eng
set_option linter.unusedVariables false
set_option linter.unusedSimpArgs false
namespace Go.Eng
open Go Go.RowKit
def bcells (l : List UInt8) : List Value := l.map fun x => Value.int .u8 x.toNat
theorem blk_ownR {w : World} {e n : Nat} {v : Value} {xs : List Value} (h : w.ownsRow 0 e 1 v n xs) : blk v = v.ownBlock := by
  rcases h.2 with ⟨rfl, _⟩ | ⟨g, cap, cur, rfl, _⟩ <;> rfl
/-- A builder, written on. -/
theorem HeapR.bld {A : Amb} {S : Nat → Prop} {L : List LO} {env : List Value} {w w' : World} {i e T b : Nat} {l l' : List UInt8} {p v : Value} (hH : HeapR A S L env w) (hL : L[i]? = some (.bld e T l)) (he : env[i]? = some (.pointer (some ⟨b, 0, none⟩))) (hb : w.heap[b]? = some (.cells #[p, v] T (0, 0))) (hw : w.ownsRow 0 e 1 v l.length (bcells l))
    (hpost : ∃ v', w'.heap[b]? = some (.cells #[.pointer (some ⟨b, 0, none⟩), v'] T (0, 0)) ∧ w'.ownsRow 0 e 1 v' l'.length (bcells l') ∧ v'.ownBlock ≠ some b ∧ ∀ k, v'.ownBlock = some k → v.ownBlock = some k ∨ w.heap.size ≤ k)
    (hfr : ∀ k, k < w.heap.size → k ≠ b → v.ownBlock ≠ some k → w'.heap[k]? = w.heap[k]?) (hsz : w.heap.size ≤ w'.heap.size) (hos : w'.os = w.os) (htape : w'.tape = w.tape) (hout : w'.output = w.output) :
    HeapR A S (L.set i (.bld e T l')) env w' ∧ Carry S L env w S (L.set i (.bld e T l')) env w' := by
  have hi := (List.getElem?_eq_some_iff.1 hL).1
  have hrow : ∀ (x : World) (q u : Value), x.heap[b]? = some (.cells #[q, u] T (0, 0)) → rowOf x b = [q, u] := fun x q u h => by simp [rowOf, h]
  have hold : ∀ k, (LO.bld e T l).ft w (.pointer (some ⟨b, 0, none⟩)) k ↔ k = b ∨ blk v = some k := by
    intro k
    simp only [LO.ft, blk, Option.some.injEq]
    constructor
    · rintro (h | ⟨g, u, rfl, h1, h2⟩)
      · exact .inl h.symm
      · rw [hrow w p v hb] at h1
        simp at h1
        subst h1
        exact .inr h2
    · rintro (h | h)
      · exact .inl h.symm
      · exact .inr ⟨b, v, rfl, by rw [hrow w p v hb]; rfl, h⟩
  obtain ⟨v', p1, p2, p3, p4⟩ := hpost
  have hb1 := blk_ownR hw
  have hb2 := blk_ownR p2
  have hbl : b < w.heap.size := (Array.getElem?_eq_some_iff.1 hb).1
  refine hH.eat [] i (.bld e T l') (.pointer (some ⟨b, 0, none⟩)) (by rw [List.length_set]; exact hH.len) (fun j hj => ?_) (List.getElem?_set_self hi) (fun _ _ => rfl) he (fun k hk hno => ?_) (fun o hv1 h1 h2 => ?_) hsz hos htape hout (fun k hk => ?_) (fun C => ?_)
  · rw [List.getElem?_set_ne (fun e => hj e.symm)]
    simp
  · have := hno _ _ hL he
    rw [hold k] at this
    refine hfr k hk (fun e => this ⟨rfl, .inl e⟩) (fun e => this ⟨rfl, .inr (hb1.trans e)⟩)
  · rw [hL] at h1; rw [he] at h2
    cases h1; cases h2
    exact ⟨Nat.le_refl _, fun _ => rfl, fun _ _ => rfl⟩
  · have hk' : k = b ∨ blk v' = some k := by
      simp only [LO.ft, blk, Option.some.injEq] at hk
      rcases hk with h | ⟨g, u, rfl, h1, h2⟩
      · exact .inl h.symm
      · rw [hrow w' _ v' p1] at h1
        simp at h1
        subst h1
        exact .inr h2
    rcases hk' with rfl | hk'
    · exact ⟨by omega, .inr ⟨i, _, _, .inl rfl, hL, rfl, he, (hold k).2 (.inl rfl)⟩⟩
    · rw [hb2] at hk'
      refine ⟨(p2.lt k hk').2, ?_⟩
      rcases p4 k hk' with h | h
      · exact .inr ⟨i, _, _, .inl rfl, hL, rfl, he, (hold k).2 (.inr (hb1.trans h))⟩
      · exact .inl h
  · refine ⟨b, _, v', rfl, p1, .inr rfl, p2, by rw [hb2]; exact p3, ?_⟩
    rcases p2.2 with ⟨rfl, _⟩ | ⟨g, cap, cur, rfl, _⟩ <;> rfl
/-- What is known of a builder that is handed over. -/
theorem bld_arg {A : Amb} {S : Nat → Prop} {env : List Value} {w : World} {e T : Nat} {l : List UInt8} {a : Value} (hH : HeapR A S [.bld e T l] env w) (ha : SVr S [.bld e T l] env w (.ptr 0 0) a) :
    ∃ b p v, env = [.pointer (some ⟨b, 0, none⟩)] ∧ a = .pointer (some ⟨b, 0, none⟩) ∧ w.heap[b]? = some (.cells #[p, v] T (0, 0)) ∧ (p = .pointer none ∨ p = .pointer (some ⟨b, 0, none⟩)) ∧ w.ownsRow 0 e 1 v l.length (bcells l) ∧ v.ownBlock ≠ some b := by
  simp only [SVr] at ha
  obtain ⟨b0, k1, rfl⟩ := ha
  have hlen := hH.len
  obtain ⟨x, rfl⟩ : ∃ x, env = [x] := by
    match env, hlen with
    | [x], _ => exact ⟨x, rfl⟩
  simp only [List.getElem?_cons_zero, Option.some.injEq] at k1
  subst k1
  obtain ⟨b, p, v, h1, h2, h3, h4, h5, _⟩ := hH.objs 0 _ _ rfl rfl
  simp only [Value.pointer.injEq, Option.some.injEq, Addr.mk.injEq, and_true] at h1
  subst h1
  exact ⟨_, p, v, rfl, rfl, h2, h3, h4, by rw [← blk_ownR h4]; exact h5⟩
section
variable {P : Program} {A : Amb} {σ : St} {K : St → Prop}
variable {ops : Array Oper} {rest : List Oper}
/-- A new builder. -/
theorem VO_bnew {T : TypeId} (e : Nat) {t1 t2 i : Nat} {ty1 ty2 : TypeId} {pos1 pos2 : String} {af1 af2 : Array Edge} {fr : List (Nat × SV)} {L L' : List LO} {N : Nat} (hrun : ∀ w, (Instr.build T #[]).run P w = .ok (.agg #[.pointer none, .slice none 0 0]) w) (ht1 : Nat.blt t1 N = true) (ht2 : Nat.blt t2 N = true) (hi : L.length = i) (hL' : L ++ [.bld e T []] = L')
    (h : VO P A ops rest ⟨(t2, .ptr i 0) :: (t1, .junk) :: fr, L', N⟩ K) :
    VO P A ops (⟨some t1, .build T #[], ty1, pos1, af1, none⟩ :: ⟨some t2, .box T (.tmp t1), ty2, pos2, af2, none⟩ :: rest) ⟨fr, L, N⟩ K := by
  subst hi; subst hL'
  intro R hR a w ⟨S, env, hH, hfr, hN, hd⟩
  have ht1' : t1 < a.tmps.size := by rw [hN]; simpa [Nat.blt_eq] using ht1
  refine wp_put (v := .agg #[.pointer none, .slice none 0 0]) (by simp [execOp, hrun]) ?_
  have f1 := slots_put (sv := .junk) (v := .agg #[.pointer none, .slice none 0 0]) hfr ht1' (by simp only [SVr])
  have ev1 : (a.put (some t1) (.agg #[.pointer none, .slice none 0 0])).eval (.tmp t1) = .agg #[.pointer none, .slice none 0 0] := by
    show (a.put (some t1) _).tmps.getD t1 undef = _
    rw [Act.getD_put _ t1 _ ht1', if_pos rfl]
  generalize ha1 : a.put (some t1) (.agg #[.pointer none, .slice none 0 0]) = a1 at f1 ev1 ⊢
  have s1 : a1.tmps.size = N := by rw [← ha1]; simpa [Act.put] using hN
  have d1 : a1.defers = [] := by rw [← ha1]; simpa [Act.put] using hd
  obtain ⟨hH', C⟩ := hH.new (w' := w.alloc (.cells #[.pointer none, .slice none 0 0] T)) (.bld e T []) (.pointer (some ⟨w.heap.size, 0, none⟩)) (by simp) (fun b hb => heap_alloc_old w _ hb) rfl rfl rfl
    (fun b hb => by
      have hr : rowOf (w.alloc (.cells #[.pointer none, .slice none 0 0] T)) w.heap.size = [.pointer none, .slice none 0 0] := by unfold rowOf; rw [heap_alloc_new]
      simp only [LO.ft, blk, Option.some.injEq] at hb
      rcases hb with rfl | ⟨g, u, rfl, h1, h2⟩
      · simp
      · rw [hr] at h1
        simp at h1
        subst h1
        cases h2)
    (fun C => ⟨w.heap.size, _, .slice none 0 0, rfl, heap_alloc_new w _, .inl rfl, World.ownsRow_nil _ _ _ _, by simp [blk], rfl⟩)
  refine wpList_plain rfl fun K' hK' => ?_
  have hr2 : (execOp a1.eval ⟨some t2, .box T (.tmp t1), ty2, pos2, af2, none⟩).run P w = .ok (.value (.pointer (some ⟨w.heap.size, 0, none⟩))) (w.alloc (.cells #[.pointer none, .slice none 0 0] T)) := by
    simp [execOp, Instr.box, newVar, newRow, ev1, Value.cells]
  unfold Oper.wp
  rw [hr2]
  refine hK' _ _ (h R hR _ _ ?_)
  exact realz_put (σ := ⟨(t1, .junk) :: fr, L, N⟩) f1 s1 d1 ht2 hH' C (by simp only [SVr]; exact ⟨w.heap.size, by rw [← hH.len]; simp, rfl⟩)
end
end Go.Eng
