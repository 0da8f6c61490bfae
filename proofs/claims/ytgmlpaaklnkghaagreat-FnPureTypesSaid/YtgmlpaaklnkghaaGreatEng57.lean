/- The engine, part 52: arrays of shared elements that are handed over: fields stored, nil in their place, calls with nil. -/
import Derived.Test.YtgmlpaaklnkghaaGreatEng51
import Derived.MapKept
import Derived.Lib.AppendZeros
set_option linter.unusedVariables false
set_option linter.unusedSimpArgs false
namespace Go.Eng
open Go Go.RowKit
section
variable {P : Program} {A : Amb} {σ : St} {K : St → Prop} {Q : Exit → St → Prop}
variable {ops : Array Oper} {rest : List Oper} {t : Nat} {ty : TypeId} {pos : String} {af : Array Edge} {x y : Operand} {sv : SV} {dst : Option Nat} {g : Option (Nat × Bool)}
/-- The last field of an element is stored. -/
theorem VO_storeA {T : TypeId} {gg : Bool} {i ver z k off e bs zu : Nat} {es pre : List U} {old u : U} {fr : List (Nat × SV)} {L L' : List LO} {N : Nat} (hx : (St.mk fr L N).ev x = .ep i ver z k off) (hL : L[i]? = some (.arr e z ver es)) (hk : es[k]? = some (.st (pre ++ [old]))) (hoff : U.szs pre = off)
    (hy : VD L ((St.mk fr L N).ev y) u) (hT : tyI P T = some (gg, zu, bs)) (hu : u.sz = zu) (hou : old.sz = zu) (hL' : L.set i (.arr e z ver (es.set k (.st (pre ++ [u])))) = L')
    (h : VO P A ops rest ⟨fr, L', N⟩ K) :
    VO P A ops (⟨none, .store T x y, ty, pos, af, none⟩ :: rest) ⟨fr, L, N⟩ K := by
  subst hL'
  refine VO_step rfl (fun S env a w hH hf hN hd => ?_) h
  have h1 := Realz.ev hf hH x
  have h2 := VD.r hH hy (Realz.ev hf hH y)
  rw [hx] at h1
  simp only [SVr] at h1 h2
  obtain ⟨hv, o, k1, k2, k3, k5, k4⟩ := h1
  rw [hL] at k2
  obtain rfl := Option.some.inj k2
  obtain ⟨b, e1, e2⟩ := k4 rfl
  obtain ⟨hbg, hz, xs, m1, m2⟩ := hH.objs i _ hv hL k1
  obtain ⟨cs, c1, c2⟩ := h2
  have hcl := Rd.length _ _ c2
  rw [hu] at hcl
  rcases m1.2 with ⟨rfl, _⟩ | ⟨g, cap, cur, rfl, hg0, hg, hnc, hcm, hcs, htake⟩
  · simp [blk] at e1
  simp only [blk, Option.some.injEq] at e1
  subst e1
  have hk' : k < es.length := (List.getElem?_eq_some_iff.1 hk).1
  have h5 := Rds.get es xs k _ hz m2 hk
  simp only [Rd] at h5
  obtain ⟨p1, p2, hxs, h6, h7⟩ := Rds.split pre [old] _ h5
  have hp1 := Rds.length _ _ h6
  have hp2 := Rds.length _ _ h7
  simp only [U.szs, Nat.add_zero, hou] at hp2
  have hzz : (U.st (pre ++ [old])).sz = z := hz _ (List.mem_of_getElem? hk)
  have hszapp : ∀ (us vs : List U), U.szs (us ++ vs) = U.szs us + U.szs vs := by
    intro us vs
    induction us with
    | nil => simp [U.szs]
    | cons a us ih => simp only [List.cons_append, U.szs, ih]; omega
  have hzo : z = off + zu := by
    simp only [U.sz, hszapp, U.szs, hou, hoff] at hzz
    omega
  have hkz : (k + 1) * z ≤ es.length * z := Nat.mul_le_mul_right _ hk'
  have hcap : es.length * z ≤ cap * z := Nat.mul_le_mul_right _ hnc
  have hkz1 : (k + 1) * z = k * z + z := by rw [Nat.add_mul]; omega
  have hxl := m1.1
  have hst := run_storeCells_at P g (k * z + off) e cs 0 cur w hg (by omega) (Rd.oneCell _ _ c2)
  rw [Nat.add_zero, hcl] at hst
  -- the same as storing the whole element
  have hel : (xs.drop (k * z)).take z = p1 ++ p2 := hxs
  have hcurk : (cur.toList.drop (k * z)).take z = p1 ++ p2 := by
    rw [← hel, ← htake, List.drop_take, List.take_take, Nat.min_eq_left (by omega)]
  have hsplit : cur.toList = cur.toList.take (k * z) ++ (p1 ++ (p2 ++ cur.toList.drop (k * z + z))) := by
    conv => lhs; rw [← List.take_append_drop (k * z) cur.toList, ← List.take_append_drop z (cur.toList.drop (k * z)), hcurk, List.drop_drop]
    simp
  have hTl : (cur.toList.take (k * z)).length = k * z := by rw [List.length_take, Array.length_toList]; omega
  have hnew : cur.toList.take (k * z + off) ++ cs ++ cur.toList.drop (k * z + off + zu) = cur.toList.take (k * z) ++ (p1 ++ cs) ++ cur.toList.drop (k * z + z) := by
    generalize hA1 : cur.toList.take (k * z) = A1 at hsplit hTl
    generalize hD1 : cur.toList.drop (k * z + z) = D1 at hsplit
    have e3 : (A1 ++ (p1 ++ (p2 ++ D1))).take (k * z + off) = A1 ++ p1 := by
      rw [← List.append_assoc, List.take_left' (by simp only [List.length_append]; omega)]
    have e4 : (A1 ++ (p1 ++ (p2 ++ D1))).drop (k * z + off + zu) = D1 := by
      rw [← List.append_assoc, ← List.append_assoc, List.drop_left' (by simp only [List.length_append]; omega)]
    rw [hsplit, e3, e4]
    simp
  rw [hnew] at hst
  have hpl : (p1 ++ cs).length = z := by simp only [List.length_append]; omega
  have hrd : Rd S w (.st (pre ++ [u])) (p1 ++ cs) := by
    simp only [Rd]
    exact Rds.append pre p1 [u] cs h6 (by simp only [Rds]; exact ⟨cs, [], by simp, c2, rfl⟩)
  have hus : (U.st (pre ++ [u])).sz = z := by simp only [U.sz, hszapp, U.szs]; omega
  have hrow := setRow_heap w g cur ((cur.toList.take (k * z) ++ (p1 ++ cs) ++ cur.toList.drop (k * z + z)).toArray) e (0, 0) hg
  obtain ⟨hH', C⟩ := hH.turn (w' := w.setRow g (cur.toList.take (k * z) ++ (p1 ++ cs) ++ cur.toList.drop (k * z + z)).toArray) i _ (.arr e z ver (es.set k (.st (pre ++ [u])))) _ g hL rfl k1 rfl rfl rfl
    (setRow_size _ _ _) (fun k hk => setRow_other w g k _ hk) rfl rfl rfl
    (fun C => ⟨by simpa using hbg, fun v hv => by
        rcases List.mem_or_eq_of_mem_set hv with hv | rfl
        · exact hz v hv
        · exact hus,
      xs.take (k * z) ++ (p1 ++ cs) ++ xs.drop ((k + 1) * z), ⟨by simp only [List.length_append, List.length_take, List.length_drop, List.length_set, hxl] at hpl ⊢; omega, .inr ⟨g, cap, _, by simp, hg0, hrow, by simpa using hnc, hcm, by simp only [List.size_toArray, List.length_append, List.length_take, List.length_drop, Array.length_toList] at hpl ⊢; omega, by
        rw [List.length_set, ← htake, hkz1]
        have := splice_take cur.toList (k * z) (es.length * z) (p1 ++ cs) (by rw [hpl]; omega) (by simp only [Array.length_toList]; omega)
        rw [hpl] at this
        exact this⟩⟩,
      Rds.set es xs k _ (p1 ++ cs) hz (Rds.mono C.hS C.hw _ _ m2) (hrd.mono C.hS C.hw) hk'⟩)
  refine ⟨.skip, _, ?_, .inr ⟨rfl, realz_put_none hf hN hd hH' C⟩⟩
  have hcells : (a.eval y).cells.toList = cs := by rw [c1]; exact val_cells c2
  have hsz : (a.eval y).cells.size = zu := by rw [← hcl, ← hcells]; simp
  have e2' : a.eval x = .pointer (some ⟨g, k * z + off, none⟩) := e2
  simp [execOp, Instr.storeAt, e2', Instr.sureAddr, storeVar, run_sizeOf hT, hsz, hcells, hst]
end
section
variable {P : Program} {A : Amb} {Q : Exit → St → Prop} {c : Code}
end
/-! ### arrays of shared elements in regions that draw their order -/
theorem VDs.same {σ σ' : St} (hL : σ'.L = σ.L) {l : List Operand} {us : List U} (h : VDs σ l us) : (∀ x ∈ l, σ'.ev x = σ.ev x) → VDs σ' l us := by
  induction h with
  | nil => exact fun _ => .nil
  | @cons x l u us h h2 ih => exact fun he => .cons (by rw [hL, he x (by simp)]; exact h) (ih fun y hy => he y (by simp [hy]))
section
variable {P : Program} {A : Amb} {ops : Array Oper} {K : St → Prop} {r : List (Nat × Bool)} {pf : PF} {fr : List (Nat × SV)} {L L1 L' : List LO} {N i t m : Nat}
variable {ty : TypeId} {pos : String} {af : Array Edge} {x y : Operand} {T : TypeId}
theorem VY_lb {e z bs n : Nat} {gg : Bool} [TE P T e] [TI P e gg z bs] {zs : List Value} [TZ P e zs] {us : List U} {ps : Array (Nat × Operand)} (h : VY P A ops K r pf ⟨(t, .sl m 0) :: fr, L', N⟩) (hi : ops[i]? = some ⟨some t, .buildSlice T n ps, ty, pos, af, none⟩ := by rfl) (hps : ps.toList = ((ps.toList.map Prod.snd).zipIdx 0).map (fun p => (p.2, p.1)) := by rfl)
    (hy : VDs ⟨fr, L, N⟩ (ps.toList.map Prod.snd) us := by (repeat (first | exact .nil | refine .cons (by ((repeat (first | exact trivial | exact rfl | exact ⟨_, rfl⟩ | refine And.intro ?_ ?_)); first | done | fail)) ?_))) (hu : (us.all fun u => u.sz == z) = true := by rfl) (hn : ((ps.toList.map Prod.snd).length == n && Nat.blt 0 n) = true := by rfl)
    (hz : (Nat.blt 0 z && Nat.ble (n * z) 16777216 && zs.length == z) = true := by rfl) (ht : Nat.blt t N = true := by rfl) (hL' : Sn (.arr e z 0 us) L m L' := by repeat constructor)
    (hp : PfOk ops i L' pf := by (repeat (first | exact PfOk.nil | (apply PfOk.keep; focus ((repeat constructor); done)) | (apply PfOk.dep; focus kernel_rfl)))) : VY P A ops K ((i, false) :: r) pf ⟨fr, L, N⟩ :=
  VY_hst hi (fun fr' he' K' hK => VO_lb (VO_nil hK) hps (VDs.same (σ := ⟨fr, L, N⟩) (σ' := ⟨fr', L, N⟩) rfl hy (fun x hx => he' x (by simpa [Op.operands] using hx))) hu hn hz ht hL') hp h
theorem VY_apa {α : Type} {en : α → U} {es : List α → List U} {z : Nat} [E : Enc α en es z] {l l2 : List α} (hg : l.length + l2.length ≤ 4294967296) {e bs ver : Nat} {T' : TypeId} {gg : Bool} [TE P T e] [TI P e gg z bs] {zs : List Value} [TZ P e zs]
    (h : VY P A ops K r pf ⟨(t, .sl m (ver + 1)) :: fr, L', N⟩) (hi : ops[i]? = some ⟨some t, .call { callee := .builtin .append, args := #[x, y], argTypes := #[T, T] }, T', pos, af, none⟩ := by rfl) (hx : (St.mk fr L N).ev x = .sl m ver := by rfl) (hL : L[m]? = some (.arr e z ver (es l)) := by rfl) (hs : SrcOf ⟨fr, L, N⟩ z (es l2) ((St.mk fr L N).ev y) := by first | exact ⟨_, rfl⟩ | exact ⟨rfl, rfl, Enc.all _⟩ | exact rfl)
    (hz : (Nat.blt 0 z && zs.length == z) = true := by rfl) (hb : Nat.ble bs 32768 = true := by rfl) (ht : Nat.blt t N = true := by rfl) (hL' : L.set m (.arr e z (ver + 1) (es (l ++ l2))) = L' := by rfl)
    (hp : PfOk ops i L' pf := by (repeat (first | exact PfOk.nil | (apply PfOk.keep; focus ((repeat constructor); done)) | (apply PfOk.dep; focus kernel_rfl)))) : VY P A ops K ((i, false) :: r) pf ⟨fr, L, N⟩ :=
  VY_hst hi (fun fr' he' K' hK => VO_apa (l := l) (r := l2) hg (VO_nil hK) (by rw [he' x (by simp [Op.operands, Call.operands])]; exact hx) hL (by rw [he' y (by simp [Op.operands, Call.operands])]; exact hs) hz hb ht hL') hp h
end
section
variable {P : Program} {A : Amb} {ops : Array Oper} {K : St → Prop} {r : List (Nat × Bool)} {pf : PF} {o : Oper} {fr : List (Nat × SV)} {L L1 L' : List LO} {N i t j : Nat} {sv : SV}
/-- nil seen as an array of the call's own: a cell of a variable. -/
theorem Realz.adoptA {a : Act} {w : World} {cs cs' : List SV} {e z : Nat} (hL : L[j]? = some (.box cs)) (k : Nat) (hc : cs[k]? = some .nilsl) (hcs : cs.set k (.sl L.length 0) = cs') (h : Realz A ⟨fr, L, N⟩ a w) : Realz A ⟨fr, L.set j (.box cs') ++ [.arr e z 0 []], N⟩ a w := by
  subst hcs
  obtain ⟨S, env, hH, hf, hN, hd⟩ := h
  have hj := (List.getElem?_eq_some_iff.1 hL).1
  -- the new object
  obtain ⟨hH1, C1⟩ := hH.newO [] (.arr e z 0 []) (.slice none 0 0) (Nat.le_refl _) (fun _ _ => rfl) rfl rfl rfl (fun b hb => by simp [LO.ft, blk] at hb) (fun _ => ⟨by simp [big_eq], by simp, [], World.ownsRow_nil w 0 e z, by simp [Rds]⟩)
  rw [kill_nil] at hH1 C1
  have hL1 : (L ++ [LO.arr e z 0 []])[j]? = some (.box cs) := by rw [List.getElem?_append_left hj]; exact hL
  have hje : j < (env ++ [Value.slice none 0 0]).length := by rw [hH1.len]; simp; omega
  obtain ⟨hv, he⟩ : ∃ hv, (env ++ [Value.slice none 0 0])[j]? = some hv := ⟨_, List.getElem?_eq_getElem hje⟩
  obtain ⟨b, vals, e', r1, r2, r3, r4⟩ := hH1.objs j _ hv hL1 he
  obtain ⟨hH2, C2⟩ := hH1.turnF (w' := w) j (.box cs) (.box (cs.set k (.sl L.length 0))) hv hL1 rfl he rfl rfl (fun _ _ => rfl) rfl rfl rfl (fun k hk => hk) (fun C => ⟨b, vals, e', r1, r2, by
    have r3' := SVrs.carry C _ _ r3
    rw [SVrs.iff] at r3' ⊢
    obtain ⟨v, v1, v2⟩ := All2.get ((SVrs.iff _ _).1 r3) k _ hc
    simp only [SVr] at v2
    subst v2
    have hset := All2.set k (.sl L.length 0) (.slice none 0 0) r3' (by
      simp only [SVr]
      refine ⟨.slice none 0 0, .arr e z 0 [], by rw [← hH.len]; simp, ?_, Nat.le_refl _, rfl, fun _ => rfl⟩
      rw [List.getElem?_set_ne (by omega)]
      simp)
    have hk : k < vals.toList.length := (List.getElem?_eq_some_iff.1 v1).1
    have : vals.toList.set k (.slice none 0 0) = vals.toList := by
      apply List.ext_getElem?
      intro m
      rw [List.getElem?_set]
      by_cases hm : k = m
      · subst hm; rw [if_pos rfl, if_pos hk, v1]
      · rw [if_neg hm]
    rwa [this] at hset, r4⟩)
  have hse : (L ++ [LO.arr e z 0 []]).set j (.box (cs.set k (.sl L.length 0))) = L.set j (.box (cs.set k (.sl L.length 0))) ++ [.arr e z 0 []] := by rw [List.set_append_left _ _ hj]
  rw [hse] at hH2 C2
  exact ⟨S, _, hH2, fun t => SVr.carry C2 _ _ (SVr.carry C1 _ _ (hf t)), hN, hd⟩
theorem V_adoptA {Q : Exit → St → Prop} {c : Code} {cs cs' : List SV} {n : Nat} (e z : Nat) (j k : Nat) (hL : L[j]? = some (.box cs)) (hc : cs[k]? = some .nilsl) (hn : Ln L n) (hcs : St1 (.sl n 0) k cs cs') (h1 : St1 (.box cs') j L L1) (h2 : Jn L1 [.arr e z 0 []] L')
    (h : V P A c ⟨fr, L', N⟩ Q) : V P A c ⟨fr, L, N⟩ Q := by
  have e1 := hn.eq
  have e2 := hcs.spec
  have e3 := h1.spec
  have e4 := h2.spec
  subst e1; subst e2; subst e3; subst e4
  exact fun a w hr => h a w (Realz.adoptA hL k hc rfl hr)
end
section
variable {P : Program} {A : Amb} {σ : St} {K : St → Prop}
variable {ops : Array Oper} {rest : List Oper} {t : Nat} {ty : TypeId} {pos : String} {af : Array Edge} {x y : Operand} {dst : Option Nat} {g : Option (Nat × Bool)}
theorem Q_fla {α : Type} {en : α → U} {es : List α → List U} {z : Nat} [E : Enc α en es z] {l : List α} {T : TypeId} {j ver k off e' f fo : Nat} [TF P T f fo] (hx : σ.ev x = .ep j ver z k off := by rfl) (hL : σ.L[j]? = some (.arr e' z ver (es l)) := by rfl) : Quiet P A σ ⟨dst, .fieldAddr T x f, ty, pos, af, g⟩ (.ep j ver z k (off + fo)) := Q_field_ep hx hL TF.h
theorem VO_sta {α : Type} {en : α → U} {es : List α → List U} {z : Nat} [E : Enc α en es z] {l : List α} {T : TypeId} {i ver k off e : Nat} {gg : Bool} {zu bs : Nat} {fr : List (Nat × SV)} {L L' : List LO} {N : Nat} (pre : List U) (old u : U) (a a' : α) (ha : l[k]? = some a) [TI P T gg zu bs]
    (h : VO P A ops rest ⟨fr, L', N⟩ K) (hx : (St.mk fr L N).ev x = .ep i ver z k off := by rfl) (hL : L[i]? = some (.arr e z ver (es l)) := by rfl) (hea : en a = .st (pre ++ [old]) := by rfl) (hea' : en a' = .st (pre ++ [u]) := by rfl) (hoff : U.szs pre = off := by rfl)
    (hy : VD L ((St.mk fr L N).ev y) u := by ((repeat (first | exact trivial | exact rfl | exact ⟨_, rfl⟩ | refine And.intro ?_ ?_)); first | done | fail)) (hu : u.sz = zu := by rfl) (hou : old.sz = zu := by rfl) (hL' : L.set i (.arr e z ver (es (l.set k a'))) = L' := by rfl) :
    VO P A ops (⟨none, .store T x y, ty, pos, af, none⟩ :: rest) ⟨fr, L, N⟩ K := by
  rw [Enc.set (es := es), hea'] at hL'
  exact VO_storeA hx hL (by rw [Enc.get (es := es) ha, hea]) hoff hy TI.h hu hou hL' h
end
theorem eTypes_len (l : List TType) : (eTypes l).length = l.length := Enc.len l
theorem eBindings_len (l : List TBinding) : (eBindings l).length = l.length := Enc.len l
/-! ### letting go of an object before the next operation of a region that draws its order -/
section
variable {P : Program} {A : Amb} {ops : Array Oper} {K : St → Prop} {r : List (Nat × Bool)} {pf : PF} {fr : List (Nat × SV)} {L L1 L' : List LO} {N i : Nat} {o : Oper} {sv : SV}
theorem VY_frzO (zi : Nat) {e z ver : Nat} {es : List U} (hz : L[zi]? = some (.own e z ver es)) (hL1 : L.set zi (.frz e z ver es) = L1) (h : VY P A ops K ((i, false) :: r) pf ⟨fr, L1, N⟩) : VY P A ops K ((i, false) :: r) pf ⟨fr, L, N⟩ := by
  obtain ⟨o, Z, h1, h2, h3⟩ := h
  exact ⟨o, Z, h1, fun fr' he K' hK => VO_freezeO zi hz hL1 (h2 fr' he K' hK), h3⟩
theorem VY_frz (zi : Nat) {e z ver : Nat} {es : List U} (hz : L[zi]? = some (.arr e z ver es)) (hL1 : L.set zi (.frz e z ver es) = L1) (h : VY P A ops K ((i, false) :: r) pf ⟨fr, L1, N⟩) : VY P A ops K ((i, false) :: r) pf ⟨fr, L, N⟩ := by
  obtain ⟨o, Z, h1, h2, h3⟩ := h
  exact ⟨o, Z, h1, fun fr' he K' hK => VO_freeze zi hz hL1 (h2 fr' he K' hK), h3⟩
end
section
variable {P : Program} {σ : St}
theorem R_rF {fn : Func} {Q : SV → List LO → Prop} {n : Nat} (svs : List SV) (Lo : List LO) (hq : Q (mkG svs) Lo) (hL : ∃ L2, σ.L = Lo ++ L2 := by exact ⟨_, rfl⟩) (hl : (LO.lts Lo.length Lo && SV.lts Lo.length svs && Nat.ble n Lo.length) = true := by rfl)
    (hr : ResG P σ fn.results.toList svs := by ((repeat (first | exact .nil | refine .data rfl rfl ?_ | refine .data rfl (by ((repeat (first | exact trivial | exact rfl | exact ⟨_, rfl⟩ | refine And.intro ?_ ?_)); first | done | fail)) ?_ | refine .same rfl ?_ | refine .same (ResV_ag rfl rfl TI.h rfl rfl) ?_ | refine .same (ResV_one rfl rfl TI.h rfl) ?_ | refine .data (ResV_ag rfl rfl TI.h rfl rfl) (by ((repeat (first | exact trivial | exact rfl | exact ⟨_, rfl⟩ | refine And.intro ?_ ?_)); first | done | fail)) ?_ | refine .data (ResV_one rfl rfl TI.h rfl) (by ((repeat (first | exact trivial | exact rfl | exact ⟨_, rfl⟩ | refine And.intro ?_ ?_)); first | done | fail)) ?_)); first | done | fail)) : PostG P fn Q n .ret σ := R_rG svs Lo hq hL hl hr
end
end Go.Eng
set_option linter.unusedVariables false
set_option linter.unusedSimpArgs false
namespace Go.Eng
open Go Go.RowKit
theorem RdE.take {S : Nat → Prop} {w : World} {z b : Nat} : ∀ (us : List U) (off k : Nat), RdE S w z b off us → RdE S w z b off (us.take k)
  | _, _, 0, _ => by simp [RdE]
  | [], _, _ + 1, _ => by simp [RdE]
  | u :: us, off, k + 1, h => by
    simp only [RdE] at h
    simp only [List.take_succ_cons, RdE]
    exact ⟨h.1, RdE.take us (off + z) k h.2⟩
section
variable {P : Program} {σ : St} {dst : Option Nat} {ty T : TypeId} {pos : String} {af : Array Edge} {g : Option (Nat × Bool)} {x y h : Operand}
end
section
variable {P : Program} {A : Amb} {ops : Array Oper} {K : St → Prop} {r : List (Nat × Bool)} {pf : PF} {fr : List (Nat × SV)} {L L1 L' : List LO} {N i t m : Nat}
variable {ty : TypeId} {pos : String} {af : Array Edge} {x y : Operand} {T : TypeId}
end
end Go.Eng
set_option linter.unusedVariables false
set_option linter.unusedSimpArgs false
namespace Go.Eng
open Go Go.RowKit Go.MapKept
section
variable {P : Program} {A : Amb} {σ : St} {K : St → Prop}
variable {ops : Array Oper} {rest : List Oper} {t : Nat} {dst : Option Nat} {g : Option (Nat × Bool)} {ty : TypeId} {pos : String} {af : Array Edge} {x y z : Operand} {sv : SV} {T : TypeId}
end
section
variable {P : Program} {σ : St} {dst : Option Nat} {ty T : TypeId} {pos : String} {af : Array Edge} {g : Option (Nat × Bool)} {x y h : Operand}
end
section
variable {P : Program} {σ : St}
end
section
variable {P : Program} {A : Amb} {ops : Array Oper} {K : St → Prop} {r : List (Nat × Bool)} {pf : PF} {fr : List (Nat × SV)} {L L' : List LO} {N i t : Nat} {sv : SV}
variable {ty : TypeId} {pos : String} {af : Array Edge}
/-- A call that results in data, taken like an operation that is not quiet. -/
theorem VY_clh {f : Operand} {fi : Nat} {caps : List SV} {args : Array Operand} {at_ : Array TypeId} {dargs : List SV} {us : List U} (hspec : SpecP P fi dargs us) (hv : VY P A ops K r pf ⟨(t, mkR us) :: fr, L, N⟩)
    (hi : ops[i]? = some ⟨some t, .call { callee := .value f, args := args, argTypes := at_ }, ty, pos, af, none⟩ := by rfl) (hf : (St.mk fr L N).ev f = .fn fi caps := by rfl)
    (hargs : VAs L (args.toList.map (St.mk fr L N).ev ++ caps) dargs := by ((repeat (first | exact trivial | exact rfl | exact ⟨_, rfl⟩ | exact (‹∀ n, SV.lts n _ = true› _) | refine And.intro ?_ ?_)); first | done | fail))
    (ht : Nat.blt t N = true := by rfl) (hp : PfOk ops i L pf := by (repeat (first | exact PfOk.nil | (apply PfOk.keep; focus ((repeat constructor); done)) | (apply PfOk.dep; focus kernel_rfl)))) : VY P A ops K ((i, false) :: r) pf ⟨fr, L, N⟩ := by
  refine VY_hst hi (fun fr' he K' hK => ?_) hp hv
  have hm : args.toList.map (St.mk fr' L N).ev = args.toList.map (St.mk fr L N).ev := List.map_congr_left fun x hx => he x (by simp only [Op.operands, Call.operands]; simp; exact .inr (by simpa using hx))
  exact VO_q (Q_call (by rw [he f (by simp [Op.operands, Call.operands])]; exact hf) hspec (by simp only; rw [hm]; exact hargs)) ht (VO_nil hK)
end
end Go.Eng
set_option linter.unusedVariables false
set_option linter.unusedSimpArgs false
namespace Go.Eng
open Go Go.RowKit
section
variable {P : Program} {A : Amb} {σ : St} {K : St → Prop} {Q : Exit → St → Prop} {ops : Array Oper} {rest : List Oper} {r : List (Nat × Bool)} {pf : PF}
end
end Go.Eng
set_option linter.unusedVariables false
set_option linter.unusedSimpArgs false
namespace Go.Eng
open Go Go.RowKit
section
variable {P : Program} {A : Amb} {σ : St} {K : St → Prop} {Q : Exit → St → Prop}
variable {ops : Array Oper} {rest : List Oper} {t : Nat} {ty : TypeId} {pos : String} {af : Array Edge} {x y : Operand} {sv : SV} {dst : Option Nat} {g : Option (Nat × Bool)}
end
section
variable {P : Program} {A : Amb} {ops : Array Oper} {K : St → Prop} {r : List (Nat × Bool)} {pf : PF} {fr : List (Nat × SV)} {L L1 L' : List LO} {N i t m : Nat}
variable {ty : TypeId} {pos : String} {af : Array Edge} {x y : Operand} {T : TypeId}
end
end Go.Eng
set_option linter.unusedVariables false
set_option linter.unusedSimpArgs false
namespace Go.Eng
open Go Go.RowKit
section
variable {P : Program} {A : Amb} {Q Q2 : Exit → St → Prop} {c x y : Code}
end
end Go.Eng
