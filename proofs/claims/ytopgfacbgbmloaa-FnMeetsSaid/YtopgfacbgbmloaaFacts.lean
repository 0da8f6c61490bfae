/- The engine, part 37: compact rules for calls that hand over, owned arrays, ends. -/
import Derived.Test.YtopgfacbgbmloaaEng36
import Derived.Test.YtopgfacbgbmloaaProg
set_option linter.unusedVariables false
set_option linter.unusedSimpArgs false
namespace Go.Eng
open Go Go.RowKit

section
variable {P : Program} {A : Amb} {ops : Array Oper} {K : St → Prop} {Q : Exit → St → Prop} {rest : List Oper} {σ : St} {fr : List (Nat × SV)} {L L1 L' : List LO} {N i t : Nat} {sv : SV} {o : Oper} {c : Code}
variable {ty T : TypeId} {pos : String} {af : Array Edge} {x y : Operand} {g : Option (Nat × Bool)} {dst : Option Nat} {op : Op}

/-! ### lengths -/
theorem QR_len {α : Type} {e : α → U} {es : List α → List U} {z z' : Nat} [E : Enc α e es z] {el : TypeId} [TE P T el] {T' : TypeId} {l : List α} (hx : σ.ev x = .d (.sl z' (es l)) := by rfl) : QR P σ ⟨dst, .call { callee := .builtin .len, args := #[x], argTypes := #[T] }, T', pos, af, g⟩ (.d (.i .i64 (l.length : Int))) :=
  fun A fr' L' he _ => by
    rw [← Enc.len (es := es) l]
    exact Q_len (by rw [he x (by simp [Op.operands, Call.operands])]; exact hx) TE.h
theorem Q_leno {α : Type} {e : α → U} {es : List α → List U} {z z' : Nat} [E : Enc α e es z] {el : TypeId} [TE P T el] {T' : TypeId} {l : List α} {i ver e' : Nat} (hx : σ.ev x = .sl i ver := by rfl) (hL : σ.L[i]? = some (.own e' z' ver (es l)) := by rfl) : Quiet P A σ ⟨dst, .call { callee := .builtin .len, args := #[x], argTypes := #[T] }, T', pos, af, g⟩ (.d (.i .i64 (l.length : Int))) := by
  rw [← Enc.len (es := es) l]
  exact Q_len_own hx hL .own TE.h

/-! ### guarded operations that are passed over -/
theorem VO_pa {j tj : Nat} {want x : Bool} {o' : Oper} (h : VO P A ops rest ⟨(t, .tup []) :: fr, L, N⟩ K) (hj : ops[j]? = some o' := by rfl) (hdst : o'.dst = some tj := by rfl) (htj : Nat.blt tj N = true := by rfl) (hb : look fr tj = .d (.b x) := by rfl) (hx : (x == want) = false := by rfl) (ht : Nat.blt t N = true := by rfl) :
    VO P A ops (⟨some t, op, ty, pos, af, some (j, want)⟩ :: rest) ⟨fr, L, N⟩ K := by
  intro R hR a w ⟨S, env, hH, hf, hN, hd⟩
  have h1 := h R hR (a.put (some t) undef) w (realz_put hf hN hd ht hH Carry.refl (by simp only [SVr]; exact ⟨[], rfl, by simp [SVrs]⟩))
  have h2 := hf tj
  rw [hb] at h2
  have h3 := SVr.bool.1 h2
  have ht' : tj < a.tmps.size := by rw [hN]; simpa [Nat.blt_eq] using htj
  have hy : yielded ops a.tmps j = some x := by
    simp only [yielded, hj, hdst, Option.bind_some]
    have : a.tmps[tj]? = some (.bool x) := by
      rw [Array.getD_eq_getD_getElem?, Array.getElem?_eq_getElem ht'] at h3
      rw [Array.getElem?_eq_getElem ht']
      have h3' : a.tmps[tj] = .bool x := by simpa using h3
      rw [h3']
    rw [this]
  unfold wpList
  simp only [Region.wanted, hy]
  have hne : (some x == some want) = false := by simpa using hx
  rw [hne]
  exact h1
theorem VO_pu {j tj : Nat} {want : Bool} {o' : Oper} (h : VO P A ops rest ⟨(t, .tup []) :: fr, L, N⟩ K) (hj : ops[j]? = some o' := by rfl) (hdst : o'.dst = some tj := by rfl) (htj : Nat.blt tj N = true := by rfl) (hb : look fr tj = .tup [] := by rfl) (ht : Nat.blt t N = true := by rfl) :
    VO P A ops (⟨some t, op, ty, pos, af, some (j, want)⟩ :: rest) ⟨fr, L, N⟩ K := by
  intro R hR a w ⟨S, env, hH, hf, hN, hd⟩
  have h1 := h R hR (a.put (some t) undef) w (realz_put hf hN hd ht hH Carry.refl (by simp only [SVr]; exact ⟨[], rfl, by simp [SVrs]⟩))
  have h2 := hf tj
  rw [hb] at h2
  simp only [SVr] at h2
  obtain ⟨vs, h3, h4⟩ := h2
  have hvs : vs = [] := by cases vs with
    | nil => rfl
    | cons _ _ => simp [SVrs] at h4
  subst hvs
  have ht' : tj < a.tmps.size := by rw [hN]; simpa [Nat.blt_eq] using htj
  have hy : yielded ops a.tmps j = none := by
    simp only [yielded, hj, hdst, Option.bind_some]
    have : a.tmps[tj]? = some (.tuple #[]) := by
      rw [Array.getD_eq_getD_getElem?, Array.getElem?_eq_getElem ht'] at h3
      rw [Array.getElem?_eq_getElem ht']
      have h3' : a.tmps[tj] = .tuple #[] := by simpa using h3
      rw [h3']
    rw [this]
  unfold wpList
  simp only [Region.wanted, hy]
  have hne : ((none : Option Bool) == some want) = false := by rfl
  rw [hne]
  exact h1

/-! ### the call that hands over -/
def pickB (L : List LO) (ρ : Nat → Nat) : Nat → List LO → Prop
  | _, [] => True
  | m, o :: os => L[ρ m]? = some (o.ren ρ) ∧ pickB L ρ (m + 1) os
theorem pickB_get {L : List LO} {ρ : Nat → Nat} : ∀ {Lc : List LO} {n : Nat}, pickB L ρ n Lc → ∀ (m : Nat) (o : LO), Lc[m]? = some o → L[ρ (n + m)]? = some (o.ren ρ)
  | [], _, _, m, o, h => by simp at h
  | o0 :: os, n, hp, 0, o, h => by simp at h; subst h; exact hp.1
  | o0 :: os, n, hp, m + 1, o, h => by
    have := pickB_get hp.2 m o (by simpa using h)
    rwa [show n + 1 + m = n + (m + 1) by omega] at this
theorem VO_cG {f : Operand} {fi : Nat} {caps : List SV} {args : Array Operand} {at_ : Array TypeId} {cargs : List SV} {Lc : List LO} {Q : SV → List LO → Prop} (js : List Nat) (hspec : Spec P fi cargs Lc Q)
    (h : ∀ (sv : SV) (Lo : List LO), Q sv Lo → VO P A ops rest ⟨(t, sv.ren (rn js L.length)) :: fr, putA js (Lo.map (LO.ren (rn js L.length))) L, N⟩ K)
    (hf : (St.mk fr L N).ev f = .fn fi caps := by rfl) (hp : pickB L (rn js L.length) 0 Lc := by ((repeat (first | exact trivial | exact rfl | refine And.intro ?_ ?_)); first | done | fail))
    (hjs : (decide js.Nodup && (js.all fun j => Nat.blt j L.length) && js.length == Lc.length && LO.lts Lc.length Lc) = true := by rfl)
    (hargs : AGs L (rn js L.length) Lc.length (args.toList.map (St.mk fr L N).ev ++ caps) cargs := by ((repeat (first | exact trivial | exact .inl ⟨rfl, rfl⟩ | exact .inr ⟨_, rfl, by ((repeat (first | exact trivial | exact rfl | exact ⟨_, rfl⟩ | refine And.intro ?_ ?_)); first | done | fail)⟩ | refine And.intro ?_ ?_)); first | done | fail))
    (ht : Nat.blt t N = true := by rfl) :
    VO P A ops (⟨some t, .call { callee := .value f, args := args, argTypes := at_ }, ty, pos, af, none⟩ :: rest) ⟨fr, L, N⟩ K := by
  have hjs' := hjs
  simp only [Bool.and_eq_true, decide_eq_true_eq, List.all_eq_true, Nat.blt_eq, beq_iff_eq] at hjs'
  obtain ⟨⟨⟨hnd, hlt⟩, hn⟩, hlts⟩ := hjs'
  refine VO_callG js hf hspec ⟨fun m o ho => by simpa using pickB_get hp m o ho, fun m m' _ _ he => rn_inj hlt hnd he, hlts⟩ ?_ hargs ht h
  simp only [Bool.and_eq_true, decide_eq_true_eq, List.all_eq_true, Nat.blt_eq, beq_iff_eq]
  exact ⟨⟨hnd, hlt⟩, hn⟩
theorem N_rG {fn : Func} {Q : SV → List LO → Prop} {n : Nat} (svs : List SV) (Lo : List LO) (hq : Q (mkG svs) Lo) (hL : ∃ L2, σ.L = Lo ++ L2 := by exact ⟨_, rfl⟩) (hl : (LO.lts Lo.length Lo && SV.lts Lo.length svs && Nat.ble n Lo.length) = true := by rfl)
    (hr : ResG P σ fn.results.toList svs := by ((repeat (first | exact .nil | refine .data rfl rfl ?_ | refine .same rfl ?_ | refine .data (ResV_ag rfl rfl TI.h rfl rfl) (by ((repeat (first | exact trivial | exact rfl | exact ⟨_, rfl⟩ | refine And.intro ?_ ?_)); first | done | fail)) ?_)); first | done | fail)) : PostG P fn Q n .normal σ := by
  obtain ⟨L2, hL⟩ := hL
  exact ⟨trivial, svs, Lo, L2, hL, hl, hq, hr⟩
theorem R_rG {fn : Func} {Q : SV → List LO → Prop} {n : Nat} (svs : List SV) (Lo : List LO) (hq : Q (mkG svs) Lo) (hL : ∃ L2, σ.L = Lo ++ L2 := by exact ⟨_, rfl⟩) (hl : (LO.lts Lo.length Lo && SV.lts Lo.length svs && Nat.ble n Lo.length) = true := by rfl)
    (hr : ResG P σ fn.results.toList svs := by ((repeat (first | exact .nil | refine .data rfl rfl ?_ | refine .same rfl ?_ | refine .data (ResV_ag rfl rfl TI.h rfl rfl) (by ((repeat (first | exact trivial | exact rfl | exact ⟨_, rfl⟩ | refine And.intro ?_ ?_)); first | done | fail)) ?_)); first | done | fail)) : PostG P fn Q n .ret σ := ⟨trivial, (N_rG svs Lo hq hL hl hr).2⟩
theorem N_rP {fn : Func} {us : List U} (h : ResPs P σ fn.results.toList us := by ((repeat (first | exact trivial | exact ⟨_, rfl, rfl⟩ | exact ⟨_, rfl, ⟨_, rfl⟩⟩ | exact ⟨_, ResV_ag rfl rfl TI.h rfl rfl, (by (repeat (first | exact trivial | exact rfl | exact ⟨_, rfl⟩ | refine And.intro ?_ ?_)); first | done | fail)⟩ | exact ⟨_, ResV_one rfl rfl TI.h rfl, rfl⟩ | refine And.intro ?_ ?_)); first | done | fail)) : PostP P fn us .normal σ := ⟨trivial, h⟩
theorem R_rP {fn : Func} {us : List U} (h : ResPs P σ fn.results.toList us := by ((repeat (first | exact trivial | exact ⟨_, rfl, rfl⟩ | exact ⟨_, rfl, ⟨_, rfl⟩⟩ | exact ⟨_, ResV_ag rfl rfl TI.h rfl rfl, (by (repeat (first | exact trivial | exact rfl | exact ⟨_, rfl⟩ | refine And.intro ?_ ?_)); first | done | fail)⟩ | exact ⟨_, ResV_one rfl rfl TI.h rfl, rfl⟩ | refine And.intro ?_ ?_)); first | done | fail)) : PostP P fn us .ret σ := ⟨trivial, h⟩
theorem R_rO {fn : Func} {es : List TypeId} {us : List U} {ps : List (Option Nat)} (h : ROs P σ fn.results.toList us es ps := by ((repeat (first | exact rfl | exact ResV_ag rfl rfl TI.h rfl rfl | exact ResV_one rfl rfl TI.h rfl | constructor)); first | done | fail)) (hn : decide ((ps.filterMap id).Nodup) = true := by rfl) : PostO P fn es us .ret σ := ⟨trivial, ps, h, hn⟩
theorem N_rO {fn : Func} {es : List TypeId} {us : List U} {ps : List (Option Nat)} (h : ROs P σ fn.results.toList us es ps := by ((repeat (first | exact rfl | exact ResV_ag rfl rfl TI.h rfl rfl | exact ResV_one rfl rfl TI.h rfl | constructor)); first | done | fail)) (hn : decide ((ps.filterMap id).Nodup) = true := by rfl) : PostO P fn es us .normal σ := ⟨trivial, ps, h, hn⟩

/-! ### a call of a function that was handed in -/
theorem QR_callf {f : Operand} {fi : Nat} {caps : List SV} {args : Array Operand} {at_ : Array TypeId} {dargs : List SV} {us : List U} (hspec : SpecP P fi (dargs ++ caps) us) (hc : SV.lts 0 caps = true) (hf : σ.ev f = .fn fi caps := by rfl)
    (hargs : ∀ L', VAs L' (args.toList.map σ.ev) dargs := by (intro L'; (repeat (first | exact trivial | exact rfl | exact ⟨_, rfl⟩ | refine And.intro ?_ ?_)); first | done | fail)) :
    QR P σ ⟨dst, .call { callee := .value f, args := args, argTypes := at_ }, ty, pos, af, g⟩ (mkR us) :=
  fun A fr' L' he _ => Q_callc (by rw [he f (by simp [Op.operands, Call.operands])]; exact hf) hspec (by
    have : args.toList.map (St.ev ⟨fr', L', σ.N⟩) = args.toList.map σ.ev := List.map_congr_left fun x hx => he x (by simp only [Op.operands, Call.operands]; simp; exact .inr (by simpa using hx))
    rw [this]
    exact hargs L') hc

/-! ### arrays -/
theorem VO_l0 {e z bs : Nat} {gg : Bool} [TE P T e] [TI P e gg z bs] (h : VO P A ops rest ⟨(t, .sl i 0) :: fr, L', N⟩ K) (ht : Nat.blt t N = true := by rfl) (hL' : Sn (.own e z 0 []) L i L' := by repeat constructor) :
    VO P A ops (⟨some t, .buildSlice T 0 #[], ty, pos, af, none⟩ :: rest) ⟨fr, L, N⟩ K := VO_slit0 TE.h TI.h ht hL' h
/-- A literal of one element without slices, owned. -/
theorem VO_l1 {e z bs : Nat} {gg : Bool} [TE P T e] [TI P e gg z bs] {zs : List Value} [TZ P e zs] {u : U} {js : List Nat} (h : VO P A ops rest ⟨(t, .sl i 0) :: fr, L', N⟩ K) (hy : OV L ((St.mk fr L N).ev x) u js := by ((repeat constructor); first | done | fail)) (hjs : decide js.Nodup = true := by decide)
    (hz : (Nat.blt 0 z && Nat.blt z 16777216 && zs.length == z) = true := by rfl) (hu : u.sz = z := by rfl) (ht : Nat.blt t N = true := by rfl) (hk1 : KR js L L1 := by repeat constructor) (hL' : Sn (.own e z 0 [u]) L1 i L' := by repeat constructor) :
    VO P A ops (⟨some t, .buildSlice T 1 #[(0, x)], ty, pos, af, none⟩ :: rest) ⟨fr, L, N⟩ K := VR_slit1 hy hjs TE.h TI.h TZ.h hz hu ht hk1 hL' h
/-- A literal of one element, of the call's own (its parts may be shared data). -/
theorem VO_la1 {e z bs : Nat} {gg : Bool} [TE P T e] [TI P e gg z bs] {zs : List Value} [TZ P e zs] {u : U} (h : VO P A ops rest ⟨(t, .sl i 0) :: fr, L', N⟩ K) (hy : VD L ((St.mk fr L N).ev x) u := by ((repeat (first | exact trivial | exact rfl | exact ⟨_, rfl⟩ | refine And.intro ?_ ?_)); first | done | fail))
    (hz : (Nat.blt 0 z && Nat.blt z 16777216 && zs.length == z) = true := by rfl) (hu : u.sz = z := by rfl) (ht : Nat.blt t N = true := by rfl) (hL' : Sn (.arr e z 0 [u]) L i L' := by repeat constructor) :
    VO P A ops (⟨some t, .buildSlice T 1 #[(0, x)], ty, pos, af, none⟩ :: rest) ⟨fr, L, N⟩ K := by
  obtain ⟨hi, hL''⟩ := hL'.spec
  subst hi; subst hL''
  have hT : tyE P T = some e := TE.h
  have he : tyI P e = some (gg, z, bs) := TI.h
  have hZ : tyZ P e = some zs := TZ.h
  simp only [Bool.and_eq_true, Nat.blt_eq, beq_iff_eq] at hz
  refine VO_step rfl (fun S env a w hH hf hN hd => ?_) h
  have hr := VD.r hH hy (Realz.ev hf hH x)
  simp only [SVr] at hr
  obtain ⟨cs, c1, c2⟩ := hr
  have hcells : (a.eval x).cells.toList = cs := by rw [c1]; exact val_cells c2
  have hcl := Rd.length _ _ c2
  rw [hu] at hcl
  obtain ⟨zv, hrz, hzc⟩ := run_zero hZ w
  have hsz : (a.eval x).cells.size = z := by rw [← hcl, ← hcells]; simp
  have hold : ∀ b, b < w.heap.size → (w.alloc (.cells (a.eval x).cells e)).heap[b]? = w.heap[b]? := fun b hb => heap_alloc_old w _ hb
  obtain ⟨hH', C⟩ := hH.new (w' := w.alloc (.cells (a.eval x).cells e)) (.arr e z 0 [u]) (.slice (some ⟨w.heap.size, 0, none⟩) 1 1) (by simp) hold rfl rfl rfl
    (fun b hb => by simp [LO.ft, blk] at hb; subst hb; simp)
    (fun C => ⟨by simp [big_eq], by simpa using hu, cs, ⟨by simp [hcl], .inr ⟨w.heap.size, 1, _, rfl, Nat.zero_le _, heap_alloc_new w _, Nat.le_refl _, by simp [maxLen], by rw [hsz]; simp, by rw [hcells]; rw [List.take_of_length_le (by simp [hcl])]⟩⟩, by
      have := c2.mono C.hS C.hw
      simp only [Rds]
      exact ⟨cs, [], by simp, this, rfl⟩⟩)
  refine ⟨.value (.slice (some ⟨w.heap.size, 0, none⟩) 1 1), _, ?_, .inl ⟨_, rfl, realz_put hf hN hd ht hH' C ?_⟩⟩
  · have hzs : zv.cells.size = z := by rw [← hz.2, ← hzc]; simp
    have hfill : Instr.fill (fun i => some (i * z, z)) ((Array.range (1 * z)).map (zv.cells[· % zv.cells.size]!)) [(0, a.eval x)] = some (a.eval x).cells := by
      rw [run_fill (off := 0) (n := z) (by simp) hsz (by simp)]
      simp only [Instr.fill, Option.some.injEq, List.take_zero, List.nil_append, Nat.zero_add]
      apply Array.ext'
      simp
    have h1 : ¬ z > 2 ^ 24 := by omega
    have h2 : ¬ z = 0 := by omega
    simp only [Nat.one_mul] at hfill
    simp [execOp, Instr.buildSlice, run_underlying (tyE_und hT), run_sizeOf he, hrz, h1, h2, newRow]
    simp only [gt_iff_lt] at h1
    simp [hfill]
  · simp only [SVr]
    exact ⟨.slice (some ⟨w.heap.size, 0, none⟩) 1 1, .arr e z 0 [u], by rw [← hH.len]; simp, by simp, Nat.le_refl _, rfl, fun _ => rfl⟩
/-- Append to an owned array. -/
theorem VO_ap {α : Type} {en : α → U} {es : List α → List U} {z : Nat} [E : Enc α en es z] {l r : List α} (hg : l.length + r.length ≤ 4294967296) {e bs ver : Nat} {gg : Bool} [TE P T e] [TI P e gg z bs] {zs : List Value} [TZ P e zs] {js : List Nat} {T' : TypeId}
    (h : VO P A ops rest ⟨(t, .sl i (ver + 1)) :: fr, L', N⟩ K) (hx : (St.mk fr L N).ev x = .sl i ver := by rfl) (hL : L[i]? = some (.own e z ver (es l)) := by rfl) (hs : SrcO L z ((St.mk fr L N).ev y) (es r) js := by first | exact .own rfl | exact .nil | exact .data (Enc.all _) (eStrs_noSl _) | exact .data (Enc.all _) (eInts_noSl _))
    (hjs : (decide js.Nodup && !js.contains i) = true := by decide) (hz : (Nat.blt 0 z && zs.length == z) = true := by rfl) (hb : Nat.ble bs 32768 = true := by rfl)
    (ht : Nat.blt t N = true := by rfl) (hk1 : KR js L L1 := by repeat constructor) (hL' : St1 (.own e z (ver + 1) (es (l ++ r))) i L1 L' := by repeat constructor) :
    VO P A ops (⟨some t, .call { callee := .builtin .append, args := #[x, y], argTypes := #[T, T] }, T', pos, af, none⟩ :: rest) ⟨fr, L, N⟩ K := by
  have h1 : (es l).length = l.length := Enc.len l
  have h2 : (es r).length = r.length := Enc.len r
  have hb := Nat.le_of_ble_eq_true hb
  rw [Enc.app (es := es)] at hL'
  refine VR_append hx hL hs hjs TE.h TI.h TZ.h hz (by rw [big_eq]; omega) ?_ ht hk1 hL' h
  rw [h1, h2]
  exact Nat.le_trans (Nat.mul_le_mul hg hb) (by decide)

/-! ### an owned array is let go: from here on it is data -/
theorem Realz.freezeO {a : Act} {w : World} {i e z ver : Nat} {es : List U} (hL : σ.L[i]? = some (.own e z ver es)) (h : Realz A σ a w) : Realz A ⟨σ.fr, σ.L.set i (.frz e z ver es), σ.N⟩ a w := by
  obtain ⟨S, env, hH, hf, hN, hd⟩ := h
  have hi := (List.getElem?_eq_some_iff.1 hL).1
  have hie : i < env.length := by rw [hH.len]; exact hi
  obtain ⟨hv, he⟩ : ∃ hv, env[i]? = some hv := ⟨_, List.getElem?_eq_getElem hie⟩
  have hob := hH.objs i _ hv hL he
  let S' : Nat → Prop := fun b => S b ∨ b ∈ (U.sl z es).fp w [hv]
  have hset : ∀ (j : Nat) (o' : LO), (σ.L.set i (.frz e z ver es))[j]? = some o' → (j = i ∧ o' = .frz e z ver es) ∨ (j ≠ i ∧ σ.L[j]? = some o') := by
    intro j o' hj
    by_cases hij : i = j
    · subst hij
      rw [List.getElem?_set_self hi] at hj
      exact .inl ⟨rfl, (Option.some.inj hj).symm⟩
    · rw [List.getElem?_set_ne hij] at hj
      exact .inr ⟨fun e => hij e.symm, hj⟩
  have C : Carry S σ.L env w S' (σ.L.set i (.frz e z ver es)) env w := by
    refine ⟨fun b hb _ => .inl hb, fun _ _ _ => rfl, fun _ _ h => h, fun j hv' o' h1 h2 => ?_⟩
    by_cases hij : i = j
    · subst hij
      rw [hL] at h2
      obtain rfl := Option.some.inj h2
      exact ⟨hv', .frz e z ver es, h1, by rw [List.getElem?_set_self hi], Nat.le_refl _, fun _ => rfl⟩
    · exact ⟨hv', o', h1, by rw [List.getElem?_set_ne hij]; exact h2, Nat.le_refl _, fun _ => rfl⟩
  refine ⟨S', env, ⟨by simp [hH.len], ?_, ?_, ?_, ?_, ?_, hH.frame, hH.size, hH.os, hH.tape, hH.output, hH.base.carry C hH.len (by simp), hH.glob⟩, fun t => SVr.carry C _ _ (hf t), hN, hd⟩
  · intro j o' hv' h1 h2
    rcases hset j o' h1 with ⟨rfl, rfl⟩ | ⟨hj, h3⟩
    · rw [he] at h2
      obtain rfl := Option.some.inj h2
      exact ⟨[hv], rfl, Tr.rd _ _ (own_tr hob) (fun b hb => .inr hb)⟩
    · exact ObjR.carry C (fun _ _ _ => rfl) (hH.objs j o' hv' h3 h2)
  · intro j o' hv' b h1 hl h2 hb
    rcases hset j o' h1 with ⟨rfl, rfl⟩ | ⟨hj, h3⟩
    · cases hl
    · have := hH.excl j o' hv' b h3 hl h2 hb
      refine ⟨fun hs => hs.elim this.1 (fun hs => hj (hH.dist j i o' _ hv' hv b h3 hL hl rfl h2 he hb (show (LO.own e z ver es).ft w hv b from hs))), this.2⟩
  · intro j j' o1 o1' hv1 hv1' k h1 h2 hl1 hl2 e1 e2 b1 b2
    rcases hset j o1 h1 with ⟨rfl, rfl⟩ | ⟨hj, h3⟩
    · cases hl1
    · rcases hset j' o1' h2 with ⟨rfl, rfl⟩ | ⟨hj', h3'⟩
      · cases hl2
      · exact hH.dist j j' o1 o1' hv1 hv1' k h3 h3' hl1 hl2 e1 e2 b1 b2
  · intro b hb
    rcases hb with hb | hb
    · exact hH.sS b hb
    · exact (hH.excl i _ hv b hL rfl he hb).2.2
  · intro b hb
    rcases hb with hb | hb
    · exact hH.sA b hb
    · exact .inr (hH.excl i _ hv b hL rfl he hb).2.1
theorem V_freezeO (i : Nat) {e z ver : Nat} {es : List U} (hL : L[i]? = some (.own e z ver es)) (hL' : L.set i (.frz e z ver es) = L') (h : V P A c ⟨fr, L', N⟩ Q) : V P A c ⟨fr, L, N⟩ Q := by
  subst hL'
  exact fun a w hr => h a w (hr.freezeO (σ := ⟨fr, L, N⟩) hL)
theorem VO_freezeO (i : Nat) {e z ver : Nat} {es : List U} (hL : L[i]? = some (.own e z ver es)) (hL' : L.set i (.frz e z ver es) = L') (h : VO P A ops rest ⟨fr, L', N⟩ K) : VO P A ops rest ⟨fr, L, N⟩ K := by
  subst hL'
  exact fun R hR a w hr => h R hR a w (hr.freezeO (σ := ⟨fr, L, N⟩) hL)

/-! ### how long a list that is held can be -/
theorem V_bd {α : Type} {e : α → U} {es : List α → List U} {z : Nat} [E : Enc α e es z] {l : List α} {z' : Nat} (j : Nat) (h : l.length ≤ 140737488355328 → V P A c ⟨fr, L, N⟩ Q) (hb : look fr j = .d (.sl z' (es l)) := by rfl) : V P A c ⟨fr, L, N⟩ Q := by
  intro a w hr
  refine h ?_ a w hr
  obtain ⟨S, env, hH, hf, hN, hd⟩ := hr
  have := hf j
  simp only at this
  rw [hb] at this
  have := (SVr.slice.1 this).1
  rwa [Enc.len, big_eq] at this
theorem V_bdc {α : Type} {e : α → U} {es : List α → List U} {z : Nat} [E : Enc α e es z] {l : List α} {z' : Nat} {cs : List SV} (i j : Nat) (h : l.length ≤ 140737488355328 → V P A c ⟨fr, L, N⟩ Q) (hL : L[i]? = some (.box cs) := by rfl) (hb : cs[j]? = some (.d (.sl z' (es l))) := by rfl) : V P A c ⟨fr, L, N⟩ Q := by
  intro a w hr
  refine h ?_ a w hr
  obtain ⟨S, env, hH, hf, hN, hd⟩ := hr
  obtain ⟨hv, he⟩ : ∃ hv, env[i]? = some hv := ⟨_, List.getElem?_eq_getElem (by rw [hH.len]; exact (List.getElem?_eq_some_iff.1 hL).1)⟩
  obtain ⟨b, vals, e', r1, r2, r3, r4⟩ := hH.objs i _ hv hL he
  obtain ⟨v, v1, v2⟩ := SVrs.get r3 j _ hb
  have := (SVr.slice.1 v2).1
  rwa [Enc.len, big_eq] at this
theorem V_bdS {l : List UInt8} (j : Nat) (h : l.length ≤ 140737488355328 → V P A c ⟨fr, L, N⟩ Q) (hb : look fr j = .d (.s l) := by rfl) : V P A c ⟨fr, L, N⟩ Q := by
  intro a w hr
  refine h ?_ a w hr
  obtain ⟨S, env, hH, hf, hN, hd⟩ := hr
  have := hf j
  simp only at this
  rw [hb] at this
  have := (SVr.str.1 this).1
  rwa [big_eq] at this
theorem V_bdcS {l : List UInt8} {cs : List SV} (i j : Nat) (h : l.length ≤ 140737488355328 → V P A c ⟨fr, L, N⟩ Q) (hL : L[i]? = some (.box cs) := by rfl) (hb : cs[j]? = some (.d (.s l)) := by rfl) : V P A c ⟨fr, L, N⟩ Q := by
  intro a w hr
  refine h ?_ a w hr
  obtain ⟨S, env, hH, hf, hN, hd⟩ := hr
  obtain ⟨hv, he⟩ : ∃ hv, env[i]? = some hv := ⟨_, List.getElem?_eq_getElem (by rw [hH.len]; exact (List.getElem?_eq_some_iff.1 hL).1)⟩
  obtain ⟨b, vals, e', r1, r2, r3, r4⟩ := hH.objs i _ hv hL he
  obtain ⟨v, v1, v2⟩ := SVrs.get r3 j _ hb
  have := (SVr.str.1 v2).1
  rwa [big_eq] at this
end
/-- On, until something needs help. -/
theorem go {X Y : Prop} (hy : Y) (h : Y → X := by
    intro hy
    repeat (first | refine VO_r QR_len ?_ | refine VO_k Q_leno ?_ | refine VO_pa ?_ | refine VO_pu ?_ | refine VO_d ?_ (by (repeat constructor); first | done | fail) | refine VQ_r QR_len ?_ | refine VQ_d ?_ (by (repeat constructor); first | done | fail) | refine VO_nil ?_ | refine VQ_nil ?_ | refine V_seq_region ?_ | refine V_seqseq ?_ | refine V_seq_draw Mix.h (by kernel_rfl) ?_ | refine V_region ?_ | refine V_draw Mix.h (by kernel_rfl) ?_)
    exact hy) : X := h hy
/-- The like in a region that draws its order and holds more than quiet operations. -/
theorem goY {X Y : Prop} (hy : Y) (h : Y → X := by
    intro hy
    repeat (first | refine VY_r QR_len ?_ | refine VY_d rfl ?_ (by (repeat constructor); first | done | fail) | refine VY_h rfl (by repeat constructor) (by repeat (first | exact PfOk.nil | (apply PfOk.keep; focus ((repeat constructor); done)) | (apply PfOk.dep; focus kernel_rfl))) ?_)
    exact hy) : X := h hy
end Go.Eng
namespace Go.Proofs.Ytopgfacbgbmloaa
open Go Go.Eng
instance ti3 : TI Try.prog 3 false 1 8 := ⟨by kernel_rfl⟩
instance tu3 : TU Try.prog 3 .i64 := ⟨by kernel_rfl⟩
instance tz3 : TZ Try.prog 3 [.int .i64 0] := ⟨by kernel_rfl⟩
instance ti4 : TI Try.prog 4 false 1 1 := ⟨by kernel_rfl⟩
instance tb4 : TB Try.prog 4 := ⟨by kernel_rfl⟩
instance tz4 : TZ Try.prog 4 [.bool false] := ⟨by kernel_rfl⟩
instance ti5 : TI Try.prog 5 false 1 1 := ⟨by kernel_rfl⟩
instance tu5 : TU Try.prog 5 .u8 := ⟨by kernel_rfl⟩
instance tz5 : TZ Try.prog 5 [.int .u8 0] := ⟨by kernel_rfl⟩
instance ti9 : TI Try.prog 9 false 1 16 := ⟨by kernel_rfl⟩
instance tss9 : TS Try.prog 9 := ⟨by kernel_rfl⟩
instance tz9 : TZ Try.prog 9 [.string ⟨#[]⟩] := ⟨by kernel_rfl⟩
instance ti21 : TI Try.prog 21 false 1 4 := ⟨by kernel_rfl⟩
instance tu21 : TU Try.prog 21 .i32 := ⟨by kernel_rfl⟩
instance tz21 : TZ Try.prog 21 [.int .i32 0] := ⟨by kernel_rfl⟩
instance ti22 : TI Try.prog 22 false 1 24 := ⟨by kernel_rfl⟩
instance te22 : TE Try.prog 22 5 := ⟨by kernel_rfl⟩
instance tz22 : TZ Try.prog 22 [.slice none 0 0] := ⟨by kernel_rfl⟩
instance ti24 : TI Try.prog 24 false 1 24 := ⟨by kernel_rfl⟩
instance te24 : TE Try.prog 24 26 := ⟨by kernel_rfl⟩
instance tz24 : TZ Try.prog 24 [.slice none 0 0] := ⟨by kernel_rfl⟩
instance ti26 : TI Try.prog 26 true 3 48 := ⟨by kernel_rfl⟩
instance tf26_0 : TF Try.prog 26 0 0 := ⟨by kernel_rfl⟩
instance tf26_1 : TF Try.prog 26 1 1 := ⟨by kernel_rfl⟩
instance tf26_2 : TF Try.prog 26 2 2 := ⟨by kernel_rfl⟩
instance tbd26 : TBd Try.prog 26 := ⟨by kernel_rfl⟩
instance tfs26_0 : TFS Try.prog 26 0 0 1 := ⟨by kernel_rfl⟩
instance tfs26_1 : TFS Try.prog 26 1 1 1 := ⟨by kernel_rfl⟩
instance tfs26_2 : TFS Try.prog 26 2 2 1 := ⟨by kernel_rfl⟩
instance tz26 : TZ Try.prog 26 [.int .i64 0, .string ⟨#[]⟩, .slice none 0 0] := ⟨by kernel_rfl⟩
instance ti30 : TI Try.prog 30 false 1 24 := ⟨by kernel_rfl⟩
instance te30 : TE Try.prog 30 9 := ⟨by kernel_rfl⟩
instance tz30 : TZ Try.prog 30 [.slice none 0 0] := ⟨by kernel_rfl⟩
instance ti31 : TI Try.prog 31 false 1 24 := ⟨by kernel_rfl⟩
instance te31 : TE Try.prog 31 78 := ⟨by kernel_rfl⟩
instance tz31 : TZ Try.prog 31 [.slice none 0 0] := ⟨by kernel_rfl⟩
instance ti32 : TI Try.prog 32 false 1 24 := ⟨by kernel_rfl⟩
instance te32 : TE Try.prog 32 75 := ⟨by kernel_rfl⟩
instance tz32 : TZ Try.prog 32 [.slice none 0 0] := ⟨by kernel_rfl⟩
instance ti34 : TI Try.prog 34 true 12 192 := ⟨by kernel_rfl⟩
instance tf34_0 : TF Try.prog 34 0 0 := ⟨by kernel_rfl⟩
instance tf34_1 : TF Try.prog 34 1 1 := ⟨by kernel_rfl⟩
instance tf34_2 : TF Try.prog 34 2 2 := ⟨by kernel_rfl⟩
instance tf34_3 : TF Try.prog 34 3 5 := ⟨by kernel_rfl⟩
instance tf34_4 : TF Try.prog 34 4 6 := ⟨by kernel_rfl⟩
instance tf34_5 : TF Try.prog 34 5 7 := ⟨by kernel_rfl⟩
instance tf34_6 : TF Try.prog 34 6 8 := ⟨by kernel_rfl⟩
instance tf34_7 : TF Try.prog 34 7 11 := ⟨by kernel_rfl⟩
instance tbd34 : TBd Try.prog 34 := ⟨by kernel_rfl⟩
instance tfs34_0 : TFS Try.prog 34 0 0 1 := ⟨by kernel_rfl⟩
instance tfs34_1 : TFS Try.prog 34 1 1 1 := ⟨by kernel_rfl⟩
instance tfs34_2 : TFS Try.prog 34 2 2 3 := ⟨by kernel_rfl⟩
instance tfs34_3 : TFS Try.prog 34 3 5 1 := ⟨by kernel_rfl⟩
instance tfs34_4 : TFS Try.prog 34 4 6 1 := ⟨by kernel_rfl⟩
instance tfs34_5 : TFS Try.prog 34 5 7 1 := ⟨by kernel_rfl⟩
instance tfs34_6 : TFS Try.prog 34 6 8 3 := ⟨by kernel_rfl⟩
instance tfs34_7 : TFS Try.prog 34 7 11 1 := ⟨by kernel_rfl⟩
instance tz34 : TZ Try.prog 34 [.string ⟨#[]⟩, .slice none 0 0, .int .i64 0, .string ⟨#[]⟩, .slice none 0 0, .slice none 0 0, .bool false, .bool false, .int .i64 0, .string ⟨#[]⟩, .slice none 0 0, .slice none 0 0] := ⟨by kernel_rfl⟩
instance ti40 : TI Try.prog 40 true 4 64 := ⟨by kernel_rfl⟩
instance tf40_0 : TF Try.prog 40 0 0 := ⟨by kernel_rfl⟩
instance tf40_1 : TF Try.prog 40 1 1 := ⟨by kernel_rfl⟩
instance tbd40 : TBd Try.prog 40 := ⟨by kernel_rfl⟩
instance tfs40_0 : TFS Try.prog 40 0 0 1 := ⟨by kernel_rfl⟩
instance tfs40_1 : TFS Try.prog 40 1 1 3 := ⟨by kernel_rfl⟩
instance tz40 : TZ Try.prog 40 [.string ⟨#[]⟩, .int .i64 0, .string ⟨#[]⟩, .slice none 0 0] := ⟨by kernel_rfl⟩
instance ti41 : TI Try.prog 41 false 1 24 := ⟨by kernel_rfl⟩
instance te41 : TE Try.prog 41 40 := ⟨by kernel_rfl⟩
instance tz41 : TZ Try.prog 41 [.slice none 0 0] := ⟨by kernel_rfl⟩
instance ti47 : TI Try.prog 47 false 1 8 := ⟨by kernel_rfl⟩
instance tz47 : TZ Try.prog 47 [.pointer none] := ⟨by kernel_rfl⟩
instance ti67 : TI Try.prog 67 true 3 40 := ⟨by kernel_rfl⟩
instance tf67_0 : TF Try.prog 67 0 0 := ⟨by kernel_rfl⟩
instance tf67_1 : TF Try.prog 67 1 1 := ⟨by kernel_rfl⟩
instance tf67_2 : TF Try.prog 67 2 2 := ⟨by kernel_rfl⟩
instance tbd67 : TBd Try.prog 67 := ⟨by kernel_rfl⟩
instance tfs67_0 : TFS Try.prog 67 0 0 1 := ⟨by kernel_rfl⟩
instance tfs67_1 : TFS Try.prog 67 1 1 1 := ⟨by kernel_rfl⟩
instance tfs67_2 : TFS Try.prog 67 2 2 1 := ⟨by kernel_rfl⟩
instance tz67 : TZ Try.prog 67 [.slice none 0 0, .int .i64 0, .int .i64 0] := ⟨by kernel_rfl⟩
instance ti69 : TI Try.prog 69 false 1 24 := ⟨by kernel_rfl⟩
instance te69 : TE Try.prog 69 72 := ⟨by kernel_rfl⟩
instance tz69 : TZ Try.prog 69 [.slice none 0 0] := ⟨by kernel_rfl⟩
instance ti70 : TI Try.prog 70 false 1 24 := ⟨by kernel_rfl⟩
instance te70 : TE Try.prog 70 95 := ⟨by kernel_rfl⟩
instance tz70 : TZ Try.prog 70 [.slice none 0 0] := ⟨by kernel_rfl⟩
instance ti72 : TI Try.prog 72 true 9 144 := ⟨by kernel_rfl⟩
instance tf72_0 : TF Try.prog 72 0 0 := ⟨by kernel_rfl⟩
instance tf72_1 : TF Try.prog 72 1 1 := ⟨by kernel_rfl⟩
instance tf72_2 : TF Try.prog 72 2 2 := ⟨by kernel_rfl⟩
instance tf72_3 : TF Try.prog 72 3 3 := ⟨by kernel_rfl⟩
instance tf72_4 : TF Try.prog 72 4 4 := ⟨by kernel_rfl⟩
instance tf72_5 : TF Try.prog 72 5 7 := ⟨by kernel_rfl⟩
instance tf72_6 : TF Try.prog 72 6 8 := ⟨by kernel_rfl⟩
instance tbd72 : TBd Try.prog 72 := ⟨by kernel_rfl⟩
instance tfs72_0 : TFS Try.prog 72 0 0 1 := ⟨by kernel_rfl⟩
instance tfs72_1 : TFS Try.prog 72 1 1 1 := ⟨by kernel_rfl⟩
instance tfs72_2 : TFS Try.prog 72 2 2 1 := ⟨by kernel_rfl⟩
instance tfs72_3 : TFS Try.prog 72 3 3 1 := ⟨by kernel_rfl⟩
instance tfs72_4 : TFS Try.prog 72 4 4 3 := ⟨by kernel_rfl⟩
instance tfs72_5 : TFS Try.prog 72 5 7 1 := ⟨by kernel_rfl⟩
instance tfs72_6 : TFS Try.prog 72 6 8 1 := ⟨by kernel_rfl⟩
instance tz72 : TZ Try.prog 72 [.int .i64 0, .string ⟨#[]⟩, .string ⟨#[]⟩, .int .i64 0, .int .i64 0, .string ⟨#[]⟩, .slice none 0 0, .slice none 0 0, .slice none 0 0] := ⟨by kernel_rfl⟩
instance ti75 : TI Try.prog 75 true 11 184 := ⟨by kernel_rfl⟩
instance tf75_0 : TF Try.prog 75 0 0 := ⟨by kernel_rfl⟩
instance tf75_1 : TF Try.prog 75 1 1 := ⟨by kernel_rfl⟩
instance tf75_2 : TF Try.prog 75 2 2 := ⟨by kernel_rfl⟩
instance tbd75 : TBd Try.prog 75 := ⟨by kernel_rfl⟩
instance tfs75_0 : TFS Try.prog 75 0 0 1 := ⟨by kernel_rfl⟩
instance tfs75_1 : TFS Try.prog 75 1 1 1 := ⟨by kernel_rfl⟩
instance tfs75_2 : TFS Try.prog 75 2 2 9 := ⟨by kernel_rfl⟩
instance tz75 : TZ Try.prog 75 [.string ⟨#[]⟩, .slice none 0 0, .int .i64 0, .string ⟨#[]⟩, .string ⟨#[]⟩, .int .i64 0, .int .i64 0, .string ⟨#[]⟩, .slice none 0 0, .slice none 0 0, .slice none 0 0] := ⟨by kernel_rfl⟩
instance ti78 : TI Try.prog 78 true 4 64 := ⟨by kernel_rfl⟩
instance tf78_0 : TF Try.prog 78 0 0 := ⟨by kernel_rfl⟩
instance tf78_1 : TF Try.prog 78 1 1 := ⟨by kernel_rfl⟩
instance tbd78 : TBd Try.prog 78 := ⟨by kernel_rfl⟩
instance tfs78_0 : TFS Try.prog 78 0 0 1 := ⟨by kernel_rfl⟩
instance tfs78_1 : TFS Try.prog 78 1 1 3 := ⟨by kernel_rfl⟩
instance tz78 : TZ Try.prog 78 [.string ⟨#[]⟩, .int .i64 0, .string ⟨#[]⟩, .slice none 0 0] := ⟨by kernel_rfl⟩
instance ti95 : TI Try.prog 95 true 11 184 := ⟨by kernel_rfl⟩
instance tf95_0 : TF Try.prog 95 0 0 := ⟨by kernel_rfl⟩
instance tf95_1 : TF Try.prog 95 1 1 := ⟨by kernel_rfl⟩
instance tf95_2 : TF Try.prog 95 2 2 := ⟨by kernel_rfl⟩
instance tbd95 : TBd Try.prog 95 := ⟨by kernel_rfl⟩
instance tfs95_0 : TFS Try.prog 95 0 0 1 := ⟨by kernel_rfl⟩
instance tfs95_1 : TFS Try.prog 95 1 1 1 := ⟨by kernel_rfl⟩
instance tfs95_2 : TFS Try.prog 95 2 2 9 := ⟨by kernel_rfl⟩
instance tz95 : TZ Try.prog 95 [.string ⟨#[]⟩, .slice none 0 0, .int .i64 0, .string ⟨#[]⟩, .string ⟨#[]⟩, .int .i64 0, .int .i64 0, .string ⟨#[]⟩, .slice none 0 0, .slice none 0 0, .slice none 0 0] := ⟨by kernel_rfl⟩
instance ti100 : TI Try.prog 100 false 1 24 := ⟨by kernel_rfl⟩
instance te100 : TE Try.prog 100 30 := ⟨by kernel_rfl⟩
instance tz100 : TZ Try.prog 100 [.slice none 0 0] := ⟨by kernel_rfl⟩
instance ti114 : TI Try.prog 114 false 1 4 := ⟨by kernel_rfl⟩
instance tu114 : TU Try.prog 114 .u32 := ⟨by kernel_rfl⟩
instance tz114 : TZ Try.prog 114 [.int .u32 0] := ⟨by kernel_rfl⟩
def tmS : TypeId → Option Sh
  | 3 => some (.int)
  | 4 => some (.bool)
  | 9 => some (.str)
  | 24 => some (.sl (.st 1))
  | 26 => some (.st 1)
  | 30 => some (.sl (.str))
  | 31 => some (.sl (.st 9))
  | 32 => some (.sl (.st 10))
  | 34 => some (.st 11)
  | 40 => some (.st 2)
  | 41 => some (.sl (.st 2))
  | 69 => some (.sl (.st 4))
  | 70 => some (.sl (.st 3))
  | 72 => some (.st 4)
  | 75 => some (.st 10)
  | 78 => some (.st 9)
  | 95 => some (.st 3)
  | 100 => some (.sl (.sl (.str)))
  | _ => none
theorem tmk3 : tmOk Try.prog tmS 3 (.int) := Try.underlying3
theorem tmk4 : tmOk Try.prog tmS 4 (.bool) := Try.underlying4
theorem tmk9 : tmOk Try.prog tmS 9 (.str) := Try.underlying9
theorem tmk24 : tmOk Try.prog tmS 24 (.sl (.st 1)) := ⟨26, Try.underlying24, rfl, by kernel_rfl, by decide, by decide +kernel⟩
theorem tmk26 : tmOk Try.prog tmS 26 (.st 1) := ⟨_, Try.underlying26, by kernel_rfl, And.intro rfl (And.intro rfl (And.intro (by kernel_rfl) (And.intro rfl (And.intro rfl (And.intro (by kernel_rfl) (And.intro rfl (And.intro rfl (And.intro (by kernel_rfl) (trivial)))))))))⟩
theorem tmk30 : tmOk Try.prog tmS 30 (.sl (.str)) := ⟨9, Try.underlying30, rfl, by kernel_rfl, by decide, by decide +kernel⟩
theorem tmk31 : tmOk Try.prog tmS 31 (.sl (.st 9)) := ⟨78, Try.underlying31, rfl, by kernel_rfl, by decide, by decide +kernel⟩
theorem tmk32 : tmOk Try.prog tmS 32 (.sl (.st 10)) := ⟨75, Try.underlying32, rfl, by kernel_rfl, by decide, by decide +kernel⟩
theorem tmk34 : tmOk Try.prog tmS 34 (.st 11) := ⟨_, Try.underlying34, by kernel_rfl, And.intro rfl (And.intro rfl (And.intro (by kernel_rfl) (And.intro rfl (And.intro rfl (And.intro (by kernel_rfl) (And.intro rfl (And.intro rfl (And.intro (by kernel_rfl) (And.intro rfl (And.intro rfl (And.intro (by kernel_rfl) (And.intro rfl (And.intro rfl (And.intro (by kernel_rfl) (And.intro rfl (And.intro rfl (And.intro (by kernel_rfl) (And.intro rfl (And.intro rfl (And.intro (by kernel_rfl) (And.intro rfl (And.intro rfl (And.intro (by kernel_rfl) (trivial))))))))))))))))))))))))⟩
theorem tmk40 : tmOk Try.prog tmS 40 (.st 2) := ⟨_, Try.underlying40, by kernel_rfl, And.intro rfl (And.intro rfl (And.intro (by kernel_rfl) (And.intro rfl (And.intro rfl (And.intro (by kernel_rfl) (trivial))))))⟩
theorem tmk41 : tmOk Try.prog tmS 41 (.sl (.st 2)) := ⟨40, Try.underlying41, rfl, by kernel_rfl, by decide, by decide +kernel⟩
theorem tmk69 : tmOk Try.prog tmS 69 (.sl (.st 4)) := ⟨72, Try.underlying69, rfl, by kernel_rfl, by decide, by decide +kernel⟩
theorem tmk70 : tmOk Try.prog tmS 70 (.sl (.st 3)) := ⟨95, Try.underlying70, rfl, by kernel_rfl, by decide, by decide +kernel⟩
theorem tmk72 : tmOk Try.prog tmS 72 (.st 4) := ⟨_, Try.underlying72, by kernel_rfl, And.intro rfl (And.intro rfl (And.intro (by kernel_rfl) (And.intro rfl (And.intro rfl (And.intro (by kernel_rfl) (And.intro rfl (And.intro rfl (And.intro (by kernel_rfl) (And.intro rfl (And.intro rfl (And.intro (by kernel_rfl) (And.intro rfl (And.intro rfl (And.intro (by kernel_rfl) (And.intro rfl (And.intro rfl (And.intro (by kernel_rfl) (And.intro rfl (And.intro rfl (And.intro (by kernel_rfl) (trivial)))))))))))))))))))))⟩
theorem tmk75 : tmOk Try.prog tmS 75 (.st 10) := ⟨_, Try.underlying75, by kernel_rfl, And.intro rfl (And.intro rfl (And.intro (by kernel_rfl) (And.intro rfl (And.intro rfl (And.intro (by kernel_rfl) (And.intro rfl (And.intro rfl (And.intro (by kernel_rfl) (trivial)))))))))⟩
theorem tmk78 : tmOk Try.prog tmS 78 (.st 9) := ⟨_, Try.underlying78, by kernel_rfl, And.intro rfl (And.intro rfl (And.intro (by kernel_rfl) (And.intro rfl (And.intro rfl (And.intro (by kernel_rfl) (trivial))))))⟩
theorem tmk95 : tmOk Try.prog tmS 95 (.st 3) := ⟨_, Try.underlying95, by kernel_rfl, And.intro rfl (And.intro rfl (And.intro (by kernel_rfl) (And.intro rfl (And.intro rfl (And.intro (by kernel_rfl) (And.intro rfl (And.intro rfl (And.intro (by kernel_rfl) (trivial)))))))))⟩
theorem tmk100 : tmOk Try.prog tmS 100 (.sl (.sl (.str))) := ⟨30, Try.underlying100, rfl, by kernel_rfl, by decide, by decide +kernel⟩
theorem tm_ok : ∀ (T : TypeId) (s : Sh), tmS T = some s → tmOk Try.prog tmS T s := by
  intro T s h
  unfold tmS at h
  split at h
  · cases h; exact tmk3
  · cases h; exact tmk4
  · cases h; exact tmk9
  · cases h; exact tmk24
  · cases h; exact tmk26
  · cases h; exact tmk30
  · cases h; exact tmk31
  · cases h; exact tmk32
  · cases h; exact tmk34
  · cases h; exact tmk40
  · cases h; exact tmk41
  · cases h; exact tmk69
  · cases h; exact tmk70
  · cases h; exact tmk72
  · cases h; exact tmk75
  · cases h; exact tmk78
  · cases h; exact tmk95
  · cases h; exact tmk100
  · cases h
theorem tmix : Try.prog.follows .mixedOrders = true := by kernel_rfl
instance : Mix Try.prog := ⟨tmix⟩
end Go.Proofs.Ytopgfacbgbmloaa
