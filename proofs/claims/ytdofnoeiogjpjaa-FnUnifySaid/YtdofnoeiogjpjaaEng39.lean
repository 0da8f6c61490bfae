/- The engine, part 39: literals of several elements; what a function owns, compact. -/
import Derived.Test.YtdofnoeiogjpjaaEng38
set_option linter.unusedVariables false
set_option linter.unusedSimpArgs false
namespace Go.Eng
open Go Go.RowKit

theorem fill_all {z : Nat} (hz : 0 < z) : ∀ (vs : List Value) (k : Nat) (pre post : List Value), (∀ v ∈ vs, v.cells.size = z) → pre.length = k * z → post.length = vs.length * z →
    Instr.fill (fun i => some (i * z, z)) (pre ++ post).toArray ((vs.zipIdx k).map fun p => (p.2, p.1)) = some (pre ++ vs.flatMap fun v => v.cells.toList).toArray
  | [], k, pre, post, _, _, hp => by
    simp only [List.length_nil, Nat.zero_mul, List.length_eq_zero_iff] at hp
    subst hp
    simp [Instr.fill]
  | v :: vs, k, pre, post, hv, h1, h2 => by
    have hvz := hv v (by simp)
    have hpl : z ≤ post.length := by rw [h2, List.length_cons, Nat.add_mul]; omega
    simp only [List.zipIdx_cons, List.map_cons]
    rw [run_fill (off := k * z) (n := z) rfl hvz (by simp only [List.size_toArray, List.length_append]; omega)]
    have e1 : (pre ++ post).toArray.toList.take (k * z) = pre := by simp [← h1]
    have e2 : (pre ++ post).toArray.toList.drop (k * z + z) = post.drop z := by
      show (pre ++ post).drop (k * z + z) = _
      rw [← h1, List.drop_append, List.drop_eq_nil_of_le (by omega), Nat.add_sub_cancel_left, List.nil_append]
    rw [e1, e2]
    have hcl : v.cells.toList.length = z := by simpa using hvz
    have := fill_all hz vs (k + 1) (pre ++ v.cells.toList) (post.drop z) (fun w hw => hv w (by simp [hw])) (by simp [h1, hvz, Nat.add_mul]) (by simp [h2, Nat.add_mul])
    rw [this]
    simp
/-- Operands seen as data, one by one. -/
inductive VDs (σ : St) : List Operand → List U → Prop
  | nil : VDs σ [] []
  | cons {x : Operand} {l : List Operand} {u : U} {us : List U} (h : VD σ.L (σ.ev x) u) (h2 : VDs σ l us) : VDs σ (x :: l) (u :: us)
theorem VDs.r {A : Amb} {S : Nat → Prop} {env : List Value} {a : Act} {w : World} {σ : St} {z : Nat} (hH : HeapR A S σ.L env w) (hf : ∀ t, SVr S σ.L env w (look σ.fr t) (a.tmps.getD t undef)) {l : List Operand} {us : List U} (h : VDs σ l us) : (∀ u ∈ us, u.sz = z) →
    l.length = us.length ∧ (∀ v ∈ l.map a.eval, v.cells.size = z) ∧ Rds S w us ((l.map a.eval).flatMap fun v => v.cells.toList) := by
  induction h with
  | nil => intro _; exact ⟨rfl, by simp, rfl⟩
  | @cons x l u us h h2 ih =>
    intro hz
    obtain ⟨k1, k2, k3⟩ := ih (fun u hu => hz u (by simp [hu]))
    have hr := VD.r hH h (Realz.ev hf hH x)
    simp only [SVr] at hr
    obtain ⟨cs, c1, c2⟩ := hr
    have hcells : (a.eval x).cells.toList = cs := by rw [c1]; exact val_cells c2
    have hcl := Rd.length _ _ c2
    rw [hz u (by simp)] at hcl
    refine ⟨by simp [k1], ?_, ?_⟩
    · intro v hv
      simp only [List.map_cons, List.mem_cons] at hv
      rcases hv with rfl | hv
      · rw [← hcl, ← hcells]; simp
      · exact k2 v hv
    · simp only [List.map_cons, List.flatMap_cons, Rds]
      exact ⟨cs, _, by rw [hcells], c2, k3⟩
section
variable {P : Program} {A : Amb} {ops : Array Oper} {K : St → Prop} {Q : Exit → St → Prop} {rest : List Oper} {σ : St} {fr : List (Nat × SV)} {L L1 L' : List LO} {N i t : Nat} {sv : SV} {o : Oper} {c : Code}
variable {ty T : TypeId} {pos : String} {af : Array Edge} {x y : Operand} {g : Option (Nat × Bool)} {dst : Option Nat} {op : Op}
theorem slit_run {e z bs : Nat} {gg : Bool} {zs : List Value} {a : Act} {w : World} {n : Nat} {ps : Array (Nat × Operand)} {l : List Operand} (hT : tyE P T = some e) (he : tyI P e = some (gg, z, bs)) (hZ : tyZ P e = some zs) (hz : (Nat.blt 0 z && Nat.ble (n * z) 16777216 && zs.length == z) = true)
    (hn : l.length = n) (h0 : 0 < n) (hps : ps.toList = (l.zipIdx 0).map fun p => (p.2, p.1)) (hv : ∀ v ∈ l.map a.eval, v.cells.size = z) :
    (execOp a.eval ⟨dst, .buildSlice T n ps, ty, pos, af, g⟩).run P w = .ok (.value (.slice (some ⟨w.heap.size, 0, none⟩) n n)) (w.alloc (.cells ((l.map a.eval).flatMap fun v => v.cells.toList).toArray e)) := by
  simp only [Bool.and_eq_true, Nat.blt_eq, beq_iff_eq] at hz
  obtain ⟨⟨hz0, hz1⟩, hz2⟩ := hz
  have hz1 := Nat.le_of_ble_eq_true hz1
  obtain ⟨zv, hrz, hzc⟩ := run_zero hZ w
  have hzs : zv.cells.size = z := by rw [← hz2, ← hzc]; simp
  have hpar : (ps.map fun p => (p.1, a.eval p.2)).toList = ((l.map a.eval).zipIdx 0).map fun p => (p.2, p.1) := by
    rw [Array.toList_map, hps, List.zipIdx_map, List.map_map, List.map_map]
    rfl
  have hfill := fill_all hz0 (l.map a.eval) 0 [] ((List.range (n * z)).map (zv.cells[· % zv.cells.size]!)) hv (by simp) (by simp [hn])
  simp only [List.nil_append] at hfill
  have hne : ¬ n * z = 0 := by
    have := Nat.mul_pos h0 hz0
    omega
  have harr : (Array.range (n * z)).map (zv.cells[· % zv.cells.size]!) = ((List.range (n * z)).map (zv.cells[· % zv.cells.size]!)).toArray := by
    apply Array.ext'
    simp
  have h2 : ¬ n * z > 2 ^ 24 := by omega
  simp only [execOp, Instr.buildSlice, Sem.run_bind, run_underlying (tyE_und hT), Result.andThen_ok, run_sizeOf he, h2, if_false, hne, hrz, Sem.run_pure, harr, hpar, hfill, newRow]
  simp
/-- A literal of several elements, of the call's own (its parts may be shared data). -/
theorem VO_la {e z bs n : Nat} {gg : Bool} [TE P T e] [TI P e gg z bs] {zs : List Value} [TZ P e zs] {us : List U} {ps : Array (Nat × Operand)} {l : List Operand} (h : VO P A ops rest ⟨(t, .sl i 0) :: fr, L', N⟩ K) (hps : ps.toList = (l.zipIdx 0).map fun p => (p.2, p.1) := by rfl)
    (hy : VDs ⟨fr, L, N⟩ l us := by (repeat (first | exact .nil | refine .cons (by ((repeat (first | exact trivial | exact rfl | exact ⟨_, rfl⟩ | refine And.intro ?_ ?_)); first | done | fail)) ?_))) (hu : (us.all fun u => u.sz == z) = true := by rfl) (hn : (l.length == n && Nat.blt 0 n) = true := by rfl)
    (hz : (Nat.blt 0 z && Nat.ble (n * z) 16777216 && zs.length == z) = true := by rfl) (ht : Nat.blt t N = true := by rfl) (hL' : Sn (.arr e z 0 us) L i L' := by repeat constructor) :
    VO P A ops (⟨some t, .buildSlice T n ps, ty, pos, af, none⟩ :: rest) ⟨fr, L, N⟩ K := by
  obtain ⟨hi, hL''⟩ := hL'.spec
  subst hi; subst hL''
  simp only [Bool.and_eq_true, beq_iff_eq, Nat.blt_eq] at hn
  have hsz : ∀ u ∈ us, u.sz = z := by simpa using hu
  refine VO_step rfl (fun S env a w hH hf hN hd => ?_) h
  obtain ⟨k1, k2, k3⟩ := VDs.r hH hf hy hsz
  have hlen := Rds.length _ _ k3
  have hszs : U.szs us = us.length * z := by
    have : ∀ (us : List U), (∀ u ∈ us, u.sz = z) → U.szs us = us.length * z := by
      intro us
      induction us with
      | nil => intro _; simp [U.szs]
      | cons u us ih => intro h; simp only [U.szs, List.length_cons, Nat.add_mul]; rw [h u (by simp), ih (fun v hv => h v (by simp [hv]))]; omega
    exact this us hsz
  have hbig : us.length ≤ 16777216 := by
    simp only [Bool.and_eq_true, Nat.blt_eq] at hz
    have h1 := Nat.le_of_ble_eq_true hz.1.2
    have h2 : n * 1 ≤ n * z := Nat.mul_le_mul_left n hz.1.1
    omega
  have hold : ∀ b, b < w.heap.size → (w.alloc (.cells ((l.map a.eval).flatMap fun v => v.cells.toList).toArray e)).heap[b]? = w.heap[b]? := fun b hb => heap_alloc_old w _ hb
  obtain ⟨hH', C⟩ := hH.new (w' := w.alloc (.cells ((l.map a.eval).flatMap fun v => v.cells.toList).toArray e)) (.arr e z 0 us) (.slice (some ⟨w.heap.size, 0, none⟩) n n) (by simp) hold rfl rfl rfl
    (fun b hb => by simp [LO.ft, blk] at hb; subst hb; simp)
    (fun C => ⟨by rw [big_eq]; omega, hsz, _, ⟨by rw [hlen, hszs], .inr ⟨w.heap.size, n, _, by rw [← k1, hn.1], Nat.zero_le _, heap_alloc_new w _, by omega, by simp [maxLen]; omega, by simp only [List.size_toArray]; rw [hlen, hszs, ← k1, hn.1], by
      rw [List.take_of_length_le]
      simp only [hlen, hszs, Nat.le_refl]⟩⟩, Rds.mono C.hS C.hw _ _ k3⟩)
  refine ⟨.value (.slice (some ⟨w.heap.size, 0, none⟩) n n), _, slit_run TE.h TI.h TZ.h hz hn.1 hn.2 hps k2, .inl ⟨_, rfl, realz_put hf hN hd ht hH' C ?_⟩⟩
  simp only [SVr]
  exact ⟨.slice (some ⟨w.heap.size, 0, none⟩) n n, .arr e z 0 us, by rw [← hH.len]; simp, by simp, Nat.le_refl _, rfl, fun _ => rfl⟩
/-- The greater of two integers. -/
theorem QR_max {T' ty' : TypeId} {k : IntKind} {m n : Int} (hx : σ.ev x = .d (.i k m) := by rfl) (hy : σ.ev y = .d (.i k n) := by rfl) : QR P σ ⟨dst, .call { callee := .builtin .max, args := #[x, y], argTypes := #[T, T'] }, ty', pos, af, g⟩ (.d (.i k (if m < n then n else m))) :=
  fun A fr' L' he _ => Quiet.pure fun S env a w hH ho => by
    have h1 := ho x (by simp [Op.operands, Call.operands])
    have h2 := ho y (by simp [Op.operands, Call.operands])
    rw [he x (by simp [Op.operands, Call.operands]), hx] at h1
    rw [he y (by simp [Op.operands, Call.operands]), hy] at h2
    have h1 := SVr.int.1 h1
    have h2 := SVr.int.1 h2
    refine ⟨.int k (if m < n then n else m), ?_, SVr.int.2 rfl⟩
    by_cases hmn : m < n <;> simp [execOp, resolve, invoke, builtin, h1, h2, Builtin.max_, Builtin.max2, hmn]
end
end Go.Eng
