/- What the program says of its types. Written by a program of mine. -/
import Derived.Test.YtiaghdodeinecaaProg
import Derived.Test.YtiaghdodeinecaaEng37
namespace Go.Proofs.Ytiaghdodeinecaa
open Go Go.Eng
instance ti3 : TI Try.prog 3 false 1 8 := ⟨by kernel_rfl⟩
instance tz3 : TZ Try.prog 3 [.int .i64 0] := ⟨by kernel_rfl⟩
instance ti4 : TI Try.prog 4 false 1 1 := ⟨by kernel_rfl⟩
instance tb4 : TB Try.prog 4 := ⟨by kernel_rfl⟩
instance ti5 : TI Try.prog 5 false 1 1 := ⟨by kernel_rfl⟩
instance ti9 : TI Try.prog 9 false 1 16 := ⟨by kernel_rfl⟩
instance tz9 : TZ Try.prog 9 [.string ⟨#[]⟩] := ⟨by kernel_rfl⟩
instance ti22 : TI Try.prog 22 false 1 24 := ⟨by kernel_rfl⟩
instance te22 : TE Try.prog 22 5 := ⟨by kernel_rfl⟩
instance ti24 : TI Try.prog 24 false 1 24 := ⟨by kernel_rfl⟩
instance te24 : TE Try.prog 24 9 := ⟨by kernel_rfl⟩
instance tz24 : TZ Try.prog 24 [.slice none 0 0] := ⟨by kernel_rfl⟩
instance ti25 : TI Try.prog 25 false 1 24 := ⟨by kernel_rfl⟩
instance te25 : TE Try.prog 25 27 := ⟨by kernel_rfl⟩
instance ti27 : TI Try.prog 27 true 3 48 := ⟨by kernel_rfl⟩
instance tf27_0 : TF Try.prog 27 0 0 := ⟨by kernel_rfl⟩
instance tf27_1 : TF Try.prog 27 1 1 := ⟨by kernel_rfl⟩
instance tf27_2 : TF Try.prog 27 2 2 := ⟨by kernel_rfl⟩
instance tbd27 : TBd Try.prog 27 := ⟨by kernel_rfl⟩
instance tfs27_0 : TFS Try.prog 27 0 0 1 := ⟨by kernel_rfl⟩
instance tfs27_1 : TFS Try.prog 27 1 1 1 := ⟨by kernel_rfl⟩
instance tfs27_2 : TFS Try.prog 27 2 2 1 := ⟨by kernel_rfl⟩
instance tz27 : TZ Try.prog 27 [.int .i64 0, .string ⟨#[]⟩, .slice none 0 0] := ⟨by kernel_rfl⟩
instance ti28 : TI Try.prog 28 false 1 24 := ⟨by kernel_rfl⟩
instance te28 : TE Try.prog 28 69 := ⟨by kernel_rfl⟩
instance ti29 : TI Try.prog 29 false 1 24 := ⟨by kernel_rfl⟩
instance te29 : TE Try.prog 29 65 := ⟨by kernel_rfl⟩
instance ti31 : TI Try.prog 31 true 12 192 := ⟨by kernel_rfl⟩
instance tf31_0 : TF Try.prog 31 0 0 := ⟨by kernel_rfl⟩
instance tf31_1 : TF Try.prog 31 1 1 := ⟨by kernel_rfl⟩
instance tf31_2 : TF Try.prog 31 2 2 := ⟨by kernel_rfl⟩
instance tf31_3 : TF Try.prog 31 3 5 := ⟨by kernel_rfl⟩
instance tf31_4 : TF Try.prog 31 4 6 := ⟨by kernel_rfl⟩
instance tf31_5 : TF Try.prog 31 5 7 := ⟨by kernel_rfl⟩
instance tf31_6 : TF Try.prog 31 6 8 := ⟨by kernel_rfl⟩
instance tf31_7 : TF Try.prog 31 7 11 := ⟨by kernel_rfl⟩
instance tbd31 : TBd Try.prog 31 := ⟨by kernel_rfl⟩
instance tfs31_0 : TFS Try.prog 31 0 0 1 := ⟨by kernel_rfl⟩
instance tfs31_7 : TFS Try.prog 31 7 11 1 := ⟨by kernel_rfl⟩
instance tz31 : TZ Try.prog 31 [.string ⟨#[]⟩, .slice none 0 0, .int .i64 0, .string ⟨#[]⟩, .slice none 0 0, .slice none 0 0, .bool false, .bool false, .int .i64 0, .string ⟨#[]⟩, .slice none 0 0, .slice none 0 0] := ⟨by kernel_rfl⟩
instance ti37 : TI Try.prog 37 true 4 64 := ⟨by kernel_rfl⟩
instance tf37_0 : TF Try.prog 37 0 0 := ⟨by kernel_rfl⟩
instance tf37_1 : TF Try.prog 37 1 1 := ⟨by kernel_rfl⟩
instance tbd37 : TBd Try.prog 37 := ⟨by kernel_rfl⟩
instance tfs37_0 : TFS Try.prog 37 0 0 1 := ⟨by kernel_rfl⟩
instance tfs37_1 : TFS Try.prog 37 1 1 3 := ⟨by kernel_rfl⟩
instance tz37 : TZ Try.prog 37 [.string ⟨#[]⟩, .int .i64 0, .string ⟨#[]⟩, .slice none 0 0] := ⟨by kernel_rfl⟩
instance te38 : TE Try.prog 38 37 := ⟨by kernel_rfl⟩
instance tf56_0 : TF Try.prog 56 0 0 := ⟨by kernel_rfl⟩
instance tf56_1 : TF Try.prog 56 1 1 := ⟨by kernel_rfl⟩
instance tf56_2 : TF Try.prog 56 2 2 := ⟨by kernel_rfl⟩
instance tbd56 : TBd Try.prog 56 := ⟨by kernel_rfl⟩
instance tfs56_0 : TFS Try.prog 56 0 0 1 := ⟨by kernel_rfl⟩
instance tfs56_2 : TFS Try.prog 56 2 2 1 := ⟨by kernel_rfl⟩
instance tz56 : TZ Try.prog 56 [.slice none 0 0, .int .i64 0, .int .i64 0] := ⟨by kernel_rfl⟩
instance te58 : TE Try.prog 58 61 := ⟨by kernel_rfl⟩
instance te59 : TE Try.prog 59 86 := ⟨by kernel_rfl⟩
instance ti61 : TI Try.prog 61 true 9 144 := ⟨by kernel_rfl⟩
instance tbd61 : TBd Try.prog 61 := ⟨by kernel_rfl⟩
instance tfs61_0 : TFS Try.prog 61 0 0 1 := ⟨by kernel_rfl⟩
instance tfs61_1 : TFS Try.prog 61 1 1 1 := ⟨by kernel_rfl⟩
instance tfs61_2 : TFS Try.prog 61 2 2 1 := ⟨by kernel_rfl⟩
instance tfs61_3 : TFS Try.prog 61 3 3 1 := ⟨by kernel_rfl⟩
instance tfs61_4 : TFS Try.prog 61 4 4 3 := ⟨by kernel_rfl⟩
instance tfs61_5 : TFS Try.prog 61 5 7 1 := ⟨by kernel_rfl⟩
instance tfs61_6 : TFS Try.prog 61 6 8 1 := ⟨by kernel_rfl⟩
instance tz61 : TZ Try.prog 61 [.int .i64 0, .string ⟨#[]⟩, .string ⟨#[]⟩, .int .i64 0, .int .i64 0, .string ⟨#[]⟩, .slice none 0 0, .slice none 0 0, .slice none 0 0] := ⟨by kernel_rfl⟩
instance ti65 : TI Try.prog 65 true 11 184 := ⟨by kernel_rfl⟩
instance tf65_1 : TF Try.prog 65 1 1 := ⟨by kernel_rfl⟩
instance tf65_2 : TF Try.prog 65 2 2 := ⟨by kernel_rfl⟩
instance tbd65 : TBd Try.prog 65 := ⟨by kernel_rfl⟩
instance tfs65_0 : TFS Try.prog 65 0 0 1 := ⟨by kernel_rfl⟩
instance tfs65_1 : TFS Try.prog 65 1 1 1 := ⟨by kernel_rfl⟩
instance tfs65_2 : TFS Try.prog 65 2 2 9 := ⟨by kernel_rfl⟩
instance tz65 : TZ Try.prog 65 [.string ⟨#[]⟩, .slice none 0 0, .int .i64 0, .string ⟨#[]⟩, .string ⟨#[]⟩, .int .i64 0, .int .i64 0, .string ⟨#[]⟩, .slice none 0 0, .slice none 0 0, .slice none 0 0] := ⟨by kernel_rfl⟩
instance ti69 : TI Try.prog 69 true 4 64 := ⟨by kernel_rfl⟩
instance tbd69 : TBd Try.prog 69 := ⟨by kernel_rfl⟩
instance tfs69_0 : TFS Try.prog 69 0 0 1 := ⟨by kernel_rfl⟩
instance tfs69_1 : TFS Try.prog 69 1 1 3 := ⟨by kernel_rfl⟩
instance tz69 : TZ Try.prog 69 [.string ⟨#[]⟩, .int .i64 0, .string ⟨#[]⟩, .slice none 0 0] := ⟨by kernel_rfl⟩
instance ti86 : TI Try.prog 86 true 11 184 := ⟨by kernel_rfl⟩
instance tbd86 : TBd Try.prog 86 := ⟨by kernel_rfl⟩
instance tfs86_0 : TFS Try.prog 86 0 0 1 := ⟨by kernel_rfl⟩
instance tfs86_1 : TFS Try.prog 86 1 1 1 := ⟨by kernel_rfl⟩
instance tfs86_2 : TFS Try.prog 86 2 2 9 := ⟨by kernel_rfl⟩
instance tz86 : TZ Try.prog 86 [.string ⟨#[]⟩, .slice none 0 0, .int .i64 0, .string ⟨#[]⟩, .string ⟨#[]⟩, .int .i64 0, .int .i64 0, .string ⟨#[]⟩, .slice none 0 0, .slice none 0 0, .slice none 0 0] := ⟨by kernel_rfl⟩
instance te101 : TE Try.prog 101 24 := ⟨by kernel_rfl⟩
theorem tmix : Try.prog.follows .mixedOrders = true := by kernel_rfl
instance : Mix Try.prog := ⟨tmix⟩
end Go.Proofs.Ytiaghdodeinecaa
set_option linter.unusedVariables false
set_option linter.unusedSimpArgs false
namespace Go.Eng
open Go Go.RowKit
end Go.Eng
set_option linter.unusedVariables false
set_option linter.unusedSimpArgs false
namespace Go.Eng
open Go Go.RowKit
theorem fill_all {z : Nat} (hz : 0 < z) : ∀ (vs : List Value) (k : Nat) (pre post : List Value), (∀ v ∈ vs, v.cells.size = z) → pre.length = k * z → post.length = vs.length * z →
    Instr.fill (fun i => some (i * z, z)) (pre ++ post).toArray ((vs.zipIdx k).map fun p => (p.2, p.1)) = some (pre ++ vs.flatMap fun v => v.cells.toList).toArray
  | [], k, pre, post, _, _, hp => by
    simp only [List.length_nil, Nat.zero_mul, List.length_eq_zero_iff] at hp
    subst hp
    simp [Instr.fill]
  | v :: vs, k, pre, post, hv, h1, h2 => by
    have hvz := hv v (by simp)
    have hpl : z ≤ post.length := by rw [h2, List.length_cons, Nat.add_mul]; omega
    simp only [List.zipIdx_cons, List.map_cons]
    rw [run_fill (off := k * z) (n := z) rfl hvz (by simp only [List.size_toArray, List.length_append]; omega)]
    have e1 : (pre ++ post).toArray.toList.take (k * z) = pre := by simp [← h1]
    have e2 : (pre ++ post).toArray.toList.drop (k * z + z) = post.drop z := by
      show (pre ++ post).drop (k * z + z) = _
      rw [← h1, List.drop_append, List.drop_eq_nil_of_le (by omega), Nat.add_sub_cancel_left, List.nil_append]
    rw [e1, e2]
    have hcl : v.cells.toList.length = z := by simpa using hvz
    have := fill_all hz vs (k + 1) (pre ++ v.cells.toList) (post.drop z) (fun w hw => hv w (by simp [hw])) (by simp [h1, hvz, Nat.add_mul]) (by simp [h2, Nat.add_mul])
    rw [this]
    simp
/-- Operands seen as data, one by one. -/
inductive VDs (σ : St) : List Operand → List U → Prop
  | nil : VDs σ [] []
  | cons {x : Operand} {l : List Operand} {u : U} {us : List U} (h : VD σ.L (σ.ev x) u) (h2 : VDs σ l us) : VDs σ (x :: l) (u :: us)
theorem VDs.r {A : Amb} {S : Nat → Prop} {env : List Value} {a : Act} {w : World} {σ : St} {z : Nat} (hH : HeapR A S σ.L env w) (hf : ∀ t, SVr S σ.L env w (look σ.fr t) (a.tmps.getD t undef)) {l : List Operand} {us : List U} (h : VDs σ l us) : (∀ u ∈ us, u.sz = z) →
    l.length = us.length ∧ (∀ v ∈ l.map a.eval, v.cells.size = z) ∧ Rds S w us ((l.map a.eval).flatMap fun v => v.cells.toList) := by
  induction h with
  | nil => intro _; exact ⟨rfl, by simp, rfl⟩
  | @cons x l u us h h2 ih =>
    intro hz
    obtain ⟨k1, k2, k3⟩ := ih (fun u hu => hz u (by simp [hu]))
    have hr := VD.r hH h (Realz.ev hf hH x)
    simp only [SVr] at hr
    obtain ⟨cs, c1, c2⟩ := hr
    have hcells : (a.eval x).cells.toList = cs := by rw [c1]; exact val_cells c2
    have hcl := Rd.length _ _ c2
    rw [hz u (by simp)] at hcl
    refine ⟨by simp [k1], ?_, ?_⟩
    · intro v hv
      simp only [List.map_cons, List.mem_cons] at hv
      rcases hv with rfl | hv
      · rw [← hcl, ← hcells]; simp
      · exact k2 v hv
    · simp only [List.map_cons, List.flatMap_cons, Rds]
      exact ⟨cs, _, by rw [hcells], c2, k3⟩
section
variable {P : Program} {A : Amb} {ops : Array Oper} {K : St → Prop} {Q : Exit → St → Prop} {rest : List Oper} {σ : St} {fr : List (Nat × SV)} {L L1 L' : List LO} {N i t : Nat} {sv : SV} {o : Oper} {c : Code}
variable {ty T : TypeId} {pos : String} {af : Array Edge} {x y : Operand} {g : Option (Nat × Bool)} {dst : Option Nat} {op : Op}
theorem slit_run {e z bs : Nat} {gg : Bool} {zs : List Value} {a : Act} {w : World} {n : Nat} {ps : Array (Nat × Operand)} {l : List Operand} (hT : tyE P T = some e) (he : tyI P e = some (gg, z, bs)) (hZ : tyZ P e = some zs) (hz : (Nat.blt 0 z && Nat.ble (n * z) 16777216 && zs.length == z) = true)
    (hn : l.length = n) (h0 : 0 < n) (hps : ps.toList = (l.zipIdx 0).map fun p => (p.2, p.1)) (hv : ∀ v ∈ l.map a.eval, v.cells.size = z) :
    (execOp a.eval ⟨dst, .buildSlice T n ps, ty, pos, af, g⟩).run P w = .ok (.value (.slice (some ⟨w.heap.size, 0, none⟩) n n)) (w.alloc (.cells ((l.map a.eval).flatMap fun v => v.cells.toList).toArray e)) := by
  simp only [Bool.and_eq_true, Nat.blt_eq, beq_iff_eq] at hz
  obtain ⟨⟨hz0, hz1⟩, hz2⟩ := hz
  have hz1 := Nat.le_of_ble_eq_true hz1
  obtain ⟨zv, hrz, hzc⟩ := run_zero hZ w
  have hzs : zv.cells.size = z := by rw [← hz2, ← hzc]; simp
  have hpar : (ps.map fun p => (p.1, a.eval p.2)).toList = ((l.map a.eval).zipIdx 0).map fun p => (p.2, p.1) := by
    rw [Array.toList_map, hps, List.zipIdx_map, List.map_map, List.map_map]
    rfl
  have hfill := fill_all hz0 (l.map a.eval) 0 [] ((List.range (n * z)).map (zv.cells[· % zv.cells.size]!)) hv (by simp) (by simp [hn])
  simp only [List.nil_append] at hfill
  have hne : ¬ n * z = 0 := by
    have := Nat.mul_pos h0 hz0
    omega
  have harr : (Array.range (n * z)).map (zv.cells[· % zv.cells.size]!) = ((List.range (n * z)).map (zv.cells[· % zv.cells.size]!)).toArray := by
    apply Array.ext'
    simp
  have h2 : ¬ n * z > 2 ^ 24 := by omega
  simp only [execOp, Instr.buildSlice, Sem.run_bind, run_underlying (tyE_und hT), Result.andThen_ok, run_sizeOf he, h2, if_false, hne, hrz, Sem.run_pure, harr, hpar, hfill, newRow]
  simp
/-- A literal of several elements, of the call's own (its parts may be shared data). -/
theorem VO_la {e z bs n : Nat} {gg : Bool} [TE P T e] [TI P e gg z bs] {zs : List Value} [TZ P e zs] {us : List U} {ps : Array (Nat × Operand)} {l : List Operand} (h : VO P A ops rest ⟨(t, .sl i 0) :: fr, L', N⟩ K) (hps : ps.toList = (l.zipIdx 0).map fun p => (p.2, p.1) := by rfl)
    (hy : VDs ⟨fr, L, N⟩ l us := by (repeat (first | exact .nil | refine .cons (by ((repeat (first | exact trivial | exact rfl | exact ⟨_, rfl⟩ | refine And.intro ?_ ?_)); first | done | fail)) ?_))) (hu : (us.all fun u => u.sz == z) = true := by rfl) (hn : (l.length == n && Nat.blt 0 n) = true := by rfl)
    (hz : (Nat.blt 0 z && Nat.ble (n * z) 16777216 && zs.length == z) = true := by rfl) (ht : Nat.blt t N = true := by rfl) (hL' : Sn (.arr e z 0 us) L i L' := by repeat constructor) :
    VO P A ops (⟨some t, .buildSlice T n ps, ty, pos, af, none⟩ :: rest) ⟨fr, L, N⟩ K := by
  obtain ⟨hi, hL''⟩ := hL'.spec
  subst hi; subst hL''
  simp only [Bool.and_eq_true, beq_iff_eq, Nat.blt_eq] at hn
  have hsz : ∀ u ∈ us, u.sz = z := by simpa using hu
  refine VO_step rfl (fun S env a w hH hf hN hd => ?_) h
  obtain ⟨k1, k2, k3⟩ := VDs.r hH hf hy hsz
  have hlen := Rds.length _ _ k3
  have hszs : U.szs us = us.length * z := by
    have : ∀ (us : List U), (∀ u ∈ us, u.sz = z) → U.szs us = us.length * z := by
      intro us
      induction us with
      | nil => intro _; simp [U.szs]
      | cons u us ih => intro h; simp only [U.szs, List.length_cons, Nat.add_mul]; rw [h u (by simp), ih (fun v hv => h v (by simp [hv]))]; omega
    exact this us hsz
  have hbig : us.length ≤ 16777216 := by
    simp only [Bool.and_eq_true, Nat.blt_eq] at hz
    have h1 := Nat.le_of_ble_eq_true hz.1.2
    have h2 : n * 1 ≤ n * z := Nat.mul_le_mul_left n hz.1.1
    omega
  have hold : ∀ b, b < w.heap.size → (w.alloc (.cells ((l.map a.eval).flatMap fun v => v.cells.toList).toArray e)).heap[b]? = w.heap[b]? := fun b hb => heap_alloc_old w _ hb
  obtain ⟨hH', C⟩ := hH.new (w' := w.alloc (.cells ((l.map a.eval).flatMap fun v => v.cells.toList).toArray e)) (.arr e z 0 us) (.slice (some ⟨w.heap.size, 0, none⟩) n n) (by simp) hold rfl rfl rfl
    (fun b hb => by simp [LO.ft, blk] at hb; subst hb; simp)
    (fun C => ⟨by rw [big_eq]; omega, hsz, _, ⟨by rw [hlen, hszs], .inr ⟨w.heap.size, n, _, by rw [← k1, hn.1], Nat.zero_le _, heap_alloc_new w _, by omega, by simp [maxLen]; omega, by simp only [List.size_toArray]; rw [hlen, hszs, ← k1, hn.1], by
      rw [List.take_of_length_le]
      simp only [hlen, hszs, Nat.le_refl]⟩⟩, Rds.mono C.hS C.hw _ _ k3⟩)
  refine ⟨.value (.slice (some ⟨w.heap.size, 0, none⟩) n n), _, slit_run TE.h TI.h TZ.h hz hn.1 hn.2 hps k2, .inl ⟨_, rfl, realz_put hf hN hd ht hH' C ?_⟩⟩
  simp only [SVr]
  exact ⟨.slice (some ⟨w.heap.size, 0, none⟩) n n, .arr e z 0 us, by rw [← hH.len]; simp, by simp, Nat.le_refl _, rfl, fun _ => rfl⟩
end
end Go.Eng
set_option linter.unusedVariables false
set_option linter.unusedSimpArgs false
namespace Go.Eng
open Go Go.RowKit
section
variable {P : Program} {A : Amb} {ops : Array Oper} {K : St → Prop} {Q : Exit → St → Prop} {rest : List Oper} {σ : St} {fr : List (Nat × SV)} {L L1 L' news : List LO} {N i t n : Nat} {sv : SV} {o : Oper} {c : Code}
variable {ty T : TypeId} {pos : String} {af : Array Edge} {x y : Operand} {g : Option (Nat × Bool)} {dst : Option Nat} {op : Op} {r : List (Nat × Bool)} {pf : PF} {j : Nat}
/-- A call whose result is owned. -/
theorem VO_co {f : Operand} {fi : Nat} {args : Array Operand} {at_ : Array TypeId} {dargs : List SV} {es : List TypeId} {us : List U} (hspec : SpecO P fi dargs es us) (h : VO P A ops rest ⟨(t, sv) :: fr, L', N⟩ K) (hf : (St.mk fr L N).ev f = .fn fi [] := by rfl)
    (hargs : WCs L (args.toList.map (St.mk fr L N).ev) dargs := by ((repeat (first | exact trivial | exact rfl | exact ⟨_, rfl⟩ | refine And.intro ?_ ?_)); first | done | fail)) (hn : Ln L n := by repeat constructor) (hy : OYr n es us sv news := by ((repeat constructor); first | done | fail)) (hj : Jn L news L' := by repeat constructor) (ht : Nat.blt t N = true := by rfl) :
    VO P A ops (⟨some t, .call { callee := .value f, args := args, argTypes := at_ }, ty, pos, af, none⟩ :: rest) ⟨fr, L, N⟩ K := VO_callO hf hspec hargs hn hy hj ht h
theorem VY_co {f : Operand} {fi : Nat} {args : Array Operand} {at_ : Array TypeId} {dargs : List SV} {es : List TypeId} {us : List U} (hspec : SpecO P fi dargs es us) (h : VY P A ops K r pf ⟨(t, sv) :: fr, L', N⟩)
    (hi : ops[i]? = some ⟨some t, .call { callee := .value f, args := args, argTypes := at_ }, ty, pos, af, none⟩ := by rfl) (hf : (St.mk fr L N).ev f = .fn fi [] := by rfl)
    (hargs : WCs L (args.toList.map (St.mk fr L N).ev) dargs := by ((repeat (first | exact trivial | exact rfl | exact ⟨_, rfl⟩ | refine And.intro ?_ ?_)); first | done | fail)) (hn : Ln L n := by repeat constructor) (hy : OYr n es us sv news := by ((repeat constructor); first | done | fail)) (hj : Jn L news L' := by repeat constructor) (ht : Nat.blt t N = true := by rfl)
    (hp : PfOk ops i L' pf := by (repeat (first | exact PfOk.nil | (apply PfOk.keep; focus ((repeat constructor); done)) | (apply PfOk.dep; focus kernel_rfl)))) :
    VY P A ops K ((i, false) :: r) pf ⟨fr, L, N⟩ := VY_hst hi (HSt_callO hf hspec hargs hn hy hj ht) hp h
/-- make([]T, n), owned. -/
theorem VO_mk {α : Type} {en : α → U} {es : List α → List U} {z : Nat} [E : Enc α en es z] (a0 : α) {e bs m : Nat} {gg : Bool} (hg : m ≤ 4294967296) [TE P T e] [TI P e gg z bs] {zs : List Value} [TZ P e zs] (h : VO P A ops rest ⟨(t, .sl i 0) :: fr, L', N⟩ K)
    (hx : (St.mk fr L N).ev x = .d (.i .i64 (m : Int)) := by rfl) (hy : (St.mk fr L N).ev y = .d (.i .i64 (m : Int)) := by rfl) (hzu : ZeroT (en a0) zs := by exact zeroT (by repeat constructor) (by repeat constructor)) (hz : (Nat.blt 0 z && zs.length == z) = true := by rfl) (hb : Nat.ble bs 32768 = true := by rfl)
    (ht : Nat.blt t N = true := by rfl) (hL' : Sn (.own e z 0 (es (List.replicate m a0))) L i L' := by repeat constructor) :
    VO P A ops (⟨some t, .makeSlice T x y, ty, pos, af, none⟩ :: rest) ⟨fr, L, N⟩ K := by
  have hb := Nat.le_of_ble_eq_true hb
  rw [Enc.rep (es := es)] at hL'
  refine VR_make hx hy TE.h TI.h TZ.h hz hzu (Int.natCast_nonneg m) (Int.le_refl _) (by rw [big_eq]; omega) ?_ ht (by rwa [Int.toNat_natCast]) h
  have : bs * m ≤ 32768 * 4294967296 := Nat.mul_le_mul hb hg
  omega
theorem Q_ixo {α : Type} {en : α → U} {es : List α → List U} {z : Nat} [E : Enc α en es z] {e bs ver e' : Nat} {gg : Bool} {l : List α} (k : Nat) (hk : k < l.length) [TE P T e] [TI P e gg z bs] (hx : σ.ev x = .sl j ver := by rfl) (hL : σ.L[j]? = some (.own e' z ver (es l)) := by rfl) (hy : σ.ev y = .d (.i .i64 (k : Int)) := by rfl) :
    Quiet P A σ ⟨dst, .indexAddr T x y, ty, pos, af, g⟩ (.ep j ver z k 0) := by
  have := Q_index_own (P := P) (A := A) (dst := dst) (ty := ty) (pos := pos) (af := af) (g := g) hx hL .own hy (TE.h : tyE P T = some e) (TI.h : tyI P e = some (gg, z, bs)) (Int.natCast_nonneg k) (by rw [Enc.len]; omega)
  simpa using this
/-- A whole element is stored. -/
theorem VO_st {α : Type} {en : α → U} {es : List α → List U} {z : Nat} [E : Enc α en es z] {e bs ver k : Nat} {gg : Bool} {l : List α} (a : α) {js : List Nat} (hk : k < l.length) [TI P T gg z bs] (h : VO P A ops rest ⟨fr, L', N⟩ K) (hx : (St.mk fr L N).ev x = .ep i ver z k 0 := by rfl) (hL : L[i]? = some (.own e z ver (es l)) := by rfl)
    (hy : OV L ((St.mk fr L N).ev y) (en a) js := by ((repeat constructor); first | done | fail)) (hjs : (decide js.Nodup && !js.contains i) = true := by decide) (hk1 : KR js L L1 := by repeat constructor) (hL' : St1 (.own e z ver (es (l.set k a))) i L1 L' := by repeat constructor) :
    VO P A ops (⟨none, .store T x y, ty, pos, af, none⟩ :: rest) ⟨fr, L, N⟩ K := by
  rw [Enc.set (es := es)] at hL'
  exact VR_store hx hL hy hjs TI.h (Enc.hz a) (by rw [Enc.len]; exact hk) hk1 hL' h
/-- A literal of one element, owned. -/
theorem VO_l1t {α : Type} {en : α → U} {es : List α → List U} {z : Nat} [E : Enc α en es z] (a : α) {e bs : Nat} {gg : Bool} [TE P T e] [TI P e gg z bs] {zs : List Value} [TZ P e zs] {js : List Nat} (h : VO P A ops rest ⟨(t, .sl i 0) :: fr, L', N⟩ K) (hy : OV L ((St.mk fr L N).ev x) (en a) js := by ((repeat constructor); first | done | fail)) (hjs : decide js.Nodup = true := by decide)
    (hz : (Nat.blt 0 z && Nat.blt z 16777216 && zs.length == z) = true := by rfl) (ht : Nat.blt t N = true := by rfl) (hk1 : KR js L L1 := by repeat constructor) (hL' : Sn (.own e z 0 (es [a])) L1 i L' := by repeat constructor) :
    VO P A ops (⟨some t, .buildSlice T 1 #[(0, x)], ty, pos, af, none⟩ :: rest) ⟨fr, L, N⟩ K := by
  have e1 : es [a] = [en a] := by rw [E.h]; rfl
  rw [e1] at hL'
  exact VR_slit1 hy hjs TE.h TI.h TZ.h hz (Enc.hz a) ht hk1 hL' h
theorem VY_l1t {α : Type} {en : α → U} {es : List α → List U} {z : Nat} [E : Enc α en es z] (a : α) {e bs m : Nat} {gg : Bool} [TE P T e] [TI P e gg z bs] {zs : List Value} [TZ P e zs] {js : List Nat} (h : VY P A ops K r pf ⟨(t, .sl m 0) :: fr, L', N⟩) (hi : ops[i]? = some ⟨some t, .buildSlice T 1 #[(0, x)], ty, pos, af, none⟩ := by rfl) (hy : OV L ((St.mk fr L N).ev x) (en a) js := by ((repeat constructor); first | done | fail)) (hjs : decide js.Nodup = true := by decide)
    (hz : (Nat.blt 0 z && Nat.blt z 16777216 && zs.length == z) = true := by rfl) (ht : Nat.blt t N = true := by rfl) (hk1 : KR js L L1 := by repeat constructor) (hL' : Sn (.own e z 0 (es [a])) L1 m L' := by repeat constructor)
    (hp : PfOk ops i L' pf := by (repeat (first | exact PfOk.nil | (apply PfOk.keep; focus ((repeat constructor); done)) | (apply PfOk.dep; focus kernel_rfl)))) :
    VY P A ops K ((i, false) :: r) pf ⟨fr, L, N⟩ := by
  have e1 : es [a] = [en a] := by rw [E.h]; rfl
  rw [e1] at hL'
  exact VY_hst hi (HSt_slit1 hy hjs TE.h TI.h TZ.h hz (Enc.hz a) ht hk1 hL') hp h
/-- Append to an owned array, in a drawn region. -/
theorem VY_ap {α : Type} {en : α → U} {es : List α → List U} {z : Nat} [E : Enc α en es z] {l l' : List α} (hg : l.length + l'.length ≤ 4294967296) {e bs ver m : Nat} {gg : Bool} [TE P T e] [TI P e gg z bs] {zs : List Value} [TZ P e zs] {js : List Nat} {T' : TypeId}
    (h : VY P A ops K r pf ⟨(t, .sl m (ver + 1)) :: fr, L', N⟩) (hi : ops[i]? = some ⟨some t, .call { callee := .builtin .append, args := #[x, y], argTypes := #[T, T] }, T', pos, af, none⟩ := by rfl) (hx : (St.mk fr L N).ev x = .sl m ver := by rfl) (hL : L[m]? = some (.own e z ver (es l)) := by rfl) (hs : SrcO L z ((St.mk fr L N).ev y) (es l') js := by first | exact .own rfl | exact .nil | exact .data (Enc.all _) (eStrs_noSl _) | exact .data (Enc.all _) (eInts_noSl _))
    (hjs : (decide js.Nodup && !js.contains m) = true := by decide) (hz : (Nat.blt 0 z && zs.length == z) = true := by rfl) (hb : Nat.ble bs 32768 = true := by rfl)
    (ht : Nat.blt t N = true := by rfl) (hk1 : KR js L L1 := by repeat constructor) (hL' : St1 (.own e z (ver + 1) (es (l ++ l'))) m L1 L' := by repeat constructor)
    (hp : PfOk ops i L' pf := by (repeat (first | exact PfOk.nil | (apply PfOk.keep; focus ((repeat constructor); done)) | (apply PfOk.dep; focus kernel_rfl)))) :
    VY P A ops K ((i, false) :: r) pf ⟨fr, L, N⟩ := by
  have h1 : (es l).length = l.length := Enc.len l
  have h2 : (es l').length = l'.length := Enc.len l'
  have hb := Nat.le_of_ble_eq_true hb
  rw [Enc.app (es := es)] at hL'
  refine VY_hst hi (HSt_append hx hL hs hjs TE.h TI.h TZ.h hz (by rw [big_eq]; omega) ?_ ht hk1 hL') hp h
  rw [h1, h2]
  exact Nat.le_trans (Nat.mul_le_mul hg hb) (by decide)
end
end Go.Eng
set_option linter.unusedVariables false
set_option linter.unusedSimpArgs false
namespace Go.Eng
open Go Go.RowKit
end Go.Eng
namespace Go.Eng
open Go Go.RowKit
/-- Orders: q a quiet operation; h one that may come now, and the others that may (up to nil). -/
inductive OT where
  | nil
  | q (i : Nat) (t : OT)
  | h (i : Nat) (t r : OT)
def OT.heads : OT → List Nat
  | .h i _ r => i :: r.heads
  | _ => []
def checkT (md : Region.Mode) (ops : Array Oper) : OT → Nat → Array Bool → Bool → Bool
  | .nil, n, listed, b => b || (n == 0 && (Region.ready md ops listed).isEmpty)
  | .q i t, n, listed, b => !b && Nat.blt 0 n && (Region.ready md ops listed).contains i && Region.free md ops listed i && checkT md ops t (n - 1) (listed.setIfInBounds i true) false
  | .h i t r, n, listed, b => Nat.blt 0 n && (b || Region.ready md ops listed == i :: r.heads) && checkT md ops t (n - 1) (listed.setIfInBounds i true) false && checkT md ops r n listed true
section
variable {P : Program} {A : Amb} {ops : Array Oper} {K : St → Prop} {σ σ' : St} {t r : OT} {pf : PF} {i : Nat} {b : Bool}
def VT (P : Program) (A : Amb) (ops : Array Oper) (K : St → Prop) : OT → PF → St → Bool → Prop
  | .nil, _, σ, b => b = true ∨ K σ
  | .q i t, pf, σ, _ => ∃ o sv B, ops[i]? = some o ∧ PSt P A ops B σ o sv ∧ VT P A ops K t ((i, B) :: pf) (σ.setO o.dst sv) false
  | .h i t r, pf, σ, _ => (∃ o Z, ops[i]? = some o ∧ HStE P A ops σ o Z ∧ ∀ sv L', Z sv L' → (∀ p ∈ pf, depB .any ops ops.size p.1 i = true ∨ Keep p.2 L') ∧ VT P A ops K t pf (St.setO ⟨σ.fr, L', σ.N⟩ o.dst sv) false) ∧ VT P A ops K r pf σ true
theorem VT.vx (hK : ∀ σ σ', Alike σ σ' → K σ → K σ') : ∀ (T : OT) (n : Nat) (listed : Array Bool) (pf : PF) (σ : St), Closed .any ops listed →
    (checkT .any ops T n listed false = true → VT P A ops K T pf σ false → VX P A .any ops K n listed pf σ) ∧
    (checkT .any ops T (n + 1) listed true = true → VT P A ops K T pf σ true → ∀ j ∈ T.heads, j ∈ Region.ready .any ops listed → ∃ o, ops[j]? = some o ∧ ∃ Z, HStE P A ops σ o Z ∧ ∀ sv L', Z sv L' → (∀ p ∈ pf, depB .any ops ops.size p.1 j = true ∨ Keep p.2 L') ∧ VX P A .any ops K n (listed.setIfInBounds j true) pf (St.setO ⟨σ.fr, L', σ.N⟩ o.dst sv)) := by
  intro T
  induction T with
  | nil =>
    intro n listed pf σ hc
    refine ⟨fun hB h => ?_, fun _ _ j hj => by simp [OT.heads] at hj⟩
    simp only [checkT, Bool.false_or, Bool.and_eq_true, beq_iff_eq] at hB
    simp only [VT, Bool.false_eq_true, false_or] at h
    obtain ⟨rfl, hB⟩ := hB
    exact ⟨by simpa using hB, h⟩
  | q i t ih =>
    intro n listed pf σ hc
    refine ⟨fun hB h => ?_, fun hB => by simp [checkT] at hB⟩
    simp only [checkT, Bool.not_false, Bool.true_and, Bool.and_eq_true, Nat.blt_eq] at hB
    obtain ⟨⟨⟨h0, hr⟩, hfr⟩, hB⟩ := hB
    obtain ⟨m, rfl⟩ : ∃ m, n = m + 1 := ⟨n - 1, by omega⟩
    simp only [Nat.add_sub_cancel] at hB
    obtain ⟨o, sv, B, h1, h2, h3⟩ := h
    have hr : i ∈ Region.ready .any ops listed := by simpa using hr
    exact VX.first hK h1 m listed pf σ hc (Region.free_spec h1 hfr) hr h2 ((ih m _ _ _ (hc.step hr)).1 hB h3)
  | h i t r iht ihr =>
    intro n listed pf σ hc
    have key : ∀ (m : Nat) (b : Bool), checkT .any ops (.h i t r) (m + 1) listed b = true → VT P A ops K (.h i t r) pf σ b → ∀ j ∈ (OT.h i t r).heads, j ∈ Region.ready .any ops listed → ∃ o, ops[j]? = some o ∧ ∃ Z, HStE P A ops σ o Z ∧ ∀ sv L', Z sv L' → (∀ p ∈ pf, depB .any ops ops.size p.1 j = true ∨ Keep p.2 L') ∧ VX P A .any ops K m (listed.setIfInBounds j true) pf (St.setO ⟨σ.fr, L', σ.N⟩ o.dst sv) := by
      intro m b hB h j hj hr
      simp only [checkT, Bool.and_eq_true, Nat.add_sub_cancel] at hB
      obtain ⟨⟨_, hB1⟩, hB2⟩ := hB
      obtain ⟨⟨o, Z, h1, h2, h3⟩, h5⟩ := h
      simp only [OT.heads, List.mem_cons] at hj
      rcases hj with rfl | hj
      · exact ⟨o, h1, Z, h2, fun sv L' hz => ⟨(h3 sv L' hz).1, (iht m _ _ _ (hc.step hr)).1 hB1 (h3 sv L' hz).2⟩⟩
      · exact (ihr m listed pf σ hc).2 hB2 h5 j hj hr
    refine ⟨fun hB h => ?_, fun hB h => key n true hB h⟩
    have hB' := hB
    simp only [checkT, Bool.and_eq_true, Nat.blt_eq, Bool.false_or, beq_iff_eq] at hB'
    obtain ⟨⟨⟨h0, hrd⟩, _⟩, _⟩ := hB'
    obtain ⟨m, rfl⟩ : ∃ m, n = m + 1 := ⟨n - 1, by omega⟩
    refine ⟨fun h0 => (by rw [hrd] at h0; cases h0), fun j hj => ?_⟩
    obtain ⟨o, h1, Z, h2, h3⟩ := key m false hB h j (by simp only [OT.heads]; rw [← hrd]; exact hj) hj
    exact ⟨o, h1, .inr ⟨Z, h2, h3⟩⟩
theorem VT.mono {K' : St → Prop} (hK : ∀ s, K s → K' s) : ∀ (T : OT) (pf : PF) (σ : St) (b : Bool), VT P A ops K T pf σ b → VT P A ops K' T pf σ b
  | .nil, _, _, _, h => h.imp id (hK _)
  | .q _ t, _, _, _, ⟨o, sv, B, h1, h2, h3⟩ => ⟨o, sv, B, h1, h2, VT.mono hK t _ _ _ h3⟩
  | .h _ t r, _, _, _, ⟨⟨o, Z, h1, h2, h3⟩, h5⟩ => ⟨⟨o, Z, h1, h2, fun sv L' hz => ⟨(h3 sv L' hz).1, VT.mono hK t _ _ _ (h3 sv L' hz).2⟩⟩, VT.mono hK r _ _ _ h5⟩
theorem V_drawT {id : Nat} {l : List Oper} {Q : Exit → St → Prop} (hm : P.follows .mixedOrders = true) (T : OT) (hB : checkT .any l.toArray T l.length (Array.replicate l.length false) false = true)
    (h : VT P A l.toArray (Q .normal) T [] σ false) : V P A (.region id l.toArray true) σ Q := by
  intro a w hr
  refine wp_region_any hm ?_
  have h1 := VT.mono (K' := fun s => ∃ s', Alike s s' ∧ Q .normal s') (fun s hs => ⟨s, .refl, hs⟩) T [] σ false h
  have hc : Closed .any l.toArray (Array.replicate l.length false) := fun k o _ hl => by rw [Array.getD_eq_getD_getElem?, Array.getElem?_replicate] at hl; split at hl <;> simp at hl
  have h2 := (VT.vx (fun σ σ' ha ⟨s', k1, k2⟩ => ⟨s', ha.symm.trans k1, k2⟩) T l.length _ _ _ hc).1 hB h1
  have h3 := VX.wp (R := fun e a' w' => ∃ σ', Q e σ' ∧ Realz A σ' a' w') (fun s a' w' ⟨s', k1, k2⟩ hr' => ⟨s', k2, k1.realz hr'⟩) l.length _ _ σ a _ hr.drew h2
  simpa using h3
theorem VY_e : VY P A ops (fun s => s = σ) [] pf σ := rfl
theorem VT_q (h1 : VY P A ops (fun s => s = σ') [(i, true)] pf σ) (h : VT P A ops K t ((i, σ.L) :: pf) σ' false) : VT P A ops K (.q i t) pf σ b := by
  obtain ⟨o, sv, k1, k2, k3⟩ := h1
  have k3 : σ.setO o.dst sv = σ' := k3
  exact ⟨o, sv, σ.L, k1, k2, by rw [k3]; exact h⟩
/-- A move: it reads no object. -/
theorem VT_mv {d N : Nat} {x : Operand} {ty : TypeId} {pos : String} {af : Array Edge} {fr : List (Nat × SV)} {L : List LO} {sv : SV} (h : VT P A ops K t ((i, []) :: pf) ⟨(d, sv) :: fr, L, N⟩ false) (hi : ops[i]? = some ⟨some d, .move x, ty, pos, af, none⟩ := by rfl) (hx : (St.mk fr L N).ev x = sv := by rfl) (hd : Nat.blt d N = true := by rfl) : VT P A ops K (.q i t) pf ⟨fr, L, N⟩ b :=
  ⟨_, sv, [], hi, ⟨fun d' hd' => by cases hd'; exact hd, fun k cs hk => by simp at hk, .inl ⟨rfl, fun fr' L' he _ => Q_move (by rw [he x (by simp [Op.operands])]; exact hx)⟩⟩, h⟩
theorem VT_h (h1 : VY P A ops (fun s => s = σ') [(i, false)] pf σ) (h : VT P A ops K t pf σ' false) (hr : VT P A ops K r pf σ true) : VT P A ops K (.h i t r) pf σ b := by
  obtain ⟨o, Z, k1, k2, k3⟩ := h1
  exact ⟨⟨o, Z, k1, k2, fun sv L' hz => ⟨(k3 sv L' hz).1, by
    have k4 : St.setO ⟨σ.fr, L', σ.N⟩ o.dst sv = σ' := (k3 sv L' hz).2
    rw [k4]; exact h⟩⟩, hr⟩
theorem VT_h1 (h1 : VY P A ops (fun s => s = σ') [(i, false)] pf σ) (h : VT P A ops K t pf σ' false) : VT P A ops K (.h i t .nil) pf σ b := VT_h h1 h (.inl rfl)
theorem VT_nil (h : K σ) : VT P A ops K .nil pf σ b := .inr h
/-- The same state, its objects in another order. -/
theorem V_pk {c : Code} {Q : Exit → St → Prop} {fr fr' : List (Nat × SV)} {L Lc : List LO} {N : Nat} (n : Nat) [BaseN A n] (js : List Nat) (h : V P A c ⟨fr', Lc, N⟩ Q) (hp : pickB L (rn js L.length) 0 Lc := by ((repeat (first | exact trivial | exact rfl | refine And.intro ?_ ?_)); first | done | fail))
    (hjs : (decide js.Nodup && (js.all fun j => Nat.blt j L.length) && LO.lts Lc.length Lc) = true := by rfl) (hn : (js.length == Lc.length && Nat.ble n Lc.length && (List.range n).all fun i => js[i]? == some i) = true := by rfl)
    (hfr : LePF (rn js L.length) fr Lc.length fr' := by ((repeat (first | exact trivial | exact rfl | refine And.intro ?_ ?_)); first | done | fail)) : V P A c ⟨fr, L, N⟩ Q := by
  simp only [Bool.and_eq_true, decide_eq_true_eq, List.all_eq_true, Nat.blt_eq] at hjs
  obtain ⟨⟨hnd, hlt⟩, hlts⟩ := hjs
  exact V_pick (n := n) js h ⟨fun m o ho => by simpa using pickB_get hp m o ho, fun m m' _ _ he => rn_inj hlt hnd he, hlts⟩ hn hfr
/-- The like of goY. -/
theorem goT {X Y : Prop} (hy : Y) (h : Y → X := by
    intro hy
    repeat (first | refine VT_mv ?_ | refine VT_q (VY_r QR_len VY_e) ?_ | refine VT_q (VY_d rfl VY_e (by (repeat constructor); first | done | fail)) ?_ | refine VT_h1 (VY_h rfl (by repeat constructor) (by repeat (first | exact PfOk.nil | (apply PfOk.keep; focus ((repeat constructor); done)) | (apply PfOk.dep; focus kernel_rfl))) VY_e) ?_)
    exact hy) : X := h hy
end
end Go.Eng
namespace Go.Eng
open Go Go.RowKit
section
variable {P : Program} {A : Amb} {ops : Array Oper} {K : St → Prop} {Q : Exit → St → Prop} {rest : List Oper} {σ σ' σJ : St} {fr : List (Nat × SV)} {L : List LO} {N t : Nat} {sv : SV}
variable {ty : TypeId} {pos : String} {af : Array Edge} {op : Op}
/-- A drawn region; the orders end in one state, up to the numbers of the objects. -/
theorem V_drawTJ {id : Nat} {l : List Oper} (hm : P.follows .mixedOrders = true) (T : OT) (σ' : St) (hB : checkT .any l.toArray T l.length (Array.replicate l.length false) false = true)
    (h : VT P A l.toArray (fun s => ∀ a w, Realz A s a w → Realz A σ' a w) T [] σ false) (hr : Q .normal σ') : V P A (.region id l.toArray true) σ Q := fun a w hw =>
  wp_mono (V_drawT (Q := fun e s => e = .normal ∧ ∀ a w, Realz A s a w → Realz A σ' a w) hm T hB (VT.mono (fun s hs => ⟨rfl, hs⟩) T [] σ false h) a w hw) fun e a' w' ⟨s, ⟨k0, k1⟩, k2⟩ => by subst k0; exact ⟨σ', hr, k1 _ _ k2⟩
theorem V_seq_drawTJ {id : Nat} {l : List Oper} {y : Code} (hm : P.follows .mixedOrders = true) (T : OT) (σ' : St) (hB : checkT .any l.toArray T l.length (Array.replicate l.length false) false = true)
    (h : VT P A l.toArray (fun s => ∀ a w, Realz A s a w → Realz A σ' a w) T [] σ false) (hr : V P A y σ' Q) : V P A (.seq (.region id l.toArray true) y) σ Q := V_seq (V_drawTJ hm T σ' hB h hr)
theorem R_pk {fr' : List (Nat × SV)} {Lc : List LO} (n : Nat) [BaseN A n] (js : List Nat) (hp : pickB L (rn js L.length) 0 Lc := by ((repeat (first | exact trivial | exact rfl | refine And.intro ?_ ?_)); first | done | fail))
    (hjs : (decide js.Nodup && (js.all fun j => Nat.blt j L.length) && LO.lts Lc.length Lc) = true := by rfl) (hn : (js.length == Lc.length && Nat.ble n Lc.length && (List.range n).all fun i => js[i]? == some i) = true := by rfl)
    (hfr : LePF (rn js L.length) fr Lc.length fr' := by ((repeat (first | exact trivial | exact rfl | refine And.intro ?_ ?_)); first | done | fail)) : ∀ a w, Realz A ⟨fr, L, N⟩ a w → Realz A ⟨fr', Lc, N⟩ a w := by
  intro a w hr
  simp only [Bool.and_eq_true, decide_eq_true_eq, List.all_eq_true, Nat.blt_eq] at hjs
  obtain ⟨⟨hnd, hlt⟩, hlts⟩ := hjs
  exact hr.pick (n := n) js ⟨fun m o ho => by simpa using pickB_get hp m o ho, fun m m' _ _ he => rn_inj hlt hnd he, hlts⟩ hn hfr
/-- A literal of several elements. -/
theorem VO_lb {e z bs n i : Nat} {T : TypeId} {L' : List LO} {gg : Bool} [TE P T e] [TI P e gg z bs] {zs : List Value} [TZ P e zs] {us : List U} {ps : Array (Nat × Operand)} (h : VO P A ops rest ⟨(t, .sl i 0) :: fr, L', N⟩ K) (hps : ps.toList = ((ps.toList.map Prod.snd).zipIdx 0).map (fun p => (p.2, p.1)) := by rfl)
    (hy : VDs ⟨fr, L, N⟩ (ps.toList.map Prod.snd) us := by (repeat (first | exact .nil | refine .cons (by ((repeat (first | exact trivial | exact rfl | exact ⟨_, rfl⟩ | refine And.intro ?_ ?_)); first | done | fail)) ?_))) (hu : (us.all fun u => u.sz == z) = true := by rfl) (hn : ((ps.toList.map Prod.snd).length == n && Nat.blt 0 n) = true := by rfl)
    (hz : (Nat.blt 0 z && Nat.ble (n * z) 16777216 && zs.length == z) = true := by rfl) (ht : Nat.blt t N = true := by rfl) (hL' : Sn (.arr e z 0 us) L i L' := by repeat constructor) :
    VO P A ops (⟨some t, .buildSlice T n ps, ty, pos, af, none⟩ :: rest) ⟨fr, L, N⟩ K := VO_la h hps hy hu hn hz ht hL'
theorem VO_rg {j tj : Nat} {want : Bool} {o' : Oper} (hq : QR P ⟨fr, L, N⟩ ⟨some t, op, ty, pos, af, none⟩ sv) (h : VO P A ops rest ⟨(t, sv) :: fr, L, N⟩ K) (hj : ops[j]? = some o' := by rfl) (hdst : o'.dst = some tj := by rfl) (htj : Nat.blt tj N = true := by rfl) (hb : look fr tj = .d (.b want) := by rfl) (ht : Nat.blt t N = true := by rfl) :
    VO P A ops (⟨some t, op, ty, pos, af, some (j, want)⟩ :: rest) ⟨fr, L, N⟩ K := VO_b (VO_r hq h ht) hj hdst htj hb
/-! arrays of the call's own whose elements are shared data -/
theorem Q_lena {α : Type} {e : α → U} {es : List α → List U} {z z' : Nat} [E : Enc α e es z] {el : TypeId} {T T' : TypeId} {x : Operand} {g : Option (Nat × Bool)} {dst : Option Nat} [TE P T el] {l : List α} {i ver e' : Nat} (hx : σ.ev x = .sl i ver := by rfl) (hL : σ.L[i]? = some (.arr e' z' ver (es l)) := by rfl) : Quiet P A σ ⟨dst, .call { callee := .builtin .len, args := #[x], argTypes := #[T] }, T', pos, af, g⟩ (.d (.i .i64 (l.length : Int))) := by
  rw [← Enc.len (es := es) l]
  exact Q_len_arr hx hL TE.h
theorem Q_ixa {α : Type} {en : α → U} {es : List α → List U} {z : Nat} [E : Enc α en es z] {e bs ver j : Nat} {T : TypeId} {x y : Operand} {g : Option (Nat × Bool)} {dst : Option Nat} {gg : Bool} {l : List α} (k : Nat) (hk : k < l.length) [TE P T e] [TI P e gg z bs] (hx : σ.ev x = .sl j ver := by rfl) (hL : σ.L[j]? = some (.arr e z ver (es l)) := by rfl) (hy : σ.ev y = .d (.i .i64 (k : Int)) := by rfl) :
    Quiet P A σ ⟨dst, .indexAddr T x y, ty, pos, af, g⟩ (.ep j ver z k 0) := by
  have := Q_index_arr (P := P) (A := A) (dst := dst) (ty := ty) (pos := pos) (af := af) (g := g) hx hL hy (TE.h : tyE P T = some e) (TI.h : tyI P e = some (gg, z, bs)) (Int.natCast_nonneg k) (by rw [Enc.len]; omega)
  simpa using this
theorem Q_lda {α : Type} {en : α → U} {es : List α → List U} {z : Nat} [E : Enc α en es z] {bs ver e' j k : Nat} {T : TypeId} {x : Operand} {g : Option (Nat × Bool)} {dst : Option Nat} {gg : Bool} {l : List α} {a : α} (ha : l[k]? = some a) [TI P T gg z bs] (hx : σ.ev x = .ep j ver z k 0 := by rfl) (hL : σ.L[j]? = some (.arr e' z ver (es l)) := by rfl) (hg : (en a).isSt = gg := by rfl) :
    Quiet P A σ ⟨dst, .load T x, ty, pos, af, g⟩ (.d (en a)) := Q_load_ep hx hL (Enc.get ha) TI.h hg
theorem V_bda {α : Type} {en : α → U} {es : List α → List U} {z : Nat} [E : Enc α en es z] {l : List α} {e z' ver : Nat} {c : Code} (i : Nat) (h : l.length ≤ 140737488355328 → V P A c ⟨fr, L, N⟩ Q) (hL : L[i]? = some (.arr e z' ver (es l)) := by rfl) : V P A c ⟨fr, L, N⟩ Q := fun a w hr => by
  obtain ⟨S, env, hH, hf, hN, hd⟩ := hr
  have hi := (List.getElem?_eq_some_iff.1 hL).1
  rw [← hH.len] at hi
  have := (hH.objs i _ _ hL (List.getElem?_eq_getElem hi)).1
  rw [Enc.len, big_eq] at this
  exact h this a w ⟨S, env, hH, hf, hN, hd⟩
/-- Append data, or such an array, to such an array. -/
theorem VO_apa {α : Type} {en : α → U} {es : List α → List U} {z : Nat} [E : Enc α en es z] {l r : List α} (hg : l.length + r.length ≤ 4294967296) {e bs ver i : Nat} {T T' : TypeId} {x y : Operand} {L' : List LO} {gg : Bool} [TE P T e] [TI P e gg z bs] {zs : List Value} [TZ P e zs]
    (h : VO P A ops rest ⟨(t, .sl i (ver + 1)) :: fr, L', N⟩ K) (hx : (St.mk fr L N).ev x = .sl i ver := by rfl) (hL : L[i]? = some (.arr e z ver (es l)) := by rfl) (hs : SrcOf ⟨fr, L, N⟩ z (es r) ((St.mk fr L N).ev y) := by first | exact ⟨_, rfl⟩ | exact ⟨rfl, rfl, Enc.all _⟩ | exact rfl)
    (hz : (Nat.blt 0 z && zs.length == z) = true := by rfl) (hb : Nat.ble bs 32768 = true := by rfl) (ht : Nat.blt t N = true := by rfl) (hL' : L.set i (.arr e z (ver + 1) (es (l ++ r))) = L' := by rfl) :
    VO P A ops (⟨some t, .call { callee := .builtin .append, args := #[x, y], argTypes := #[T, T] }, T', pos, af, none⟩ :: rest) ⟨fr, L, N⟩ K := by
  have h1 : (es l).length = l.length := Enc.len l
  have h2 : (es r).length = r.length := Enc.len r
  have hb := Nat.le_of_ble_eq_true hb
  rw [Enc.app (es := es)] at hL'
  refine VO_append hx hL rfl hs TE.h TI.h TZ.h hz (Enc.all _) (by rw [big_eq]; omega) ?_ ht hL' h
  rw [h1, h2]
  exact Nat.le_trans (Nat.mul_le_mul hg hb) (by decide)
end
/-- On, until something needs help. -/
theorem goL {X Y : Prop} (hy : Y) (h : Y → X := by
    intro hy
    repeat (first | refine VO_r QR_len ?_ | refine VO_k Q_leno ?_ | refine VO_k Q_lena ?_ | refine VO_rg QR_len ?_ | refine VO_pa ?_ | refine VO_pu ?_ | refine VO_d ?_ (by (repeat constructor); first | done | fail) | refine VQ_r QR_len ?_ | refine VQ_rg QR_len ?_ | refine VQ_d ?_ (by (repeat constructor); first | done | fail) | refine VO_nil ?_ | refine VQ_nil ?_ | refine V_seq_region ?_ | refine V_seqseq ?_ | refine V_seq_draw Mix.h (by kernel_rfl) ?_ | refine V_region ?_ | refine V_draw Mix.h (by kernel_rfl) ?_)
    exact hy) : X := h hy
/-- The like; no region that draws is entered. -/
theorem goNL {X Y : Prop} (hy : Y) (h : Y → X := by
    intro hy
    repeat (first | refine VO_r QR_len ?_ | refine VO_k Q_leno ?_ | refine VO_k Q_lena ?_ | refine VO_rg QR_len ?_ | refine VO_pa ?_ | refine VO_pu ?_ | refine VO_d ?_ (by (repeat constructor); first | done | fail) | refine VQ_r QR_len ?_ | refine VQ_rg QR_len ?_ | refine VQ_d ?_ (by (repeat constructor); first | done | fail) | refine VO_nil ?_ | refine VQ_nil ?_ | refine V_seq_region ?_ | refine V_seqseq ?_ | refine V_region ?_)
    exact hy) : X := h hy
end Go.Eng
