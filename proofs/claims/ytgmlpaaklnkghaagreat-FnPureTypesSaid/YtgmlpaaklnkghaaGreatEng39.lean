/- The engine, part 36: loops with several ghosts, ways that meet again, lists by number. -/
import Derived.Test.YtgmlpaaklnkghaaGreatEng35
import Derived.Test.YtgmlpaaklnkghaaGreatProg
set_option linter.unusedVariables false
set_option linter.unusedSimpArgs false
namespace Go.Eng
open Go Go.RowKit
theorem lt_x {α β : Type} {v : α} {k : α → β} {r : β} (h : lt_ v k = r) : ∃ x, v = x ∧ k x = r := ⟨v, rfl, h⟩
section
variable {l : List UInt8} {k n : Nat}
theorem kltS (h : decide ((k : Int) < (l.length : Int)) = true) : k < l.length := by have h := of_decide_eq_true h; omega
theorem kgeS (h : decide ((k : Int) < (l.length : Int)) = false) : l.length ≤ k := by have h := of_decide_eq_false h; omega
theorem kltN (h : decide ((k : Int) < (n : Int)) = true) : k < n := by have h := of_decide_eq_true h; omega
theorem kgeN (h : decide ((k : Int) < (n : Int)) = false) : n ≤ k := by have h := of_decide_eq_false h; omega
end
section
variable {P : Program} {A : Amb} {ops : Array Oper} {K : St → Prop} {Q : Exit → St → Prop} {rest : List Oper} {σ : St} {c : Code}
theorem VO_join (σJ : St) (h1 : VO P A ops rest σ (fun s => Le s σJ)) (h2 : K σJ) (hA : A.L0.length ≤ σJ.L.length := by rw [BaseN.h (A := A)]; exact Nat.le_of_ble_eq_true rfl) : VO P A ops rest σ K :=
  fun R hR a w hr => h1 R (fun σ' a' w' hle hr' => hR σJ a' w' h2 (hr'.le hle hA)) a w hr
theorem V_seqJ {x y : Code} (σJ : St) (h1 : V P A x σ (thenS (fun s => Le s σJ) Q)) (h2 : V P A y σJ Q) (hA : A.L0.length ≤ σJ.L.length := by rw [BaseN.h (A := A)]; exact Nat.le_of_ble_eq_true rfl) : V P A (.seq x y) σ Q :=
  V_seq (V.mono h1 (fun e s hq => by
    cases e with
    | normal => exact V_le hq h2 hA
    | _ => exact hq))
theorem V_loop1 {α0 : Type} (I : α0 → St) (J : α0 → Prop) (μ : α0 → Nat) (x0 : α0) (h0 : Le σ (I x0)) (hJ : J x0)
    (round : ∀ a0, J a0 → V P A c (I a0) (thenS (fun s => ∃ b0, J b0 ∧ μ b0 < μ a0 ∧ Le s (I b0)) Q)) (hA : ∀ a0, A.L0.length ≤ (I a0).L.length := by intros; rw [BaseN.h (A := A)]; exact Nat.le_of_ble_eq_true rfl) : V P A (.loop c) σ Q :=
  V_loop (α := α0) (fun x => I (x)) (fun x => J (x)) (fun x => μ (x)) (x0) h0 hJ (fun x hx => V.mono (round (x) hx) (fun e s hq => by
    cases e with
    | normal =>
      obtain ⟨b0, h1, h2, h3⟩ := hq
      exact ⟨(b0), h1, h2, h3⟩
    | _ => exact hq)) (fun x => hA (x))
theorem V_loop2 {α0 α1 : Type} (I : α0 → α1 → St) (J : α0 → α1 → Prop) (μ : α0 → α1 → Nat) (x0 : α0) (x1 : α1) (h0 : Le σ (I x0 x1)) (hJ : J x0 x1)
    (round : ∀ a0 a1, J a0 a1 → V P A c (I a0 a1) (thenS (fun s => ∃ b0 b1, J b0 b1 ∧ μ b0 b1 < μ a0 a1 ∧ Le s (I b0 b1)) Q)) (hA : ∀ a0 a1, A.L0.length ≤ (I a0 a1).L.length := by intros; rw [BaseN.h (A := A)]; exact Nat.le_of_ble_eq_true rfl) : V P A (.loop c) σ Q :=
  V_loop (α := α0 × α1) (fun x => I (x.1) (x.2)) (fun x => J (x.1) (x.2)) (fun x => μ (x.1) (x.2)) (x0, x1) h0 hJ (fun x hx => V.mono (round (x.1) (x.2) hx) (fun e s hq => by
    cases e with
    | normal =>
      obtain ⟨b0, b1, h1, h2, h3⟩ := hq
      exact ⟨(b0, b1), h1, h2, h3⟩
    | _ => exact hq)) (fun x => hA (x.1) (x.2))
theorem V_loop3 {α0 α1 α2 : Type} (I : α0 → α1 → α2 → St) (J : α0 → α1 → α2 → Prop) (μ : α0 → α1 → α2 → Nat) (x0 : α0) (x1 : α1) (x2 : α2) (h0 : Le σ (I x0 x1 x2)) (hJ : J x0 x1 x2)
    (round : ∀ a0 a1 a2, J a0 a1 a2 → V P A c (I a0 a1 a2) (thenS (fun s => ∃ b0 b1 b2, J b0 b1 b2 ∧ μ b0 b1 b2 < μ a0 a1 a2 ∧ Le s (I b0 b1 b2)) Q)) (hA : ∀ a0 a1 a2, A.L0.length ≤ (I a0 a1 a2).L.length := by intros; rw [BaseN.h (A := A)]; exact Nat.le_of_ble_eq_true rfl) : V P A (.loop c) σ Q :=
  V_loop (α := α0 × α1 × α2) (fun x => I (x.1) (x.2.1) (x.2.2)) (fun x => J (x.1) (x.2.1) (x.2.2)) (fun x => μ (x.1) (x.2.1) (x.2.2)) (x0, x1, x2) h0 hJ (fun x hx => V.mono (round (x.1) (x.2.1) (x.2.2) hx) (fun e s hq => by
    cases e with
    | normal =>
      obtain ⟨b0, b1, b2, h1, h2, h3⟩ := hq
      exact ⟨(b0, b1, b2), h1, h2, h3⟩
    | _ => exact hq)) (fun x => hA (x.1) (x.2.1) (x.2.2))
theorem V_loop4 {α0 α1 α2 α3 : Type} (I : α0 → α1 → α2 → α3 → St) (J : α0 → α1 → α2 → α3 → Prop) (μ : α0 → α1 → α2 → α3 → Nat) (x0 : α0) (x1 : α1) (x2 : α2) (x3 : α3) (h0 : Le σ (I x0 x1 x2 x3)) (hJ : J x0 x1 x2 x3)
    (round : ∀ a0 a1 a2 a3, J a0 a1 a2 a3 → V P A c (I a0 a1 a2 a3) (thenS (fun s => ∃ b0 b1 b2 b3, J b0 b1 b2 b3 ∧ μ b0 b1 b2 b3 < μ a0 a1 a2 a3 ∧ Le s (I b0 b1 b2 b3)) Q)) (hA : ∀ a0 a1 a2 a3, A.L0.length ≤ (I a0 a1 a2 a3).L.length := by intros; rw [BaseN.h (A := A)]; exact Nat.le_of_ble_eq_true rfl) : V P A (.loop c) σ Q :=
  V_loop (α := α0 × α1 × α2 × α3) (fun x => I (x.1) (x.2.1) (x.2.2.1) (x.2.2.2)) (fun x => J (x.1) (x.2.1) (x.2.2.1) (x.2.2.2)) (fun x => μ (x.1) (x.2.1) (x.2.2.1) (x.2.2.2)) (x0, x1, x2, x3) h0 hJ (fun x hx => V.mono (round (x.1) (x.2.1) (x.2.2.1) (x.2.2.2) hx) (fun e s hq => by
    cases e with
    | normal =>
      obtain ⟨b0, b1, b2, b3, h1, h2, h3⟩ := hq
      exact ⟨(b0, b1, b2, b3), h1, h2, h3⟩
    | _ => exact hq)) (fun x => hA (x.1) (x.2.1) (x.2.2.1) (x.2.2.2))
theorem V_loop7 {α0 α1 α2 α3 α4 α5 α6 : Type} (I : α0 → α1 → α2 → α3 → α4 → α5 → α6 → St) (J : α0 → α1 → α2 → α3 → α4 → α5 → α6 → Prop) (μ : α0 → α1 → α2 → α3 → α4 → α5 → α6 → Nat) (x0 : α0) (x1 : α1) (x2 : α2) (x3 : α3) (x4 : α4) (x5 : α5) (x6 : α6) (h0 : Le σ (I x0 x1 x2 x3 x4 x5 x6)) (hJ : J x0 x1 x2 x3 x4 x5 x6)
    (round : ∀ a0 a1 a2 a3 a4 a5 a6, J a0 a1 a2 a3 a4 a5 a6 → V P A c (I a0 a1 a2 a3 a4 a5 a6) (thenS (fun s => ∃ b0 b1 b2 b3 b4 b5 b6, J b0 b1 b2 b3 b4 b5 b6 ∧ μ b0 b1 b2 b3 b4 b5 b6 < μ a0 a1 a2 a3 a4 a5 a6 ∧ Le s (I b0 b1 b2 b3 b4 b5 b6)) Q)) (hA : ∀ a0 a1 a2 a3 a4 a5 a6, A.L0.length ≤ (I a0 a1 a2 a3 a4 a5 a6).L.length := by intros; rw [BaseN.h (A := A)]; exact Nat.le_of_ble_eq_true rfl) : V P A (.loop c) σ Q :=
  V_loop (α := α0 × α1 × α2 × α3 × α4 × α5 × α6) (fun x => I (x.1) (x.2.1) (x.2.2.1) (x.2.2.2.1) (x.2.2.2.2.1) (x.2.2.2.2.2.1) (x.2.2.2.2.2.2)) (fun x => J (x.1) (x.2.1) (x.2.2.1) (x.2.2.2.1) (x.2.2.2.2.1) (x.2.2.2.2.2.1) (x.2.2.2.2.2.2)) (fun x => μ (x.1) (x.2.1) (x.2.2.1) (x.2.2.2.1) (x.2.2.2.2.1) (x.2.2.2.2.2.1) (x.2.2.2.2.2.2)) (x0, x1, x2, x3, x4, x5, x6) h0 hJ (fun x hx => V.mono (round (x.1) (x.2.1) (x.2.2.1) (x.2.2.2.1) (x.2.2.2.2.1) (x.2.2.2.2.2.1) (x.2.2.2.2.2.2) hx) (fun e s hq => by
    cases e with
    | normal =>
      obtain ⟨b0, b1, b2, b3, b4, b5, b6, h1, h2, h3⟩ := hq
      exact ⟨(b0, b1, b2, b3, b4, b5, b6), h1, h2, h3⟩
    | _ => exact hq)) (fun x => hA (x.1) (x.2.1) (x.2.2.1) (x.2.2.2.1) (x.2.2.2.2.1) (x.2.2.2.2.2.1) (x.2.2.2.2.2.2))
end
end Go.Eng
set_option linter.unusedVariables false
set_option linter.unusedSimpArgs false
namespace Go.Eng
open Go Go.RowKit
section
variable {P : Program} {A : Amb} {ops : Array Oper} {K : St → Prop} {Q : Exit → St → Prop} {rest : List Oper} {σ : St} {fr : List (Nat × SV)} {L L1 L' : List LO} {N i t : Nat} {sv : SV} {o : Oper} {c : Code}
variable {ty T : TypeId} {pos : String} {af : Array Edge} {x y : Operand} {g : Option (Nat × Bool)} {dst : Option Nat} {op : Op}
/-! ### lengths -/
theorem QR_len {α : Type} {e : α → U} {es : List α → List U} {z z' : Nat} [E : Enc α e es z] {el : TypeId} [TE P T el] {T' : TypeId} {l : List α} (hx : σ.ev x = .d (.sl z' (es l)) := by rfl) : QR P σ ⟨dst, .call { callee := .builtin .len, args := #[x], argTypes := #[T] }, T', pos, af, g⟩ (.d (.i .i64 (l.length : Int))) :=
  fun A fr' L' he _ => by
    rw [← Enc.len (es := es) l]
    exact Q_len (by rw [he x (by simp [Op.operands, Call.operands])]; exact hx) TE.h
theorem Q_leno {α : Type} {e : α → U} {es : List α → List U} {z z' : Nat} [E : Enc α e es z] {el : TypeId} [TE P T el] {T' : TypeId} {l : List α} {i ver e' : Nat} (hx : σ.ev x = .sl i ver := by rfl) (hL : σ.L[i]? = some (.own e' z' ver (es l)) := by rfl) : Quiet P A σ ⟨dst, .call { callee := .builtin .len, args := #[x], argTypes := #[T] }, T', pos, af, g⟩ (.d (.i .i64 (l.length : Int))) := by
  rw [← Enc.len (es := es) l]
  exact Q_len_own hx hL .own TE.h
/-! ### guarded operations that are passed over -/
theorem VO_pa {j tj : Nat} {want x : Bool} {o' : Oper} (h : VO P A ops rest ⟨(t, .tup []) :: fr, L, N⟩ K) (hj : ops[j]? = some o' := by rfl) (hdst : o'.dst = some tj := by rfl) (htj : Nat.blt tj N = true := by rfl) (hb : look fr tj = .d (.b x) := by rfl) (hx : (x == want) = false := by rfl) (ht : Nat.blt t N = true := by rfl) :
    VO P A ops (⟨some t, op, ty, pos, af, some (j, want)⟩ :: rest) ⟨fr, L, N⟩ K := by
  intro R hR a w ⟨S, env, hH, hf, hN, hd⟩
  have h1 := h R hR (a.put (some t) undef) w (realz_put hf hN hd ht hH Carry.refl (by simp only [SVr]; exact ⟨[], rfl, by simp [SVrs]⟩))
  have h2 := hf tj
  rw [hb] at h2
  have h3 := SVr.bool.1 h2
  have ht' : tj < a.tmps.size := by rw [hN]; simpa [Nat.blt_eq] using htj
  have hy : yielded ops a.tmps j = some x := by
    simp only [yielded, hj, hdst, Option.bind_some]
    have : a.tmps[tj]? = some (.bool x) := by
      rw [Array.getD_eq_getD_getElem?, Array.getElem?_eq_getElem ht'] at h3
      rw [Array.getElem?_eq_getElem ht']
      have h3' : a.tmps[tj] = .bool x := by simpa using h3
      rw [h3']
    rw [this]
  unfold wpList
  simp only [Region.wanted, hy]
  have hne : (some x == some want) = false := by simpa using hx
  rw [hne]
  exact h1
theorem VO_pu {j tj : Nat} {want : Bool} {o' : Oper} (h : VO P A ops rest ⟨(t, .tup []) :: fr, L, N⟩ K) (hj : ops[j]? = some o' := by rfl) (hdst : o'.dst = some tj := by rfl) (htj : Nat.blt tj N = true := by rfl) (hb : look fr tj = .tup [] := by rfl) (ht : Nat.blt t N = true := by rfl) :
    VO P A ops (⟨some t, op, ty, pos, af, some (j, want)⟩ :: rest) ⟨fr, L, N⟩ K := by
  intro R hR a w ⟨S, env, hH, hf, hN, hd⟩
  have h1 := h R hR (a.put (some t) undef) w (realz_put hf hN hd ht hH Carry.refl (by simp only [SVr]; exact ⟨[], rfl, by simp [SVrs]⟩))
  have h2 := hf tj
  rw [hb] at h2
  simp only [SVr] at h2
  obtain ⟨vs, h3, h4⟩ := h2
  have hvs : vs = [] := by cases vs with
    | nil => rfl
    | cons _ _ => simp [SVrs] at h4
  subst hvs
  have ht' : tj < a.tmps.size := by rw [hN]; simpa [Nat.blt_eq] using htj
  have hy : yielded ops a.tmps j = none := by
    simp only [yielded, hj, hdst, Option.bind_some]
    have : a.tmps[tj]? = some (.tuple #[]) := by
      rw [Array.getD_eq_getD_getElem?, Array.getElem?_eq_getElem ht'] at h3
      rw [Array.getElem?_eq_getElem ht']
      have h3' : a.tmps[tj] = .tuple #[] := by simpa using h3
      rw [h3']
    rw [this]
  unfold wpList
  simp only [Region.wanted, hy]
  have hne : ((none : Option Bool) == some want) = false := by rfl
  rw [hne]
  exact h1
/-! ### the call that hands over -/
def pickB (L : List LO) (ρ : Nat → Nat) : Nat → List LO → Prop
  | _, [] => True
  | m, o :: os => L[ρ m]? = some (o.ren ρ) ∧ pickB L ρ (m + 1) os
theorem pickB_get {L : List LO} {ρ : Nat → Nat} : ∀ {Lc : List LO} {n : Nat}, pickB L ρ n Lc → ∀ (m : Nat) (o : LO), Lc[m]? = some o → L[ρ (n + m)]? = some (o.ren ρ)
  | [], _, _, m, o, h => by simp at h
  | o0 :: os, n, hp, 0, o, h => by simp at h; subst h; exact hp.1
  | o0 :: os, n, hp, m + 1, o, h => by
    have := pickB_get hp.2 m o (by simpa using h)
    rwa [show n + 1 + m = n + (m + 1) by omega] at this
theorem VO_cG {f : Operand} {fi : Nat} {caps : List SV} {args : Array Operand} {at_ : Array TypeId} {cargs : List SV} {Lc : List LO} {Q : SV → List LO → Prop} (js : List Nat) (hspec : Spec P fi cargs Lc Q)
    (h : ∀ (sv : SV) (Lo : List LO), Q sv Lo → VO P A ops rest ⟨(t, sv.ren (rn js L.length)) :: fr, putA js (Lo.map (LO.ren (rn js L.length))) L, N⟩ K)
    (hf : (St.mk fr L N).ev f = .fn fi caps := by rfl) (hp : pickB L (rn js L.length) 0 Lc := by ((repeat (first | exact trivial | exact rfl | refine And.intro ?_ ?_)); first | done | fail))
    (hjs : (decide js.Nodup && (js.all fun j => Nat.blt j L.length) && js.length == Lc.length && LO.lts Lc.length Lc) = true := by rfl)
    (hargs : AGs L (rn js L.length) Lc.length (args.toList.map (St.mk fr L N).ev ++ caps) cargs := by ((repeat (first | exact trivial | exact .inl ⟨rfl, rfl⟩ | exact .inr ⟨_, rfl, by ((repeat (first | exact trivial | exact rfl | exact ⟨_, rfl⟩ | refine And.intro ?_ ?_)); first | done | fail)⟩ | refine And.intro ?_ ?_)); first | done | fail))
    (ht : Nat.blt t N = true := by rfl) :
    VO P A ops (⟨some t, .call { callee := .value f, args := args, argTypes := at_ }, ty, pos, af, none⟩ :: rest) ⟨fr, L, N⟩ K := by
  have hjs' := hjs
  simp only [Bool.and_eq_true, decide_eq_true_eq, List.all_eq_true, Nat.blt_eq, beq_iff_eq] at hjs'
  obtain ⟨⟨⟨hnd, hlt⟩, hn⟩, hlts⟩ := hjs'
  refine VO_callG js hf hspec ⟨fun m o ho => by simpa using pickB_get hp m o ho, fun m m' _ _ he => rn_inj hlt hnd he, hlts⟩ ?_ hargs ht h
  simp only [Bool.and_eq_true, decide_eq_true_eq, List.all_eq_true, Nat.blt_eq, beq_iff_eq]
  exact ⟨⟨hnd, hlt⟩, hn⟩
theorem N_rG {fn : Func} {Q : SV → List LO → Prop} {n : Nat} (svs : List SV) (Lo : List LO) (hq : Q (mkG svs) Lo) (hL : ∃ L2, σ.L = Lo ++ L2 := by exact ⟨_, rfl⟩) (hl : (LO.lts Lo.length Lo && SV.lts Lo.length svs && Nat.ble n Lo.length) = true := by rfl)
    (hr : ResG P σ fn.results.toList svs := by ((repeat (first | exact .nil | refine .data rfl rfl ?_ | refine .same rfl ?_ | refine .data (ResV_ag rfl rfl TI.h rfl rfl) (by ((repeat (first | exact trivial | exact rfl | exact ⟨_, rfl⟩ | refine And.intro ?_ ?_)); first | done | fail)) ?_)); first | done | fail)) : PostG P fn Q n .normal σ := by
  obtain ⟨L2, hL⟩ := hL
  exact ⟨trivial, svs, Lo, L2, hL, hl, hq, hr⟩
theorem R_rG {fn : Func} {Q : SV → List LO → Prop} {n : Nat} (svs : List SV) (Lo : List LO) (hq : Q (mkG svs) Lo) (hL : ∃ L2, σ.L = Lo ++ L2 := by exact ⟨_, rfl⟩) (hl : (LO.lts Lo.length Lo && SV.lts Lo.length svs && Nat.ble n Lo.length) = true := by rfl)
    (hr : ResG P σ fn.results.toList svs := by ((repeat (first | exact .nil | refine .data rfl rfl ?_ | refine .same rfl ?_ | refine .data (ResV_ag rfl rfl TI.h rfl rfl) (by ((repeat (first | exact trivial | exact rfl | exact ⟨_, rfl⟩ | refine And.intro ?_ ?_)); first | done | fail)) ?_)); first | done | fail)) : PostG P fn Q n .ret σ := ⟨trivial, (N_rG svs Lo hq hL hl hr).2⟩
theorem R_rP {fn : Func} {us : List U} (h : ResPs P σ fn.results.toList us := by ((repeat (first | exact trivial | exact ⟨_, rfl, rfl⟩ | exact ⟨_, rfl, ⟨_, rfl⟩⟩ | exact ⟨_, ResV_ag rfl rfl TI.h rfl rfl, (by (repeat (first | exact trivial | exact rfl | exact ⟨_, rfl⟩ | refine And.intro ?_ ?_)); first | done | fail)⟩ | exact ⟨_, ResV_one rfl rfl TI.h rfl, rfl⟩ | refine And.intro ?_ ?_)); first | done | fail)) : PostP P fn us .ret σ := ⟨trivial, h⟩
theorem R_rO {fn : Func} {es : List TypeId} {us : List U} {ps : List (Option Nat)} (h : ROs P σ fn.results.toList us es ps := by ((repeat (first | exact rfl | exact ResV_ag rfl rfl TI.h rfl rfl | exact ResV_one rfl rfl TI.h rfl | constructor)); first | done | fail)) (hn : decide ((ps.filterMap id).Nodup) = true := by rfl) : PostO P fn es us .ret σ := ⟨trivial, ps, h, hn⟩
/-! ### a call of a function that was handed in -/
theorem QR_callf {f : Operand} {fi : Nat} {caps : List SV} {args : Array Operand} {at_ : Array TypeId} {dargs : List SV} {us : List U} (hspec : SpecP P fi (dargs ++ caps) us) (hc : SV.lts 0 caps = true) (hf : σ.ev f = .fn fi caps := by rfl)
    (hargs : ∀ L', VAs L' (args.toList.map σ.ev) dargs := by (intro L'; (repeat (first | exact trivial | exact rfl | exact ⟨_, rfl⟩ | refine And.intro ?_ ?_)); first | done | fail)) :
    QR P σ ⟨dst, .call { callee := .value f, args := args, argTypes := at_ }, ty, pos, af, g⟩ (mkR us) :=
  fun A fr' L' he _ => Q_callc (by rw [he f (by simp [Op.operands, Call.operands])]; exact hf) hspec (by
    have : args.toList.map (St.ev ⟨fr', L', σ.N⟩) = args.toList.map σ.ev := List.map_congr_left fun x hx => he x (by simp only [Op.operands, Call.operands]; simp; exact .inr (by simpa using hx))
    rw [this]
    exact hargs L') hc
/-! ### arrays -/
theorem VO_l0 {e z bs : Nat} {gg : Bool} [TE P T e] [TI P e gg z bs] (h : VO P A ops rest ⟨(t, .sl i 0) :: fr, L', N⟩ K) (ht : Nat.blt t N = true := by rfl) (hL' : Sn (.own e z 0 []) L i L' := by repeat constructor) :
    VO P A ops (⟨some t, .buildSlice T 0 #[], ty, pos, af, none⟩ :: rest) ⟨fr, L, N⟩ K := VO_slit0 TE.h TI.h ht hL' h
/-- A literal of one element without slices, owned. -/
theorem VO_l1 {e z bs : Nat} {gg : Bool} [TE P T e] [TI P e gg z bs] {zs : List Value} [TZ P e zs] {u : U} {js : List Nat} (h : VO P A ops rest ⟨(t, .sl i 0) :: fr, L', N⟩ K) (hy : OV L ((St.mk fr L N).ev x) u js := by ((repeat constructor); first | done | fail)) (hjs : decide js.Nodup = true := by decide)
    (hz : (Nat.blt 0 z && Nat.blt z 16777216 && zs.length == z) = true := by rfl) (hu : u.sz = z := by rfl) (ht : Nat.blt t N = true := by rfl) (hk1 : KR js L L1 := by repeat constructor) (hL' : Sn (.own e z 0 [u]) L1 i L' := by repeat constructor) :
    VO P A ops (⟨some t, .buildSlice T 1 #[(0, x)], ty, pos, af, none⟩ :: rest) ⟨fr, L, N⟩ K := VR_slit1 hy hjs TE.h TI.h TZ.h hz hu ht hk1 hL' h
/-- A literal of one element, of the call's own (its parts may be shared data). -/
theorem VO_la1 {e z bs : Nat} {gg : Bool} [TE P T e] [TI P e gg z bs] {zs : List Value} [TZ P e zs] {u : U} (h : VO P A ops rest ⟨(t, .sl i 0) :: fr, L', N⟩ K) (hy : VD L ((St.mk fr L N).ev x) u := by ((repeat (first | exact trivial | exact rfl | exact ⟨_, rfl⟩ | refine And.intro ?_ ?_)); first | done | fail))
    (hz : (Nat.blt 0 z && Nat.blt z 16777216 && zs.length == z) = true := by rfl) (hu : u.sz = z := by rfl) (ht : Nat.blt t N = true := by rfl) (hL' : Sn (.arr e z 0 [u]) L i L' := by repeat constructor) :
    VO P A ops (⟨some t, .buildSlice T 1 #[(0, x)], ty, pos, af, none⟩ :: rest) ⟨fr, L, N⟩ K := by
  obtain ⟨hi, hL''⟩ := hL'.spec
  subst hi; subst hL''
  have hT : tyE P T = some e := TE.h
  have he : tyI P e = some (gg, z, bs) := TI.h
  have hZ : tyZ P e = some zs := TZ.h
  simp only [Bool.and_eq_true, Nat.blt_eq, beq_iff_eq] at hz
  refine VO_step rfl (fun S env a w hH hf hN hd => ?_) h
  have hr := VD.r hH hy (Realz.ev hf hH x)
  simp only [SVr] at hr
  obtain ⟨cs, c1, c2⟩ := hr
  have hcells : (a.eval x).cells.toList = cs := by rw [c1]; exact val_cells c2
  have hcl := Rd.length _ _ c2
  rw [hu] at hcl
  obtain ⟨zv, hrz, hzc⟩ := run_zero hZ w
  have hsz : (a.eval x).cells.size = z := by rw [← hcl, ← hcells]; simp
  have hold : ∀ b, b < w.heap.size → (w.alloc (.cells (a.eval x).cells e)).heap[b]? = w.heap[b]? := fun b hb => heap_alloc_old w _ hb
  obtain ⟨hH', C⟩ := hH.new (w' := w.alloc (.cells (a.eval x).cells e)) (.arr e z 0 [u]) (.slice (some ⟨w.heap.size, 0, none⟩) 1 1) (by simp) hold rfl rfl rfl
    (fun b hb => by simp [LO.ft, blk] at hb; subst hb; simp)
    (fun C => ⟨by simp [big_eq], by simpa using hu, cs, ⟨by simp [hcl], .inr ⟨w.heap.size, 1, _, rfl, Nat.zero_le _, heap_alloc_new w _, Nat.le_refl _, by simp [maxLen], by rw [hsz]; simp, by rw [hcells]; rw [List.take_of_length_le (by simp [hcl])]⟩⟩, by
      have := c2.mono C.hS C.hw
      simp only [Rds]
      exact ⟨cs, [], by simp, this, rfl⟩⟩)
  refine ⟨.value (.slice (some ⟨w.heap.size, 0, none⟩) 1 1), _, ?_, .inl ⟨_, rfl, realz_put hf hN hd ht hH' C ?_⟩⟩
  · have hzs : zv.cells.size = z := by rw [← hz.2, ← hzc]; simp
    have hfill : Instr.fill (fun i => some (i * z, z)) ((Array.range (1 * z)).map (zv.cells[· % zv.cells.size]!)) [(0, a.eval x)] = some (a.eval x).cells := by
      rw [run_fill (off := 0) (n := z) (by simp) hsz (by simp)]
      simp only [Instr.fill, Option.some.injEq, List.take_zero, List.nil_append, Nat.zero_add]
      apply Array.ext'
      simp
    have h1 : ¬ z > 2 ^ 24 := by omega
    have h2 : ¬ z = 0 := by omega
    simp only [Nat.one_mul] at hfill
    simp [execOp, Instr.buildSlice, run_underlying (tyE_und hT), run_sizeOf he, hrz, h1, h2, newRow]
    simp only [gt_iff_lt] at h1
    simp [hfill]
  · simp only [SVr]
    exact ⟨.slice (some ⟨w.heap.size, 0, none⟩) 1 1, .arr e z 0 [u], by rw [← hH.len]; simp, by simp, Nat.le_refl _, rfl, fun _ => rfl⟩
/-- Append to an owned array. -/
theorem VO_ap {α : Type} {en : α → U} {es : List α → List U} {z : Nat} [E : Enc α en es z] {l r : List α} (hg : l.length + r.length ≤ 4294967296) {e bs ver : Nat} {gg : Bool} [TE P T e] [TI P e gg z bs] {zs : List Value} [TZ P e zs] {js : List Nat} {T' : TypeId}
    (h : VO P A ops rest ⟨(t, .sl i (ver + 1)) :: fr, L', N⟩ K) (hx : (St.mk fr L N).ev x = .sl i ver := by rfl) (hL : L[i]? = some (.own e z ver (es l)) := by rfl) (hs : SrcO L z ((St.mk fr L N).ev y) (es r) js := by first | exact .own rfl | exact .nil | exact .data (Enc.all _) (eStrs_noSl _) | exact .data (Enc.all _) (eInts_noSl _))
    (hjs : (decide js.Nodup && !js.contains i) = true := by decide) (hz : (Nat.blt 0 z && zs.length == z) = true := by rfl) (hb : Nat.ble bs 32768 = true := by rfl)
    (ht : Nat.blt t N = true := by rfl) (hk1 : KR js L L1 := by repeat constructor) (hL' : St1 (.own e z (ver + 1) (es (l ++ r))) i L1 L' := by repeat constructor) :
    VO P A ops (⟨some t, .call { callee := .builtin .append, args := #[x, y], argTypes := #[T, T] }, T', pos, af, none⟩ :: rest) ⟨fr, L, N⟩ K := by
  have h1 : (es l).length = l.length := Enc.len l
  have h2 : (es r).length = r.length := Enc.len r
  have hb := Nat.le_of_ble_eq_true hb
  rw [Enc.app (es := es)] at hL'
  refine VR_append hx hL hs hjs TE.h TI.h TZ.h hz (by rw [big_eq]; omega) ?_ ht hk1 hL' h
  rw [h1, h2]
  exact Nat.le_trans (Nat.mul_le_mul hg hb) (by decide)
/-! ### an owned array is let go: from here on it is data -/
theorem Realz.freezeO {a : Act} {w : World} {i e z ver : Nat} {es : List U} (hL : σ.L[i]? = some (.own e z ver es)) (h : Realz A σ a w) : Realz A ⟨σ.fr, σ.L.set i (.frz e z ver es), σ.N⟩ a w := by
  obtain ⟨S, env, hH, hf, hN, hd⟩ := h
  have hi := (List.getElem?_eq_some_iff.1 hL).1
  have hie : i < env.length := by rw [hH.len]; exact hi
  obtain ⟨hv, he⟩ : ∃ hv, env[i]? = some hv := ⟨_, List.getElem?_eq_getElem hie⟩
  have hob := hH.objs i _ hv hL he
  let S' : Nat → Prop := fun b => S b ∨ b ∈ (U.sl z es).fp w [hv]
  have hset : ∀ (j : Nat) (o' : LO), (σ.L.set i (.frz e z ver es))[j]? = some o' → (j = i ∧ o' = .frz e z ver es) ∨ (j ≠ i ∧ σ.L[j]? = some o') := by
    intro j o' hj
    by_cases hij : i = j
    · subst hij
      rw [List.getElem?_set_self hi] at hj
      exact .inl ⟨rfl, (Option.some.inj hj).symm⟩
    · rw [List.getElem?_set_ne hij] at hj
      exact .inr ⟨fun e => hij e.symm, hj⟩
  have C : Carry S σ.L env w S' (σ.L.set i (.frz e z ver es)) env w := by
    refine ⟨fun b hb _ => .inl hb, fun _ _ _ => rfl, fun _ _ h => h, fun j hv' o' h1 h2 => ?_⟩
    by_cases hij : i = j
    · subst hij
      rw [hL] at h2
      obtain rfl := Option.some.inj h2
      exact ⟨hv', .frz e z ver es, h1, by rw [List.getElem?_set_self hi], Nat.le_refl _, fun _ => rfl⟩
    · exact ⟨hv', o', h1, by rw [List.getElem?_set_ne hij]; exact h2, Nat.le_refl _, fun _ => rfl⟩
  refine ⟨S', env, ⟨by simp [hH.len], ?_, ?_, ?_, ?_, ?_, hH.frame, hH.size, hH.os, hH.tape, hH.output, hH.base.carry C hH.len (by simp), hH.glob⟩, fun t => SVr.carry C _ _ (hf t), hN, hd⟩
  · intro j o' hv' h1 h2
    rcases hset j o' h1 with ⟨rfl, rfl⟩ | ⟨hj, h3⟩
    · rw [he] at h2
      obtain rfl := Option.some.inj h2
      exact ⟨[hv], rfl, Tr.rd _ _ (own_tr hob) (fun b hb => .inr hb)⟩
    · exact ObjR.carry C (fun _ _ _ => rfl) (hH.objs j o' hv' h3 h2)
  · intro j o' hv' b h1 hl h2 hb
    rcases hset j o' h1 with ⟨rfl, rfl⟩ | ⟨hj, h3⟩
    · cases hl
    · have := hH.excl j o' hv' b h3 hl h2 hb
      refine ⟨fun hs => hs.elim this.1 (fun hs => hj (hH.dist j i o' _ hv' hv b h3 hL hl rfl h2 he hb (show (LO.own e z ver es).ft w hv b from hs))), this.2⟩
  · intro j j' o1 o1' hv1 hv1' k h1 h2 hl1 hl2 e1 e2 b1 b2
    rcases hset j o1 h1 with ⟨rfl, rfl⟩ | ⟨hj, h3⟩
    · cases hl1
    · rcases hset j' o1' h2 with ⟨rfl, rfl⟩ | ⟨hj', h3'⟩
      · cases hl2
      · exact hH.dist j j' o1 o1' hv1 hv1' k h3 h3' hl1 hl2 e1 e2 b1 b2
  · intro b hb
    rcases hb with hb | hb
    · exact hH.sS b hb
    · exact (hH.excl i _ hv b hL rfl he hb).2.2
  · intro b hb
    rcases hb with hb | hb
    · exact hH.sA b hb
    · exact .inr (hH.excl i _ hv b hL rfl he hb).2.1
theorem V_freezeO (i : Nat) {e z ver : Nat} {es : List U} (hL : L[i]? = some (.own e z ver es)) (hL' : L.set i (.frz e z ver es) = L') (h : V P A c ⟨fr, L', N⟩ Q) : V P A c ⟨fr, L, N⟩ Q := by
  subst hL'
  exact fun a w hr => h a w (hr.freezeO (σ := ⟨fr, L, N⟩) hL)
theorem VO_freezeO (i : Nat) {e z ver : Nat} {es : List U} (hL : L[i]? = some (.own e z ver es)) (hL' : L.set i (.frz e z ver es) = L') (h : VO P A ops rest ⟨fr, L', N⟩ K) : VO P A ops rest ⟨fr, L, N⟩ K := by
  subst hL'
  exact fun R hR a w hr => h R hR a w (hr.freezeO (σ := ⟨fr, L, N⟩) hL)
/-! ### how long a list that is held can be -/
theorem V_bd {α : Type} {e : α → U} {es : List α → List U} {z : Nat} [E : Enc α e es z] {l : List α} {z' : Nat} (j : Nat) (h : l.length ≤ 140737488355328 → V P A c ⟨fr, L, N⟩ Q) (hb : look fr j = .d (.sl z' (es l)) := by rfl) : V P A c ⟨fr, L, N⟩ Q := by
  intro a w hr
  refine h ?_ a w hr
  obtain ⟨S, env, hH, hf, hN, hd⟩ := hr
  have := hf j
  simp only at this
  rw [hb] at this
  have := (SVr.slice.1 this).1
  rwa [Enc.len, big_eq] at this
theorem V_bdc {α : Type} {e : α → U} {es : List α → List U} {z : Nat} [E : Enc α e es z] {l : List α} {z' : Nat} {cs : List SV} (i j : Nat) (h : l.length ≤ 140737488355328 → V P A c ⟨fr, L, N⟩ Q) (hL : L[i]? = some (.box cs) := by rfl) (hb : cs[j]? = some (.d (.sl z' (es l))) := by rfl) : V P A c ⟨fr, L, N⟩ Q := by
  intro a w hr
  refine h ?_ a w hr
  obtain ⟨S, env, hH, hf, hN, hd⟩ := hr
  obtain ⟨hv, he⟩ : ∃ hv, env[i]? = some hv := ⟨_, List.getElem?_eq_getElem (by rw [hH.len]; exact (List.getElem?_eq_some_iff.1 hL).1)⟩
  obtain ⟨b, vals, e', r1, r2, r3, r4⟩ := hH.objs i _ hv hL he
  obtain ⟨v, v1, v2⟩ := SVrs.get r3 j _ hb
  have := (SVr.slice.1 v2).1
  rwa [Enc.len, big_eq] at this
theorem V_bdS {l : List UInt8} (j : Nat) (h : l.length ≤ 140737488355328 → V P A c ⟨fr, L, N⟩ Q) (hb : look fr j = .d (.s l) := by rfl) : V P A c ⟨fr, L, N⟩ Q := by
  intro a w hr
  refine h ?_ a w hr
  obtain ⟨S, env, hH, hf, hN, hd⟩ := hr
  have := hf j
  simp only at this
  rw [hb] at this
  have := (SVr.str.1 this).1
  rwa [big_eq] at this
end
/-- The like in a region that draws its order and holds more than quiet operations. -/
theorem goY {X Y : Prop} (hy : Y) (h : Y → X := by
    intro hy
    repeat (first | refine VY_r QR_len ?_ | refine VY_d rfl ?_ (by (repeat constructor); first | done | fail) | refine VY_h rfl (by repeat constructor) (by repeat (first | exact PfOk.nil | (apply PfOk.keep; focus ((repeat constructor); done)) | (apply PfOk.dep; focus kernel_rfl))) ?_)
    exact hy) : X := h hy
end Go.Eng
namespace Go.Proofs.YtgmlpaaklnkghaaGreat
open Go Go.Eng
instance ti3 : TI Tryz.prog 3 false 1 8 := ⟨by kernel_rfl⟩
instance tz3 : TZ Tryz.prog 3 [.int .i64 0] := ⟨by kernel_rfl⟩
instance tb4 : TB Tryz.prog 4 := ⟨by kernel_rfl⟩
instance ti5 : TI Tryz.prog 5 false 1 1 := ⟨by kernel_rfl⟩
instance tz5 : TZ Tryz.prog 5 [.int .u8 0] := ⟨by kernel_rfl⟩
instance ti9 : TI Tryz.prog 9 false 1 16 := ⟨by kernel_rfl⟩
instance tss9 : TS Tryz.prog 9 := ⟨by kernel_rfl⟩
instance tz9 : TZ Tryz.prog 9 [.string ⟨#[]⟩] := ⟨by kernel_rfl⟩
instance ti22 : TI Tryz.prog 22 false 1 24 := ⟨by kernel_rfl⟩
instance te22 : TE Tryz.prog 22 5 := ⟨by kernel_rfl⟩
instance te24 : TE Tryz.prog 24 37 := ⟨by kernel_rfl⟩
instance ti25 : TI Tryz.prog 25 false 1 24 := ⟨by kernel_rfl⟩
instance te25 : TE Tryz.prog 25 27 := ⟨by kernel_rfl⟩
instance ti27 : TI Tryz.prog 27 true 3 48 := ⟨by kernel_rfl⟩
instance tf27_0 : TF Tryz.prog 27 0 0 := ⟨by kernel_rfl⟩
instance tf27_1 : TF Tryz.prog 27 1 1 := ⟨by kernel_rfl⟩
instance tf27_2 : TF Tryz.prog 27 2 2 := ⟨by kernel_rfl⟩
instance tbd27 : TBd Tryz.prog 27 := ⟨by kernel_rfl⟩
instance tfs27_0 : TFS Tryz.prog 27 0 0 1 := ⟨by kernel_rfl⟩
instance tfs27_1 : TFS Tryz.prog 27 1 1 1 := ⟨by kernel_rfl⟩
instance tfs27_2 : TFS Tryz.prog 27 2 2 1 := ⟨by kernel_rfl⟩
instance tz27 : TZ Tryz.prog 27 [.int .i64 0, .string ⟨#[]⟩, .slice none 0 0] := ⟨by kernel_rfl⟩
instance ti37 : TI Tryz.prog 37 true 4 64 := ⟨by kernel_rfl⟩
instance tf37_0 : TF Tryz.prog 37 0 0 := ⟨by kernel_rfl⟩
instance tf37_1 : TF Tryz.prog 37 1 1 := ⟨by kernel_rfl⟩
instance tbd37 : TBd Tryz.prog 37 := ⟨by kernel_rfl⟩
instance tfs37_0 : TFS Tryz.prog 37 0 0 1 := ⟨by kernel_rfl⟩
instance tfs37_1 : TFS Tryz.prog 37 1 1 3 := ⟨by kernel_rfl⟩
instance tz37 : TZ Tryz.prog 37 [.string ⟨#[]⟩, .int .i64 0, .string ⟨#[]⟩, .slice none 0 0] := ⟨by kernel_rfl⟩
instance ti39 : TI Tryz.prog 39 true 2 16 := ⟨by kernel_rfl⟩
instance tf39_0 : TF Tryz.prog 39 0 0 := ⟨by kernel_rfl⟩
instance tf39_1 : TF Tryz.prog 39 1 1 := ⟨by kernel_rfl⟩
instance tbd39 : TBd Tryz.prog 39 := ⟨by kernel_rfl⟩
instance tfs39_0 : TFS Tryz.prog 39 0 0 1 := ⟨by kernel_rfl⟩
instance tfs39_1 : TFS Tryz.prog 39 1 1 1 := ⟨by kernel_rfl⟩
instance tz39 : TZ Tryz.prog 39 [.int .i64 0, .int .i64 0] := ⟨by kernel_rfl⟩
instance ti40 : TI Tryz.prog 40 false 1 24 := ⟨by kernel_rfl⟩
instance te40 : TE Tryz.prog 40 42 := ⟨by kernel_rfl⟩
instance ti42 : TI Tryz.prog 42 true 5 56 := ⟨by kernel_rfl⟩
instance tf42_0 : TF Tryz.prog 42 0 0 := ⟨by kernel_rfl⟩
instance tf42_1 : TF Tryz.prog 42 1 1 := ⟨by kernel_rfl⟩
instance tf42_2 : TF Tryz.prog 42 2 2 := ⟨by kernel_rfl⟩
instance tf42_3 : TF Tryz.prog 42 3 4 := ⟨by kernel_rfl⟩
instance tbd42 : TBd Tryz.prog 42 := ⟨by kernel_rfl⟩
instance tfs42_0 : TFS Tryz.prog 42 0 0 1 := ⟨by kernel_rfl⟩
instance tfs42_1 : TFS Tryz.prog 42 1 1 1 := ⟨by kernel_rfl⟩
instance tfs42_2 : TFS Tryz.prog 42 2 2 2 := ⟨by kernel_rfl⟩
instance tfs42_3 : TFS Tryz.prog 42 3 4 1 := ⟨by kernel_rfl⟩
instance tz42 : TZ Tryz.prog 42 [.int .i64 0, .int .i64 0, .int .i64 0, .int .i64 0, .slice none 0 0] := ⟨by kernel_rfl⟩
instance te43 : TE Tryz.prog 43 3 := ⟨by kernel_rfl⟩
instance ti54 : TI Tryz.prog 54 false 1 24 := ⟨by kernel_rfl⟩
instance te54 : TE Tryz.prog 54 56 := ⟨by kernel_rfl⟩
instance ti56 : TI Tryz.prog 56 true 2 40 := ⟨by kernel_rfl⟩
instance tf56_0 : TF Tryz.prog 56 0 0 := ⟨by kernel_rfl⟩
instance tf56_1 : TF Tryz.prog 56 1 1 := ⟨by kernel_rfl⟩
instance tbd56 : TBd Tryz.prog 56 := ⟨by kernel_rfl⟩
instance tfs56_0 : TFS Tryz.prog 56 0 0 1 := ⟨by kernel_rfl⟩
instance tfs56_1 : TFS Tryz.prog 56 1 1 1 := ⟨by kernel_rfl⟩
instance tz56 : TZ Tryz.prog 56 [.string ⟨#[]⟩, .slice none 0 0] := ⟨by kernel_rfl⟩
instance tf67_0 : TF Tryz.prog 67 0 0 := ⟨by kernel_rfl⟩
instance tf67_1 : TF Tryz.prog 67 1 1 := ⟨by kernel_rfl⟩
instance tf67_2 : TF Tryz.prog 67 2 2 := ⟨by kernel_rfl⟩
instance tbd67 : TBd Tryz.prog 67 := ⟨by kernel_rfl⟩
instance tfs67_0 : TFS Tryz.prog 67 0 0 1 := ⟨by kernel_rfl⟩
instance tfs67_2 : TFS Tryz.prog 67 2 2 1 := ⟨by kernel_rfl⟩
instance tz67 : TZ Tryz.prog 67 [.slice none 0 0, .int .i64 0, .int .i64 0] := ⟨by kernel_rfl⟩
instance te69 : TE Tryz.prog 69 9 := ⟨by kernel_rfl⟩
instance tp39 : TP Tryz.prog 39 := by
  refine ⟨?_⟩
  intro w a b c d
  refine ⟨by kernel_rfl, ?_⟩
  have hund : Tryz.prog.underlying 39 = some (.struct (Tryz.prog.fieldsOf 39)) := by kernel_rfl
  have hh : Tryz.prog.stoodInHeld 39 = false := by kernel_rfl
  have hf : (Tryz.prog.fieldsOf 39).toList = [{ name := "Package", type := 3, offset := 0, embedded := false, tag := "", pkgPath := "", byteOffset := 0 }, { name := "At", type := 3, offset := 1, embedded := false, tag := "", pkgPath := "", byteOffset := 8 }] := by kernel_rfl
  have hi : Tryz.prog.underlying 3 = some (.int .i64) := by kernel_rfl
  have hg : tyI Tryz.prog 3 = some (false, 1, 8) := by kernel_rfl
  have hint : ∀ (d : Nat) (w : World) (a c : Int), (Op.equalIn (d + 1) 3 (.int .i64 a) (.int .i64 c)).run Tryz.prog w = .ok (a == c) w := by
    intro d w a c
    simp [Op.equalIn, run_underlying hi]
  unfold Op.equal Op.maxDepth
  rw [run_equalIn_struct w 9999 39 _ _ hund hh, hf]
  have h9 := hint 9998
  rw [show 9998 + 1 = 9999 from rfl] at h9
  by_cases h1 : a = c <;> by_cases h2 : b = d <;> simp [Op.eqFields, part, run_isAgg hg, h9, h1, h2]
theorem tmix : Tryz.prog.follows .mixedOrders = true := by kernel_rfl
instance : Mix Tryz.prog := ⟨tmix⟩
end Go.Proofs.YtgmlpaaklnkghaaGreat
set_option linter.unusedVariables false
set_option linter.unusedSimpArgs false
namespace Go.Eng
open Go Go.RowKit
end Go.Eng
set_option linter.unusedVariables false
set_option linter.unusedSimpArgs false
namespace Go.Eng
open Go Go.RowKit
theorem fill_all {z : Nat} (hz : 0 < z) : ∀ (vs : List Value) (k : Nat) (pre post : List Value), (∀ v ∈ vs, v.cells.size = z) → pre.length = k * z → post.length = vs.length * z →
    Instr.fill (fun i => some (i * z, z)) (pre ++ post).toArray ((vs.zipIdx k).map fun p => (p.2, p.1)) = some (pre ++ vs.flatMap fun v => v.cells.toList).toArray
  | [], k, pre, post, _, _, hp => by
    simp only [List.length_nil, Nat.zero_mul, List.length_eq_zero_iff] at hp
    subst hp
    simp [Instr.fill]
  | v :: vs, k, pre, post, hv, h1, h2 => by
    have hvz := hv v (by simp)
    have hpl : z ≤ post.length := by rw [h2, List.length_cons, Nat.add_mul]; omega
    simp only [List.zipIdx_cons, List.map_cons]
    rw [run_fill (off := k * z) (n := z) rfl hvz (by simp only [List.size_toArray, List.length_append]; omega)]
    have e1 : (pre ++ post).toArray.toList.take (k * z) = pre := by simp [← h1]
    have e2 : (pre ++ post).toArray.toList.drop (k * z + z) = post.drop z := by
      show (pre ++ post).drop (k * z + z) = _
      rw [← h1, List.drop_append, List.drop_eq_nil_of_le (by omega), Nat.add_sub_cancel_left, List.nil_append]
    rw [e1, e2]
    have hcl : v.cells.toList.length = z := by simpa using hvz
    have := fill_all hz vs (k + 1) (pre ++ v.cells.toList) (post.drop z) (fun w hw => hv w (by simp [hw])) (by simp [h1, hvz, Nat.add_mul]) (by simp [h2, Nat.add_mul])
    rw [this]
    simp
/-- Operands seen as data, one by one. -/
inductive VDs (σ : St) : List Operand → List U → Prop
  | nil : VDs σ [] []
  | cons {x : Operand} {l : List Operand} {u : U} {us : List U} (h : VD σ.L (σ.ev x) u) (h2 : VDs σ l us) : VDs σ (x :: l) (u :: us)
theorem VDs.r {A : Amb} {S : Nat → Prop} {env : List Value} {a : Act} {w : World} {σ : St} {z : Nat} (hH : HeapR A S σ.L env w) (hf : ∀ t, SVr S σ.L env w (look σ.fr t) (a.tmps.getD t undef)) {l : List Operand} {us : List U} (h : VDs σ l us) : (∀ u ∈ us, u.sz = z) →
    l.length = us.length ∧ (∀ v ∈ l.map a.eval, v.cells.size = z) ∧ Rds S w us ((l.map a.eval).flatMap fun v => v.cells.toList) := by
  induction h with
  | nil => intro _; exact ⟨rfl, by simp, rfl⟩
  | @cons x l u us h h2 ih =>
    intro hz
    obtain ⟨k1, k2, k3⟩ := ih (fun u hu => hz u (by simp [hu]))
    have hr := VD.r hH h (Realz.ev hf hH x)
    simp only [SVr] at hr
    obtain ⟨cs, c1, c2⟩ := hr
    have hcells : (a.eval x).cells.toList = cs := by rw [c1]; exact val_cells c2
    have hcl := Rd.length _ _ c2
    rw [hz u (by simp)] at hcl
    refine ⟨by simp [k1], ?_, ?_⟩
    · intro v hv
      simp only [List.map_cons, List.mem_cons] at hv
      rcases hv with rfl | hv
      · rw [← hcl, ← hcells]; simp
      · exact k2 v hv
    · simp only [List.map_cons, List.flatMap_cons, Rds]
      exact ⟨cs, _, by rw [hcells], c2, k3⟩
section
variable {P : Program} {A : Amb} {ops : Array Oper} {K : St → Prop} {Q : Exit → St → Prop} {rest : List Oper} {σ : St} {fr : List (Nat × SV)} {L L1 L' : List LO} {N i t : Nat} {sv : SV} {o : Oper} {c : Code}
variable {ty T : TypeId} {pos : String} {af : Array Edge} {x y : Operand} {g : Option (Nat × Bool)} {dst : Option Nat} {op : Op}
theorem slit_run {e z bs : Nat} {gg : Bool} {zs : List Value} {a : Act} {w : World} {n : Nat} {ps : Array (Nat × Operand)} {l : List Operand} (hT : tyE P T = some e) (he : tyI P e = some (gg, z, bs)) (hZ : tyZ P e = some zs) (hz : (Nat.blt 0 z && Nat.ble (n * z) 16777216 && zs.length == z) = true)
    (hn : l.length = n) (h0 : 0 < n) (hps : ps.toList = (l.zipIdx 0).map fun p => (p.2, p.1)) (hv : ∀ v ∈ l.map a.eval, v.cells.size = z) :
    (execOp a.eval ⟨dst, .buildSlice T n ps, ty, pos, af, g⟩).run P w = .ok (.value (.slice (some ⟨w.heap.size, 0, none⟩) n n)) (w.alloc (.cells ((l.map a.eval).flatMap fun v => v.cells.toList).toArray e)) := by
  simp only [Bool.and_eq_true, Nat.blt_eq, beq_iff_eq] at hz
  obtain ⟨⟨hz0, hz1⟩, hz2⟩ := hz
  have hz1 := Nat.le_of_ble_eq_true hz1
  obtain ⟨zv, hrz, hzc⟩ := run_zero hZ w
  have hzs : zv.cells.size = z := by rw [← hz2, ← hzc]; simp
  have hpar : (ps.map fun p => (p.1, a.eval p.2)).toList = ((l.map a.eval).zipIdx 0).map fun p => (p.2, p.1) := by
    rw [Array.toList_map, hps, List.zipIdx_map, List.map_map, List.map_map]
    rfl
  have hfill := fill_all hz0 (l.map a.eval) 0 [] ((List.range (n * z)).map (zv.cells[· % zv.cells.size]!)) hv (by simp) (by simp [hn])
  simp only [List.nil_append] at hfill
  have hne : ¬ n * z = 0 := by
    have := Nat.mul_pos h0 hz0
    omega
  have harr : (Array.range (n * z)).map (zv.cells[· % zv.cells.size]!) = ((List.range (n * z)).map (zv.cells[· % zv.cells.size]!)).toArray := by
    apply Array.ext'
    simp
  have h2 : ¬ n * z > 2 ^ 24 := by omega
  simp only [execOp, Instr.buildSlice, Sem.run_bind, run_underlying (tyE_und hT), Result.andThen_ok, run_sizeOf he, h2, if_false, hne, hrz, Sem.run_pure, harr, hpar, hfill, newRow]
  simp
/-- A literal of several elements, of the call's own (its parts may be shared data). -/
theorem VO_la {e z bs n : Nat} {gg : Bool} [TE P T e] [TI P e gg z bs] {zs : List Value} [TZ P e zs] {us : List U} {ps : Array (Nat × Operand)} {l : List Operand} (h : VO P A ops rest ⟨(t, .sl i 0) :: fr, L', N⟩ K) (hps : ps.toList = (l.zipIdx 0).map fun p => (p.2, p.1) := by rfl)
    (hy : VDs ⟨fr, L, N⟩ l us := by (repeat (first | exact .nil | refine .cons (by ((repeat (first | exact trivial | exact rfl | exact ⟨_, rfl⟩ | refine And.intro ?_ ?_)); first | done | fail)) ?_))) (hu : (us.all fun u => u.sz == z) = true := by rfl) (hn : (l.length == n && Nat.blt 0 n) = true := by rfl)
    (hz : (Nat.blt 0 z && Nat.ble (n * z) 16777216 && zs.length == z) = true := by rfl) (ht : Nat.blt t N = true := by rfl) (hL' : Sn (.arr e z 0 us) L i L' := by repeat constructor) :
    VO P A ops (⟨some t, .buildSlice T n ps, ty, pos, af, none⟩ :: rest) ⟨fr, L, N⟩ K := by
  obtain ⟨hi, hL''⟩ := hL'.spec
  subst hi; subst hL''
  simp only [Bool.and_eq_true, beq_iff_eq, Nat.blt_eq] at hn
  have hsz : ∀ u ∈ us, u.sz = z := by simpa using hu
  refine VO_step rfl (fun S env a w hH hf hN hd => ?_) h
  obtain ⟨k1, k2, k3⟩ := VDs.r hH hf hy hsz
  have hlen := Rds.length _ _ k3
  have hszs : U.szs us = us.length * z := by
    have : ∀ (us : List U), (∀ u ∈ us, u.sz = z) → U.szs us = us.length * z := by
      intro us
      induction us with
      | nil => intro _; simp [U.szs]
      | cons u us ih => intro h; simp only [U.szs, List.length_cons, Nat.add_mul]; rw [h u (by simp), ih (fun v hv => h v (by simp [hv]))]; omega
    exact this us hsz
  have hbig : us.length ≤ 16777216 := by
    simp only [Bool.and_eq_true, Nat.blt_eq] at hz
    have h1 := Nat.le_of_ble_eq_true hz.1.2
    have h2 : n * 1 ≤ n * z := Nat.mul_le_mul_left n hz.1.1
    omega
  have hold : ∀ b, b < w.heap.size → (w.alloc (.cells ((l.map a.eval).flatMap fun v => v.cells.toList).toArray e)).heap[b]? = w.heap[b]? := fun b hb => heap_alloc_old w _ hb
  obtain ⟨hH', C⟩ := hH.new (w' := w.alloc (.cells ((l.map a.eval).flatMap fun v => v.cells.toList).toArray e)) (.arr e z 0 us) (.slice (some ⟨w.heap.size, 0, none⟩) n n) (by simp) hold rfl rfl rfl
    (fun b hb => by simp [LO.ft, blk] at hb; subst hb; simp)
    (fun C => ⟨by rw [big_eq]; omega, hsz, _, ⟨by rw [hlen, hszs], .inr ⟨w.heap.size, n, _, by rw [← k1, hn.1], Nat.zero_le _, heap_alloc_new w _, by omega, by simp [maxLen]; omega, by simp only [List.size_toArray]; rw [hlen, hszs, ← k1, hn.1], by
      rw [List.take_of_length_le]
      simp only [hlen, hszs, Nat.le_refl]⟩⟩, Rds.mono C.hS C.hw _ _ k3⟩)
  refine ⟨.value (.slice (some ⟨w.heap.size, 0, none⟩) n n), _, slit_run TE.h TI.h TZ.h hz hn.1 hn.2 hps k2, .inl ⟨_, rfl, realz_put hf hN hd ht hH' C ?_⟩⟩
  simp only [SVr]
  exact ⟨.slice (some ⟨w.heap.size, 0, none⟩) n n, .arr e z 0 us, by rw [← hH.len]; simp, by simp, Nat.le_refl _, rfl, fun _ => rfl⟩
/-- The greater of two integers. -/
theorem QR_max {T' ty' : TypeId} {k : IntKind} {m n : Int} (hx : σ.ev x = .d (.i k m) := by rfl) (hy : σ.ev y = .d (.i k n) := by rfl) : QR P σ ⟨dst, .call { callee := .builtin .max, args := #[x, y], argTypes := #[T, T'] }, ty', pos, af, g⟩ (.d (.i k (if m < n then n else m))) :=
  fun A fr' L' he _ => Quiet.pure fun S env a w hH ho => by
    have h1 := ho x (by simp [Op.operands, Call.operands])
    have h2 := ho y (by simp [Op.operands, Call.operands])
    rw [he x (by simp [Op.operands, Call.operands]), hx] at h1
    rw [he y (by simp [Op.operands, Call.operands]), hy] at h2
    have h1 := SVr.int.1 h1
    have h2 := SVr.int.1 h2
    refine ⟨.int k (if m < n then n else m), ?_, SVr.int.2 rfl⟩
    by_cases hmn : m < n <;> simp [execOp, resolve, invoke, builtin, h1, h2, Builtin.max_, Builtin.max2, hmn]
end
end Go.Eng
