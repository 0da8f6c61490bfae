/- The engine, part 29: owned arrays in regions that draw their order. -/
import Derived.Test.YtdofnoeiogjpjaaEng28
namespace Go.Eng
open Go Go.RowKit
section
variable {P : Program} {A : Amb} {ops : Array Oper} {K : St → Prop} {r : List (Nat × Bool)} {pf : PF} {o : Oper} {fr : List (Nat × SV)} {L L1 L' : List LO} {N i t j : Nat} {sv : SV}
variable {ty : TypeId} {pos : String} {af : Array Edge} {x y : Operand}
theorem VY_hst (hi : ops[i]? = some o) (h : HSt P A ops ⟨fr, L, N⟩ o sv L') (hp : PfOk ops i L' pf) (hv : VY P A ops K r pf (St.setO ⟨fr, L', N⟩ o.dst sv)) : VY P A ops K ((i, false) :: r) pf ⟨fr, L, N⟩ := ⟨o, sv, L', hi, h, hp.ok, hv⟩
theorem HSt_append {T e T' : TypeId} {gg : Bool} {z bs ver : Nat} {zs : List Value} {es us : List U} {js : List Nat} (hx : (St.mk fr L N).ev x = .sl i ver) (hL : L[i]? = some (.own e z ver es)) (hs : SrcO L z ((St.mk fr L N).ev y) us js)
    (hjs : (decide js.Nodup && !js.contains i) = true) (hT : tyE P T = some e) (he : tyI P e = some (gg, z, bs)) (hZ : tyZ P e = some zs) (hz : (Nat.blt 0 z && zs.length == z) = true)
    (hbig : es.length + us.length ≤ big) (hbytes : (es.length + us.length) * bs ≤ 140737488355328) (ht : Nat.blt t N = true) (hk1 : KR js L L1) (hL' : St1 (.own e z (ver + 1) (es ++ us)) i L1 L') :
    HSt P A ops ⟨fr, L, N⟩ ⟨some t, .call { callee := .builtin .append, args := #[x, y], argTypes := #[T, T] }, T', pos, af, none⟩ (.sl i (ver + 1)) L' := fun _ he' _ hK =>
  VR_append (by rw [he' x (by simp [Op.operands, Call.operands])]; exact hx) hL (by rw [he' y (by simp [Op.operands, Call.operands])]; exact hs) hjs hT he hZ hz hbig hbytes ht hk1 hL' (VO_nil hK)
theorem HSt_append_nil {T e T' : TypeId} {gg : Bool} {z bs : Nat} {zs : List Value} {us : List U} {js : List Nat} (hx : (St.mk fr L N).ev x = .nilsl) (hs : SrcO L z ((St.mk fr L N).ev y) us js) (hjs : decide js.Nodup = true)
    (hT : tyE P T = some e) (he : tyI P e = some (gg, z, bs)) (hZ : tyZ P e = some zs) (hz : (Nat.blt 0 z && zs.length == z) = true)
    (hbig : us.length ≤ big) (hbytes : us.length * bs ≤ 140737488355328) (ht : Nat.blt t N = true) (hk1 : KR js L L1) (hL' : Sn (.own e z 0 us) L1 i L') :
    HSt P A ops ⟨fr, L, N⟩ ⟨some t, .call { callee := .builtin .append, args := #[x, y], argTypes := #[T, T] }, T', pos, af, none⟩ (.sl i 0) L' := fun _ he' _ hK =>
  VR_append_nil (by rw [he' x (by simp [Op.operands, Call.operands])]; exact hx) (by rw [he' y (by simp [Op.operands, Call.operands])]; exact hs) hjs hT he hZ hz hbig hbytes ht hk1 hL' (VO_nil hK)
theorem HSt_slit1 {T e : TypeId} {gg : Bool} {z bs : Nat} {zs : List Value} {u : U} {js : List Nat} (hy : OV L ((St.mk fr L N).ev x) u js) (hjs : decide js.Nodup = true) (hT : tyE P T = some e) (he : tyI P e = some (gg, z, bs)) (hZ : tyZ P e = some zs)
    (hz : (Nat.blt 0 z && Nat.blt z 16777216 && zs.length == z) = true) (hu : u.sz = z) (ht : Nat.blt t N = true) (hk1 : KR js L L1) (hL' : Sn (.own e z 0 [u]) L1 i L') :
    HSt P A ops ⟨fr, L, N⟩ ⟨some t, .buildSlice T 1 #[(0, x)], ty, pos, af, none⟩ (.sl i 0) L' := fun _ he' _ hK =>
  VR_slit1 (by rw [he' x (by simp [Op.operands])]; exact hy) hjs hT he hZ hz hu ht hk1 hL' (VO_nil hK)
theorem HSt_slit0 {T e : TypeId} {gg : Bool} {z bs : Nat} (hT : tyE P T = some e) (he : tyI P e = some (gg, z, bs)) (ht : Nat.blt t N = true) (hL' : Sn (.own e z 0 []) L i L') :
    HSt P A ops ⟨fr, L, N⟩ ⟨some t, .buildSlice T 0 #[], ty, pos, af, none⟩ (.sl i 0) L' := fun _ _ _ hK => VO_slit0 hT he ht hL' (VO_nil hK)
/-- nil seen as an owned array: a cell of a variable. -/
theorem Realz.adopt {a : Act} {w : World} {cs cs' : List SV} {e z : Nat} (hL : L[j]? = some (.box cs)) (k : Nat) (hc : cs[k]? = some .nilsl) (hcs : cs.set k (.sl L.length 0) = cs') (h : Realz A ⟨fr, L, N⟩ a w) : Realz A ⟨fr, L.set j (.box cs') ++ [.own e z 0 []], N⟩ a w := by
  subst hcs
  obtain ⟨S, env, hH, hf, hN, hd⟩ := h
  have hj := (List.getElem?_eq_some_iff.1 hL).1
  -- the new object
  obtain ⟨hH1, C1⟩ := hH.newO [] (.own e z 0 []) (.slice none 0 0) (Nat.le_refl _) (fun _ _ => rfl) rfl rfl rfl (fun b hb => by simp only [LO.ft] at hb; rw [(Tr.nil w z).2] at hb; cases hb) (fun _ => nil_own e z 0)
  rw [kill_nil] at hH1 C1
  have hL1 : (L ++ [LO.own e z 0 []])[j]? = some (.box cs) := by rw [List.getElem?_append_left hj]; exact hL
  have hje : j < (env ++ [Value.slice none 0 0]).length := by rw [hH1.len]; simp; omega
  obtain ⟨hv, he⟩ : ∃ hv, (env ++ [Value.slice none 0 0])[j]? = some hv := ⟨_, List.getElem?_eq_getElem hje⟩
  obtain ⟨b, vals, e', r1, r2, r3, r4⟩ := hH1.objs j _ hv hL1 he
  obtain ⟨hH2, C2⟩ := hH1.turnF (w' := w) j (.box cs) (.box (cs.set k (.sl L.length 0))) hv hL1 rfl he rfl rfl (fun _ _ => rfl) rfl rfl rfl (fun k hk => hk) (fun C => ⟨b, vals, e', r1, r2, by
    have r3' := SVrs.carry C _ _ r3
    rw [SVrs.iff] at r3' ⊢
    obtain ⟨v, v1, v2⟩ := All2.get ((SVrs.iff _ _).1 r3) k _ hc
    simp only [SVr] at v2
    subst v2
    have hset := All2.set k (.sl L.length 0) (.slice none 0 0) r3' (by
      simp only [SVr]
      refine ⟨.slice none 0 0, .own e z 0 [], by rw [← hH.len]; simp, ?_, Nat.le_refl _, rfl, fun _ => rfl⟩
      rw [List.getElem?_set_ne (by omega)]
      simp)
    have hk : k < vals.toList.length := (List.getElem?_eq_some_iff.1 v1).1
    have : vals.toList.set k (.slice none 0 0) = vals.toList := by
      apply List.ext_getElem?
      intro m
      rw [List.getElem?_set]
      by_cases hm : k = m
      · subst hm; rw [if_pos rfl, if_pos hk, v1]
      · rw [if_neg hm]
    rwa [this] at hset, r4⟩)
  have hse : (L ++ [LO.own e z 0 []]).set j (.box (cs.set k (.sl L.length 0))) = L.set j (.box (cs.set k (.sl L.length 0))) ++ [.own e z 0 []] := by rw [List.set_append_left _ _ hj]
  rw [hse] at hH2 C2
  exact ⟨S, _, hH2, fun t => SVr.carry C2 _ _ (SVr.carry C1 _ _ (hf t)), hN, hd⟩
theorem V_adopt {Q : Exit → St → Prop} {c : Code} {cs cs' : List SV} {n : Nat} (e z : Nat) (j k : Nat) (hL : L[j]? = some (.box cs)) (hc : cs[k]? = some .nilsl) (hn : Ln L n) (hcs : St1 (.sl n 0) k cs cs') (h1 : St1 (.box cs') j L L1) (h2 : Jn L1 [.own e z 0 []] L')
    (h : V P A c ⟨fr, L', N⟩ Q) : V P A c ⟨fr, L, N⟩ Q := by
  have e1 := hn.eq
  have e2 := hcs.spec
  have e3 := h1.spec
  have e4 := h2.spec
  subst e1; subst e2; subst e3; subst e4
  exact fun a w hr => h a w (Realz.adopt hL k hc rfl hr)
end
end Go.Eng
