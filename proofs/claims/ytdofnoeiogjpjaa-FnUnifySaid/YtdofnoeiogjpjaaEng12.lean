/- The engine, part 12: from the form's reading of the arguments to data of this engine; from a pure function's contract to what a row asks. -/
import Derived.Test.YtdofnoeiogjpjaaEng11
import Derived.ChangeArms
import Derived.SizedLaws
namespace Go.Eng
open Go Go.RowKit

def tmOk (P : Program) (tm : TypeId → Option Sh) (T : TypeId) : Sh → Prop
  | .int => P.underlying T = some (.int .i64)
  | .bool => P.underlying T = some .bool
  | .str => P.underlying T = some .string
  | .sl s => ∃ e, P.underlying T = some (.slice e) ∧ tm e = some s ∧ P.cellsOf e = shz s ∧ 0 < shz s ∧ 0 < P.bytesOf e
  | .st n => ∃ fs, P.underlying T = some (.struct fs) ∧ P.cellsOf T = cz n ∧ FOk P tm fs.toList 0 (flds n)
where FOk (P : Program) (tm : TypeId → Option Sh) : List Field → Nat → List Sh → Prop
  | [], _, [] => True
  | f :: fs, off, s :: ss => f.offset = off ∧ tm f.type = some s ∧ P.cellsOf f.type = shz s ∧ FOk P tm fs (off + shz s) ss
  | _, _, _ => False

theorem exists_list {α : Type} {R : Nat → α → Prop} : ∀ (n : Nat), (∀ i, i < n → ∃ u, R i u) → ∃ us : List α, us.length = n ∧ ∀ (i : Nat) (u : α), us[i]? = some u → R i u
  | 0, _ => ⟨[], rfl, fun i u h => by simp at h⟩
  | n + 1, h => by
    obtain ⟨us, h1, h2⟩ := exists_list n (fun i hi => h i (by omega))
    obtain ⟨u, hu⟩ := h n (by omega)
    refine ⟨us ++ [u], by simp [h1], fun i v hv => ?_⟩
    by_cases hi : i < us.length
    · rw [List.getElem?_append_left hi] at hv
      exact h2 i v hv
    · rw [List.getElem?_append_right (by omega)] at hv
      have : i - us.length = 0 := by
        apply Classical.byContradiction
        intro hne
        rw [List.getElem?_eq_none (by simp; omega)] at hv
        cases hv
      rw [this] at hv
      simp at hv
      subst hv
      rw [show i = n by omega]
      exact hu
theorem RdE.mk {S : Nat → Prop} {w : World} {z b : Nat} : ∀ (us : List U) (off : Nat), (∀ (k : Nat) (u : U), us[k]? = some u → ∃ cs, cs.length = z ∧ At w b (off + k * z) cs ∧ Rd S w u cs) → RdE S w z b off us
  | [], _, _ => by simp [RdE]
  | u :: us, off, h => by
    simp only [RdE]
    refine ⟨by simpa using h 0 u rfl, RdE.mk us (off + z) (fun k v hk => ?_)⟩
    have := h (k + 1) v (by simpa using hk)
    rwa [show off + (k + 1) * z = off + z + k * z by rw [Nat.add_mul]; omega] at this

theorem mapM_length {α β : Type} {f : α → Option β} : ∀ (l : List α) (r : List β), l.mapM f = some r → r.length = l.length
  | [], r, h => by simp at h; subst h; rfl
  | x :: l, r, h => by
    simp only [List.mapM_cons] at h
    cases hx : f x with
    | none => rw [hx] at h; simp at h
    | some v =>
      rw [hx] at h
      cases hr : l.mapM f with
      | none => rw [hr] at h; simp at h
      | some r' =>
        rw [hr] at h
        simp at h
        subst h
        simp [mapM_length l r' hr]
theorem cells_At {w : World} {a : Addr} {n : Nat} {cs : List Value} (hn : 0 < n) (h : w.cells? 0 a n = some cs) : cs.length = n ∧ a.spot = none ∧ At w a.block a.off cs := by
  unfold World.cells? at h
  rw [if_pos (Nat.zero_le _)] at h
  have hl := mapM_length _ _ h
  simp at hl
  have key : ∀ (l : List Nat) (cs : List Value), (l.mapM fun i => w.cell? (a.add i)) = some cs → ∀ (j i : Nat), l[j]? = some i → w.cell? (a.add i) = cs[j]? := by
    intro l
    induction l with
    | nil => intro cs _ j i hi; simp at hi
    | cons x l ih =>
      intro cs h j i hi
      simp only [List.mapM_cons] at h
      cases hx : w.cell? (a.add x) with
      | none => rw [hx] at h; simp at h
      | some v =>
        rw [hx] at h
        cases hr : (l.mapM fun i => w.cell? (a.add i)) with
        | none => rw [hr] at h; simp at h
        | some r =>
          rw [hr] at h
          simp at h
          subst h
          cases j with
          | zero => simp at hi; subst hi; simpa using hx
          | succ j => simp at hi ⊢; exact ih r hr j i hi
  have hc : ∀ j, j < n → w.cell? (a.add j) = cs[j]? := fun j hj => key _ _ h j j (by simp [hj])
  have h0 := hc 0 hn
  have hs : a.spot = none ∧ ∃ row e fz, w.heap[a.block]? = some (.cells row e fz) := by
    have : a.add 0 = a := rfl
    rw [this, List.getElem?_eq_getElem (by omega)] at h0
    unfold World.cell? at h0
    split at h0
    · rename_i c t f hh
      split at h0
      · cases h0
      · rename_i hsp
        exact ⟨by simpa using hsp, c, t, f, hh⟩
    · cases h0
  obtain ⟨hs, row, e, fz, hh⟩ := hs
  refine ⟨hl, hs, row, e, fz, hh, fun j hj => ?_⟩
  rw [← hc j (by omega)]
  obtain ⟨b, o, sp⟩ := a
  simp only at hs
  subst hs
  simp only at hh
  rw [Addr.add_lit]
  simp [World.cell?, hh]

section
variable {H : Type} {enc : TypeId × Value → H} {P : Program} {w : World} {sp : Nat → Bool} {held : Bool} {tm : TypeId → Option Sh}

theorem weights_mem {e : TypeId} {d : DataW H} {ds : List (DataW H)} (h : d ∈ ds) : ∀ x ∈ d.weights P e, x ∈ DataW.weightsAll P e ds := by
  induction ds with
  | nil => cases h
  | cons d0 ds ih =>
    intro x hx
    simp only [DataW.weightsAll, List.mem_append]
    rcases List.mem_cons.1 h with rfl | h
    · exact .inl hx
    · exact .inr (ih h x hx)
theorem reach_big {n : Nat} (h : n ≤ reachBytes) : n ≤ big := by
  rw [big_eq]
  unfold reachBytes at h
  omega

theorem bridge (htm : ∀ T s, tm T = some s → tmOk P tm T s) : ∀ (fuel : Nat) (T : TypeId) (cs : List Value) (d : DataW H) (ps : List MemPlace) (s : Sh),
    DataW.trod enc P w 0 sp held fuel T cs = some (d, ps) → tm T = some s → (∀ x ∈ d.weights P T, x ≤ reachBytes) → ∃ u, Rd (fun b => b < w.heap.size) w u cs ∧ wt s u := by
  intro fuel
  induction fuel with
  | zero => intro T cs d ps s h; simp [DataW.trod] at h
  | succ fuel ih =>
    intro T cs d ps s h hT hw
    have hok := htm T s hT
    cases s with
    | int =>
      obtain ⟨n, rfl, hx, hwf⟩ := DataW.trod_int hok h
      refine ⟨.i .i64 n, by simp [Rd], rfl, ?_⟩
      simp [Lit.wf, IntKind.min, IntKind.max, IntKind.bits, IntKind.signed] at hwf
      exact ⟨by omega, by omega⟩
    | bool =>
      obtain ⟨b, rfl, hx⟩ := DataW.trod_bool hok h
      exact ⟨.b b, by simp [Rd], trivial⟩
    | str =>
      obtain ⟨s, rfl, hx, _⟩ := DataW.trod_string hok h
      simp only [Prod.mk.injEq] at hx
      obtain ⟨rfl, rfl⟩ := hx
      have hl : s.data.toList.length ≤ big := reach_big (hw _ (by simp [DataW.weights]))
      exact ⟨.s s.data.toList, by simp only [Rd]; exact ⟨hl, by simp⟩, hl⟩
    | sl s =>
      obtain ⟨e, hund, hte, hce, hz, hbe⟩ := hok
      rcases DataW.trod_slice hund h with ⟨rfl, hx⟩ | ⟨a, len, cap, elems, rest, n, hn, rfl, hx, _, hlc, _, hel, hget, _, _⟩
      · exact ⟨.sl (shz s) [], by simp only [Rd]; exact ⟨by simp [big_eq], none, 0, rfl, .inl trivial⟩, rfl, by simp [big_eq], trivial⟩
      · obtain rfl : fuel = n := by omega
        simp only [Prod.mk.injEq] at hx
        obtain ⟨rfl, rfl⟩ := hx
        simp only [DataW.weights, hund] at hw
        have hlen : len ≤ big := by
          have h1 := hw _ (List.mem_cons_self)
          simp only [List.length_map] at h1
          refine reach_big (Nat.le_trans ?_ h1)
          rw [hel]
          calc len ≤ len * P.bytesOf e := Nat.le_mul_of_pos_right _ hbe
            _ ≤ (len + rest.length) * P.bytesOf e := Nat.mul_le_mul_right _ (by omega)
        have each : ∀ i, i < len → ∃ u, (∃ cs, cs.length = shz s ∧ (a.spot = none → At w a.block (a.off + i * shz s) cs) ∧ Rd (fun b => b < w.heap.size) w u cs) ∧ wt s u ∧ (i = 0 → a.spot = none) ∧ a.block < w.heap.size := by
          intro i hi
          have h1 := hget i hi
          rw [List.getElem?_eq_getElem (by omega)] at h1
          cases hc : w.cells? 0 (a.add (i * P.cellsOf e)) (P.cellsOf e) with
          | none => rw [hc] at h1; simp at h1
          | some cs =>
            rw [hc] at h1
            simp only [Option.bind_some] at h1
            rw [hce] at hc
            obtain ⟨k1, k2, k3⟩ := cells_At hz hc
            have hmem : (elems[i]'(by omega)).1 ∈ elems.map (·.1) := List.mem_map.2 ⟨_, List.getElem_mem _, rfl⟩
            obtain ⟨u, r1, r2⟩ := ih e cs (elems[i]'(by omega)).1 (elems[i]'(by omega)).2 s (by rw [h1]) hte (fun x hx => hw x (List.mem_cons_of_mem _ (List.mem_append.2 (.inl (weights_mem hmem x hx)))))
            have hblk : (a.add (i * shz s)).block = a.block := by unfold Addr.add; split <;> rfl
            refine ⟨u, ⟨cs, k1, fun hsp => ?_, r1⟩, r2, fun h0 => ?_, ?_⟩
            · have hoff : (a.add (i * shz s)).off = a.off + i * shz s := by unfold Addr.add; split <;> simp_all
              rw [hblk, hoff] at k3
              exact k3
            · subst h0
              rw [Nat.zero_mul] at k2
              exact k2
            · rw [← hblk]; exact k3.lt
        obtain ⟨us, hul, hus⟩ := exists_list len each
        refine ⟨.sl (shz s) us, ?_, rfl, by rw [hul]; exact hlen, wta_iff.2 (fun u hu => ?_)⟩
        · simp only [Rd]
          refine ⟨by rw [hul]; exact hlen, some a, cap, by rw [hul], ?_⟩
          by_cases h0 : us = []
          · exact .inl h0
          · have hpos : 0 < len := by rw [← hul]; exact List.length_pos_iff.2 h0
            obtain ⟨u0, _, _, hsp, hblt⟩ := each 0 hpos
            have hsp := hsp rfl
            refine .inr ⟨a.block, a.off, ?_, hblt, RdE.mk us a.off (fun k u hk => ?_)⟩
            · obtain ⟨b, o, sp⟩ := a
              simp only at hsp
              subst hsp
              rfl
            · obtain ⟨⟨cs, k1, k2, k3⟩, _⟩ := hus k u hk
              exact ⟨cs, k1, k2 hsp, k3⟩
        · obtain ⟨i, hi⟩ := List.mem_iff_getElem?.1 hu
          exact (hus i u hi).2.1
    | st n =>
      obtain ⟨fs, hund, hcz, hF⟩ := hok
      obtain ⟨xs, m, hm, hx, hcl, hxl, hget⟩ := DataW.trod_struct hund h
      obtain rfl : fuel = m := by omega
      simp only [Prod.mk.injEq] at hx
      obtain ⟨rfl, rfl⟩ := hx
      simp only [DataW.weights, hund] at hw
      have key : ∀ (fl : List Field) (ss : List Sh) (off : Nat) (ys : List (DataW H × List MemPlace)) (ds : List Value), tmOk.FOk P tm fl off ss → ys.length = fl.length → ds.length = off + (ss.map shz).sum →
          (∀ (i : Nat) (f : Field), fl[i]? = some f → DataW.trod enc P w 0 sp held fuel f.type ((ds.drop f.offset).take (P.cellsOf f.type)) = ys[i]?) →
          (∀ x ∈ DataW.weightsEach P (fl.map (·.type)) (ys.map (·.1)), x ≤ reachBytes) →
          ∃ us, Rds (fun b => b < w.heap.size) w us (ds.drop off) ∧ wts ss us := by
        intro fl
        induction fl with
        | nil =>
          intro ss off ys ds hF _ hdl _ _
          cases ss with
          | nil => exact ⟨[], by simp at hdl; simp [Rds]; omega, trivial⟩
          | cons s ss => exact hF.elim
        | cons f fl ihf =>
          intro ss off ys ds hF hyl hdl hg hwt
          cases ss with
          | nil => exact hF.elim
          | cons s ss =>
            obtain ⟨e1, e2, e3, e4⟩ := hF
            cases ys with
            | nil => simp at hyl
            | cons y ys =>
              simp only [List.map_cons, DataW.weightsEach, List.mem_append] at hwt
              have h0 := hg 0 f rfl
              simp only [List.getElem?_cons_zero] at h0
              obtain ⟨u, r1, r2⟩ := ih f.type _ y.1 y.2 s h0 e2 (fun x hx => hwt x (.inl hx))
              simp only [List.map_cons, List.sum_cons] at hdl
              obtain ⟨us, q1, q2⟩ := ihf ss (off + shz s) ys ds e4 (by simpa using hyl) (by omega) (fun i f' hf' => by
                have := hg (i + 1) f' (by simpa using hf')
                simpa using this) (fun x hx => hwt x (.inr hx))
              refine ⟨u :: us, ?_, r2, q2⟩
              simp only [Rds]
              refine ⟨(ds.drop off).take (shz s), ds.drop (off + shz s), ?_, ?_, q1⟩
              · rw [← List.drop_drop]
                exact (List.take_append_drop _ _).symm
              · rw [e1, e3] at r1
                exact r1
      have hsum : cs.length = 0 + ((flds n).map shz).sum := by
        rw [Nat.zero_add, cz_ok, hcl, hcz]
      obtain ⟨us, r1, r2⟩ := key fs.toList (flds n) 0 xs cs hF (by rw [hxl]; simp) hsum (fun i f hf => hget i f (by simpa using hf)) hw
      exact ⟨.st us, by simp only [Rd]; simpa using r1, r2⟩

/-- One argument: what the form reads is data of this engine. -/
theorem bridgeV {T : TypeId} {s : Sh} {v : Value} {d : DataW H} {ps : List MemPlace} (htm : ∀ T s, tm T = some s → tmOk P tm T s) (h : DataW.Trod enc P w 0 sp held T v d ps) (hT : tm T = some s)
    (hw : ∀ x ∈ d.weights P T, x ≤ reachBytes) (hag : (∃ cs, v = .agg cs) ↔ ∃ n, s = .st n) : ∃ u, SVr (fun b => b < w.heap.size) [] [] w (.d u) v ∧ wt s u := by
  obtain ⟨fuel, hf⟩ := h
  obtain ⟨u, h1, h2⟩ := bridge htm fuel T v.cells.toList d ps s hf hT hw
  refine ⟨u, ?_, h2⟩
  simp only [SVr]
  refine ⟨v.cells.toList, ?_, h1⟩
  cases s with
  | st n =>
    obtain ⟨cs, rfl⟩ := hag.2 ⟨n, rfl⟩
    obtain ⟨us, rfl, _⟩ := inv_st h2
    simp [val, U.isSt, Value.cells]
  | _ =>
    have hna : ∀ cs, v ≠ .agg cs := fun cs hc => by obtain ⟨n, hn⟩ := hag.1 ⟨cs, hc⟩; cases hn
    have hst : u.isSt = false := by
      cases u with
      | st us => exact h2.elim
      | _ => rfl
    have hc : v.cells = #[v] := by cases v <;> first | rfl | (exact absurd rfl (hna _))
    simp [val, hst, hc]

theorem ok_agg {T : TypeId} {s : Sh} {v : Value} {r : Reach} {base : Nat} (htm : ∀ T s, tm T = some s → tmOk P tm T s) (hT : tm T = some s) (h : Value.okWide P w r base T v) : (∃ cs, v = .agg cs) ↔ ∃ n, s = .st n := by
  have hok := htm T s hT
  cases s with
  | st n =>
    obtain ⟨fs, hund, _⟩ := hok
    unfold Value.okWide at h
    rw [hund] at h
    obtain ⟨cs, h, _⟩ := h
    exact ⟨fun _ => ⟨n, rfl⟩, fun _ => ⟨cs, h⟩⟩
  | sl s =>
    obtain ⟨e, hund, _⟩ := hok
    constructor
    · rintro ⟨cs, rfl⟩
      simp [Value.okWide, Cell.okWide, Cell.ok, hund] at h
    · rintro ⟨n, hn⟩
      cases hn
  | _ =>
    have hund := hok
    simp only [tmOk] at hund
    constructor
    · rintro ⟨cs, rfl⟩
      simp [Value.okWide, Cell.okWide, Cell.ok, hund] at h
    · rintro ⟨n, hn⟩
      cases hn
/-- From a pure function's contract to what a row asks. -/
theorem calls_of_SpecP {f : Nat} {args : List SV} {us : List U} {vs : List Value} (h : SpecP P f args us) (hv : SVrs (fun b => b < w.heap.size) [] [] w args vs) (hg : Gok (fun _ => False) w) :
    Calls P f vs.toArray w (fun e w' => ∃ r, e = .returned r ∧ SVr (fun _ => True) [] [] w' (mkR us) r ∧ Below w.heap.size w w') := by
  have hH : HeapR ⟨w, fun b => b < w.heap.size, fun _ => False, [], []⟩ (fun b => b < w.heap.size) [] [] w :=
    ⟨rfl, fun i o hv h => by simp at h, fun i o hv b h => by simp at h, fun i j o o' hv hv' b h => by simp at h, fun b hb => hb, fun b hb => .inl hb, fun _ _ _ => rfl, Nat.le_refl _, rfl, rfl, rfl, Base.nil rfl, hg⟩
  refine (h.2 _ _ [] w vs rfl rfl rfl rfl hH hv).mono ?_
  rintro e w' ⟨r, sv, S', L', env', rfl, ⟨rfl, rfl⟩, hH', hr⟩
  refine ⟨r, rfl, ?_, ⟨hH'.os, hH'.tape, hH'.output, hH'.size, fun k hk => hH'.frame k hk (fun h => h)⟩⟩
  have C : Carry S' [] env' w' (fun _ => True) [] env' w' := ⟨fun _ _ _ => trivial, fun _ _ _ => rfl, fun _ _ h => h, fun _ _ _ h1 h2 => ⟨_, _, h1, h2, Nat.le_refl _, fun _ => rfl⟩⟩
  exact SVr.bare _ _ (mkR_lt us) (SVr.carry C _ _ hr) _ _
theorem ret_true {r : Value} {w' : World} (h : SVr (fun _ => True) [] [] w' (mkR [.b true]) r) : r = .bool true := SVr.bool.1 h
end
end Go.Eng
