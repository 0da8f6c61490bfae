/- The engine, part 12: from the form's reading of the arguments to data of this engine; from a pure function's contract to what a row asks. -/
import Derived.Test.YtopgfacbgbmloaaEng11
import Derived.ChangeArms
import Derived.SizedLaws
namespace Go.Eng
open Go Go.RowKit

def tmOk (P : Program) (tm : TypeId → Option Sh) (T : TypeId) : Sh → Prop
  | .int => P.underlying T = some (.int .i64)
  | .bool => P.underlying T = some .bool
  | .str => P.underlying T = some .string
  | .sl s => ∃ e, P.underlying T = some (.slice e) ∧ tm e = some s ∧ P.cellsOf e = shz s ∧ 0 < shz s ∧ 0 < P.bytesOf e
  | .st n => ∃ fs, P.underlying T = some (.struct fs) ∧ P.cellsOf T = cz n ∧ FOk P tm fs.toList 0 (flds n)
where FOk (P : Program) (tm : TypeId → Option Sh) : List Field → Nat → List Sh → Prop
  | [], _, [] => True
  | f :: fs, off, s :: ss => f.offset = off ∧ tm f.type = some s ∧ P.cellsOf f.type = shz s ∧ FOk P tm fs (off + shz s) ss
  | _, _, _ => False

theorem exists_list {α : Type} {R : Nat → α → Prop} : ∀ (n : Nat), (∀ i, i < n → ∃ u, R i u) → ∃ us : List α, us.length = n ∧ ∀ (i : Nat) (u : α), us[i]? = some u → R i u
  | 0, _ => ⟨[], rfl, fun i u h => by simp at h⟩
  | n + 1, h => by
    obtain ⟨us, h1, h2⟩ := exists_list n (fun i hi => h i (by omega))
    obtain ⟨u, hu⟩ := h n (by omega)
    refine ⟨us ++ [u], by simp [h1], fun i v hv => ?_⟩
    by_cases hi : i < us.length
    · rw [List.getElem?_append_left hi] at hv
      exact h2 i v hv
    · rw [List.getElem?_append_right (by omega)] at hv
      have : i - us.length = 0 := by
        apply Classical.byContradiction
        intro hne
        rw [List.getElem?_eq_none (by simp; omega)] at hv
        cases hv
      rw [this] at hv
      simp at hv
      subst hv
      rw [show i = n by omega]
      exact hu
theorem RdE.mk {S : Nat → Prop} {w : World} {z b : Nat} : ∀ (us : List U) (off : Nat), (∀ (k : Nat) (u : U), us[k]? = some u → ∃ cs, cs.length = z ∧ At w b (off + k * z) cs ∧ Rd S w u cs) → RdE S w z b off us
  | [], _, _ => by simp [RdE]
  | u :: us, off, h => by
    simp only [RdE]
    refine ⟨by simpa using h 0 u rfl, RdE.mk us (off + z) (fun k v hk => ?_)⟩
    have := h (k + 1) v (by simpa using hk)
    rwa [show off + (k + 1) * z = off + z + k * z by rw [Nat.add_mul]; omega] at this

theorem mapM_length {α β : Type} {f : α → Option β} : ∀ (l : List α) (r : List β), l.mapM f = some r → r.length = l.length
  | [], r, h => by simp at h; subst h; rfl
  | x :: l, r, h => by
    simp only [List.mapM_cons] at h
    cases hx : f x with
    | none => rw [hx] at h; simp at h
    | some v =>
      rw [hx] at h
      cases hr : l.mapM f with
      | none => rw [hr] at h; simp at h
      | some r' =>
        rw [hr] at h
        simp at h
        subst h
        simp [mapM_length l r' hr]
theorem cells_At {w : World} {a : Addr} {n : Nat} {cs : List Value} (hn : 0 < n) (h : w.cells? 0 a n = some cs) : cs.length = n ∧ a.spot = none ∧ At w a.block a.off cs := by
  unfold World.cells? at h
  rw [if_pos (Nat.zero_le _)] at h
  have hl := mapM_length _ _ h
  simp at hl
  have key : ∀ (l : List Nat) (cs : List Value), (l.mapM fun i => w.cell? (a.add i)) = some cs → ∀ (j i : Nat), l[j]? = some i → w.cell? (a.add i) = cs[j]? := by
    intro l
    induction l with
    | nil => intro cs _ j i hi; simp at hi
    | cons x l ih =>
      intro cs h j i hi
      simp only [List.mapM_cons] at h
      cases hx : w.cell? (a.add x) with
      | none => rw [hx] at h; simp at h
      | some v =>
        rw [hx] at h
        cases hr : (l.mapM fun i => w.cell? (a.add i)) with
        | none => rw [hr] at h; simp at h
        | some r =>
          rw [hr] at h
          simp at h
          subst h
          cases j with
          | zero => simp at hi; subst hi; simpa using hx
          | succ j => simp at hi ⊢; exact ih r hr j i hi
  have hc : ∀ j, j < n → w.cell? (a.add j) = cs[j]? := fun j hj => key _ _ h j j (by simp [hj])
  have h0 := hc 0 hn
  have hs : a.spot = none ∧ ∃ row e fz, w.heap[a.block]? = some (.cells row e fz) := by
    have : a.add 0 = a := rfl
    rw [this, List.getElem?_eq_getElem (by omega)] at h0
    unfold World.cell? at h0
    split at h0
    · rename_i c t f hh
      split at h0
      · cases h0
      · rename_i hsp
        exact ⟨by simpa using hsp, c, t, f, hh⟩
    · cases h0
  obtain ⟨hs, row, e, fz, hh⟩ := hs
  refine ⟨hl, hs, row, e, fz, hh, fun j hj => ?_⟩
  rw [← hc j (by omega)]
  obtain ⟨b, o, sp⟩ := a
  simp only at hs
  subst hs
  simp only at hh
  rw [Addr.add_lit]
  simp [World.cell?, hh]

section
variable {H : Type} {enc : TypeId × Value → H} {P : Program} {w : World} {sp : Nat → Bool} {held : Bool} {tm : TypeId → Option Sh}

theorem weights_mem {e : TypeId} {d : DataW H} {ds : List (DataW H)} (h : d ∈ ds) : ∀ x ∈ d.weights P e, x ∈ DataW.weightsAll P e ds := by
  induction ds with
  | nil => cases h
  | cons d0 ds ih =>
    intro x hx
    simp only [DataW.weightsAll, List.mem_append]
    rcases List.mem_cons.1 h with rfl | h
    · exact .inl hx
    · exact .inr (ih h x hx)
theorem reach_big {n : Nat} (h : n ≤ reachBytes) : n ≤ big := by
  rw [big_eq]
  unfold reachBytes at h
  omega

theorem bridge (htm : ∀ T s, tm T = some s → tmOk P tm T s) : ∀ (fuel : Nat) (T : TypeId) (cs : List Value) (d : DataW H) (ps : List MemPlace) (s : Sh),
    DataW.trod enc P w 0 sp held fuel T cs = some (d, ps) → tm T = some s → (∀ x ∈ d.weights P T, x ≤ reachBytes) → ∃ u, Rd (fun b => b < w.heap.size) w u cs ∧ wt s u := by
  intro fuel
  induction fuel with
  | zero => intro T cs d ps s h; simp [DataW.trod] at h
  | succ fuel ih =>
    intro T cs d ps s h hT hw
    have hok := htm T s hT
    cases s with
    | int =>
      obtain ⟨n, rfl, hx, hwf⟩ := DataW.trod_int hok h
      refine ⟨.i .i64 n, by simp [Rd], rfl, ?_⟩
      simp [Lit.wf, IntKind.min, IntKind.max, IntKind.bits, IntKind.signed] at hwf
      exact ⟨by omega, by omega⟩
    | bool =>
      obtain ⟨b, rfl, hx⟩ := DataW.trod_bool hok h
      exact ⟨.b b, by simp [Rd], trivial⟩
    | str =>
      obtain ⟨s, rfl, hx, _⟩ := DataW.trod_string hok h
      simp only [Prod.mk.injEq] at hx
      obtain ⟨rfl, rfl⟩ := hx
      have hl : s.data.toList.length ≤ big := reach_big (hw _ (by simp [DataW.weights]))
      exact ⟨.s s.data.toList, by simp only [Rd]; exact ⟨hl, by simp⟩, hl⟩
    | sl s =>
      obtain ⟨e, hund, hte, hce, hz, hbe⟩ := hok
      rcases DataW.trod_slice hund h with ⟨rfl, hx⟩ | ⟨a, len, cap, elems, rest, n, hn, rfl, hx, _, hlc, _, hel, hget, _, _⟩
      · exact ⟨.sl (shz s) [], by simp only [Rd]; exact ⟨by simp [big_eq], none, 0, rfl, .inl trivial⟩, rfl, by simp [big_eq], trivial⟩
      · obtain rfl : fuel = n := by omega
        simp only [Prod.mk.injEq] at hx
        obtain ⟨rfl, rfl⟩ := hx
        simp only [DataW.weights, hund] at hw
        have hlen : len ≤ big := by
          have h1 := hw _ (List.mem_cons_self)
          simp only [List.length_map] at h1
          refine reach_big (Nat.le_trans ?_ h1)
          rw [hel]
          calc len ≤ len * P.bytesOf e := Nat.le_mul_of_pos_right _ hbe
            _ ≤ (len + rest.length) * P.bytesOf e := Nat.mul_le_mul_right _ (by omega)
        have each : ∀ i, i < len → ∃ u, (∃ cs, cs.length = shz s ∧ (a.spot = none → At w a.block (a.off + i * shz s) cs) ∧ Rd (fun b => b < w.heap.size) w u cs) ∧ wt s u ∧ (i = 0 → a.spot = none) ∧ a.block < w.heap.size := by
          intro i hi
          have h1 := hget i hi
          rw [List.getElem?_eq_getElem (by omega)] at h1
          cases hc : w.cells? 0 (a.add (i * P.cellsOf e)) (P.cellsOf e) with
          | none => rw [hc] at h1; simp at h1
          | some cs =>
            rw [hc] at h1
            simp only [Option.bind_some] at h1
            rw [hce] at hc
            obtain ⟨k1, k2, k3⟩ := cells_At hz hc
            have hmem : (elems[i]'(by omega)).1 ∈ elems.map (·.1) := List.mem_map.2 ⟨_, List.getElem_mem _, rfl⟩
            obtain ⟨u, r1, r2⟩ := ih e cs (elems[i]'(by omega)).1 (elems[i]'(by omega)).2 s (by rw [h1]) hte (fun x hx => hw x (List.mem_cons_of_mem _ (List.mem_append.2 (.inl (weights_mem hmem x hx)))))
            have hblk : (a.add (i * shz s)).block = a.block := by unfold Addr.add; split <;> rfl
            refine ⟨u, ⟨cs, k1, fun hsp => ?_, r1⟩, r2, fun h0 => ?_, ?_⟩
            · have hoff : (a.add (i * shz s)).off = a.off + i * shz s := by unfold Addr.add; split <;> simp_all
              rw [hblk, hoff] at k3
              exact k3
            · subst h0
              rw [Nat.zero_mul] at k2
              exact k2
            · rw [← hblk]; exact k3.lt
        obtain ⟨us, hul, hus⟩ := exists_list len each
        refine ⟨.sl (shz s) us, ?_, rfl, by rw [hul]; exact hlen, wta_iff.2 (fun u hu => ?_)⟩
        · simp only [Rd]
          refine ⟨by rw [hul]; exact hlen, some a, cap - len, by rw [hul, Nat.add_sub_cancel' hlc], ?_⟩
          by_cases h0 : us = []
          · exact .inl h0
          · have hpos : 0 < len := by rw [← hul]; exact List.length_pos_iff.2 h0
            obtain ⟨u0, _, _, hsp, hblt⟩ := each 0 hpos
            have hsp := hsp rfl
            refine .inr ⟨a.block, a.off, ?_, hblt, RdE.mk us a.off (fun k u hk => ?_)⟩
            · obtain ⟨b, o, sp⟩ := a
              simp only at hsp
              subst hsp
              rfl
            · obtain ⟨⟨cs, k1, k2, k3⟩, _⟩ := hus k u hk
              exact ⟨cs, k1, k2 hsp, k3⟩
        · obtain ⟨i, hi⟩ := List.mem_iff_getElem?.1 hu
          exact (hus i u hi).2.1
    | st n =>
      obtain ⟨fs, hund, hcz, hF⟩ := hok
      obtain ⟨xs, m, hm, hx, hcl, hxl, hget⟩ := DataW.trod_struct hund h
      obtain rfl : fuel = m := by omega
      simp only [Prod.mk.injEq] at hx
      obtain ⟨rfl, rfl⟩ := hx
      simp only [DataW.weights, hund] at hw
      have key : ∀ (fl : List Field) (ss : List Sh) (off : Nat) (ys : List (DataW H × List MemPlace)) (ds : List Value), tmOk.FOk P tm fl off ss → ys.length = fl.length → ds.length = off + (ss.map shz).sum →
          (∀ (i : Nat) (f : Field), fl[i]? = some f → DataW.trod enc P w 0 sp held fuel f.type ((ds.drop f.offset).take (P.cellsOf f.type)) = ys[i]?) →
          (∀ x ∈ DataW.weightsEach P (fl.map (·.type)) (ys.map (·.1)), x ≤ reachBytes) →
          ∃ us, Rds (fun b => b < w.heap.size) w us (ds.drop off) ∧ wts ss us := by
        intro fl
        induction fl with
        | nil =>
          intro ss off ys ds hF _ hdl _ _
          cases ss with
          | nil => exact ⟨[], by simp at hdl; simp [Rds]; omega, trivial⟩
          | cons s ss => exact hF.elim
        | cons f fl ihf =>
          intro ss off ys ds hF hyl hdl hg hwt
          cases ss with
          | nil => exact hF.elim
          | cons s ss =>
            obtain ⟨e1, e2, e3, e4⟩ := hF
            cases ys with
            | nil => simp at hyl
            | cons y ys =>
              simp only [List.map_cons, DataW.weightsEach, List.mem_append] at hwt
              have h0 := hg 0 f rfl
              simp only [List.getElem?_cons_zero] at h0
              obtain ⟨u, r1, r2⟩ := ih f.type _ y.1 y.2 s h0 e2 (fun x hx => hwt x (.inl hx))
              simp only [List.map_cons, List.sum_cons] at hdl
              obtain ⟨us, q1, q2⟩ := ihf ss (off + shz s) ys ds e4 (by simpa using hyl) (by omega) (fun i f' hf' => by
                have := hg (i + 1) f' (by simpa using hf')
                simpa using this) (fun x hx => hwt x (.inr hx))
              refine ⟨u :: us, ?_, r2, q2⟩
              simp only [Rds]
              refine ⟨(ds.drop off).take (shz s), ds.drop (off + shz s), ?_, ?_, q1⟩
              · rw [← List.drop_drop]
                exact (List.take_append_drop _ _).symm
              · rw [e1, e3] at r1
                exact r1
      have hsum : cs.length = 0 + ((flds n).map shz).sum := by
        rw [Nat.zero_add, cz_ok, hcl, hcz]
      obtain ⟨us, r1, r2⟩ := key fs.toList (flds n) 0 xs cs hF (by rw [hxl]; simp) hsum (fun i f hf => hget i f (by simpa using hf)) hw
      exact ⟨.st us, by simp only [Rd]; simpa using r1, r2⟩

/-- One argument: what the form reads is data of this engine. -/
theorem bridgeV {T : TypeId} {s : Sh} {v : Value} {d : DataW H} {ps : List MemPlace} (htm : ∀ T s, tm T = some s → tmOk P tm T s) (h : DataW.Trod enc P w 0 sp held T v d ps) (hT : tm T = some s)
    (hw : ∀ x ∈ d.weights P T, x ≤ reachBytes) (hag : (∃ cs, v = .agg cs) ↔ ∃ n, s = .st n) : ∃ u, SVr (fun b => b < w.heap.size) [] [] w (.d u) v ∧ wt s u := by
  obtain ⟨fuel, hf⟩ := h
  obtain ⟨u, h1, h2⟩ := bridge htm fuel T v.cells.toList d ps s hf hT hw
  refine ⟨u, ?_, h2⟩
  simp only [SVr]
  refine ⟨v.cells.toList, ?_, h1⟩
  cases s with
  | st n =>
    obtain ⟨cs, rfl⟩ := hag.2 ⟨n, rfl⟩
    obtain ⟨us, rfl, _⟩ := inv_st h2
    simp [val, U.isSt, Value.cells]
  | _ =>
    have hna : ∀ cs, v ≠ .agg cs := fun cs hc => by obtain ⟨n, hn⟩ := hag.1 ⟨cs, hc⟩; cases hn
    have hst : u.isSt = false := by
      cases u with
      | st us => exact h2.elim
      | _ => rfl
    have hc : v.cells = #[v] := by cases v <;> first | rfl | (exact absurd rfl (hna _))
    simp [val, hst, hc]

theorem ok_agg {T : TypeId} {s : Sh} {v : Value} {r : Reach} {base : Nat} (htm : ∀ T s, tm T = some s → tmOk P tm T s) (hT : tm T = some s) (h : Value.okWide P w r base T v) : (∃ cs, v = .agg cs) ↔ ∃ n, s = .st n := by
  have hok := htm T s hT
  cases s with
  | st n =>
    obtain ⟨fs, hund, _⟩ := hok
    unfold Value.okWide at h
    rw [hund] at h
    obtain ⟨cs, h, _⟩ := h
    exact ⟨fun _ => ⟨n, rfl⟩, fun _ => ⟨cs, h⟩⟩
  | sl s =>
    obtain ⟨e, hund, _⟩ := hok
    constructor
    · rintro ⟨cs, rfl⟩
      simp [Value.okWide, Cell.okWide, Cell.ok, hund] at h
    · rintro ⟨n, hn⟩
      cases hn
  | _ =>
    have hund := hok
    simp only [tmOk] at hund
    constructor
    · rintro ⟨cs, rfl⟩
      simp [Value.okWide, Cell.okWide, Cell.ok, hund] at h
    · rintro ⟨n, hn⟩
      cases hn
/-- From a pure function's contract to what a row asks. -/
theorem calls_of_SpecP {f : Nat} {args : List SV} {us : List U} {vs : List Value} (h : SpecP P f args us) (hv : SVrs (fun b => b < w.heap.size) [] [] w args vs) (hg : Gok (fun _ => False) w) :
    Calls P f vs.toArray w (fun e w' => ∃ r, e = .returned r ∧ SVr (fun _ => True) [] [] w' (mkR us) r ∧ Below w.heap.size w w') := by
  have hH : HeapR ⟨w, fun b => b < w.heap.size, fun _ => False, [], []⟩ (fun b => b < w.heap.size) [] [] w :=
    ⟨rfl, fun i o hv h => by simp at h, fun i o hv b h => by simp at h, fun i j o o' hv hv' b h => by simp at h, fun b hb => hb, fun b hb => .inl hb, fun _ _ _ => rfl, Nat.le_refl _, rfl, rfl, rfl, Base.nil rfl, hg⟩
  refine (h.2 _ _ [] w vs rfl rfl rfl rfl hH hv).mono ?_
  rintro e w' ⟨r, sv, S', L', env', rfl, ⟨rfl, rfl⟩, hH', hr⟩
  refine ⟨r, rfl, ?_, ⟨hH'.os, hH'.tape, hH'.output, hH'.size, fun k hk => hH'.frame k hk (fun h => h)⟩⟩
  have C : Carry S' [] env' w' (fun _ => True) [] env' w' := ⟨fun _ _ _ => trivial, fun _ _ _ => rfl, fun _ _ h => h, fun _ _ _ h1 h2 => ⟨_, _, h1, h2, Nat.le_refl _, fun _ => rfl⟩⟩
  exact SVr.bare _ _ (mkR_lt us) (SVr.carry C _ _ hr) _ _
theorem ret_true {r : Value} {w' : World} (h : SVr (fun _ => True) [] [] w' (mkR [.b true]) r) : r = .bool true := SVr.bool.1 h
end
end Go.Eng
namespace Go.Eng
open Go Go.RowKit

/-- What the program says of a type, as classes. -/
class TI (P : Program) (T : TypeId) (g : outParam Bool) (n b : outParam Nat) : Prop where
  h : tyI P T = some (g, n, b)
class TE (P : Program) (T : TypeId) (e : outParam TypeId) : Prop where
  h : tyE P T = some e
class TF (P : Program) (T : TypeId) (f : Nat) (fo : outParam Nat) : Prop where
  h : tyF P T f = some fo
class TZ (P : Program) (T : TypeId) (zs : outParam (List Value)) : Prop where
  h : tyZ P T = some zs
class TS (P : Program) (T : TypeId) : Prop where
  h : P.underlying T = some .string
class TB (P : Program) (T : TypeId) : Prop where
  h : P.underlying T = some .bool
class TP (P : Program) (T : TypeId) : Prop where
  h : EqPair P T

/-- The form of a symbolic value is seen. -/
inductive Nf : SV → SV → Prop
  | d {u : U} : Nf (.d u) (.d u)
  | ptr {i off : Nat} : Nf (.ptr i off) (.ptr i off)
  | sl {i ver : Nat} : Nf (.sl i ver) (.sl i ver)
  | dp {u : U} : Nf (.dp u) (.dp u)
  | ep {i ver z k off : Nat} : Nf (.ep i ver z k off) (.ep i ver z k off)
  | ag {l : List SV} : Nf (.ag l) (.ag l)
  | tup {l : List SV} : Nf (.tup l) (.tup l)
  | fn {f : Nat} {l : List SV} : Nf (.fn f l) (.fn f l)
  | nilsl : Nf .nilsl .nilsl
theorem Nf.eq {a b : SV} (h : Nf a b) : a = b := by cases h <;> rfl
/-- Cells off, .., off + n - 1. -/
inductive Tk {α : Type} : Nat → Nat → List α → List α → Prop
  | z {l : List α} : Tk 0 0 l []
  | t {n : Nat} {c : α} {l ds : List α} : Tk 0 n l ds → Tk 0 (n + 1) (c :: l) (c :: ds)
  | s {o n : Nat} {c : α} {l ds : List α} : Tk o n l ds → Tk (o + 1) n (c :: l) ds
theorem Tk.spec {α : Type} {o n : Nat} {l ds : List α} (h : Tk o n l ds) : o + n ≤ l.length ∧ (l.drop o).take n = ds := by
  induction h with
  | z => simp
  | t h ih => simp only [List.drop_zero] at ih ⊢; simp [ih.2]; omega
  | s h ih => simp [ih.2]; omega
/-- The cells ds are laid over l from o on. -/
inductive Pt {α : Type} : Nat → List α → List α → List α → Prop
  | z {l : List α} : Pt 0 [] l l
  | t {c c' : α} {ds l r : List α} : Pt 0 ds l r → Pt 0 (c' :: ds) (c :: l) (c' :: r)
  | s {o : Nat} {c : α} {ds l r : List α} : Pt o ds l r → Pt (o + 1) ds (c :: l) (c :: r)
theorem Pt.spec {α : Type} {o : Nat} {ds l r : List α} (h : Pt o ds l r) : o + ds.length ≤ l.length ∧ l.take o ++ ds ++ l.drop (o + ds.length) = r := by
  induction h with
  | z => simp
  | t h ih => simp only [List.take_zero, List.nil_append, Nat.zero_add] at ih ⊢; simp [ih.2]; omega
  | @s o c ds l r h ih =>
    refine ⟨by simp; omega, ?_⟩
    rw [show o + 1 + ds.length = (o + ds.length) + 1 by omega, List.drop_succ_cons, List.take_succ_cons, List.cons_append, List.cons_append, ih.2]
/-- Appended at the end, with its number. -/
inductive Sn {α : Type} (x : α) : List α → Nat → List α → Prop
  | z : Sn x [] 0 [x]
  | s {c : α} {l r : List α} {n : Nat} : Sn x l n r → Sn x (c :: l) (n + 1) (c :: r)
theorem Sn.spec {α : Type} {x : α} {l r : List α} {n : Nat} (h : Sn x l n r) : l.length = n ∧ l ++ [x] = r := by
  induction h with
  | z => simp
  | s h ih => simp [ih.1, ih.2]
/-- The i-th is replaced. -/
inductive St1 {α : Type} (x : α) : Nat → List α → List α → Prop
  | z {c : α} {l : List α} : St1 x 0 (c :: l) (x :: l)
  | s {i : Nat} {c : α} {l r : List α} : St1 x i l r → St1 x (i + 1) (c :: l) (c :: r)
theorem St1.spec {α : Type} {x : α} {i : Nat} {l r : List α} (h : St1 x i l r) : l.set i x = r := by
  induction h with
  | z => rfl
  | s h ih => simp [ih]
/-- Lists joined. -/
inductive Jn {α : Type} : List α → List α → List α → Prop
  | z {l : List α} : Jn [] l l
  | s {c : α} {a l r : List α} : Jn a l r → Jn (c :: a) l (c :: r)
theorem Jn.spec {α : Type} {a l r : List α} (h : Jn a l r) : a ++ l = r := by
  induction h with
  | z => rfl
  | s h ih => simp [ih]
mutual
/-- The cells of data. -/
inductive Fl : U → List SV → Prop
  | i {k : IntKind} {n : Int} : Fl (.i k n) [.d (.i k n)]
  | b {x : Bool} : Fl (.b x) [.d (.b x)]
  | s {l : List UInt8} : Fl (.s l) [.d (.s l)]
  | sl {z : Nat} {us : List U} : Fl (.sl z us) [.d (.sl z us)]
  | st {us : List U} {cs : List SV} : Fls us cs → Fl (.st us) cs
inductive Fls : List U → List SV → Prop
  | nil : Fls [] []
  | cons {u : U} {us : List U} {a b c : List SV} : Fl u a → Fls us b → Jn a b c → Fls (u :: us) c
end
mutual
theorem Fl.spec : ∀ {u : U} {cs : List SV}, Fl u cs → u.flat.map .d = cs ∧ SV.ones cs = true
  | _, _, .i => ⟨rfl, rfl⟩
  | _, _, .b => ⟨rfl, rfl⟩
  | _, _, .s => ⟨rfl, rfl⟩
  | _, _, .sl => ⟨rfl, rfl⟩
  | _, _, .st h => by simp only [U.flat]; exact Fls.spec h
theorem Fls.spec : ∀ {us : List U} {cs : List SV}, Fls us cs → (U.flats us).map .d = cs ∧ SV.ones cs = true
  | _, _, .nil => ⟨rfl, rfl⟩
  | _, _, .cons h1 h2 h3 => by
    have a := Fl.spec h1
    have b := Fls.spec h2
    have c := h3.spec
    subst c
    refine ⟨by simp only [U.flats, List.map_append, a.1, b.1], ?_⟩
    have : ∀ (x y : List SV), SV.ones x = true → SV.ones y = true → SV.ones (x ++ y) = true := by
      intro x
      induction x with
      | nil => intro y _ h; exact h
      | cons c x ih => intro y h h'; simp only [List.cons_append, SV.ones, Bool.and_eq_true] at h ⊢; exact ⟨h.1, ih y h.2 h'⟩
    exact this _ _ a.2 b.2
end
/-- The cells of what is boxed or stored. -/
inductive Cl : SV → List SV → Prop
  | d {u : U} {cs : List SV} : Fl u cs → Cl (.d u) cs
  | ag {cs : List SV} : SV.ones cs = true → Cl (.ag cs) cs
  | sl {i ver : Nat} : Cl (.sl i ver) [.sl i ver]
  | ptr {i off : Nat} : Cl (.ptr i off) [.ptr i off]
  | fn {f : Nat} {l : List SV} : Cl (.fn f l) [.fn f l]
  | nilsl : Cl .nilsl [.nilsl]
theorem Cl.spec {sv : SV} {cs : List SV} (h : Cl sv cs) : sv.cells = cs ∧ SV.ones cs = true := by
  cases h with
  | d h => exact Fl.spec h
  | ag h => exact ⟨rfl, h⟩
  | _ => exact ⟨rfl, rfl⟩

/-- A number that fits. -/
def Rng (n : Int) : Prop := -9223372036854775808 ≤ n ∧ n ≤ 9223372036854775807
theorem Rng.mk {n : Int} (h1 : -9223372036854775808 ≤ n) (h2 : n ≤ 9223372036854775807) : Rng n := ⟨h1, h2⟩

inductive FldR (P : Program) (L : List LO) (T : TypeId) (f : Nat) : SV → SV → Prop
  | ptr {i off fo : Nat} [TF P T f fo] : FldR P L T f (.ptr i off) (.ptr i (off + fo))
  | dp {us : List U} {u : U} {fo : Nat} [TF P T f fo] (h : us[f]? = some u) (h2 : U.szs (us.take f) = fo) : FldR P L T f (.dp (.st us)) (.dp u)
  | epo {i ver z k off fo z' : Nat} {o : LO} {es : List U} [TF P T f fo] (h : L[i]? = some o) (h2 : AsO o z' ver es) : FldR P L T f (.ep i ver z k off) (.ep i ver z k (off + fo))
inductive LdR (P : Program) (L : List LO) (T : TypeId) : SV → SV → Prop
  | one {i off bs : Nat} {cs : List SV} {c sv : SV} [TI P T false 1 bs] (h : L[i]? = some (.box cs)) (h2 : cs[off]? = some c) (h3 : Nf c sv) : LdR P L T (.ptr i off) sv
  | many {i off n bs : Nat} {cs ds : List SV} [TI P T true n bs] (h : L[i]? = some (.box cs)) (h2 : Tk off n cs ds) : LdR P L T (.ptr i off) (.ag ds)
  | dp {u : U} {g : Bool} {n bs : Nat} [TI P T g n bs] (h : u.isSt = g) (h2 : u.sz = n) : LdR P L T (.dp u) (.d u)
inductive LenR (P : Program) (L : List LO) (T : TypeId) : SV → Int → Prop
  | sl {z : Nat} {us : List U} {e : TypeId} [TE P T e] : LenR P L T (.d (.sl z us)) us.length
  | own {i ver z : Nat} {o : LO} {es : List U} {e : TypeId} [TE P T e] (h : L[i]? = some o) (h2 : AsO o z ver es) : LenR P L T (.sl i ver) es.length
  | nil {e : TypeId} [TE P T e] : LenR P L T .nilsl 0
  | str {l : List UInt8} [TS P T] : LenR P L T (.d (.s l)) l.length
inductive BinR (P : Program) (T : TypeId) : BinOp → SV → SV → SV → Prop
  | add {m n : Int} (h : Rng (m + n)) : BinR P T .add (.d (.i .i64 m)) (.d (.i .i64 n)) (.d (.i .i64 (m + n)))
  | sub {m n : Int} (h : Rng (m - n)) : BinR P T .sub (.d (.i .i64 m)) (.d (.i .i64 n)) (.d (.i .i64 (m - n)))
  | cmp {op : BinOp} {k : IntKind} {m n : Int} {r : Bool} (h : cmpI op m n = some r) : BinR P T op (.d (.i k m)) (.d (.i k n)) (.d (.b r))
  | eqs {l l' : List UInt8} : BinR P T .eql (.d (.s l)) (.d (.s l')) (.d (.b (l == l')))
  | nes {l l' : List UInt8} : BinR P T .neq (.d (.s l)) (.d (.s l')) (.d (.b (!(l == l'))))
  | eqb {a b : Bool} [TB P T] : BinR P T .eql (.d (.b a)) (.d (.b b)) (.d (.b (a == b)))
  | neb {a b : Bool} [TB P T] : BinR P T .neq (.d (.b a)) (.d (.b b)) (.d (.b (!(a == b))))
  | eqp {a b c d : Int} [TP P T] : BinR P T .eql (.ag [.d (.i .i64 a), .d (.i .i64 b)]) (.ag [.d (.i .i64 c), .d (.i .i64 d)]) (.d (.b (a == c && b == d)))
  | nep {a b c d : Int} [TP P T] : BinR P T .neq (.ag [.d (.i .i64 a), .d (.i .i64 b)]) (.ag [.d (.i .i64 c), .d (.i .i64 d)]) (.d (.b (!(a == c && b == d))))
inductive PkR : SV → SV → SV → SV → Prop
  | t {x y sv : SV} (h : Nf x sv) : PkR (.d (.b true)) x y sv
  | f {x y sv : SV} (h : Nf y sv) : PkR (.d (.b false)) x y sv

/-- The quiet operations that need no help. -/
inductive QD (P : Program) (σ : St) : Oper → SV → Prop
  | move {dst : Option Nat} {ty : TypeId} {pos : String} {af : Array Edge} {g : Option (Nat × Bool)} {x : Operand} {sv : SV} (h : Nf (σ.ev x) sv) : QD P σ ⟨dst, .move x, ty, pos, af, g⟩ sv
  | assign {dst : Option Nat} {ty : TypeId} {pos : String} {af : Array Edge} {g : Option (Nat × Bool)} {x : Operand} {sv : SV} (h : Nf (σ.ev x) sv) : QD P σ ⟨dst, .assign x, ty, pos, af, g⟩ sv
  | field {dst : Option Nat} {ty : TypeId} {pos : String} {af : Array Edge} {g : Option (Nat × Bool)} {x : Operand} {sv : SV} {T : TypeId} {f : Nat} (h : FldR P σ.L T f (σ.ev x) sv) : QD P σ ⟨dst, .fieldAddr T x f, ty, pos, af, g⟩ sv
  | load {dst : Option Nat} {ty : TypeId} {pos : String} {af : Array Edge} {g : Option (Nat × Bool)} {x : Operand} {sv : SV} {T : TypeId} (h : LdR P σ.L T (σ.ev x) sv) : QD P σ ⟨dst, .load T x, ty, pos, af, g⟩ sv
  | bin {dst : Option Nat} {ty : TypeId} {pos : String} {af : Array Edge} {g : Option (Nat × Bool)} {x y : Operand} {sv : SV} {op : BinOp} {T T' : TypeId} (h : BinR P T op (σ.ev x) (σ.ev y) sv) : QD P σ ⟨dst, .binOp op T x y T', ty, pos, af, g⟩ sv
  | len {dst : Option Nat} {ty : TypeId} {pos : String} {af : Array Edge} {g : Option (Nat × Bool)} {x : Operand} {T : TypeId} {n : Int} (h : LenR P σ.L T (σ.ev x) n) : QD P σ ⟨dst, .call { callee := .builtin .len, args := #[x], argTypes := #[T] }, ty, pos, af, g⟩ (.d (.i .i64 n))
  | not {dst : Option Nat} {ty : TypeId} {pos : String} {af : Array Edge} {g : Option (Nat × Bool)} {x : Operand} {T : TypeId} {t : Bool} (h : σ.ev x = .d (.b t)) : QD P σ ⟨dst, .unOp .not T x, ty, pos, af, g⟩ (.d (.b (!t)))
  | pick {dst : Option Nat} {ty : TypeId} {pos : String} {af : Array Edge} {g : Option (Nat × Bool)} {c x y : Operand} {sv : SV} (h : PkR (σ.ev c) (σ.ev x) (σ.ev y) sv) : QD P σ ⟨dst, .pick c x y, ty, pos, af, g⟩ sv
  | extract {dst : Option Nat} {ty : TypeId} {pos : String} {af : Array Edge} {g : Option (Nat × Bool)} {x : Operand} {n : Nat} {vs : List SV} {c sv : SV} (h : σ.ev x = .tup vs) (h2 : vs[n]? = some c) (h3 : Nf c sv) : QD P σ ⟨dst, .extract x n, ty, pos, af, g⟩ sv
theorem QD.quiet {P : Program} {A : Amb} {σ : St} {o : Oper} {sv : SV} (h : QD P σ o sv) : Quiet P A σ o sv := by
  cases h with
  | move h => exact Q_move h.eq
  | assign h => exact Q_assign h.eq
  | @field dst ty pos af g x sv T f h =>
    generalize hx : σ.ev x = e at h
    cases h with
    | @ptr i off fo tf => exact Q_field_ptr hx tf.h
    | @dp us u fo tf h h2 => exact Q_field_dp hx tf.h h h2
    | @epo i ver z k off fo z' o es tf h h2 => exact Q_field_epo hx h h2 tf.h
  | @load dst ty pos af g x sv T h =>
    generalize hx : σ.ev x = e at h
    cases h with
    | @one i off bs cs c sv ti h h2 h3 => exact Q_load_ptr hx h ti.h (h3.eq ▸ h2)
    | @many i off n bs cs ds ti h h2 => exact Q_load_ptrs hx h ti.h (Nat.ble_eq_true_of_le h2.spec.1) h2.spec.2
    | @dp u g n bs ti h h2 => exact Q_load hx ti.h h h2
  | @bin dst ty pos af g x y sv op T T' h =>
    generalize hx : σ.ev x = e at h
    generalize hy : σ.ev y = e' at h
    cases h with
    | cmp h => exact Q_cmp hx hy h
    | add h => exact Q_add hx hy h.1 h.2
    | sub h => exact Q_sub hx hy h.1 h.2
    | eqs => exact Q_eqs hx hy
    | nes => exact Q_nes hx hy
    | @eqb a b tb => exact Q_eqb tb.h hx hy
    | @neb a b tb => exact Q_neb tb.h hx hy
    | @eqp a b c d tp => exact Q_eqp tp.h hx hy
    | @nep a b c d tp => exact Q_nep tp.h hx hy
  | @len dst ty pos af g x T n h =>
    generalize hx : σ.ev x = e at h
    cases h with
    | @sl z us e te => exact Q_len hx te.h
    | @own i ver z o es e te h h2 => exact Q_len_own hx h h2 te.h
    | @nil e te => exact Q_len_nil hx te.h
    | @str l ts => exact Q_len_str hx ts.h
  | not h => exact Q_not h
  | @pick dst ty pos af g c x y sv h =>
    generalize hc : σ.ev c = e at h
    cases h with
    | t h => exact Q_pick hc h.eq
    | f h => exact Q_pick hc h.eq
  | extract h h2 h3 => exact Q_extract h (h3.eq ▸ h2)

inductive GdR : Bool → SV → Bool → Prop
  | tt : GdR true (.d (.b true)) true
  | tf : GdR true (.d (.b false)) false
  | ft : GdR false (.d (.b true)) false
  | ff : GdR false (.d (.b false)) true
/-- A step. -/
inductive OD (P : Program) (ops : Array Oper) : Oper → St → St → Prop
  | box {t : Nat} {T : TypeId} {x : Operand} {ty : TypeId} {pos : String} {af : Array Edge} {fr : List (Nat × SV)} {L L' : List LO} {N i : Nat} {cs : List SV} (h : Cl ((St.mk fr L N).ev x) cs) (ht : Nat.blt t N = true) (h2 : Sn (.box cs) L i L') :
      OD P ops ⟨some t, .box T x, ty, pos, af, none⟩ ⟨fr, L, N⟩ ⟨(t, .ptr i 0) :: fr, L', N⟩
  | alloc {t : Nat} {T : TypeId} {ty : TypeId} {pos : String} {af : Array Edge} {fr : List (Nat × SV)} {L L' : List LO} {N i : Nat} {zs : List Value} {cs : List SV} [TZ P T zs] (hc : zs.map ofConst = cs) (hs : SV.ones cs = true) (ht : Nat.blt t N = true) (h2 : Sn (.box cs) L i L') :
      OD P ops ⟨some t, .alloc T, ty, pos, af, none⟩ ⟨fr, L, N⟩ ⟨(t, .ptr i 0) :: fr, L', N⟩
  | store {T : TypeId} {x y : Operand} {ty : TypeId} {pos : String} {af : Array Edge} {fr : List (Nat × SV)} {L L' : List LO} {N i off n bs : Nat} {g : Bool} {cs ds cs' : List SV} (hx : (St.mk fr L N).ev x = .ptr i off) (hL : L[i]? = some (.box cs)) (hy : Cl ((St.mk fr L N).ev y) ds) [TI P T g n bs] (hn : ds.length = n)
      (hp : Pt off ds cs cs') (hs : St1 (.box cs') i L L') : OD P ops ⟨none, .store T x y, ty, pos, af, none⟩ ⟨fr, L, N⟩ ⟨fr, L', N⟩
  | q {t : Nat} {op : Op} {ty : TypeId} {pos : String} {af : Array Edge} {sv : SV} {fr : List (Nat × SV)} {L : List LO} {N : Nat} (h : QD P ⟨fr, L, N⟩ ⟨some t, op, ty, pos, af, none⟩ sv) (ht : Nat.blt t N = true) :
      OD P ops ⟨some t, op, ty, pos, af, none⟩ ⟨fr, L, N⟩ ⟨(t, sv) :: fr, L, N⟩
/-- What a guard lets through. -/
inductive OB (P : Program) (ops : Array Oper) : Bool → Oper → Nat → St → St → Prop
  | run {o : Oper} {t : Nat} {σ σ' : St} (h : OD P ops o σ σ') : OB P ops true o t σ σ'
  | pass {o : Oper} {t : Nat} {fr : List (Nat × SV)} {L : List LO} {N : Nat} : OB P ops false o t ⟨fr, L, N⟩ ⟨(t, .junk) :: fr, L, N⟩
/-- A step that may be guarded. -/
inductive OG (P : Program) (ops : Array Oper) : Oper → St → St → Prop
  | plain {d : Option Nat} {op : Op} {ty : TypeId} {pos : String} {af : Array Edge} {σ σ' : St} (h : OD P ops ⟨d, op, ty, pos, af, none⟩ σ σ') : OG P ops ⟨d, op, ty, pos, af, none⟩ σ σ'
  | guard {t : Nat} {op : Op} {ty : TypeId} {pos : String} {af : Array Edge} {j tj : Nat} {want b : Bool} {o' : Oper} {fr : List (Nat × SV)} {L : List LO} {N : Nat} {σ' : St} (hj : ops[j]? = some o') (hd : o'.dst = some tj) (htj : Nat.blt tj N = true) (ht : Nat.blt t N = true)
      (hb : GdR want (look fr tj) b) (h : OB P ops b ⟨some t, op, ty, pos, af, none⟩ t ⟨fr, L, N⟩ σ') : OG P ops ⟨some t, op, ty, pos, af, some (j, want)⟩ ⟨fr, L, N⟩ σ'

section
variable {P : Program} {A : Amb} {ops : Array Oper} {rest : List Oper} {o : Oper} {σ σ' : St} {K : St → Prop}
theorem VO_od (h : OD P ops o σ σ') (hv : VO P A ops rest σ' K) : VO P A ops (o :: rest) σ K := by
  cases h with
  | q h ht => exact VO_q h.quiet ht hv
  | box h ht h2 => exact VO_box rfl h.spec.1 h.spec.2 ht h2.spec.1 h2.spec.2 hv
  | @alloc t T ty pos af fr L L' N i zs cs tz hc hs ht h2 => exact VO_alloc tz.h hc hs ht h2.spec.1 h2.spec.2 hv
  | @store T x y ty pos af fr L L' N i off n bs g cs ds cs' hx hL hy ti hn hp hs =>
    subst hn
    exact VO_store hx hL rfl hy.spec.1 hy.spec.2 ti.h rfl (Nat.ble_eq_true_of_le hp.spec.1) hp.spec.2 hs.spec hv
/-- THE step of a row of operations. -/
theorem VO_d (hv : VO P A ops rest σ' K) (h : OG P ops o σ σ' := by (repeat (first | exact Rng.mk (by omega) (by omega) | constructor)); first | done | fail) : VO P A ops (o :: rest) σ K := by
  cases h with
  | plain h => exact VO_od h hv
  | @guard t op ty pos af j tj want b o' fr L N σ' hj hd htj ht hb h =>
    cases h with
    | run h =>
      generalize hl : look fr tj = e at hb
      cases hb with
      | tt => exact VO_run hj hd htj hl (VO_od h hv)
      | ff => exact VO_run hj hd htj hl (VO_od h hv)
    | pass =>
      generalize hl : look fr tj = e at hb
      cases hb with
      | tf => exact VO_pass hj hd htj hl rfl ht hv
      | ft => exact VO_pass hj hd htj hl rfl ht hv
/-- A guarded operation that runs, laid bare. -/
theorem VO_bare {d : Option Nat} {op : Op} {ty : TypeId} {pos : String} {af : Array Edge} {j tj : Nat} {want : Bool} {o' : Oper} {fr : List (Nat × SV)} {L : List LO} {N : Nat}
    (hj : ops[j]? = some o') (hdst : o'.dst = some tj) (htj : Nat.blt tj N = true) (hb : look fr tj = .d (.b want)) (h : VO P A ops (⟨d, op, ty, pos, af, none⟩ :: rest) ⟨fr, L, N⟩ K) :
    VO P A ops (⟨d, op, ty, pos, af, some (j, want)⟩ :: rest) ⟨fr, L, N⟩ K := VO_run hj hdst htj hb h
end

inductive QB (P : Program) : Bool → St → Oper → SV → Prop
  | run {o : Oper} {σ : St} {sv : SV} (h : QD P σ o sv) : QB P true σ o sv
  | pass {o : Oper} {σ : St} : QB P false σ o .junk
/-- The like in a region that draws its order. -/
inductive QG (P : Program) (ops : Array Oper) : Oper → St → St → Prop
  | plain {t : Nat} {op : Op} {ty : TypeId} {pos : String} {af : Array Edge} {sv : SV} {fr : List (Nat × SV)} {L : List LO} {N : Nat} (h : QD P ⟨fr, L, N⟩ ⟨some t, op, ty, pos, af, none⟩ sv) (ht : Nat.blt t N = true) :
      QG P ops ⟨some t, op, ty, pos, af, none⟩ ⟨fr, L, N⟩ ⟨(t, sv) :: fr, L, N⟩
  | guard {t : Nat} {op : Op} {ty : TypeId} {pos : String} {af : Array Edge} {j tj : Nat} {want b : Bool} {o' : Oper} {fr : List (Nat × SV)} {L : List LO} {N : Nat} {sv : SV} (hj : ops[j]? = some o') (hd : o'.dst = some tj) (htj : Nat.blt tj N = true) (ht : Nat.blt t N = true)
      (hb : GdR want (look fr tj) b) (h : QB P b ⟨fr, L, N⟩ ⟨some t, op, ty, pos, af, some (j, want)⟩ sv) : QG P ops ⟨some t, op, ty, pos, af, some (j, want)⟩ ⟨fr, L, N⟩ ⟨(t, sv) :: fr, L, N⟩
theorem VQ_d {P : Program} {A : Amb} {ops : Array Oper} {rest : List Oper} {o : Oper} {σ σ' : St} {K : St → Prop} (hv : VQ P A ops rest σ' K) (h : QG P ops o σ σ' := by (repeat (first | exact Rng.mk (by omega) (by omega) | constructor)); first | done | fail) : VQ P A ops (o :: rest) σ K := by
  cases h with
  | plain h ht => exact VQ_q h.quiet ht hv
  | @guard t op ty pos af j tj want b o' fr L N sv hj hd htj ht hb h =>
    cases h with
    | run h =>
      generalize hl : look fr tj = e at hb
      cases hb with
      | tt => exact VQ_run hj hd htj hl h.quiet ht hv
      | ff => exact VQ_run hj hd htj hl h.quiet ht hv
    | pass =>
      generalize hl : look fr tj = e at hb
      cases hb with
      | tf => exact VQ_pass hj hd htj hl rfl ht hv
      | ft => exact VQ_pass hj hd htj hl rfl ht hv
end Go.Eng
