import Derived.Test.YtfaplndgbgoaaaaGreatEng34
set_option linter.unusedVariables false
namespace Go.Eng
open Go Go.RowKit
def hQc (n : Int) : U := .i .i64 n
def hQd (s : List UInt8) : U := .s s
def gK8 : List Int → List U
 | [] => []
 | a :: l => .i .i64 a :: gK8 l
def gY : List (List UInt8) → List U
 | [] => []
 | a :: l => .s a :: gY l
class Enc (α : Type) (e : outParam (α → U)) (es : outParam (List α → List U)) (z : outParam Nat) : Prop where
 h : ∀ l, es l = l.map e
 hz : ∀ x, (e x).sz = z
theorem Enc.get {α : Type} {e : α → U} {es : List α → List U} {z : Nat} [E : Enc α e es z] {l : List α} {k : Nat} {x : α} (h : l[k]? = some x) : (es l)[k]? = some (e x) := by rw [E.h, List.getElem?_map, h]; rfl
theorem Enc.len {α : Type} {e : α → U} {es : List α → List U} {z : Nat} [E : Enc α e es z] (l : List α) : (es l).length = l.length := by rw [E.h, List.length_map]
theorem Enc.app {α : Type} {e : α → U} {es : List α → List U} {z : Nat} [E : Enc α e es z] (l r : List α) : es (l ++ r) = es l ++ es r := by simp only [E.h, List.map_append]
theorem Enc.set {α : Type} {e : α → U} {es : List α → List U} {z : Nat} [E : Enc α e es z] (l : List α) (k : Nat) (x : α) : es (l.set k x) = (es l).set k (e x) := by simp only [E.h, List.map_set]
theorem Enc.rep {α : Type} {e : α → U} {es : List α → List U} {z : Nat} [E : Enc α e es z] (n : Nat) (x : α) : es (List.replicate n x) = List.replicate n (e x) := by simp only [E.h, List.map_replicate]
theorem Enc.all {α : Type} {e : α → U} {es : List α → List U} {z : Nat} [E : Enc α e es z] (l : List α) : ∀ u ∈ es l, u.sz = z := by
 rw [E.h]
 intro u hu
 obtain ⟨x, _, rfl⟩ := List.mem_map.1 hu
 exact E.hz x
instance : Enc Int hQc gK8 1 := ⟨fun l => by induction l with | nil => rfl | cons a l ih => simp [gK8, ih, hQc], fun _ => rfl⟩
instance : Enc (List UInt8) hQd gY 1 := ⟨fun l => by induction l with | nil => rfl | cons a l ih => simp [gY, ih, hQd], fun _ => rfl⟩
theorem hSi {l : List Int} {k : Nat} {x : Int} (h : l[k]? = some x) : (gK8 l)[k]? = some (.i .i64 x) := Enc.get h
theorem gOl {l : List (List UInt8)} {k : Nat} {x : List UInt8} (h : l[k]? = some x) : (gY l)[k]? = some (.s x) := Enc.get h
theorem gO1 (l : List (List UInt8)) : U.noSls (gY l) = true := by induction l with | nil => rfl | cons a l ih => simp [gY, U.noSls, U.noSl, ih]
theorem gO2 (l : List Int) : U.noSls (gK8 l) = true := by induction l with | nil => rfl | cons a l ih => simp [gK8, U.noSls, U.noSl, ih]
structure gB where
 atom : List UInt8
 list : List gB
mutual
def mD : gB → U
 | ⟨f0, f1⟩ => .st [.s f0, .sl 2 (gM f1)]
def gM : List gB → List U
 | [] => []
 | a :: l => mD a :: gM l
end
theorem gX4 (x : gB) : (mD x).sz = 2 := by cases x; simp [mD, U.sz, U.szs]
instance : Enc gB mD gM 2 := ⟨fun l => by induction l with | nil => rfl | cons a l ih => simp [gM, ih], gX4⟩
theorem qO {l : List gB} {k : Nat} {x : gB} (h : l[k]? = some x) : (gM l)[k]? = some (mD x) := Enc.get h
structure gD where
 kind : Int
 name : List UInt8
 args : List gD
mutual
def jQ : gD → U
 | ⟨f0, f1, f2⟩ => .st [.i .i64 f0, .s f1, .sl 3 (gJ f2)]
def gJ : List gD → List U
 | [] => []
 | a :: l => jQ a :: gJ l
end
theorem gEj (x : gD) : (jQ x).sz = 3 := by cases x; simp [jQ, U.sz, U.szs]
instance : Enc gD jQ gJ 3 := ⟨fun l => by induction l with | nil => rfl | cons a l ih => simp [gJ, ih], gEj⟩
theorem gA5 {l : List gD} {k : Nat} {x : gD} (h : l[k]? = some x) : (gJ l)[k]? = some (jQ x) := Enc.get h
structure gH where
 var_ : List UInt8
 type_ : gD
mutual
def gFz : gH → U
 | ⟨f0, f1⟩ => .st [.s f0, jQ f1]
def gP : List gH → List U
 | [] => []
 | a :: l => gFz a :: gP l
end
theorem gS4 (x : gH) : (gFz x).sz = 4 := by cases x; simp [gFz, U.sz, U.szs, gEj]
instance : Enc gH gFz gP 4 := ⟨fun l => by induction l with | nil => rfl | cons a l ih => simp [gP, ih], gS4⟩
theorem gIv {l : List gH} {k : Nat} {x : gH} (h : l[k]? = some x) : (gP l)[k]? = some (gFz x) := Enc.get h
mutual
structure gJq where
 constructor : List UInt8
 vars : List (List UInt8)
 body : jO
structure jO where
 kind : Int
 trait : List UInt8
 name : List UInt8
 n : Int
 type_ : gD
 args : List jO
 arms : List gJq
end
mutual
def gZ2 : gJq → U
 | ⟨f0, f1, f2⟩ => .st [.s f0, .sl 1 (gY f1), yO f2]
def qD : List gJq → List U
 | [] => []
 | a :: l => gZ2 a :: qD l
def yO : jO → U
 | ⟨f0, f1, f2, f3, f4, f5, f6⟩ => .st [.i .i64 f0, .s f1, .s f2, .i .i64 f3, jQ f4, .sl 9 (kM f5), .sl 11 (qD f6)]
def kM : List jO → List U
 | [] => []
 | a :: l => yO a :: kM l
end
theorem gKg (x : jO) : (yO x).sz = 9 := by cases x; simp [yO, U.sz, U.szs, gEj]
instance : Enc jO yO kM 9 := ⟨fun l => by induction l with | nil => rfl | cons a l ih => simp [kM, ih], gKg⟩
theorem gS5 {l : List jO} {k : Nat} {x : jO} (h : l[k]? = some x) : (kM l)[k]? = some (yO x) := Enc.get h
theorem hEu (x : gJq) : (gZ2 x).sz = 11 := by cases x; simp [gZ2, U.sz, U.szs, gKg]
instance : Enc gJq gZ2 qD 11 := ⟨fun l => by induction l with | nil => rfl | cons a l ih => simp [qD, ih], hEu⟩
theorem gX5 {l : List gJq} {k : Nat} {x : gJq} (h : l[k]? = some x) : (qD l)[k]? = some (gZ2 x) := Enc.get h
structure pU where
 name : List UInt8
 params : List gD
 result : gD
 hasDefault : Bool
 vars : List (List UInt8)
 body : jO
mutual
def gEr : pU → U
 | ⟨f0, f1, f2, f3, f4, f5⟩ => .st [.s f0, .sl 3 (gJ f1), jQ f2, .b f3, .sl 1 (gY f4), yO f5]
def kT : List pU → List U
 | [] => []
 | a :: l => gEr a :: kT l
end
theorem gP4 (x : pU) : (gEr x).sz = 16 := by cases x; simp [gEr, U.sz, U.szs, gKg, gEj]
instance : Enc pU gEr kT 16 := ⟨fun l => by induction l with | nil => rfl | cons a l ih => simp [kT, ih], gP4⟩
theorem gK9 {l : List pU} {k : Nat} {x : pU} (h : l[k]? = some x) : (kT l)[k]? = some (gEr x) := Enc.get h
structure qW where
 name : List UInt8
 supertraits : List (List UInt8)
 auto : Bool
 assoc : Bool
 signatures : List pU
mutual
def gKh : qW → U
 | ⟨f0, f1, f2, f3, f4⟩ => .st [.s f0, .sl 1 (gY f1), .b f2, .b f3, .sl 16 (kT f4)]
def uC : List qW → List U
 | [] => []
 | a :: l => gKh a :: uC l
end
theorem gX6 (x : qW) : (gKh x).sz = 5 := by cases x; simp [gKh, U.sz, U.szs]
instance : Enc qW gKh uC 5 := ⟨fun l => by induction l with | nil => rfl | cons a l ih => simp [uC, ih], gX6⟩
theorem gUg {l : List qW} {k : Nat} {x : qW} (h : l[k]? = some x) : (uC l)[k]? = some (gKh x) := Enc.get h
structure pK where
 name : List UInt8
 fields : List gD
mutual
def gDr : pK → U
 | ⟨f0, f1⟩ => .st [.s f0, .sl 3 (gJ f1)]
def mQ : List pK → List U
 | [] => []
 | a :: l => gDr a :: mQ l
end
theorem gNh (x : pK) : (gDr x).sz = 2 := by cases x; simp [gDr, U.sz, U.szs]
instance : Enc pK gDr mQ 2 := ⟨fun l => by induction l with | nil => rfl | cons a l ih => simp [mQ, ih], gNh⟩
theorem gBt {l : List pK} {k : Nat} {x : pK} (h : l[k]? = some x) : (mQ l)[k]? = some (gDr x) := Enc.get h
structure kW where
 name : List UInt8
 vars : List (List UInt8)
 constructors : List pK
mutual
def gDs : kW → U
 | ⟨f0, f1, f2⟩ => .st [.s f0, .sl 1 (gY f1), .sl 2 (mQ f2)]
def mG : List kW → List U
 | [] => []
 | a :: l => gDs a :: mG l
end
theorem gRd (x : kW) : (gDs x).sz = 3 := by cases x; simp [gDs, U.sz, U.szs]
instance : Enc kW gDs mG 3 := ⟨fun l => by induction l with | nil => rfl | cons a l ih => simp [mG, ih], gRd⟩
theorem gKi {l : List kW} {k : Nat} {x : kW} (h : l[k]? = some x) : (mG l)[k]? = some (gDs x) := Enc.get h
structure jF where
 trait : List UInt8
 type_ : gD
mutual
def gAi : jF → U
 | ⟨f0, f1⟩ => .st [.s f0, jQ f1]
def jV : List jF → List U
 | [] => []
 | a :: l => gAi a :: jV l
end
theorem gNi (x : jF) : (gAi x).sz = 4 := by cases x; simp [gAi, U.sz, U.szs, gEj]
instance : Enc jF gAi jV 4 := ⟨fun l => by induction l with | nil => rfl | cons a l ih => simp [jV, ih], gNi⟩
theorem gHp {l : List jF} {k : Nat} {x : jF} (h : l[k]? = some x) : (jV l)[k]? = some (gAi x) := Enc.get h
structure gBn where
 name : List UInt8
 vars : List (List UInt8)
 body : jO
mutual
def gNj : gBn → U
 | ⟨f0, f1, f2⟩ => .st [.s f0, .sl 1 (gY f1), yO f2]
def mR : List gBn → List U
 | [] => []
 | a :: l => gNj a :: mR l
end
theorem gV5 (x : gBn) : (gNj x).sz = 11 := by cases x; simp [gNj, U.sz, U.szs, gKg]
instance : Enc gBn gNj mR 11 := ⟨fun l => by induction l with | nil => rfl | cons a l ih => simp [mR, ih], gV5⟩
theorem gX7 {l : List gBn} {k : Nat} {x : gBn} (h : l[k]? = some x) : (mR l)[k]? = some (gNj x) := Enc.get h
structure jZ where
 trait : List UInt8
 vars : List (List UInt8)
 head : gD
 where_ : List jF
 default_ : Bool
 hasAssoc : Bool
 assoc : gD
 methods : List gBn
mutual
def gCl : jZ → U
 | ⟨f0, f1, f2, f3, f4, f5, f6, f7⟩ => .st [.s f0, .sl 1 (gY f1), jQ f2, .sl 4 (jV f3), .b f4, .b f5, jQ f6, .sl 11 (mR f7)]
def mH : List jZ → List U
 | [] => []
 | a :: l => gCl a :: mH l
end
theorem gRe (x : jZ) : (gCl x).sz = 12 := by cases x; simp [gCl, U.sz, U.szs, gEj]
instance : Enc jZ gCl mH 12 := ⟨fun l => by induction l with | nil => rfl | cons a l ih => simp [mH, ih], gRe⟩
theorem gGn {l : List jZ} {k : Nat} {x : jZ} (h : l[k]? = some x) : (mH l)[k]? = some (gCl x) := Enc.get h
structure gFd where
 name : List UInt8
 type_ : gD
mutual
def gRf : gFd → U
 | ⟨f0, f1⟩ => .st [.s f0, jQ f1]
def gFe : List gFd → List U
 | [] => []
 | a :: l => gRf a :: gFe l
end
theorem gX8 (x : gFd) : (gRf x).sz = 4 := by cases x; simp [gRf, U.sz, U.szs, gEj]
instance : Enc gFd gRf gFe 4 := ⟨fun l => by induction l with | nil => rfl | cons a l ih => simp [gFe, ih], gX8⟩
theorem gUh {l : List gFd} {k : Nat} {x : gFd} (h : l[k]? = some x) : (gFe l)[k]? = some (gRf x) := Enc.get h
structure kZ where
 name : List UInt8
 vars : List (List UInt8)
 where_ : List jF
 params : List gFd
 result : gD
 body : jO
mutual
def gDt : kZ → U
 | ⟨f0, f1, f2, f3, f4, f5⟩ => .st [.s f0, .sl 1 (gY f1), .sl 4 (jV f2), .sl 4 (gFe f3), jQ f4, yO f5]
def mI : List kZ → List U
 | [] => []
 | a :: l => gDt a :: mI l
end
theorem gRg (x : kZ) : (gDt x).sz = 16 := by cases x; simp [gDt, U.sz, U.szs, gKg, gEj]
instance : Enc kZ gDt mI 16 := ⟨fun l => by induction l with | nil => rfl | cons a l ih => simp [mI, ih], gRg⟩
theorem gRh {l : List kZ} {k : Nat} {x : kZ} (h : l[k]? = some x) : (mI l)[k]? = some (gDt x) := Enc.get h
structure jY where
 name : List UInt8
 deps : List (List UInt8)
 traits : List qW
 dataTypes : List kW
 instances : List jZ
 functions : List kZ
mutual
def gC9 : jY → U
 | ⟨f0, f1, f2, f3, f4, f5⟩ => .st [.s f0, .sl 1 (gY f1), .sl 5 (uC f2), .sl 3 (mG f3), .sl 12 (mH f4), .sl 16 (mI f5)]
def kK : List jY → List U
 | [] => []
 | a :: l => gC9 a :: kK l
end
theorem gS6 (x : jY) : (gC9 x).sz = 6 := by cases x; simp [gC9, U.sz, U.szs]
instance : Enc jY gC9 kK 6 := ⟨fun l => by induction l with | nil => rfl | cons a l ih => simp [kK, ih], gS6⟩
theorem gDa {l : List jY} {k : Nat} {x : jY} (h : l[k]? = some x) : (kK l)[k]? = some (gC9 x) := Enc.get h
structure gI where
 packages : List jY
mutual
def kS : gI → U
 | ⟨f0⟩ => .st [.sl 6 (kK f0)]
def gX9 : List gI → List U
 | [] => []
 | a :: l => kS a :: gX9 l
end
structure gT where
 package : Int
 at_ : Int
mutual
def wU : gT → U
 | ⟨f0, f1⟩ => .st [.i .i64 f0, .i .i64 f1]
def mU : List gT → List U
 | [] => []
 | a :: l => wU a :: mU l
end
theorem gId (x : gT) : (wU x).sz = 2 := by cases x; simp [wU, U.sz, U.szs]
instance : Enc gT wU mU 2 := ⟨fun l => by induction l with | nil => rfl | cons a l ih => simp [mU, ih], gId⟩
theorem yT {l : List gT} {k : Nat} {x : gT} (h : l[k]? = some x) : (mU l)[k]? = some (wU x) := Enc.get h
structure jK where
 goal : jF
 from_ : Int
 steps : List Int
mutual
def gFf : jK → U
 | ⟨f0, f1, f2⟩ => .st [gAi f0, .i .i64 f1, .sl 1 (gK8 f2)]
def kX : List jK → List U
 | [] => []
 | a :: l => gFf a :: kX l
end
theorem gOm (x : jK) : (gFf x).sz = 6 := by cases x; simp [gFf, U.sz, U.szs, gNi]
instance : Enc jK gFf kX 6 := ⟨fun l => by induction l with | nil => rfl | cons a l ih => simp [kX, ih], gOm⟩
theorem gJr {l : List jK} {k : Nat} {x : jK} (h : l[k]? = some x) : (kX l)[k]? = some (gFf x) := Enc.get h
structure gU where
 kind : Int
 n : Int
 at_ : gT
 args : List gU
mutual
def mV : gU → U
 | ⟨f0, f1, f2, f3⟩ => .st [.i .i64 f0, .i .i64 f1, wU f2, .sl 5 (qE f3)]
def qE : List gU → List U
 | [] => []
 | a :: l => mV a :: qE l
end
theorem gRi (x : gU) : (mV x).sz = 5 := by cases x; simp [mV, U.sz, U.szs, gId]
instance : Enc gU mV qE 5 := ⟨fun l => by induction l with | nil => rfl | cons a l ih => simp [qE, ih], gRi⟩
theorem gYa {l : List gU} {k : Nat} {x : gU} (h : l[k]? = some x) : (qE l)[k]? = some (mV x) := Enc.get h
structure mP where
 a : gD
 b : gD
 node : Int
mutual
def gIe : mP → U
 | ⟨f0, f1, f2⟩ => .st [jQ f0, jQ f1, .i .i64 f2]
def jP : List mP → List U
 | [] => []
 | a :: l => gIe a :: jP l
end
theorem gRj (x : mP) : (gIe x).sz = 7 := by cases x; simp [gIe, U.sz, U.szs, gEj]
instance : Enc mP gIe jP 7 := ⟨fun l => by induction l with | nil => rfl | cons a l ih => simp [jP, ih], gRj⟩
theorem gNk {l : List mP} {k : Nat} {x : mP} (h : l[k]? = some x) : (jP l)[k]? = some (gIe x) := Enc.get h
structure pO where
 goal : jF
 node : Int
mutual
def gFg : pO → U
 | ⟨f0, f1⟩ => .st [gAi f0, .i .i64 f1]
def jG : List pO → List U
 | [] => []
 | a :: l => gFg a :: jG l
end
theorem gOn (x : pO) : (gFg x).sz = 5 := by cases x; simp [gFg, U.sz, U.szs, gNi]
instance : Enc pO gFg jG 5 := ⟨fun l => by induction l with | nil => rfl | cons a l ih => simp [jG, ih], gOn⟩
theorem gNl {l : List pO} {k : Nat} {x : pO} (h : l[k]? = some x) : (jG l)[k]? = some (gFg x) := Enc.get h
structure gG where
 next : Int
 count : Int
 node : Int
 bindings : List gH
 equations : List mP
 obligations : List pO
 code : Int
 at_ : Int
mutual
def mW : gG → U
 | ⟨f0, f1, f2, f3, f4, f5, f6, f7⟩ => .st [.i .i64 f0, .i .i64 f1, .i .i64 f2, .sl 4 (gP f3), .sl 7 (jP f4), .sl 5 (jG f5), .i .i64 f6, .i .i64 f7]
def gRk : List gG → List U
 | [] => []
 | a :: l => mW a :: gRk l
end
end Go.Eng
set_option linter.unusedVariables false
set_option linter.unusedSimpArgs false
namespace Go.Eng
open Go Go.RowKit
theorem qU {α β : Type} {v : α} {k : α → β} {r : β} (h : lt_ v k = r) : ∃ x, v = x ∧ k x = r := ⟨v, rfl, h⟩
section
variable {l : List UInt8} {k n : Nat}
theorem hF6 (h : decide ((k : Int) < (l.length : Int)) = true) : k < l.length := by have h := of_decide_eq_true h; omega
theorem hF7 (h : decide ((k : Int) < (l.length : Int)) = false) : l.length ≤ k := by have h := of_decide_eq_false h; omega
theorem vO (h : decide ((k : Int) < (n : Int)) = true) : k < n := by have h := of_decide_eq_true h; omega
theorem vP (h : decide ((k : Int) < (n : Int)) = false) : n ≤ k := by have h := of_decide_eq_false h; omega
end
section
variable {P : Program} {A : Amb} {ops : Array Oper} {K : St → Prop} {Q : Exit → St → Prop} {rest : List Oper} {σ : St} {c : Code}
theorem jU (σJ : St) (h1 : VO P A ops rest σ (fun s => Le s σJ)) (h2 : K σJ) (hA : A.L0.length ≤ σJ.L.length := by rw [gBl.h (A := A)]; exact Nat.le_of_ble_eq_true rfl) : VO P A ops rest σ K :=
 fun R hR a w hr => h1 R (fun σ' a' w' hle hr' => hR σJ a' w' h2 (hr'.le hle hA)) a w hr
theorem hGz {x y : Code} (σJ : St) (h1 : V P A x σ (thenS (fun s => Le s σJ) Q)) (h2 : V P A y σJ Q) (hA : A.L0.length ≤ σJ.L.length := by rw [gBl.h (A := A)]; exact Nat.le_of_ble_eq_true rfl) : V P A (.seq x y) σ Q :=
 kD (V.mono h1 (fun e s hq => by
  cases e with
  | normal => exact hOo hq h2 hA
  | _ => exact hq))
theorem mY {α0 : Type} (I : α0 → St) (J : α0 → Prop) (μ : α0 → Nat) (x0 : α0) (h0 : Le σ (I x0)) (hJ : J x0)
  (round : ∀ a0, J a0 → V P A c (I a0) (thenS (fun s => ∃ b0, J b0 ∧ μ b0 < μ a0 ∧ Le s (I b0)) Q)) (hA : ∀ a0, A.L0.length ≤ (I a0).L.length := by intros; rw [gBl.h (A := A)]; exact Nat.le_of_ble_eq_true rfl) : V P A (.loop c) σ Q :=
 gLq (α := α0) (fun x => I (x)) (fun x => J (x)) (fun x => μ (x)) (x0) h0 hJ (fun x hx => V.mono (round (x) hx) (fun e s hq => by
  cases e with
  | normal =>
    obtain ⟨b0, h1, h2, h3⟩ := hq
    exact ⟨(b0), h1, h2, h3⟩
  | _ => exact hq)) (fun x => hA (x))
theorem gCx {α0 α1 : Type} (I : α0 → α1 → St) (J : α0 → α1 → Prop) (μ : α0 → α1 → Nat) (x0 : α0) (x1 : α1) (h0 : Le σ (I x0 x1)) (hJ : J x0 x1)
  (round : ∀ a0 a1, J a0 a1 → V P A c (I a0 a1) (thenS (fun s => ∃ b0 b1, J b0 b1 ∧ μ b0 b1 < μ a0 a1 ∧ Le s (I b0 b1)) Q)) (hA : ∀ a0 a1, A.L0.length ≤ (I a0 a1).L.length := by intros; rw [gBl.h (A := A)]; exact Nat.le_of_ble_eq_true rfl) : V P A (.loop c) σ Q :=
 gLq (α := α0 × α1) (fun x => I (x.1) (x.2)) (fun x => J (x.1) (x.2)) (fun x => μ (x.1) (x.2)) (x0, x1) h0 hJ (fun x hx => V.mono (round (x.1) (x.2) hx) (fun e s hq => by
  cases e with
  | normal =>
    obtain ⟨b0, b1, h1, h2, h3⟩ := hq
    exact ⟨(b0, b1), h1, h2, h3⟩
  | _ => exact hq)) (fun x => hA (x.1) (x.2))
theorem kQ {α0 α1 α2 : Type} (I : α0 → α1 → α2 → St) (J : α0 → α1 → α2 → Prop) (μ : α0 → α1 → α2 → Nat) (x0 : α0) (x1 : α1) (x2 : α2) (h0 : Le σ (I x0 x1 x2)) (hJ : J x0 x1 x2)
  (round : ∀ a0 a1 a2, J a0 a1 a2 → V P A c (I a0 a1 a2) (thenS (fun s => ∃ b0 b1 b2, J b0 b1 b2 ∧ μ b0 b1 b2 < μ a0 a1 a2 ∧ Le s (I b0 b1 b2)) Q)) (hA : ∀ a0 a1 a2, A.L0.length ≤ (I a0 a1 a2).L.length := by intros; rw [gBl.h (A := A)]; exact Nat.le_of_ble_eq_true rfl) : V P A (.loop c) σ Q :=
 gLq (α := α0 × α1 × α2) (fun x => I (x.1) (x.2.1) (x.2.2)) (fun x => J (x.1) (x.2.1) (x.2.2)) (fun x => μ (x.1) (x.2.1) (x.2.2)) (x0, x1, x2) h0 hJ (fun x hx => V.mono (round (x.1) (x.2.1) (x.2.2) hx) (fun e s hq => by
  cases e with
  | normal =>
    obtain ⟨b0, b1, b2, h1, h2, h3⟩ := hq
    exact ⟨(b0, b1, b2), h1, h2, h3⟩
  | _ => exact hq)) (fun x => hA (x.1) (x.2.1) (x.2.2))
theorem gS7 {α0 α1 α2 α3 α4 : Type} (I : α0 → α1 → α2 → α3 → α4 → St) (J : α0 → α1 → α2 → α3 → α4 → Prop) (μ : α0 → α1 → α2 → α3 → α4 → Nat) (x0 : α0) (x1 : α1) (x2 : α2) (x3 : α3) (x4 : α4) (h0 : Le σ (I x0 x1 x2 x3 x4)) (hJ : J x0 x1 x2 x3 x4)
  (round : ∀ a0 a1 a2 a3 a4, J a0 a1 a2 a3 a4 → V P A c (I a0 a1 a2 a3 a4) (thenS (fun s => ∃ b0 b1 b2 b3 b4, J b0 b1 b2 b3 b4 ∧ μ b0 b1 b2 b3 b4 < μ a0 a1 a2 a3 a4 ∧ Le s (I b0 b1 b2 b3 b4)) Q)) (hA : ∀ a0 a1 a2 a3 a4, A.L0.length ≤ (I a0 a1 a2 a3 a4).L.length := by intros; rw [gBl.h (A := A)]; exact Nat.le_of_ble_eq_true rfl) : V P A (.loop c) σ Q :=
 gLq (α := α0 × α1 × α2 × α3 × α4) (fun x => I (x.1) (x.2.1) (x.2.2.1) (x.2.2.2.1) (x.2.2.2.2)) (fun x => J (x.1) (x.2.1) (x.2.2.1) (x.2.2.2.1) (x.2.2.2.2)) (fun x => μ (x.1) (x.2.1) (x.2.2.1) (x.2.2.2.1) (x.2.2.2.2)) (x0, x1, x2, x3, x4) h0 hJ (fun x hx => V.mono (round (x.1) (x.2.1) (x.2.2.1) (x.2.2.2.1) (x.2.2.2.2) hx) (fun e s hq => by
  cases e with
  | normal =>
    obtain ⟨b0, b1, b2, b3, b4, h1, h2, h3⟩ := hq
    exact ⟨(b0, b1, b2, b3, b4), h1, h2, h3⟩
  | _ => exact hq)) (fun x => hA (x.1) (x.2.1) (x.2.2.1) (x.2.2.2.1) (x.2.2.2.2))
theorem hEv {α0 α1 α2 α3 α4 α5 α6 : Type} (I : α0 → α1 → α2 → α3 → α4 → α5 → α6 → St) (J : α0 → α1 → α2 → α3 → α4 → α5 → α6 → Prop) (μ : α0 → α1 → α2 → α3 → α4 → α5 → α6 → Nat) (x0 : α0) (x1 : α1) (x2 : α2) (x3 : α3) (x4 : α4) (x5 : α5) (x6 : α6) (h0 : Le σ (I x0 x1 x2 x3 x4 x5 x6)) (hJ : J x0 x1 x2 x3 x4 x5 x6)
  (round : ∀ a0 a1 a2 a3 a4 a5 a6, J a0 a1 a2 a3 a4 a5 a6 → V P A c (I a0 a1 a2 a3 a4 a5 a6) (thenS (fun s => ∃ b0 b1 b2 b3 b4 b5 b6, J b0 b1 b2 b3 b4 b5 b6 ∧ μ b0 b1 b2 b3 b4 b5 b6 < μ a0 a1 a2 a3 a4 a5 a6 ∧ Le s (I b0 b1 b2 b3 b4 b5 b6)) Q)) (hA : ∀ a0 a1 a2 a3 a4 a5 a6, A.L0.length ≤ (I a0 a1 a2 a3 a4 a5 a6).L.length := by intros; rw [gBl.h (A := A)]; exact Nat.le_of_ble_eq_true rfl) : V P A (.loop c) σ Q :=
 gLq (α := α0 × α1 × α2 × α3 × α4 × α5 × α6) (fun x => I (x.1) (x.2.1) (x.2.2.1) (x.2.2.2.1) (x.2.2.2.2.1) (x.2.2.2.2.2.1) (x.2.2.2.2.2.2)) (fun x => J (x.1) (x.2.1) (x.2.2.1) (x.2.2.2.1) (x.2.2.2.2.1) (x.2.2.2.2.2.1) (x.2.2.2.2.2.2)) (fun x => μ (x.1) (x.2.1) (x.2.2.1) (x.2.2.2.1) (x.2.2.2.2.1) (x.2.2.2.2.2.1) (x.2.2.2.2.2.2)) (x0, x1, x2, x3, x4, x5, x6) h0 hJ (fun x hx => V.mono (round (x.1) (x.2.1) (x.2.2.1) (x.2.2.2.1) (x.2.2.2.2.1) (x.2.2.2.2.2.1) (x.2.2.2.2.2.2) hx) (fun e s hq => by
  cases e with
  | normal =>
    obtain ⟨b0, b1, b2, b3, b4, b5, b6, h1, h2, h3⟩ := hq
    exact ⟨(b0, b1, b2, b3, b4, b5, b6), h1, h2, h3⟩
  | _ => exact hq)) (fun x => hA (x.1) (x.2.1) (x.2.2.1) (x.2.2.2.1) (x.2.2.2.2.1) (x.2.2.2.2.2.1) (x.2.2.2.2.2.2))
theorem hEw {α0 α1 α2 α3 α4 α5 α6 α7 : Type} (I : α0 → α1 → α2 → α3 → α4 → α5 → α6 → α7 → St) (J : α0 → α1 → α2 → α3 → α4 → α5 → α6 → α7 → Prop) (μ : α0 → α1 → α2 → α3 → α4 → α5 → α6 → α7 → Nat) (x0 : α0) (x1 : α1) (x2 : α2) (x3 : α3) (x4 : α4) (x5 : α5) (x6 : α6) (x7 : α7) (h0 : Le σ (I x0 x1 x2 x3 x4 x5 x6 x7)) (hJ : J x0 x1 x2 x3 x4 x5 x6 x7)
  (round : ∀ a0 a1 a2 a3 a4 a5 a6 a7, J a0 a1 a2 a3 a4 a5 a6 a7 → V P A c (I a0 a1 a2 a3 a4 a5 a6 a7) (thenS (fun s => ∃ b0 b1 b2 b3 b4 b5 b6 b7, J b0 b1 b2 b3 b4 b5 b6 b7 ∧ μ b0 b1 b2 b3 b4 b5 b6 b7 < μ a0 a1 a2 a3 a4 a5 a6 a7 ∧ Le s (I b0 b1 b2 b3 b4 b5 b6 b7)) Q)) (hA : ∀ a0 a1 a2 a3 a4 a5 a6 a7, A.L0.length ≤ (I a0 a1 a2 a3 a4 a5 a6 a7).L.length := by intros; rw [gBl.h (A := A)]; exact Nat.le_of_ble_eq_true rfl) : V P A (.loop c) σ Q :=
 gLq (α := α0 × α1 × α2 × α3 × α4 × α5 × α6 × α7) (fun x => I (x.1) (x.2.1) (x.2.2.1) (x.2.2.2.1) (x.2.2.2.2.1) (x.2.2.2.2.2.1) (x.2.2.2.2.2.2.1) (x.2.2.2.2.2.2.2)) (fun x => J (x.1) (x.2.1) (x.2.2.1) (x.2.2.2.1) (x.2.2.2.2.1) (x.2.2.2.2.2.1) (x.2.2.2.2.2.2.1) (x.2.2.2.2.2.2.2)) (fun x => μ (x.1) (x.2.1) (x.2.2.1) (x.2.2.2.1) (x.2.2.2.2.1) (x.2.2.2.2.2.1) (x.2.2.2.2.2.2.1) (x.2.2.2.2.2.2.2)) (x0, x1, x2, x3, x4, x5, x6, x7) h0 hJ (fun x hx => V.mono (round (x.1) (x.2.1) (x.2.2.1) (x.2.2.2.1) (x.2.2.2.2.1) (x.2.2.2.2.2.1) (x.2.2.2.2.2.2.1) (x.2.2.2.2.2.2.2) hx) (fun e s hq => by
  cases e with
  | normal =>
    obtain ⟨b0, b1, b2, b3, b4, b5, b6, b7, h1, h2, h3⟩ := hq
    exact ⟨(b0, b1, b2, b3, b4, b5, b6, b7), h1, h2, h3⟩
  | _ => exact hq)) (fun x => hA (x.1) (x.2.1) (x.2.2.1) (x.2.2.2.1) (x.2.2.2.2.1) (x.2.2.2.2.2.1) (x.2.2.2.2.2.2.1) (x.2.2.2.2.2.2.2))
end
end Go.Eng
