import Derived.Test.YtfpdlnkkcnmebaaGreatEng34
set_option linter.unusedVariables false
namespace Go.Eng
open Go Go.RowKit
def hTo(n:Int):U:=.i .i64 n
def hTp(s:LB):U:=.s s
def gId:List Int→List U
 | []=>[]
 | a::l=>.i .i64 a::gId l
def gP:LS→List U
 | []=>[]
 | a::l=>.s a::gP l
class Enc (α:Type) (e:outParam (α→U)) (es:outParam (List α→List U)) (z:outParam Nat):Prop where
 h:∀l,es l=l.map e
 hz:∀x,(e x).sz=z
theorem Enc.get{α:Type}{e:α→U}{es:List α→List U}{z:Nat}[E:Enc α e es z]{l:List α}{k:Nat}{x:α}(h:l[k]? =some x):(es l)[k]? =some (e x):=by rw [E.h,List.getElem?_map,h];rfl
theorem Enc.len{α:Type}{e:α→U}{es:List α→List U}{z:Nat}[E:Enc α e es z](l:List α):(es l).length=l.length:=by rw [E.h,List.length_map]
theorem Enc.app{α:Type}{e:α→U}{es:List α→List U}{z:Nat}[E:Enc α e es z](l r:List α):es (l++r)=es l++es r:=by simp only [E.h,List.map_append]
theorem Enc.set{α:Type}{e:α→U}{es:List α→List U}{z:Nat}[E:Enc α e es z](l:List α)(k:Nat)(x:α):es (l.set k x)=(es l).set k (e x):=by simp only [E.h,List.map_set]
theorem Enc.rep{α:Type}{e:α→U}{es:List α→List U}{z:Nat}[E:Enc α e es z](n:Nat)(x:α):es (List.replicate n x)=List.replicate n (e x):=by simp only [E.h,List.map_replicate]
theorem Enc.all{α:Type}{e:α→U}{es:List α→List U}{z:Nat}[E:Enc α e es z](l:List α):∀u∈es l,u.sz=z:=by
 rw [E.h];intro u hu;obtain⟨x,_,rfl⟩:=List.mem_map.1 hu;exact E.hz x
instance:Enc Int hTo gId 1:=⟨fun l=>by induction l with | nil=>rfl | cons a l ih=>simp [gId,ih,hTo],fun _=>rfl⟩
instance:Enc LB hTp gP 1:=⟨fun l=>by induction l with | nil=>rfl | cons a l ih=>simp [gP,ih,hTp],fun _=>rfl⟩
theorem hTq{l:List Int}{k:Nat}{x:Int}(h:l[k]? =some x):(gId l)[k]? =some (.i .i64 x):=Enc.get h
theorem gNp{l:LS}{k:Nat}{x:LB}(h:l[k]? =some x):(gP l)[k]? =some (.s x):=Enc.get h
theorem vQ(l:LS):U.noSls (gP l)=true:=by induction l with | nil=>rfl | cons a l ih=>simp [gP,U.noSls,U.noSl,ih]
theorem vR(l:List Int):U.noSls (gId l)=true:=by induction l with | nil=>rfl | cons a l ih=>simp [gId,U.noSls,U.noSl,ih]
structure gD where
 atom:LB
 list:List gD
mutual
def qC:gD→U
 | ⟨f0,f1⟩=>.st [.s f0,.sl 2 (jA f1)]
def jA:List gD→List U
 | []=>[]
 | a::l=>qC a::jA l
end
theorem hA9(x:gD):(qC x).sz=2:=by cases x;simp [qC,U.sz,U.szs]
instance:Enc gD qC jA 2:=⟨fun l=>by induction l with | nil=>rfl | cons a l ih=>simp [jA,ih],hA9⟩
theorem uM{l:List gD}{k:Nat}{x:gD}(h:l[k]? =some x):(jA l)[k]? =some (qC x):=Enc.get h
structure gB where
 kind:Int
 name:LB
 args:List gB
mutual
def kZ:gB→U
 | ⟨f0,f1,f2⟩=>.st [.i .i64 f0,.s f1,.sl 3 (gK f2)]
def gK:List gB→List U
 | []=>[]
 | a::l=>kZ a::gK l
end
theorem gHf(x:gB):(kZ x).sz=3:=by cases x;simp [kZ,U.sz,U.szs]
instance:Enc gB kZ gK 3:=⟨fun l=>by induction l with | nil=>rfl | cons a l ih=>simp [gK,ih],gHf⟩
theorem gEk{l:List gB}{k:Nat}{x:gB}(h:l[k]? =some x):(gK l)[k]? =some (kZ x):=Enc.get h
structure gV where
 var_:LB
 type_:gB
mutual
def gMl:gV→U
 | ⟨f0,f1⟩=>.st [.s f0,kZ f1]
def jY:List gV→List U
 | []=>[]
 | a::l=>gMl a::jY l
end
theorem gWd(x:gV):(gMl x).sz=4:=by cases x;simp [gMl,U.sz,U.szs,gHf]
instance:Enc gV gMl jY 4:=⟨fun l=>by induction l with | nil=>rfl | cons a l ih=>simp [jY,ih],gWd⟩
theorem gS6{l:List gV}{k:Nat}{x:gV}(h:l[k]? =some x):(jY l)[k]? =some (gMl x):=Enc.get h
mutual
structure gH0 where
 constructor:LB
 vars:LS
 body:gU
structure gU where
 kind:Int
 trait:LB
 name:LB
 n:Int
 type_:gB
 args:List gU
 arms:List gH0
end
mutual
def hIl:gH0→U
 | ⟨f0,f1,f2⟩=>.st [.s f0,.sl 1 (gP f1),zJ f2]
def mW:List gH0→List U
 | []=>[]
 | a::l=>hIl a::mW l
def zJ:gU→U
 | ⟨f0,f1,f2,f3,f4,f5,f6⟩=>.st [.i .i64 f0,.s f1,.s f2,.i .i64 f3,kZ f4,.sl 9 (jS f5),.sl 11 (mW f6)]
def jS:List gU→List U
 | []=>[]
 | a::l=>zJ a::jS l
end
theorem gMm(x:gU):(zJ x).sz=9:=by cases x;simp [zJ,U.sz,U.szs,gHf]
instance:Enc gU zJ jS 9:=⟨fun l=>by induction l with | nil=>rfl | cons a l ih=>simp [jS,ih],gMm⟩
theorem gUp{l:List gU}{k:Nat}{x:gU}(h:l[k]? =some x):(jS l)[k]? =some (zJ x):=Enc.get h
theorem hIm(x:gH0):(hIl x).sz=11:=by cases x;simp [hIl,U.sz,U.szs,gMm]
instance:Enc gH0 hIl mW 11:=⟨fun l=>by induction l with | nil=>rfl | cons a l ih=>simp [mW,ih],hIm⟩
theorem gXo{l:List gH0}{k:Nat}{x:gH0}(h:l[k]? =some x):(mW l)[k]? =some (hIl x):=Enc.get h
structure jD where
 name:LB
 params:List gB
 result:gB
 hasDefault:Bool
 vars:LS
 body:gU
mutual
def gDg:jD→U
 | ⟨f0,f1,f2,f3,f4,f5⟩=>.st [.s f0,.sl 3 (gK f1),kZ f2,.b f3,.sl 1 (gP f4),zJ f5]
def kG:List jD→List U
 | []=>[]
 | a::l=>gDg a::kG l
end
theorem gS7(x:jD):(gDg x).sz=16:=by cases x;simp [gDg,U.sz,U.szs,gMm,gHf]
instance:Enc jD gDg kG 16:=⟨fun l=>by induction l with | nil=>rfl | cons a l ih=>simp [kG,ih],gS7⟩
theorem gK3{l:List jD}{k:Nat}{x:jD}(h:l[k]? =some x):(kG l)[k]? =some (gDg x):=Enc.get h
structure mE where
 name:LB
 supertraits:LS
 auto:Bool
 assoc:Bool
 signatures:List jD
mutual
def gHg:mE→U
 | ⟨f0,f1,f2,f3,f4⟩=>.st [.s f0,.sl 1 (gP f1),.b f2,.b f3,.sl 16 (kG f4)]
def uY:List mE→List U
 | []=>[]
 | a::l=>gHg a::uY l
end
theorem hBc(x:mE):(gHg x).sz=5:=by cases x;simp [gHg,U.sz,U.szs]
instance:Enc mE gHg uY 5:=⟨fun l=>by induction l with | nil=>rfl | cons a l ih=>simp [uY,ih],hBc⟩
theorem gUq{l:List mE}{k:Nat}{x:mE}(h:l[k]? =some x):(uY l)[k]? =some (gHg x):=Enc.get h
structure gZ where
 name:LB
 fields:List gB
mutual
def gFp:gZ→U
 | ⟨f0,f1⟩=>.st [.s f0,.sl 3 (gK f1)]
def mY:List gZ→List U
 | []=>[]
 | a::l=>gFp a::mY l
end
theorem gQd(x:gZ):(gFp x).sz=2:=by cases x;simp [gFp,U.sz,U.szs]
instance:Enc gZ gFp mY 2:=⟨fun l=>by induction l with | nil=>rfl | cons a l ih=>simp [mY,ih],gQd⟩
theorem gDh{l:List gZ}{k:Nat}{x:gZ}(h:l[k]? =some x):(mY l)[k]? =some (gFp x):=Enc.get h
structure kP where
 name:LB
 vars:LS
 constructors:List gZ
mutual
def gD6:kP→U
 | ⟨f0,f1,f2⟩=>.st [.s f0,.sl 1 (gP f1),.sl 2 (mY f2)]
def pG:List kP→List U
 | []=>[]
 | a::l=>gD6 a::pG l
end
theorem gUr(x:kP):(gD6 x).sz=3:=by cases x;simp [gD6,U.sz,U.szs]
instance:Enc kP gD6 pG 3:=⟨fun l=>by induction l with | nil=>rfl | cons a l ih=>simp [pG,ih],gUr⟩
theorem gMn{l:List kP}{k:Nat}{x:kP}(h:l[k]? =some x):(pG l)[k]? =some (gD6 x):=Enc.get h
structure gT where
 trait:LB
 type_:gB
mutual
def wU:gT→U
 | ⟨f0,f1⟩=>.st [.s f0,kZ f1]
def jQ:List gT→List U
 | []=>[]
 | a::l=>wU a::jQ l
end
theorem gUs(x:gT):(wU x).sz=4:=by cases x;simp [wU,U.sz,U.szs,gHf]
instance:Enc gT wU jQ 4:=⟨fun l=>by induction l with | nil=>rfl | cons a l ih=>simp [jQ,ih],gUs⟩
theorem gDi{l:List gT}{k:Nat}{x:gT}(h:l[k]? =some x):(jQ l)[k]? =some (wU x):=Enc.get h
structure gX where
 name:LB
 vars:LS
 body:gU
mutual
def gQe:gX→U
 | ⟨f0,f1,f2⟩=>.st [.s f0,.sl 1 (gP f1),zJ f2]
def kR:List gX→List U
 | []=>[]
 | a::l=>gQe a::kR l
end
theorem gY6(x:gX):(gQe x).sz=11:=by cases x;simp [gQe,U.sz,U.szs,gMm]
instance:Enc gX gQe kR 11:=⟨fun l=>by induction l with | nil=>rfl | cons a l ih=>simp [kR,ih],gY6⟩
theorem gWe{l:List gX}{k:Nat}{x:gX}(h:l[k]? =some x):(kR l)[k]? =some (gQe x):=Enc.get h
structure gY where
 trait:LB
 vars:LS
 head:gB
 where_:List gT
 default_:Bool
 hasAssoc:Bool
 assoc:gB
 methods:List gX
mutual
def yX:gY→U
 | ⟨f0,f1,f2,f3,f4,f5,f6,f7⟩=>.st [.s f0,.sl 1 (gP f1),kZ f2,.sl 4 (jQ f3),.b f4,.b f5,kZ f6,.sl 11 (kR f7)]
def pI:List gY→List U
 | []=>[]
 | a::l=>yX a::pI l
end
theorem gUt(x:gY):(yX x).sz=12:=by cases x;simp [yX,U.sz,U.szs,gHf]
instance:Enc gY yX pI 12:=⟨fun l=>by induction l with | nil=>rfl | cons a l ih=>simp [pI,ih],gUt⟩
theorem gGz{l:List gY}{k:Nat}{x:gY}(h:l[k]? =some x):(pI l)[k]? =some (yX x):=Enc.get h
structure uG where
 name:LB
 type_:gB
mutual
def gUu:uG→U
 | ⟨f0,f1⟩=>.st [.s f0,kZ f1]
def uS:List uG→List U
 | []=>[]
 | a::l=>gUu a::uS l
end
theorem hBe(x:uG):(gUu x).sz=4:=by cases x;simp [gUu,U.sz,U.szs,gHf]
instance:Enc uG gUu uS 4:=⟨fun l=>by induction l with | nil=>rfl | cons a l ih=>simp [uS,ih],hBe⟩
theorem gXp{l:List uG}{k:Nat}{x:uG}(h:l[k]? =some x):(uS l)[k]? =some (gUu x):=Enc.get h
structure kI where
 name:LB
 vars:LS
 where_:List gT
 params:List uG
 result:gB
 body:gU
mutual
def gD7:kI→U
 | ⟨f0,f1,f2,f3,f4,f5⟩=>.st [.s f0,.sl 1 (gP f1),.sl 4 (jQ f2),.sl 4 (uS f3),kZ f4,zJ f5]
def pJ:List kI→List U
 | []=>[]
 | a::l=>gD7 a::pJ l
end
theorem gUv(x:kI):(gD7 x).sz=16:=by cases x;simp [gD7,U.sz,U.szs,gMm,gHf]
instance:Enc kI gD7 pJ 16:=⟨fun l=>by induction l with | nil=>rfl | cons a l ih=>simp [pJ,ih],gUv⟩
theorem gUw{l:List kI}{k:Nat}{x:kI}(h:l[k]? =some x):(pJ l)[k]? =some (gD7 x):=Enc.get h
structure jX where
 name:LB
 deps:LS
 traits:List mE
 dataTypes:List kP
 instances:List gY
 functions:List kI
mutual
def gD8:jX→U
 | ⟨f0,f1,f2,f3,f4,f5⟩=>.st [.s f0,.sl 1 (gP f1),.sl 5 (uY f2),.sl 3 (pG f3),.sl 12 (pI f4),.sl 16 (pJ f5)]
def kQ:List jX→List U
 | []=>[]
 | a::l=>gD8 a::kQ l
end
theorem gWf(x:jX):(gD8 x).sz=6:=by cases x;simp [gD8,U.sz,U.szs]
instance:Enc jX gD8 kQ 6:=⟨fun l=>by induction l with | nil=>rfl | cons a l ih=>simp [kQ,ih],gWf⟩
theorem gBh{l:List jX}{k:Nat}{x:jX}(h:l[k]? =some x):(kQ l)[k]? =some (gD8 x):=Enc.get h
structure gM where
 packages:List jX
mutual
def kW:gM→U
 | ⟨f0⟩=>.st [.sl 6 (kQ f0)]
def hBf:List gM→List U
 | []=>[]
 | a::l=>kW a::hBf l
end
structure gF where
 package:Int
 at_:Int
mutual
def qA:gF→U
 | ⟨f0,f1⟩=>.st [.i .i64 f0,.i .i64 f1]
def kJ:List gF→List U
 | []=>[]
 | a::l=>qA a::kJ l
end
theorem gKg(x:gF):(qA x).sz=2:=by cases x;simp [qA,U.sz,U.szs]
instance:Enc gF qA kJ 2:=⟨fun l=>by induction l with | nil=>rfl | cons a l ih=>simp [kJ,ih],gKg⟩
theorem yD{l:List gF}{k:Nat}{x:gF}(h:l[k]? =some x):(kJ l)[k]? =some (qA x):=Enc.get h
structure jI where
 goal:gT
 from_:Int
 steps:List Int
mutual
def gC8:jI→U
 | ⟨f0,f1,f2⟩=>.st [wU f0,.i .i64 f1,.sl 1 (gId f2)]
def jW:List jI→List U
 | []=>[]
 | a::l=>gC8 a::jW l
end
theorem gRk(x:jI):(gC8 x).sz=6:=by cases x;simp [gC8,U.sz,U.szs,gUs]
instance:Enc jI gC8 jW 6:=⟨fun l=>by induction l with | nil=>rfl | cons a l ih=>simp [jW,ih],gRk⟩
theorem gG0{l:List jI}{k:Nat}{x:jI}(h:l[k]? =some x):(jW l)[k]? =some (gC8 x):=Enc.get h
structure gI where
 kind:Int
 n:Int
 at_:gF
 args:List gI
mutual
def mF:gI→U
 | ⟨f0,f1,f2,f3⟩=>.st [.i .i64 f0,.i .i64 f1,qA f2,.sl 5 (jP f3)]
def jP:List gI→List U
 | []=>[]
 | a::l=>mF a::jP l
end
theorem gUx(x:gI):(mF x).sz=5:=by cases x;simp [mF,U.sz,U.szs,gKg]
instance:Enc gI mF jP 5:=⟨fun l=>by induction l with | nil=>rfl | cons a l ih=>simp [jP,ih],gUx⟩
theorem gD9{l:List gI}{k:Nat}{x:gI}(h:l[k]? =some x):(jP l)[k]? =some (mF x):=Enc.get h
end Go.Eng
set_option linter.unusedSimpArgs false
namespace Go.Eng
open Go Go.RowKit
theorem qW{α β:Type}{v:α}{k:α→β}{r:β}(h:lt_ v k=r):∃x,v=x∧k x=r:=⟨v,rfl,h⟩
section
variable {l:LB}{k n:Nat}
theorem hNg(h:decide ((k:Int) < (l.length:Int))=true):k < l.length:=by have h:=of_decide_eq_true h;omega
theorem hNh(h:decide ((k:Int) < (l.length:Int))=false):l.length≤k:=by have h:=of_decide_eq_false h;omega
theorem vF(h:decide ((k:Int) < (n:Int))=true):k < n:=by have h:=of_decide_eq_true h;omega
theorem vG(h:decide ((k:Int) < (n:Int))=false):n≤k:=by have h:=of_decide_eq_false h;omega
end
section
variable {P:Program}{A:Amb}{ops:Array Oper}{K:St→Prop}{Q:Exit→St→Prop}{rest:List Oper}{σ:St}{c:Code}
theorem kC(σJ:St)(h1:VO P A ops rest σ (fun s=>Le s σJ))(h2:K σJ)(hA:A.L0.length≤σJ.L.length:=by rw [gC7.h (A:=A)];exact Nat.le_of_ble_eq_true rfl):VO P A ops rest σ K:=
 fun R hR a w hr=>h1 R (fun σ' a' w' hle hr'=>hR σJ a' w' h2 (hr'.le hle hA)) a w hr
theorem hLm{x y:Code}(σJ:St)(h1:V P A x σ (thenS (fun s=>Le s σJ) Q))(h2:V P A y σJ Q)(hA:A.L0.length≤σJ.L.length:=by rw [gC7.h (A:=A)];exact Nat.le_of_ble_eq_true rfl):V P A (.seq x y) σ Q:=
 kH (V.mono h1 (fun e s hq=>by
  cases e with
  | normal=>exact hPk hq h2 hA
  | _=>exact hq))
theorem qD {α0:Type}(I:α0→St)(J:α0→Prop)(μ:α0→Nat)(x0:α0)(h0:Le σ (I x0))(hJ:J x0)
  (round:∀a0,J a0→V P A c (I a0) (thenS (fun s=>∃b0,J b0∧μ b0 < μ a0∧Le s (I b0)) Q)) (hA:∀a0,A.L0.length≤(I a0).L.length:=by intros;rw [gC7.h (A:=A)];exact Nat.le_of_ble_eq_true rfl):V P A (.loop c) σ Q:=
 gQf (α:=α0) (fun x=>I (x)) (fun x=>J (x)) (fun x=>μ (x)) (x0) h0 hJ (fun x hx=>V.mono (round (x) hx) (fun e s hq=>by
  cases e with
  | normal=>
    obtain⟨b0,h1,h2,h3⟩:=hq;exact⟨(b0),h1,h2,h3⟩
  | _=>exact hq)) (fun x=>hA (x))
theorem gEt {α0 α1:Type}(I:α0→α1→St)(J:α0→α1→Prop)(μ:α0→α1→Nat)(x0:α0)(x1:α1)(h0:Le σ (I x0 x1))(hJ:J x0 x1)
  (round:∀a0 a1,J a0 a1→V P A c (I a0 a1) (thenS (fun s=>∃b0 b1,J b0 b1∧μ b0 b1 < μ a0 a1∧Le s (I b0 b1)) Q)) (hA:∀a0 a1,A.L0.length≤(I a0 a1).L.length:=by intros;rw [gC7.h (A:=A)];exact Nat.le_of_ble_eq_true rfl):V P A (.loop c) σ Q:=
 gQf (α:=α0 × α1) (fun x=>I (x.1) (x.2)) (fun x=>J (x.1) (x.2)) (fun x=>μ (x.1) (x.2)) (x0,x1) h0 hJ (fun x hx=>V.mono (round (x.1) (x.2) hx) (fun e s hq=>by
  cases e with
  | normal=>
    obtain⟨b0,b1,h1,h2,h3⟩:=hq;exact⟨(b0,b1),h1,h2,h3⟩
  | _=>exact hq)) (fun x=>hA (x.1) (x.2))
theorem kV {α0 α1 α2:Type}(I:α0→α1→α2→St)(J:α0→α1→α2→Prop)(μ:α0→α1→α2→Nat)(x0:α0)(x1:α1)(x2:α2)(h0:Le σ (I x0 x1 x2))(hJ:J x0 x1 x2)
  (round:∀a0 a1 a2,J a0 a1 a2→V P A c (I a0 a1 a2) (thenS (fun s=>∃b0 b1 b2,J b0 b1 b2∧μ b0 b1 b2 < μ a0 a1 a2∧Le s (I b0 b1 b2)) Q)) (hA:∀a0 a1 a2,A.L0.length≤(I a0 a1 a2).L.length:=by intros;rw [gC7.h (A:=A)];exact Nat.le_of_ble_eq_true rfl):V P A (.loop c) σ Q:=
 gQf (α:=α0 × α1 × α2) (fun x=>I (x.1) (x.2.1) (x.2.2)) (fun x=>J (x.1) (x.2.1) (x.2.2)) (fun x=>μ (x.1) (x.2.1) (x.2.2)) (x0,x1,x2) h0 hJ (fun x hx=>V.mono (round (x.1) (x.2.1) (x.2.2) hx) (fun e s hq=>by
  cases e with
  | normal=>
    obtain⟨b0,b1,b2,h1,h2,h3⟩:=hq;exact⟨(b0,b1,b2),h1,h2,h3⟩
  | _=>exact hq)) (fun x=>hA (x.1) (x.2.1) (x.2.2))
theorem gWg {α0 α1 α2 α3 α4:Type}(I:α0→α1→α2→α3→α4→St)(J:α0→α1→α2→α3→α4→Prop)(μ:α0→α1→α2→α3→α4→Nat)(x0:α0)(x1:α1)(x2:α2)(x3:α3)(x4:α4)(h0:Le σ (I x0 x1 x2 x3 x4))(hJ:J x0 x1 x2 x3 x4)
  (round:∀a0 a1 a2 a3 a4,J a0 a1 a2 a3 a4→V P A c (I a0 a1 a2 a3 a4) (thenS (fun s=>∃b0 b1 b2 b3 b4,J b0 b1 b2 b3 b4∧μ b0 b1 b2 b3 b4 < μ a0 a1 a2 a3 a4∧Le s (I b0 b1 b2 b3 b4)) Q)) (hA:∀a0 a1 a2 a3 a4,A.L0.length≤(I a0 a1 a2 a3 a4).L.length:=by intros;rw [gC7.h (A:=A)];exact Nat.le_of_ble_eq_true rfl):V P A (.loop c) σ Q:=
 gQf (α:=α0 × α1 × α2 × α3 × α4) (fun x=>I (x.1) (x.2.1) (x.2.2.1) (x.2.2.2.1) (x.2.2.2.2)) (fun x=>J (x.1) (x.2.1) (x.2.2.1) (x.2.2.2.1) (x.2.2.2.2)) (fun x=>μ (x.1) (x.2.1) (x.2.2.1) (x.2.2.2.1) (x.2.2.2.2)) (x0,x1,x2,x3,x4) h0 hJ (fun x hx=>V.mono (round (x.1) (x.2.1) (x.2.2.1) (x.2.2.2.1) (x.2.2.2.2) hx) (fun e s hq=>by
  cases e with
  | normal=>
    obtain⟨b0,b1,b2,b3,b4,h1,h2,h3⟩:=hq;exact⟨(b0,b1,b2,b3,b4),h1,h2,h3⟩
  | _=>exact hq)) (fun x=>hA (x.1) (x.2.1) (x.2.2.1) (x.2.2.2.1) (x.2.2.2.2))
theorem hIo {α0 α1 α2 α3 α4 α5 α6 α7:Type}(I:α0→α1→α2→α3→α4→α5→α6→α7→St)(J:α0→α1→α2→α3→α4→α5→α6→α7→Prop)(μ:α0→α1→α2→α3→α4→α5→α6→α7→Nat)(x0:α0)(x1:α1)(x2:α2)(x3:α3)(x4:α4)(x5:α5)(x6:α6)(x7:α7)(h0:Le σ (I x0 x1 x2 x3 x4 x5 x6 x7))(hJ:J x0 x1 x2 x3 x4 x5 x6 x7)
  (round:∀a0 a1 a2 a3 a4 a5 a6 a7,J a0 a1 a2 a3 a4 a5 a6 a7→V P A c (I a0 a1 a2 a3 a4 a5 a6 a7) (thenS (fun s=>∃b0 b1 b2 b3 b4 b5 b6 b7,J b0 b1 b2 b3 b4 b5 b6 b7∧μ b0 b1 b2 b3 b4 b5 b6 b7 < μ a0 a1 a2 a3 a4 a5 a6 a7∧Le s (I b0 b1 b2 b3 b4 b5 b6 b7)) Q)) (hA:∀a0 a1 a2 a3 a4 a5 a6 a7,A.L0.length≤(I a0 a1 a2 a3 a4 a5 a6 a7).L.length:=by intros;rw [gC7.h (A:=A)];exact Nat.le_of_ble_eq_true rfl):V P A (.loop c) σ Q:=
 gQf (α:=α0 × α1 × α2 × α3 × α4 × α5 × α6 × α7) (fun x=>I (x.1) (x.2.1) (x.2.2.1) (x.2.2.2.1) (x.2.2.2.2.1) (x.2.2.2.2.2.1) (x.2.2.2.2.2.2.1) (x.2.2.2.2.2.2.2)) (fun x=>J (x.1) (x.2.1) (x.2.2.1) (x.2.2.2.1) (x.2.2.2.2.1) (x.2.2.2.2.2.1) (x.2.2.2.2.2.2.1) (x.2.2.2.2.2.2.2)) (fun x=>μ (x.1) (x.2.1) (x.2.2.1) (x.2.2.2.1) (x.2.2.2.2.1) (x.2.2.2.2.2.1) (x.2.2.2.2.2.2.1) (x.2.2.2.2.2.2.2)) (x0,x1,x2,x3,x4,x5,x6,x7) h0 hJ (fun x hx=>V.mono (round (x.1) (x.2.1) (x.2.2.1) (x.2.2.2.1) (x.2.2.2.2.1) (x.2.2.2.2.2.1) (x.2.2.2.2.2.2.1) (x.2.2.2.2.2.2.2) hx) (fun e s hq=>by
  cases e with
  | normal=>
    obtain⟨b0,b1,b2,b3,b4,b5,b6,b7,h1,h2,h3⟩:=hq;exact⟨(b0,b1,b2,b3,b4,b5,b6,b7),h1,h2,h3⟩
  | _=>exact hq)) (fun x=>hA (x.1) (x.2.1) (x.2.2.1) (x.2.2.2.1) (x.2.2.2.2.1) (x.2.2.2.2.2.1) (x.2.2.2.2.2.2.1) (x.2.2.2.2.2.2.2))
end
section
variable {P:Program}{A:Amb}{ops:Array Oper}{K:St→Prop}{Q:Exit→St→Prop}{rest:List Oper}{σ:St}{fr:List (Nat × SV)}{L L1 L':List LO}{N i t:Nat}{sv:SV}{o:Oper}{c:Code}
variable {ty T:TypeId}{pos:String}{af:Array Edge}{x y:Operand}{g:Option (Nat × Bool)}{dst:Option Nat}{op:Op}
theorem gKh{α:Type}{e:α→U}{es:List α→List U}{z z':Nat}[E:Enc α e es z]{el:TypeId} [TE P T el]{T':TypeId}{l:List α}(hx:σ.ev x=.d (.sl z' (es l)):=by rfl):QR P σ ⟨dst,.call { callee:=.builtin .len,args:=#[x],argTypes:=#[T] },T',pos,af,g⟩ (.d (.i .i64 (l.length:Int))):=
 fun A fr' L' he _=>by
  rw [←Enc.len (es:=es) l];exact hI4 (by rw [he x (by simp [Op.operands,Call.operands])];exact hx) TE.h
theorem gXq{α:Type}{e:α→U}{es:List α→List U}{z z':Nat}[E:Enc α e es z]{el:TypeId} [TE P T el]{T':TypeId}{l:List α}{i ver e':Nat}(hx:σ.ev x=.sl i ver:=by rfl)(hL:σ.L[i]? =some (.own e' z' ver (es l)):=by rfl):Quiet P A σ ⟨dst,.call { callee:=.builtin .len,args:=#[x],argTypes:=#[T] },T',pos,af,g⟩ (.d (.i .i64 (l.length:Int))):=by
 rw [←Enc.len (es:=es) l];exact gU1 hx hL .own TE.h
theorem gKi{i off:Nat}(hx:σ.ev x=.ptr i off:=by rfl):QR P σ ⟨dst,.nilCheck x,ty,pos,af,g⟩ (.ptr i off):=fun A fr' L' he _=>Quiet.pure fun S env a w hH ho=>by
 have h1:=ho x (by simp [Op.operands]);rw [he x (by simp [Op.operands]),hx] at h1;refine⟨a.eval x,?_,h1⟩;simp only [SVr] at h1;obtain⟨b,_,hv⟩:=h1;simp [execOp,hv]
theorem hLp{j tj:Nat}{want x:Bool}{o':Oper}(h:VO P A ops rest ⟨(t,.tup [])::fr,L,N⟩ K)(hj:ops[j]? =some o':=by rfl)(hdst:o'.dst=some tj:=by rfl)(htj:Nat.blt tj N=true:=by rfl)(hb:look fr tj=.d (.b x):=by rfl)(hx:(x==want)=false:=by rfl)(ht:Nat.blt t N=true:=by rfl) :
  VO P A ops (⟨some t,op,ty,pos,af,some (j,want)⟩::rest) ⟨fr,L,N⟩ K:=by
 intro R hR a w ⟨S,env,hH,hf,hN,hd⟩;have h1:=h R hR (a.put (some t) undef) w (uH hf hN hd ht hH Carry.refl (by simp only [SVr];exact⟨[],rfl,by simp [kK]⟩));have h2:=hf tj;rw [hb] at h2;have h3:=SVr.bool.1 h2;have ht':tj < a.tmps.size:=by rw [hN];simpa [Nat.blt_eq] using htj
 have hy:yielded ops a.tmps j=some x:=by
  simp only [yielded,hj,hdst,Option.bind_some]
  have:a.tmps[tj]? =some (.bool x):=by
   rw [Array.getD_eq_getD_getElem?,Array.getElem?_eq_getElem ht'] at h3;rw [Array.getElem?_eq_getElem ht'];have h3':a.tmps[tj]=.bool x:=by simpa using h3
   rw [h3']
  rw [this]
 unfold wpList;simp only [Region.wanted,hy];have hne:(some x==some want)=false:=by simpa using hx
 rw [hne];exact h1
theorem hLq{j tj:Nat}{want:Bool}{o':Oper}(h:VO P A ops rest ⟨(t,.tup [])::fr,L,N⟩ K)(hj:ops[j]? =some o':=by rfl)(hdst:o'.dst=some tj:=by rfl)(htj:Nat.blt tj N=true:=by rfl)(hb:look fr tj=.tup []:=by rfl)(ht:Nat.blt t N=true:=by rfl) :
  VO P A ops (⟨some t,op,ty,pos,af,some (j,want)⟩::rest) ⟨fr,L,N⟩ K:=by
 intro R hR a w ⟨S,env,hH,hf,hN,hd⟩;have h1:=h R hR (a.put (some t) undef) w (uH hf hN hd ht hH Carry.refl (by simp only [SVr];exact⟨[],rfl,by simp [kK]⟩));have h2:=hf tj;rw [hb] at h2;simp only [SVr] at h2;obtain⟨vs,h3,h4⟩:=h2;have hvs:vs=[]:=by cases vs with
  | nil=>rfl
  | cons _ _=>simp [kK] at h4
 subst hvs;have ht':tj < a.tmps.size:=by rw [hN];simpa [Nat.blt_eq] using htj
 have hy:yielded ops a.tmps j=none:=by
  simp only [yielded,hj,hdst,Option.bind_some]
  have:a.tmps[tj]? =some (.tuple #[]):=by
   rw [Array.getD_eq_getD_getElem?,Array.getElem?_eq_getElem ht'] at h3;rw [Array.getElem?_eq_getElem ht'];have h3':a.tmps[tj]=.tuple #[]:=by simpa using h3
   rw [h3']
  rw [this]
 unfold wpList;simp only [Region.wanted,hy];have hne:((none:Option Bool)==some want)=false:=by rfl
 rw [hne];exact h1
def gNq(L:List LO)(ρ:Nat→Nat):Nat→List LO→Prop
 | _,[]=>True
 | m,o::os=>L[ρ m]? =some (o.ren ρ)∧gNq L ρ (m+1) os
theorem gMo{L:List LO}{ρ:Nat→Nat}:∀{Lc:List LO}{n:Nat},gNq L ρ n Lc→∀(m:Nat)(o:LO),Lc[m]? =some o→L[ρ (n+m)]? =some (o.ren ρ)
 | [],_,_,m,o,h=>by simp at h
 | o0::os,n,hp,0,o,h=>by simp at h;subst h;exact hp.1
 | o0::os,n,hp,m+1,o,h=>by
   have:=gMo hp.2 m o (by simpa using h)
   rwa [show n+1+m=n+(m+1) by omega] at this
theorem gCl {f:Operand}{fi:Nat}{caps:List SV}{args:Array Operand}{at_:Array TypeId}{cargs:List SV}{Lc:List LO}{Q:SV→List LO→Prop}(js:List Nat)(hspec:Spec P fi cargs Lc Q)
  (h:∀(sv:SV)(Lo:List LO),Q sv Lo→VO P A ops rest ⟨(t,sv.ren (rn js L.length))::fr,gH5 js (Lo.map (LO.ren (rn js L.length))) L,N⟩ K)
  (hf:(St.mk fr L N).ev f=.fn fi caps:=by rfl) (hp:gNq L (rn js L.length) 0 Lc:=by((repeat(first | exact trivial | exact rfl | refine And.intro ?_ ?_));first | done | fail))
  (hjs:(decide js.Nodup && (js.all fun j=>Nat.blt j L.length) && js.length==Lc.length && LO.lts Lc.length Lc)=true:=by rfl)
  (hargs:AGs L (rn js L.length) Lc.length (args.toList.map (St.mk fr L N).ev++caps) cargs:=by((repeat(first | exact trivial | exact .inl ⟨rfl,rfl⟩ | exact .inr ⟨_,rfl,by((repeat(first | exact trivial | exact rfl | exact⟨_,rfl⟩ | refine And.intro ?_ ?_));first | done | fail)⟩ | refine And.intro ?_ ?_));first | done | fail))
  (ht:Nat.blt t N=true:=by rfl) :
  VO P A ops (⟨some t,.call { callee:=.value f,args:=args,argTypes:=at_ },ty,pos,af,none⟩::rest) ⟨fr,L,N⟩ K:=by
 have hjs':=hjs;simp only [Bool.and_eq_true,decide_eq_true_eq,List.all_eq_true,Nat.blt_eq,beq_iff_eq] at hjs';obtain⟨⟨⟨hnd,hlt⟩,hn⟩,hlts⟩:=hjs';refine hE7 js hf hspec ⟨fun m o ho=>by simpa using gMo hp m o ho,fun m m' _ _ he=>hA6 hlt hnd he,hlts⟩ ?_ hargs ht h;simp only [Bool.and_eq_true,decide_eq_true_eq,List.all_eq_true,Nat.blt_eq,beq_iff_eq];exact⟨⟨hnd,hlt⟩,hn⟩
theorem hTt {fn:Func}{Q:SV→List LO→Prop}{n:Nat}(svs:List SV)(Lo:List LO)(hq:Q (mkG svs) Lo)(hL:∃L2,σ.L=Lo++L2:=by exact⟨_,rfl⟩)(hl:(LO.lts Lo.length Lo && SV.lts Lo.length svs && Nat.ble n Lo.length)=true:=by rfl)
  (hr:gWc P σ fn.results.toList svs:=by((repeat(first | exact .nil | refine .data rfl rfl ?_ | refine .same rfl ?_ | refine .data (gHy rfl rfl TI.h rfl rfl) (by((repeat(first | exact trivial | exact rfl | exact⟨_,rfl⟩ | refine And.intro ?_ ?_));first | done | fail)) ?_));first | done | fail)):qB P fn Q n .normal σ:=by
 obtain⟨L2,hL⟩:=hL;exact⟨trivial,svs,Lo,L2,hL,hl,hq,hr⟩
theorem hTu {fn:Func}{Q:SV→List LO→Prop}{n:Nat}(svs:List SV)(Lo:List LO)(hq:Q (mkG svs) Lo)(hL:∃L2,σ.L=Lo++L2:=by exact⟨_,rfl⟩)(hl:(LO.lts Lo.length Lo && SV.lts Lo.length svs && Nat.ble n Lo.length)=true:=by rfl)
  (hr:gWc P σ fn.results.toList svs:=by((repeat(first | exact .nil | refine .data rfl rfl ?_ | refine .same rfl ?_ | refine .data (gHy rfl rfl TI.h rfl rfl) (by((repeat(first | exact trivial | exact rfl | exact⟨_,rfl⟩ | refine And.intro ?_ ?_));first | done | fail)) ?_));first | done | fail)):qB P fn Q n .ret σ:=⟨trivial,(hTt svs Lo hq hL hl hr).2⟩
theorem uA{fn:Func}{us:List U}(h:gV8 P σ fn.results.toList us:=by((repeat(first | exact trivial | exact⟨_,rfl,rfl⟩ | exact⟨_,rfl,⟨_,rfl⟩⟩ | exact⟨_,gHy rfl rfl TI.h rfl rfl,(by(repeat(first | exact trivial | exact rfl | exact⟨_,rfl⟩ | refine And.intro ?_ ?_));first | done | fail)⟩ | exact⟨_,ResV_one rfl rfl TI.h rfl,rfl⟩ | refine And.intro ?_ ?_));first | done | fail)):qI P fn us .ret σ:=⟨trivial,h⟩
theorem gOs{fn:Func}{es:List TypeId}{us:List U}{ps:List (Option Nat)}(h:ROs P σ fn.results.toList us es ps:=by((repeat(first | exact rfl | exact gHy rfl rfl TI.h rfl rfl | exact ResV_one rfl rfl TI.h rfl | constructor));first | done | fail))(hn:decide ((ps.filterMap id).Nodup)=true:=by rfl):qJ P fn es us .ret σ:=⟨trivial,ps,h,hn⟩
theorem gOt {f:Operand}{fi:Nat}{caps:List SV}{args:Array Operand}{at_:Array TypeId}{dargs:List SV}{us:List U}(hspec:jF P fi (dargs++caps) us)(hc:SV.lts 0 caps=true)(hf:σ.ev f=.fn fi caps:=by rfl)
  (hargs:∀L',VAs L' (args.toList.map σ.ev) dargs:=by(intro L';(repeat(first | exact trivial | exact rfl | exact⟨_,rfl⟩ | refine And.intro ?_ ?_));first | done | fail)) :
  QR P σ ⟨dst,.call { callee:=.value f,args:=args,argTypes:=at_ },ty,pos,af,g⟩ (mkR us):=
 fun A fr' L' he _=>hIi (by rw [he f (by simp [Op.operands,Call.operands])];exact hf) hspec (by
  have:args.toList.map (St.ev ⟨fr',L',σ.N⟩)=args.toList.map σ.ev:=List.map_congr_left fun x hx=>he x (by simp only [Op.operands,Call.operands];simp;exact .inr (by simpa using hx))
  rw [this]
  exact hargs L') hc
theorem gB9{e z bs:Nat}{gg:Bool} [TE P T e] [TI P e gg z bs](h:VO P A ops rest ⟨(t,.sl i 0)::fr,L',N⟩ K)(ht:Nat.blt t N=true:=by rfl)(hL':Sn (.own e z 0 []) L i L':=by repeat constructor) :
  VO P A ops (⟨some t,.buildSlice T 0 #[],ty,pos,af,none⟩::rest) ⟨fr,L,N⟩ K:=gXl TE.h TI.h ht hL' h
theorem hLr {e z bs:Nat}{gg:Bool} [TE P T e] [TI P e gg z bs] {zs:List Value} [TZ P e zs] {u:U} {js:List Nat} (h:VO P A ops rest ⟨(t,.sl i 0)::fr,L',N⟩ K) (hy:OV L ((St.mk fr L N).ev x) u js:=by((repeat constructor);first | done | fail)) (hjs:decide js.Nodup=true:=by decide)
  (hz:(Nat.blt 0 z && Nat.blt z 16777216 && zs.length==z)=true:=by rfl) (hu:u.sz=z:=by rfl) (ht:Nat.blt t N=true:=by rfl) (hk1:KR js L L1:=by repeat constructor) (hL':Sn (.own e z 0 [u]) L1 i L':=by repeat constructor) :
  VO P A ops (⟨some t,.buildSlice T 1 #[(0,x)],ty,pos,af,none⟩::rest) ⟨fr,L,N⟩ K:=gS2 hy hjs TE.h TI.h TZ.h hz hu ht hk1 hL' h
theorem uQ {e z bs:Nat}{gg:Bool} [TE P T e] [TI P e gg z bs] {zs:List Value} [TZ P e zs] {u:U} (h:VO P A ops rest ⟨(t,.sl i 0)::fr,L',N⟩ K) (hy:VD L ((St.mk fr L N).ev x) u:=by((repeat(first | exact trivial | exact rfl | exact⟨_,rfl⟩ | refine And.intro ?_ ?_));first | done | fail))
  (hz:(Nat.blt 0 z && Nat.blt z 16777216 && zs.length==z)=true:=by rfl) (hu:u.sz=z:=by rfl) (ht:Nat.blt t N=true:=by rfl) (hL':Sn (.arr e z 0 [u]) L i L':=by repeat constructor) :
  VO P A ops (⟨some t,.buildSlice T 1 #[(0,x)],ty,pos,af,none⟩::rest) ⟨fr,L,N⟩ K:=by
 obtain⟨hi,hL''⟩:=hL'.spec;subst hi;subst hL'';have hT:tyE P T=some e:=TE.h;have he:tyI P e=some (gg,z,bs):=TI.h;have hZ:tyZ P e=some zs:=TZ.h;simp only [Bool.and_eq_true,Nat.blt_eq,beq_iff_eq] at hz;refine gCp rfl (fun S env a w hH hf hN hd=>?_) h;have hr:=VD.r hH hy (mV.ev hf hH x);simp only [SVr] at hr;obtain⟨cs,c1,c2⟩:=hr;have hcells:(a.eval x).cells.toList=cs:=by rw [c1];exact gKk c2
 have hcl:=Rd.length _ _ c2;rw [hu] at hcl;obtain⟨zv,hrz,hzc⟩:=gMp hZ w;have hsz:(a.eval x).cells.size=z:=by rw [←hcl,←hcells];simp
 have hold:∀b,b < w.heap.size→(w.alloc (.cells (a.eval x).cells e)).heap[b]? =w.heap[b]? :=fun b hb=>heap_alloc_old w _ hb
 obtain⟨hH',C⟩:=hH.new (w':=w.alloc (.cells (a.eval x).cells e)) (.arr e z 0 [u]) (.slice (some ⟨w.heap.size,0,none⟩) 1 1) (by simp) hold rfl rfl rfl
  (fun b hb=>by simp [LO.ft,blk] at hb;subst hb;simp)
  (fun C=>⟨by simp [yC],by simpa using hu,cs,⟨by simp [hcl],.inr ⟨w.heap.size,1,_,rfl,Nat.zero_le _,heap_alloc_new w _,Nat.le_refl _,by simp [maxLen],by rw [hsz];simp,by rw [hcells];rw [List.take_of_length_le (by simp [hcl])]⟩⟩,by
   have:=c2.mono C.hS C.hw
   simp only [Rds]
   exact⟨cs,[],by simp,this,rfl⟩⟩)
 refine⟨.value (.slice (some ⟨w.heap.size,0,none⟩) 1 1),_,?_,.inl ⟨_,rfl,uH hf hN hd ht hH' C ?_⟩⟩
 ·have hzs:zv.cells.size=z:=by rw [←hz.2,←hzc];simp
  have hfill:Instr.fill (fun i=>some (i*z,z)) ((Array.range (1*z)).map (zv.cells[· % zv.cells.size]!)) [(0,a.eval x)]=some (a.eval x).cells:=by
   rw [gOq (off:=0) (n:=z) (by simp) hsz (by simp)];simp only [Instr.fill,Option.some.injEq,List.take_zero,List.nil_append,Nat.zero_add];apply Array.ext';simp
  have h1:¬z > 2^24:=by omega
  have h2:¬z=0:=by omega
  simp only [Nat.one_mul] at hfill;simp [execOp,Instr.buildSlice,run_underlying (zB hT),run_sizeOf he,hrz,h1,h2,newRow];simp only [gt_iff_lt] at h1;simp [hfill]
 ·simp only [SVr];exact⟨.slice (some ⟨w.heap.size,0,none⟩) 1 1,.arr e z 0 [u],by rw [←hH.len];simp,by simp,Nat.le_refl _,rfl,fun _=>rfl⟩
theorem gDn {α:Type}{en:α→U}{es:List α→List U}{z:Nat}[E:Enc α en es z]{l r:List α}(hg:l.length+r.length≤4294967296){e bs ver:Nat}{gg:Bool} [TE P T e] [TI P e gg z bs] {zs:List Value} [TZ P e zs] {js:List Nat} {T':TypeId}
  (h:VO P A ops rest ⟨(t,.sl i (ver+1))::fr,L',N⟩ K) (hx:(St.mk fr L N).ev x=.sl i ver:=by rfl) (hL:L[i]? =some (.own e z ver (es l)):=by rfl) (hs:gWa L z ((St.mk fr L N).ev y) (es r) js:=by first | exact .own rfl | exact .nil | exact .data (Enc.all _) (vQ _) | exact .data (Enc.all _) (vR _))
  (hjs:(decide js.Nodup && !js.contains i)=true:=by decide) (hz:(Nat.blt 0 z && zs.length==z)=true:=by rfl) (hb:Nat.ble bs 32768=true:=by rfl)
  (ht:Nat.blt t N=true:=by rfl) (hk1:KR js L L1:=by repeat constructor) (hL':St1 (.own e z (ver+1) (es (l++r))) i L1 L':=by repeat constructor) :
  VO P A ops (⟨some t,.call { callee:=.builtin .append,args:=#[x,y],argTypes:=#[T,T] },T',pos,af,none⟩::rest) ⟨fr,L,N⟩ K:=by
 have h1:(es l).length=l.length:=Enc.len l;have h2:(es r).length=r.length:=Enc.len r;have hb:=Nat.le_of_ble_eq_true hb;rw [Enc.app (es:=es)] at hL';refine gUn hx hL hs hjs TE.h TI.h TZ.h hz (by rw [yC];omega) ?_ ht hk1 hL' h;rw [h1,h2];exact Nat.le_trans (Nat.mul_le_mul hg hb) (by decide)
theorem mV.freezeO{a:Act}{w:World}{i e z ver:Nat}{es:List U}(hL:σ.L[i]? =some (.own e z ver es))(h:mV A σ a w):mV A ⟨σ.fr,σ.L.set i (.frz e z ver es),σ.N⟩ a w:=by
 obtain⟨S,env,hH,hf,hN,hd⟩:=h;have hi:=(List.getElem?_eq_some_iff.1 hL).1;have hie:i < env.length:=by rw [hH.len];exact hi
 obtain⟨hv,he⟩:∃hv,env[i]? =some hv:=⟨_,List.getElem?_eq_getElem hie⟩
 have hob:=hH.objs i _ hv hL he;let S':Nat→Prop:=fun b=>S b∨b∈(U.sl z es).fp w [hv];have hset:∀(j:Nat)(o':LO),(σ.L.set i (.frz e z ver es))[j]? =some o'→(j=i∧o'=.frz e z ver es)∨(j≠i∧σ.L[j]? =some o'):=by
  intro j o' hj;by_cases hij:i=j
  ·subst hij;rw [List.getElem?_set_self hi] at hj;exact .inl ⟨rfl,(Option.some.inj hj).symm⟩
  ·rw [List.getElem?_set_ne hij] at hj;exact .inr ⟨fun e=>hij e.symm,hj⟩
 have C:Carry S σ.L env w S' (σ.L.set i (.frz e z ver es)) env w:=by
  refine⟨fun b hb _=>.inl hb,fun _ _ _=>rfl,fun _ _ h=>h,fun j hv' o' h1 h2=>?_⟩;by_cases hij:i=j
  ·subst hij;rw [hL] at h2;obtain rfl:=Option.some.inj h2;exact⟨hv',.frz e z ver es,h1,by rw [List.getElem?_set_self hi],Nat.le_refl _,fun _=>rfl⟩
  ·exact⟨hv',o',h1,by rw [List.getElem?_set_ne hij];exact h2,Nat.le_refl _,fun _=>rfl⟩
 refine⟨S',env,⟨by simp [hH.len],?_,?_,?_,?_,?_,hH.frame,hH.size,hH.os,hH.tape,hH.output,hH.base.carry C hH.len (by simp),hH.glob⟩,fun t=>SVr.carry C _ _ (hf t),hN,hd⟩
 ·intro j o' hv' h1 h2;rcases hset j o' h1 with ⟨rfl,rfl⟩ | ⟨hj,h3⟩
  ·rw [he] at h2;obtain rfl:=Option.some.inj h2;exact⟨[hv],rfl,Tr.rd _ _ (gP9 hob) (fun b hb=>.inr hb)⟩
  ·exact gG9.carry C (fun _ _ _=>rfl) (hH.objs j o' hv' h3 h2)
 ·intro j o' hv' b h1 hl h2 hb;rcases hset j o' h1 with ⟨rfl,rfl⟩ | ⟨hj,h3⟩
  ·cases hl
  ·have:=hH.excl j o' hv' b h3 hl h2 hb
   refine⟨fun hs=>hs.elim this.1 (fun hs=>hj (hH.dist j i o' _ hv' hv b h3 hL hl rfl h2 he hb (show(LO.own e z ver es).ft w hv b from hs))),this.2⟩
 ·intro j j' o1 o1' hv1 hv1' k h1 h2 hl1 hl2 e1 e2 b1 b2;rcases hset j o1 h1 with ⟨rfl,rfl⟩ | ⟨hj,h3⟩
  ·cases hl1
  ·rcases hset j' o1' h2 with ⟨rfl,rfl⟩ | ⟨hj',h3'⟩
   ·cases hl2
   ·exact hH.dist j j' o1 o1' hv1 hv1' k h3 h3' hl1 hl2 e1 e2 b1 b2
 ·intro b hb;rcases hb with hb | hb
  ·exact hH.sS b hb
  ·exact(hH.excl i _ hv b hL rfl he hb).2.2
 ·intro b hb;rcases hb with hb | hb
  ·exact hH.sA b hb
  ·exact .inr (hH.excl i _ hv b hL rfl he hb).2.1
theorem mI(i:Nat){e z ver:Nat}{es:List U}(hL:L[i]? =some (.own e z ver es))(hL':L.set i (.frz e z ver es)=L')(h:V P A c ⟨fr,L',N⟩ Q):V P A c ⟨fr,L,N⟩ Q:=by
 subst hL';exact fun a w hr=>h a w (hr.freezeO (σ:=⟨fr,L,N⟩) hL)
theorem gA8(i:Nat){e z ver:Nat}{es:List U}(hL:L[i]? =some (.own e z ver es))(hL':L.set i (.frz e z ver es)=L')(h:VO P A ops rest ⟨fr,L',N⟩ K):VO P A ops rest ⟨fr,L,N⟩ K:=by
 subst hL';exact fun R hR a w hr=>h R hR a w (hr.freezeO (σ:=⟨fr,L,N⟩) hL)
theorem gCm{α:Type}{e:α→U}{es:List α→List U}{z:Nat}[E:Enc α e es z]{l:List α}{z':Nat}(j:Nat)(h:l.length≤140737488355328→V P A c ⟨fr,L,N⟩ Q)(hb:look fr j=.d (.sl z' (es l)):=by rfl):V P A c ⟨fr,L,N⟩ Q:=by
 intro a w hr;refine h ?_ a w hr;obtain⟨S,env,hH,hf,hN,hd⟩:=hr
 have:=hf j
 simp only at this;rw [hb] at this
 have:=(SVr.slice.1 this).1
 rwa [Enc.len,yC] at this
theorem yP{α:Type}{e:α→U}{es:List α→List U}{z:Nat}[E:Enc α e es z]{l:List α}{z':Nat}{cs:List SV}(i j:Nat)(h:l.length≤140737488355328→V P A c ⟨fr,L,N⟩ Q)(hL:L[i]? =some (.box cs):=by rfl)(hb:cs[j]? =some (.d (.sl z' (es l))):=by rfl):V P A c ⟨fr,L,N⟩ Q:=by
 intro a w hr;refine h ?_ a w hr;obtain⟨S,env,hH,hf,hN,hd⟩:=hr;obtain⟨hv,he⟩:∃hv,env[i]? =some hv:=⟨_,List.getElem?_eq_getElem (by rw [hH.len];exact(List.getElem?_eq_some_iff.1 hL).1)⟩
 obtain⟨b,vals,e',r1,r2,r3,r4⟩:=hH.objs i _ hv hL he;obtain⟨v,v1,v2⟩:=kK.get r3 j _ hb
 have:=(SVr.slice.1 v2).1
 rwa [Enc.len,yC] at this
theorem hE9{l:LB}(j:Nat)(h:l.length≤140737488355328→V P A c ⟨fr,L,N⟩ Q)(hb:look fr j=.d (.s l):=by rfl):V P A c ⟨fr,L,N⟩ Q:=by
 intro a w hr;refine h ?_ a w hr;obtain⟨S,env,hH,hf,hN,hd⟩:=hr
 have:=hf j
 simp only at this;rw [hb] at this
 have:=(SVr.str.1 this).1
 rwa [yC] at this
end
theorem gY7{P:Program}{A:Amb}{ops:Array Oper}{K:St→Prop}{fr:List (Nat × SV)}{L:List LO}{N i t:Nat}{sv:SV}{op:Op}{ty:TypeId}{pos:String}{af:Array Edge}{r:List (Nat × Bool)}{pf:PF}(hi:ops[i]? =some ⟨some t,op,ty,pos,af,none⟩)(hq:QR P ⟨fr,L,N⟩ ⟨some t,op,ty,pos,af,none⟩ sv)(hv:VY P A ops K r ((i,L)::pf) ⟨(t,sv)::fr,L,N⟩)(ht:Nat.blt t N=true:=by rfl) :
  VY P A ops K ((i,true)::r) pf ⟨fr,L,N⟩:=hTk hq hv hi ht
theorem goY {X Y:Prop}(hy:Y)(h:Y→X:=by
  intro hy
  repeat(first | refine gY7 rfl gKh ?_ | refine gY7 rfl gKi ?_ | refine hPe rfl ?_ (by(repeat constructor);first | done | fail) | refine hPf rfl (by repeat constructor) (by repeat(first | exact vE.nil | (apply vE.keep;focus ((repeat constructor);done)) | (apply vE.dep;focus kernel_rfl))) ?_)
  exact hy):X:=h hy
end Go.Eng
