import Derived.Test.YtegahmhnmjnhhaaGreatEng34
set_option linter.unusedVariables false
namespace Go.Eng
open Go Go.RowKit
def jCr(n:Int):U:=.i .i64 n
def jCs(s:List UInt8):U:=.s s
def gJe:List Int→List U
 | []=>[]
 | a::l=>.i .i64 a::gJe l
def jP:List (List UInt8)→List U
 | []=>[]
 | a::l=>.s a::jP l
class Enc (α:Type) (e:outParam (α→U)) (es:outParam (List α→List U)) (z:outParam Nat):Prop where
 h:∀l,es l=l.map e
 hz:∀x,(e x).sz=z
theorem Enc.get{α:Type}{e:α→U}{es:List α→List U}{z:Nat} [E:Enc α e es z]{l:List α}{k:Nat}{x:α}(h:l[k]? =some x):(es l)[k]? =some (e x):=by rw [E.h,List.getElem?_map,h];rfl
theorem Enc.len{α:Type}{e:α→U}{es:List α→List U}{z:Nat} [E:Enc α e es z](l:List α):(es l).length=l.length:=by rw [E.h,List.length_map]
theorem Enc.app{α:Type}{e:α→U}{es:List α→List U}{z:Nat} [E:Enc α e es z](l r:List α):es (l++r)=es l++es r:=by simp only [E.h,List.map_append]
theorem Enc.set{α:Type}{e:α→U}{es:List α→List U}{z:Nat} [E:Enc α e es z](l:List α)(k:Nat)(x:α):es (l.set k x)=(es l).set k (e x):=by simp only [E.h,List.map_set]
theorem Enc.rep{α:Type}{e:α→U}{es:List α→List U}{z:Nat} [E:Enc α e es z](n:Nat)(x:α):es (List.replicate n x)=List.replicate n (e x):=by simp only [E.h,List.map_replicate]
theorem Enc.all{α:Type}{e:α→U}{es:List α→List U}{z:Nat} [E:Enc α e es z](l:List α):∀u∈es l,u.sz=z:=by
 rw [E.h];intro u hu;obtain⟨x,_,rfl⟩:=List.mem_map.1 hu;exact E.hz x
instance:Enc Int jCr gJe 1:=⟨fun l=>by induction l with | nil=>rfl | cons a l ih=>simp [gJe,ih,jCr],fun _=>rfl⟩
instance:Enc (List UInt8) jCs jP 1:=⟨fun l=>by induction l with | nil=>rfl | cons a l ih=>simp [jP,ih,jCs],fun _=>rfl⟩
theorem jCt{l:List Int}{k:Nat}{x:Int}(h:l[k]? =some x):(gJe l)[k]? =some (.i .i64 x):=Enc.get h
theorem gQq{l:List (List UInt8)}{k:Nat}{x:List UInt8}(h:l[k]? =some x):(jP l)[k]? =some (.s x):=Enc.get h
theorem gPf(l:List (List UInt8)):U.noSls (jP l)=true:=by induction l with | nil=>rfl | cons a l ih=>simp [jP,U.noSls,U.noSl,ih]
theorem gPg(l:List Int):U.noSls (gJe l)=true:=by induction l with | nil=>rfl | cons a l ih=>simp [gJe,U.noSls,U.noSl,ih]
structure gD where
 atom:List UInt8
 list:List gD
mutual
def pF:gD→U
 | ⟨f0,f1⟩=>.st [.s f0,.sl 2 (jA f1)]
def jA:List gD→List U
 | []=>[]
 | a::l=>pF a::jA l
end
theorem hHz(x:gD):(pF x).sz=2:=by cases x;simp [pF,U.sz,U.szs]
instance:Enc gD pF jA 2:=⟨fun l=>by induction l with | nil=>rfl | cons a l ih=>simp [jA,ih],hHz⟩
theorem uG{l:List gD}{k:Nat}{x:gD}(h:l[k]? =some x):(jA l)[k]? =some (pF x):=Enc.get h
structure gB where
 kind:Int
 name:List UInt8
 args:List gB
mutual
def jS:gB→U
 | ⟨f0,f1,f2⟩=>.st [.i .i64 f0,.s f1,.sl 3 (jJ f2)]
def jJ:List gB→List U
 | []=>[]
 | a::l=>jS a::jJ l
end
theorem gGn(x:gB):(jS x).sz=3:=by cases x;simp [jS,U.sz,U.szs]
instance:Enc gB jS jJ 3:=⟨fun l=>by induction l with | nil=>rfl | cons a l ih=>simp [jJ,ih],gGn⟩
theorem zL{l:List gB}{k:Nat}{x:gB}(h:l[k]? =some x):(jJ l)[k]? =some (jS x):=Enc.get h
structure gG where
 var_:List UInt8
 type_:gB
mutual
def gIg:gG→U
 | ⟨f0,f1⟩=>.st [.s f0,jS f1]
def gN:List gG→List U
 | []=>[]
 | a::l=>gIg a::gN l
end
theorem gZ2(x:gG):(gIg x).sz=4:=by cases x;simp [gIg,U.sz,U.szs,gGn]
instance:Enc gG gIg gN 4:=⟨fun l=>by induction l with | nil=>rfl | cons a l ih=>simp [gN,ih],gZ2⟩
theorem gMf{l:List gG}{k:Nat}{x:gG}(h:l[k]? =some x):(gN l)[k]? =some (gIg x):=Enc.get h
mutual
structure gOv where
 constructor:List UInt8
 vars:List (List UInt8)
 body:kJ
structure kJ where
 kind:Int
 trait:List UInt8
 name:List UInt8
 n:Int
 type_:gB
 args:List kJ
 arms:List gOv
end
mutual
def hQ0:gOv→U
 | ⟨f0,f1,f2⟩=>.st [.s f0,.sl 1 (jP f1),gCx f2]
def gKw:List gOv→List U
 | []=>[]
 | a::l=>hQ0 a::gKw l
def gCx:kJ→U
 | ⟨f0,f1,f2,f3,f4,f5,f6⟩=>.st [.i .i64 f0,.s f1,.s f2,.i .i64 f3,jS f4,.sl 9 (gB8 f5),.sl 11 (gKw f6)]
def gB8:List kJ→List U
 | []=>[]
 | a::l=>gCx a::gB8 l
end
theorem gN7(x:kJ):(gCx x).sz=9:=by cases x;simp [gCx,U.sz,U.szs,gGn]
instance:Enc kJ gCx gB8 9:=⟨fun l=>by induction l with | nil=>rfl | cons a l ih=>simp [gB8,ih],gN7⟩
theorem gZ3{l:List kJ}{k:Nat}{x:kJ}(h:l[k]? =some x):(gB8 l)[k]? =some (gCx x):=Enc.get h
theorem hQ1(x:gOv):(hQ0 x).sz=11:=by cases x;simp [hQ0,U.sz,U.szs,gN7]
instance:Enc gOv hQ0 gKw 11:=⟨fun l=>by induction l with | nil=>rfl | cons a l ih=>simp [gKw,ih],hQ1⟩
theorem hH4{l:List gOv}{k:Nat}{x:gOv}(h:l[k]? =some x):(gKw l)[k]? =some (hQ0 x):=Enc.get h
structure qJ where
 name:List UInt8
 params:List gB
 result:gB
 hasDefault:Bool
 vars:List (List UInt8)
 body:kJ
mutual
def gGw:qJ→U
 | ⟨f0,f1,f2,f3,f4,f5⟩=>.st [.s f0,.sl 3 (jJ f1),jS f2,.b f3,.sl 1 (jP f4),gCx f5]
def gB9:List qJ→List U
 | []=>[]
 | a::l=>gGw a::gB9 l
end
theorem gV3(x:qJ):(gGw x).sz=16:=by cases x;simp [gGw,U.sz,U.szs,gN7,gGn]
instance:Enc qJ gGw gB9 16:=⟨fun l=>by induction l with | nil=>rfl | cons a l ih=>simp [gB9,ih],gV3⟩
theorem gPh{l:List qJ}{k:Nat}{x:qJ}(h:l[k]? =some x):(gB9 l)[k]? =some (gGw x):=Enc.get h
structure qV where
 name:List UInt8
 supertraits:List (List UInt8)
 auto:Bool
 assoc:Bool
 signatures:List qJ
mutual
def gMu:qV→U
 | ⟨f0,f1,f2,f3,f4⟩=>.st [.s f0,.sl 1 (jP f1),.b f2,.b f3,.sl 16 (gB9 f4)]
def gBm:List qV→List U
 | []=>[]
 | a::l=>gMu a::gBm l
end
theorem hH8(x:qV):(gMu x).sz=5:=by cases x;simp [gMu,U.sz,U.szs]
instance:Enc qV gMu gBm 5:=⟨fun l=>by induction l with | nil=>rfl | cons a l ih=>simp [gBm,ih],hH8⟩
theorem gXw{l:List qV}{k:Nat}{x:qV}(h:l[k]? =some x):(gBm l)[k]? =some (gMu x):=Enc.get h
structure pU where
 name:List UInt8
 fields:List gB
mutual
def gFq:pU→U
 | ⟨f0,f1⟩=>.st [.s f0,.sl 3 (jJ f1)]
def wR:List pU→List U
 | []=>[]
 | a::l=>gFq a::wR l
end
theorem gSj(x:pU):(gFq x).sz=2:=by cases x;simp [gFq,U.sz,U.szs]
instance:Enc pU gFq wR 2:=⟨fun l=>by induction l with | nil=>rfl | cons a l ih=>simp [wR,ih],gSj⟩
theorem gDr{l:List pU}{k:Nat}{x:pU}(h:l[k]? =some x):(wR l)[k]? =some (gFq x):=Enc.get h
structure mJ where
 name:List UInt8
 vars:List (List UInt8)
 constructors:List pU
mutual
def gFr:mJ→U
 | ⟨f0,f1,f2⟩=>.st [.s f0,.sl 1 (jP f1),.sl 2 (wR f2)]
def uM:List mJ→List U
 | []=>[]
 | a::l=>gFr a::uM l
end
theorem gXx(x:mJ):(gFr x).sz=3:=by cases x;simp [gFr,U.sz,U.szs]
instance:Enc mJ gFr uM 3:=⟨fun l=>by induction l with | nil=>rfl | cons a l ih=>simp [uM,ih],gXx⟩
theorem gN8{l:List mJ}{k:Nat}{x:mJ}(h:l[k]? =some x):(uM l)[k]? =some (gFr x):=Enc.get h
structure gY where
 trait:List UInt8
 type_:gB
mutual
def zY:gY→U
 | ⟨f0,f1⟩=>.st [.s f0,jS f1]
def kV:List gY→List U
 | []=>[]
 | a::l=>zY a::kV l
end
theorem gSk(x:gY):(zY x).sz=4:=by cases x;simp [zY,U.sz,U.szs,gGn]
instance:Enc gY zY kV 4:=⟨fun l=>by induction l with | nil=>rfl | cons a l ih=>simp [kV,ih],gSk⟩
theorem gHm{l:List gY}{k:Nat}{x:gY}(h:l[k]? =some x):(kV l)[k]? =some (zY x):=Enc.get h
structure gC0 where
 name:List UInt8
 vars:List (List UInt8)
 body:kJ
mutual
def gSl:gC0→U
 | ⟨f0,f1,f2⟩=>.st [.s f0,.sl 1 (jP f1),gCx f2]
def gGo:List gC0→List U
 | []=>[]
 | a::l=>gSl a::gGo l
end
theorem hEx(x:gC0):(gSl x).sz=11:=by cases x;simp [gSl,U.sz,U.szs,gN7]
instance:Enc gC0 gSl gGo 11:=⟨fun l=>by induction l with | nil=>rfl | cons a l ih=>simp [gGo,ih],hEx⟩
theorem hH9{l:List gC0}{k:Nat}{x:gC0}(h:l[k]? =some x):(gGo l)[k]? =some (gSl x):=Enc.get h
structure kG where
 trait:List UInt8
 vars:List (List UInt8)
 head:gB
 where_:List gY
 default_:Bool
 hasAssoc:Bool
 assoc:gB
 methods:List gC0
mutual
def gCa:kG→U
 | ⟨f0,f1,f2,f3,f4,f5,f6,f7⟩=>.st [.s f0,.sl 1 (jP f1),jS f2,.sl 4 (kV f3),.b f4,.b f5,jS f6,.sl 11 (gGo f7)]
def uN:List kG→List U
 | []=>[]
 | a::l=>gCa a::uN l
end
theorem gXy(x:kG):(gCa x).sz=12:=by cases x;simp [gCa,U.sz,U.szs,gGn]
instance:Enc kG gCa uN 12:=⟨fun l=>by induction l with | nil=>rfl | cons a l ih=>simp [uN,ih],gXy⟩
theorem gHn{l:List kG}{k:Nat}{x:kG}(h:l[k]? =some x):(uN l)[k]? =some (gCa x):=Enc.get h
structure gHo where
 name:List UInt8
 type_:gB
mutual
def gXz:gHo→U
 | ⟨f0,f1⟩=>.st [.s f0,jS f1]
def gHp:List gHo→List U
 | []=>[]
 | a::l=>gXz a::gHp l
end
theorem hIa(x:gHo):(gXz x).sz=4:=by cases x;simp [gXz,U.sz,U.szs,gGn]
instance:Enc gHo gXz gHp 4:=⟨fun l=>by induction l with | nil=>rfl | cons a l ih=>simp [gHp,ih],hIa⟩
theorem hCo{l:List gHo}{k:Nat}{x:gHo}(h:l[k]? =some x):(gHp l)[k]? =some (gXz x):=Enc.get h
structure mH where
 name:List UInt8
 vars:List (List UInt8)
 where_:List gY
 params:List gHo
 result:gB
 body:kJ
mutual
def gFs:mH→U
 | ⟨f0,f1,f2,f3,f4,f5⟩=>.st [.s f0,.sl 1 (jP f1),.sl 4 (kV f2),.sl 4 (gHp f3),jS f4,gCx f5]
def uO:List mH→List U
 | []=>[]
 | a::l=>gFs a::uO l
end
theorem gX0(x:mH):(gFs x).sz=16:=by cases x;simp [gFs,U.sz,U.szs,gN7,gGn]
instance:Enc mH gFs uO 16:=⟨fun l=>by induction l with | nil=>rfl | cons a l ih=>simp [uO,ih],gX0⟩
theorem gX1{l:List mH}{k:Nat}{x:mH}(h:l[k]? =some x):(uO l)[k]? =some (gFs x):=Enc.get h
structure kI where
 name:List UInt8
 deps:List (List UInt8)
 traits:List qV
 dataTypes:List mJ
 instances:List kG
 functions:List mH
mutual
def gE8:kI→U
 | ⟨f0,f1,f2,f3,f4,f5⟩=>.st [.s f0,.sl 1 (jP f1),.sl 5 (gBm f2),.sl 3 (uM f3),.sl 12 (uN f4),.sl 16 (uO f5)]
def gX:List kI→List U
 | []=>[]
 | a::l=>gE8 a::gX l
end
theorem gZ4(x:kI):(gE8 x).sz=6:=by cases x;simp [gE8,U.sz,U.szs]
instance:Enc kI gE8 gX 6:=⟨fun l=>by induction l with | nil=>rfl | cons a l ih=>simp [gX,ih],gZ4⟩
theorem gBw{l:List kI}{k:Nat}{x:kI}(h:l[k]? =some x):(gX l)[k]? =some (gE8 x):=Enc.get h
structure gI where
 packages:List kI
mutual
def kR:gI→U
 | ⟨f0⟩=>.st [.sl 6 (gX f0)]
def hIb:List gI→List U
 | []=>[]
 | a::l=>kR a::hIb l
end
structure gH where
 package:Int
 at_:Int
mutual
def qG:gH→U
 | ⟨f0,f1⟩=>.st [.i .i64 f0,.i .i64 f1]
def kF:List gH→List U
 | []=>[]
 | a::l=>qG a::kF l
end
theorem gLl(x:gH):(qG x).sz=2:=by cases x;simp [qG,U.sz,U.szs]
instance:Enc gH qG kF 2:=⟨fun l=>by induction l with | nil=>rfl | cons a l ih=>simp [kF,ih],gLl⟩
theorem wZ{l:List gH}{k:Nat}{x:gH}(h:l[k]? =some x):(kF l)[k]? =some (qG x):=Enc.get h
structure gU where
 goal:gY
 from_:Int
 steps:List Int
mutual
def gDe:gU→U
 | ⟨f0,f1,f2⟩=>.st [zY f0,.i .i64 f1,.sl 1 (gJe f2)]
def gM:List gU→List U
 | []=>[]
 | a::l=>gDe a::gM l
end
theorem gTv(x:gU):(gDe x).sz=6:=by cases x;simp [gDe,U.sz,U.szs,gSk]
instance:Enc gU gDe gM 6:=⟨fun l=>by induction l with | nil=>rfl | cons a l ih=>simp [gM,ih],gTv⟩
theorem gHq{l:List gU}{k:Nat}{x:gU}(h:l[k]? =some x):(gM l)[k]? =some (gDe x):=Enc.get h
structure gQ where
 kind:Int
 n:Int
 at_:gH
 args:List gQ
mutual
def pY:gQ→U
 | ⟨f0,f1,f2,f3⟩=>.st [.i .i64 f0,.i .i64 f1,qG f2,.sl 5 (jZ f3)]
def jZ:List gQ→List U
 | []=>[]
 | a::l=>pY a::jZ l
end
theorem gX2(x:gQ):(pY x).sz=5:=by cases x;simp [pY,U.sz,U.szs,gLl]
instance:Enc gQ pY jZ 5:=⟨fun l=>by induction l with | nil=>rfl | cons a l ih=>simp [jZ,ih],gX2⟩
theorem gX3{l:List gQ}{k:Nat}{x:gQ}(h:l[k]? =some x):(jZ l)[k]? =some (pY x):=Enc.get h
structure jB where
 a:gB
 b:gB
 node:Int
mutual
def gLm:jB→U
 | ⟨f0,f1,f2⟩=>.st [jS f0,jS f1,.i .i64 f2]
def gW:List jB→List U
 | []=>[]
 | a::l=>gLm a::gW l
end
theorem gX4(x:jB):(gLm x).sz=7:=by cases x;simp [gLm,U.sz,U.szs,gGn]
instance:Enc jB gLm gW 7:=⟨fun l=>by induction l with | nil=>rfl | cons a l ih=>simp [gW,ih],gX4⟩
theorem gHr{l:List jB}{k:Nat}{x:jB}(h:l[k]? =some x):(gW l)[k]? =some (gLm x):=Enc.get h
structure jN where
 goal:gY
 node:Int
mutual
def gHs:jN→U
 | ⟨f0,f1⟩=>.st [zY f0,.i .i64 f1]
def gT:List jN→List U
 | []=>[]
 | a::l=>gHs a::gT l
end
theorem gTw(x:jN):(gHs x).sz=5:=by cases x;simp [gHs,U.sz,U.szs,gSk]
instance:Enc jN gHs gT 5:=⟨fun l=>by induction l with | nil=>rfl | cons a l ih=>simp [gT,ih],gTw⟩
theorem gM9{l:List jN}{k:Nat}{x:jN}(h:l[k]? =some x):(gT l)[k]? =some (gHs x):=Enc.get h
structure gJ where
 next:Int
 count:Int
 node:Int
 bindings:List gG
 equations:List jB
 obligations:List jN
 code:Int
 at_:Int
mutual
def mD:gJ→U
 | ⟨f0,f1,f2,f3,f4,f5,f6,f7⟩=>.st [.i .i64 f0,.i .i64 f1,.i .i64 f2,.sl 4 (gN f3),.sl 7 (gW f4),.sl 5 (gT f5),.i .i64 f6,.i .i64 f7]
def gX5:List gJ→List U
 | []=>[]
 | a::l=>mD a::gX5 l
end
end Go.Eng
set_option linter.unusedSimpArgs false
namespace Go.Eng
open Go Go.RowKit
theorem qB{α β:Type}{v:α}{k:α→β}{r:β}(h:lt_ v k=r):∃x,v=x∧k x=r:=⟨v,rfl,h⟩
section
variable {l:List UInt8} {k n:Nat}
theorem hS3(h:decide ((k:Int) < (l.length:Int))=true):k < l.length:=by have h:=of_decide_eq_true h;omega
theorem hS4(h:decide ((k:Int) < (l.length:Int))=false):l.length≤k:=by have h:=of_decide_eq_false h;omega
theorem uR(h:decide ((k:Int) < (n:Int))=true):k < n:=by have h:=of_decide_eq_true h;omega
theorem uS(h:decide ((k:Int) < (n:Int))=false):n≤k:=by have h:=of_decide_eq_false h;omega
end
section
variable {P:Program} {A:Amb} {ops:Array Oper} {K:St→Prop} {Q:Exit→St→Prop} {rest:List Oper} {σ:St} {c:Code}
theorem jT(σJ:St)(h1:VO P A ops rest σ (fun s=>Le s σJ))(h2:K σJ)(hA:A.L0.length≤σJ.L.length:=by rw [gCz.h (A:=A)];exact Nat.le_of_ble_eq_true rfl):VO P A ops rest σ K:=
 fun R hR a w hr=>h1 R (fun σ' a' w' hle hr'=>hR σJ a' w' h2 (hr'.le hle hA)) a w hr
theorem hUh{x y:Code}(σJ:St)(h1:V P A x σ (thenS (fun s=>Le s σJ) Q))(h2:V P A y σJ Q)(hA:A.L0.length≤σJ.L.length:=by rw [gCz.h (A:=A)];exact Nat.le_of_ble_eq_true rfl):V P A (.seq x y) σ Q:=
 jW (V.mono h1 (fun e s hq=>by
  cases e with
  | normal=>exact jBc hq h2 hA
  | _=>exact hq))
theorem mQ {α0:Type} (I:α0→St) (J:α0→Prop) (μ:α0→Nat) (x0:α0) (h0:Le σ (I x0)) (hJ:J x0)
  (round:∀a0,J a0→V P A c (I a0) (thenS (fun s=>∃b0,J b0∧μ b0 < μ a0∧Le s (I b0)) Q)) (hA:∀a0,A.L0.length≤(I a0).L.length:=by intros;rw [gCz.h (A:=A)];exact Nat.le_of_ble_eq_true rfl):V P A (.loop c) σ Q:=
 gPy (α:=α0) (fun x=>I (x)) (fun x=>J (x)) (fun x=>μ (x)) (x0) h0 hJ (fun x hx=>V.mono (round (x) hx) (fun e s hq=>by
  cases e with
  | normal=>
    obtain⟨b0,h1,h2,h3⟩:=hq;exact⟨(b0),h1,h2,h3⟩
  | _=>exact hq)) (fun x=>hA (x))
theorem gEe {α0 α1:Type} (I:α0→α1→St) (J:α0→α1→Prop) (μ:α0→α1→Nat) (x0:α0) (x1:α1) (h0:Le σ (I x0 x1)) (hJ:J x0 x1)
  (round:∀a0 a1,J a0 a1→V P A c (I a0 a1) (thenS (fun s=>∃b0 b1,J b0 b1∧μ b0 b1 < μ a0 a1∧Le s (I b0 b1)) Q)) (hA:∀a0 a1,A.L0.length≤(I a0 a1).L.length:=by intros;rw [gCz.h (A:=A)];exact Nat.le_of_ble_eq_true rfl):V P A (.loop c) σ Q:=
 gPy (α:=α0 × α1) (fun x=>I (x.1) (x.2)) (fun x=>J (x.1) (x.2)) (fun x=>μ (x.1) (x.2)) (x0,x1) h0 hJ (fun x hx=>V.mono (round (x.1) (x.2) hx) (fun e s hq=>by
  cases e with
  | normal=>
    obtain⟨b0,b1,h1,h2,h3⟩:=hq;exact⟨(b0,b1),h1,h2,h3⟩
  | _=>exact hq)) (fun x=>hA (x.1) (x.2))
theorem kS {α0 α1 α2:Type} (I:α0→α1→α2→St) (J:α0→α1→α2→Prop) (μ:α0→α1→α2→Nat) (x0:α0) (x1:α1) (x2:α2) (h0:Le σ (I x0 x1 x2)) (hJ:J x0 x1 x2)
  (round:∀a0 a1 a2,J a0 a1 a2→V P A c (I a0 a1 a2) (thenS (fun s=>∃b0 b1 b2,J b0 b1 b2∧μ b0 b1 b2 < μ a0 a1 a2∧Le s (I b0 b1 b2)) Q)) (hA:∀a0 a1 a2,A.L0.length≤(I a0 a1 a2).L.length:=by intros;rw [gCz.h (A:=A)];exact Nat.le_of_ble_eq_true rfl):V P A (.loop c) σ Q:=
 gPy (α:=α0 × α1 × α2) (fun x=>I (x.1) (x.2.1) (x.2.2)) (fun x=>J (x.1) (x.2.1) (x.2.2)) (fun x=>μ (x.1) (x.2.1) (x.2.2)) (x0,x1,x2) h0 hJ (fun x hx=>V.mono (round (x.1) (x.2.1) (x.2.2) hx) (fun e s hq=>by
  cases e with
  | normal=>
    obtain⟨b0,b1,b2,h1,h2,h3⟩:=hq;exact⟨(b0,b1,b2),h1,h2,h3⟩
  | _=>exact hq)) (fun x=>hA (x.1) (x.2.1) (x.2.2))
theorem gV4 {α0 α1 α2 α3 α4:Type} (I:α0→α1→α2→α3→α4→St) (J:α0→α1→α2→α3→α4→Prop) (μ:α0→α1→α2→α3→α4→Nat) (x0:α0) (x1:α1) (x2:α2) (x3:α3) (x4:α4) (h0:Le σ (I x0 x1 x2 x3 x4)) (hJ:J x0 x1 x2 x3 x4)
  (round:∀a0 a1 a2 a3 a4,J a0 a1 a2 a3 a4→V P A c (I a0 a1 a2 a3 a4) (thenS (fun s=>∃b0 b1 b2 b3 b4,J b0 b1 b2 b3 b4∧μ b0 b1 b2 b3 b4 < μ a0 a1 a2 a3 a4∧Le s (I b0 b1 b2 b3 b4)) Q)) (hA:∀a0 a1 a2 a3 a4,A.L0.length≤(I a0 a1 a2 a3 a4).L.length:=by intros;rw [gCz.h (A:=A)];exact Nat.le_of_ble_eq_true rfl):V P A (.loop c) σ Q:=
 gPy (α:=α0 × α1 × α2 × α3 × α4) (fun x=>I (x.1) (x.2.1) (x.2.2.1) (x.2.2.2.1) (x.2.2.2.2)) (fun x=>J (x.1) (x.2.1) (x.2.2.1) (x.2.2.2.1) (x.2.2.2.2)) (fun x=>μ (x.1) (x.2.1) (x.2.2.1) (x.2.2.2.1) (x.2.2.2.2)) (x0,x1,x2,x3,x4) h0 hJ (fun x hx=>V.mono (round (x.1) (x.2.1) (x.2.2.1) (x.2.2.2.1) (x.2.2.2.2) hx) (fun e s hq=>by
  cases e with
  | normal=>
    obtain⟨b0,b1,b2,b3,b4,h1,h2,h3⟩:=hq;exact⟨(b0,b1,b2,b3,b4),h1,h2,h3⟩
  | _=>exact hq)) (fun x=>hA (x.1) (x.2.1) (x.2.2.1) (x.2.2.2.1) (x.2.2.2.2))
theorem hIc {α0 α1 α2 α3 α4 α5 α6:Type} (I:α0→α1→α2→α3→α4→α5→α6→St) (J:α0→α1→α2→α3→α4→α5→α6→Prop) (μ:α0→α1→α2→α3→α4→α5→α6→Nat) (x0:α0) (x1:α1) (x2:α2) (x3:α3) (x4:α4) (x5:α5) (x6:α6) (h0:Le σ (I x0 x1 x2 x3 x4 x5 x6)) (hJ:J x0 x1 x2 x3 x4 x5 x6)
  (round:∀a0 a1 a2 a3 a4 a5 a6,J a0 a1 a2 a3 a4 a5 a6→V P A c (I a0 a1 a2 a3 a4 a5 a6) (thenS (fun s=>∃b0 b1 b2 b3 b4 b5 b6,J b0 b1 b2 b3 b4 b5 b6∧μ b0 b1 b2 b3 b4 b5 b6 < μ a0 a1 a2 a3 a4 a5 a6∧Le s (I b0 b1 b2 b3 b4 b5 b6)) Q)) (hA:∀a0 a1 a2 a3 a4 a5 a6,A.L0.length≤(I a0 a1 a2 a3 a4 a5 a6).L.length:=by intros;rw [gCz.h (A:=A)];exact Nat.le_of_ble_eq_true rfl):V P A (.loop c) σ Q:=
 gPy (α:=α0 × α1 × α2 × α3 × α4 × α5 × α6) (fun x=>I (x.1) (x.2.1) (x.2.2.1) (x.2.2.2.1) (x.2.2.2.2.1) (x.2.2.2.2.2.1) (x.2.2.2.2.2.2)) (fun x=>J (x.1) (x.2.1) (x.2.2.1) (x.2.2.2.1) (x.2.2.2.2.1) (x.2.2.2.2.2.1) (x.2.2.2.2.2.2)) (fun x=>μ (x.1) (x.2.1) (x.2.2.1) (x.2.2.2.1) (x.2.2.2.2.1) (x.2.2.2.2.2.1) (x.2.2.2.2.2.2)) (x0,x1,x2,x3,x4,x5,x6) h0 hJ (fun x hx=>V.mono (round (x.1) (x.2.1) (x.2.2.1) (x.2.2.2.1) (x.2.2.2.2.1) (x.2.2.2.2.2.1) (x.2.2.2.2.2.2) hx) (fun e s hq=>by
  cases e with
  | normal=>
    obtain⟨b0,b1,b2,b3,b4,b5,b6,h1,h2,h3⟩:=hq;exact⟨(b0,b1,b2,b3,b4,b5,b6),h1,h2,h3⟩
  | _=>exact hq)) (fun x=>hA (x.1) (x.2.1) (x.2.2.1) (x.2.2.2.1) (x.2.2.2.2.1) (x.2.2.2.2.2.1) (x.2.2.2.2.2.2))
theorem gZ5 {α0 α1 α2 α3 α4 α5 α6 α7:Type} (I:α0→α1→α2→α3→α4→α5→α6→α7→St) (J:α0→α1→α2→α3→α4→α5→α6→α7→Prop) (μ:α0→α1→α2→α3→α4→α5→α6→α7→Nat) (x0:α0) (x1:α1) (x2:α2) (x3:α3) (x4:α4) (x5:α5) (x6:α6) (x7:α7) (h0:Le σ (I x0 x1 x2 x3 x4 x5 x6 x7)) (hJ:J x0 x1 x2 x3 x4 x5 x6 x7)
  (round:∀a0 a1 a2 a3 a4 a5 a6 a7,J a0 a1 a2 a3 a4 a5 a6 a7→V P A c (I a0 a1 a2 a3 a4 a5 a6 a7) (thenS (fun s=>∃b0 b1 b2 b3 b4 b5 b6 b7,J b0 b1 b2 b3 b4 b5 b6 b7∧μ b0 b1 b2 b3 b4 b5 b6 b7 < μ a0 a1 a2 a3 a4 a5 a6 a7∧Le s (I b0 b1 b2 b3 b4 b5 b6 b7)) Q)) (hA:∀a0 a1 a2 a3 a4 a5 a6 a7,A.L0.length≤(I a0 a1 a2 a3 a4 a5 a6 a7).L.length:=by intros;rw [gCz.h (A:=A)];exact Nat.le_of_ble_eq_true rfl):V P A (.loop c) σ Q:=
 gPy (α:=α0 × α1 × α2 × α3 × α4 × α5 × α6 × α7) (fun x=>I (x.1) (x.2.1) (x.2.2.1) (x.2.2.2.1) (x.2.2.2.2.1) (x.2.2.2.2.2.1) (x.2.2.2.2.2.2.1) (x.2.2.2.2.2.2.2)) (fun x=>J (x.1) (x.2.1) (x.2.2.1) (x.2.2.2.1) (x.2.2.2.2.1) (x.2.2.2.2.2.1) (x.2.2.2.2.2.2.1) (x.2.2.2.2.2.2.2)) (fun x=>μ (x.1) (x.2.1) (x.2.2.1) (x.2.2.2.1) (x.2.2.2.2.1) (x.2.2.2.2.2.1) (x.2.2.2.2.2.2.1) (x.2.2.2.2.2.2.2)) (x0,x1,x2,x3,x4,x5,x6,x7) h0 hJ (fun x hx=>V.mono (round (x.1) (x.2.1) (x.2.2.1) (x.2.2.2.1) (x.2.2.2.2.1) (x.2.2.2.2.2.1) (x.2.2.2.2.2.2.1) (x.2.2.2.2.2.2.2) hx) (fun e s hq=>by
  cases e with
  | normal=>
    obtain⟨b0,b1,b2,b3,b4,b5,b6,b7,h1,h2,h3⟩:=hq;exact⟨(b0,b1,b2,b3,b4,b5,b6,b7),h1,h2,h3⟩
  | _=>exact hq)) (fun x=>hA (x.1) (x.2.1) (x.2.2.1) (x.2.2.2.1) (x.2.2.2.2.1) (x.2.2.2.2.2.1) (x.2.2.2.2.2.2.1) (x.2.2.2.2.2.2.2))
end
end Go.Eng
