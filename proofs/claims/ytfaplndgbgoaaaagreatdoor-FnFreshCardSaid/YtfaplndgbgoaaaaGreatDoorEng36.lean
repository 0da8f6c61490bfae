import Derived.Test.YtfaplndgbgoaaaaGreatDoorEng34
set_option linter.unusedVariables false
namespace Go.Eng
open Go Go.RowKit
def hPw(n:Int):U:=.i .i64 n
def hPx(s:List UInt8):U:=.s s
def gKp:List Int→List U
 | []=>[]
 | a::l=>.i .i64 a::gKp l
def gZ:List (List UInt8)→List U
 | []=>[]
 | a::l=>.s a::gZ l
class Enc (α:Type) (e:outParam (α→U)) (es:outParam (List α→List U)) (z:outParam Nat):Prop where
 h:∀l,es l=l.map e
 hz:∀x,(e x).sz=z
theorem Enc.get{α:Type}{e:α→U}{es:List α→List U}{z:Nat} [E:Enc α e es z]{l:List α}{k:Nat}{x:α}(h:l[k]? =some x):(es l)[k]? =some (e x):=by rw [E.h,List.getElem?_map,h];rfl
theorem Enc.len{α:Type}{e:α→U}{es:List α→List U}{z:Nat} [E:Enc α e es z](l:List α):(es l).length=l.length:=by rw [E.h,List.length_map]
theorem Enc.app{α:Type}{e:α→U}{es:List α→List U}{z:Nat} [E:Enc α e es z](l r:List α):es (l++r)=es l++es r:=by simp only [E.h,List.map_append]
theorem Enc.set{α:Type}{e:α→U}{es:List α→List U}{z:Nat} [E:Enc α e es z](l:List α)(k:Nat)(x:α):es (l.set k x)=(es l).set k (e x):=by simp only [E.h,List.map_set]
theorem Enc.rep{α:Type}{e:α→U}{es:List α→List U}{z:Nat} [E:Enc α e es z](n:Nat)(x:α):es (List.replicate n x)=List.replicate n (e x):=by simp only [E.h,List.map_replicate]
theorem Enc.all{α:Type}{e:α→U}{es:List α→List U}{z:Nat} [E:Enc α e es z](l:List α):∀u∈es l,u.sz=z:=by
 rw [E.h]
 intro u hu
 obtain⟨x,_,rfl⟩:=List.mem_map.1 hu
 exact E.hz x
instance:Enc Int hPw gKp 1:=⟨fun l=>by induction l with | nil=>rfl | cons a l ih=>simp [gKp,ih,hPw],fun _=>rfl⟩
instance:Enc (List UInt8) hPx gZ 1:=⟨fun l=>by induction l with | nil=>rfl | cons a l ih=>simp [gZ,ih,hPx],fun _=>rfl⟩
theorem hR5{l:List Int}{k:Nat}{x:Int}(h:l[k]? =some x):(gKp l)[k]? =some (.i .i64 x):=Enc.get h
theorem gOe{l:List (List UInt8)}{k:Nat}{x:List UInt8}(h:l[k]? =some x):(gZ l)[k]? =some (.s x):=Enc.get h
theorem gOf(l:List (List UInt8)):U.noSls (gZ l)=true:=by induction l with | nil=>rfl | cons a l ih=>simp [gZ,U.noSls,U.noSl,ih]
theorem gOg(l:List Int):U.noSls (gKp l)=true:=by induction l with | nil=>rfl | cons a l ih=>simp [gKp,U.noSls,U.noSl,ih]
structure gB where
 atom:List UInt8
 list:List gB
mutual
def mF:gB→U
 | ⟨f0,f1⟩=>.st [.s f0,.sl 2 (gM f1)]
def gM:List gB→List U
 | []=>[]
 | a::l=>mF a::gM l
end
theorem gXf(x:gB):(mF x).sz=2:=by cases x;simp [mF,U.sz,U.szs]
instance:Enc gB mF gM 2:=⟨fun l=>by induction l with | nil=>rfl | cons a l ih=>simp [gM,ih],gXf⟩
theorem qO{l:List gB}{k:Nat}{x:gB}(h:l[k]? =some x):(gM l)[k]? =some (mF x):=Enc.get h
structure gD where
 kind:Int
 name:List UInt8
 args:List gD
mutual
def jP:gD→U
 | ⟨f0,f1,f2⟩=>.st [.i .i64 f0,.s f1,.sl 3 (gJ f2)]
def gJ:List gD→List U
 | []=>[]
 | a::l=>jP a::gJ l
end
theorem gEg(x:gD):(jP x).sz=3:=by cases x;simp [jP,U.sz,U.szs]
instance:Enc gD jP gJ 3:=⟨fun l=>by induction l with | nil=>rfl | cons a l ih=>simp [gJ,ih],gEg⟩
theorem gBb{l:List gD}{k:Nat}{x:gD}(h:l[k]? =some x):(gJ l)[k]? =some (jP x):=Enc.get h
structure gI where
 var_:List UInt8
 type_:gD
mutual
def gJ1:gI→U
 | ⟨f0,f1⟩=>.st [.s f0,jP f1]
def gQ:List gI→List U
 | []=>[]
 | a::l=>gJ1 a::gQ l
end
theorem gSk(x:gI):(gJ1 x).sz=4:=by cases x;simp [gJ1,U.sz,U.szs,gEg]
instance:Enc gI gJ1 gQ 4:=⟨fun l=>by induction l with | nil=>rfl | cons a l ih=>simp [gQ,ih],gSk⟩
theorem gLu{l:List gI}{k:Nat}{x:gI}(h:l[k]? =some x):(gQ l)[k]? =some (gJ1 x):=Enc.get h
mutual
structure gJa where
 constructor:List UInt8
 vars:List (List UInt8)
 body:jM
structure jM where
 kind:Int
 trait:List UInt8
 name:List UInt8
 n:Int
 type_:gD
 args:List jM
 arms:List gJa
end
mutual
def gZl:gJa→U
 | ⟨f0,f1,f2⟩=>.st [.s f0,.sl 1 (gZ f1),yR f2]
def qD:List gJa→List U
 | []=>[]
 | a::l=>gZl a::qD l
def yR:jM→U
 | ⟨f0,f1,f2,f3,f4,f5,f6⟩=>.st [.i .i64 f0,.s f1,.s f2,.i .i64 f3,jP f4,.sl 9 (kP f5),.sl 11 (qD f6)]
def kP:List jM→List U
 | []=>[]
 | a::l=>yR a::kP l
end
theorem gJ2(x:jM):(yR x).sz=9:=by cases x;simp [yR,U.sz,U.szs,gEg]
instance:Enc jM yR kP 9:=⟨fun l=>by induction l with | nil=>rfl | cons a l ih=>simp [kP,ih],gJ2⟩
theorem gSl{l:List jM}{k:Nat}{x:jM}(h:l[k]? =some x):(kP l)[k]? =some (yR x):=Enc.get h
theorem hDv(x:gJa):(gZl x).sz=11:=by cases x;simp [gZl,U.sz,U.szs,gJ2]
instance:Enc gJa gZl qD 11:=⟨fun l=>by induction l with | nil=>rfl | cons a l ih=>simp [qD,ih],hDv⟩
theorem gXg{l:List gJa}{k:Nat}{x:gJa}(h:l[k]? =some x):(qD l)[k]? =some (gZl x):=Enc.get h
structure pU where
 name:List UInt8
 params:List gD
 result:gD
 hasDefault:Bool
 vars:List (List UInt8)
 body:jM
mutual
def gEm:pU→U
 | ⟨f0,f1,f2,f3,f4,f5⟩=>.st [.s f0,.sl 3 (gJ f1),jP f2,.b f3,.sl 1 (gZ f4),yR f5]
def kU:List pU→List U
 | []=>[]
 | a::l=>gEm a::kU l
end
theorem gPh(x:pU):(gEm x).sz=16:=by cases x;simp [gEm,U.sz,U.szs,gJ2,gEg]
instance:Enc pU gEm kU 16:=⟨fun l=>by induction l with | nil=>rfl | cons a l ih=>simp [kU,ih],gPh⟩
theorem gKq{l:List pU}{k:Nat}{x:pU}(h:l[k]? =some x):(kU l)[k]? =some (gEm x):=Enc.get h
structure qV where
 name:List UInt8
 supertraits:List (List UInt8)
 auto:Bool
 assoc:Bool
 signatures:List pU
mutual
def gJ3:qV→U
 | ⟨f0,f1,f2,f3,f4⟩=>.st [.s f0,.sl 1 (gZ f1),.b f2,.b f3,.sl 16 (kU f4)]
def uC:List qV→List U
 | []=>[]
 | a::l=>gJ3 a::uC l
end
theorem gXh(x:qV):(gJ3 x).sz=5:=by cases x;simp [gJ3,U.sz,U.szs]
instance:Enc qV gJ3 uC 5:=⟨fun l=>by induction l with | nil=>rfl | cons a l ih=>simp [uC,ih],gXh⟩
theorem gTu{l:List qV}{k:Nat}{x:qV}(h:l[k]? =some x):(uC l)[k]? =some (gJ3 x):=Enc.get h
structure pO where
 name:List UInt8
 fields:List gD
mutual
def gDn:pO→U
 | ⟨f0,f1⟩=>.st [.s f0,.sl 3 (gJ f1)]
def mV:List pO→List U
 | []=>[]
 | a::l=>gDn a::mV l
end
theorem gMz(x:pO):(gDn x).sz=2:=by cases x;simp [gDn,U.sz,U.szs]
instance:Enc pO gDn mV 2:=⟨fun l=>by induction l with | nil=>rfl | cons a l ih=>simp [mV,ih],gMz⟩
theorem gBu{l:List pO}{k:Nat}{x:pO}(h:l[k]? =some x):(mV l)[k]? =some (gDn x):=Enc.get h
structure kY where
 name:List UInt8
 vars:List (List UInt8)
 constructors:List pO
mutual
def gDo:kY→U
 | ⟨f0,f1,f2⟩=>.st [.s f0,.sl 1 (gZ f1),.sl 2 (mV f2)]
def mI:List kY→List U
 | []=>[]
 | a::l=>gDo a::mI l
end
theorem gQr(x:kY):(gDo x).sz=3:=by cases x;simp [gDo,U.sz,U.szs]
instance:Enc kY gDo mI 3:=⟨fun l=>by induction l with | nil=>rfl | cons a l ih=>simp [mI,ih],gQr⟩
theorem gJ4{l:List kY}{k:Nat}{x:kY}(h:l[k]? =some x):(mI l)[k]? =some (gDo x):=Enc.get h
structure jD where
 trait:List UInt8
 type_:gD
mutual
def gAh:jD→U
 | ⟨f0,f1⟩=>.st [.s f0,jP f1]
def jT:List jD→List U
 | []=>[]
 | a::l=>gAh a::jT l
end
theorem gM0(x:jD):(gAh x).sz=4:=by cases x;simp [gAh,U.sz,U.szs,gEg]
instance:Enc jD gAh jT 4:=⟨fun l=>by induction l with | nil=>rfl | cons a l ih=>simp [jT,ih],gM0⟩
theorem gHf{l:List jD}{k:Nat}{x:jD}(h:l[k]? =some x):(jT l)[k]? =some (gAh x):=Enc.get h
structure gBo where
 name:List UInt8
 vars:List (List UInt8)
 body:jM
mutual
def gM1:gBo→U
 | ⟨f0,f1,f2⟩=>.st [.s f0,.sl 1 (gZ f1),yR f2]
def mW:List gBo→List U
 | []=>[]
 | a::l=>gM1 a::mW l
end
theorem gVk(x:gBo):(gM1 x).sz=11:=by cases x;simp [gM1,U.sz,U.szs,gJ2]
instance:Enc gBo gM1 mW 11:=⟨fun l=>by induction l with | nil=>rfl | cons a l ih=>simp [mW,ih],gVk⟩
theorem gXi{l:List gBo}{k:Nat}{x:gBo}(h:l[k]? =some x):(mW l)[k]? =some (gM1 x):=Enc.get h
structure jZ where
 trait:List UInt8
 vars:List (List UInt8)
 head:gD
 where_:List jD
 default_:Bool
 hasAssoc:Bool
 assoc:gD
 methods:List gBo
mutual
def gCl:jZ→U
 | ⟨f0,f1,f2,f3,f4,f5,f6,f7⟩=>.st [.s f0,.sl 1 (gZ f1),jP f2,.sl 4 (jT f3),.b f4,.b f5,jP f6,.sl 11 (mW f7)]
def mJ:List jZ→List U
 | []=>[]
 | a::l=>gCl a::mJ l
end
theorem gQs(x:jZ):(gCl x).sz=12:=by cases x;simp [gCl,U.sz,U.szs,gEg]
instance:Enc jZ gCl mJ 12:=⟨fun l=>by induction l with | nil=>rfl | cons a l ih=>simp [mJ,ih],gQs⟩
theorem gGf{l:List jZ}{k:Nat}{x:jZ}(h:l[k]? =some x):(mJ l)[k]? =some (gCl x):=Enc.get h
structure gE8 where
 name:List UInt8
 type_:gD
mutual
def gQt:gE8→U
 | ⟨f0,f1⟩=>.st [.s f0,jP f1]
def gE9:List gE8→List U
 | []=>[]
 | a::l=>gQt a::gE9 l
end
theorem gXj(x:gE8):(gQt x).sz=4:=by cases x;simp [gQt,U.sz,U.szs,gEg]
instance:Enc gE8 gQt gE9 4:=⟨fun l=>by induction l with | nil=>rfl | cons a l ih=>simp [gE9,ih],gXj⟩
theorem gTv{l:List gE8}{k:Nat}{x:gE8}(h:l[k]? =some x):(gE9 l)[k]? =some (gQt x):=Enc.get h
structure mD where
 name:List UInt8
 vars:List (List UInt8)
 where_:List jD
 params:List gE8
 result:gD
 body:jM
mutual
def gDp:mD→U
 | ⟨f0,f1,f2,f3,f4,f5⟩=>.st [.s f0,.sl 1 (gZ f1),.sl 4 (jT f2),.sl 4 (gE9 f3),jP f4,yR f5]
def mK:List mD→List U
 | []=>[]
 | a::l=>gDp a::mK l
end
theorem gQu(x:mD):(gDp x).sz=16:=by cases x;simp [gDp,U.sz,U.szs,gJ2,gEg]
instance:Enc mD gDp mK 16:=⟨fun l=>by induction l with | nil=>rfl | cons a l ih=>simp [mK,ih],gQu⟩
theorem gQv{l:List mD}{k:Nat}{x:mD}(h:l[k]? =some x):(mK l)[k]? =some (gDp x):=Enc.get h
structure jX where
 name:List UInt8
 deps:List (List UInt8)
 traits:List qV
 dataTypes:List kY
 instances:List jZ
 functions:List mD
mutual
def gC6:jX→U
 | ⟨f0,f1,f2,f3,f4,f5⟩=>.st [.s f0,.sl 1 (gZ f1),.sl 5 (uC f2),.sl 3 (mI f3),.sl 12 (mJ f4),.sl 16 (mK f5)]
def kN:List jX→List U
 | []=>[]
 | a::l=>gC6 a::kN l
end
theorem gSm(x:jX):(gC6 x).sz=6:=by cases x;simp [gC6,U.sz,U.szs]
instance:Enc jX gC6 kN 6:=⟨fun l=>by induction l with | nil=>rfl | cons a l ih=>simp [kN,ih],gSm⟩
theorem gC7{l:List jX}{k:Nat}{x:jX}(h:l[k]? =some x):(kN l)[k]? =some (gC6 x):=Enc.get h
structure gH where
 packages:List jX
mutual
def kT:gH→U
 | ⟨f0⟩=>.st [.sl 6 (kN f0)]
def gXk:List gH→List U
 | []=>[]
 | a::l=>kT a::gXk l
end
structure gT where
 package:Int
 at_:Int
mutual
def wW:gT→U
 | ⟨f0,f1⟩=>.st [.i .i64 f0,.i .i64 f1]
def mX:List gT→List U
 | []=>[]
 | a::l=>wW a::mX l
end
theorem gH1(x:gT):(wW x).sz=2:=by cases x;simp [wW,U.sz,U.szs]
instance:Enc gT wW mX 2:=⟨fun l=>by induction l with | nil=>rfl | cons a l ih=>simp [mX,ih],gH1⟩
theorem yV{l:List gT}{k:Nat}{x:gT}(h:l[k]? =some x):(mX l)[k]? =some (wW x):=Enc.get h
structure jK where
 goal:jD
 from_:Int
 steps:List Int
mutual
def gFa:jK→U
 | ⟨f0,f1,f2⟩=>.st [gAh f0,.i .i64 f1,.sl 1 (gKp f2)]
def kZ:List jK→List U
 | []=>[]
 | a::l=>gFa a::kZ l
end
theorem gNy(x:jK):(gFa x).sz=6:=by cases x;simp [gFa,U.sz,U.szs,gM0]
instance:Enc jK gFa kZ 6:=⟨fun l=>by induction l with | nil=>rfl | cons a l ih=>simp [kZ,ih],gNy⟩
theorem gJb{l:List jK}{k:Nat}{x:jK}(h:l[k]? =some x):(kZ l)[k]? =some (gFa x):=Enc.get h
structure gV where
 kind:Int
 n:Int
 at_:gT
 args:List gV
mutual
def mY:gV→U
 | ⟨f0,f1,f2,f3⟩=>.st [.i .i64 f0,.i .i64 f1,wW f2,.sl 5 (qE f3)]
def qE:List gV→List U
 | []=>[]
 | a::l=>mY a::qE l
end
theorem gQw(x:gV):(mY x).sz=5:=by cases x;simp [mY,U.sz,U.szs,gH1]
instance:Enc gV mY qE 5:=⟨fun l=>by induction l with | nil=>rfl | cons a l ih=>simp [qE,ih],gQw⟩
theorem gXl{l:List gV}{k:Nat}{x:gV}(h:l[k]? =some x):(qE l)[k]? =some (mY x):=Enc.get h
structure kE where
 a:gD
 b:gD
 node:Int
mutual
def gH2:kE→U
 | ⟨f0,f1,f2⟩=>.st [jP f0,jP f1,.i .i64 f2]
def jY:List kE→List U
 | []=>[]
 | a::l=>gH2 a::jY l
end
theorem gQx(x:kE):(gH2 x).sz=7:=by cases x;simp [gH2,U.sz,U.szs,gEg]
instance:Enc kE gH2 jY 7:=⟨fun l=>by induction l with | nil=>rfl | cons a l ih=>simp [jY,ih],gQx⟩
theorem gJ5{l:List kE}{k:Nat}{x:kE}(h:l[k]? =some x):(jY l)[k]? =some (gH2 x):=Enc.get h
structure kH where
 goal:jD
 node:Int
mutual
def gFb:kH→U
 | ⟨f0,f1⟩=>.st [gAh f0,.i .i64 f1]
def jR:List kH→List U
 | []=>[]
 | a::l=>gFb a::jR l
end
theorem gNz(x:kH):(gFb x).sz=5:=by cases x;simp [gFb,U.sz,U.szs,gM0]
instance:Enc kH gFb jR 5:=⟨fun l=>by induction l with | nil=>rfl | cons a l ih=>simp [jR,ih],gNz⟩
theorem gJc{l:List kH}{k:Nat}{x:kH}(h:l[k]? =some x):(jR l)[k]? =some (gFb x):=Enc.get h
structure gG where
 next:Int
 count:Int
 node:Int
 bindings:List gI
 equations:List kE
 obligations:List kH
 code:Int
 at_:Int
mutual
def mE:gG→U
 | ⟨f0,f1,f2,f3,f4,f5,f6,f7⟩=>.st [.i .i64 f0,.i .i64 f1,.i .i64 f2,.sl 4 (gQ f3),.sl 7 (jY f4),.sl 5 (jR f5),.i .i64 f6,.i .i64 f7]
def gQy:List gG→List U
 | []=>[]
 | a::l=>mE a::gQy l
end
end Go.Eng
set_option linter.unusedVariables false
set_option linter.unusedSimpArgs false
namespace Go.Eng
open Go Go.RowKit
theorem qR{α β:Type}{v:α}{k:α→β}{r:β}(h:lt_ v k=r):∃x,v=x∧k x=r:=⟨v,rfl,h⟩
section
variable {l:List UInt8} {k n:Nat}
theorem hFr(h:decide ((k:Int) < (l.length:Int))=true):k < l.length:=by have h:=of_decide_eq_true h;omega
theorem hFs(h:decide ((k:Int) < (l.length:Int))=false):l.length≤k:=by have h:=of_decide_eq_false h;omega
theorem wE(h:decide ((k:Int) < (n:Int))=true):k < n:=by have h:=of_decide_eq_true h;omega
theorem wF(h:decide ((k:Int) < (n:Int))=false):n≤k:=by have h:=of_decide_eq_false h;omega
end
section
variable {P:Program} {A:Amb} {ops:Array Oper} {K:St→Prop} {Q:Exit→St→Prop} {rest:List Oper} {σ:St} {c:Code}
theorem jU(σJ:St)(h1:VO P A ops rest σ (fun s=>Le s σJ))(h2:K σJ)(hA:A.L0.length≤σJ.L.length:=by rw [gBx.h (A:=A)];exact Nat.le_of_ble_eq_true rfl):VO P A ops rest σ K:=
 fun R hR a w hr=>h1 R (fun σ' a' w' hle hr'=>hR σJ a' w' h2 (hr'.le hle hA)) a w hr
theorem hGl{x y:Code}(σJ:St)(h1:V P A x σ (thenS (fun s=>Le s σJ) Q))(h2:V P A y σJ Q)(hA:A.L0.length≤σJ.L.length:=by rw [gBx.h (A:=A)];exact Nat.le_of_ble_eq_true rfl):V P A (.seq x y) σ Q:=
 kI (V.mono h1 (fun e s hq=>by
  cases e with
  | normal=>exact hOc hq h2 hA
  | _=>exact hq))
theorem pJ {α0:Type} (I:α0→St) (J:α0→Prop) (μ:α0→Nat) (x0:α0) (h0:Le σ (I x0)) (hJ:J x0)
  (round:∀a0,J a0→V P A c (I a0) (thenS (fun s=>∃b0,J b0∧μ b0 < μ a0∧Le s (I b0)) Q)) (hA:∀a0,A.L0.length≤(I a0).L.length:=by intros;rw [gBx.h (A:=A)];exact Nat.le_of_ble_eq_true rfl):V P A (.loop c) σ Q:=
 gK9 (α:=α0) (fun x=>I (x)) (fun x=>J (x)) (fun x=>μ (x)) (x0) h0 hJ (fun x hx=>V.mono (round (x) hx) (fun e s hq=>by
  cases e with
  | normal=>
    obtain⟨b0,h1,h2,h3⟩:=hq
    exact⟨(b0),h1,h2,h3⟩
  | _=>exact hq)) (fun x=>hA (x))
theorem gD3 {α0 α1:Type} (I:α0→α1→St) (J:α0→α1→Prop) (μ:α0→α1→Nat) (x0:α0) (x1:α1) (h0:Le σ (I x0 x1)) (hJ:J x0 x1)
  (round:∀a0 a1,J a0 a1→V P A c (I a0 a1) (thenS (fun s=>∃b0 b1,J b0 b1∧μ b0 b1 < μ a0 a1∧Le s (I b0 b1)) Q)) (hA:∀a0 a1,A.L0.length≤(I a0 a1).L.length:=by intros;rw [gBx.h (A:=A)];exact Nat.le_of_ble_eq_true rfl):V P A (.loop c) σ Q:=
 gK9 (α:=α0 × α1) (fun x=>I (x.1) (x.2)) (fun x=>J (x.1) (x.2)) (fun x=>μ (x.1) (x.2)) (x0,x1) h0 hJ (fun x hx=>V.mono (round (x.1) (x.2) hx) (fun e s hq=>by
  cases e with
  | normal=>
    obtain⟨b0,b1,h1,h2,h3⟩:=hq
    exact⟨(b0,b1),h1,h2,h3⟩
  | _=>exact hq)) (fun x=>hA (x.1) (x.2))
theorem kR {α0 α1 α2:Type} (I:α0→α1→α2→St) (J:α0→α1→α2→Prop) (μ:α0→α1→α2→Nat) (x0:α0) (x1:α1) (x2:α2) (h0:Le σ (I x0 x1 x2)) (hJ:J x0 x1 x2)
  (round:∀a0 a1 a2,J a0 a1 a2→V P A c (I a0 a1 a2) (thenS (fun s=>∃b0 b1 b2,J b0 b1 b2∧μ b0 b1 b2 < μ a0 a1 a2∧Le s (I b0 b1 b2)) Q)) (hA:∀a0 a1 a2,A.L0.length≤(I a0 a1 a2).L.length:=by intros;rw [gBx.h (A:=A)];exact Nat.le_of_ble_eq_true rfl):V P A (.loop c) σ Q:=
 gK9 (α:=α0 × α1 × α2) (fun x=>I (x.1) (x.2.1) (x.2.2)) (fun x=>J (x.1) (x.2.1) (x.2.2)) (fun x=>μ (x.1) (x.2.1) (x.2.2)) (x0,x1,x2) h0 hJ (fun x hx=>V.mono (round (x.1) (x.2.1) (x.2.2) hx) (fun e s hq=>by
  cases e with
  | normal=>
    obtain⟨b0,b1,b2,h1,h2,h3⟩:=hq
    exact⟨(b0,b1,b2),h1,h2,h3⟩
  | _=>exact hq)) (fun x=>hA (x.1) (x.2.1) (x.2.2))
theorem gSn {α0 α1 α2 α3 α4:Type} (I:α0→α1→α2→α3→α4→St) (J:α0→α1→α2→α3→α4→Prop) (μ:α0→α1→α2→α3→α4→Nat) (x0:α0) (x1:α1) (x2:α2) (x3:α3) (x4:α4) (h0:Le σ (I x0 x1 x2 x3 x4)) (hJ:J x0 x1 x2 x3 x4)
  (round:∀a0 a1 a2 a3 a4,J a0 a1 a2 a3 a4→V P A c (I a0 a1 a2 a3 a4) (thenS (fun s=>∃b0 b1 b2 b3 b4,J b0 b1 b2 b3 b4∧μ b0 b1 b2 b3 b4 < μ a0 a1 a2 a3 a4∧Le s (I b0 b1 b2 b3 b4)) Q)) (hA:∀a0 a1 a2 a3 a4,A.L0.length≤(I a0 a1 a2 a3 a4).L.length:=by intros;rw [gBx.h (A:=A)];exact Nat.le_of_ble_eq_true rfl):V P A (.loop c) σ Q:=
 gK9 (α:=α0 × α1 × α2 × α3 × α4) (fun x=>I (x.1) (x.2.1) (x.2.2.1) (x.2.2.2.1) (x.2.2.2.2)) (fun x=>J (x.1) (x.2.1) (x.2.2.1) (x.2.2.2.1) (x.2.2.2.2)) (fun x=>μ (x.1) (x.2.1) (x.2.2.1) (x.2.2.2.1) (x.2.2.2.2)) (x0,x1,x2,x3,x4) h0 hJ (fun x hx=>V.mono (round (x.1) (x.2.1) (x.2.2.1) (x.2.2.2.1) (x.2.2.2.2) hx) (fun e s hq=>by
  cases e with
  | normal=>
    obtain⟨b0,b1,b2,b3,b4,h1,h2,h3⟩:=hq
    exact⟨(b0,b1,b2,b3,b4),h1,h2,h3⟩
  | _=>exact hq)) (fun x=>hA (x.1) (x.2.1) (x.2.2.1) (x.2.2.2.1) (x.2.2.2.2))
theorem hDw {α0 α1 α2 α3 α4 α5 α6:Type} (I:α0→α1→α2→α3→α4→α5→α6→St) (J:α0→α1→α2→α3→α4→α5→α6→Prop) (μ:α0→α1→α2→α3→α4→α5→α6→Nat) (x0:α0) (x1:α1) (x2:α2) (x3:α3) (x4:α4) (x5:α5) (x6:α6) (h0:Le σ (I x0 x1 x2 x3 x4 x5 x6)) (hJ:J x0 x1 x2 x3 x4 x5 x6)
  (round:∀a0 a1 a2 a3 a4 a5 a6,J a0 a1 a2 a3 a4 a5 a6→V P A c (I a0 a1 a2 a3 a4 a5 a6) (thenS (fun s=>∃b0 b1 b2 b3 b4 b5 b6,J b0 b1 b2 b3 b4 b5 b6∧μ b0 b1 b2 b3 b4 b5 b6 < μ a0 a1 a2 a3 a4 a5 a6∧Le s (I b0 b1 b2 b3 b4 b5 b6)) Q)) (hA:∀a0 a1 a2 a3 a4 a5 a6,A.L0.length≤(I a0 a1 a2 a3 a4 a5 a6).L.length:=by intros;rw [gBx.h (A:=A)];exact Nat.le_of_ble_eq_true rfl):V P A (.loop c) σ Q:=
 gK9 (α:=α0 × α1 × α2 × α3 × α4 × α5 × α6) (fun x=>I (x.1) (x.2.1) (x.2.2.1) (x.2.2.2.1) (x.2.2.2.2.1) (x.2.2.2.2.2.1) (x.2.2.2.2.2.2)) (fun x=>J (x.1) (x.2.1) (x.2.2.1) (x.2.2.2.1) (x.2.2.2.2.1) (x.2.2.2.2.2.1) (x.2.2.2.2.2.2)) (fun x=>μ (x.1) (x.2.1) (x.2.2.1) (x.2.2.2.1) (x.2.2.2.2.1) (x.2.2.2.2.2.1) (x.2.2.2.2.2.2)) (x0,x1,x2,x3,x4,x5,x6) h0 hJ (fun x hx=>V.mono (round (x.1) (x.2.1) (x.2.2.1) (x.2.2.2.1) (x.2.2.2.2.1) (x.2.2.2.2.2.1) (x.2.2.2.2.2.2) hx) (fun e s hq=>by
  cases e with
  | normal=>
    obtain⟨b0,b1,b2,b3,b4,b5,b6,h1,h2,h3⟩:=hq
    exact⟨(b0,b1,b2,b3,b4,b5,b6),h1,h2,h3⟩
  | _=>exact hq)) (fun x=>hA (x.1) (x.2.1) (x.2.2.1) (x.2.2.2.1) (x.2.2.2.2.1) (x.2.2.2.2.2.1) (x.2.2.2.2.2.2))
theorem hDx {α0 α1 α2 α3 α4 α5 α6 α7:Type} (I:α0→α1→α2→α3→α4→α5→α6→α7→St) (J:α0→α1→α2→α3→α4→α5→α6→α7→Prop) (μ:α0→α1→α2→α3→α4→α5→α6→α7→Nat) (x0:α0) (x1:α1) (x2:α2) (x3:α3) (x4:α4) (x5:α5) (x6:α6) (x7:α7) (h0:Le σ (I x0 x1 x2 x3 x4 x5 x6 x7)) (hJ:J x0 x1 x2 x3 x4 x5 x6 x7)
  (round:∀a0 a1 a2 a3 a4 a5 a6 a7,J a0 a1 a2 a3 a4 a5 a6 a7→V P A c (I a0 a1 a2 a3 a4 a5 a6 a7) (thenS (fun s=>∃b0 b1 b2 b3 b4 b5 b6 b7,J b0 b1 b2 b3 b4 b5 b6 b7∧μ b0 b1 b2 b3 b4 b5 b6 b7 < μ a0 a1 a2 a3 a4 a5 a6 a7∧Le s (I b0 b1 b2 b3 b4 b5 b6 b7)) Q)) (hA:∀a0 a1 a2 a3 a4 a5 a6 a7,A.L0.length≤(I a0 a1 a2 a3 a4 a5 a6 a7).L.length:=by intros;rw [gBx.h (A:=A)];exact Nat.le_of_ble_eq_true rfl):V P A (.loop c) σ Q:=
 gK9 (α:=α0 × α1 × α2 × α3 × α4 × α5 × α6 × α7) (fun x=>I (x.1) (x.2.1) (x.2.2.1) (x.2.2.2.1) (x.2.2.2.2.1) (x.2.2.2.2.2.1) (x.2.2.2.2.2.2.1) (x.2.2.2.2.2.2.2)) (fun x=>J (x.1) (x.2.1) (x.2.2.1) (x.2.2.2.1) (x.2.2.2.2.1) (x.2.2.2.2.2.1) (x.2.2.2.2.2.2.1) (x.2.2.2.2.2.2.2)) (fun x=>μ (x.1) (x.2.1) (x.2.2.1) (x.2.2.2.1) (x.2.2.2.2.1) (x.2.2.2.2.2.1) (x.2.2.2.2.2.2.1) (x.2.2.2.2.2.2.2)) (x0,x1,x2,x3,x4,x5,x6,x7) h0 hJ (fun x hx=>V.mono (round (x.1) (x.2.1) (x.2.2.1) (x.2.2.2.1) (x.2.2.2.2.1) (x.2.2.2.2.2.1) (x.2.2.2.2.2.2.1) (x.2.2.2.2.2.2.2) hx) (fun e s hq=>by
  cases e with
  | normal=>
    obtain⟨b0,b1,b2,b3,b4,b5,b6,b7,h1,h2,h3⟩:=hq
    exact⟨(b0,b1,b2,b3,b4,b5,b6,b7),h1,h2,h3⟩
  | _=>exact hq)) (fun x=>hA (x.1) (x.2.1) (x.2.2.1) (x.2.2.2.1) (x.2.2.2.2.1) (x.2.2.2.2.2.1) (x.2.2.2.2.2.2.1) (x.2.2.2.2.2.2.2))
end
end Go.Eng
