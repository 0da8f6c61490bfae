import Derived.Test.YtfpdlnkkcnmebaaGreatEng34
set_option linter.unusedVariables false
namespace Go.Eng
open Go Go.RowKit
def hXd(n:Int):U:=.i .i64 n
def hXe(s:LB):U:=.s s
def vM:List Int→List U
 | []=>[]
 | a::l=>.i .i64 a::vM l
def gT:LS→List U
 | []=>[]
 | a::l=>.s a::gT l
class Enc (α:Type) (e:outParam (α→U)) (es:outParam (List α→List U)) (z:outParam Nat):Prop where
 h:∀l,es l=l.map e
 hz:∀x,(e x).sz=z
theorem Enc.get{α:Type}{e:α→U}{es:List α→List U}{z:Nat}[E:Enc α e es z]{l:List α}{k:Nat}{x:α}(h:l[k]? =some x):(es l)[k]? =some (e x):=by rw [E.h,List.getElem?_map,h];rfl
theorem Enc.len{α:Type}{e:α→U}{es:List α→List U}{z:Nat}[E:Enc α e es z](l:List α):(es l).length=l.length:=by rw [E.h,List.length_map]
theorem Enc.app{α:Type}{e:α→U}{es:List α→List U}{z:Nat}[E:Enc α e es z](l r:List α):es (l++r)=es l++es r:=by simp only [E.h,List.map_append]
theorem Enc.set{α:Type}{e:α→U}{es:List α→List U}{z:Nat}[E:Enc α e es z](l:List α)(k:Nat)(x:α):es (l.set k x)=(es l).set k (e x):=by simp only [E.h,List.map_set]
theorem Enc.rep{α:Type}{e:α→U}{es:List α→List U}{z:Nat}[E:Enc α e es z](n:Nat)(x:α):es (List.replicate n x)=List.replicate n (e x):=by simp only [E.h,List.map_replicate]
theorem Enc.all{α:Type}{e:α→U}{es:List α→List U}{z:Nat}[E:Enc α e es z](l:List α):∀u∈es l,u.sz=z:=by
 rw [E.h];intro u hu;obtain⟨x,_,rfl⟩:=List.mem_map.1 hu;exact E.hz x
instance:Enc Int hXd vM 1:=⟨fun l=>by induction l with | nil=>rfl | cons a l ih=>simp [vM,ih,hXd],fun _=>rfl⟩
instance:Enc LB hXe gT 1:=⟨fun l=>by induction l with | nil=>rfl | cons a l ih=>simp [gT,ih,hXe],fun _=>rfl⟩
theorem hMg{l:List Int}{k:Nat}{x:Int}(h:l[k]? =some x):(vM l)[k]? =some (.i .i64 x):=Enc.get h
theorem gO7{l:LS}{k:Nat}{x:LB}(h:l[k]? =some x):(gT l)[k]? =some (.s x):=Enc.get h
theorem gCz(l:LS):U.noSls (gT l)=true:=by induction l with | nil=>rfl | cons a l ih=>simp [gT,U.noSls,U.noSl,ih]
theorem gC0(l:List Int):U.noSls (vM l)=true:=by induction l with | nil=>rfl | cons a l ih=>simp [vM,U.noSls,U.noSl,ih]
structure gF where
 atom:LB
 list:List gF
mutual
def qJ:gF→U
 | ⟨f0,f1⟩=>.st [.s f0,.sl 2 (jB f1)]
def jB:List gF→List U
 | []=>[]
 | a::l=>qJ a::jB l
end
theorem hDu(x:gF):(qJ x).sz=2:=by cases x;simp [qJ,U.sz,U.szs]
instance:Enc gF qJ jB 2:=⟨fun l=>by induction l with | nil=>rfl | cons a l ih=>simp [jB,ih],hDu⟩
theorem vH{l:List gF}{k:Nat}{x:gF}(h:l[k]? =some x):(jB l)[k]? =some (qJ x):=Enc.get h
structure gB where
 kind:Int
 name:LB
 args:List gB
mutual
def mM:gB→U
 | ⟨f0,f1,f2⟩=>.st [.i .i64 f0,.s f1,.sl 3 (gN f2)]
def gN:List gB→List U
 | []=>[]
 | a::l=>mM a::gN l
end
theorem gH9(x:gB):(mM x).sz=3:=by cases x;simp [mM,U.sz,U.szs]
instance:Enc gB mM gN 3:=⟨fun l=>by induction l with | nil=>rfl | cons a l ih=>simp [gN,ih],gH9⟩
theorem gDj{l:List gB}{k:Nat}{x:gB}(h:l[k]? =some x):(gN l)[k]? =some (mM x):=Enc.get h
structure gU where
 var_:LB
 type_:gB
mutual
def gNt:gU→U
 | ⟨f0,f1⟩=>.st [.s f0,mM f1]
def jY:List gU→List U
 | []=>[]
 | a::l=>gNt a::jY l
end
theorem gXc(x:gU):(gNt x).sz=4:=by cases x;simp [gNt,U.sz,U.szs,gH9]
instance:Enc gU gNt jY 4:=⟨fun l=>by induction l with | nil=>rfl | cons a l ih=>simp [jY,ih],gXc⟩
theorem gUb{l:List gU}{k:Nat}{x:gU}(h:l[k]? =some x):(jY l)[k]? =some (gNt x):=Enc.get h
mutual
structure gL8 where
 constructor:LB
 vars:LS
 body:gY
structure gY where
 kind:Int
 trait:LB
 name:LB
 n:Int
 type_:gB
 args:List gY
 arms:List gL8
end
mutual
def hMi:gL8→U
 | ⟨f0,f1,f2⟩=>.st [.s f0,.sl 1 (gT f1),gBp f2]
def uZ:List gL8→List U
 | []=>[]
 | a::l=>hMi a::uZ l
def gBp:gY→U
 | ⟨f0,f1,f2,f3,f4,f5,f6⟩=>.st [.i .i64 f0,.s f1,.s f2,.i .i64 f3,mM f4,.sl 9 (kQ f5),.sl 11 (uZ f6)]
def kQ:List gY→List U
 | []=>[]
 | a::l=>gBp a::kQ l
end
theorem gNu(x:gY):(gBp x).sz=9:=by cases x;simp [gBp,U.sz,U.szs,gH9]
instance:Enc gY gBp kQ 9:=⟨fun l=>by induction l with | nil=>rfl | cons a l ih=>simp [kQ,ih],gNu⟩
theorem gXd{l:List gY}{k:Nat}{x:gY}(h:l[k]? =some x):(kQ l)[k]? =some (gBp x):=Enc.get h
theorem hMk(x:gL8):(hMi x).sz=11:=by cases x;simp [hMi,U.sz,U.szs,gNu]
instance:Enc gL8 hMi uZ 11:=⟨fun l=>by induction l with | nil=>rfl | cons a l ih=>simp [uZ,ih],hMk⟩
theorem hDv{l:List gL8}{k:Nat}{x:gL8}(h:l[k]? =some x):(uZ l)[k]? =some (hMi x):=Enc.get h
structure jT where
 name:LB
 params:List gB
 result:gB
 hasDefault:Bool
 vars:LS
 body:gY
mutual
def gG0:jT→U
 | ⟨f0,f1,f2,f3,f4,f5⟩=>.st [.s f0,.sl 3 (gN f1),mM f2,.b f3,.sl 1 (gT f4),gBp f5]
def kM:List jT→List U
 | []=>[]
 | a::l=>gG0 a::kM l
end
theorem gUc(x:jT):(gG0 x).sz=16:=by cases x;simp [gG0,U.sz,U.szs,gNu,gH9]
instance:Enc jT gG0 kM 16:=⟨fun l=>by induction l with | nil=>rfl | cons a l ih=>simp [kM,ih],gUc⟩
theorem gOq{l:List jT}{k:Nat}{x:jT}(h:l[k]? =some x):(kM l)[k]? =some (gG0 x):=Enc.get h
structure pM where
 name:LB
 supertraits:LS
 auto:Bool
 assoc:Bool
 signatures:List jT
mutual
def gLb:pM→U
 | ⟨f0,f1,f2,f3,f4⟩=>.st [.s f0,.sl 1 (gT f1),.b f2,.b f3,.sl 16 (kM f4)]
def yM:List pM→List U
 | []=>[]
 | a::l=>gLb a::yM l
end
theorem hDw(x:pM):(gLb x).sz=5:=by cases x;simp [gLb,U.sz,U.szs]
instance:Enc pM gLb yM 5:=⟨fun l=>by induction l with | nil=>rfl | cons a l ih=>simp [yM,ih],hDw⟩
theorem gVh{l:List pM}{k:Nat}{x:pM}(h:l[k]? =some x):(yM l)[k]? =some (gLb x):=Enc.get h
structure jC where
 name:LB
 fields:List gB
mutual
def gF6:jC→U
 | ⟨f0,f1⟩=>.st [.s f0,.sl 3 (gN f1)]
def pO:List jC→List U
 | []=>[]
 | a::l=>gF6 a::pO l
end
theorem gRf(x:jC):(gF6 x).sz=2:=by cases x;simp [gF6,U.sz,U.szs]
instance:Enc jC gF6 pO 2:=⟨fun l=>by induction l with | nil=>rfl | cons a l ih=>simp [pO,ih],gRf⟩
theorem gA5{l:List jC}{k:Nat}{x:jC}(h:l[k]? =some x):(pO l)[k]? =some (gF6 x):=Enc.get h
structure kG where
 name:LB
 vars:LS
 constructors:List jC
mutual
def gDk:kG→U
 | ⟨f0,f1,f2⟩=>.st [.s f0,.sl 1 (gT f1),.sl 2 (pO f2)]
def qK:List kG→List U
 | []=>[]
 | a::l=>gDk a::qK l
end
theorem gVi(x:kG):(gDk x).sz=3:=by cases x;simp [gDk,U.sz,U.szs]
instance:Enc kG gDk qK 3:=⟨fun l=>by induction l with | nil=>rfl | cons a l ih=>simp [qK,ih],gVi⟩
theorem gJa{l:List kG}{k:Nat}{x:kG}(h:l[k]? =some x):(qK l)[k]? =some (gDk x):=Enc.get h
structure gP where
 trait:LB
 type_:gB
mutual
def yF:gP→U
 | ⟨f0,f1⟩=>.st [.s f0,mM f1]
def kC:List gP→List U
 | []=>[]
 | a::l=>yF a::kC l
end
theorem gVj(x:gP):(yF x).sz=4:=by cases x;simp [yF,U.sz,U.szs,gH9]
instance:Enc gP yF kC 4:=⟨fun l=>by induction l with | nil=>rfl | cons a l ih=>simp [kC,ih],gVj⟩
theorem gHi{l:List gP}{k:Nat}{x:gP}(h:l[k]? =some x):(kC l)[k]? =some (yF x):=Enc.get h
structure jG where
 name:LB
 vars:LS
 body:gY
mutual
def gRg:jG→U
 | ⟨f0,f1,f2⟩=>.st [.s f0,.sl 1 (gT f1),gBp f2]
def mF:List jG→List U
 | []=>[]
 | a::l=>gRg a::mF l
end
theorem hAm(x:jG):(gRg x).sz=11:=by cases x;simp [gRg,U.sz,U.szs,gNu]
instance:Enc jG gRg mF 11:=⟨fun l=>by induction l with | nil=>rfl | cons a l ih=>simp [mF,ih],hAm⟩
theorem hDx{l:List jG}{k:Nat}{x:jG}(h:l[k]? =some x):(mF l)[k]? =some (gRg x):=Enc.get h
structure jD where
 trait:LB
 vars:LS
 head:gB
 where_:List gP
 default_:Bool
 hasAssoc:Bool
 assoc:gB
 methods:List jG
mutual
def gBq:jD→U
 | ⟨f0,f1,f2,f3,f4,f5,f6,f7⟩=>.st [.s f0,.sl 1 (gT f1),mM f2,.sl 4 (kC f3),.b f4,.b f5,mM f6,.sl 11 (mF f7)]
def qL:List jD→List U
 | []=>[]
 | a::l=>gBq a::qL l
end
theorem gVk(x:jD):(gBq x).sz=12:=by cases x;simp [gBq,U.sz,U.szs,gH9]
instance:Enc jD gBq qL 12:=⟨fun l=>by induction l with | nil=>rfl | cons a l ih=>simp [qL,ih],gVk⟩
theorem gHj{l:List jD}{k:Nat}{x:jD}(h:l[k]? =some x):(qL l)[k]? =some (gBq x):=Enc.get h
structure vQ where
 name:LB
 type_:gB
mutual
def gVl:vQ→U
 | ⟨f0,f1⟩=>.st [.s f0,mM f1]
def yN:List vQ→List U
 | []=>[]
 | a::l=>gVl a::yN l
end
theorem hDy(x:vQ):(gVl x).sz=4:=by cases x;simp [gVl,U.sz,U.szs,gH9]
instance:Enc vQ gVl yN 4:=⟨fun l=>by induction l with | nil=>rfl | cons a l ih=>simp [yN,ih],hDy⟩
theorem gY6{l:List vQ}{k:Nat}{x:vQ}(h:l[k]? =some x):(yN l)[k]? =some (gVl x):=Enc.get h
structure kX where
 name:LB
 vars:LS
 where_:List gP
 params:List vQ
 result:gB
 body:gY
mutual
def gEu:kX→U
 | ⟨f0,f1,f2,f3,f4,f5⟩=>.st [.s f0,.sl 1 (gT f1),.sl 4 (kC f2),.sl 4 (yN f3),mM f4,gBp f5]
def qM:List kX→List U
 | []=>[]
 | a::l=>gEu a::qM l
end
theorem gVm(x:kX):(gEu x).sz=16:=by cases x;simp [gEu,U.sz,U.szs,gNu,gH9]
instance:Enc kX gEu qM 16:=⟨fun l=>by induction l with | nil=>rfl | cons a l ih=>simp [qM,ih],gVm⟩
theorem gVn{l:List kX}{k:Nat}{x:kX}(h:l[k]? =some x):(qM l)[k]? =some (gEu x):=Enc.get h
structure jZ where
 name:LB
 deps:LS
 traits:List pM
 dataTypes:List kG
 instances:List jD
 functions:List kX
mutual
def gEv:jZ→U
 | ⟨f0,f1,f2,f3,f4,f5⟩=>.st [.s f0,.sl 1 (gT f1),.sl 5 (yM f2),.sl 3 (qK f3),.sl 12 (qL f4),.sl 16 (qM f5)]
def mE:List jZ→List U
 | []=>[]
 | a::l=>gEv a::mE l
end
theorem gXe(x:jZ):(gEv x).sz=6:=by cases x;simp [gEv,U.sz,U.szs]
instance:Enc jZ gEv mE 6:=⟨fun l=>by induction l with | nil=>rfl | cons a l ih=>simp [mE,ih],gXe⟩
theorem gAc{l:List jZ}{k:Nat}{x:jZ}(h:l[k]? =some x):(mE l)[k]? =some (gEv x):=Enc.get h
structure gM where
 packages:List jZ
mutual
def mD:gM→U
 | ⟨f0⟩=>.st [.sl 6 (mE f0)]
def hDz:List gM→List U
 | []=>[]
 | a::l=>mD a::hDz l
end
structure gD where
 package:Int
 at_:Int
mutual
def qO:gD→U
 | ⟨f0,f1⟩=>.st [.i .i64 f0,.i .i64 f1]
def kR:List gD→List U
 | []=>[]
 | a::l=>qO a::kR l
end
theorem gHk(x:gD):(qO x).sz=2:=by cases x;simp [qO,U.sz,U.szs]
instance:Enc gD qO kR 2:=⟨fun l=>by induction l with | nil=>rfl | cons a l ih=>simp [kR,ih],gHk⟩
theorem zA{l:List gD}{k:Nat}{x:gD}(h:l[k]? =some x):(kR l)[k]? =some (qO x):=Enc.get h
structure gX where
 goal:gP
 from_:Int
 steps:List Int
mutual
def gDw:gX→U
 | ⟨f0,f1,f2⟩=>.st [yF f0,.i .i64 f1,.sl 1 (vM f2)]
def jU:List gX→List U
 | []=>[]
 | a::l=>gDw a::jU l
end
theorem gSo(x:gX):(gDw x).sz=6:=by cases x;simp [gDw,U.sz,U.szs,gVj]
instance:Enc gX gDw jU 6:=⟨fun l=>by induction l with | nil=>rfl | cons a l ih=>simp [jU,ih],gSo⟩
theorem gHl{l:List gX}{k:Nat}{x:gX}(h:l[k]? =some x):(jU l)[k]? =some (gDw x):=Enc.get h
structure gH where
 kind:Int
 n:Int
 at_:gD
 args:List gH
mutual
def mZ:gH→U
 | ⟨f0,f1,f2,f3⟩=>.st [.i .i64 f0,.i .i64 f1,qO f2,.sl 5 (jE f3)]
def jE:List gH→List U
 | []=>[]
 | a::l=>mZ a::jE l
end
theorem gVo(x:gH):(mZ x).sz=5:=by cases x;simp [mZ,U.sz,U.szs,gHk]
instance:Enc gH mZ jE 5:=⟨fun l=>by induction l with | nil=>rfl | cons a l ih=>simp [jE,ih],gVo⟩
theorem gF7{l:List gH}{k:Nat}{x:gH}(h:l[k]? =some x):(jE l)[k]? =some (mZ x):=Enc.get h
structure gG where
 kind:Int
 at_:gD
 steps:List Int
 args:List gG
mutual
def jH:gG→U
 | ⟨f0,f1,f2,f3⟩=>.st [.i .i64 f0,qO f1,.sl 1 (vM f2),.sl 5 (jJ f3)]
def jJ:List gG→List U
 | []=>[]
 | a::l=>jH a::jJ l
end
theorem gSp(x:gG):(jH x).sz=5:=by cases x;simp [jH,U.sz,U.szs,gHk]
instance:Enc gG jH jJ 5:=⟨fun l=>by induction l with | nil=>rfl | cons a l ih=>simp [jJ,ih],gSp⟩
theorem gCh{l:List gG}{k:Nat}{x:gG}(h:l[k]? =some x):(jJ l)[k]? =some (jH x):=Enc.get h
end Go.Eng
set_option linter.unusedSimpArgs false
namespace Go.Eng
open Go Go.RowKit
theorem uK{α β:Type}{v:α}{k:α→β}{r:β}(h:lt_ v k=r):∃x,v=x∧k x=r:=⟨v,rfl,h⟩
section
variable {l:LB}{k n:Nat}
theorem hQl(h:decide ((k:Int) < (l.length:Int))=true):k < l.length:=by have h:=of_decide_eq_true h;omega
theorem hQm(h:decide ((k:Int) < (l.length:Int))=false):l.length≤k:=by have h:=of_decide_eq_false h;omega
theorem vR(h:decide ((k:Int) < (n:Int))=true):k < n:=by have h:=of_decide_eq_true h;omega
theorem vS(h:decide ((k:Int) < (n:Int))=false):n≤k:=by have h:=of_decide_eq_false h;omega
end
section
variable {P:Program}{A:Amb}{ops:Array Oper}{K:St→Prop}{Q:Exit→St→Prop}{rest:List Oper}{σ:St}{c:Code}
theorem kH(σJ:St)(h1:VO P A ops rest σ (fun s=>Le s σJ))(h2:K σJ)(hA:A.L0.length≤σJ.L.length:=by rw [gDv.h (A:=A)];exact Nat.le_of_ble_eq_true rfl):VO P A ops rest σ K:=
 fun R hR a w hr=>h1 R (fun σ' a' w' hle hr'=>hR σJ a' w' h2 (hr'.le hle hA)) a w hr
theorem hO0{x y:Code}(σJ:St)(h1:V P A x σ (thenS (fun s=>Le s σJ) Q))(h2:V P A y σJ Q)(hA:A.L0.length≤σJ.L.length:=by rw [gDv.h (A:=A)];exact Nat.le_of_ble_eq_true rfl):V P A (.seq x y) σ Q:=
 kI (V.mono h1 (fun e s hq=>by
  cases e with
  | normal=>exact hVp hq h2 hA
  | _=>exact hq))
theorem pY {α0:Type}(I:α0→St)(J:α0→Prop)(μ:α0→Nat)(x0:α0)(h0:Le σ (I x0))(hJ:J x0)
  (round:∀a0,J a0→V P A c (I a0) (thenS (fun s=>∃b0,J b0∧μ b0 < μ a0∧Le s (I b0)) Q)) (hA:∀a0,A.L0.length≤(I a0).L.length:=by intros;rw [gDv.h (A:=A)];exact Nat.le_of_ble_eq_true rfl):V P A (.loop c) σ Q:=
 gNx (α:=α0) (fun x=>I (x)) (fun x=>J (x)) (fun x=>μ (x)) (x0) h0 hJ (fun x hx=>V.mono (round (x) hx) (fun e s hq=>by
  cases e with
  | normal=>
    obtain⟨b0,h1,h2,h3⟩:=hq;exact⟨(b0),h1,h2,h3⟩
  | _=>exact hq)) (fun x=>hA (x))
theorem gFc {α0 α1:Type}(I:α0→α1→St)(J:α0→α1→Prop)(μ:α0→α1→Nat)(x0:α0)(x1:α1)(h0:Le σ (I x0 x1))(hJ:J x0 x1)
  (round:∀a0 a1,J a0 a1→V P A c (I a0 a1) (thenS (fun s=>∃b0 b1,J b0 b1∧μ b0 b1 < μ a0 a1∧Le s (I b0 b1)) Q)) (hA:∀a0 a1,A.L0.length≤(I a0 a1).L.length:=by intros;rw [gDv.h (A:=A)];exact Nat.le_of_ble_eq_true rfl):V P A (.loop c) σ Q:=
 gNx (α:=α0 × α1) (fun x=>I (x.1) (x.2)) (fun x=>J (x.1) (x.2)) (fun x=>μ (x.1) (x.2)) (x0,x1) h0 hJ (fun x hx=>V.mono (round (x.1) (x.2) hx) (fun e s hq=>by
  cases e with
  | normal=>
    obtain⟨b0,b1,h1,h2,h3⟩:=hq;exact⟨(b0,b1),h1,h2,h3⟩
  | _=>exact hq)) (fun x=>hA (x.1) (x.2))
theorem mG {α0 α1 α2:Type}(I:α0→α1→α2→St)(J:α0→α1→α2→Prop)(μ:α0→α1→α2→Nat)(x0:α0)(x1:α1)(x2:α2)(h0:Le σ (I x0 x1 x2))(hJ:J x0 x1 x2)
  (round:∀a0 a1 a2,J a0 a1 a2→V P A c (I a0 a1 a2) (thenS (fun s=>∃b0 b1 b2,J b0 b1 b2∧μ b0 b1 b2 < μ a0 a1 a2∧Le s (I b0 b1 b2)) Q)) (hA:∀a0 a1 a2,A.L0.length≤(I a0 a1 a2).L.length:=by intros;rw [gDv.h (A:=A)];exact Nat.le_of_ble_eq_true rfl):V P A (.loop c) σ Q:=
 gNx (α:=α0 × α1 × α2) (fun x=>I (x.1) (x.2.1) (x.2.2)) (fun x=>J (x.1) (x.2.1) (x.2.2)) (fun x=>μ (x.1) (x.2.1) (x.2.2)) (x0,x1,x2) h0 hJ (fun x hx=>V.mono (round (x.1) (x.2.1) (x.2.2) hx) (fun e s hq=>by
  cases e with
  | normal=>
    obtain⟨b0,b1,b2,h1,h2,h3⟩:=hq;exact⟨(b0,b1,b2),h1,h2,h3⟩
  | _=>exact hq)) (fun x=>hA (x.1) (x.2.1) (x.2.2))
theorem gXf {α0 α1 α2 α3 α4:Type}(I:α0→α1→α2→α3→α4→St)(J:α0→α1→α2→α3→α4→Prop)(μ:α0→α1→α2→α3→α4→Nat)(x0:α0)(x1:α1)(x2:α2)(x3:α3)(x4:α4)(h0:Le σ (I x0 x1 x2 x3 x4))(hJ:J x0 x1 x2 x3 x4)
  (round:∀a0 a1 a2 a3 a4,J a0 a1 a2 a3 a4→V P A c (I a0 a1 a2 a3 a4) (thenS (fun s=>∃b0 b1 b2 b3 b4,J b0 b1 b2 b3 b4∧μ b0 b1 b2 b3 b4 < μ a0 a1 a2 a3 a4∧Le s (I b0 b1 b2 b3 b4)) Q)) (hA:∀a0 a1 a2 a3 a4,A.L0.length≤(I a0 a1 a2 a3 a4).L.length:=by intros;rw [gDv.h (A:=A)];exact Nat.le_of_ble_eq_true rfl):V P A (.loop c) σ Q:=
 gNx (α:=α0 × α1 × α2 × α3 × α4) (fun x=>I (x.1) (x.2.1) (x.2.2.1) (x.2.2.2.1) (x.2.2.2.2)) (fun x=>J (x.1) (x.2.1) (x.2.2.1) (x.2.2.2.1) (x.2.2.2.2)) (fun x=>μ (x.1) (x.2.1) (x.2.2.1) (x.2.2.2.1) (x.2.2.2.2)) (x0,x1,x2,x3,x4) h0 hJ (fun x hx=>V.mono (round (x.1) (x.2.1) (x.2.2.1) (x.2.2.2.1) (x.2.2.2.2) hx) (fun e s hq=>by
  cases e with
  | normal=>
    obtain⟨b0,b1,b2,b3,b4,h1,h2,h3⟩:=hq;exact⟨(b0,b1,b2,b3,b4),h1,h2,h3⟩
  | _=>exact hq)) (fun x=>hA (x.1) (x.2.1) (x.2.2.1) (x.2.2.2.1) (x.2.2.2.2))
theorem hMl {α0 α1 α2 α3 α4 α5:Type}(I:α0→α1→α2→α3→α4→α5→St)(J:α0→α1→α2→α3→α4→α5→Prop)(μ:α0→α1→α2→α3→α4→α5→Nat)(x0:α0)(x1:α1)(x2:α2)(x3:α3)(x4:α4)(x5:α5)(h0:Le σ (I x0 x1 x2 x3 x4 x5))(hJ:J x0 x1 x2 x3 x4 x5)
  (round:∀a0 a1 a2 a3 a4 a5,J a0 a1 a2 a3 a4 a5→V P A c (I a0 a1 a2 a3 a4 a5) (thenS (fun s=>∃b0 b1 b2 b3 b4 b5,J b0 b1 b2 b3 b4 b5∧μ b0 b1 b2 b3 b4 b5 < μ a0 a1 a2 a3 a4 a5∧Le s (I b0 b1 b2 b3 b4 b5)) Q)) (hA:∀a0 a1 a2 a3 a4 a5,A.L0.length≤(I a0 a1 a2 a3 a4 a5).L.length:=by intros;rw [gDv.h (A:=A)];exact Nat.le_of_ble_eq_true rfl):V P A (.loop c) σ Q:=
 gNx (α:=α0 × α1 × α2 × α3 × α4 × α5) (fun x=>I (x.1) (x.2.1) (x.2.2.1) (x.2.2.2.1) (x.2.2.2.2.1) (x.2.2.2.2.2)) (fun x=>J (x.1) (x.2.1) (x.2.2.1) (x.2.2.2.1) (x.2.2.2.2.1) (x.2.2.2.2.2)) (fun x=>μ (x.1) (x.2.1) (x.2.2.1) (x.2.2.2.1) (x.2.2.2.2.1) (x.2.2.2.2.2)) (x0,x1,x2,x3,x4,x5) h0 hJ (fun x hx=>V.mono (round (x.1) (x.2.1) (x.2.2.1) (x.2.2.2.1) (x.2.2.2.2.1) (x.2.2.2.2.2) hx) (fun e s hq=>by
  cases e with
  | normal=>
    obtain⟨b0,b1,b2,b3,b4,b5,h1,h2,h3⟩:=hq;exact⟨(b0,b1,b2,b3,b4,b5),h1,h2,h3⟩
  | _=>exact hq)) (fun x=>hA (x.1) (x.2.1) (x.2.2.1) (x.2.2.2.1) (x.2.2.2.2.1) (x.2.2.2.2.2))
theorem gXg {α0 α1 α2 α3 α4 α5 α6:Type}(I:α0→α1→α2→α3→α4→α5→α6→St)(J:α0→α1→α2→α3→α4→α5→α6→Prop)(μ:α0→α1→α2→α3→α4→α5→α6→Nat)(x0:α0)(x1:α1)(x2:α2)(x3:α3)(x4:α4)(x5:α5)(x6:α6)(h0:Le σ (I x0 x1 x2 x3 x4 x5 x6))(hJ:J x0 x1 x2 x3 x4 x5 x6)
  (round:∀a0 a1 a2 a3 a4 a5 a6,J a0 a1 a2 a3 a4 a5 a6→V P A c (I a0 a1 a2 a3 a4 a5 a6) (thenS (fun s=>∃b0 b1 b2 b3 b4 b5 b6,J b0 b1 b2 b3 b4 b5 b6∧μ b0 b1 b2 b3 b4 b5 b6 < μ a0 a1 a2 a3 a4 a5 a6∧Le s (I b0 b1 b2 b3 b4 b5 b6)) Q)) (hA:∀a0 a1 a2 a3 a4 a5 a6,A.L0.length≤(I a0 a1 a2 a3 a4 a5 a6).L.length:=by intros;rw [gDv.h (A:=A)];exact Nat.le_of_ble_eq_true rfl):V P A (.loop c) σ Q:=
 gNx (α:=α0 × α1 × α2 × α3 × α4 × α5 × α6) (fun x=>I (x.1) (x.2.1) (x.2.2.1) (x.2.2.2.1) (x.2.2.2.2.1) (x.2.2.2.2.2.1) (x.2.2.2.2.2.2)) (fun x=>J (x.1) (x.2.1) (x.2.2.1) (x.2.2.2.1) (x.2.2.2.2.1) (x.2.2.2.2.2.1) (x.2.2.2.2.2.2)) (fun x=>μ (x.1) (x.2.1) (x.2.2.1) (x.2.2.2.1) (x.2.2.2.2.1) (x.2.2.2.2.2.1) (x.2.2.2.2.2.2)) (x0,x1,x2,x3,x4,x5,x6) h0 hJ (fun x hx=>V.mono (round (x.1) (x.2.1) (x.2.2.1) (x.2.2.2.1) (x.2.2.2.2.1) (x.2.2.2.2.2.1) (x.2.2.2.2.2.2) hx) (fun e s hq=>by
  cases e with
  | normal=>
    obtain⟨b0,b1,b2,b3,b4,b5,b6,h1,h2,h3⟩:=hq;exact⟨(b0,b1,b2,b3,b4,b5,b6),h1,h2,h3⟩
  | _=>exact hq)) (fun x=>hA (x.1) (x.2.1) (x.2.2.1) (x.2.2.2.1) (x.2.2.2.2.1) (x.2.2.2.2.2.1) (x.2.2.2.2.2.2))
theorem hMm {α0 α1 α2 α3 α4 α5 α6 α7:Type}(I:α0→α1→α2→α3→α4→α5→α6→α7→St)(J:α0→α1→α2→α3→α4→α5→α6→α7→Prop)(μ:α0→α1→α2→α3→α4→α5→α6→α7→Nat)(x0:α0)(x1:α1)(x2:α2)(x3:α3)(x4:α4)(x5:α5)(x6:α6)(x7:α7)(h0:Le σ (I x0 x1 x2 x3 x4 x5 x6 x7))(hJ:J x0 x1 x2 x3 x4 x5 x6 x7)
  (round:∀a0 a1 a2 a3 a4 a5 a6 a7,J a0 a1 a2 a3 a4 a5 a6 a7→V P A c (I a0 a1 a2 a3 a4 a5 a6 a7) (thenS (fun s=>∃b0 b1 b2 b3 b4 b5 b6 b7,J b0 b1 b2 b3 b4 b5 b6 b7∧μ b0 b1 b2 b3 b4 b5 b6 b7 < μ a0 a1 a2 a3 a4 a5 a6 a7∧Le s (I b0 b1 b2 b3 b4 b5 b6 b7)) Q)) (hA:∀a0 a1 a2 a3 a4 a5 a6 a7,A.L0.length≤(I a0 a1 a2 a3 a4 a5 a6 a7).L.length:=by intros;rw [gDv.h (A:=A)];exact Nat.le_of_ble_eq_true rfl):V P A (.loop c) σ Q:=
 gNx (α:=α0 × α1 × α2 × α3 × α4 × α5 × α6 × α7) (fun x=>I (x.1) (x.2.1) (x.2.2.1) (x.2.2.2.1) (x.2.2.2.2.1) (x.2.2.2.2.2.1) (x.2.2.2.2.2.2.1) (x.2.2.2.2.2.2.2)) (fun x=>J (x.1) (x.2.1) (x.2.2.1) (x.2.2.2.1) (x.2.2.2.2.1) (x.2.2.2.2.2.1) (x.2.2.2.2.2.2.1) (x.2.2.2.2.2.2.2)) (fun x=>μ (x.1) (x.2.1) (x.2.2.1) (x.2.2.2.1) (x.2.2.2.2.1) (x.2.2.2.2.2.1) (x.2.2.2.2.2.2.1) (x.2.2.2.2.2.2.2)) (x0,x1,x2,x3,x4,x5,x6,x7) h0 hJ (fun x hx=>V.mono (round (x.1) (x.2.1) (x.2.2.1) (x.2.2.2.1) (x.2.2.2.2.1) (x.2.2.2.2.2.1) (x.2.2.2.2.2.2.1) (x.2.2.2.2.2.2.2) hx) (fun e s hq=>by
  cases e with
  | normal=>
    obtain⟨b0,b1,b2,b3,b4,b5,b6,b7,h1,h2,h3⟩:=hq;exact⟨(b0,b1,b2,b3,b4,b5,b6,b7),h1,h2,h3⟩
  | _=>exact hq)) (fun x=>hA (x.1) (x.2.1) (x.2.2.1) (x.2.2.2.1) (x.2.2.2.2.1) (x.2.2.2.2.2.1) (x.2.2.2.2.2.2.1) (x.2.2.2.2.2.2.2))
end
end Go.Eng
