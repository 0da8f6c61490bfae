import Derived.Test.YtfjncckelekpiaaGreatEng81
set_option linter.unusedVariables false
set_option linter.unusedSectionVars false
namespace Go.Eng
open Go
@[reducible] def b34(y:List jL)(x1:List gU)(x2:Int)(x3:Int)(x4:Int)(x5:List gM)(x6:List kK)(x7:List jZ)(x8:Int)(x9:Int)(f:List gN)(q:Int):LO:=.box [.L 6 (gAx y),.L 4 (kM x1),.I x2,.I x3,.I x4,.L 4 (jM x5),.L 7 (vV x6),.L 5 (uY x7),.I x8,.I x9,.L 5 (mD f),.I q]
@[reducible] def bCo(q:Int)(y:LB)(x2:LB)(x3:Int)(x4:Int)(x5:LB)(x6:List gF)(x7:List gF)(x8:List gN)(x9:List jN)(f:List qD):LO:=.box [.I q,.S y,.S x2,.I x3,.I x4,.S x5,.L 3 (jJ x6),.L 3 (jJ x7),.L 5 (mD x8),.L 11 (zK x9),.L 13 (vK f)]
@[reducible] def b33(f:List jL)(q:Int)(y:List gU)(x3:Bool):LO:=.box [.L 6 (gAx f),.I q,.L 4 (kM y),.B x3]
section
variable {P:Program}{A:Amb}{ops:Array Oper}{K:St→Prop}{Q:Exit→St→Prop}{rest:List Oper}{σ:St}{c:Code}
theorem hQ9 {α0 α1 α2 α3 α4 α5 α6 α7 α8 α9 α10:Type}(I:α0→α1→α2→α3→α4→α5→α6→α7→α8→α9→α10→St)(J:α0→α1→α2→α3→α4→α5→α6→α7→α8→α9→α10→Prop)(μ:α0→α1→α2→α3→α4→α5→α6→α7→α8→α9→α10→Nat)(x0:α0)(x1:α1)(x2:α2)(x3:α3)(x4:α4)(x5:α5)(x6:α6)(x7:α7)(x8:α8)(x9:α9)(y:α10)(h0:Le σ (I x0 x1 x2 x3 x4 x5 x6 x7 x8 x9 y))(hJ:J x0 x1 x2 x3 x4 x5 x6 x7 x8 x9 y)
  (round:∀a0 a1 a2 a3 a4 a5 a6 a7 a8 a9 f,J a0 a1 a2 a3 a4 a5 a6 a7 a8 a9 f→V P A c (I a0 a1 a2 a3 a4 a5 a6 a7 a8 a9 f) (thenS (fun s=>∃b0 b1 b2 b3 b4 b5 b6 b7 b8 b9 q,J b0 b1 b2 b3 b4 b5 b6 b7 b8 b9 q∧μ b0 b1 b2 b3 b4 b5 b6 b7 b8 b9 q < μ a0 a1 a2 a3 a4 a5 a6 a7 a8 a9 f∧Le s (I b0 b1 b2 b3 b4 b5 b6 b7 b8 b9 q)) Q)) (hA:∀a0 a1 a2 a3 a4 a5 a6 a7 a8 a9 f,A.L0.length≤(I a0 a1 a2 a3 a4 a5 a6 a7 a8 a9 f).L.length:=by intros;rw [gBp.h (A:=A)];exact Nat.le_of_ble_eq_true rfl):V P A (.loop c) σ Q:=
 gQg (α:=α0 × α1 × α2 × α3 × α4 × α5 × α6 × α7 × α8 × α9 × α10) (fun x=>I (x.1) (x.2.1) (x.2.2.1) (x.2.2.2.1) (x.2.2.2.2.1) (x.2.2.2.2.2.1) (x.2.2.2.2.2.2.1) (x.2.2.2.2.2.2.2.1) (x.2.2.2.2.2.2.2.2.1) (x.2.2.2.2.2.2.2.2.2.1) (x.2.2.2.2.2.2.2.2.2.2)) (fun x=>J (x.1) (x.2.1) (x.2.2.1) (x.2.2.2.1) (x.2.2.2.2.1) (x.2.2.2.2.2.1) (x.2.2.2.2.2.2.1) (x.2.2.2.2.2.2.2.1) (x.2.2.2.2.2.2.2.2.1) (x.2.2.2.2.2.2.2.2.2.1) (x.2.2.2.2.2.2.2.2.2.2)) (fun x=>μ (x.1) (x.2.1) (x.2.2.1) (x.2.2.2.1) (x.2.2.2.2.1) (x.2.2.2.2.2.1) (x.2.2.2.2.2.2.1) (x.2.2.2.2.2.2.2.1) (x.2.2.2.2.2.2.2.2.1) (x.2.2.2.2.2.2.2.2.2.1) (x.2.2.2.2.2.2.2.2.2.2)) (x0,x1,x2,x3,x4,x5,x6,x7,x8,x9,y) h0 hJ (fun x hx=>V.mono (round (x.1) (x.2.1) (x.2.2.1) (x.2.2.2.1) (x.2.2.2.2.1) (x.2.2.2.2.2.1) (x.2.2.2.2.2.2.1) (x.2.2.2.2.2.2.2.1) (x.2.2.2.2.2.2.2.2.1) (x.2.2.2.2.2.2.2.2.2.1) (x.2.2.2.2.2.2.2.2.2.2) hx) (fun e s hq=>by
  cases e with
  | normal=>
    obtain⟨b0,b1,b2,b3,b4,b5,b6,b7,b8,b9,q,h1,h2,h3⟩:=hq;exact⟨(b0,b1,b2,b3,b4,b5,b6,b7,b8,b9,q),h1,h2,h3⟩
  | _=>exact hq)) (fun x=>hA (x.1) (x.2.1) (x.2.2.1) (x.2.2.2.1) (x.2.2.2.2.1) (x.2.2.2.2.2.1) (x.2.2.2.2.2.2.1) (x.2.2.2.2.2.2.2.1) (x.2.2.2.2.2.2.2.2.1) (x.2.2.2.2.2.2.2.2.2.1) (x.2.2.2.2.2.2.2.2.2.2))
theorem hGy {α0 α1 α2 α3 α4 α5 α6 α7 α8 α9 α10 α11:Type}(I:α0→α1→α2→α3→α4→α5→α6→α7→α8→α9→α10→α11→St)(J:α0→α1→α2→α3→α4→α5→α6→α7→α8→α9→α10→α11→Prop)(μ:α0→α1→α2→α3→α4→α5→α6→α7→α8→α9→α10→α11→Nat)(x0:α0)(x1:α1)(x2:α2)(x3:α3)(x4:α4)(x5:α5)(x6:α6)(x7:α7)(x8:α8)(x9:α9)(ab:α10)(ac:α11)(h0:Le σ (I x0 x1 x2 x3 x4 x5 x6 x7 x8 x9 ab ac))(hJ:J x0 x1 x2 x3 x4 x5 x6 x7 x8 x9 ab ac)
  (round:∀a0 a1 a2 a3 a4 a5 a6 a7 a8 a9 f q,J a0 a1 a2 a3 a4 a5 a6 a7 a8 a9 f q→V P A c (I a0 a1 a2 a3 a4 a5 a6 a7 a8 a9 f q) (thenS (fun s=>∃b0 b1 b2 b3 b4 b5 b6 b7 b8 b9 y aa,J b0 b1 b2 b3 b4 b5 b6 b7 b8 b9 y aa∧μ b0 b1 b2 b3 b4 b5 b6 b7 b8 b9 y aa < μ a0 a1 a2 a3 a4 a5 a6 a7 a8 a9 f q∧Le s (I b0 b1 b2 b3 b4 b5 b6 b7 b8 b9 y aa)) Q)) (hA:∀a0 a1 a2 a3 a4 a5 a6 a7 a8 a9 f q,A.L0.length≤(I a0 a1 a2 a3 a4 a5 a6 a7 a8 a9 f q).L.length:=by intros;rw [gBp.h (A:=A)];exact Nat.le_of_ble_eq_true rfl):V P A (.loop c) σ Q:=
 gQg (α:=α0 × α1 × α2 × α3 × α4 × α5 × α6 × α7 × α8 × α9 × α10 × α11) (fun x=>I (x.1) (x.2.1) (x.2.2.1) (x.2.2.2.1) (x.2.2.2.2.1) (x.2.2.2.2.2.1) (x.2.2.2.2.2.2.1) (x.2.2.2.2.2.2.2.1) (x.2.2.2.2.2.2.2.2.1) (x.2.2.2.2.2.2.2.2.2.1) (x.2.2.2.2.2.2.2.2.2.2.1) (x.2.2.2.2.2.2.2.2.2.2.2)) (fun x=>J (x.1) (x.2.1) (x.2.2.1) (x.2.2.2.1) (x.2.2.2.2.1) (x.2.2.2.2.2.1) (x.2.2.2.2.2.2.1) (x.2.2.2.2.2.2.2.1) (x.2.2.2.2.2.2.2.2.1) (x.2.2.2.2.2.2.2.2.2.1) (x.2.2.2.2.2.2.2.2.2.2.1) (x.2.2.2.2.2.2.2.2.2.2.2)) (fun x=>μ (x.1) (x.2.1) (x.2.2.1) (x.2.2.2.1) (x.2.2.2.2.1) (x.2.2.2.2.2.1) (x.2.2.2.2.2.2.1) (x.2.2.2.2.2.2.2.1) (x.2.2.2.2.2.2.2.2.1) (x.2.2.2.2.2.2.2.2.2.1) (x.2.2.2.2.2.2.2.2.2.2.1) (x.2.2.2.2.2.2.2.2.2.2.2)) (x0,x1,x2,x3,x4,x5,x6,x7,x8,x9,ab,ac) h0 hJ (fun x hx=>V.mono (round (x.1) (x.2.1) (x.2.2.1) (x.2.2.2.1) (x.2.2.2.2.1) (x.2.2.2.2.2.1) (x.2.2.2.2.2.2.1) (x.2.2.2.2.2.2.2.1) (x.2.2.2.2.2.2.2.2.1) (x.2.2.2.2.2.2.2.2.2.1) (x.2.2.2.2.2.2.2.2.2.2.1) (x.2.2.2.2.2.2.2.2.2.2.2) hx) (fun e s hq=>by
  cases e with
  | normal=>
    obtain⟨b0,b1,b2,b3,b4,b5,b6,b7,b8,b9,y,aa,h1,h2,h3⟩:=hq;exact⟨(b0,b1,b2,b3,b4,b5,b6,b7,b8,b9,y,aa),h1,h2,h3⟩
  | _=>exact hq)) (fun x=>hA (x.1) (x.2.1) (x.2.2.1) (x.2.2.2.1) (x.2.2.2.2.1) (x.2.2.2.2.2.1) (x.2.2.2.2.2.2.1) (x.2.2.2.2.2.2.2.1) (x.2.2.2.2.2.2.2.2.1) (x.2.2.2.2.2.2.2.2.2.1) (x.2.2.2.2.2.2.2.2.2.2.1) (x.2.2.2.2.2.2.2.2.2.2.2))
end
end Go.Eng
set_option maxHeartbeats 4000000
set_option linter.unusedSimpArgs false
namespace Go.Proofs.YtfjncckelekpiaaGreat
open Go Go.Eng
attribute [local irreducible] V VO VQ VY Quiet QR gW pJ Rng vF uW uI
mutual
def tnd:gF→Nat
 | ⟨_,_,ts⟩=>1+gN5 ts
def gN5:List gF→Nat
 | []=>0
 | a::ts=>tnd a+gN5 ts
end
mutual
def tok:gF→Prop
 | ⟨_,_,ts⟩=>ts.length≤4294967296∧hDd ts
def hDd:List gF→Prop
 | []=>True
 | a::ts=>tok a∧hDd ts
end
def hIr(ts:List gF):Prop:=ts.length≤4294967296∧hDd ts
theorem gSh:∀{ts:List gF},hDd ts↔∀t∈ts,tok t
 | []=>by simp [hDd]
 | a::ts=>by simp [hDd,gSh (ts:=ts)]
theorem gQ5{x:gF}:∀{ts:List gF},x∈ts→tnd x≤gN5 ts
 | [],h=>by simp at h
 | a::ts,h=>by
   simp only [gN5];rcases List.mem_cons.1 h with rfl | h
   ·omega
   ·have:=gQ5 h
    omega
theorem gTj(t:gF):1≤tnd t:=by cases t;simp only [tnd];omega
def idT(t:gF):gF:=t
def hS4(t:List gF):List gF:=t
mutual
def jE8:gF→Bool
 | ⟨_,_,ts⟩=>decide (ts.length≤4294967296) && hOh ts
def hOh:List gF→Bool
 | []=>true
 | a::ts=>jE8 a && hOh ts
end
mutual
theorem hGz:∀(t:gF),jE8 t=true↔tok t
 | ⟨k,n,ts⟩=>by simp only [jE8,tok,Bool.and_eq_true,decide_eq_true_eq,gXh ts]
theorem gXh:∀(ts:List gF),hOh ts=true↔hDd ts
 | []=>by simp [hOh,hDd]
 | a::ts=>by simp only [hOh,hDd,Bool.and_eq_true,hGz a,gXh ts]
end
instance (t:gF):Decidable (tok t):=decidable_of_iff _ (hGz t)
instance (ts:List gF):Decidable (hDd ts):=decidable_of_iff _ (gXh ts)
instance (ts:List gF):Decidable (hIr ts):=inferInstanceAs (Decidable (_∧_))
def gNr(q:gF→Option (gF))(f:(List gF)→Option (List gF))(y:gF):Option (gF):=
bnd (f y.args) fun x1=>
(some (gF.mk y.kind y.name x1))
def gNs(f:gF→Option (gF)):Prop:=∀(q:gF){r:gF},f q=some r→pJ Tryz.prog 85 [.d (kT q)] [43] [kT r]
def gL6(f:(List gF)→Option (List gF)):Prop:=∀(q:List gF){r:List gF},f q=some r→pJ Tryz.prog 138 [.L 3 (jJ q)] [43] [.sl 3 (jJ r)]
theorem hEy{q}{f}(aa:gNs q)(y:gL6 f)(a0:gF){r:gF}(h:gNr q f a0=some r):pJ Tryz.prog 85 [.d (kT a0)] [43] [kT r]:=by
 obtain⟨ae,ag,ab⟩:=a0;unfold gNr at h;refine yB Tryz.func85 rfl (by kernel_rfl) rfl (by simp) fun A _=>?_;refine gCj ?_;refine yA (P:=Tryz.prog) Mix.h [(0,true),(1,true),(2,true),(3,true),(4,true),(5,true),(6,false),(7,true),(8,false)] (by kernel_rfl) ?_;refine goY ?_;obtain⟨x1,ad,h⟩:=gK h;refine hUc (y ab ad) ?_;refine goY ?_;refine gD5 ?_;refine goL ?_;refine jH ?_;obtain rfl:=Option.some.inj h;exact hCk
def yU(f:gF→Option (gF)):List gF→(List gF)→Option (List gF)
 | [],q=>(some q)
 | x6::xs,q=>bnd (f x6) fun y=>
gd (q.length+[y].length≤4294967296) (
yU f xs (q++[y]))
def gL7(f:gF→Option (gF))(q:(List gF)→Option (List gF))(y:List gF):Option (List gF):=
yU f y []
theorem hCz{f}{q}(y:gNs f)(ab:gL6 q)(a0:List gF){r:List gF}(h:gL7 f q a0=some r):pJ Tryz.prog 138 [.L 3 (jJ a0)] [43] [.sl 3 (jJ r)]:=by
 unfold gL7 at h;refine yB Tryz.func138 rfl (by kernel_rfl) rfl (by simp) fun A _=>?_;refine goL ?_;refine gFh ?_;refine goL ?_;refine noB ?_;refine gB0 0 (fun z4=>?_);refine kQ (fun(y3:Nat)(y1:List gF)(v2:Nat)=>⟨[(0,.L 3 (jJ a0)),(3,.sl 0 v2),(4,.N y3)],[.own 43 3 v2 (jJ y1)],Tryz.f138.ntmps⟩) (fun y3 y1 v2=>yU f (a0.drop y3) y1=some r) (fun y3 y1 v2=>a0.length - y3) 0 [] 0 eJ h ?_;rintro y3 y1 v2 h;refine goL ?_;refine kN (fun c5=>?_) (fun c5=>?_)
 ·have aa:=qB c5;obtain⟨x6,ap,ak⟩:=drop_at aa;rw [ak,yU.eq_2] at h;obtain⟨al,am,an⟩:=x6;refine noS ?_;refine kC (gP ?_);refine goL ?_;refine gX (gV y3 (gAw ap)) ?_;obtain⟨⟨ad,ae,ag⟩,aq,h⟩:=gK h;refine gO9 (y (gF.mk al am an) aq) ?_;refine gAz (gF.mk ad ae ag) ?_;obtain⟨g8,h⟩:=mI h;refine gDj g8 ?_;refine goL ?_;refine gX (jK y3 (by omega)) ?_;exact⟨(y3+1),(y1++[(gF.mk ad ae ag)]),(v2+1),h,by omega,eJ⟩
 ·have aa:=qC c5;rw [gT aa,yU.eq_1] at h;refine goX ?_;refine jH ?_;obtain rfl:=Option.some.inj h;exact hCk
mutual
def gIc:Nat→gF→Option (gF)
 | 0,_=>none
 | n+1,f=>gNr (gIc n) (gF8 n) f
def gF8:Nat→(List gF)→Option (List gF)
 | 0,_=>none
 | n+1,f=>gL7 (gIc n) (gF8 n) f
end
theorem gTu:∀(n:Nat),gNs (gIc n)∧gL6 (gF8 n):=by
 intro n
 induction n with
 | zero=>exact⟨(by intro f r h;cases h),(by intro f r h;cases h)⟩
 | succ n ih=>
   obtain⟨ih0,ih1⟩:=ih;refine⟨(fun f r h=>hEy ih0 ih1 f h),(fun f r h=>hCz ih0 ih1 f h)⟩
theorem hEz:∀(n:Nat),gNs (gIc n):=fun n=>(gTu n).1
theorem hC1:∀(n:Nat),gL6 (gF8 n):=fun n=>(gTu n).2
theorem gN0{rec:gF→Option gF}:∀(xs:List gF)(y:List gF),(∀x∈xs,rec x=some x)→y.length+xs.length≤4294967296→yU rec xs y=some (y++xs)
 | [],y,_,h=>by simp [yU]
 | x::xs,y,f,q=>by
   simp only [yU];rw [f x (by simp)];simp only [bnd,List.length_cons,List.length_nil] at q ⊢;rw [wI (by omega),gN0 xs _ (fun z hz=>f z (by simp [hz])) (by simp;omega)];simp
theorem hAq:∀(n:Nat),(∀t:gF,2*tnd t≤n→tok t→gIc n t=some (idT t))∧(∀ts:List gF,2*gN5 ts+1≤n→hIr ts→gF8 n ts=some (hS4 ts))
 | 0=>⟨fun t h=>by have:=gTj t;omega,fun ts h=>by omega⟩
 | n+1=>by
   obtain⟨f,q⟩:=hAq n;refine⟨fun t hn ht=>?_,fun ts hn ht=>?_⟩
   ·obtain⟨k,s,ts⟩:=t;simp only [tnd] at hn;simp only [gIc,gNr];rw [q ts (by omega) (by simpa only [tok,hIr] using ht)];rfl
   ·simp only [gF8,gL7];rw [gN0 ts _ (fun x hx=>f x (by have:=gQ5 hx;omega) (gSh.1 ht.2 x hx)) (by simpa using ht.1)];simp [hS4]
theorem mR(f:gF)(h:tok f):pJ Tryz.prog 85 [.d (kT f)] [43] [kT (idT f)]:=hEz (2*tnd f) f ((hAq _).1 _ (Nat.le_refl _) h)
theorem gPh(f:List gF)(h:hIr f):pJ Tryz.prog 138 [.L 3 (jJ f)] [43] [.sl 3 (jJ (hS4 f))]:=hC1 (2*gN5 f+1) f ((hAq _).2 _ (Nat.le_refl _) h)
def gL8(q:gF→gF→Option (Bool))(f:(List gF)→(List gF)→Option (Bool))(y:gF)(a1:gF):Option (Bool):=
bnd (cnd (y.kind==a1.kind) (cnd (y.name==a1.name) (bnd (f y.args a1.args) fun x4=>
some x4) (some false)) (some false)) fun b1=>
(some b1)
def gL9(f:gF→gF→Option (Bool)):Prop:=∀(q:gF)(y:gF){r:Bool},f q y=some r→gW Tryz.prog 131 [.d (kT q),.d (kT y)] [.b r]
def hE3(f:(List gF)→(List gF)→Option (Bool)):Prop:=∀(q:List gF)(y:List gF){r:Bool},f q y=some r→gW Tryz.prog 188 [.L 3 (jJ q),.L 3 (jJ y)] [.b r]
theorem hC3{f}{q}(aa:gL9 f)(y:hE3 q)(a0:gF)(a1:gF){r:Bool}(h:gL8 f q a0 a1=some r):gW Tryz.prog 131 [.d (kT a0),.d (kT a1)] [.b r]:=by
 obtain⟨ab,ac,ad⟩:=a0;obtain⟨ae,ag,ah⟩:=a1;unfold gL8 at h;refine SpI Tryz.func131 fun A _=>?_;refine goL ?_;obtain⟨b1,hb1,h⟩:=gK h;refine kG ⟨[(4,.B b1)],[bTy ab ac ad,bTy ae ag ah],Tryz.f131.ntmps⟩ ?_ ?_
 ·refine gqA 10 hb1 (fun c2 hb1=>?_);refine gqA 17 hb1 (fun c3 hb1=>?_);obtain⟨x4,aj,hb1⟩:=gK hb1;refine gX (gD (y _ _ aj)) ?_;cases hb1;exact eJ
 exact goR h
def gId(f:gF→gF→Option (Bool))(a1:List gF):List gF→Nat→Option (Bool)
 | [],q=>(some true)
 | y::xs,q=>bnd (at? a1 (q:Int)) fun x6=>
bnd (f y x6) fun x7=>
(cnd (!x7) (some false) (
gId f a1 xs (q+1)))
def hAu(f:gF→gF→Option (Bool))(q:(List gF)→(List gF)→Option (Bool))(y:List gF)(a1:List gF):Option (Bool):=
(cnd ((y.length:Int) !=(a1.length:Int)) (some false) (
gId f a1 y 0))
theorem hU5{f}{y}(q:gL9 f)(ac:hE3 y)(a0:List gF)(a1:List gF){r:Bool}(h:hAu f y a0 a1=some r):gW Tryz.prog 188 [.L 3 (jJ a0),.L 3 (jJ a1)] [.b r]:=by
 unfold hAu at h;refine SpI Tryz.func188 fun A _=>?_;refine goC h ?_ ?_<;>intro c1 h
 ·exact goR h
 ·refine goS ?_;refine noB ?_;refine gB0 0 (fun z3=>?_);refine kZ (fun(y2:Nat)=>⟨[(0,.L 3 (jJ a0)),(1,.L 3 (jJ a1)),(5,.N y2)],[],Tryz.f188.ntmps⟩) (fun y2=>gId f a1 (a0.drop y2) y2=some r) (fun y2=>a0.length - y2) 0 eJ h ?_;rintro y2 h;refine goL ?_;refine kN (fun c4=>?_) (fun c4=>?_)
  ·have aa:=qB c4;obtain⟨x5,ai,ae⟩:=drop_at aa;rw [ae,gId.eq_2] at h;obtain⟨ak,al,am⟩:=x5;refine noS ?_;refine kC (gP ?_);refine goL ?_;refine wC (gV y2 (gAw ai)) ?_;refine goL ?_;obtain⟨x6,ag,h⟩:=gK h;rw [gBb] at ag;obtain⟨an,ao,ap⟩:=x6;refine wC (gV y2 (gAw ag)) ?_;refine goL ?_;obtain⟨x7,aj,h⟩:=gK h;refine wC (gD (q _ _ aj)) ?_;refine goC h ?_ ?_<;>intro c8 h
   ·exact goR h
   ·refine goS ?_;refine gX (jK y2 (by omega)) ?_;exact⟨(y2+1),h,by omega,eJ⟩
  ·have aa:=qC c4;rw [gT aa,gId.eq_1] at h;refine goX ?_;refine jH ?_;cases h;exact mM
mutual
def gF9:Nat→gF→gF→Option (Bool)
 | 0,_,_=>none
 | n+1,f,q=>gL8 (gF9 n) (gXi n) f q
def gXi:Nat→(List gF)→(List gF)→Option (Bool)
 | 0,_,_=>none
 | n+1,f,q=>hAu (gF9 n) (gXi n) f q
end
theorem hAv:∀(n:Nat),gL9 (gF9 n)∧hE3 (gXi n):=by
 intro n
 induction n with
 | zero=>exact⟨(by intro f q r h;cases h),(by intro f q r h;cases h)⟩
 | succ n ih=>
   obtain⟨ih0,ih1⟩:=ih;refine⟨(fun f q r h=>hC3 ih0 ih1 f q h),(fun f q r h=>hU5 ih0 ih1 f q h)⟩
theorem hC4:∀(n:Nat),gL9 (gF9 n):=fun n=>(hAv n).1
mutual
def teq:gF→gF→Bool
 | ⟨k,n,ts⟩,⟨k',n',ts'⟩=>(k==k') && ((n==n') && hS6 ts ts')
def hS6:List gF→List gF→Bool
 | [],[]=>true
 | a::ts,b::ts'=>teq a b && hS6 ts ts'
 | _,_=>false
end
theorem hG5:∀{a b:List gF},a.length≠b.length→hS6 a b=false
 | [],[],h=>by simp at h
 | a::ts,b::ts',h=>by
   simp only [hS6];rw [hG5 (a:=ts) (b:=ts') (by simpa using h),Bool.and_false]
 | [],_::_,_=>rfl
 | _::_,[],_=>rfl
theorem gXj{p:gF→gF→Option Bool}(b:List gF):∀(xs:List gF)(k:Nat),(∀x∈xs,∀y,p x y=some (teq x y))→b.length=k+xs.length→gId p b xs k=some (hS6 xs (b.drop k))
 | [],k,_,h=>by
   rw [List.drop_eq_nil_of_le (by simp at h;omega)];rfl
 | x::xs,k,hp,h=>by
   simp only [List.length_cons] at h;have hk:k < b.length:=by omega
   simp only [gId,gBb];rw [List.getElem?_eq_getElem hk,List.drop_eq_getElem_cons hk];simp only [bnd,hp x (by simp),hS6];cases hq:teq x b[k] with
   | true=>simp only [Bool.not_true,gZ,Bool.true_and];exact gXj b xs (k+1) (fun z hz=>hp z (by simp [hz])) (by omega)
   | false=>rfl
theorem hC5:∀(n:Nat),(∀a b:gF,2*tnd a≤n→gF9 n a b=some (teq a b))∧(∀a b:List gF,2*gN5 a+1≤n→gXi n a b=some (hS6 a b))
 | 0=>⟨fun t _ h=>by have:=gTj t;omega,fun ts _ h=>by omega⟩
 | n+1=>by
   obtain⟨f,q⟩:=hC5 n;refine⟨fun a b hn=>?_,fun a b hn=>?_⟩
   ·obtain⟨k,s,ts⟩:=a;obtain⟨k',s',ts'⟩:=b;simp only [tnd] at hn;simp only [gF9,gL8,teq];rw [q ts ts' (by omega)];cases f:k==k'<;>cases q:s==s'<;>cases hS6 ts ts'<;>rfl
   ·simp only [gXi,hAu];by_cases h:a.length=b.length
    ·have:((a.length:Int) !=(b.length:Int))=false:=by simp [h]
     rw [this,gZ,gXj b a 0 (fun x hx y=>f x y (by have:=gQ5 hx;omega)) (by omega)];rfl
    ·have:((a.length:Int) !=(b.length:Int))=true:=by simp;omega
     rw [this,kJ,hG5 h]
theorem gEd(f:gF)(q:gF):gW Tryz.prog 131 [.d (kT f),.d (kT q)] [.b (teq f q)]:=hC4 (2*tnd f) f q ((hC5 _).1 _ _ (Nat.le_refl _))
mutual
def tsz:gF→Int
 | ⟨_,_,ts⟩=>hZ0 ts 1
def hZ0:List gF→Int→Int
 | [],y=>y
 | a::ts,y=>hZ0 ts (IntKind.i64.wrap (y+tsz a))
end
def gA9(f:gF→Option (Int)):List gF→Int→Option (Int)
 | [],q=>(some q)
 | y::xs,q=>bnd (f y) fun x6=>
gA9 f xs (IntKind.i64.wrap (q+x6))
def gNt(f:gF→Option (Int))(q:gF):Option (Int):=
gA9 f q.args 1
theorem hE4{f:gF→Option (Int)}(q:∀(x0:gF){r:Int},f x0=some r→gW Tryz.prog 133 [.d (kT x0)] [.i .i64 r])(a0:gF){r:Int}(h:gNt f a0=some r):gW Tryz.prog 133 [.d (kT a0)] [.i .i64 r]:=by
 obtain⟨ad,ae,aa⟩:=a0;unfold gNt at h;refine SpI Tryz.func133 fun A _=>?_;refine goL ?_;refine noB ?_;refine pG 0 2 (fun z3=>?_);refine gAg (fun(y2:Nat)(y1:Int)=>⟨[(1,.ptr 0 0),(3,.I y1),(4,.N y2)],[bTy ad ae aa],Tryz.f133.ntmps⟩) (fun y2 y1=>gA9 f (aa.drop y2) y1=some r) (fun y2 y1=>aa.length - y2) 0 1 eJ h ?_;rintro y2 y1 h;refine goL ?_;refine kN (fun c4=>?_) (fun c4=>?_)
 ·have y:=qB c4;obtain⟨x5,aj,ag⟩:=drop_at y;rw [ag,gA9.eq_2] at h;obtain⟨am,an,ao⟩:=x5;refine noS ?_;refine kC (gP ?_);refine goL ?_;refine gX (gV y2 (gAw aj)) ?_;obtain⟨x6,ak,h⟩:=gK h;refine pX (gD (q _ ak)) ?_;refine gX (pR) ?_;refine gX (jK y2 (by omega)) ?_;exact⟨(y2+1),(IntKind.i64.wrap (y1+x6)),h,by omega,eJ⟩
 ·have y:=qC c4;rw [gT y,gA9.eq_1] at h;refine goX ?_;refine jH ?_;cases h;exact mM
def gNu:Nat→gF→Option (Int)
 | 0,_=>none
 | n+1,f=>gNt (gNu n) f
theorem hE5:∀(n:Nat)(f:gF){r:Int},gNu n f=some r→gW Tryz.prog 133 [.d (kT f)] [.i .i64 r]:=by
 intro n
 induction n with
 | zero=>intro f r h;cases h
 | succ n ih=>intro f r h;exact hE4 ih f h
theorem gPi{rec:gF→Option Int}:∀(xs:List gF)(y:Int),(∀x∈xs,rec x=some (tsz x))→gA9 rec xs y=some (hZ0 xs y)
 | [],y,_=>rfl
 | x::xs,y,h=>by
   simp only [gA9,h x (by simp),bnd,hZ0];exact gPi xs _ (fun z hz=>h z (by simp [hz]))
theorem gTv:∀(n:Nat)(t:gF),tnd t≤n→gNu n t=some (tsz t)
 | 0,t,h=>by have:=gTj t;omega
 | n+1,⟨k,s,ts⟩,h=>by
   simp only [tnd] at h;simp only [gNu,gNt,tsz];exact gPi ts 1 (fun x hx=>gTv n x (by have:=gQ5 hx;omega))
theorem gCi(f:gF):gW Tryz.prog 133 [.d (kT f)] [.i .i64 (tsz f)]:=hE5 (tnd f) f (gTv _ _ (Nat.le_refl _))
def gEe(a1:LB):List gM→Option (gF × Bool)
 | []=>(some ((gF.mk 0 [] []),false))
 | f::xs=>(cnd (f.var_==a1) (
gd (tok f.type_) (lt_ (idT f.type_) fun q=>
some (q,true))) (
gEe a1 xs ))
def gLk(f:List gM)(a1:LB):Option (gF × Bool):=
gEe a1 f
theorem gXk(a0:List gM)(a1:LB){r:gF × Bool}(h:gLk a0 a1=some r):pJ Tryz.prog 189 [.L 4 (jM a0),.S a1] [43] [kT r.1,.b r.2]:=by
 unfold gLk at h;refine yB Tryz.func189 rfl (by kernel_rfl) rfl (by simp) fun A _=>?_;refine goL ?_;refine noB ?_;refine gB0 0 (fun z2=>?_);refine kZ (fun(q:Nat)=>⟨[(0,.L 4 (jM a0)),(1,.S a1),(4,.ptr 0 0),(6,.N q)],[.box [.I 0,.S [],.nilsl]],Tryz.f189.ntmps⟩) (fun q=>gEe a1 (a0.drop q)  =some r) (fun q=>a0.length - q) 0 eJ h ?_;rintro q h;refine goL ?_;refine kN (fun c3=>?_) (fun c3=>?_)
 ·have f:=qB c3;obtain⟨x4,ad,ae⟩:=drop_at f;rw [ae,gEe.eq_2] at h;obtain⟨aj,⟨y,aa,ab⟩⟩:=x4;refine noS ?_;refine kC (gP ?_);refine goL ?_;refine gX (gV q (gL1 ad)) ?_;refine kN (fun c5=>?_) (fun c5=>?_)
  ·replace h:=jU c5 h;refine goL ?_;refine gX (gV q (gL1 ad)) ?_;obtain⟨g6,h⟩:=mI h;obtain⟨⟨ak,al,am⟩,ai,h⟩:=pI h;have sx7:=mR (gF.mk y aa ab) g6;rw [ai] at sx7;refine gO9 (sx7) ?_;refine goL ?_;refine jH ?_;obtain rfl:=Option.some.inj h;exact hCk
  ·replace h:=jV c5 h;refine goS ?_;refine gX (jK q (by omega)) ?_;exact⟨(q+1),h,by omega,eJ⟩
 ·have f:=qC c3;rw [gT f,gEe.eq_1] at h;refine goX ?_;refine gC1 (jI TBd.h TZ.h rfl (by repeat constructor)) ?_;refine hT7 43 3 0 2 rfl rfl (by repeat constructor) (by repeat constructor) (by repeat constructor) (by repeat constructor) ?_;refine jH ?_;obtain rfl:=Option.some.inj h;exact hCk
def gU2(q:(List gM)→gF→Option (gF))(f:(List gM)→(List gF)→Option (List gF))(y:List gM)(a1:gF):Option (gF):=
(cnd (a1.kind==1) (
bnd (gLk y a1.name) fun x2=>
(cnd x2.2 (some x2.1) (
bnd (f y a1.args) fun x4=>
some (gF.mk a1.kind a1.name x4)))) (
bnd (f y a1.args) fun x5=>
some (gF.mk a1.kind a1.name x5)))
def gU3(f:(List gM)→gF→Option (gF)):Prop:=∀(q:List gM)(y:gF){r:gF},f q y=some r→pJ Tryz.prog 134 [.L 4 (jM q),.d (kT y)] [43] [kT r]
def gNv(f:(List gM)→(List gF)→Option (List gF)):Prop:=∀(q:List gM)(y:List gF){r:List gF},f q y=some r→pJ Tryz.prog 165 [.L 4 (jM q),.L 3 (jJ y)] [43] [.sl 3 (jJ r)]
theorem hRa{y}{q}(aa:gU3 y)(f:gNv q)(a0:List gM)(a1:gF){r:gF}(h:gU2 y q a0 a1=some r):pJ Tryz.prog 134 [.L 4 (jM a0),.d (kT a1)] [43] [kT r]:=by
 obtain⟨al,ad,ab⟩:=a1;unfold gU2 at h;refine yB Tryz.func134 rfl (by kernel_rfl) rfl (by simp) fun A _=>?_;refine goC h ?_ ?_<;>intro c1 h
 ·refine goL ?_;obtain⟨⟨⟨ae,ag,ah⟩,am⟩,ai,h⟩:=gK h;refine gO9 (gXk a0 ad ai) ?_;refine goC h ?_ ?_<;>intro c3 h
  ·refine goL ?_;refine jH ?_;obtain rfl:=Option.some.inj h;exact hCk
  ·refine noS ?_;refine yA (P:=Tryz.prog) Mix.h [(0,true),(1,true),(2,true),(3,true),(4,true),(5,true),(6,true),(7,false),(8,true),(9,false)] (by kernel_rfl) ?_;refine goY ?_;obtain⟨x4,aj,h⟩:=gK h;refine hUc (f a0 ab aj) ?_;refine goY ?_;refine gD5 ?_;refine goL ?_;refine jH ?_;obtain rfl:=Option.some.inj h;exact hCk
 ·refine noS ?_;refine yA (P:=Tryz.prog) Mix.h [(0,true),(1,true),(2,true),(3,true),(4,true),(5,true),(6,true),(7,false),(8,true),(9,false)] (by kernel_rfl) ?_;refine goY ?_;obtain⟨x5,ak,h⟩:=gK h;refine hUc (f a0 ab ak) ?_;refine goY ?_;refine gD5 ?_;refine goL ?_;refine jH ?_;obtain rfl:=Option.some.inj h;exact hCk
def zT(f:(List gM)→gF→Option (gF))(y:List gM):List gF→(List gF)→Option (List gF)
 | [],q=>(some q)
 | x6::xs,q=>bnd (f y x6) fun x7=>
gd (q.length+[x7].length≤4294967296) (
zT f y xs (q++[x7]))
def gNw(f:(List gM)→gF→Option (gF))(q:(List gM)→(List gF)→Option (List gF))(y:List gM)(a1:List gF):Option (List gF):=
zT f y a1 []
theorem hE6{f}{q}(y:gU3 f)(ab:gNv q)(a0:List gM)(a1:List gF){r:List gF}(h:gNw f q a0 a1=some r):pJ Tryz.prog 165 [.L 4 (jM a0),.L 3 (jJ a1)] [43] [.sl 3 (jJ r)]:=by
 unfold gNw at h;refine yB Tryz.func165 rfl (by kernel_rfl) rfl (by simp) fun A _=>?_;refine goL ?_;refine gFh ?_;refine goL ?_;refine noB ?_;refine gB0 1 (fun z4=>?_);refine kQ (fun(y3:Nat)(y1:List gF)(v2:Nat)=>⟨[(0,.L 4 (jM a0)),(1,.L 3 (jJ a1)),(5,.sl 0 v2),(6,.N y3)],[.own 43 3 v2 (jJ y1)],Tryz.f165.ntmps⟩) (fun y3 y1 v2=>zT f a0 (a1.drop y3) y1=some r) (fun y3 y1 v2=>a1.length - y3) 0 [] 0 eJ h ?_;rintro y3 y1 v2 h;refine goL ?_;refine kN (fun c5=>?_) (fun c5=>?_)
 ·have aa:=qB c5;obtain⟨x6,ap,ak⟩:=drop_at aa;rw [ak,zT.eq_2] at h;obtain⟨al,am,an⟩:=x6;refine noS ?_;refine kC (gP ?_);refine goL ?_;refine gX (gV y3 (gAw ap)) ?_;obtain⟨⟨ad,ae,ag⟩,aq,h⟩:=gK h;refine gO9 (y a0 (gF.mk al am an) aq) ?_;refine gAz (gF.mk ad ae ag) ?_;obtain⟨g8,h⟩:=mI h;refine gDj g8 ?_;refine goL ?_;refine gX (jK y3 (by omega)) ?_;exact⟨(y3+1),(y1++[(gF.mk ad ae ag)]),(v2+1),h,by omega,eJ⟩
 ·have aa:=qC c5;rw [gT aa,zT.eq_1] at h;refine goX ?_;refine jH ?_;obtain rfl:=Option.some.inj h;exact hCk
mutual
def gP5:Nat→(List gM)→gF→Option (gF)
 | 0,_,_=>none
 | n+1,f,q=>gU2 (gP5 n) (gIe n) f q
def gIe:Nat→(List gM)→(List gF)→Option (List gF)
 | 0,_,_=>none
 | n+1,f,q=>gNw (gP5 n) (gIe n) f q
end
theorem hC6:∀(n:Nat),gU3 (gP5 n)∧gNv (gIe n):=by
 intro n
 induction n with
 | zero=>exact⟨(by intro f q r h;cases h),(by intro f q r h;cases h)⟩
 | succ n ih=>
   obtain⟨ih0,ih1⟩:=ih;refine⟨(fun f q r h=>hRa ih0 ih1 f q h),(fun f q r h=>hE6 ih0 ih1 f q h)⟩
theorem hRc:∀(n:Nat),gU3 (gP5 n):=fun n=>(hC6 n).1
theorem hE7:∀(n:Nat),gNv (gIe n):=fun n=>(hC6 n).2
def lkp(v:LB):List gM→gF × Bool
 | []=>(⟨0,[],[]⟩,false)
 | b::l=>cnd (b.var_==v) (b.type_,true) (lkp v l)
def bok(l:List gM):Prop:=∀b∈l,tok b.type_
instance (l:List gM):Decidable (bok l):=inferInstanceAs (Decidable (∀b∈l,tok b.type_))
theorem hOi(k:Int)(n:LB):tok ⟨k,n,[]⟩:=by simp [tok,hDd]
theorem gXl{v:LB}:∀{l:List gM},(lkp v l).2=true→∃b∈l,b.var_=v∧(lkp v l).1=b.type_
 | [],h=>by cases h
 | b::l,h=>by
   simp only [lkp] at h ⊢;cases hb:b.var_==v with
   | true=>exact⟨b,by simp,by simpa using hb,rfl⟩
   | false=>
     rw [hb] at h;obtain⟨c,f,q,y⟩:=gXl (l:=l) h;exact⟨c,by simp [f],q,y⟩
theorem hOj{v:LB}:∀{l:List gM},(lkp v l).2=false→(lkp v l).1=⟨0,[],[]⟩
 | [],h=>rfl
 | b::l,h=>by
   simp only [lkp] at h ⊢;cases hb:b.var_==v with
   | true=>rw [hb] at h;cases h
   | false=>rw [hb] at h;exact hOj (l:=l) h
theorem hU6{v:LB}{l:List gM}(h:bok l):tok (lkp v l).1:=by
 cases hb:(lkp v l).2 with
 | true=>
   obtain⟨b,f,_,q⟩:=gXl hb;rw [q];exact h b f
 | false=>rw [hOj hb];exact hOi _ _
mutual
def apT(l:List gM):gF→gF
 | ⟨k,n,ts⟩=>cnd (k==1) (cnd (lkp n l).2 (lkp n l).1 ⟨k,n,gT7 l ts⟩) ⟨k,n,gT7 l ts⟩
def gT7(l:List gM):List gF→List gF
 | []=>[]
 | a::ts=>apT l a::gT7 l ts
end
theorem hAw(l:List gM):∀ts:List gF,gT7 l ts=ts.map (apT l)
 | []=>rfl
 | a::ts=>by simp only [gT7,List.map_cons,hAw l ts]
theorem hRd(l:List gM)(ts:List gF):(gT7 l ts).length=ts.length:=by rw [hAw,List.length_map]
theorem gNx(v:LB):∀(l:List gM),bok l→gEe v l=some (lkp v l)
 | [],_=>rfl
 | b::l,h=>by
   simp only [gEe,lkp];rw [wI (h b (by simp)),gNx v l (fun c hc=>h c (by simp [hc]))];cases b.var_==v<;>rfl
theorem gPj{rec:List gM→gF→Option gF}(l:List gM)(f:gF→gF):∀(xs:List gF)(y:List gF),(∀x∈xs,rec l x=some (f x))→y.length+xs.length≤4294967296→zT rec l xs y=some (y++xs.map f)
 | [],y,_,h=>by simp [zT]
 | x::xs,y,q,h2=>by
   simp only [zT];rw [q x (by simp)];simp only [bnd,List.length_cons,List.length_nil] at h2 ⊢;rw [wI (by omega),gPj l f xs _ (fun z hz=>q z (by simp [hz])) (by simp;omega)];simp
theorem gXm:∀(n:Nat),(∀(l:List gM)(t:gF),bok l→tok t→2*tnd t≤n→gP5 n l t=some (apT l t))∧(∀(l:List gM)(ts:List gF),bok l→hIr ts→2*gN5 ts+1≤n→gIe n l ts=some (gT7 l ts))
 | 0=>⟨fun _ t _ _ h=>by have:=gTj t;omega,fun _ ts _ _ h=>by omega⟩
 | n+1=>by
   obtain⟨f,q⟩:=gXm n;refine⟨fun l t hl ht hn=>?_,fun l ts hl ht hn=>?_⟩
   ·obtain⟨k,s,ts⟩:=t;simp only [tnd] at hn;simp only [gP5,gU2,gLk,apT];rw [q l ts hl (by simpa only [tok,hIr] using ht) (by omega),gNx s l hl];simp only [bnd];cases k==1<;>cases (lkp s l).2<;>rfl
   ·simp only [gIe,gNw];rw [gPj l (apT l) ts _ (fun x hx=>f l x hl (gSh.1 ht.2 x hx) (by have:=gQ5 hx;omega)) (by simpa using ht.1)];simp [hAw]
mutual
theorem hE8{l:List gM}(hl:bok l):∀(t:gF),tok t→tok (apT l t)
 | ⟨k,n,ts⟩,h=>by
   simp only [tok] at h;have q:=hG6 hl ts h.2;have f:tok ⟨k,n,gT7 l ts⟩:=by simp only [tok,hRd];exact⟨h.1,q⟩
   simp only [apT];cases k==1 with
   | false=>exact f
   | true=>
     simp only [kJ];cases (lkp n l).2 with
     | false=>exact f
     | true=>exact hU6 hl
theorem hG6{l:List gM}(hl:bok l):∀(ts:List gF),hDd ts→hDd (gT7 l ts)
 | [],_=>by simp [gT7,hDd]
 | a::ts,h=>by
   simp only [hDd] at h;simp only [gT7,hDd];exact⟨hE8 hl a h.1,hG6 hl ts h.2⟩
end
def hZ4(M:Nat)(l:List gM):Prop:=1≤M∧∀b∈l,tnd b.type_≤M
theorem hU7{M:Nat}{v:LB}{l:List gM}(h:hZ4 M l):tnd (lkp v l).1≤M:=by
 cases hb:(lkp v l).2 with
 | true=>
   obtain⟨b,f,_,q⟩:=gXl hb;rw [q];exact h.2 b f
 | false=>rw [hOj hb];simp only [tnd,gN5];exact h.1
mutual
theorem hOk{M:Nat}{l:List gM}(hl:hZ4 M l):∀(t:gF),tnd (apT l t)≤M*tnd t
 | ⟨k,n,ts⟩=>by
   have q:=hG7 hl ts;have h0:=hl.1;have f:tnd ⟨k,n,gT7 l ts⟩≤M*(1+gN5 ts):=by
    simp only [tnd,Nat.mul_add];omega
   have y:tnd (lkp n l).1≤M*(1+gN5 ts):=by
    have:=hU7 (v:=n) hl
    rw [Nat.mul_add];omega
   simp only [apT];cases k==1 with
   | false=>exact f
   | true=>
     simp only [kJ];cases (lkp n l).2 with
     | false=>exact f
     | true=>exact y
theorem hG7{M:Nat}{l:List gM}(hl:hZ4 M l):∀(ts:List gF),gN5 (gT7 l ts)≤M*gN5 ts
 | []=>by simp [gT7,gN5]
 | a::ts=>by
   have q:=hOk hl a;have f:=hG7 hl ts;simp only [gT7,gN5,Nat.mul_add];omega
end
theorem gDi(q:List gM)(f:gF)(h:bok q∧tok f):pJ Tryz.prog 134 [.L 4 (jM q),.d (kT f)] [43] [kT (apT q f)]:=hRc (2*tnd f) q f ((gXm _).1 _ _ h.1 h.2 (Nat.le_refl _))
theorem gQ6(q:List gM)(f:List gF)(h:bok q∧hIr f):pJ Tryz.prog 165 [.L 4 (jM q),.L 3 (jJ f)] [43] [.sl 3 (jJ (gT7 q f))]:=hE7 (2*gN5 f+1) q f ((gXm _).2 _ _ h.1 h.2 (Nat.le_refl _))
def gU4(q:gF→gF→(List gM)→Option (Bool × List gM))(f:(List gF)→(List gF)→(List gM)→Option (Bool × List gM))(p:gF)(t:gF)(y:List gM):Option (Bool × List gM):=
(cnd (p.kind==1) (
bnd (gLk y p.name) fun x2=>
(cnd x2.2 (some ((teq x2.1 t),y)) (
gd (tok t) (lt_ (idT t) fun x6=>
gd (y.length+[(gM.mk p.name x6)].length≤4294967296) (some (true,(y++[(gM.mk p.name x6)]))))))) (
lt_ (cnd (p.kind != t.kind) (true) (cnd (!(p.name==t.name)) (true) ((p.args.length:Int) !=(t.args.length:Int)))) fun b8=>
(cnd b8 (some (false,[])) (
bnd (f p.args t.args y) fun aa=>
cnd aa.1 (some (true,aa.2)) (some (false,[]))))))
def hAy(f:gF→gF→(List gM)→Option (Bool × List gM)):Prop:=∀(q:gF)(y:gF)(x2:List gM)(w0:Nat){r:Bool × List gM},f q y x2=some r→Go.Eng.Spec Tryz.prog 272 [.d (kT q),.d (kT y),.sl 0 w0] [.arr 253 4 w0 (jM x2)] (fun sv Lo=>∃(u'0 v'0:Nat)(j'0:List gM),(r.1=true∧sv=.tup [.sl 0 v'0,.B true]∧Lo=[.arr 253 4 v'0 (jM r.2)])∨(r.1=false∧sv=.tup [.sl 0 u'0,.B false]∧Lo=[.arr 253 4 v'0 (jM j'0)]))
def hAz(f:(List gF)→(List gF)→(List gM)→Option (Bool × List gM)):Prop:=∀(q:List gF)(y:List gF)(x2:List gM)(w0:Nat){r:Bool × List gM},f q y x2=some r→Go.Eng.Spec Tryz.prog 243 [.L 3 (jJ q),.L 3 (jJ y),.sl 0 w0] [.arr 253 4 w0 (jM x2)] (fun sv Lo=>∃(u'0 v'0:Nat)(j'0:List gM),(r.1=true∧sv=.tup [.sl 0 v'0,.B true]∧Lo=[.arr 253 4 v'0 (jM r.2)])∨(r.1=false∧sv=.tup [.sl 0 u'0,.B false]∧Lo=[.arr 253 4 v'0 (jM j'0)]))
theorem hRf{f}{ab}(ak:hAy f)(ae:hAz ab)(p:gF)(t:gF)(l0:List gM)(v0:Nat){r:Bool × List gM}(h:gU4 f ab p t l0=some r):Go.Eng.Spec Tryz.prog 272 [.d (kT p),.d (kT t),.sl 0 v0] [.arr 253 4 v0 (jM l0)] (fun sv Lo=>∃(u'0 v'0:Nat)(j'0:List gM),(r.1=true∧sv=.tup [.sl 0 v'0,.B true]∧Lo=[.arr 253 4 v'0 (jM r.2)])∨(r.1=false∧sv=.tup [.sl 0 u'0,.B false]∧Lo=[.arr 253 4 v'0 (jM j'0)])):=by
 obtain⟨an,aj,al⟩:=p;obtain⟨ag,ah,ad⟩:=t;unfold gU4 at h;refine pK 1 Tryz.func272 rfl (by kernel_rfl) rfl rfl fun A _=>?_;refine goC h ?_ ?_<;>intro c1 h
 ·refine goL ?_;obtain⟨⟨⟨q,y,aa⟩,a6⟩,a2,h⟩:=gK h;refine gO9 (gXk l0 aj a2) ?_;refine goC h ?_ ?_<;>intro c3 h
  ·refine goL ?_;refine gC1 (gUn (gEd (gF.mk q y aa) (gF.mk ag ah ad))) ?_;refine jH ?_;obtain rfl:=Option.some.inj h;rcases Bool.eq_false_or_eq_true (teq (gF.mk q y aa) (gF.mk ag ah ad))with q4 | q4
   ·exact gHr [.sl 0 v0,.d (.b (teq (gF.mk q y aa) (gF.mk ag ah ad)))] _ ⟨v0,v0,[],.inl ⟨q4,congrArg (fun z=>SV.tup [.sl 0 v0,.B z]) q4,rfl⟩⟩
   ·exact gHr [.sl 0 v0,.d (.b (teq (gF.mk q y aa) (gF.mk ag ah ad)))] _ ⟨v0,v0,l0,.inr ⟨q4,congrArg (fun z=>SV.tup [.sl 0 v0,.B z]) q4,rfl⟩⟩
  ·refine noS ?_;refine sZ 0 ?_;refine goW ?_;obtain⟨g5,h⟩:=mI h;obtain⟨⟨av,aw,ax⟩,a3,h⟩:=pI h;have sx6:=(mR (gF.mk ag ah ad) g5).p;rw [a3] at sx6;refine kR (fun _=>gD (sx6)) ?_;refine goW ?_;refine uK (us:=jM [(gM.mk aj (gF.mk av aw ax))]) ?_;obtain⟨g7,h⟩:=mI h;refine uL g7 ?_;refine goW ?_;refine jY ?_;refine goL ?_;refine jH ?_;obtain rfl:=Option.some.inj h;exact gHr [.sl 0 (v0+1),.B true] _ ⟨(v0+1),(v0+1),[],.inl ⟨rfl,rfl,rfl⟩⟩
 ·refine goS ?_;obtain⟨b8,hb8,h⟩:=pI h;refine kG ⟨[(2,.sl 0 v0),(3,.ptr 1 0),(4,.ptr 2 0),(53,.B b8)],[.arr 253 4 v0 (jM l0),bTy an aj al,bTy ag ah ad],Tryz.f272.ntmps⟩ ?_ ?_
  ·refine uJ 38 (fun c9=>?_) (fun c9=>?_) (by first | rfl | (simp only [jG,gQ];rfl))
   ·replace hb8:=jU c9 hb8;refine goL ?_;cases hb8;exact⟨rfl,⟨⟨rfl,rfl⟩,⟨rfl,rfl⟩,⟨rfl,rfl⟩,⟨by first | rfl | (simp only [jG,gQ];rfl),rfl⟩,trivial⟩,⟨_,rfl⟩,rfl⟩
   ·replace hb8:=jV c9 hb8;refine goL ?_;refine uJ 45 (fun ao=>?_) (fun ao=>?_) (by first | rfl | (simp only [jG,gQ];rfl))
    ·replace hb8:=jU ao hb8;refine goL ?_;cases hb8;exact⟨rfl,⟨⟨rfl,rfl⟩,⟨rfl,rfl⟩,⟨rfl,rfl⟩,⟨by first | rfl | (simp only [jG,gQ];rfl),rfl⟩,trivial⟩,⟨_,rfl⟩,rfl⟩
    ·replace hb8:=jV ao hb8;refine goL ?_;cases hb8;exact⟨rfl,⟨⟨rfl,rfl⟩,⟨rfl,rfl⟩,⟨rfl,rfl⟩,⟨by first | rfl | (simp only [jG,gQ];rfl),rfl⟩,trivial⟩,⟨_,rfl⟩,rfl⟩
  refine goC h ?_ ?_<;>intro ba h
  ·refine goL ?_;refine jH ?_;obtain rfl:=Option.some.inj h;exact gHr [.sl 0 v0,.B false] _ ⟨v0,v0,l0,.inr ⟨rfl,rfl,rfl⟩⟩
  ·refine goS ?_;obtain⟨⟨a5,ap⟩,ay,h⟩:=gK h;refine gLg [0] (ae al ad l0 v0 ay) ?_;rintro _ _ ⟨aq,ai,a0,⟨ar,rfl,rfl⟩ | ⟨ar,rfl,rfl⟩⟩
   ·replace h:=jU ar h;show VO _ _ _ _ ⟨(_,.tup [.sl 0 ai,.B true])::_,[.arr 253 4 ai (jM ap),bTy an aj al,bTy ag ah ad],_⟩ _;refine goL ?_;refine jH ?_;obtain rfl:=Option.some.inj h;exact gHr [.sl 0 ai,.B true] _ ⟨ai,ai,[],.inl ⟨rfl,rfl,rfl⟩⟩
   ·replace h:=jV ar h;show VO _ _ _ _ ⟨(_,.tup [.sl 0 aq,.B false])::_,[.arr 253 4 ai (jM a0),bTy an aj al,bTy ag ah ad],_⟩ _;refine goL ?_;refine jH ?_;obtain rfl:=Option.some.inj h;exact gHr [.sl 0 aq,.B false] _ ⟨aq,ai,a0,.inr ⟨rfl,rfl,rfl⟩⟩
def gIf(f:gF→gF→(List gM)→Option (Bool × List gM))(all:List gF):List gF→Nat→(List gM)→Option (Bool × List gM)
 | [],q,y=>(some (true,y))
 | x6::xs,q,y=>bnd (at? all (q:Int)) fun x7=>
bnd (f x6 x7 y) fun x8=>
(cnd x8.1 (
gIf f all xs (q+1) x8.2) (some (false,[])))
def hA4(f:gF→gF→(List gM)→Option (Bool × List gM))(q:(List gF)→(List gF)→(List gM)→Option (Bool × List gM))(p:List gF)(all:List gF)(y:List gM):Option (Bool × List gM):=
gIf f all p 0 y
theorem hU9{f}{q}(y:hAy f)(ad:hAz q)(p:List gF)(all:List gF)(l0:List gM)(v0:Nat){r:Bool × List gM}(h:hA4 f q p all l0=some r):Go.Eng.Spec Tryz.prog 243 [.L 3 (jJ p),.L 3 (jJ all),.sl 0 v0] [.arr 253 4 v0 (jM l0)] (fun sv Lo=>∃(u'0 v'0:Nat)(j'0:List gM),(r.1=true∧sv=.tup [.sl 0 v'0,.B true]∧Lo=[.arr 253 4 v'0 (jM r.2)])∨(r.1=false∧sv=.tup [.sl 0 u'0,.B false]∧Lo=[.arr 253 4 v'0 (jM j'0)])):=by
 unfold hA4 at h;refine pK 1 Tryz.func243 rfl (by kernel_rfl) rfl rfl fun A _=>?_;refine goL ?_;refine noB ?_;refine gB0 0 (fun z4=>?_);refine kQ (fun(y3:Nat)(y1:List gM)(v2:Nat)=>⟨[(0,.L 3 (jJ p)),(1,.L 3 (jJ all)),(2,.sl 0 v2),(8,.N y3)],[.arr 253 4 v2 (jM y1)],Tryz.f243.ntmps⟩) (fun y3 y1 v2=>gIf f all (p.drop y3) y3 y1=some r) (fun y3 y1 v2=>p.length - y3) 0 l0 v0 eJ h ?_;rintro y3 y1 v2 h;refine goL ?_;refine kN (fun c5=>?_) (fun c5=>?_)
 ·have aa:=qB c5;obtain⟨x6,ax,ai⟩:=drop_at aa;rw [ai,gIf.eq_2] at h;obtain⟨aj,ak,al⟩:=x6;refine noS ?_;refine kC (gP ?_);refine yA (P:=Tryz.prog) Mix.h [(0,true),(1,true),(2,true),(3,true),(4,true),(5,true),(6,true),(7,true),(8,true),(9,false),(10,true),(11,true),(12,true),(13,true),(14,true)] (by kernel_rfl) ?_;refine goY ?_;refine zL rfl (gV y3 (gAw ax)) ?_;refine goY ?_;obtain⟨x7,am,h⟩:=gK h;rw [gBb] at am;obtain⟨an,ao,ap⟩:=x7;refine zL rfl (gV y3 (gAw am)) ?_;refine goY ?_;obtain⟨⟨a2,ae⟩,ay,h⟩:=gK h;refine gWz [0] (y (gF.mk aj ak al) (gF.mk an ao ap) y1 v2 ay) ?_;rintro _ _ ⟨a0,v9,ar,⟨ag,rfl,rfl⟩ | ⟨ag,rfl,rfl⟩⟩
  ·replace h:=jU ag h;refine gTs (sv:=.tup [.sl 0 v9,.B true]) (L':=[.arr 253 4 v9 (jM ae)]) (by repeat(first | exact gDf.nil | (apply gDf.keep;focus ((repeat constructor);done)) | (apply gDf.dep;focus kernel_rfl))) ?_;refine goY ?_;refine gD5 ?_;refine goL ?_;refine jA7 ?_;refine goS ?_;refine gX (jK y3 (by omega)) ?_;exact⟨(y3+1),ae,v9,h,by omega,eJ⟩
  ·replace h:=jV ag h;refine gTs (sv:=.tup [.sl 0 a0,.B false]) (L':=[.arr 253 4 v9 (jM ar)]) (by repeat(first | exact gDf.nil | (apply gDf.keep;focus ((repeat constructor);done)) | (apply gDf.dep;focus kernel_rfl))) ?_;refine goY ?_;refine gD5 ?_;refine goL ?_;refine jA6 ?_;refine goL ?_;refine jH ?_;obtain rfl:=Option.some.inj h;exact gHr [.sl 0 v2,.B false] _ ⟨v2,v9,ar,.inr ⟨rfl,rfl,rfl⟩⟩
 ·have aa:=qC c5;rw [gT aa,gIf.eq_1] at h;refine goX ?_;refine jH ?_;obtain rfl:=Option.some.inj h;exact gHr [.sl 0 v2,.B true] _ ⟨v2,v2,[],.inl ⟨rfl,rfl,rfl⟩⟩
mutual
def gNy:Nat→gF→gF→(List gM)→Option (Bool × List gM)
 | 0,_,_,_=>none
 | n+1,f,q,y=>gU4 (gNy n) (gQ7 n) f q y
def gQ7:Nat→(List gF)→(List gF)→(List gM)→Option (Bool × List gM)
 | 0,_,_,_=>none
 | n+1,f,q,y=>hA4 (gNy n) (gQ7 n) f q y
end
theorem hOl:∀(n:Nat),hAy (gNy n)∧hAz (gQ7 n):=by
 intro n
 induction n with
 | zero=>exact⟨(by intro f q y w0 r h;cases h),(by intro f q y w0 r h;cases h)⟩
 | succ n ih=>
   obtain⟨ih0,ih1⟩:=ih;refine⟨(fun f q y w0 r h=>hRf ih0 ih1 f q y w0 h),(fun f q y w0 r h=>hU9 ih0 ih1 f q y w0 h)⟩
theorem hVa:∀(n:Nat),hAz (gQ7 n):=fun n=>(hOl n).2
def gNz(f:List gF)(a1:List gF):Option (List gM × Bool):=
(cnd ((f.length:Int) !=(a1.length:Int)) (some ([],false)) (
bnd (gQ7 100000 f a1 []) fun q=>
cnd q.1 (some (q.2,true)) (some ([],false))))
theorem hE9(q:List gF)(a1:List gF){r:List gM × Bool}(h:gNz q a1=some r):gW Tryz.prog 192 [.L 3 (jJ q),.L 3 (jJ a1)] [.sl 4 (jM r.1),.b r.2]:=by
 unfold gNz at h;refine SpI Tryz.func192 fun A _=>?_;refine goC h ?_ ?_<;>intro c1 h
 ·refine goL ?_;refine qO ?_;refine goL ?_;refine jS 0 rfl rfl ?_;refine jH ?_;cases h;exact mM
 ·refine goS ?_;refine qO ?_;obtain⟨⟨ac,f⟩,y,h⟩:=gK h;refine gLg [0] (hVa 100000 q a1 [] 0 y) ?_;rintro _ _ ⟨u4,v3,j5,⟨q6,rfl,rfl⟩ | ⟨q6,rfl,rfl⟩⟩
  ·replace h:=jU q6 h;show VO _ _ _ _ ⟨(_,.tup [.sl 0 v3,.B true])::_,[.arr 253 4 v3 (jM f)],_⟩ _;refine goL ?_;refine jA7 ?_;refine goS ?_;refine jS 0 rfl rfl ?_;refine jH ?_;cases h;exact mM
  ·replace h:=jV q6 h;show VO _ _ _ _ ⟨(_,.tup [.sl 0 u4,.B false])::_,[.arr 253 4 v3 (jM j5)],_⟩ _;refine goL ?_;refine jA6 ?_;refine goL ?_;refine qO ?_;refine goL ?_;refine jS 1 rfl rfl ?_;refine jH ?_;cases h;exact mM
def gLl(q:gF)(a1:gF):Option (List gM × Bool):=
bnd (gNz [q] [a1]) fun f=>
(some (f.1,f.2))
theorem gXn(a0:gF)(a1:gF){r:List gM × Bool}(h:gLl a0 a1=some r):gW Tryz.prog 137 [.d (kT a0),.d (kT a1)] [.sl 4 (jM r.1),.b r.2]:=by
 obtain⟨f,q,y⟩:=a0;obtain⟨aa,ab,ac⟩:=a1;unfold gLl at h;refine SpI Tryz.func137 fun A _=>?_;refine goL ?_;refine uN (u:=(.st [.i .i64 f,.s q,.sl 3 (jJ y)])) ?_;refine goL ?_;refine uN (u:=(.st [.i .i64 aa,.s ab,.sl 3 (jJ ac)])) ?_;refine qV 2 rfl rfl ?_;refine qV 3 rfl rfl ?_;obtain⟨⟨ag,ah⟩,ae,h⟩:=gK h;refine uX (hDc (hE9 [(gF.mk f q y)] [(gF.mk aa ab ac)] ae)) ?_;exact goR h
def gKj(f:gF)(a1:gF):Option (Bool):=
bnd (gLl f a1) fun q=>
(some q.2)
theorem gYj(f:gF)(a1:gF){r:Bool}(h:gKj f a1=some r):gW Tryz.prog 241 [.d (kT f),.d (kT a1)] [.b r]:=by
 obtain⟨y,aa,ab⟩:=f;obtain⟨ac,ad,ae⟩:=a1;unfold gKj at h;refine SpI Tryz.func241 fun A _=>?_;refine goL ?_;obtain⟨⟨ag,ah⟩,q,h⟩:=gK h;refine pX (gD (gXn _ _ q)) ?_;exact goR h
def hC7(k:Int)(n:LB)(l:LS):LS:=if k=1∧n∉l then l++[n] else l
mutual
def gT8:gF→LS→LS
 | ⟨k,n,ts⟩,l=>gTw ts (hC7 k n l)
def gTw:List gF→LS→LS
 | [],l=>l
 | a::ts,l=>gTw ts (gT8 a l)
end
theorem hIt(k:Int)(n:LB)(l:LS):(hC7 k n l).length≤l.length+1:=by
 unfold hC7;split
 ·simp
 ·omega
mutual
theorem hC8:∀(t:gF)(l:LS),(gT8 t l).length≤l.length+tnd t
 | ⟨k,n,ts⟩,l=>by
   simp only [gT8,tnd];have f:=gYk ts (hC7 k n l);have q:=hIt k n l;omega
theorem gYk:∀(ts:List gF)(l:LS),(gTw ts l).length≤l.length+gN5 ts
 | [],l=>by simp [gTw]
 | a::ts,l=>by
   simp only [gTw,gN5];have f:=gYk ts (gT8 a l);have q:=hC8 a l;omega
end
def gIg(a1:LB):LS→Bool
 | []=>false
 | f::xs=>(cnd (f==a1) (
true) (
gIg a1 xs ))
def wM(f:LS)(a1:LB):Bool:=
gIg a1 f
theorem gC5(y:LS)(a1:LB):gW Tryz.prog 105 [.L 1 (kD y),.S a1] [.b (wM y a1)]:=by
 obtain⟨r,h⟩:∃r,wM y a1=r:=⟨_,rfl⟩
 rw [h];unfold wM at h;refine SpI Tryz.func105 fun A _=>?_;refine goL ?_;refine noB ?_;refine gB0 0 (fun z2=>?_);refine kZ (fun(q:Nat)=>⟨[(0,.L 1 (kD y)),(1,.S a1),(5,.N q)],[],Tryz.f105.ntmps⟩) (fun q=>gIg a1 (y.drop q)  =r) (fun q=>y.length - q) 0 eJ h ?_;rintro q h;refine goL ?_;refine kN (fun c3=>?_) (fun c3=>?_)
 ·have f:=qB c3;obtain⟨x4,ac,aa⟩:=drop_at f;rw [aa,gIg.eq_2] at h;refine noS ?_;refine kC (gP ?_);refine goL ?_;refine gX (gV q (gN4 ac)) ?_;refine kN (fun c5=>?_) (fun c5=>?_)
  ·replace h:=jU c5 h;refine goL ?_;refine jH ?_;subst h;exact mM
  ·replace h:=jV c5 h;refine goS ?_;refine gX (jK q (by omega)) ?_;exact⟨(q+1),h,by omega,eJ⟩
 ·have f:=qC c3;rw [gT f,gIg.eq_1] at h;refine goX ?_;refine jH ?_;subst h;exact mM
def gFu(f:gF→LS→Option LS):List gF→LS→Option LS
 | [],q=>(some q)
 | y::xs,q=>bnd (f y q) fun aa=>
gFu f xs aa
def gFv(f:gF→LS→Option LS):List gF→LS→Option LS
 | [],q=>(some q)
 | y::xs,q=>bnd (f y q) fun aa=>
gFv f xs aa
def gU5(f:gF→LS→Option LS)(t:gF)(q:LS):Option LS:=
lt_ (cnd (t.kind==1) (!(wM q t.name)) (false)) fun y=>
(cnd y (
gd (q.length+[t.name].length≤4294967296) (
gFu f t.args (q++[t.name]))) (
gFv f t.args q))
theorem hRg{f:gF→LS→Option LS}(q:∀(x0:gF)(x1:LS)(w0:Nat){r:LS},f x0 x1=some r→Go.Eng.Spec Tryz.prog 266 [.d (kT x0),.sl 0 w0] [.own 9 1 w0 (kD x1)] (fun sv Lo=>∃v'0,sv=.sl 0 v'0∧Lo=[.own 9 1 v'0 (kD r)]))(t:gF)(l0:LS)(v0:Nat){r:LS}(h:gU5 f t l0=some r):Go.Eng.Spec Tryz.prog 266 [.d (kT t),.sl 0 v0] [.own 9 1 v0 (kD l0)] (fun sv Lo=>∃v'0,sv=.sl 0 v'0∧Lo=[.own 9 1 v'0 (kD r)]):=by
 obtain⟨ah,ac,y⟩:=t;unfold gU5 at h;refine pK 1 Tryz.func266 rfl (by kernel_rfl) rfl rfl fun A _=>?_;refine goL ?_;obtain⟨b1,hb1,h⟩:=pI h;refine kG ⟨[(1,.sl 0 v0),(2,.ptr 1 0),(15,.B b1)],[.own 9 1 v0 (kD l0),bTy ah ac y],Tryz.f266.ntmps⟩ ?_ ?_
 ·refine gqA 9 hb1 (fun c2 hb1=>?_);refine gC1 (gUn (gC5 l0 ac)) ?_;cases hb1;exact eJ
 refine goC h ?_ ?_<;>intro c3 h
 ·refine goL ?_;refine gAz ac ?_;obtain⟨g4,h⟩:=mI h;refine gDj g4 ?_;refine goL ?_;refine noB ?_;refine pG 1 2 (fun z8=>?_);refine kQ (fun(y7:Nat)(y5:LS)(v6:Nat)=>⟨[(1,.sl 0 v6),(2,.ptr 1 0),(5,.N y7)],[.own 9 1 v6 (kD y5),bTy ah ac y,.dead 1],Tryz.f266.ntmps⟩) (fun y7 y5 v6=>gFu f (y.drop y7) y5=some r) (fun y7 y5 v6=>y.length - y7) 0 (l0++[ac]) (v0+1) eJ h ?_;rintro y7 y5 v6 h;refine goL ?_;refine kN (fun c9=>?_) (fun c9=>?_)
  ·have ae:=qB c9;obtain⟨a9,a2,ak⟩:=drop_at ae;rw [ak,gFu.eq_2] at h;obtain⟨al,am,an⟩:=a9;refine noS ?_;refine kC (gP ?_);refine goL ?_;refine gX (gV y7 (gAw a2)) ?_;obtain⟨a3,a4,h⟩:=gK h;refine gLg [0] (q (gF.mk al am an) y5 v6 a4) ?_;rintro _ _ ⟨ao,rfl,rfl⟩;show VO _ _ _ _ ⟨(_,.sl 0 ao)::_,[.own 9 1 ao (kD a3),bTy ah ac y,.dead 1],_⟩ _;refine goL ?_;refine gX (jK y7 (by omega)) ?_;exact⟨(y7+1),a3,ao,h,by omega,eJ⟩
  ·have ae:=qC c9;rw [gT ae,gFu.eq_1] at h;refine goX ?_;refine jH ?_;obtain rfl:=Option.some.inj h;exact gHr [.sl 0 v6] _ ⟨v6,rfl,rfl⟩
 ·refine goS ?_;refine noB ?_;refine pG 1 2 (fun bg=>?_);refine kQ (fun(aa:Nat)(ag:LS)(ad:Nat)=>⟨[(1,.sl 0 ad),(2,.ptr 1 0),(5,.N aa)],[.own 9 1 ad (kD ag),bTy ah ac y],Tryz.f266.ntmps⟩) (fun aa ag ad=>gFv f (y.drop aa) ag=some r) (fun aa ag ad=>y.length - aa) 0 l0 v0 eJ h ?_;rintro aa ag ad h;refine goL ?_;refine kN (fun ap=>?_) (fun ap=>?_)
  ·have ab:=qB ap;obtain⟨ba,a5,aq⟩:=drop_at ab;rw [aq,gFv.eq_2] at h;obtain⟨ar,au,av⟩:=ba;refine noS ?_;refine kC (gP ?_);refine goL ?_;refine gX (gV aa (gAw a5)) ?_;obtain⟨a6,a7,h⟩:=gK h;refine gLg [0] (q (gF.mk ar au av) ag ad a7) ?_;rintro _ _ ⟨aw,rfl,rfl⟩;show VO _ _ _ _ ⟨(_,.sl 0 aw)::_,[.own 9 1 aw (kD a6),bTy ah ac y],_⟩ _;refine goL ?_;refine gX (jK aa (by omega)) ?_;exact⟨(aa+1),a6,aw,h,by omega,eJ⟩
  ·have ab:=qC ap;rw [gT ab,gFv.eq_1] at h;refine goX ?_;refine jH ?_;obtain rfl:=Option.some.inj h;exact gHr [.sl 0 ad] _ ⟨ad,rfl,rfl⟩
def gSi:Nat→gF→LS→Option LS
 | 0,_,_=>none
 | n+1,f,q=>gU5 (gSi n) f q
theorem hRh:∀(n:Nat)(f:gF)(q:LS)(y:Nat){r:LS},gSi n f q=some r→Go.Eng.Spec Tryz.prog 266 [.d (kT f),.sl 0 y] [.own 9 1 y (kD q)] (fun sv Lo=>∃v'0,sv=.sl 0 v'0∧Lo=[.own 9 1 v'0 (kD r)]):=by
 intro n
 induction n with
 | zero=>intro f q y r h;cases h
 | succ n ih=>intro f q y r h;exact hRg ih f q y h
theorem hG8(a:LB):∀l:LS,gIg a l=decide (a∈l)
 | []=>rfl
 | x::l=>by
   simp only [gIg,hG8 a l];by_cases h:x=a
   ·subst h;simp [kJ]
   ·rw [beq_false_of_ne h];have h':¬a=x:=fun e=>h e.symm;simp [gZ,h']
theorem hRi(l:LS)(a:LB):wM l a=decide (a∈l):=hG8 a l
theorem gSj{rec:gF→LS→Option LS}:∀(xs:List gF)(y:LS),(∀x∈xs,∀l,l.length+tnd x≤4294967296→rec x l=some (gT8 x l))→y.length+gN5 xs≤4294967296→gFu rec xs y=some (gTw xs y)∧gFv rec xs y=some (gTw xs y)
 | [],y,_,_=>⟨rfl,rfl⟩
 | x::xs,y,h,hl=>by
   simp only [gN5] at hl;have f:=hC8 x y;simp only [gFu,gFv,gTw];rw [h x (by simp) y (by omega)];exact gSj xs _ (fun z hz=>h z (by simp [hz])) (by omega)
theorem hC9:∀(n:Nat)(t:gF)(l:LS),tnd t≤n→l.length+tnd t≤4294967296→gSi n t l=some (gT8 t l)
 | 0,t,l,h,_=>by have:=gTj t;omega
 | n+1,⟨k,s,ts⟩,l,h,hl=>by
   simp only [tnd] at h hl;have hr:∀x∈ts,∀l,l.length+tnd x≤4294967296→gSi n x l=some (gT8 x l):=fun x hx l hl=>hC9 n x l (by have:=gQ5 hx;omega) hl;simp only [gSi,gU5,lt_,hRi,gT8,hC7];by_cases hk:k=1
   ·by_cases hs:s∈l
    ·simp only [hk,hs,beq_self_eq_true,kJ,decide_true,Bool.not_true,gZ];simp only [not_true,and_false,if_false];exact(gSj ts l hr (by omega)).2
    ·simp only [hk,hs,beq_self_eq_true,kJ,decide_false,Bool.not_false];simp only [not_false_eq_true,and_self,if_true];rw [wI (by simp;omega)];exact(gSj ts (l++[s]) hr (by simp;omega)).1
   ·simp only [beq_false_of_ne hk,gZ,hk,false_and,if_false];exact(gSj ts l hr (by omega)).2
theorem hRm(f:gF)(q:LS)(y:Nat)(h:(q:LS).length+tnd f≤4294967296):Go.Eng.Spec Tryz.prog 266 [.d (kT f),.sl 0 y] [.own 9 1 y (kD q)] (fun sv Lo=>∃v'0,sv=.sl 0 v'0∧Lo=[.own 9 1 v'0 (kD (gT8 f q))]):=hRh (tnd f) f q y (hC9 _ _ _ (Nat.le_refl _) h)
def wV(f:gF):Option LS:=
gd (([]:LS).length+tnd f≤4294967296) (lt_ (gT8 f []) fun q=>
some q)
theorem gCw(a0:gF){r:LS}(h:wV a0=some r):gW Tryz.prog 215 [.d (kT a0)] [.sl 1 (kD r)]:=by
 obtain⟨f,q,y⟩:=a0;unfold wV at h;refine SpI Tryz.func215 fun A _=>?_;refine goL ?_;refine gFh ?_;obtain⟨g2,h⟩:=mI h;obtain⟨x1,ab,h⟩:=pI h;have sx1:=hRm (gF.mk f q y) [] 0 g2;rw [ab] at sx1;refine gLg [1] (sx1) ?_;rintro _ _ ⟨v3,rfl,rfl⟩;show VO _ _ _ _ ⟨(_,.sl 1 v3)::_,[bTy f q y,.own 9 1 v3 (kD x1)],_⟩ _;refine goL ?_;refine qW 1 rfl rfl ?_;refine jH ?_;cases h;exact mM
mutual
def mtT:gF→gF→List gM→Option (List gM)
 | ⟨k,n,ps⟩,t,l=>cnd (k==1) (cnd (lkp n l).2 (cnd (teq (lkp n l).1 t) (some l) none) (some (l++[⟨n,t⟩])))
   (cnd (cnd (k != t.kind) true (cnd (!(n==t.name)) true ((ps.length:Int) !=(t.args.length:Int)))) none (hOm ps t.args l))
def hOm:List gF→List gF→List gM→Option (List gM)
 | [],_,l=>some l
 | _::_,[],_=>none
 | p::ps,t::ts,l=>bnd (mtT p t l) fun l'=>hOm ps ts l'
end
def Agr:Option (List gM)→Bool × List gM→Prop
 | none,q=>q.1=false
 | some l,q=>q=(true,l)
mutual
theorem hFa{Q:gF→Prop}(hQ:∀x,Q x→∀y∈x.args,Q y):∀(p t:gF)(l l':List gM),Q t→(∀b∈l,Q b.type_)→mtT p t l=some l'→(∀b∈l',Q b.type_)∧l'.length≤l.length+tnd p
 | ⟨k,n,ps⟩,t,l,l',ht,hl,h=>by
   simp only [mtT] at h;simp only [tnd];cases hk:(k==1)with
   | true=>
     simp only [hk,kJ] at h;cases hb:(lkp n l).2 with
     | true=>
       simp only [hb,kJ] at h;cases he:teq (lkp n l).1 t with
       | true=>simp only [he,kJ,Option.some.injEq] at h;subst h;exact⟨hl,by omega⟩
       | false=>simp [he,gZ] at h
     | false=>
       simp only [hb,gZ,Option.some.injEq] at h;subst h;refine⟨fun b hb'=>?_,by simp only [List.length_append,List.length_cons,List.length_nil];omega⟩;rcases List.mem_append.1 hb' with hb' | hb'
       ·exact hl b hb'
       ·simp only [List.mem_singleton] at hb';subst hb';exact ht
   | false=>
     simp only [hk,gZ] at h;cases hc:(cnd (k != t.kind) true (cnd (!(n==t.name)) true ((ps.length:Int) !=(t.args.length:Int))))with
     | true=>simp [hc,kJ] at h
     | false=>
       simp only [hc,gZ] at h
       have:=hG9 hQ ps t.args l l' (hQ t ht) hl h
       exact⟨this.1,by omega⟩
theorem hG9{Q:gF→Prop}(hQ:∀x,Q x→∀y∈x.args,Q y):∀(ps ts:List gF)(l l':List gM),(∀t∈ts,Q t)→(∀b∈l,Q b.type_)→hOm ps ts l=some l'→(∀b∈l',Q b.type_)∧l'.length≤l.length+gN5 ps
 | [],_,l,l',_,hl,h=>by simp only [hOm,Option.some.injEq] at h;subst h;exact⟨hl,by simp⟩
 | _::_,[],_,_,_,_,h=>by simp [hOm] at h
 | p::ps,t::ts,l,l',ht,hl,h=>by
   simp only [hOm] at h;obtain⟨f,q,h2⟩:=gK h;obtain⟨q1,q2⟩:=hFa hQ p t l f (ht t (by simp)) hl q;obtain⟨q3,q4⟩:=hG9 hQ ps ts f l' (fun t h=>ht t (by simp [h])) q1 h2;simp only [gN5];exact⟨q3,by omega⟩
end
theorem hZ5:∀x,tok x→∀y∈x.args,tok y:=fun x hx y hy=>by
 obtain⟨k,n,ts⟩:=x;simp only [tok] at hx;exact gSh.1 hx.2 y hy
theorem gYl{n:Nat}(ih:∀(p t:gF)(l:List gM),2*tnd p≤n→bok l→tok t→l.length+tnd p≤4000000→∃q,gNy n p t l=some q∧Agr (mtT p t l) q)(all:List gF)(hall:∀t∈all,tok t) :
  ∀(xs:List gF)(k:Nat)(l:List gM),2*gN5 xs≤n→bok l→all.length=k+xs.length→l.length+gN5 xs≤4000000→∃q,gIf (gNy n) all xs k l=some q∧Agr (hOm xs (all.drop k) l) q
 | [],k,l,_,_,h,_=>⟨_,rfl,rfl⟩
 | x::xs,k,l,hn,hb,h,hl=>by
   simp only [List.length_cons] at h;simp only [gN5] at hn hl;have hk:k < all.length:=by omega
   have hx:all[k]? =some all[k]:=List.getElem?_eq_getElem hk;obtain⟨q,e1,f⟩:=ih x all[k] l (by omega) hb (hall _ (List.getElem_mem hk)) (by omega);rw [gIf.eq_2,gBb,hx,List.drop_eq_getElem_cons hk];simp only [bnd,e1,hOm];cases hm:mtT x all[k] l with
   | none=>
     rw [hm] at f;have y:q.1=false:=f;simp only [y,gZ];exact⟨_,rfl,rfl⟩
   | some l1=>
     rw [hm] at f;have y:q=(true,l1):=f;subst y;simp only [kJ];obtain⟨r1,r2⟩:=hFa hZ5 x all[k] l l1 (hall _ (List.getElem_mem hk)) hb hm;exact gYl ih all hall xs (k+1) l1 (by omega) r1 (by omega) (by omega)
theorem hDa:∀(n:Nat),(∀(p t:gF)(l:List gM),2*tnd p≤n→bok l→tok t→l.length+tnd p≤4000000→∃q,gNy n p t l=some q∧Agr (mtT p t l) q)∧
  (∀(ps ts:List gF)(l:List gM),2*gN5 ps+1≤n→bok l→(∀t∈ts,tok t)→ts.length=ps.length→l.length+gN5 ps≤4000000→∃q,gQ7 n ps ts l=some q∧Agr (hOm ps ts l) q)
 | 0=>⟨fun p t l h=>by have:=gTj p;omega,fun ps ts l h=>by omega⟩
 | n+1=>by
   obtain⟨ih1,ih2⟩:=hDa n;refine⟨fun p t l hn hb ht hl=>?_,fun ps ts l hn hb ht hlen hl=>?_⟩
   ·obtain⟨k,nm,ps⟩:=p;simp only [tnd] at hn hl;rw [gNy.eq_2];unfold gU4;simp only [lt_,idT,mtT];cases hk:(k==1)with
    | true=>
      simp only [kJ];have hlk:gLk l nm=some (lkp nm l):=gNx nm l hb;rw [kX hlk];cases (lkp nm l).2 with
      | true=>
        simp only [kJ];refine⟨_,rfl,?_⟩;cases teq (lkp nm l).1 t<;>rfl
      | false=>
        simp only [gZ];rw [wI ht,wI (by simp;omega)];exact⟨_,rfl,rfl⟩
    | false=>
      simp only [gZ];cases f:(cnd (k != t.kind) true (cnd (!(nm==t.name)) true ((ps.length:Int) !=(t.args.length:Int))))with
      | true=>simp only [kJ];exact⟨_,rfl,rfl⟩
      | false=>
        simp only [gZ];have hlen:t.args.length=ps.length:=by
         cases h2:(k != t.kind)with
         | true=>rw [h2] at f;simp [kJ] at f
         | false=>
           rw [h2] at f;simp only [gZ] at f;cases h3:(!(nm==t.name))with
           | true=>rw [h3] at f;simp [kJ] at f
           | false=>
             rw [h3] at f;simp only [gZ] at f
             have:(ps.length:Int)=t.args.length:=by simpa using f
             omega
        obtain⟨q,e1,y⟩:=ih2 ps t.args l (by omega) hb (hZ5 t ht) hlen (by omega);rw [kX e1];cases hm:hOm ps t.args l with
        | none=>
          rw [hm] at y;have e3:q.1=false:=y;simp only [e3,gZ];exact⟨_,rfl,rfl⟩
        | some l1=>
          rw [hm] at y;have e3:q=(true,l1):=y;subst e3;exact⟨_,rfl,rfl⟩
   ·rw [gQ7.eq_2];unfold hA4
    have:=gYl ih1 ts ht ps 0 l (by omega) hb (by omega) (by omega)
    rwa [List.drop_zero] at this
end Go.Proofs.YtfjncckelekpiaaGreat
