import Derived.Test.YtfpdlnkkcnmebaaGreatCur
set_option maxHeartbeats 4000000
set_option linter.unusedVariables false
set_option linter.unusedSimpArgs false
set_option linter.unusedSectionVars false
namespace Go.Proofs.YtfpdlnkkcnmebaaGreat
open Go Go.Eng
attribute [local irreducible] V VO VQ VY Quiet QR jI mK Rng qE qA pX
mutual
def tnd:gB→Nat
 | ⟨_,_,ts⟩=>1+gHs ts
def gHs:List gB→Nat
 | []=>0
 | a::ts=>tnd a+gHs ts
end
mutual
def tok:gB→Prop
 | ⟨_,_,ts⟩=>ts.length≤4294967296∧gX4 ts
def gX4:List gB→Prop
 | []=>True
 | a::ts=>tok a∧gX4 ts
end
def hJo(ts:List gB):Prop:=ts.length≤4294967296∧gX4 ts
theorem gJ7:∀{ts:List gB},gX4 ts↔∀t∈ts,tok t
 | []=>by simp [gX4]
 | a::ts=>by simp [gX4,gJ7 (ts:=ts)]
theorem gHt{x:gB}:∀{ts:List gB},x∈ts→tnd x≤gHs ts
 | [],h=>by simp at h
 | a::ts,h=>by
   simp only [gHs];rcases List.mem_cons.1 h with rfl | h
   ·omega
   ·have:=gHt h
    omega
theorem gIz(t:gB):1≤tnd t:=by cases t;simp only [tnd];omega
def idT(t:gB):gB:=t
def hSa(t:List gB):List gB:=t
mutual
def hWl:gB→Bool
 | ⟨_,_,ts⟩=>decide (ts.length≤4294967296) && hGe ts
def hGe:List gB→Bool
 | []=>true
 | a::ts=>hWl a && hGe ts
end
mutual
theorem gZy:∀(t:gB),hWl t=true↔tok t
 | ⟨k,n,ts⟩=>by simp only [hWl,tok,Bool.and_eq_true,decide_eq_true_eq,gWc ts]
theorem gWc:∀(ts:List gB),hGe ts=true↔gX4 ts
 | []=>by simp [hGe,gX4]
 | a::ts=>by simp only [hGe,gX4,Bool.and_eq_true,gZy a,gWc ts]
end
instance (t:gB):Decidable (tok t):=decidable_of_iff _ (gZy t)
def gJ8(h:gB→Option (gB))(f:(List gB)→Option (List gB))(q:gB):Option (gB):=
bnd (f q.args) fun y=>
(some (gB.mk q.kind q.name y))
def gJ9(f:gB→Option (gB)):Prop:=∀(h:gB){r:gB},f h=some r→mK Tryz.prog 104 [.d (mM h)] [37] [mM r]
def gLv(f:(List gB)→Option (List gB)):Prop:=∀(h:List gB){r:List gB},f h=some r→mK Tryz.prog 148 [.L 3 (gN h)] [37] [.sl 3 (gN r)]
theorem gX5{q}{f}(aa:gJ9 q)(y:gLv f)(a0:gB){r:gB}(h:gJ8 q f a0=some r):mK Tryz.prog 104 [.d (mM a0)] [37] [mM r]:=by
 obtain⟨ae,ag,ab⟩:=a0;unfold gJ8 at h;refine qB Tryz.func104 rfl (by kernel_rfl) rfl (by simp) fun A _=>?_;refine goL ?_;obtain⟨x1,ad,h⟩:=gJ h;refine gE3 (y ab ad) ?_;refine goL ?_;refine jF ?_;obtain rfl:=Option.some.inj h;exact gNw
def wZ(f:gB→Option (gB)):List gB→Nat→(List gB)→Option (List gB)
 | [],h,q=>(some q)
 | y::xs,h,q=>bnd (f y) fun x8=>
gd (h < q.length) (
wZ f xs (h+1) (q.set h x8))
def gIk(f:gB→Option (gB))(h:(List gB)→Option (List gB))(q:List gB):Option (List gB):=
gd (q.length≤4294967296) (
wZ f q 0 (List.replicate q.length (gB.mk 0 [] [])))
theorem gWd{f}{q}(y:gJ9 f)(ab:gLv q)(a0:List gB){r:List gB}(h:gIk f q a0=some r):mK Tryz.prog 148 [.L 3 (gN a0)] [37] [.sl 3 (gN r)]:=by
 unfold gIk at h;refine qB Tryz.func148 rfl (by kernel_rfl) rfl (by simp) fun A _=>?_;refine goL ?_;obtain⟨g1,h⟩:=pU h;refine hIc (gB.mk 0 [] []) g1 ?_;refine goL ?_;refine noB ?_;refine gCw 9 (fun z5=>?_);refine mG (fun(y4:Nat)(y2:List gB)(v3:Nat)=>⟨[(3,.sl 0 v3),(9,.L 3 (gN a0)),(10,.I (a0.length:Int)),(11,.N y4)],[.own 37 3 v3 (gN y2)],Tryz.f148.ntmps⟩) (fun y4 y2 v3=>wZ f (a0.drop y4) y4 y2=some r) (fun y4 y2 v3=>a0.length - y4) 0 (List.replicate a0.length (gB.mk 0 [] [])) 0 eJ h ?_;rintro y4 y2 v3 h;refine goL ?_;refine kI (mR (fun c6=>?_) (fun c6=>?_))
 ·have aa:=vR c6;obtain⟨x7,ap,ak⟩:=drop_at aa;rw [ak,wZ.eq_2] at h;obtain⟨al,am,an⟩:=x7;refine noS ?_;refine kI (jA ?_);refine goL ?_;refine jP (jR y4 (gDj ap)) ?_;obtain⟨⟨ad,ae,ag⟩,aq,h⟩:=gJ h;refine gE3 (y (gB.mk al am an) aq) ?_;obtain⟨g9,h⟩:=pU h;refine vP (hId y4 g9) ?_;refine hIf (gB.mk ad ae ag) g9 ?_;refine goL ?_;refine jP (kD y4 (by omega)) ?_;exact⟨(y4+1),(y2.set y4 (gB.mk ad ae ag)),v3,h,by omega,eJ⟩
 ·have aa:=vS c6;rw [jK aa,wZ.eq_1] at h;refine goX ?_;refine jF ?_;obtain rfl:=Option.some.inj h;exact gNw
mutual
def gFl:Nat→gB→Option (gB)
 | 0,_=>none
 | n+1,f=>gJ8 (gFl n) (gGb n) f
def gGb:Nat→(List gB)→Option (List gB)
 | 0,_=>none
 | n+1,f=>gIk (gFl n) (gGb n) f
end
theorem gWe:∀(n:Nat),gJ9 (gFl n)∧gLv (gGb n):=by
 intro n
 induction n with
 | zero=>exact⟨(by intro f r h;cases h),(by intro f r h;cases h)⟩
 | succ n ih=>
   obtain⟨ih0,ih1⟩:=ih;refine⟨(fun f r h=>gX5 ih0 ih1 f h),(fun f r h=>gWd ih0 ih1 f h)⟩
theorem gX6:∀(n:Nat),gJ9 (gFl n):=fun n=>(gWe n).1
def gKa(h:gB→Option (gB))(f:(List gB)→Option (List gB))(q:gB):Option (gB):=
bnd (f q.args) fun y=>
(some (gB.mk q.kind q.name y))
def gKb(f:gB→Option (gB)):Prop:=∀(h:gB){r:gB},f h=some r→mK Tryz.prog 48 [.d (mM h)] [37] [mM r]
def gLw(f:(List gB)→Option (List gB)):Prop:=∀(h:List gB){r:List gB},f h=some r→mK Tryz.prog 81 [.L 3 (gN h)] [37] [.sl 3 (gN r)]
theorem gX7{q}{f}(aa:gKb q)(y:gLw f)(a0:gB){r:gB}(h:gKa q f a0=some r):mK Tryz.prog 48 [.d (mM a0)] [37] [mM r]:=by
 obtain⟨ae,ag,ab⟩:=a0;unfold gKa at h;refine qB Tryz.func48 rfl (by kernel_rfl) rfl (by simp) fun A _=>?_;refine gIb ?_;refine jS (P:=Tryz.prog) Mix.h [(0,true),(1,true),(2,true),(3,true),(4,true),(5,true),(6,false),(7,true),(8,false)] (by kernel_rfl) ?_;refine goY ?_;obtain⟨x1,ad,h⟩:=gJ h;refine gRi (y ab ad) ?_;refine goY ?_;refine mJ ?_;refine goL ?_;refine jF ?_;obtain rfl:=Option.some.inj h;exact gNw
def yA(f:gB→Option (gB)):List gB→(List gB)→Option (List gB)
 | [],h=>(some h)
 | y::xs,h=>bnd (f y) fun q=>
gd (h.length+[q].length≤4294967296) (
yA f xs (h++[q]))
def gIl(f:gB→Option (gB))(h:(List gB)→Option (List gB))(q:List gB):Option (List gB):=
yA f q []
theorem gWf{f}{q}(y:gKb f)(ab:gLw q)(a0:List gB){r:List gB}(h:gIl f q a0=some r):mK Tryz.prog 81 [.L 3 (gN a0)] [37] [.sl 3 (gN r)]:=by
 unfold gIl at h;refine qB Tryz.func81 rfl (by kernel_rfl) rfl (by simp) fun A _=>?_;refine goL ?_;refine gC1 ?_;refine goL ?_;refine noB ?_;refine gCw 0 (fun z4=>?_);refine mG (fun(y3:Nat)(y1:List gB)(v2:Nat)=>⟨[(0,.L 3 (gN a0)),(3,.sl 0 v2),(4,.N y3)],[.own 37 3 v2 (gN y1)],Tryz.f81.ntmps⟩) (fun y3 y1 v2=>yA f (a0.drop y3) y1=some r) (fun y3 y1 v2=>a0.length - y3) 0 [] 0 eJ h ?_;rintro y3 y1 v2 h;refine goL ?_;refine mR (fun c5=>?_) (fun c5=>?_)
 ·have aa:=vR c5;obtain⟨x6,ap,ak⟩:=drop_at aa;rw [ak,yA.eq_2] at h;obtain⟨al,am,an⟩:=x6;refine noS ?_;refine kI (jA ?_);refine goL ?_;refine jP (jR y3 (gDj ap)) ?_;obtain⟨⟨ad,ae,ag⟩,aq,h⟩:=gJ h;refine gE3 (y (gB.mk al am an) aq) ?_;refine wX (gB.mk ad ae ag) ?_;obtain⟨g8,h⟩:=pU h;refine gDl g8 ?_;refine goL ?_;refine jP (kD y3 (by omega)) ?_;exact⟨(y3+1),(y1++[(gB.mk ad ae ag)]),(v2+1),h,by omega,eJ⟩
 ·have aa:=vS c5;rw [jK aa,yA.eq_1] at h;refine goX ?_;refine jF ?_;obtain rfl:=Option.some.inj h;exact gNw
mutual
def gFm:Nat→gB→Option (gB)
 | 0,_=>none
 | n+1,f=>gKa (gFm n) (gGc n) f
def gGc:Nat→(List gB)→Option (List gB)
 | 0,_=>none
 | n+1,f=>gIl (gFm n) (gGc n) f
end
theorem gWg:∀(n:Nat),gKb (gFm n)∧gLw (gGc n):=by
 intro n
 induction n with
 | zero=>exact⟨(by intro f r h;cases h),(by intro f r h;cases h)⟩
 | succ n ih=>
   obtain⟨ih0,ih1⟩:=ih;refine⟨(fun f r h=>gX7 ih0 ih1 f h),(fun f r h=>gWf ih0 ih1 f h)⟩
theorem gX8:∀(n:Nat),gKb (gFm n):=fun n=>(gWg n).1
theorem gGx{α:Type}{l:List α}{k:Nat}{x:α}(h:k < l.length):(l.set k x).take (k+1)=l.take k++[x]:=by
 apply List.ext_getElem?;intro i;rw [List.getElem?_take,List.getElem?_append,List.length_take,List.getElem?_take,List.getElem?_set];have hm:min k l.length=k:=Nat.min_eq_left (by omega);rw [hm];by_cases f:i < k
 ·rw [if_pos (by omega),if_neg (by omega),if_pos f,if_pos f]
 ·rw [if_neg f];by_cases q:i=k
  ·subst q;rw [if_pos (by omega),if_pos rfl,if_pos h];simp
  ·rw [if_neg (by omega),List.getElem?_eq_none (by simp;omega)]
theorem gKm{rec:gB→Option gB}:∀(xs:List gB)(k:Nat)(y:List gB),(∀x∈xs,rec x=some x)→y.length=k+xs.length→wZ rec xs k y=some (y.take k++xs)
 | [],k,y,_,h=>by
   simp only [wZ,List.append_nil];rw [List.take_of_length_le (by simp at h;omega)]
 | x::xs,k,y,f,q=>by
   simp only [wZ];rw [f x (by simp)];simp only [bnd,List.length_cons] at q ⊢;rw [qN (by omega),gKm xs (k+1) _ (fun z hz=>f z (by simp [hz])) (by simp;omega),gGx (by omega)];simp
theorem gZz:∀(n:Nat),(∀t:gB,2*tnd t≤n→tok t→gFl n t=some (idT t))∧(∀ts:List gB,2*gHs ts+1≤n→hJo ts→gGb n ts=some (hSa ts))
 | 0=>⟨fun t h=>by have:=gIz t;omega,fun ts h=>by omega⟩
 | n+1=>by
   obtain⟨f,q⟩:=gZz n;refine⟨fun t hn ht=>?_,fun ts hn ht=>?_⟩
   ·obtain⟨k,s,ts⟩:=t;simp only [tnd] at hn;simp only [gFl,gJ8];rw [q ts (by omega) (by simpa only [tok,hJo] using ht)];rfl
   ·simp only [gGb,gIk];rw [qN ht.1,gKm ts 0 _ (fun x hx=>f x (by have:=gHt hx;omega) (gJ7.1 ht.2 x hx)) (by simp)];simp [hSa]
theorem gKn{rec:gB→Option gB}:∀(xs:List gB)(y:List gB),(∀x∈xs,rec x=some x)→y.length+xs.length≤4294967296→yA rec xs y=some (y++xs)
 | [],y,_,h=>by simp [yA]
 | x::xs,y,f,q=>by
   simp only [yA];rw [f x (by simp)];simp only [bnd,List.length_cons,List.length_nil] at q ⊢;rw [qN (by omega),gKn xs _ (fun z hz=>f z (by simp [hz])) (by simp;omega)];simp
theorem gZ0:∀(n:Nat),(∀t:gB,2*tnd t≤n→tok t→gFm n t=some (idT t))∧(∀ts:List gB,2*gHs ts+1≤n→hJo ts→gGc n ts=some (hSa ts))
 | 0=>⟨fun t h=>by have:=gIz t;omega,fun ts h=>by omega⟩
 | n+1=>by
   obtain⟨f,q⟩:=gZ0 n;refine⟨fun t hn ht=>?_,fun ts hn ht=>?_⟩
   ·obtain⟨k,s,ts⟩:=t;simp only [tnd] at hn;simp only [gFm,gKa];rw [q ts (by omega) (by simpa only [tok,hJo] using ht)];rfl
   ·simp only [gGc,gIl];rw [gKn ts _ (fun x hx=>f x (by have:=gHt hx;omega) (gJ7.1 ht.2 x hx)) (by simpa using ht.1)];simp [hSa]
theorem gKc(f:gB)(h:tok f):mK Tryz.prog 104 [.d (mM f)] [37] [mM (idT f)]:=gX6 (2*tnd f) f ((gZz _).1 _ (Nat.le_refl _) h)
theorem gHu(f:gB)(h:tok f):mK Tryz.prog 48 [.d (mM f)] [37] [mM (idT f)]:=gX8 (2*tnd f) f ((gZ0 _).1 _ (Nat.le_refl _) h)
def zR(a1:List gB)(a2:gB→gB→Option Bool):List gB→Nat→Option (Bool)
 | [],f=>(some true)
 | h::xs,f=>bnd (at? a1 (f:Int)) fun q=>
bnd (a2 h q) fun y=>
(cnd (!y) (
(some false)) (
zR a1 a2 xs (f+1)))
def gGd(f:List gB)(a1:List gB)(a2:gB→gB→Option Bool):Option (Bool):=
(cnd ((f.length:Int) !=(a1.length:Int)) (
(some false)) (
zR a1 a2 f 0))
theorem gWh(y:List gB)(a1:List gB){a2f:Nat}{a2c:List SV}{a2:gB→gB→Option Bool}(a2_lt:∀n,SV.lts n a2c=true)(ha2:∀(x0:gB)(x1:gB)(r:Bool),a2 x0 x1=some r→jI Tryz.prog a2f ([.d (mM x0),.d (mM x1)]++a2c) [.b r]){r:Bool}(h:gGd y a1 a2=some r):jI Tryz.prog 127 [.L 3 (gN y),.L 3 (gN a1),.fn a2f a2c] [.b r]:=by
 unfold gGd at h;refine SpI Tryz.func127 fun A _=>?_;refine goC h ?_ ?_<;>intro c1 h
 ·exact goR h
 ·refine goS ?_;refine noB ?_;refine gCw 15 (fun z3=>?_);refine pY (fun(q:Nat)=>⟨[(1,.L 3 (gN a1)),(2,.fn a2f a2c),(15,.L 3 (gN y)),(16,.I (y.length:Int)),(17,.N q)],[],Tryz.f127.ntmps⟩) (fun q=>zR a1 a2 (y.drop q) q=some r) (fun q=>y.length - q) 0 ⟨rfl,⟨⟨rfl,rfl⟩,⟨rfl,a2_lt _⟩,⟨rfl,rfl⟩,⟨rfl,rfl⟩,⟨rfl,rfl⟩,trivial⟩,⟨[],rfl⟩,rfl⟩ h ?_;rintro q h;refine goL ?_;refine kI (mR (fun c4=>?_) (fun c4=>?_))
  ·have f:=vR c4;obtain⟨x5,ad,aa⟩:=drop_at f;rw [aa,zR.eq_2] at h;obtain⟨aj,ak,al⟩:=x5;refine noS ?_;refine kI (jA ?_);refine goL ?_;refine jP (jR q (gDj ad)) ?_;obtain⟨x6,ab,h⟩:=gJ h;rw [gA4] at ab;obtain⟨am,an,ao⟩:=x6;refine jP (jR q (gDj ab)) ?_;obtain⟨x7,ae,h⟩:=gJ h;refine jP (gPv (ha2 _ _ _ ae) (a2_lt 0)) ?_;refine mR (fun c8=>?_) (fun c8=>?_)
   ·replace h:=kU c8 h;exact goR h
   ·replace h:=kV c8 h;refine goS ?_;refine jP (kD q (by omega)) ?_;exact⟨(q+1),h,by omega,⟨rfl,⟨⟨rfl,rfl⟩,⟨rfl,a2_lt _⟩,⟨rfl,rfl⟩,⟨rfl,rfl⟩,⟨rfl,rfl⟩,trivial⟩,⟨_,rfl⟩,rfl⟩⟩
  ·have f:=vS c4;rw [jK f,zR.eq_1] at h;refine goX ?_;refine jF ?_;cases h;exact uM
def gIm(f:gB→gB→Option (Bool))(h:gB)(a1:gB):Option (Bool):=
bnd ((cnd (h.kind==a1.kind) ((cnd (h.name==a1.name) (bnd (gGd h.args a1.args f) fun q=>
(some q)) ((some false)))) ((some false)))) fun y=>
(some y)
theorem gWi{f:gB→gB→Option (Bool)}(q:∀(x0:gB)(x1:gB){r:Bool},f x0 x1=some r→jI Tryz.prog 83 [.d (mM x0),.d (mM x1)] [.b r])(a0:gB)(a1:gB){r:Bool}(h:gIm f a0 a1=some r):jI Tryz.prog 83 [.d (mM a0),.d (mM a1)] [.b r]:=by
 obtain⟨ab,ac,y⟩:=a0;obtain⟨ad,ae,aa⟩:=a1;unfold gIm at h;refine SpI Tryz.func83 fun A _=>?_;refine goL ?_;obtain⟨b1,hb1,h⟩:=gJ h;refine kH ⟨[(4,.B b1)],[bTy ab ac y,bTy ad ae aa],Tryz.f83.ntmps⟩ ?_ ?_
 ·refine gqA 10 hb1 (fun c2 hb1=>?_);refine gqA 17 hb1 (fun c3 hb1=>?_);obtain⟨x4,aj,hb1⟩:=gJ hb1;refine jP (gI (gWh y aa (a2:=f) (fun _=>rfl) (fun x0 x1 r hr=>q x0 x1 hr) aj)) ?_;cases hb1;exact eJ
 exact goR h
def gIn:Nat→gB→gB→Option (Bool)
 | 0,_,_=>none
 | n+1,f,h=>gIm (gIn n) f h
theorem gWj:∀(n:Nat)(f:gB)(q:gB){r:Bool},gIn n f q=some r→jI Tryz.prog 83 [.d (mM f),.d (mM q)] [.b r]:=by
 intro n
 induction n with
 | zero=>intro f q r h;cases h
 | succ n ih=>intro f q r h;exact gWi ih f q h
def gIo(h:gB→gB→Option (Bool))(f:(List gB)→(List gB)→Option (Bool))(q:gB)(a1:gB):Option (Bool):=
bnd ((cnd (q.kind==a1.kind) ((cnd (q.name==a1.name) (bnd (f q.args a1.args) fun y=>
(some y)) ((some false)))) ((some false)))) fun b1=>
(some b1)
def gIp(f:gB→gB→Option (Bool)):Prop:=∀(h:gB)(q:gB){r:Bool},f h q=some r→jI Tryz.prog 119 [.d (mM h),.d (mM q)] [.b r]
def gX9(f:(List gB)→(List gB)→Option (Bool)):Prop:=∀(h:List gB)(q:List gB){r:Bool},f h q=some r→jI Tryz.prog 152 [.L 3 (gN h),.L 3 (gN q)] [.b r]
theorem gWk{f}{q}(aa:gIp f)(y:gX9 q)(a0:gB)(a1:gB){r:Bool}(h:gIo f q a0 a1=some r):jI Tryz.prog 119 [.d (mM a0),.d (mM a1)] [.b r]:=by
 obtain⟨ab,ac,ad⟩:=a0;obtain⟨ae,ag,ah⟩:=a1;unfold gIo at h;refine SpI Tryz.func119 fun A _=>?_;refine goL ?_;obtain⟨b1,hb1,h⟩:=gJ h;refine kH ⟨[(4,.B b1)],[bTy ab ac ad,bTy ae ag ah],Tryz.f119.ntmps⟩ ?_ ?_
 ·refine gqA 10 hb1 (fun c2 hb1=>?_);refine gqA 17 hb1 (fun c3 hb1=>?_);obtain⟨x4,aj,hb1⟩:=gJ hb1;refine jP (gI (y _ _ aj)) ?_;cases hb1;exact eJ
 exact goR h
def gFn(f:gB→gB→Option (Bool))(a1:List gB):List gB→Nat→Option (Bool)
 | [],h=>(some true)
 | q::xs,h=>bnd (at? a1 (h:Int)) fun y=>
bnd (f q y) fun x7=>
(cnd (!x7) (
(some false)) (
gFn f a1 xs (h+1)))
def gUt(f:gB→gB→Option (Bool))(h:(List gB)→(List gB)→Option (Bool))(q:List gB)(a1:List gB):Option (Bool):=
(cnd ((q.length:Int) !=(a1.length:Int)) (
(some false)) (
gFn f a1 q 0))
theorem hNr{f}{y}(q:gIp f)(ac:gX9 y)(a0:List gB)(a1:List gB){r:Bool}(h:gUt f y a0 a1=some r):jI Tryz.prog 152 [.L 3 (gN a0),.L 3 (gN a1)] [.b r]:=by
 unfold gUt at h;refine SpI Tryz.func152 fun A _=>?_;refine goC h ?_ ?_<;>intro c1 h
 ·exact goR h
 ·refine goS ?_;refine noB ?_;refine gCw 0 (fun z3=>?_);refine pY (fun(y2:Nat)=>⟨[(0,.L 3 (gN a0)),(1,.L 3 (gN a1)),(5,.N y2)],[],Tryz.f152.ntmps⟩) (fun y2=>gFn f a1 (a0.drop y2) y2=some r) (fun y2=>a0.length - y2) 0 eJ h ?_;rintro y2 h;refine goL ?_;refine mR (fun c4=>?_) (fun c4=>?_)
  ·have aa:=vR c4;obtain⟨x5,ai,ae⟩:=drop_at aa;rw [ae,gFn.eq_2] at h;obtain⟨ak,al,am⟩:=x5;refine noS ?_;refine kI (jA ?_);refine goL ?_;refine gDi (jR y2 (gDj ai)) ?_;refine goL ?_;obtain⟨x6,ag,h⟩:=gJ h;rw [gA4] at ag;obtain⟨an,ao,ap⟩:=x6;refine gDi (jR y2 (gDj ag)) ?_;refine goL ?_;obtain⟨x7,aj,h⟩:=gJ h;refine gDi (gI (q _ _ aj)) ?_;refine goC h ?_ ?_<;>intro c8 h
   ·exact goR h
   ·refine goS ?_;refine jP (kD y2 (by omega)) ?_;exact⟨(y2+1),h,by omega,eJ⟩
  ·have aa:=vS c4;rw [jK aa,gFn.eq_1] at h;refine goX ?_;refine jF ?_;cases h;exact uM
mutual
def gD9:Nat→gB→gB→Option (Bool)
 | 0,_,_=>none
 | n+1,f,h=>gIo (gD9 n) (gR6 n) f h
def gR6:Nat→(List gB)→(List gB)→Option (Bool)
 | 0,_,_=>none
 | n+1,f,h=>gUt (gD9 n) (gR6 n) f h
end
theorem gUu:∀(n:Nat),gIp (gD9 n)∧gX9 (gR6 n):=by
 intro n
 induction n with
 | zero=>exact⟨(by intro f q r h;cases h),(by intro f q r h;cases h)⟩
 | succ n ih=>
   obtain⟨ih0,ih1⟩:=ih;refine⟨(fun f q r h=>gWk ih0 ih1 f q h),(fun f q r h=>hNr ih0 ih1 f q h)⟩
theorem gWl:∀(n:Nat),gIp (gD9 n):=fun n=>(gUu n).1
mutual
def teq:gB→gB→Bool
 | ⟨k,n,ts⟩,⟨k',n',ts'⟩=>(k==k') && ((n==n') && hBu ts ts')
def hBu:List gB→List gB→Bool
 | [],[]=>true
 | a::ts,b::ts'=>teq a b && hBu ts ts'
 | _,_=>false
end
theorem gUv:∀{a b:List gB},a.length≠b.length→hBu a b=false
 | [],[],h=>by simp at h
 | a::ts,b::ts',h=>by
   simp only [hBu];rw [gUv (a:=ts) (b:=ts') (by simpa using h),Bool.and_false]
 | [],_::_,_=>rfl
 | _::_,[],_=>rfl
theorem gKo{p:gB→gB→Option Bool}(b:List gB):∀(xs:List gB)(k:Nat),(∀x∈xs,∀y,p x y=some (teq x y))→b.length=k+xs.length→zR b p xs k=some (hBu xs (b.drop k))
 | [],k,_,h=>by
   rw [List.drop_eq_nil_of_le (by simp at h;omega)];rfl
 | x::xs,k,hp,h=>by
   simp only [List.length_cons] at h;have hk:k < b.length:=by omega
   simp only [zR,gA4];rw [List.getElem?_eq_getElem hk,List.drop_eq_getElem_cons hk];simp only [bnd,hp x (by simp),hBu];cases hq:teq x b[k] with
   | true=>simp only [Bool.not_true,gW,Bool.true_and];exact gKo b xs (k+1) (fun z hz=>hp z (by simp [hz])) (by omega)
   | false=>rfl
theorem gUw{p:gB→gB→Option Bool}(a b:List gB)(hp:∀x∈a,∀y,p x y=some (teq x y)):gGd a b p=some (hBu a b):=by
 unfold gGd;by_cases h:a.length=b.length
 ·have:((a.length:Int) !=(b.length:Int))=false:=by simp [h]
  rw [this,gW,gKo b a 0 hp (by omega)];rfl
 ·have:((a.length:Int) !=(b.length:Int))=true:=by simp;omega
  rw [this,jQ,gUv h]
theorem gOa:∀(n:Nat)(a b:gB),tnd a≤n→gIn n a b=some (teq a b)
 | 0,a,b,h=>by have:=gIz a;omega
 | n+1,⟨k,s,ts⟩,⟨k',s',ts'⟩,h=>by
   simp only [tnd] at h;simp only [gIn,gIm,teq];rw [gUw ts ts' (fun x hx y=>gOa n x y (by have:=gHt hx;omega))];cases f:k==k'<;>cases q:s==s'<;>cases hBu ts ts'<;>rfl
theorem gR7{p:gB→gB→Option Bool}(b:List gB):∀(xs:List gB)(k:Nat),(∀x∈xs,∀y,p x y=some (teq x y))→b.length=k+xs.length→gFn p b xs k=some (hBu xs (b.drop k))
 | [],k,_,h=>by
   rw [List.drop_eq_nil_of_le (by simp at h;omega)];rfl
 | x::xs,k,hp,h=>by
   simp only [List.length_cons] at h;have hk:k < b.length:=by omega
   simp only [gFn,gA4];rw [List.getElem?_eq_getElem hk,List.drop_eq_getElem_cons hk];simp only [bnd,hp x (by simp),hBu];cases hq:teq x b[k] with
   | true=>simp only [Bool.not_true,gW,Bool.true_and];exact gR7 b xs (k+1) (fun z hz=>hp z (by simp [hz])) (by omega)
   | false=>rfl
theorem gWm:∀(n:Nat),(∀a b:gB,2*tnd a≤n→gD9 n a b=some (teq a b))∧(∀a b:List gB,2*gHs a+1≤n→gR6 n a b=some (hBu a b))
 | 0=>⟨fun t _ h=>by have:=gIz t;omega,fun ts _ h=>by omega⟩
 | n+1=>by
   obtain⟨f,q⟩:=gWm n;refine⟨fun a b hn=>?_,fun a b hn=>?_⟩
   ·obtain⟨k,s,ts⟩:=a;obtain⟨k',s',ts'⟩:=b;simp only [tnd] at hn;simp only [gD9,gIo,teq];rw [q ts ts' (by omega)];cases f:k==k'<;>cases q:s==s'<;>cases hBu ts ts'<;>rfl
   ·simp only [gR6,gUt];by_cases h:a.length=b.length
    ·have:((a.length:Int) !=(b.length:Int))=false:=by simp [h]
     rw [this,gW,gR7 b a 0 (fun x hx y=>f x y (by have:=gHt hx;omega)) (by omega)];rfl
    ·have:((a.length:Int) !=(b.length:Int))=true:=by simp;omega
     rw [this,jQ,gUv h]
theorem gPb(f:gB)(h:gB):jI Tryz.prog 83 [.d (mM f),.d (mM h)] [.b (teq f h)]:=gWj (tnd f) f h (gOa _ _ _ (Nat.le_refl _))
theorem gIq(f:gB)(h:gB):jI Tryz.prog 119 [.d (mM f),.d (mM h)] [.b (teq f h)]:=gWl (2*tnd f) f h ((gWm _).1 _ _ (Nat.le_refl _))
mutual
def tsz:gB→Int
 | ⟨_,_,ts⟩=>hSc ts 1
def hSc:List gB→Int→Int
 | [],y=>y
 | a::ts,y=>hSc ts (IntKind.i64.wrap (y+tsz a))
end
def gAm(f:gB→Option (Int)):List gB→Int→Option (Int)
 | [],h=>(some h)
 | q::xs,h=>bnd (f q) fun y=>
gAm f xs (IntKind.i64.wrap (h+y))
def gKd(f:gB→Option (Int))(h:gB):Option (Int):=
gAm f h.args 1
theorem gYa{f:gB→Option (Int)}(q:∀(x0:gB){r:Int},f x0=some r→jI Tryz.prog 121 [.d (mM x0)] [.i .i64 r])(a0:gB){r:Int}(h:gKd f a0=some r):jI Tryz.prog 121 [.d (mM a0)] [.i .i64 r]:=by
 obtain⟨ad,ae,aa⟩:=a0;unfold gKd at h;refine SpI Tryz.func121 fun A _=>?_;refine goL ?_;refine noB ?_;refine yC 0 2 (fun z3=>?_);refine gFc (fun(y2:Nat)(y1:Int)=>⟨[(1,.ptr 0 0),(3,.I y1),(4,.N y2)],[bTy ad ae aa],Tryz.f121.ntmps⟩) (fun y2 y1=>gAm f (aa.drop y2) y1=some r) (fun y2 y1=>aa.length - y2) 0 1 eJ h ?_;rintro y2 y1 h;refine goL ?_;refine mR (fun c4=>?_) (fun c4=>?_)
 ·have y:=vR c4;obtain⟨x5,aj,ag⟩:=drop_at y;rw [ag,gAm.eq_2] at h;obtain⟨am,an,ao⟩:=x5;refine noS ?_;refine kI (jA ?_);refine goL ?_;refine jP (jR y2 (gDj aj)) ?_;obtain⟨x6,ak,h⟩:=gJ h;refine uN (gI (q _ ak)) ?_;refine jP (pV) ?_;refine jP (kD y2 (by omega)) ?_;exact⟨(y2+1),(IntKind.i64.wrap (y1+x6)),h,by omega,eJ⟩
 ·have y:=vS c4;rw [jK y,gAm.eq_1] at h;refine goX ?_;refine jF ?_;cases h;exact uM
def gKe:Nat→gB→Option (Int)
 | 0,_=>none
 | n+1,f=>gKd (gKe n) f
theorem gYb:∀(n:Nat)(f:gB){r:Int},gKe n f=some r→jI Tryz.prog 121 [.d (mM f)] [.i .i64 r]:=by
 intro n
 induction n with
 | zero=>intro f r h;cases h
 | succ n ih=>intro f r h;exact gYa ih f h
theorem gLx{rec:gB→Option Int}:∀(xs:List gB)(y:Int),(∀x∈xs,rec x=some (tsz x))→gAm rec xs y=some (hSc xs y)
 | [],y,_=>rfl
 | x::xs,y,h=>by
   simp only [gAm,h x (by simp),bnd,hSc];exact gLx xs _ (fun z hz=>h z (by simp [hz]))
theorem gPc:∀(n:Nat)(t:gB),tnd t≤n→gKe n t=some (tsz t)
 | 0,t,h=>by have:=gIz t;omega
 | n+1,⟨k,s,ts⟩,h=>by
   simp only [tnd] at h;simp only [gKe,gKd,tsz];exact gLx ts 1 (fun x hx=>gPc n x (by have:=gHt hx;omega))
theorem gYc(f:gB):jI Tryz.prog 121 [.d (mM f)] [.i .i64 (tsz f)]:=gYb (tnd f) f (gPc _ _ (Nat.le_refl _))
def gCq(a1:LB):List gU→Option (gB × Bool)
 | []=>(some ((gB.mk 0 [] []),false))
 | f::xs=>(cnd (f.var_==a1) (
gd (tok f.type_) (lt_ (idT f.type_) fun h=>
(some (h,true)))) (
gCq a1 xs ))
def gJg(f:List gU)(a1:LB):Option (gB × Bool):=
gCq a1 f
theorem gWn(a0:List gU)(a1:LB){r:gB × Bool}(h:gJg a0 a1=some r):mK Tryz.prog 90 [.L 4 (jY a0),.S a1] [37] [mM r.1,.b r.2]:=by
 unfold gJg at h;refine qB Tryz.func90 rfl (by kernel_rfl) rfl (by simp) fun A _=>?_;refine goL ?_;refine noB ?_;refine gCw 8 (fun z2=>?_);refine pY (fun(q:Nat)=>⟨[(1,.S a1),(4,.ptr 0 0),(8,.L 4 (jY a0)),(9,.I (a0.length:Int)),(10,.N q)],[.box [.I 0,.S [],.nilsl]],Tryz.f90.ntmps⟩) (fun q=>gCq a1 (a0.drop q)  =some r) (fun q=>a0.length - q) 0 eJ h ?_;rintro q h;refine goL ?_;refine kI (mR (fun c3=>?_) (fun c3=>?_))
 ·have f:=vR c3;obtain⟨x4,ag,ad⟩:=drop_at f;rw [ad,gCq.eq_2] at h;obtain⟨aj,⟨y,aa,ab⟩⟩:=x4;refine noS ?_;refine kI (jA ?_);refine goL ?_;refine jP (jR q (gUb ag)) ?_;refine mR (fun c5=>?_) (fun c5=>?_)
  ·replace h:=kU c5 h;refine goL ?_;obtain⟨g6,h⟩:=pU h;obtain⟨⟨ak,al,am⟩,ai,h⟩:=uK h;have sx7:=gKc (gB.mk y aa ab) g6;rw [ai] at sx7;refine gE3 (sx7) ?_;refine goL ?_;refine jF ?_;obtain rfl:=Option.some.inj h;exact gNw
  ·replace h:=kV c5 h;refine goS ?_;refine jP (kD q (by omega)) ?_;exact⟨(q+1),h,by omega,eJ⟩
 ·have f:=vS c3;rw [jK f,gCq.eq_1] at h;refine goX ?_;refine yT (jN TBd.h TZ.h rfl (by repeat constructor)) ?_;refine hDo 37 3 0 2 rfl rfl (by repeat constructor) (by repeat constructor) (by repeat constructor) (by repeat constructor) ?_;refine jF ?_;obtain rfl:=Option.some.inj h;exact gNw
def gP9(h:(List gU)→gB→Option (gB))(f:(List gU)→(List gB)→Option (List gB))(q:List gU)(a1:gB):Option (gB):=
(cnd (a1.kind==1) (
bnd (gJg q a1.name) fun y=>
(cnd y.2 (
(some y.1)) (
bnd (f q a1.args) fun x4=>
(some (gB.mk a1.kind a1.name x4))))) (
bnd (f q a1.args) fun x5=>
(some (gB.mk a1.kind a1.name x5))))
def gQa(f:(List gU)→gB→Option (gB)):Prop:=∀(h:List gU)(q:gB){r:gB},f h q=some r→mK Tryz.prog 59 [.L 4 (jY h),.d (mM q)] [37] [mM r]
def gM2(f:(List gU)→(List gB)→Option (List gB)):Prop:=∀(h:List gU)(q:List gB){r:List gB},f h q=some r→mK Tryz.prog 91 [.L 4 (jY h),.L 3 (gN q)] [37] [.sl 3 (gN r)]
theorem hJp{y}{q}(aa:gQa y)(f:gM2 q)(a0:List gU)(a1:gB){r:gB}(h:gP9 y q a0 a1=some r):mK Tryz.prog 59 [.L 4 (jY a0),.d (mM a1)] [37] [mM r]:=by
 obtain⟨al,ad,ab⟩:=a1;unfold gP9 at h;refine qB Tryz.func59 rfl (by kernel_rfl) rfl (by simp) fun A _=>?_;refine goC h ?_ ?_<;>intro c1 h
 ·refine goL ?_;obtain⟨⟨⟨ae,ag,ah⟩,am⟩,ai,h⟩:=gJ h;refine gE3 (gWn a0 ad ai) ?_;refine goC h ?_ ?_<;>intro c3 h
  ·refine goL ?_;refine jF ?_;obtain rfl:=Option.some.inj h;exact gNw
  ·refine noS ?_;refine jS (P:=Tryz.prog) Mix.h [(0,true),(1,true),(2,true),(3,true),(4,true),(5,true),(6,true),(7,false),(8,true),(9,false)] (by kernel_rfl) ?_;refine goY ?_;obtain⟨x4,aj,h⟩:=gJ h;refine gRi (f a0 ab aj) ?_;refine goY ?_;refine mJ ?_;refine goL ?_;refine jF ?_;obtain rfl:=Option.some.inj h;exact gNw
 ·refine noS ?_;refine jS (P:=Tryz.prog) Mix.h [(0,true),(1,true),(2,true),(3,true),(4,true),(5,true),(6,true),(7,false),(8,true),(9,false)] (by kernel_rfl) ?_;refine goY ?_;obtain⟨x5,ak,h⟩:=gJ h;refine gRi (f a0 ab ak) ?_;refine goY ?_;refine mJ ?_;refine goL ?_;refine jF ?_;obtain rfl:=Option.some.inj h;exact gNw
def zF(f:(List gU)→gB→Option (gB))(y:List gU):List gB→Nat→(List gB)→Option (List gB)
 | [],h,q=>(some q)
 | x7::xs,h,q=>bnd (f y x7) fun x8=>
gd (h < q.length) (
zF f y xs (h+1) (q.set h x8))
def gKf(f:(List gU)→gB→Option (gB))(h:(List gU)→(List gB)→Option (List gB))(q:List gU)(a1:List gB):Option (List gB):=
gd (a1.length≤4294967296) (
zF f q a1 0 (List.replicate a1.length (gB.mk 0 [] [])))
theorem gYd{f}{q}(y:gQa f)(ab:gM2 q)(a0:List gU)(a1:List gB){r:List gB}(h:gKf f q a0 a1=some r):mK Tryz.prog 91 [.L 4 (jY a0),.L 3 (gN a1)] [37] [.sl 3 (gN r)]:=by
 unfold gKf at h;refine qB Tryz.func91 rfl (by kernel_rfl) rfl (by simp) fun A _=>?_;refine goL ?_;obtain⟨g1,h⟩:=pU h;refine hIc (gB.mk 0 [] []) g1 ?_;refine goL ?_;refine noB ?_;refine gCw 11 (fun z5=>?_);refine mG (fun(y4:Nat)(y2:List gB)(v3:Nat)=>⟨[(0,.L 4 (jY a0)),(5,.sl 0 v3),(11,.L 3 (gN a1)),(12,.I (a1.length:Int)),(13,.N y4)],[.own 37 3 v3 (gN y2)],Tryz.f91.ntmps⟩) (fun y4 y2 v3=>zF f a0 (a1.drop y4) y4 y2=some r) (fun y4 y2 v3=>a1.length - y4) 0 (List.replicate a1.length (gB.mk 0 [] [])) 0 eJ h ?_;rintro y4 y2 v3 h;refine goL ?_;refine kI (mR (fun c6=>?_) (fun c6=>?_))
 ·have aa:=vR c6;obtain⟨x7,ap,ak⟩:=drop_at aa;rw [ak,zF.eq_2] at h;obtain⟨al,am,an⟩:=x7;refine noS ?_;refine kI (jA ?_);refine goL ?_;refine jP (jR y4 (gDj ap)) ?_;obtain⟨⟨ad,ae,ag⟩,aq,h⟩:=gJ h;refine gE3 (y a0 (gB.mk al am an) aq) ?_;obtain⟨g9,h⟩:=pU h;refine vP (hId y4 g9) ?_;refine hIf (gB.mk ad ae ag) g9 ?_;refine goL ?_;refine jP (kD y4 (by omega)) ?_;exact⟨(y4+1),(y2.set y4 (gB.mk ad ae ag)),v3,h,by omega,eJ⟩
 ·have aa:=vS c6;rw [jK aa,zF.eq_1] at h;refine goX ?_;refine jF ?_;obtain rfl:=Option.some.inj h;exact gNw
mutual
def gMh:Nat→(List gU)→gB→Option (gB)
 | 0,_,_=>none
 | n+1,f,h=>gP9 (gMh n) (gHv n) f h
def gHv:Nat→(List gU)→(List gB)→Option (List gB)
 | 0,_,_=>none
 | n+1,f,h=>gKf (gMh n) (gHv n) f h
end
theorem hGf:∀(n:Nat),gQa (gMh n)∧gM2 (gHv n):=by
 intro n
 induction n with
 | zero=>exact⟨(by intro f q r h;cases h),(by intro f q r h;cases h)⟩
 | succ n ih=>
   obtain⟨ih0,ih1⟩:=ih;refine⟨(fun f q r h=>hJp ih0 ih1 f q h),(fun f q r h=>gYd ih0 ih1 f q h)⟩
theorem hJq:∀(n:Nat),gQa (gMh n):=fun n=>(hGf n).1
def gCr(a1:LB):List gU→Option (gB × Bool)
 | []=>(some ((gB.mk 0 [] []),false))
 | f::xs=>(cnd (f.var_==a1) (
gd (tok f.type_) (lt_ (idT f.type_) fun h=>
(some (h,true)))) (
gCr a1 xs ))
def gJh(f:List gU)(a1:LB):Option (gB × Bool):=
gCr a1 f
theorem gWo(a0:List gU)(a1:LB){r:gB × Bool}(h:gJh a0 a1=some r):mK Tryz.prog 153 [.L 4 (jY a0),.S a1] [37] [mM r.1,.b r.2]:=by
 unfold gJh at h;refine qB Tryz.func153 rfl (by kernel_rfl) rfl (by simp) fun A _=>?_;refine goL ?_;refine noB ?_;refine gCw 0 (fun z2=>?_);refine pY (fun(q:Nat)=>⟨[(0,.L 4 (jY a0)),(1,.S a1),(4,.ptr 0 0),(6,.N q)],[.box [.I 0,.S [],.nilsl]],Tryz.f153.ntmps⟩) (fun q=>gCr a1 (a0.drop q)  =some r) (fun q=>a0.length - q) 0 eJ h ?_;rintro q h;refine goL ?_;refine mR (fun c3=>?_) (fun c3=>?_)
 ·have f:=vR c3;obtain⟨x4,ad,ae⟩:=drop_at f;rw [ae,gCr.eq_2] at h;obtain⟨aj,⟨y,aa,ab⟩⟩:=x4;refine noS ?_;refine kI (jA ?_);refine goL ?_;refine jP (jR q (gUb ad)) ?_;refine mR (fun c5=>?_) (fun c5=>?_)
  ·replace h:=kU c5 h;refine goL ?_;refine jP (jR q (gUb ad)) ?_;obtain⟨g6,h⟩:=pU h;obtain⟨⟨ak,al,am⟩,ai,h⟩:=uK h;have sx7:=gHu (gB.mk y aa ab) g6;rw [ai] at sx7;refine gE3 (sx7) ?_;refine goL ?_;refine jF ?_;obtain rfl:=Option.some.inj h;exact gNw
  ·replace h:=kV c5 h;refine goS ?_;refine jP (kD q (by omega)) ?_;exact⟨(q+1),h,by omega,eJ⟩
 ·have f:=vS c3;rw [jK f,gCr.eq_1] at h;refine goX ?_;refine yT (jN TBd.h TZ.h rfl (by repeat constructor)) ?_;refine hDo 37 3 0 2 rfl rfl (by repeat constructor) (by repeat constructor) (by repeat constructor) (by repeat constructor) ?_;refine jF ?_;obtain rfl:=Option.some.inj h;exact gNw
def gQb(h:(List gU)→gB→Option (gB))(f:(List gU)→(List gB)→Option (List gB))(q:List gU)(a1:gB):Option (gB):=
(cnd (a1.kind==1) (
bnd (gJh q a1.name) fun y=>
(cnd y.2 (
(some y.1)) (
bnd (f q a1.args) fun x4=>
(some (gB.mk a1.kind a1.name x4))))) (
bnd (f q a1.args) fun x5=>
(some (gB.mk a1.kind a1.name x5))))
def gQc(f:(List gU)→gB→Option (gB)):Prop:=∀(h:List gU)(q:gB){r:gB},f h q=some r→mK Tryz.prog 122 [.L 4 (jY h),.d (mM q)] [37] [mM r]
def gM3(f:(List gU)→(List gB)→Option (List gB)):Prop:=∀(h:List gU)(q:List gB){r:List gB},f h q=some r→mK Tryz.prog 154 [.L 4 (jY h),.L 3 (gN q)] [37] [.sl 3 (gN r)]
theorem hJr{y}{q}(aa:gQc y)(f:gM3 q)(a0:List gU)(a1:gB){r:gB}(h:gQb y q a0 a1=some r):mK Tryz.prog 122 [.L 4 (jY a0),.d (mM a1)] [37] [mM r]:=by
 obtain⟨al,ad,ab⟩:=a1;unfold gQb at h;refine qB Tryz.func122 rfl (by kernel_rfl) rfl (by simp) fun A _=>?_;refine goC h ?_ ?_<;>intro c1 h
 ·refine goL ?_;obtain⟨⟨⟨ae,ag,ah⟩,am⟩,ai,h⟩:=gJ h;refine gE3 (gWo a0 ad ai) ?_;refine goC h ?_ ?_<;>intro c3 h
  ·refine goL ?_;refine jF ?_;obtain rfl:=Option.some.inj h;exact gNw
  ·refine noS ?_;refine jS (P:=Tryz.prog) Mix.h [(0,true),(1,true),(2,true),(3,true),(4,true),(5,true),(6,true),(7,false),(8,true),(9,false)] (by kernel_rfl) ?_;refine goY ?_;obtain⟨x4,aj,h⟩:=gJ h;refine gRi (f a0 ab aj) ?_;refine goY ?_;refine mJ ?_;refine goL ?_;refine jF ?_;obtain rfl:=Option.some.inj h;exact gNw
 ·refine noS ?_;refine jS (P:=Tryz.prog) Mix.h [(0,true),(1,true),(2,true),(3,true),(4,true),(5,true),(6,true),(7,false),(8,true),(9,false)] (by kernel_rfl) ?_;refine goY ?_;obtain⟨x5,ak,h⟩:=gJ h;refine gRi (f a0 ab ak) ?_;refine goY ?_;refine mJ ?_;refine goL ?_;refine jF ?_;obtain rfl:=Option.some.inj h;exact gNw
def zG(f:(List gU)→gB→Option (gB))(q:List gU):List gB→(List gB)→Option (List gB)
 | [],h=>(some h)
 | x6::xs,h=>bnd (f q x6) fun y=>
gd (h.length+[y].length≤4294967296) (
zG f q xs (h++[y]))
def gKg(f:(List gU)→gB→Option (gB))(h:(List gU)→(List gB)→Option (List gB))(q:List gU)(a1:List gB):Option (List gB):=
zG f q a1 []
theorem gYe{f}{q}(y:gQc f)(ab:gM3 q)(a0:List gU)(a1:List gB){r:List gB}(h:gKg f q a0 a1=some r):mK Tryz.prog 154 [.L 4 (jY a0),.L 3 (gN a1)] [37] [.sl 3 (gN r)]:=by
 unfold gKg at h;refine qB Tryz.func154 rfl (by kernel_rfl) rfl (by simp) fun A _=>?_;refine goL ?_;refine gC1 ?_;refine goL ?_;refine noB ?_;refine gCw 1 (fun z4=>?_);refine mG (fun(y3:Nat)(y1:List gB)(v2:Nat)=>⟨[(0,.L 4 (jY a0)),(1,.L 3 (gN a1)),(5,.sl 0 v2),(6,.N y3)],[.own 37 3 v2 (gN y1)],Tryz.f154.ntmps⟩) (fun y3 y1 v2=>zG f a0 (a1.drop y3) y1=some r) (fun y3 y1 v2=>a1.length - y3) 0 [] 0 eJ h ?_;rintro y3 y1 v2 h;refine goL ?_;refine mR (fun c5=>?_) (fun c5=>?_)
 ·have aa:=vR c5;obtain⟨x6,ap,ak⟩:=drop_at aa;rw [ak,zG.eq_2] at h;obtain⟨al,am,an⟩:=x6;refine noS ?_;refine kI (jA ?_);refine goL ?_;refine jP (jR y3 (gDj ap)) ?_;obtain⟨⟨ad,ae,ag⟩,aq,h⟩:=gJ h;refine gE3 (y a0 (gB.mk al am an) aq) ?_;refine wX (gB.mk ad ae ag) ?_;obtain⟨g8,h⟩:=pU h;refine gDl g8 ?_;refine goL ?_;refine jP (kD y3 (by omega)) ?_;exact⟨(y3+1),(y1++[(gB.mk ad ae ag)]),(v2+1),h,by omega,eJ⟩
 ·have aa:=vS c5;rw [jK aa,zG.eq_1] at h;refine goX ?_;refine jF ?_;obtain rfl:=Option.some.inj h;exact gNw
mutual
def gMi:Nat→(List gU)→gB→Option (gB)
 | 0,_,_=>none
 | n+1,f,h=>gQb (gMi n) (gHw n) f h
def gHw:Nat→(List gU)→(List gB)→Option (List gB)
 | 0,_,_=>none
 | n+1,f,h=>gKg (gMi n) (gHw n) f h
end
theorem hGg:∀(n:Nat),gQc (gMi n)∧gM3 (gHw n):=by
 intro n
 induction n with
 | zero=>exact⟨(by intro f q r h;cases h),(by intro f q r h;cases h)⟩
 | succ n ih=>
   obtain⟨ih0,ih1⟩:=ih;refine⟨(fun f q r h=>hJr ih0 ih1 f q h),(fun f q r h=>gYe ih0 ih1 f q h)⟩
theorem hJt:∀(n:Nat),gQc (gMi n):=fun n=>(hGg n).1
def lkp(v:LB):List gU→gB × Bool
 | []=>(⟨0,[],[]⟩,false)
 | b::l=>cnd (b.var_==v) (b.type_,true) (lkp v l)
def bok(l:List gU):Prop:=∀b∈l,tok b.type_
instance (l:List gU):Decidable (bok l):=inferInstanceAs (Decidable (∀b∈l,tok b.type_))
theorem gOz(k:Int)(n:LB):tok ⟨k,n,[]⟩:=by simp [tok,gX4]
theorem gR8{v:LB}:∀{l:List gU},(lkp v l).2=true→∃b∈l,b.var_=v∧(lkp v l).1=b.type_
 | [],h=>by cases h
 | b::l,h=>by
   simp only [lkp] at h ⊢;cases hb:b.var_==v with
   | true=>exact⟨b,by simp,by simpa using hb,rfl⟩
   | false=>
     rw [hb] at h;obtain⟨c,f,q,y⟩:=gR8 (l:=l) h;exact⟨c,by simp [f],q,y⟩
theorem hGh{v:LB}:∀{l:List gU},(lkp v l).2=false→(lkp v l).1=⟨0,[],[]⟩
 | [],h=>rfl
 | b::l,h=>by
   simp only [lkp] at h ⊢;cases hb:b.var_==v with
   | true=>rw [hb] at h;cases h
   | false=>rw [hb] at h;exact hGh (l:=l) h
theorem hNt{v:LB}{l:List gU}(h:bok l):tok (lkp v l).1:=by
 cases hb:(lkp v l).2 with
 | true=>
   obtain⟨b,f,_,q⟩:=gR8 hb;rw [q];exact h b f
 | false=>rw [hGh hb];exact gOz _ _
mutual
def apT(l:List gU):gB→gB
 | ⟨k,n,ts⟩=>cnd (k==1) (cnd (lkp n l).2 (lkp n l).1 ⟨k,n,gTg l ts⟩) ⟨k,n,gTg l ts⟩
def gTg(l:List gU):List gB→List gB
 | []=>[]
 | a::ts=>apT l a::gTg l ts
end
theorem gQd(l:List gU):∀ts:List gB,gTg l ts=ts.map (apT l)
 | []=>rfl
 | a::ts=>by simp only [gTg,List.map_cons,gQd l ts]
theorem hJu(l:List gU)(ts:List gB):(gTg l ts).length=ts.length:=by rw [gQd,List.length_map]
theorem gKh(v:LB):∀(l:List gU),bok l→gCq v l=some (lkp v l)
 | [],_=>rfl
 | b::l,h=>by
   simp only [gCq,lkp];rw [qN (h b (by simp)),gKh v l (fun c hc=>h c (by simp [hc]))];cases b.var_==v<;>rfl
theorem gKi(v:LB):∀(l:List gU),bok l→gCr v l=some (lkp v l)
 | [],_=>rfl
 | b::l,h=>by
   simp only [gCr,lkp];rw [qN (h b (by simp)),gKi v l (fun c hc=>h c (by simp [hc]))];cases b.var_==v<;>rfl
theorem gLy{rec:List gU→gB→Option gB}(l:List gU)(f:gB→gB):∀(xs:List gB)(k:Nat)(y:List gB),(∀x∈xs,rec l x=some (f x))→y.length=k+xs.length→zF rec l xs k y=some (y.take k++xs.map f)
 | [],k,y,_,h=>by
   simp only [zF,List.map_nil,List.append_nil];rw [List.take_of_length_le (by simp at h;omega)]
 | x::xs,k,y,q,h2=>by
   simp only [zF];rw [q x (by simp)];simp only [bnd,List.length_cons] at h2 ⊢;rw [qN (by omega),gLy l f xs (k+1) _ (fun z hz=>q z (by simp [hz])) (by simp;omega),gGx (by omega)];simp
theorem gWp:∀(n:Nat),(∀(l:List gU)(t:gB),bok l→tok t→2*tnd t≤n→gMh n l t=some (apT l t))∧(∀(l:List gU)(ts:List gB),bok l→hJo ts→2*gHs ts+1≤n→gHv n l ts=some (gTg l ts))
 | 0=>⟨fun _ t _ _ h=>by have:=gIz t;omega,fun _ ts _ _ h=>by omega⟩
 | n+1=>by
   obtain⟨f,q⟩:=gWp n;refine⟨fun l t hl ht hn=>?_,fun l ts hl ht hn=>?_⟩
   ·obtain⟨k,s,ts⟩:=t;simp only [tnd] at hn;simp only [gMh,gP9,gJg,apT];rw [q l ts hl (by simpa only [tok,hJo] using ht) (by omega),gKh s l hl];simp only [bnd];cases k==1<;>cases (lkp s l).2<;>rfl
   ·simp only [gHv,gKf];rw [qN ht.1,gLy l (apT l) ts 0 _ (fun x hx=>f l x hl (gJ7.1 ht.2 x hx) (by have:=gHt hx;omega)) (by simp)];simp [gQd]
theorem gLz{rec:List gU→gB→Option gB}(l:List gU)(f:gB→gB):∀(xs:List gB)(y:List gB),(∀x∈xs,rec l x=some (f x))→y.length+xs.length≤4294967296→zG rec l xs y=some (y++xs.map f)
 | [],y,_,h=>by simp [zG]
 | x::xs,y,q,h2=>by
   simp only [zG];rw [q x (by simp)];simp only [bnd,List.length_cons,List.length_nil] at h2 ⊢;rw [qN (by omega),gLz l f xs _ (fun z hz=>q z (by simp [hz])) (by simp;omega)];simp
theorem gWq:∀(n:Nat),(∀(l:List gU)(t:gB),bok l→tok t→2*tnd t≤n→gMi n l t=some (apT l t))∧(∀(l:List gU)(ts:List gB),bok l→hJo ts→2*gHs ts+1≤n→gHw n l ts=some (gTg l ts))
 | 0=>⟨fun _ t _ _ h=>by have:=gIz t;omega,fun _ ts _ _ h=>by omega⟩
 | n+1=>by
   obtain⟨f,q⟩:=gWq n;refine⟨fun l t hl ht hn=>?_,fun l ts hl ht hn=>?_⟩
   ·obtain⟨k,s,ts⟩:=t;simp only [tnd] at hn;simp only [gMi,gQb,gJh,apT];rw [q l ts hl (by simpa only [tok,hJo] using ht) (by omega),gKi s l hl];simp only [bnd];cases k==1<;>cases (lkp s l).2<;>rfl
   ·simp only [gHw,gKg];rw [gLz l (apT l) ts _ (fun x hx=>f l x hl (gJ7.1 ht.2 x hx) (by have:=gHt hx;omega)) (by simpa using ht.1)];simp [gQd]
mutual
theorem gUx{l:List gU}(hl:bok l):∀(t:gB),tok t→tok (apT l t)
 | ⟨k,n,ts⟩,h=>by
   simp only [tok] at h;have q:=gZ1 hl ts h.2;have f:tok ⟨k,n,gTg l ts⟩:=by simp only [tok,hJu];exact⟨h.1,q⟩
   simp only [apT];cases k==1 with
   | false=>exact f
   | true=>
     simp only [jQ];cases (lkp n l).2 with
     | false=>exact f
     | true=>exact hNt hl
theorem gZ1{l:List gU}(hl:bok l):∀(ts:List gB),gX4 ts→gX4 (gTg l ts)
 | [],_=>by simp [gTg,gX4]
 | a::ts,h=>by
   simp only [gX4] at h;simp only [gTg,gX4];exact⟨gUx hl a h.1,gZ1 hl ts h.2⟩
end
def hP9(M:Nat)(l:List gU):Prop:=1≤M∧∀b∈l,tnd b.type_≤M
theorem hNu{M:Nat}{v:LB}{l:List gU}(h:hP9 M l):tnd (lkp v l).1≤M:=by
 cases hb:(lkp v l).2 with
 | true=>
   obtain⟨b,f,_,q⟩:=gR8 hb;rw [q];exact h.2 b f
 | false=>rw [hGh hb];simp only [tnd,gHs];exact h.1
mutual
theorem gYf{M:Nat}{l:List gU}(hl:hP9 M l):∀(t:gB),tnd (apT l t)≤M*tnd t
 | ⟨k,n,ts⟩=>by
   have h:=gZ2 hl ts;have y:=hl.1;have f:tnd ⟨k,n,gTg l ts⟩≤M*(1+gHs ts):=by
    simp only [tnd,Nat.mul_add];omega
   have q:tnd (lkp n l).1≤M*(1+gHs ts):=by
    have:=hNu (v:=n) hl
    rw [Nat.mul_add];omega
   simp only [apT];cases k==1 with
   | false=>exact f
   | true=>
     simp only [jQ];cases (lkp n l).2 with
     | false=>exact f
     | true=>exact q
theorem gZ2{M:Nat}{l:List gU}(hl:hP9 M l):∀(ts:List gB),gHs (gTg l ts)≤M*gHs ts
 | []=>by simp [gTg,gHs]
 | a::ts=>by
   have h:=gYf hl a;have f:=gZ2 hl ts;simp only [gTg,gHs,Nat.mul_add];omega
end
theorem gZ3(q:List gU)(f:gB)(h:bok q∧tok f):mK Tryz.prog 59 [.L 4 (jY q),.d (mM f)] [37] [mM (apT q f)]:=hJq (2*tnd f) q f ((gWp _).1 _ _ h.1 h.2 (Nat.le_refl _))
theorem gZ4(q:List gU)(f:gB)(h:bok q∧tok f):mK Tryz.prog 122 [.L 4 (jY q),.d (mM f)] [37] [mM (apT q f)]:=hJt (2*tnd f) q f ((gWq _).1 _ _ h.1 h.2 (Nat.le_refl _))
end Go.Proofs.YtfpdlnkkcnmebaaGreat
