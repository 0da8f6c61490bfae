import Derived.Test.YtegahmhnmjnhhaaGreatEng73
set_option maxHeartbeats 4000000
set_option linter.unusedVariables false
set_option linter.unusedSimpArgs false
set_option linter.unusedSectionVars false
namespace Go.Proofs.YtegahmhnmjnhhaaGreat
open Go Go.Eng
attribute [local irreducible] V VO VQ VY Quiet QR gY kR Rng mU mW mG
mutual
def tnd:gB→Nat
 | ⟨_,_,ts⟩=>1+gAb ts
def gAb:List gB→Nat
 | []=>0
 | a::ts=>tnd a+gAb ts
end
mutual
def tok:gB→Prop
 | ⟨_,_,ts⟩=>ts.length≤4294967296∧gU3 ts
def gU3:List gB→Prop
 | []=>True
 | a::ts=>tok a∧gU3 ts
end
def hRd(ts:List gB):Prop:=ts.length≤4294967296∧gU3 ts
theorem gIy:∀{ts:List gB},gU3 ts↔∀t∈ts,tok t
 | []=>by simp [gU3]
 | a::ts=>by simp [gU3,gIy (ts:=ts)]
theorem yU{x:gB}:∀{ts:List gB},x∈ts→tnd x≤gAb ts
 | [],h=>by simp at h
 | a::ts,h=>by
   simp only [gAb];rcases List.mem_cons.1 h with rfl | h
   ·omega
   ·have:=yU h
    omega
theorem gBs(t:gB):1≤tnd t:=by cases t;simp only [tnd];omega
def idT(t:gB):gB:=t
def hZ8(t:List gB):List gB:=t
mutual
def jD5:gB→Bool
 | ⟨_,_,ts⟩=>decide (ts.length≤4294967296) && hMl ts
def hMl:List gB→Bool
 | []=>true
 | a::ts=>jD5 a && hMl ts
end
mutual
theorem hEn:∀(t:gB),jD5 t=true↔tok t
 | ⟨k,n,ts⟩=>by simp only [jD5,tok,Bool.and_eq_true,decide_eq_true_eq,gY8 ts]
theorem gY8:∀(ts:List gB),hMl ts=true↔gU3 ts
 | []=>by simp [hMl,gU3]
 | a::ts=>by simp only [hMl,gU3,Bool.and_eq_true,hEn a,gY8 ts]
end
instance (t:gB):Decidable (tok t):=decidable_of_iff _ (hEn t)
def gKh(f:gB→Option (gB))(c:(List gB)→Option (List gB))(h:gB):Option (gB):=
bnd (c h.args) fun y=>
(some (gB.mk h.kind h.name y))
def gKi(c:gB→Option (gB)):Prop:=∀(f:gB){r:gB},c f=some r→kR Tryz.prog 44 [.d (jS f)] [35] [jS r]
def gL1(c:(List gB)→Option (List gB)):Prop:=∀(f:List gB){r:List gB},c f=some r→kR Tryz.prog 77 [.L 3 (jH f)] [35] [.sl 3 (jH r)]
theorem hBe{f}{c}(aa:gKi f)(y:gL1 c)(a0:gB){r:gB}(h:gKh f c a0=some r):kR Tryz.prog 44 [.d (jS a0)] [35] [jS r]:=by
 obtain⟨ae,ag,ab⟩:=a0;unfold gKh at h;refine pR Tryz.func44 rfl (by kernel_rfl) rfl (by simp) fun A _=>?_;refine goL ?_;obtain⟨x1,ad,h⟩:=gM h;refine gE3 (y ab ad) ?_;refine goL ?_;refine jG ?_;obtain rfl:=Option.some.inj h;exact gQd
def vZ(c:gB→Option (gB)):List gB→Nat→(List gB)→Option (List gB)
 | [],f,h=>(some h)
 | y::xs,f,h=>bnd (c y) fun x8=>
gd (f < h.length) (
vZ c xs (f+1) (h.set f x8))
def gIz(c:gB→Option (gB))(f:(List gB)→Option (List gB))(h:List gB):Option (List gB):=
gd (h.length≤4294967296) (
vZ c h 0 (List.replicate h.length (gB.mk 0 [] [])))
theorem gY9{c}{f}(y:gKi c)(ab:gL1 f)(a0:List gB){r:List gB}(h:gIz c f a0=some r):kR Tryz.prog 77 [.L 3 (jH a0)] [35] [.sl 3 (jH r)]:=by
 unfold gIz at h;refine pR Tryz.func77 rfl (by kernel_rfl) rfl (by simp) fun A _=>?_;refine goL ?_;obtain⟨g1,h⟩:=mY h;refine hJ6 (gB.mk 0 [] []) g1 ?_;refine goL ?_;refine noB ?_;refine gB0 9 (fun z5=>?_);refine kS (fun(y4:Nat)(y2:List gB)(v3:Nat)=>⟨[(3,.sl 0 v3),(9,.L 3 (jH a0)),(10,.I (a0.length:Int)),(11,.N y4)],[.own 35 3 v3 (jH y2)],Tryz.f77.ntmps⟩) (fun y4 y2 v3=>vZ c (a0.drop y4) y4 y2=some r) (fun y4 y2 v3=>a0.length - y4) 0 (List.replicate a0.length (gB.mk 0 [] [])) 0 eJ h ?_;rintro y4 y2 v3 h;refine goL ?_;refine jY (kX (fun c6=>?_) (fun c6=>?_))
 ·have aa:=uR c6;obtain⟨x7,ap,ak⟩:=drop_at aa;rw [ak,vZ.eq_2] at h;obtain⟨al,am,an⟩:=x7;refine noS ?_;refine jY (jA ?_);refine goL ?_;refine jI (jJ y4 (zJ ap)) ?_;obtain⟨⟨ad,ae,ag⟩,aq,h⟩:=gM h;refine gE3 (y (gB.mk al am an) aq) ?_;obtain⟨g9,h⟩:=mY h;refine zZ (hOl y4 g9) ?_;refine hTn (gB.mk ad ae ag) g9 ?_;refine goL ?_;refine jI (jW y4 (by omega)) ?_;exact⟨(y4+1),(y2.set y4 (gB.mk ad ae ag)),v3,h,by omega,eJ⟩
 ·have aa:=uS c6;rw [jC aa,vZ.eq_1] at h;refine goX ?_;refine jG ?_;obtain rfl:=Option.some.inj h;exact gQd
mutual
def gE9:Nat→gB→Option (gB)
 | 0,_=>none
 | n+1,c=>gKh (gE9 n) (gF7 n) c
def gF7:Nat→(List gB)→Option (List gB)
 | 0,_=>none
 | n+1,c=>gIz (gE9 n) (gF7 n) c
end
theorem gZa:∀(n:Nat),gKi (gE9 n)∧gL1 (gF7 n):=by
 intro n
 induction n with
 | zero=>exact⟨(by intro c r h;cases h),(by intro c r h;cases h)⟩
 | succ n ih=>
   obtain⟨ih0,ih1⟩:=ih;refine⟨(fun c r h=>hBe ih0 ih1 c h),(fun c r h=>gY9 ih0 ih1 c h)⟩
theorem hBf:∀(n:Nat),gKi (gE9 n):=fun n=>(gZa n).1
def gKj(f:gB→Option (gB))(c:(List gB)→Option (List gB))(h:gB):Option (gB):=
bnd (c h.args) fun y=>
(some (gB.mk h.kind h.name y))
def gKk(c:gB→Option (gB)):Prop:=∀(f:gB){r:gB},c f=some r→kR Tryz.prog 55 [.d (jS f)] [35] [jS r]
def gL2(c:(List gB)→Option (List gB)):Prop:=∀(f:List gB){r:List gB},c f=some r→kR Tryz.prog 83 [.L 3 (jH f)] [35] [.sl 3 (jH r)]
theorem hBh{f}{c}(aa:gKk f)(y:gL2 c)(a0:gB){r:gB}(h:gKj f c a0=some r):kR Tryz.prog 55 [.d (jS a0)] [35] [jS r]:=by
 obtain⟨ae,ag,ab⟩:=a0;unfold gKj at h;refine pR Tryz.func55 rfl (by kernel_rfl) rfl (by simp) fun A _=>?_;refine gId ?_;refine jK (P:=Tryz.prog) Mix.h [(0,true),(1,true),(2,true),(3,true),(4,true),(5,true),(6,false),(7,true),(8,false)] (by kernel_rfl) ?_;refine goY ?_;obtain⟨x1,ad,h⟩:=gM h;refine gMy (y ab ad) ?_;refine goY ?_;refine kQ ?_;refine goL ?_;refine jG ?_;obtain rfl:=Option.some.inj h;exact gQd
def wB(c:gB→Option (gB)):List gB→(List gB)→Option (List gB)
 | [],f=>(some f)
 | y::xs,f=>bnd (c y) fun h=>
gd (f.length+[h].length≤4294967296) (
wB c xs (f++[h]))
def gI0(c:gB→Option (gB))(f:(List gB)→Option (List gB))(h:List gB):Option (List gB):=
wB c h []
theorem gZb{c}{f}(y:gKk c)(ab:gL2 f)(a0:List gB){r:List gB}(h:gI0 c f a0=some r):kR Tryz.prog 83 [.L 3 (jH a0)] [35] [.sl 3 (jH r)]:=by
 unfold gI0 at h;refine pR Tryz.func83 rfl (by kernel_rfl) rfl (by simp) fun A _=>?_;refine goL ?_;refine gGk ?_;refine goL ?_;refine noB ?_;refine gB0 0 (fun z4=>?_);refine kS (fun(y3:Nat)(y1:List gB)(v2:Nat)=>⟨[(0,.L 3 (jH a0)),(3,.sl 0 v2),(4,.N y3)],[.own 35 3 v2 (jH y1)],Tryz.f83.ntmps⟩) (fun y3 y1 v2=>wB c (a0.drop y3) y1=some r) (fun y3 y1 v2=>a0.length - y3) 0 [] 0 eJ h ?_;rintro y3 y1 v2 h;refine goL ?_;refine kX (fun c5=>?_) (fun c5=>?_)
 ·have aa:=uR c5;obtain⟨x6,ap,ak⟩:=drop_at aa;rw [ak,wB.eq_2] at h;obtain⟨al,am,an⟩:=x6;refine noS ?_;refine jY (jA ?_);refine goL ?_;refine jI (jJ y3 (zJ ap)) ?_;obtain⟨⟨ad,ae,ag⟩,aq,h⟩:=gM h;refine gE3 (y (gB.mk al am an) aq) ?_;refine gBc (gB.mk ad ae ag) ?_;obtain⟨g8,h⟩:=mY h;refine gIe g8 ?_;refine goL ?_;refine jI (jW y3 (by omega)) ?_;exact⟨(y3+1),(y1++[(gB.mk ad ae ag)]),(v2+1),h,by omega,eJ⟩
 ·have aa:=uS c5;rw [jC aa,wB.eq_1] at h;refine goX ?_;refine jG ?_;obtain rfl:=Option.some.inj h;exact gQd
mutual
def gFa:Nat→gB→Option (gB)
 | 0,_=>none
 | n+1,c=>gKj (gFa n) (gF8 n) c
def gF8:Nat→(List gB)→Option (List gB)
 | 0,_=>none
 | n+1,c=>gI0 (gFa n) (gF8 n) c
end
theorem gZc:∀(n:Nat),gKk (gFa n)∧gL2 (gF8 n):=by
 intro n
 induction n with
 | zero=>exact⟨(by intro c r h;cases h),(by intro c r h;cases h)⟩
 | succ n ih=>
   obtain⟨ih0,ih1⟩:=ih;refine⟨(fun c r h=>hBh ih0 ih1 c h),(fun c r h=>gZb ih0 ih1 c h)⟩
theorem hBi:∀(n:Nat),gKk (gFa n):=fun n=>(gZc n).1
theorem gG1{α:Type}{l:List α}{k:Nat}{x:α}(h:k < l.length):(l.set k x).take (k+1)=l.take k++[x]:=by
 apply List.ext_getElem?;intro i;rw [List.getElem?_take,List.getElem?_append,List.length_take,List.getElem?_take,List.getElem?_set];have hm:min k l.length=k:=Nat.min_eq_left (by omega);rw [hm];by_cases c:i < k
 ·rw [if_pos (by omega),if_neg (by omega),if_pos c,if_pos c]
 ·rw [if_neg c];by_cases f:i=k
  ·subst f;rw [if_pos (by omega),if_pos rfl,if_pos h];simp
  ·rw [if_neg (by omega),List.getElem?_eq_none (by simp;omega)]
theorem gKy{rec:gB→Option gB}:∀(xs:List gB)(k:Nat)(y:List gB),(∀x∈xs,rec x=some x)→y.length=k+xs.length→vZ rec xs k y=some (y.take k++xs)
 | [],k,y,_,h=>by
   simp only [vZ,List.append_nil];rw [List.take_of_length_le (by simp at h;omega)]
 | x::xs,k,y,c,f=>by
   simp only [vZ];rw [c x (by simp)];simp only [bnd,List.length_cons] at f ⊢;rw [mI (by omega),gKy xs (k+1) _ (fun z hz=>c z (by simp [hz])) (by simp;omega),gG1 (by omega)];simp
theorem hEo:∀(n:Nat),(∀t:gB,2*tnd t≤n→tok t→gE9 n t=some (idT t))∧(∀ts:List gB,2*gAb ts+1≤n→hRd ts→gF7 n ts=some (hZ8 ts))
 | 0=>⟨fun t h=>by have:=gBs t;omega,fun ts h=>by omega⟩
 | n+1=>by
   obtain⟨c,f⟩:=hEo n;refine⟨fun t hn ht=>?_,fun ts hn ht=>?_⟩
   ·obtain⟨k,s,ts⟩:=t;simp only [tnd] at hn;simp only [gE9,gKh];rw [f ts (by omega) (by simpa only [tok,hRd] using ht)];rfl
   ·simp only [gF7,gIz];rw [mI ht.1,gKy ts 0 _ (fun x hx=>c x (by have:=yU hx;omega) (gIy.1 ht.2 x hx)) (by simp)];simp [hZ8]
theorem gKz{rec:gB→Option gB}:∀(xs:List gB)(y:List gB),(∀x∈xs,rec x=some x)→y.length+xs.length≤4294967296→wB rec xs y=some (y++xs)
 | [],y,_,h=>by simp [wB]
 | x::xs,y,c,f=>by
   simp only [wB];rw [c x (by simp)];simp only [bnd,List.length_cons,List.length_nil] at f ⊢;rw [mI (by omega),gKz xs _ (fun z hz=>c z (by simp [hz])) (by simp;omega)];simp
theorem hEp:∀(n:Nat),(∀t:gB,2*tnd t≤n→tok t→gFa n t=some (idT t))∧(∀ts:List gB,2*gAb ts+1≤n→hRd ts→gF8 n ts=some (hZ8 ts))
 | 0=>⟨fun t h=>by have:=gBs t;omega,fun ts h=>by omega⟩
 | n+1=>by
   obtain⟨c,f⟩:=hEp n;refine⟨fun t hn ht=>?_,fun ts hn ht=>?_⟩
   ·obtain⟨k,s,ts⟩:=t;simp only [tnd] at hn;simp only [gFa,gKj];rw [f ts (by omega) (by simpa only [tok,hRd] using ht)];rfl
   ·simp only [gF8,gI0];rw [gKz ts _ (fun x hx=>c x (by have:=yU hx;omega) (gIy.1 ht.2 x hx)) (by simpa using ht.1)];simp [hZ8]
theorem zS(c:gB)(h:tok c):kR Tryz.prog 44 [.d (jS c)] [35] [jS (idT c)]:=hBf (2*tnd c) c ((hEo _).1 _ (Nat.le_refl _) h)
theorem zT(c:gB)(h:tok c):kR Tryz.prog 55 [.d (jS c)] [35] [jS (idT c)]:=hBi (2*tnd c) c ((hEp _).1 _ (Nat.le_refl _) h)
def yQ(a1:List gB)(a2:gB→gB→Option Bool):List gB→Nat→Option (Bool)
 | [],c=>(some true)
 | f::xs,c=>bnd (at? a1 (c:Int)) fun h=>
bnd (a2 f h) fun y=>
(cnd (!y) (
(some false)) (
yQ a1 a2 xs (c+1)))
def gF9(c:List gB)(a1:List gB)(a2:gB→gB→Option Bool):Option (Bool):=
(cnd ((c.length:Int) !=(a1.length:Int)) (
(some false)) (
yQ a1 a2 c 0))
theorem gZd(y:List gB)(a1:List gB){a2f:Nat}{a2c:List SV}{a2:gB→gB→Option Bool}(a2_lt:∀n,SV.lts n a2c=true)(ha2:∀(x0:gB)(x1:gB)(r:Bool),a2 x0 x1=some r→gY Tryz.prog a2f ([.d (jS x0),.d (jS x1)]++a2c) [.b r]){r:Bool}(h:gF9 y a1 a2=some r):gY Tryz.prog 78 [.L 3 (jH y),.L 3 (jH a1),.fn a2f a2c] [.b r]:=by
 unfold gF9 at h;refine SpI Tryz.func78 fun A _=>?_;refine goC h ?_ ?_<;>intro c1 h
 ·exact goR h
 ·refine goS ?_;refine noB ?_;refine gB0 15 (fun z3=>?_);refine mV (fun(f:Nat)=>⟨[(1,.L 3 (jH a1)),(2,.fn a2f a2c),(15,.L 3 (jH y)),(16,.I (y.length:Int)),(17,.N f)],[],Tryz.f78.ntmps⟩) (fun f=>yQ a1 a2 (y.drop f) f=some r) (fun f=>y.length - f) 0 ⟨rfl,⟨⟨rfl,rfl⟩,⟨rfl,a2_lt _⟩,⟨rfl,rfl⟩,⟨rfl,rfl⟩,⟨rfl,rfl⟩,trivial⟩,⟨[],rfl⟩,rfl⟩ h ?_;rintro f h;refine goL ?_;refine jY (kX (fun c4=>?_) (fun c4=>?_))
  ·have c:=uR c4;obtain⟨x5,ad,aa⟩:=drop_at c;rw [aa,yQ.eq_2] at h;obtain⟨aj,ak,al⟩:=x5;refine noS ?_;refine jY (jA ?_);refine goL ?_;refine jI (jJ f (zJ ad)) ?_;obtain⟨x6,ab,h⟩:=gM h;rw [zI] at ab;obtain⟨am,an,ao⟩:=x6;refine jI (jJ f (zJ ab)) ?_;obtain⟨x7,ae,h⟩:=gM h;refine jI (gOm (ha2 _ _ _ ae) (a2_lt 0)) ?_;refine kX (fun c8=>?_) (fun c8=>?_)
   ·replace h:=kD c8 h;exact goR h
   ·replace h:=kE c8 h;refine goS ?_;refine jI (jW f (by omega)) ?_;exact⟨(f+1),h,by omega,⟨rfl,⟨⟨rfl,rfl⟩,⟨rfl,a2_lt _⟩,⟨rfl,rfl⟩,⟨rfl,rfl⟩,⟨rfl,rfl⟩,trivial⟩,⟨_,rfl⟩,rfl⟩⟩
  ·have c:=uS c4;rw [jC c,yQ.eq_1] at h;refine goX ?_;refine jG ?_;cases h;exact qD
def gI1(c:gB→gB→Option (Bool))(f:gB)(a1:gB):Option (Bool):=
bnd ((cnd (f.kind==a1.kind) ((cnd (f.name==a1.name) (bnd (gF9 f.args a1.args c) fun h=>
(some h)) ((some false)))) ((some false)))) fun y=>
(some y)
theorem gZe{c:gB→gB→Option (Bool)}(f:∀(x0:gB)(x1:gB){r:Bool},c x0 x1=some r→gY Tryz.prog 45 [.d (jS x0),.d (jS x1)] [.b r])(a0:gB)(a1:gB){r:Bool}(h:gI1 c a0 a1=some r):gY Tryz.prog 45 [.d (jS a0),.d (jS a1)] [.b r]:=by
 obtain⟨ab,ac,y⟩:=a0;obtain⟨ad,ae,aa⟩:=a1;unfold gI1 at h;refine SpI Tryz.func45 fun A _=>?_;refine goL ?_;obtain⟨b1,hb1,h⟩:=gM h;refine jT ⟨[(4,.B b1)],[bTy ab ac y,bTy ad ae aa],Tryz.f45.ntmps⟩ ?_ ?_
 ·refine gqA 10 hb1 (fun c2 hb1=>?_);refine gqA 17 hb1 (fun c3 hb1=>?_);obtain⟨x4,aj,hb1⟩:=gM hb1;refine jI (gF (gZd y aa (a2:=c) (fun _=>rfl) (fun x0 x1 r hr=>f x0 x1 hr) aj)) ?_;cases hb1;exact eJ
 exact goR h
def gI2:Nat→gB→gB→Option (Bool)
 | 0,_,_=>none
 | n+1,c,f=>gI1 (gI2 n) c f
theorem gZf:∀(n:Nat)(c:gB)(f:gB){r:Bool},gI2 n c f=some r→gY Tryz.prog 45 [.d (jS c),.d (jS f)] [.b r]:=by
 intro n
 induction n with
 | zero=>intro c f r h;cases h
 | succ n ih=>intro c f r h;exact gZe ih c f h
def gI3(f:gB→gB→Option (Bool))(c:(List gB)→(List gB)→Option (Bool))(h:gB)(a1:gB):Option (Bool):=
bnd ((cnd (h.kind==a1.kind) ((cnd (h.name==a1.name) (bnd (c h.args a1.args) fun y=>
(some y)) ((some false)))) ((some false)))) fun b1=>
(some b1)
def gI4(c:gB→gB→Option (Bool)):Prop:=∀(f:gB)(h:gB){r:Bool},c f h=some r→gY Tryz.prog 12 [.d (jS f),.d (jS h)] [.b r]
def hBj(c:(List gB)→(List gB)→Option (Bool)):Prop:=∀(f:List gB)(h:List gB){r:Bool},c f h=some r→gY Tryz.prog 29 [.L 3 (jH f),.L 3 (jH h)] [.b r]
theorem gZg{c}{f}(aa:gI4 c)(y:hBj f)(a0:gB)(a1:gB){r:Bool}(h:gI3 c f a0 a1=some r):gY Tryz.prog 12 [.d (jS a0),.d (jS a1)] [.b r]:=by
 obtain⟨ab,ac,ad⟩:=a0;obtain⟨ae,ag,ah⟩:=a1;unfold gI3 at h;refine SpI Tryz.func12 fun A _=>?_;refine goL ?_;obtain⟨b1,hb1,h⟩:=gM h;refine jT ⟨[(4,.B b1)],[bTy ab ac ad,bTy ae ag ah],Tryz.f12.ntmps⟩ ?_ ?_
 ·refine gqA 10 hb1 (fun c2 hb1=>?_);refine gqA 17 hb1 (fun c3 hb1=>?_);obtain⟨x4,aj,hb1⟩:=gM hb1;refine jI (gF (y _ _ aj)) ?_;cases hb1;exact eJ
 exact goR h
def gFb(c:gB→gB→Option (Bool))(a1:List gB):List gB→Nat→Option (Bool)
 | [],f=>(some true)
 | h::xs,f=>bnd (at? a1 (f:Int)) fun y=>
bnd (c h y) fun x7=>
(cnd (!x7) (
(some false)) (
gFb c a1 xs (f+1)))
def gW3(c:gB→gB→Option (Bool))(f:(List gB)→(List gB)→Option (Bool))(h:List gB)(a1:List gB):Option (Bool):=
(cnd ((h.length:Int) !=(a1.length:Int)) (
(some false)) (
gFb c a1 h 0))
theorem hUj{c}{y}(f:gI4 c)(ac:hBj y)(a0:List gB)(a1:List gB){r:Bool}(h:gW3 c y a0 a1=some r):gY Tryz.prog 29 [.L 3 (jH a0),.L 3 (jH a1)] [.b r]:=by
 unfold gW3 at h;refine SpI Tryz.func29 fun A _=>?_;refine goC h ?_ ?_<;>intro c1 h
 ·exact goR h
 ·refine goS ?_;refine noB ?_;refine gB0 0 (fun z3=>?_);refine mV (fun(y2:Nat)=>⟨[(0,.L 3 (jH a0)),(1,.L 3 (jH a1)),(5,.N y2)],[],Tryz.f29.ntmps⟩) (fun y2=>gFb c a1 (a0.drop y2) y2=some r) (fun y2=>a0.length - y2) 0 eJ h ?_;rintro y2 h;refine goL ?_;refine kX (fun c4=>?_) (fun c4=>?_)
  ·have aa:=uR c4;obtain⟨x5,ai,ae⟩:=drop_at aa;rw [ae,gFb.eq_2] at h;obtain⟨ak,al,am⟩:=x5;refine noS ?_;refine jY (jA ?_);refine goL ?_;refine gFd (jJ y2 (zJ ai)) ?_;refine goL ?_;obtain⟨x6,ag,h⟩:=gM h;rw [zI] at ag;obtain⟨an,ao,ap⟩:=x6;refine gFd (jJ y2 (zJ ag)) ?_;refine goL ?_;obtain⟨x7,aj,h⟩:=gM h;refine gFd (gF (f _ _ aj)) ?_;refine goC h ?_ ?_<;>intro c8 h
   ·exact goR h
   ·refine goS ?_;refine jI (jW y2 (by omega)) ?_;exact⟨(y2+1),h,by omega,eJ⟩
  ·have aa:=uS c4;rw [jC aa,gFb.eq_1] at h;refine goX ?_;refine jG ?_;cases h;exact qD
mutual
def gDv:Nat→gB→gB→Option (Bool)
 | 0,_,_=>none
 | n+1,c,f=>gI3 (gDv n) (gTp n) c f
def gTp:Nat→(List gB)→(List gB)→Option (Bool)
 | 0,_,_=>none
 | n+1,c,f=>gW3 (gDv n) (gTp n) c f
end
theorem gW4:∀(n:Nat),gI4 (gDv n)∧hBj (gTp n):=by
 intro n
 induction n with
 | zero=>exact⟨(by intro c f r h;cases h),(by intro c f r h;cases h)⟩
 | succ n ih=>
   obtain⟨ih0,ih1⟩:=ih;refine⟨(fun c f r h=>gZg ih0 ih1 c f h),(fun c f r h=>hUj ih0 ih1 c f h)⟩
theorem gZh:∀(n:Nat),gI4 (gDv n):=fun n=>(gW4 n).1
mutual
def teq:gB→gB→Bool
 | ⟨k,n,ts⟩,⟨k',n',ts'⟩=>(k==k') && ((n==n') && gZi ts ts')
def gZi:List gB→List gB→Bool
 | [],[]=>true
 | a::ts,b::ts'=>teq a b && gZi ts ts'
 | _,_=>false
end
mutual
theorem gL3:∀(a b:gB),teq a b=true↔a=b
 | ⟨k,n,ts⟩,⟨k',n',ts'⟩=>by
   simp only [teq,Bool.and_eq_true,beq_iff_eq,gB.mk.injEq];rw [hEs ts ts']
theorem hEs:∀(a b:List gB),gZi a b=true↔a=b
 | [],[]=>by simp [gZi]
 | a::ts,b::ts'=>by
   simp only [gZi,Bool.and_eq_true,List.cons.injEq];rw [gL3 a b,hEs ts ts']
 | [],_::_=>by simp [gZi]
 | _::_,[]=>by simp [gZi]
end
theorem gW5:∀{a b:List gB},a.length≠b.length→gZi a b=false
 | [],[],h=>by simp at h
 | a::ts,b::ts',h=>by
   simp only [gZi];rw [gW5 (a:=ts) (b:=ts') (by simpa using h),Bool.and_false]
 | [],_::_,_=>rfl
 | _::_,[],_=>rfl
theorem gK0{p:gB→gB→Option Bool}(b:List gB):∀(xs:List gB)(k:Nat),(∀x∈xs,∀y,p x y=some (teq x y))→b.length=k+xs.length→yQ b p xs k=some (gZi xs (b.drop k))
 | [],k,_,h=>by
   rw [List.drop_eq_nil_of_le (by simp at h;omega)];rfl
 | x::xs,k,hp,h=>by
   simp only [List.length_cons] at h;have hk:k < b.length:=by omega
   simp only [yQ,zI];rw [List.getElem?_eq_getElem hk,List.drop_eq_getElem_cons hk];simp only [bnd,hp x (by simp),gZi];cases hq:teq x b[k] with
   | true=>simp only [Bool.not_true,gI,Bool.true_and];exact gK0 b xs (k+1) (fun z hz=>hp z (by simp [hz])) (by omega)
   | false=>rfl
theorem gW6{p:gB→gB→Option Bool}(a b:List gB)(hp:∀x∈a,∀y,p x y=some (teq x y)):gF9 a b p=some (gZi a b):=by
 unfold gF9;by_cases h:a.length=b.length
 ·have:((a.length:Int) !=(b.length:Int))=false:=by simp [h]
  rw [this,gI,gK0 b a 0 hp (by omega)];rfl
 ·have:((a.length:Int) !=(b.length:Int))=true:=by simp;omega
  rw [this,gT,gW5 h]
theorem gO2:∀(n:Nat)(a b:gB),tnd a≤n→gI2 n a b=some (teq a b)
 | 0,a,b,h=>by have:=gBs a;omega
 | n+1,⟨k,s,ts⟩,⟨k',s',ts'⟩,h=>by
   simp only [tnd] at h;simp only [gI2,gI1,teq];rw [gW6 ts ts' (fun x hx y=>gO2 n x y (by have:=yU hx;omega))];cases c:k==k'<;>cases f:s==s'<;>cases gZi ts ts'<;>rfl
theorem gTq{p:gB→gB→Option Bool}(b:List gB):∀(xs:List gB)(k:Nat),(∀x∈xs,∀y,p x y=some (teq x y))→b.length=k+xs.length→gFb p b xs k=some (gZi xs (b.drop k))
 | [],k,_,h=>by
   rw [List.drop_eq_nil_of_le (by simp at h;omega)];rfl
 | x::xs,k,hp,h=>by
   simp only [List.length_cons] at h;have hk:k < b.length:=by omega
   simp only [gFb,zI];rw [List.getElem?_eq_getElem hk,List.drop_eq_getElem_cons hk];simp only [bnd,hp x (by simp),gZi];cases hq:teq x b[k] with
   | true=>simp only [Bool.not_true,gI,Bool.true_and];exact gTq b xs (k+1) (fun z hz=>hp z (by simp [hz])) (by omega)
   | false=>rfl
theorem gZj:∀(n:Nat),(∀a b:gB,2*tnd a≤n→gDv n a b=some (teq a b))∧(∀a b:List gB,2*gAb a+1≤n→gTp n a b=some (gZi a b))
 | 0=>⟨fun t _ h=>by have:=gBs t;omega,fun ts _ h=>by omega⟩
 | n+1=>by
   obtain⟨c,f⟩:=gZj n;refine⟨fun a b hn=>?_,fun a b hn=>?_⟩
   ·obtain⟨k,s,ts⟩:=a;obtain⟨k',s',ts'⟩:=b;simp only [tnd] at hn;simp only [gDv,gI3,teq];rw [f ts ts' (by omega)];cases c:k==k'<;>cases f:s==s'<;>cases gZi ts ts'<;>rfl
   ·simp only [gTp,gW3];by_cases h:a.length=b.length
    ·have:((a.length:Int) !=(b.length:Int))=false:=by simp [h]
     rw [this,gI,gTq b a 0 (fun x hx y=>c x y (by have:=yU hx;omega)) (by omega)];rfl
    ·have:((a.length:Int) !=(b.length:Int))=true:=by simp;omega
     rw [this,gT,gW5 h]
theorem gI5(c:gB)(f:gB):gY Tryz.prog 45 [.d (jS c),.d (jS f)] [.b (teq c f)]:=gZf (tnd c) c f (gO2 _ _ _ (Nat.le_refl _))
theorem gDw(c:gB)(f:gB):gY Tryz.prog 12 [.d (jS c),.d (jS f)] [.b (teq c f)]:=gZh (2*tnd c) c f ((gZj _).1 _ _ (Nat.le_refl _))
mutual
def tsz:gB→Int
 | ⟨_,_,ts⟩=>hPm ts 1
def hPm:List gB→Int→Int
 | [],y=>y
 | a::ts,y=>hPm ts (IntKind.i64.wrap (y+tsz a))
end
def zU(c:gB→Option (Int)):List gB→Int→Option (Int)
 | [],f=>(some f)
 | h::xs,f=>bnd (c h) fun y=>
zU c xs (IntKind.i64.wrap (f+y))
def gKl(c:gB→Option (Int))(f:gB):Option (Int):=
zU c f.args 1
theorem hBk{c:gB→Option (Int)}(f:∀(x0:gB){r:Int},c x0=some r→gY Tryz.prog 46 [.d (jS x0)] [.i .i64 r])(a0:gB){r:Int}(h:gKl c a0=some r):gY Tryz.prog 46 [.d (jS a0)] [.i .i64 r]:=by
 obtain⟨ad,ae,y⟩:=a0;unfold gKl at h;refine SpI Tryz.func46 fun A _=>?_;refine goL ?_;refine noB ?_;refine gB0 7 (fun z3=>?_);refine gEe (fun(y2:Nat)(y1:Int)=>⟨[(3,.I y1),(7,.L 3 (jH y)),(8,.I (y.length:Int)),(9,.N y2)],[bTy ad ae y],Tryz.f46.ntmps⟩) (fun y2 y1=>zU c (y.drop y2) y1=some r) (fun y2 y1=>y.length - y2) 0 1 eJ h ?_;rintro y2 y1 h;refine goL ?_;refine jY (kX (fun c4=>?_) (fun c4=>?_))
 ·have aa:=uR c4;obtain⟨x5,aj,ag⟩:=drop_at aa;rw [ag,zU.eq_2] at h;obtain⟨am,an,ao⟩:=x5;refine noS ?_;refine jY (jA ?_);refine goL ?_;refine jI (jJ y2 (zJ aj)) ?_;obtain⟨x6,ak,h⟩:=gM h;refine qK (gF (f _ ak)) ?_;refine jI (pU) ?_;refine jI (jW y2 (by omega)) ?_;exact⟨(y2+1),(IntKind.i64.wrap (y1+x6)),h,by omega,eJ⟩
 ·have aa:=uS c4;rw [jC aa,zU.eq_1] at h;refine goX ?_;refine jG ?_;cases h;exact qD
def gKm:Nat→gB→Option (Int)
 | 0,_=>none
 | n+1,c=>gKl (gKm n) c
theorem hBn:∀(n:Nat)(c:gB){r:Int},gKm n c=some r→gY Tryz.prog 46 [.d (jS c)] [.i .i64 r]:=by
 intro n
 induction n with
 | zero=>intro c r h;cases h
 | succ n ih=>intro c r h;exact hBk ih c h
theorem gL4{rec:gB→Option Int}:∀(xs:List gB)(y:Int),(∀x∈xs,rec x=some (tsz x))→zU rec xs y=some (hPm xs y)
 | [],y,_=>rfl
 | x::xs,y,h=>by
   simp only [zU,h x (by simp),bnd,hPm];exact gL4 xs _ (fun z hz=>h z (by simp [hz]))
theorem gQm:∀(n:Nat)(t:gB),tnd t≤n→gKm n t=some (tsz t)
 | 0,t,h=>by have:=gBs t;omega
 | n+1,⟨k,s,ts⟩,h=>by
   simp only [tnd] at h;simp only [gKm,gKl,tsz];exact gL4 ts 1 (fun x hx=>gQm n x (by have:=yU hx;omega))
theorem gH8(c:gB):gY Tryz.prog 46 [.d (jS c)] [.i .i64 (tsz c)]:=hBn (tnd c) c (gQm _ _ (Nat.le_refl _))
def zV(c:gB→Option (Int)):List gB→Int→Option (Int)
 | [],f=>(some f)
 | h::xs,f=>bnd (c h) fun y=>
zV c xs (IntKind.i64.wrap (f+y))
def gKn(c:gB→Option (Int))(f:gB):Option (Int):=
zV c f.args 1
theorem hBo{c:gB→Option (Int)}(f:∀(x0:gB){r:Int},c x0=some r→gY Tryz.prog 57 [.d (jS x0)] [.i .i64 r])(a0:gB){r:Int}(h:gKn c a0=some r):gY Tryz.prog 57 [.d (jS a0)] [.i .i64 r]:=by
 obtain⟨ad,ae,aa⟩:=a0;unfold gKn at h;refine SpI Tryz.func57 fun A _=>?_;refine goL ?_;refine noB ?_;refine wJ 0 2 (fun z3=>?_);refine gEe (fun(y2:Nat)(y1:Int)=>⟨[(1,.ptr 0 0),(3,.I y1),(4,.N y2)],[bTy ad ae aa],Tryz.f57.ntmps⟩) (fun y2 y1=>zV c (aa.drop y2) y1=some r) (fun y2 y1=>aa.length - y2) 0 1 eJ h ?_;rintro y2 y1 h;refine goL ?_;refine kX (fun c4=>?_) (fun c4=>?_)
 ·have y:=uR c4;obtain⟨x5,aj,ag⟩:=drop_at y;rw [ag,zV.eq_2] at h;obtain⟨am,an,ao⟩:=x5;refine noS ?_;refine jY (jA ?_);refine goL ?_;refine jI (jJ y2 (zJ aj)) ?_;obtain⟨x6,ak,h⟩:=gM h;refine qK (gF (f _ ak)) ?_;refine jI (pU) ?_;refine jI (jW y2 (by omega)) ?_;exact⟨(y2+1),(IntKind.i64.wrap (y1+x6)),h,by omega,eJ⟩
 ·have y:=uS c4;rw [jC y,zV.eq_1] at h;refine goX ?_;refine jG ?_;cases h;exact qD
def gKo:Nat→gB→Option (Int)
 | 0,_=>none
 | n+1,c=>gKn (gKo n) c
theorem hBp:∀(n:Nat)(c:gB){r:Int},gKo n c=some r→gY Tryz.prog 57 [.d (jS c)] [.i .i64 r]:=by
 intro n
 induction n with
 | zero=>intro c r h;cases h
 | succ n ih=>intro c r h;exact hBo ih c h
theorem gL5{rec:gB→Option Int}:∀(xs:List gB)(y:Int),(∀x∈xs,rec x=some (tsz x))→zV rec xs y=some (hPm xs y)
 | [],y,_=>rfl
 | x::xs,y,h=>by
   simp only [zV,h x (by simp),bnd,hPm];exact gL5 xs _ (fun z hz=>h z (by simp [hz]))
theorem gQn:∀(n:Nat)(t:gB),tnd t≤n→gKo n t=some (tsz t)
 | 0,t,h=>by have:=gBs t;omega
 | n+1,⟨k,s,ts⟩,h=>by
   simp only [tnd] at h;simp only [gKo,gKn,tsz];exact gL5 ts 1 (fun x hx=>gQn n x (by have:=yU hx;omega))
theorem gKp(c:gB):gY Tryz.prog 57 [.d (jS c)] [.i .i64 (tsz c)]:=hBp (tnd c) c (gQn _ _ (Nat.le_refl _))
def gCi(a1:LB):List gG→Option (gB × Bool)
 | []=>(some ((gB.mk 0 [] []),false))
 | c::xs=>(cnd (c.var_==a1) (
gd (tok c.type_) (lt_ (idT c.type_) fun f=>
(some (f,true)))) (
gCi a1 xs ))
def gJu(c:List gG)(a1:LB):Option (gB × Bool):=
gCi a1 c
theorem gZk(a0:List gG)(a1:LB){r:gB × Bool}(h:gJu a0 a1=some r):kR Tryz.prog 92 [.L 4 (gP a0),.S a1] [35] [jS r.1,.b r.2]:=by
 unfold gJu at h;refine pR Tryz.func92 rfl (by kernel_rfl) rfl (by simp) fun A _=>?_;refine goL ?_;refine noB ?_;refine gB0 8 (fun z2=>?_);refine mV (fun(f:Nat)=>⟨[(1,.S a1),(4,.ptr 0 0),(8,.L 4 (gP a0)),(9,.I (a0.length:Int)),(10,.N f)],[.box [.I 0,.S [],.nilsl]],Tryz.f92.ntmps⟩) (fun f=>gCi a1 (a0.drop f)  =some r) (fun f=>a0.length - f) 0 eJ h ?_;rintro f h;refine goL ?_;refine jY (kX (fun c3=>?_) (fun c3=>?_))
 ·have c:=uR c3;obtain⟨x4,ag,ad⟩:=drop_at c;rw [ad,gCi.eq_2] at h;obtain⟨aj,⟨y,aa,ab⟩⟩:=x4;refine noS ?_;refine jY (jA ?_);refine goL ?_;refine jI (jJ f (gMi ag)) ?_;refine kX (fun c5=>?_) (fun c5=>?_)
  ·replace h:=kD c5 h;refine goL ?_;obtain⟨g6,h⟩:=mY h;obtain⟨⟨ak,al,am⟩,ai,h⟩:=qA h;have sx7:=zS (gB.mk y aa ab) g6;rw [ai] at sx7;refine gE3 (sx7) ?_;refine goL ?_;refine jG ?_;obtain rfl:=Option.some.inj h;exact gQd
  ·replace h:=kE c5 h;refine goS ?_;refine jI (jW f (by omega)) ?_;exact⟨(f+1),h,by omega,eJ⟩
 ·have c:=uS c3;rw [jC c,gCi.eq_1] at h;refine goX ?_;refine gBn (jX TBd.h TZ.h rfl (by repeat constructor)) ?_;refine hJb 35 3 0 2 rfl rfl (by repeat constructor) (by repeat constructor) (by repeat constructor) (by repeat constructor) ?_;refine jG ?_;obtain rfl:=Option.some.inj h;exact gQd
def gRm(f:(List gG)→gB→Option (gB))(c:(List gG)→(List gB)→Option (List gB))(h:List gG)(a1:gB):Option (gB):=
(cnd (a1.kind==1) (
bnd (gJu h a1.name) fun y=>
(cnd y.2 (
(some y.1)) (
bnd (c h a1.args) fun x4=>
(some (gB.mk a1.kind a1.name x4))))) (
bnd (c h a1.args) fun x5=>
(some (gB.mk a1.kind a1.name x5))))
def gRn(c:(List gG)→gB→Option (gB)):Prop:=∀(f:List gG)(h:gB){r:gB},c f h=some r→kR Tryz.prog 69 [.L 4 (gP f),.d (jS h)] [35] [jS r]
def gNs(c:(List gG)→(List gB)→Option (List gB)):Prop:=∀(f:List gG)(h:List gB){r:List gB},c f h=some r→kR Tryz.prog 93 [.L 4 (gP f),.L 3 (jH h)] [35] [.sl 3 (jH r)]
theorem hPn{y}{f}(aa:gRn y)(c:gNs f)(a0:List gG)(a1:gB){r:gB}(h:gRm y f a0 a1=some r):kR Tryz.prog 69 [.L 4 (gP a0),.d (jS a1)] [35] [jS r]:=by
 obtain⟨al,ad,ab⟩:=a1;unfold gRm at h;refine pR Tryz.func69 rfl (by kernel_rfl) rfl (by simp) fun A _=>?_;refine goC h ?_ ?_<;>intro c1 h
 ·refine goL ?_;obtain⟨⟨⟨ae,ag,ah⟩,am⟩,ai,h⟩:=gM h;refine gE3 (gZk a0 ad ai) ?_;refine goC h ?_ ?_<;>intro c3 h
  ·refine goL ?_;refine jG ?_;obtain rfl:=Option.some.inj h;exact gQd
  ·refine noS ?_;refine jK (P:=Tryz.prog) Mix.h [(0,true),(1,true),(2,true),(3,true),(4,true),(5,true),(6,true),(7,false),(8,true),(9,false)] (by kernel_rfl) ?_;refine goY ?_;obtain⟨x4,aj,h⟩:=gM h;refine gMy (c a0 ab aj) ?_;refine goY ?_;refine kQ ?_;refine goL ?_;refine jG ?_;obtain rfl:=Option.some.inj h;exact gQd
 ·refine noS ?_;refine jK (P:=Tryz.prog) Mix.h [(0,true),(1,true),(2,true),(3,true),(4,true),(5,true),(6,true),(7,false),(8,true),(9,false)] (by kernel_rfl) ?_;refine goY ?_;obtain⟨x5,ak,h⟩:=gM h;refine gMy (c a0 ab ak) ?_;refine goY ?_;refine kQ ?_;refine goL ?_;refine jG ?_;obtain rfl:=Option.some.inj h;exact gQd
def wY(c:(List gG)→gB→Option (gB))(y:List gG):List gB→Nat→(List gB)→Option (List gB)
 | [],f,h=>(some h)
 | x7::xs,f,h=>bnd (c y x7) fun x8=>
gd (f < h.length) (
wY c y xs (f+1) (h.set f x8))
def gKq(c:(List gG)→gB→Option (gB))(f:(List gG)→(List gB)→Option (List gB))(h:List gG)(a1:List gB):Option (List gB):=
gd (a1.length≤4294967296) (
wY c h a1 0 (List.replicate a1.length (gB.mk 0 [] [])))
theorem hBq{c}{f}(y:gRn c)(ab:gNs f)(a0:List gG)(a1:List gB){r:List gB}(h:gKq c f a0 a1=some r):kR Tryz.prog 93 [.L 4 (gP a0),.L 3 (jH a1)] [35] [.sl 3 (jH r)]:=by
 unfold gKq at h;refine pR Tryz.func93 rfl (by kernel_rfl) rfl (by simp) fun A _=>?_;refine goL ?_;obtain⟨g1,h⟩:=mY h;refine hJ6 (gB.mk 0 [] []) g1 ?_;refine goL ?_;refine noB ?_;refine gB0 11 (fun z5=>?_);refine kS (fun(y4:Nat)(y2:List gB)(v3:Nat)=>⟨[(0,.L 4 (gP a0)),(5,.sl 0 v3),(11,.L 3 (jH a1)),(12,.I (a1.length:Int)),(13,.N y4)],[.own 35 3 v3 (jH y2)],Tryz.f93.ntmps⟩) (fun y4 y2 v3=>wY c a0 (a1.drop y4) y4 y2=some r) (fun y4 y2 v3=>a1.length - y4) 0 (List.replicate a1.length (gB.mk 0 [] [])) 0 eJ h ?_;rintro y4 y2 v3 h;refine goL ?_;refine jY (kX (fun c6=>?_) (fun c6=>?_))
 ·have aa:=uR c6;obtain⟨x7,ap,ak⟩:=drop_at aa;rw [ak,wY.eq_2] at h;obtain⟨al,am,an⟩:=x7;refine noS ?_;refine jY (jA ?_);refine goL ?_;refine jI (jJ y4 (zJ ap)) ?_;obtain⟨⟨ad,ae,ag⟩,aq,h⟩:=gM h;refine gE3 (y a0 (gB.mk al am an) aq) ?_;obtain⟨g9,h⟩:=mY h;refine zZ (hOl y4 g9) ?_;refine hTn (gB.mk ad ae ag) g9 ?_;refine goL ?_;refine jI (jW y4 (by omega)) ?_;exact⟨(y4+1),(y2.set y4 (gB.mk ad ae ag)),v3,h,by omega,eJ⟩
 ·have aa:=uS c6;rw [jC aa,wY.eq_1] at h;refine goX ?_;refine jG ?_;obtain rfl:=Option.some.inj h;exact gQd
mutual
def gMt:Nat→(List gG)→gB→Option (gB)
 | 0,_,_=>none
 | n+1,c,f=>gRm (gMt n) (gH9 n) c f
def gH9:Nat→(List gG)→(List gB)→Option (List gB)
 | 0,_,_=>none
 | n+1,c,f=>gKq (gMt n) (gH9 n) c f
end
theorem hMm:∀(n:Nat),gRn (gMt n)∧gNs (gH9 n):=by
 intro n
 induction n with
 | zero=>exact⟨(by intro c f r h;cases h),(by intro c f r h;cases h)⟩
 | succ n ih=>
   obtain⟨ih0,ih1⟩:=ih;refine⟨(fun c f r h=>hPn ih0 ih1 c f h),(fun c f r h=>hBq ih0 ih1 c f h)⟩
theorem hPo:∀(n:Nat),gRn (gMt n):=fun n=>(hMm n).1
def gCj(a1:LB):List gG→Option (gB × Bool)
 | []=>(some ((gB.mk 0 [] []),false))
 | c::xs=>(cnd (c.var_==a1) (
gd (tok c.type_) (lt_ (idT c.type_) fun f=>
(some (f,true)))) (
gCj a1 xs ))
def gGa(c:List gG)(a1:LB):Option (gB × Bool):=
gCj a1 c
theorem gTr(a0:List gG)(a1:LB){r:gB × Bool}(h:gGa a0 a1=some r):kR Tryz.prog 102 [.L 4 (gP a0),.S a1] [35] [jS r.1,.b r.2]:=by
 unfold gGa at h;refine pR Tryz.func102 rfl (by kernel_rfl) rfl (by simp) fun A _=>?_;refine goL ?_;refine noB ?_;refine gB0 0 (fun z2=>?_);refine mV (fun(f:Nat)=>⟨[(0,.L 4 (gP a0)),(1,.S a1),(4,.ptr 0 0),(6,.N f)],[.box [.I 0,.S [],.nilsl]],Tryz.f102.ntmps⟩) (fun f=>gCj a1 (a0.drop f)  =some r) (fun f=>a0.length - f) 0 eJ h ?_;rintro f h;refine goL ?_;refine kX (fun c3=>?_) (fun c3=>?_)
 ·have c:=uR c3;obtain⟨x4,ad,ae⟩:=drop_at c;rw [ae,gCj.eq_2] at h;obtain⟨aj,⟨y,aa,ab⟩⟩:=x4;refine noS ?_;refine jY (jA ?_);refine goL ?_;refine jI (jJ f (gMi ad)) ?_;refine kX (fun c5=>?_) (fun c5=>?_)
  ·replace h:=kD c5 h;refine goL ?_;refine jI (jJ f (gMi ad)) ?_;obtain⟨g6,h⟩:=mY h;obtain⟨⟨ak,al,am⟩,ai,h⟩:=qA h;have sx7:=zT (gB.mk y aa ab) g6;rw [ai] at sx7;refine gE3 (sx7) ?_;refine goL ?_;refine jG ?_;obtain rfl:=Option.some.inj h;exact gQd
  ·replace h:=kE c5 h;refine goS ?_;refine jI (jW f (by omega)) ?_;exact⟨(f+1),h,by omega,eJ⟩
 ·have c:=uS c3;rw [jC c,gCj.eq_1] at h;refine goX ?_;refine gBn (jX TBd.h TZ.h rfl (by repeat constructor)) ?_;refine hJb 35 3 0 2 rfl rfl (by repeat constructor) (by repeat constructor) (by repeat constructor) (by repeat constructor) ?_;refine jG ?_;obtain rfl:=Option.some.inj h;exact gQd
def gRo(f:(List gG)→gB→Option (gB))(c:(List gG)→(List gB)→Option (List gB))(h:List gG)(a1:gB):Option (gB):=
(cnd (a1.kind==1) (
bnd (gGa h a1.name) fun y=>
(cnd y.2 (
(some y.1)) (
bnd (c h a1.args) fun x4=>
(some (gB.mk a1.kind a1.name x4))))) (
bnd (c h a1.args) fun x5=>
(some (gB.mk a1.kind a1.name x5))))
def gRp(c:(List gG)→gB→Option (gB)):Prop:=∀(f:List gG)(h:gB){r:gB},c f h=some r→kR Tryz.prog 85 [.L 4 (gP f),.d (jS h)] [35] [jS r]
def gNt(c:(List gG)→(List gB)→Option (List gB)):Prop:=∀(f:List gG)(h:List gB){r:List gB},c f h=some r→kR Tryz.prog 103 [.L 4 (gP f),.L 3 (jH h)] [35] [.sl 3 (jH r)]
theorem hPp{y}{f}(aa:gRp y)(c:gNt f)(a0:List gG)(a1:gB){r:gB}(h:gRo y f a0 a1=some r):kR Tryz.prog 85 [.L 4 (gP a0),.d (jS a1)] [35] [jS r]:=by
 obtain⟨al,ad,ab⟩:=a1;unfold gRo at h;refine pR Tryz.func85 rfl (by kernel_rfl) rfl (by simp) fun A _=>?_;refine goC h ?_ ?_<;>intro c1 h
 ·refine goL ?_;obtain⟨⟨⟨ae,ag,ah⟩,am⟩,ai,h⟩:=gM h;refine gE3 (gTr a0 ad ai) ?_;refine goC h ?_ ?_<;>intro c3 h
  ·refine goL ?_;refine jG ?_;obtain rfl:=Option.some.inj h;exact gQd
  ·refine noS ?_;refine jK (P:=Tryz.prog) Mix.h [(0,true),(1,true),(2,true),(3,true),(4,true),(5,true),(6,true),(7,false),(8,true),(9,false)] (by kernel_rfl) ?_;refine goY ?_;obtain⟨x4,aj,h⟩:=gM h;refine gMy (c a0 ab aj) ?_;refine goY ?_;refine kQ ?_;refine goL ?_;refine jG ?_;obtain rfl:=Option.some.inj h;exact gQd
 ·refine noS ?_;refine jK (P:=Tryz.prog) Mix.h [(0,true),(1,true),(2,true),(3,true),(4,true),(5,true),(6,true),(7,false),(8,true),(9,false)] (by kernel_rfl) ?_;refine goY ?_;obtain⟨x5,ak,h⟩:=gM h;refine gMy (c a0 ab ak) ?_;refine goY ?_;refine kQ ?_;refine goL ?_;refine jG ?_;obtain rfl:=Option.some.inj h;exact gQd
def wZ(c:(List gG)→gB→Option (gB))(h:List gG):List gB→(List gB)→Option (List gB)
 | [],f=>(some f)
 | x6::xs,f=>bnd (c h x6) fun y=>
gd (f.length+[y].length≤4294967296) (
wZ c h xs (f++[y]))
def gKr(c:(List gG)→gB→Option (gB))(f:(List gG)→(List gB)→Option (List gB))(h:List gG)(a1:List gB):Option (List gB):=
wZ c h a1 []
theorem hBs{c}{f}(y:gRp c)(ab:gNt f)(a0:List gG)(a1:List gB){r:List gB}(h:gKr c f a0 a1=some r):kR Tryz.prog 103 [.L 4 (gP a0),.L 3 (jH a1)] [35] [.sl 3 (jH r)]:=by
 unfold gKr at h;refine pR Tryz.func103 rfl (by kernel_rfl) rfl (by simp) fun A _=>?_;refine goL ?_;refine gGk ?_;refine goL ?_;refine noB ?_;refine gB0 1 (fun z4=>?_);refine kS (fun(y3:Nat)(y1:List gB)(v2:Nat)=>⟨[(0,.L 4 (gP a0)),(1,.L 3 (jH a1)),(5,.sl 0 v2),(6,.N y3)],[.own 35 3 v2 (jH y1)],Tryz.f103.ntmps⟩) (fun y3 y1 v2=>wZ c a0 (a1.drop y3) y1=some r) (fun y3 y1 v2=>a1.length - y3) 0 [] 0 eJ h ?_;rintro y3 y1 v2 h;refine goL ?_;refine kX (fun c5=>?_) (fun c5=>?_)
 ·have aa:=uR c5;obtain⟨x6,ap,ak⟩:=drop_at aa;rw [ak,wZ.eq_2] at h;obtain⟨al,am,an⟩:=x6;refine noS ?_;refine jY (jA ?_);refine goL ?_;refine jI (jJ y3 (zJ ap)) ?_;obtain⟨⟨ad,ae,ag⟩,aq,h⟩:=gM h;refine gE3 (y a0 (gB.mk al am an) aq) ?_;refine gBc (gB.mk ad ae ag) ?_;obtain⟨g8,h⟩:=mY h;refine gIe g8 ?_;refine goL ?_;refine jI (jW y3 (by omega)) ?_;exact⟨(y3+1),(y1++[(gB.mk ad ae ag)]),(v2+1),h,by omega,eJ⟩
 ·have aa:=uS c5;rw [jC aa,wZ.eq_1] at h;refine goX ?_;refine jG ?_;obtain rfl:=Option.some.inj h;exact gQd
mutual
def gMu:Nat→(List gG)→gB→Option (gB)
 | 0,_,_=>none
 | n+1,c,f=>gRo (gMu n) (gIa n) c f
def gIa:Nat→(List gG)→(List gB)→Option (List gB)
 | 0,_,_=>none
 | n+1,c,f=>gKr (gMu n) (gIa n) c f
end
theorem hMn:∀(n:Nat),gRp (gMu n)∧gNt (gIa n):=by
 intro n
 induction n with
 | zero=>exact⟨(by intro c f r h;cases h),(by intro c f r h;cases h)⟩
 | succ n ih=>
   obtain⟨ih0,ih1⟩:=ih;refine⟨(fun c f r h=>hPp ih0 ih1 c f h),(fun c f r h=>hBs ih0 ih1 c f h)⟩
theorem hPq:∀(n:Nat),gRp (gMu n):=fun n=>(hMn n).1
def lkp(v:LB):List gG→gB × Bool
 | []=>(⟨0,[],[]⟩,false)
 | b::l=>cnd (b.var_==v) (b.type_,true) (lkp v l)
def bok(l:List gG):Prop:=∀b∈l,tok b.type_
instance (l:List gG):Decidable (bok l):=inferInstanceAs (Decidable (∀b∈l,tok b.type_))
theorem gIb(k:Int)(n:LB):tok ⟨k,n,[]⟩:=by simp [tok,gU3]
theorem gL6{v:LB}:∀{l:List gG},(lkp v l).2=true→∃b∈l,b.var_=v∧(lkp v l).1=b.type_
 | [],h=>by cases h
 | b::l,h=>by
   simp only [lkp] at h ⊢;cases hb:b.var_==v with
   | true=>exact⟨b,by simp,by simpa using hb,rfl⟩
   | false=>
     rw [hb] at h;obtain⟨c,f,y,h3⟩:=gL6 (l:=l) h;exact⟨c,by simp [f],y,h3⟩
theorem hMo{v:LB}:∀{l:List gG},(lkp v l).2=false→(lkp v l).1=⟨0,[],[]⟩
 | [],h=>rfl
 | b::l,h=>by
   simp only [lkp] at h ⊢;cases hb:b.var_==v with
   | true=>rw [hb] at h;cases h
   | false=>rw [hb] at h;exact hMo (l:=l) h
theorem hUk{v:LB}{l:List gG}(h:bok l):tok (lkp v l).1:=by
 cases hb:(lkp v l).2 with
 | true=>
   obtain⟨b,c,_,f⟩:=gL6 hb;rw [f];exact h b c
 | false=>rw [hMo hb];exact gIb _ _
mutual
def apT(l:List gG):gB→gB
 | ⟨k,n,ts⟩=>cnd (k==1) (cnd (lkp n l).2 (lkp n l).1 ⟨k,n,gK4 l ts⟩) ⟨k,n,gK4 l ts⟩
def gK4(l:List gG):List gB→List gB
 | []=>[]
 | a::ts=>apT l a::gK4 l ts
end
theorem gRq(l:List gG):∀ts:List gB,gK4 l ts=ts.map (apT l)
 | []=>rfl
 | a::ts=>by simp only [gK4,List.map_cons,gRq l ts]
theorem hEt(l:List gG)(ts:List gB):(gK4 l ts).length=ts.length:=by rw [gRq,List.length_map]
theorem gKs(v:LB):∀(l:List gG),bok l→gCi v l=some (lkp v l)
 | [],_=>rfl
 | b::l,h=>by
   simp only [gCi,lkp];rw [mI (h b (by simp)),gKs v l (fun c hc=>h c (by simp [hc]))];cases b.var_==v<;>rfl
theorem gG2(v:LB):∀(l:List gG),bok l→gCj v l=some (lkp v l)
 | [],_=>rfl
 | b::l,h=>by
   simp only [gCj,lkp];rw [mI (h b (by simp)),gG2 v l (fun c hc=>h c (by simp [hc]))];cases b.var_==v<;>rfl
theorem gL7{rec:List gG→gB→Option gB}(l:List gG)(f:gB→gB):∀(xs:List gB)(k:Nat)(y:List gB),(∀x∈xs,rec l x=some (f x))→y.length=k+xs.length→wY rec l xs k y=some (y.take k++xs.map f)
 | [],k,y,_,h=>by
   simp only [wY,List.map_nil,List.append_nil];rw [List.take_of_length_le (by simp at h;omega)]
 | x::xs,k,y,c,h2=>by
   simp only [wY];rw [c x (by simp)];simp only [bnd,List.length_cons] at h2 ⊢;rw [mI (by omega),gL7 l f xs (k+1) _ (fun z hz=>c z (by simp [hz])) (by simp;omega),gG1 (by omega)];simp
theorem gZl:∀(n:Nat),(∀(l:List gG)(t:gB),bok l→tok t→2*tnd t≤n→gMt n l t=some (apT l t))∧(∀(l:List gG)(ts:List gB),bok l→hRd ts→2*gAb ts+1≤n→gH9 n l ts=some (gK4 l ts))
 | 0=>⟨fun _ t _ _ h=>by have:=gBs t;omega,fun _ ts _ _ h=>by omega⟩
 | n+1=>by
   obtain⟨c,f⟩:=gZl n;refine⟨fun l t hl ht hn=>?_,fun l ts hl ht hn=>?_⟩
   ·obtain⟨k,s,ts⟩:=t;simp only [tnd] at hn;simp only [gMt,gRm,gJu,apT];rw [f l ts hl (by simpa only [tok,hRd] using ht) (by omega),gKs s l hl];simp only [bnd];cases k==1<;>cases (lkp s l).2<;>rfl
   ·simp only [gH9,gKq];rw [mI ht.1,gL7 l (apT l) ts 0 _ (fun x hx=>c l x hl (gIy.1 ht.2 x hx) (by have:=yU hx;omega)) (by simp)];simp [gRq]
theorem gL8{rec:List gG→gB→Option gB}(l:List gG)(f:gB→gB):∀(xs:List gB)(y:List gB),(∀x∈xs,rec l x=some (f x))→y.length+xs.length≤4294967296→wZ rec l xs y=some (y++xs.map f)
 | [],y,_,h=>by simp [wZ]
 | x::xs,y,c,h2=>by
   simp only [wZ];rw [c x (by simp)];simp only [bnd,List.length_cons,List.length_nil] at h2 ⊢;rw [mI (by omega),gL8 l f xs _ (fun z hz=>c z (by simp [hz])) (by simp;omega)];simp
theorem gZm:∀(n:Nat),(∀(l:List gG)(t:gB),bok l→tok t→2*tnd t≤n→gMu n l t=some (apT l t))∧(∀(l:List gG)(ts:List gB),bok l→hRd ts→2*gAb ts+1≤n→gIa n l ts=some (gK4 l ts))
 | 0=>⟨fun _ t _ _ h=>by have:=gBs t;omega,fun _ ts _ _ h=>by omega⟩
 | n+1=>by
   obtain⟨c,f⟩:=gZm n;refine⟨fun l t hl ht hn=>?_,fun l ts hl ht hn=>?_⟩
   ·obtain⟨k,s,ts⟩:=t;simp only [tnd] at hn;simp only [gMu,gRo,gGa,apT];rw [f l ts hl (by simpa only [tok,hRd] using ht) (by omega),gG2 s l hl];simp only [bnd];cases k==1<;>cases (lkp s l).2<;>rfl
   ·simp only [gIa,gKr];rw [gL8 l (apT l) ts _ (fun x hx=>c l x hl (gIy.1 ht.2 x hx) (by have:=yU hx;omega)) (by simpa using ht.1)];simp [gRq]
mutual
theorem hBt{l:List gG}(hl:bok l):∀(t:gB),tok t→tok (apT l t)
 | ⟨k,n,ts⟩,h=>by
   simp only [tok] at h;have f:=hEu hl ts h.2;have c:tok ⟨k,n,gK4 l ts⟩:=by simp only [tok,hEt];exact⟨h.1,f⟩
   simp only [apT];cases k==1 with
   | false=>exact c
   | true=>
     simp only [gT];cases (lkp n l).2 with
     | false=>exact c
     | true=>exact hUk hl
theorem hEu{l:List gG}(hl:bok l):∀(ts:List gB),gU3 ts→gU3 (gK4 l ts)
 | [],_=>by simp [gK4,gU3]
 | a::ts,h=>by
   simp only [gU3] at h;simp only [gK4,gU3];exact⟨hBt hl a h.1,hEu hl ts h.2⟩
end
def gU4(M:Nat)(l:List gG):Prop:=1≤M∧∀b∈l,tnd b.type_≤M
theorem hUl{M:Nat}{v:LB}{l:List gG}(h:gU4 M l):tnd (lkp v l).1≤M:=by
 cases hb:(lkp v l).2 with
 | true=>
   obtain⟨b,c,_,f⟩:=gL6 hb;rw [f];exact h.2 b c
 | false=>rw [hMo hb];simp only [tnd,gAb];exact h.1
mutual
theorem hBu{M:Nat}{l:List gG}(hl:gU4 M l):∀(t:gB),tnd (apT l t)≤M*tnd t
 | ⟨k,n,ts⟩=>by
   have f:=hEv hl ts;have y:=hl.1;have c:tnd ⟨k,n,gK4 l ts⟩≤M*(1+gAb ts):=by
    simp only [tnd,Nat.mul_add];omega
   have h:tnd (lkp n l).1≤M*(1+gAb ts):=by
    have:=hUl (v:=n) hl
    rw [Nat.mul_add];omega
   simp only [apT];cases k==1 with
   | false=>exact c
   | true=>
     simp only [gT];cases (lkp n l).2 with
     | false=>exact c
     | true=>exact h
theorem hEv{M:Nat}{l:List gG}(hl:gU4 M l):∀(ts:List gB),gAb (gK4 l ts)≤M*gAb ts
 | []=>by simp [gK4,gAb]
 | a::ts=>by
   have f:=hBu hl a;have c:=hEv hl ts;simp only [gK4,gAb,Nat.mul_add];omega
end
theorem gO3(f:List gG)(c:gB)(h:bok f∧tok c):kR Tryz.prog 69 [.L 4 (gP f),.d (jS c)] [35] [jS (apT f c)]:=hPo (2*tnd c) f c ((gZl _).1 _ _ h.1 h.2 (Nat.le_refl _))
theorem gW7(f:List gG)(c:gB)(h:bok f∧tok c):kR Tryz.prog 85 [.L 4 (gP f),.d (jS c)] [35] [jS (apT f c)]:=hPq (2*tnd c) f c ((gZm _).1 _ _ h.1 h.2 (Nat.le_refl _))
def yR(a1:LB):LS→Nat→Int
 | [],c=>(-1)
 | f::xs,c=>(cnd (a1==f) (
(c:Int)) (
yR a1 xs (c+1)))
def gO4(c:LS)(a1:LB):Int:=
yR a1 c 0
theorem hPr(y:LS)(a1:LB):gY Tryz.prog 127 [.L 1 (jL y),.S a1] [.i .i64 (gO4 y a1)]:=by
 obtain⟨r,h⟩:∃r,gO4 y a1=r:=⟨_,rfl⟩
 rw [h];unfold gO4 at h;refine SpI Tryz.func127 fun A _=>?_;refine goL ?_;refine noB ?_;refine gB0 0 (fun z2=>?_);refine mV (fun(f:Nat)=>⟨[(0,.L 1 (jL y)),(1,.S a1),(7,.I (y.length:Int)),(8,.N f)],[],Tryz.f127.ntmps⟩) (fun f=>yR a1 (y.drop f) f=r) (fun f=>y.length - f) 0 eJ h ?_;rintro f h;refine goL ?_;refine jY (kX (fun c3=>?_) (fun c3=>?_))
 ·have c:=uR c3;obtain⟨x4,ac,aa⟩:=drop_at c;rw [aa,yR.eq_2] at h;refine noS ?_;refine jY (jA ?_);refine goL ?_;refine jI (jJ f (gQr ac)) ?_;refine kX (fun c5=>?_) (fun c5=>?_)
  ·replace h:=kD c5 h;refine goL ?_;refine jG ?_;subst h;exact qD
  ·replace h:=kE c5 h;refine goS ?_;refine jI (jW f (by omega)) ?_;exact⟨(f+1),h,by omega,eJ⟩
 ·have c:=uS c3;rw [jC c,yR.eq_1] at h;refine goX ?_;refine jG ?_;subst h;exact qD
def gDq(c:LS)(a1:LB):Bool:=
(decide ((gO4 c a1)≥0))
theorem gTs(c:LS)(a1:LB):gY Tryz.prog 108 [.L 1 (jL c),.S a1] [.b (gDq c a1)]:=by
 obtain⟨r,h⟩:∃r,gDq c a1=r:=⟨_,rfl⟩
 rw [h];unfold gDq at h;refine SpI Tryz.func108 fun A _=>?_;refine goL ?_;refine jI (gF (hPr c a1)) ?_;refine jG ?_;subst h;exact qD
def gL9(u:gB)(c:LS):Option LS:=
lt_ ((cnd (u.kind==1) ((!(gDq c u.name))) (false))) fun f=>
(cnd f (
gd (c.length+[u.name].length≤4294967296) (
(some (c++[u.name])))) (
(some c)))
theorem hMp(u:gB)(y:LS)(f:Nat){r:LS}(h:gL9 u y=some r):Go.Eng.Spec Tryz.prog 107 [.d (jS u),.ptr 0 0] [.box [.sl 1 f],.own 9 1 f (jL y)] (fun sv Lo=>∃v'1,sv=.tup []∧Lo=[.box [.sl 1 v'1],.own 9 1 v'1 (jL r)]):=by
 obtain⟨aa,c,ab⟩:=u;unfold gL9 at h;refine kF 2 Tryz.func107 rfl (by kernel_rfl) rfl rfl fun A _=>?_;refine goL ?_;obtain⟨b1,hb1,h⟩:=qA h;refine jT ⟨[(1,.ptr 0 0),(2,.ptr 2 0),(12,.B b1)],[.box [.sl 1 f],.own 9 1 f (jL y),bTy aa c ab],Tryz.f107.ntmps⟩ ?_ ?_
 ·refine gqA 6 hb1 (fun c2 hb1=>?_);refine gBn (gV9 (gTs y c)) ?_;cases hb1;exact eJ
 refine goC h ?_ ?_<;>intro c3 h
 ·refine goL ?_;refine gBc c ?_;obtain⟨g4,h⟩:=mY h;refine gIe g4 ?_;refine goL ?_;obtain rfl:=Option.some.inj h;exact hJ8 [] _ ⟨(f+1),rfl,rfl⟩
 ·refine gAn ?_;show mG _ _ _ _ _ _;obtain rfl:=Option.some.inj h;exact hJ8 [] _ ⟨f,rfl,rfl⟩
def zM(c:gB→LS→Option LS):List gB→LS→Option LS
 | [],f=>(some f)
 | h::xs,f=>bnd (c h f) fun y=>
zM c xs y
def gMv(c:gB→LS→Option LS)(u:gB)(f:LS):Option LS:=
bnd (gL9 u f) fun h=>
zM c u.args h
theorem hF6{c:gB→LS→Option LS}(f:∀(x0:gB)(x1:LS)(w0:Nat){r:LS},c x0 x1=some r→Go.Eng.Spec Tryz.prog 106 [.d (jS x0),.fn 107 [.ptr 0 0]] [.box [.sl 1 w0],.own 9 1 w0 (jL x1)] (fun sv Lo=>∃v'1,sv=.tup []∧Lo=[.box [.sl 1 v'1],.own 9 1 v'1 (jL r)]))(u:gB)(l1:LS)(v1:Nat){r:LS}(h:gMv c u l1=some r):Go.Eng.Spec Tryz.prog 106 [.d (jS u),.fn 107 [.ptr 0 0]] [.box [.sl 1 v1],.own 9 1 v1 (jL l1)] (fun sv Lo=>∃v'1,sv=.tup []∧Lo=[.box [.sl 1 v'1],.own 9 1 v'1 (jL r)]):=by
 obtain⟨ab,ac,y⟩:=u;unfold gMv at h;refine kF 2 Tryz.func106 rfl (by kernel_rfl) rfl rfl fun A _=>?_;refine goL ?_;obtain⟨x1,ap,h⟩:=gM h;refine yJ [0,1] (hMp (gB.mk ab ac y) l1 v1 ap) ?_;rintro _ _ ⟨v2,rfl,rfl⟩;show VO _ _ _ _ ⟨(_,.tup [])::_,[.box [.sl 1 v2],.own 9 1 v2 (jL x1),bTy ab ac y],_⟩ _;refine goL ?_;refine noB ?_;refine gB0 10 (fun z6=>?_);refine kS (fun(y5:Nat)(y3:LS)(v4:Nat)=>⟨[(1,.fn 107 [.ptr 0 0]),(10,.L 3 (jH y)),(11,.I (y.length:Int)),(12,.N y5)],[.box [.sl 1 v4],.own 9 1 v4 (jL y3),bTy ab ac y],Tryz.f106.ntmps⟩) (fun y5 y3 v4=>zM c (y.drop y5) y3=some r) (fun y5 y3 v4=>y.length - y5) 0 x1 v2 eJ h ?_;rintro y5 y3 v4 h;refine goL ?_;refine jY (kX (fun c7=>?_) (fun c7=>?_))
 ·have aa:=uR c7;obtain⟨x8,au,am⟩:=drop_at aa;rw [am,zM.eq_2] at h;obtain⟨ae,ag,ah⟩:=x8;refine noS ?_;refine jY (jA ?_);refine goL ?_;refine jI (jJ y5 (zJ au)) ?_;obtain⟨x9,av,h⟩:=gM h;refine yJ [0,1] (f (gB.mk ae ag ah) y3 v4 av) ?_;rintro _ _ ⟨aj,rfl,rfl⟩;show VO _ _ _ _ ⟨(_,.tup [])::_,[.box [.sl 1 aj],.own 9 1 aj (jL x9),bTy ab ac y,bTy ae ag ah],_⟩ _;refine goL ?_;refine jI (jW y5 (by omega)) ?_;exact⟨(y5+1),x9,aj,h,by omega,eJ⟩
 ·have aa:=uS c7;rw [jC aa,zM.eq_1] at h;refine gSy ?_;show mG _ _ _ _ _ _;obtain rfl:=Option.some.inj h;exact hJ8 [] _ ⟨v4,rfl,rfl⟩
def gHb:Nat→gB→LS→Option LS
 | 0,_,_=>none
 | n+1,c,f=>gMv (gHb n) c f
theorem hF7:∀(n:Nat)(c:gB)(f:LS)(y:Nat){r:LS},gHb n c f=some r→Go.Eng.Spec Tryz.prog 106 [.d (jS c),.fn 107 [.ptr 0 0]] [.box [.sl 1 y],.own 9 1 y (jL f)] (fun sv Lo=>∃v'1,sv=.tup []∧Lo=[.box [.sl 1 v'1],.own 9 1 v'1 (jL r)]):=by
 intro n
 induction n with
 | zero=>intro c f y r h;cases h
 | succ n ih=>intro c f y r h;exact hF6 ih c f y h
def gM5(k:Int)(n:LB)(l:LS):LS:=if k=1∧n∉l then l++[n] else l
mutual
def gK3:gB→LS→LS
 | ⟨k,n,ts⟩,l=>gI6 ts (gM5 k n l)
def gI6:List gB→LS→LS
 | [],l=>l
 | a::ts,l=>gI6 ts (gK3 a l)
end
theorem gU5(k:Int)(n:LB)(l:LS):(gM5 k n l).length≤l.length+1:=by
 unfold gM5;split
 ·simp
 ·omega
mutual
theorem gTt:∀(t:gB)(l:LS),(gK3 t l).length≤l.length+tnd t
 | ⟨k,n,ts⟩,l=>by
   simp only [gK3,tnd];have c:=gU6 ts (gM5 k n l);have f:=gU5 k n l;omega
theorem gU6:∀(ts:List gB)(l:LS),(gI6 ts l).length≤l.length+gAb ts
 | [],l=>by simp [gI6]
 | a::ts,l=>by
   simp only [gI6,gAb];have c:=gU6 ts (gK3 a l);have f:=gTt a l;omega
end
theorem gU7(a:LB):∀(l:LS)(k:Nat),0≤yR a l k↔a∈l
 | [],k=>by simp [yR]
 | x::l,k=>by
   by_cases h:a=x
   ·subst h;simp [yR,cnd]
   ·have c:(a==x)=false:=by simpa using h
    have f:yR a (x::l) k=yR a l (k+1):=by simp [yR,c,cnd]
    rw [f,gU7 a l (k+1)];simp [h]
theorem gZn(l:LS)(a:LB):gDq l a=decide (a∈l):=by
 unfold gDq gO4;exact decide_eq_decide.2 (gU7 a l 0)
theorem hF8(u:gB)(l:LS)(h:l.length+1≤4294967296):gL9 u l=some (gM5 u.kind u.name l):=by
 unfold gL9 lt_ gM5;rw [gZn];by_cases c:u.kind=1
 ·by_cases f:u.name∈l
  ·simp [c,f,cnd]
  ·simp only [c,f,decide_false,Bool.not_false,beq_self_eq_true,gT,not_false_eq_true,and_self,if_true];rw [mI (by simpa using h)]
 ·have:(u.kind==1)=false:=by simpa using c
  simp [this,c,cnd]
theorem gM6{n:Nat}(ih:∀(t:gB)(l:LS),tnd t≤n→l.length+tnd t≤4294967296→gHb n t l=some (gK3 t l)) :
  ∀(xs:List gB)(l:LS),gAb xs≤n→l.length+gAb xs≤4294967296→zM (gHb n) xs l=some (gI6 xs l)
 | [],l,_,_=>by simp [zM,gI6]
 | x::xs,l,c,f=>by
   simp only [gAb] at c f;simp only [zM,gI6];rw [ih x l (by omega) (by omega)]
   have:=gTt x l
   exact gM6 ih xs _ (by omega) (by omega)
theorem gTu:∀(n:Nat)(t:gB)(l:LS),tnd t≤n→l.length+tnd t≤4294967296→gHb n t l=some (gK3 t l)
 | 0,⟨k,nm,ts⟩,l,h,_=>by simp only [tnd] at h;omega
 | n+1,⟨k,nm,ts⟩,l,c,f=>by
   simp only [tnd] at c f;simp only [gHb,gMv,gK3];rw [hF8 _ _ (by omega)]
   have:=gU5 k nm l
   exact gM6 (gTu n) ts (gM5 k nm l) (by omega) (by omega)
theorem hF9(c:gB)(f:LS)(y:Nat)(h:f.length+tnd c≤4294967296):Go.Eng.Spec Tryz.prog 106 [.d (jS c),.fn 107 [.ptr 0 0]] [.box [.sl 1 y],.own 9 1 y (jL f)] (fun sv Lo=>∃v'1,sv=.tup []∧Lo=[.box [.sl 1 v'1],.own 9 1 v'1 (jL (gK3 c f))]):=hF7 (tnd c) c f y (gTu _ _ _ (Nat.le_refl _) h)
def yZ:List gB→LS→Option LS
 | [],c=>(some c)
 | f::xs,c=>gd (c.length+tnd f≤4294967296) (lt_ (gK3 f c) fun h=>
yZ xs h)
def gG3(c:List gB):Option LS:=
yZ c []
theorem gW8(a0:List gB){r:LS}(h:gG3 a0=some r):kR Tryz.prog 89 [.L 3 (jH a0)] [9] [.sl 1 (jL r)]:=by
 unfold gG3 at h;refine pR Tryz.func89 rfl (by kernel_rfl) rfl (by simp) fun A _=>?_;refine goL ?_;refine gGk ?_;refine goL ?_;refine noB ?_;refine gB0 7 (fun z4=>?_);refine kS (fun(f:Nat)(y1:LS)(v2:Nat)=>⟨[(3,.ptr 1 0),(7,.L 3 (jH a0)),(8,.I (a0.length:Int)),(9,.N f)],[.own 9 1 v2 (jL y1),.box [.sl 0 v2]],Tryz.f89.ntmps⟩) (fun f y1 v2=>yZ (a0.drop f) y1=some r) (fun f y1 v2=>a0.length - f) 0 [] 0 eJ h ?_;rintro f y1 v2 h;refine goL ?_;refine jY (kX (fun c5=>?_) (fun c5=>?_))
 ·have c:=uR c5;obtain⟨x6,ai,ag⟩:=drop_at c;rw [ag,yZ.eq_2] at h;obtain⟨y,aa,ab⟩:=x6;refine noS ?_;refine jY (jA ?_);refine goL ?_;refine jI (jJ f (zJ ai)) ?_;refine qK (gV8) ?_;obtain⟨g8,h⟩:=mY h;obtain⟨x7,aj,h⟩:=qA h;have sx7:=hF9 (gB.mk y aa ab) y1 v2 g8;rw [aj] at sx7;refine yJ [1,0] (sx7) ?_;rintro _ _ ⟨v9,rfl,rfl⟩;show VO _ _ _ _ ⟨(_,.tup [])::_,[.own 9 1 v9 (jL x7),.box [.sl 0 v9],bTy y aa ab],_⟩ _;refine goL ?_;refine jI (jW f (by omega)) ?_;exact⟨(f+1),x7,v9,h,by omega,eJ⟩
 ·have c:=uS c5;rw [jC c,yZ.eq_1] at h;refine goX ?_;refine jG ?_;obtain rfl:=Option.some.inj h;exact gQd
def yS(c:gB):Option LS:=
bnd (gG3 [c]) fun f=>
(some f)
theorem gIc(a0:gB){r:LS}(h:yS a0=some r):kR Tryz.prog 64 [.d (jS a0)] [9] [.sl 1 (jL r)]:=by
 obtain⟨c,f,y⟩:=a0;unfold yS at h;refine pR Tryz.func64 rfl (by kernel_rfl) rfl (by simp) fun A _=>?_;refine goL ?_;refine gAo (u:=(.st [.i .i64 c,.s f,.sl 3 (jH y)])) ?_;obtain⟨x1,ab,h⟩:=gM h;refine gE3 (gW8 [(gB.mk c f y)] ab) ?_;refine goL ?_;refine jG ?_;obtain rfl:=Option.some.inj h;exact gQd
def gJv(c:Int):Bool:=
lt_ ((cnd (decide (c≥48)) ((decide (c≤57))) (false))) fun f=>
f
theorem hMq(c:Int):gY Tryz.prog 90 [.d (.i .u8 c)] [.b (gJv c)]:=by
 obtain⟨r,h⟩:∃r,gJv c=r:=⟨_,rfl⟩
 rw [h];unfold gJv at h;refine SpI Tryz.func90 fun A _=>?_;refine goL ?_;obtain⟨f,hb1,h⟩:=qA h;refine jT ⟨[(2,.B f)],[],Tryz.f90.ntmps⟩ ?_ ?_
 ·exact gqZ 5 hb1
 refine goL ?_;refine jG ?_;subst h;exact qD
def wH:LB→Option (Bool)
 | []=>(some true)
 | c::xs=>(cnd (!(gJv (c.toNat:Int))) (
(some false)) (
wH xs ))
def wP(c:LB):Option (Bool):=
bnd ((cnd (decide ((c.length:Int) < 2)) ((some true)) (bnd (at? c 0) fun f=>
(cnd ((f.toNat:Int) != 63) ((some true)) ((cnd (decide ((c.length:Int) > 2)) (bnd (at? c 1) fun h=>
(some ((h.toNat:Int)==48))) ((some false)))))))) fun y=>
(cnd y (
(some false)) (
wH (c.drop 1) ))
theorem gG4(a0:LB){r:Bool}(h:wP a0=some r):gY Tryz.prog 66 [.S a0] [.b r]:=by
 unfold wP at h;refine SpI Tryz.func66 fun A _=>?_;refine goL ?_;obtain⟨b1,hb1,h⟩:=gM h;refine jT ⟨[(0,.S a0),(21,.B b1)],[],Tryz.f66.ntmps⟩ ?_ ?_
 ·refine gqO 7 hb1 (fun c2 hb1=>?_);obtain⟨x3,y,hb1⟩:=gM hb1;obtain⟨ag,y⟩:=gDy y;refine jI (gJn ag y) ?_;refine gqO 12 hb1 (fun c4 hb1=>?_);refine gqA 16 hb1 (fun c5 hb1=>?_);obtain⟨x6,aa,hb1⟩:=gM hb1;obtain⟨ah,aa⟩:=gDy aa;refine jI (gJn ah aa) ?_;cases hb1;exact eJ
 refine goC h ?_ ?_<;>intro c7 h
 ·exact goR h
 ·refine goS ?_;refine noB ?_;refine hJ5 0 (fun z9=>?_);refine mV (fun(f:Nat)=>⟨[(0,.S a0),(3,.N f)],[],Tryz.f66.ntmps⟩) (fun f=>wH (a0.drop f)  =some r) (fun f=>a0.length - f) 1 eJ h ?_;rintro f h;refine goL ?_;refine kX (fun ab=>?_) (fun ab=>?_)
  ·have c:=hUu ab;obtain⟨aj,ai,ac⟩:=drop_at c;rw [ac,wH.eq_2] at h;refine noS ?_;refine jY (jA ?_);refine goL ?_;refine qK (gGj f ai) ?_;refine jI (gF (hMq (aj.toNat:Int))) ?_;refine kX (fun ad=>?_) (fun ad=>?_)
   ·replace h:=kD ad h;exact goR h
   ·replace h:=kE ad h;refine goS ?_;refine jI (jW f (by omega)) ?_;exact⟨(f+1),h,by omega,eJ⟩
  ·have c:=hUv ab;rw [jC c,wH.eq_1] at h;refine goX ?_;refine jG ?_;cases h;exact qD
def gCk:LB→Option (Bool)
 | []=>(some true)
 | c::xs=>lt_ ((cnd (decide ((c.toNat:Int) < 48)) (true) ((decide ((c.toNat:Int) > 57))))) fun f=>
(cnd f (
(some false)) (
gCk xs ))
def gGb(c:gB):Option (Bool):=
bnd ((cnd (c.kind != 1) ((some true)) ((cnd (decide ((c.name.length:Int) < 2)) ((some true)) (bnd (at? c.name 0) fun f=>
(cnd ((f.toNat:Int) != 63) ((some true)) (bnd (at? c.name 1) fun h=>
(cnd ((h.toNat:Int)==48) ((some (decide ((c.name.length:Int) > 2)))) ((some false)))))))))) fun y=>
(cnd y (
(some false)) (
gCk (c.name.drop 1) ))
theorem gO5(a0:gB){r:Bool}(h:gGb a0=some r):gY Tryz.prog 59 [.d (jS a0)] [.b r]:=by
 obtain⟨y,c,aa⟩:=a0;unfold gGb at h;refine SpI Tryz.func59 fun A _=>?_;refine goL ?_;obtain⟨b1,hb1,h⟩:=gM h;refine jT ⟨[(1,.ptr 0 0),(3,.I (c.length:Int)),(30,.B b1)],[bTy y c aa],Tryz.f59.ntmps⟩ ?_ ?_
 ·refine gqO 11 hb1 (fun c2 hb1=>?_);refine gqO 15 hb1 (fun c3 hb1=>?_);obtain⟨x4,ad,hb1⟩:=gM hb1;obtain⟨ai,ad⟩:=gDy ad;refine jI (gJn ai ad) ?_;refine gqO 21 hb1 (fun c5 hb1=>?_);obtain⟨x6,ae,hb1⟩:=gM hb1;obtain⟨aj,ae⟩:=gDy ae;refine jI (gJn aj ae) ?_;exact gqZ 26 hb1
 refine goC h ?_ ?_<;>intro c8 h
 ·exact goR h
 ·refine goS ?_;refine noB ?_;refine hV9 0 1 (fun an=>?_);refine mV (fun(y9:Nat)=>⟨[(1,.ptr 0 0),(3,.I (c.length:Int)),(4,.N y9)],[bTy y c aa],Tryz.f59.ntmps⟩) (fun y9=>gCk (c.drop y9)  =some r) (fun y9=>c.length - y9) 1 eJ h ?_;rintro y9 h;refine goL ?_;refine kX (fun ag=>?_) (fun ag=>?_)
  ·have f:=hUu ag;obtain⟨ao,ac,ah⟩:=drop_at f;rw [ah,gCk.eq_2] at h;refine noS ?_;refine jY (jA ?_);refine goL ?_;refine jI (gGj y9 ac) ?_;obtain⟨al,hb13,h⟩:=qA h;refine jT ⟨[(1,.ptr 0 0),(3,.I (c.length:Int)),(4,.N y9),(47,.B al)],[bTy y c aa],Tryz.f59.ntmps⟩ ?_ ?_
   ·refine gqO 41 hb13 (fun ap hb13=>?_);refine jI (gGj y9 ac) ?_;cases hb13;exact eJ
   refine goC h ?_ ?_<;>intro aq h
   ·exact goR h
   ·refine goS ?_;refine jI (jW y9 (by omega)) ?_;exact⟨(y9+1),h,by omega,eJ⟩
  ·have f:=hUv ag;rw [jC f,gCk.eq_1] at h;refine goX ?_;refine jG ?_;cases h;exact qD
def dig(b:UInt8):Bool:=decide (48≤b.toNat) && decide (b.toNat≤57)
def isInf:LB→Bool
 | f::c::l=>(f.toNat==63) && !(c.toNat==48 && !l.isEmpty) && (c::l).all dig
 | _=>false
theorem hGa(b:UInt8):gJv (b.toNat:Int)=dig b:=by
 unfold gJv lt_ dig;rw [hJh];by_cases f:48≤b.toNat
 ·have c:(decide ((b.toNat:Int)≥48))=true:=decide_eq_true (by omega);rw [c];simp [f];omega
 ·have c:(decide ((b.toNat:Int)≥48))=false:=by simp;omega
  rw [c];simp [f]
theorem gTv:∀(l:LB),wH l=some (l.all dig)
 | []=>rfl
 | b::l=>by
   simp only [wH,hGa,List.all_cons];cases h:dig b with
   | true=>simp [cnd,gTv l]
   | false=>simp [cnd]
theorem gO6:∀(l:LB),gCk l=some (l.all dig)
 | []=>rfl
 | b::l=>by
   simp only [gCk,lt_,List.all_cons];have key:(cnd (decide ((b.toNat:Int) < 48)) true (decide ((b.toNat:Int) > 57)))= !dig b:=by
    unfold dig;rw [hJh];by_cases y:b.toNat < 48
    ·have c:(decide ((b.toNat:Int) < 48))=true:=decide_eq_true (by omega);rw [c]
     have:¬48≤b.toNat:=by omega
     simp [this]
    ·have c:(decide ((b.toNat:Int) < 48))=false:=by simp;omega
     rw [c]
     have:48≤b.toNat:=by omega
     simp only [Bool.false_eq_true,if_false,this,decide_true,Bool.true_and];by_cases f:b.toNat≤57
     ·simp [f];omega
     ·simp [f];omega
   rw [key];cases h:dig b with
   | true=>simp [cnd,gO6 l]
   | false=>simp [cnd]
theorem gJc(s:LB):wP s=some (isInf s):=by
 match s with
 | []=>rfl
 | [a]=>rfl
 | c::f::l=>
   unfold wP;have h1:decide (((c::f::l).length:Int) < 2)=false:=by simp;omega
   have e0:at? (c::f::l) 0=some c:=rfl;have e1:at? (c::f::l) 1=some f:=rfl;rw [h1,e0,e1];simp only [gI,bnd,isInf];by_cases h:c.toNat=63
   ·have y:((c.toNat:Int) != 63)=false:=by simp [h]
    have h4:(c.toNat==63)=true:=by simp [h]
    rw [y,h4];simp only [gI,Bool.true_and,List.drop_succ_cons,List.drop_zero,gTv];cases l with
    | nil=>simp [cnd]
    | cons b2 l=>
      have h5:decide (((c::f::b2::l).length:Int) > 2)=true:=by simp;omega
      rw [h5];simp only [gT,List.isEmpty_cons,Bool.not_false,Bool.and_true];by_cases h6:f.toNat=48
      ·have h7:((f.toNat:Int)==48)=true:=by simp [h6]
       have h8:(f.toNat==48)=true:=by simp [h6]
       rw [h7,h8];rfl
      ·have h7:((f.toNat:Int)==48)=false:=by simp;omega
       have h8:(f.toNat==48)=false:=by simp [h6]
       rw [h7,h8];simp [cnd]
   ·have y:((c.toNat:Int) != 63)=true:=by simp;omega
    have h4:(c.toNat==63)=false:=by simp [h]
    rw [y,h4];rfl
theorem gDx(t:gB):gGb t=some ((t.kind==1) && isInf t.name):=by
 obtain⟨k,s,ts⟩:=t;unfold gGb;by_cases hk:k=1
 ·have h:(k != 1)=false:=by simp [hk]
  have h0':(k==1)=true:=by simp [hk]
  simp only [h,h0',gI,Bool.true_and]
  match s with
  | []=>rfl
  | [a]=>rfl
  | c::f::l=>
    have h1:decide (((c::f::l).length:Int) < 2)=false:=by simp;omega
    have e0:at? (c::f::l) 0=some c:=rfl;have e1:at? (c::f::l) 1=some f:=rfl;rw [h1,e0,e1];simp only [gI,bnd,isInf];by_cases y:c.toNat=63
    ·have h3:((c.toNat:Int) != 63)=false:=by simp [y]
     have h4:(c.toNat==63)=true:=by simp [y]
     rw [h3,h4];simp only [gI,Bool.true_and,List.drop_succ_cons,List.drop_zero,gO6];by_cases h6:f.toNat=48
     ·have h7:((f.toNat:Int)==48)=true:=by simp [h6]
      have h8:(f.toNat==48)=true:=by simp [h6]
      rw [h7,h8];cases l with
      | nil=>simp [cnd]
      | cons b2 l=>
        have h5:decide (((c::f::b2::l).length:Int) > 2)=true:=by simp;omega
        rw [h5];rfl
     ·have h7:((f.toNat:Int)==48)=false:=by simp;omega
      have h8:(f.toNat==48)=false:=by simp [h6]
      rw [h7,h8];simp [cnd]
    ·have h3:((c.toNat:Int) != 63)=true:=by simp;omega
     have h4:(c.toNat==63)=false:=by simp [y]
     rw [h3,h4];rfl
 ·have h:(k != 1)=true:=by simp [hk]
  have h0':(k==1)=false:=by simp [hk]
  simp only [h,h0'];rfl
end Go.Proofs.YtegahmhnmjnhhaaGreat
