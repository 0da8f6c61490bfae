import Derived.Test.YtegahmhnmjnhhaaGreatEng72
set_option maxHeartbeats 4000000
set_option linter.unusedVariables false
set_option linter.unusedSimpArgs false
set_option linter.unusedSectionVars false
namespace Go.Proofs.YtegahmhnmjnhhaaGreat
open Go Go.Eng
attribute [local irreducible] V VO VQ VY Quiet QR jC kT Rng mU mV mI
mutual
def tnd:gB→Nat
 | ⟨_,_,ts⟩=>1+gA6 ts
def gA6:List gB→Nat
 | []=>0
 | a::ts=>tnd a+gA6 ts
end
mutual
def tok:gB→Prop
 | ⟨_,_,ts⟩=>ts.length≤4294967296∧gUv ts
def gUv:List gB→Prop
 | []=>True
 | a::ts=>tok a∧gUv ts
end
def hPz(ts:List gB):Prop:=ts.length≤4294967296∧gUv ts
theorem gIm:∀{ts:List gB},gUv ts↔∀t∈ts,tok t
 | []=>by simp [gUv]
 | a::ts=>by simp [gUv,gIm (ts:=ts)]
theorem zC{x:gB}:∀{ts:List gB},x∈ts→tnd x≤gA6 ts
 | [],h=>by simp at h
 | a::ts,h=>by
   simp only [gA6];rcases List.mem_cons.1 h with rfl | h
   ·omega
   ·have:=zC h
    omega
theorem gBq(t:gB):1≤tnd t:=by cases t;simp only [tnd];omega
def idT(t:gB):gB:=t
def hX4(t:List gB):List gB:=t
mutual
def jB2:gB→Bool
 | ⟨_,_,ts⟩=>decide (ts.length≤4294967296) && hKe ts
def hKe:List gB→Bool
 | []=>true
 | a::ts=>jB2 a && hKe ts
end
mutual
theorem hDh:∀(t:gB),jB2 t=true↔tok t
 | ⟨k,n,ts⟩=>by simp only [jB2,tok,Bool.and_eq_true,decide_eq_true_eq,gYu ts]
theorem gYu:∀(ts:List gB),hKe ts=true↔gUv ts
 | []=>by simp [hKe,gUv]
 | a::ts=>by simp only [hKe,gUv,Bool.and_eq_true,hDh a,gYu ts]
end
instance (t:gB):Decidable (tok t):=decidable_of_iff _ (hDh t)
def gJ8(f:gB→Option (gB))(c:(List gB)→Option (List gB))(h:gB):Option (gB):=
bnd (c h.args) fun y=>
(some (gB.mk h.kind h.name y))
def gJ9(c:gB→Option (gB)):Prop:=∀(f:gB) {r:gB},c f=some r→kT Tryz.prog 44 [.d (jS f)] [35] [jS r]
def gLv(c:(List gB)→Option (List gB)):Prop:=∀(f:List gB) {r:List gB},c f=some r→kT Tryz.prog 77 [.L 3 (jJ f)] [35] [.sl 3 (jJ r)]
theorem hAq{f}{c}(aa:gJ9 f)(y:gLv c)(a0:gB){r:gB}(h:gJ8 f c a0=some r):kT Tryz.prog 44 [.d (jS a0)] [35] [jS r]:=by
 obtain⟨ae,ag,ab⟩:=a0;unfold gJ8 at h;refine pM Tryz.func44 rfl (by kernel_rfl) rfl (by simp) fun A _=>?_;refine goL ?_;obtain⟨x1,ad,h⟩:=gP h;refine gGa (y ab ad) ?_;refine goL ?_;refine jK ?_;obtain rfl:=Option.some.inj h;exact gPw
def wC(c:gB→Option (gB)):List gB→Nat→(List gB)→Option (List gB)
 | [],f,h=>(some h)
 | y::xs,f,h=>bnd (c y) fun x8=>
gd (f < h.length) (
wC c xs (f+1) (h.set f x8))
def gIn(c:gB→Option (gB))(f:(List gB)→Option (List gB))(h:List gB):Option (List gB):=
gd (h.length≤4294967296) (
wC c h 0 (List.replicate h.length (gB.mk 0 [] [])))
theorem gYv{c}{f}(y:gJ9 c)(ab:gLv f)(a0:List gB){r:List gB}(h:gIn c f a0=some r):kT Tryz.prog 77 [.L 3 (jJ a0)] [35] [.sl 3 (jJ r)]:=by
 unfold gIn at h;refine pM Tryz.func77 rfl (by kernel_rfl) rfl (by simp) fun A _=>?_;refine goL ?_;obtain⟨g1,h⟩:=mW h;refine hIm (gB.mk 0 [] []) g1 ?_;refine goL ?_;refine noB ?_;refine gBx 9 (fun z5=>?_);refine kS (fun(y4:Nat) (y2:List gB) (v3:Nat)=>⟨[(3,.sl 0 v3),(9,.L 3 (jJ a0)),(10,.I (a0.length:Int)),(11,.N y4)],[.own 35 3 v3 (jJ y2)],Tryz.f77.ntmps⟩) (fun y4 y2 v3=>wC c (a0.drop y4) y4 y2=some r) (fun y4 y2 v3=>a0.length - y4) 0 (List.replicate a0.length (gB.mk 0 [] [])) 0 eJ h ?_;rintro y4 y2 v3 h;refine goL ?_;refine jW (kX (fun c6=>?_) (fun c6=>?_))
 ·have aa:=uR c6;obtain⟨x7,ap,ak⟩:=drop_at aa;rw [ak,wC.eq_2] at h;obtain⟨al,am,an⟩:=x7;refine noS ?_;refine jW (jE ?_);refine goL ?_;refine jL (jM y4 (zL ap)) ?_;obtain⟨⟨ad,ae,ag⟩,aq,h⟩:=gP h;refine gGa (y (gB.mk al am an) aq) ?_;obtain⟨g9,h⟩:=mW h;refine gAq (hM5 y4 g9) ?_;refine hQ3 (gB.mk ad ae ag) g9 ?_;refine goL ?_;refine jL (jR y4 (by omega)) ?_;exact⟨(y4+1),(y2.set y4 (gB.mk ad ae ag)),v3,h,by omega,eJ⟩
 ·have aa:=uS c6;rw [jF aa,wC.eq_1] at h;refine goX ?_;refine jK ?_;obtain rfl:=Option.some.inj h;exact gPw
mutual
def gE1:Nat→gB→Option (gB)
 | 0,_=>none
 | n+1,c=>gJ8 (gE1 n) (gFx n) c
def gFx:Nat→(List gB)→Option (List gB)
 | 0,_=>none
 | n+1,c=>gIn (gE1 n) (gFx n) c
end
theorem gYw:∀(n:Nat),gJ9 (gE1 n)∧gLv (gFx n):=by
 intro n
 induction n with
 | zero=>exact⟨(by intro c r h;cases h),(by intro c r h;cases h)⟩
 | succ n ih=>
   obtain⟨ih0,ih1⟩:=ih;refine⟨(fun c r h=>hAq ih0 ih1 c h),(fun c r h=>gYv ih0 ih1 c h)⟩
theorem hAu:∀(n:Nat),gJ9 (gE1 n):=fun n=>(gYw n).1
def gKa(f:gB→Option (gB))(c:(List gB)→Option (List gB))(h:gB):Option (gB):=
bnd (c h.args) fun y=>
(some (gB.mk h.kind h.name y))
def gKb(c:gB→Option (gB)):Prop:=∀(f:gB) {r:gB},c f=some r→kT Tryz.prog 55 [.d (jS f)] [35] [jS r]
def gLw(c:(List gB)→Option (List gB)):Prop:=∀(f:List gB) {r:List gB},c f=some r→kT Tryz.prog 83 [.L 3 (jJ f)] [35] [.sl 3 (jJ r)]
theorem hAv{f}{c}(aa:gKb f)(y:gLw c)(a0:gB){r:gB}(h:gKa f c a0=some r):kT Tryz.prog 55 [.d (jS a0)] [35] [jS r]:=by
 obtain⟨ae,ag,ab⟩:=a0;unfold gKa at h;refine pM Tryz.func55 rfl (by kernel_rfl) rfl (by simp) fun A _=>?_;refine gH2 ?_;refine jO (P:=Tryz.prog) Mix.h [(0,true),(1,true),(2,true),(3,true),(4,true),(5,true),(6,false),(7,true),(8,false)] (by kernel_rfl) ?_;refine goY ?_;obtain⟨x1,ad,h⟩:=gP h;refine gNa (y ab ad) ?_;refine goY ?_;refine kQ ?_;refine goL ?_;refine jK ?_;obtain rfl:=Option.some.inj h;exact gPw
def wD(c:gB→Option (gB)):List gB→(List gB)→Option (List gB)
 | [],f=>(some f)
 | y::xs,f=>bnd (c y) fun h=>
gd (f.length+[h].length≤4294967296) (
wD c xs (f++[h]))
def gIo(c:gB→Option (gB))(f:(List gB)→Option (List gB))(h:List gB):Option (List gB):=
wD c h []
theorem gYx{c}{f}(y:gKb c)(ab:gLw f)(a0:List gB){r:List gB}(h:gIo c f a0=some r):kT Tryz.prog 83 [.L 3 (jJ a0)] [35] [.sl 3 (jJ r)]:=by
 unfold gIo at h;refine pM Tryz.func83 rfl (by kernel_rfl) rfl (by simp) fun A _=>?_;refine goL ?_;refine gF9 ?_;refine goL ?_;refine noB ?_;refine gBx 0 (fun z4=>?_);refine kS (fun(y3:Nat) (y1:List gB) (v2:Nat)=>⟨[(0,.L 3 (jJ a0)),(3,.sl 0 v2),(4,.N y3)],[.own 35 3 v2 (jJ y1)],Tryz.f83.ntmps⟩) (fun y3 y1 v2=>wD c (a0.drop y3) y1=some r) (fun y3 y1 v2=>a0.length - y3) 0 [] 0 eJ h ?_;rintro y3 y1 v2 h;refine goL ?_;refine kX (fun c5=>?_) (fun c5=>?_)
 ·have aa:=uR c5;obtain⟨x6,ap,ak⟩:=drop_at aa;rw [ak,wD.eq_2] at h;obtain⟨al,am,an⟩:=x6;refine noS ?_;refine jW (jE ?_);refine goL ?_;refine jL (jM y3 (zL ap)) ?_;obtain⟨⟨ad,ae,ag⟩,aq,h⟩:=gP h;refine gGa (y (gB.mk al am an) aq) ?_;refine gBc (gB.mk ad ae ag) ?_;obtain⟨g8,h⟩:=mW h;refine gH3 g8 ?_;refine goL ?_;refine jL (jR y3 (by omega)) ?_;exact⟨(y3+1),(y1++[(gB.mk ad ae ag)]),(v2+1),h,by omega,eJ⟩
 ·have aa:=uS c5;rw [jF aa,wD.eq_1] at h;refine goX ?_;refine jK ?_;obtain rfl:=Option.some.inj h;exact gPw
mutual
def gE2:Nat→gB→Option (gB)
 | 0,_=>none
 | n+1,c=>gKa (gE2 n) (gFy n) c
def gFy:Nat→(List gB)→Option (List gB)
 | 0,_=>none
 | n+1,c=>gIo (gE2 n) (gFy n) c
end
theorem gYy:∀(n:Nat),gKb (gE2 n)∧gLw (gFy n):=by
 intro n
 induction n with
 | zero=>exact⟨(by intro c r h;cases h),(by intro c r h;cases h)⟩
 | succ n ih=>
   obtain⟨ih0,ih1⟩:=ih;refine⟨(fun c r h=>hAv ih0 ih1 c h),(fun c r h=>gYx ih0 ih1 c h)⟩
theorem hAw:∀(n:Nat),gKb (gE2 n):=fun n=>(gYy n).1
theorem gGq{α:Type}{l:List α}{k:Nat}{x:α}(h:k < l.length):(l.set k x).take (k+1)=l.take k++[x]:=by
 apply List.ext_getElem?;intro i;rw [List.getElem?_take,List.getElem?_append,List.length_take,List.getElem?_take,List.getElem?_set];have hm:min k l.length=k:=Nat.min_eq_left (by omega);rw [hm];by_cases c:i < k
 ·rw [if_pos (by omega),if_neg (by omega),if_pos c,if_pos c]
 ·rw [if_neg c];by_cases f:i=k
  ·subst f;rw [if_pos (by omega),if_pos rfl,if_pos h];simp
  ·rw [if_neg (by omega),List.getElem?_eq_none (by simp;omega)]
theorem gKr{rec:gB→Option gB}:∀(xs:List gB) (k:Nat) (y:List gB),(∀x∈xs,rec x=some x)→y.length=k+xs.length→wC rec xs k y=some (y.take k++xs)
 | [],k,y,_,h=>by
   simp only [wC,List.append_nil];rw [List.take_of_length_le (by simp at h;omega)]
 | x::xs,k,y,c,f=>by
   simp only [wC];rw [c x (by simp)];simp only [bnd,List.length_cons] at f ⊢;rw [mK (by omega),gKr xs (k+1) _ (fun z hz=>c z (by simp [hz])) (by simp;omega),gGq (by omega)];simp
theorem hDi:∀(n:Nat),(∀t:gB,2*tnd t≤n→tok t→gE1 n t=some (idT t))∧(∀ts:List gB,2*gA6 ts+1≤n→hPz ts→gFx n ts=some (hX4 ts))
 | 0=>⟨fun t h=>by have:=gBq t;omega,fun ts h=>by omega⟩
 | n+1=>by
   obtain⟨c,f⟩:=hDi n;refine⟨fun t hn ht=>?_,fun ts hn ht=>?_⟩
   ·obtain⟨k,s,ts⟩:=t;simp only [tnd] at hn;simp only [gE1,gJ8];rw [f ts (by omega) (by simpa only [tok,hPz] using ht)];rfl
   ·simp only [gFx,gIn];rw [mK ht.1,gKr ts 0 _ (fun x hx=>c x (by have:=zC hx;omega) (gIm.1 ht.2 x hx)) (by simp)];simp [hX4]
theorem gKs{rec:gB→Option gB}:∀(xs:List gB) (y:List gB),(∀x∈xs,rec x=some x)→y.length+xs.length≤4294967296→wD rec xs y=some (y++xs)
 | [],y,_,h=>by simp [wD]
 | x::xs,y,c,f=>by
   simp only [wD];rw [c x (by simp)];simp only [bnd,List.length_cons,List.length_nil] at f ⊢;rw [mK (by omega),gKs xs _ (fun z hz=>c z (by simp [hz])) (by simp;omega)];simp
theorem hDj:∀(n:Nat),(∀t:gB,2*tnd t≤n→tok t→gE2 n t=some (idT t))∧(∀ts:List gB,2*gA6 ts+1≤n→hPz ts→gFy n ts=some (hX4 ts))
 | 0=>⟨fun t h=>by have:=gBq t;omega,fun ts h=>by omega⟩
 | n+1=>by
   obtain⟨c,f⟩:=hDj n;refine⟨fun t hn ht=>?_,fun ts hn ht=>?_⟩
   ·obtain⟨k,s,ts⟩:=t;simp only [tnd] at hn;simp only [gE2,gKa];rw [f ts (by omega) (by simpa only [tok,hPz] using ht)];rfl
   ·simp only [gFy,gIo];rw [gKs ts _ (fun x hx=>c x (by have:=zC hx;omega) (gIm.1 ht.2 x hx)) (by simpa using ht.1)];simp [hX4]
theorem gA7(c:gB)(h:tok c):kT Tryz.prog 44 [.d (jS c)] [35] [jS (idT c)]:=hAu (2*tnd c) c ((hDi _).1 _ (Nat.le_refl _) h)
theorem zV(c:gB)(h:tok c):kT Tryz.prog 55 [.d (jS c)] [35] [jS (idT c)]:=hAw (2*tnd c) c ((hDj _).1 _ (Nat.le_refl _) h)
def yT(a1:List gB)(a2:gB→gB→Option Bool):List gB→Nat→Option (Bool)
 | [],c=>(some true)
 | f::xs,c=>bnd (at? a1 (c:Int)) fun h=>
bnd (a2 f h) fun y=>
(cnd (!y) (
(some false)) (
yT a1 a2 xs (c+1)))
def gFz(c:List gB)(a1:List gB)(a2:gB→gB→Option Bool):Option (Bool):=
(cnd ((c.length:Int) !=(a1.length:Int)) (
(some false)) (
yT a1 a2 c 0))
theorem gYz(y:List gB)(a1:List gB){a2f:Nat}{a2c:List SV}{a2:gB→gB→Option Bool}(a2_lt:∀n,SV.lts n a2c=true)(ha2:∀(x0:gB) (x1:gB) (r:Bool),a2 x0 x1=some r→jC Tryz.prog a2f ([.d (jS x0),.d (jS x1)]++a2c) [.b r]){r:Bool}(h:gFz y a1 a2=some r):jC Tryz.prog 78 [.L 3 (jJ y),.L 3 (jJ a1),.fn a2f a2c] [.b r]:=by
 unfold gFz at h;refine SpI Tryz.func78 fun A _=>?_;refine goC h ?_ ?_<;>intro c1 h
 ·exact goR h
 ·refine goS ?_;refine noB ?_;refine gBx 15 (fun z3=>?_);refine mQ (fun(f:Nat)=>⟨[(1,.L 3 (jJ a1)),(2,.fn a2f a2c),(15,.L 3 (jJ y)),(16,.I (y.length:Int)),(17,.N f)],[],Tryz.f78.ntmps⟩) (fun f=>yT a1 a2 (y.drop f) f=some r) (fun f=>y.length - f) 0 ⟨rfl,⟨⟨rfl,rfl⟩,⟨rfl,a2_lt _⟩,⟨rfl,rfl⟩,⟨rfl,rfl⟩,⟨rfl,rfl⟩,trivial⟩,⟨[],rfl⟩,rfl⟩ h ?_;rintro f h;refine goL ?_;refine jW (kX (fun c4=>?_) (fun c4=>?_))
  ·have c:=uR c4;obtain⟨x5,ad,aa⟩:=drop_at c;rw [aa,yT.eq_2] at h;obtain⟨aj,ak,al⟩:=x5;refine noS ?_;refine jW (jE ?_);refine goL ?_;refine jL (jM f (zL ad)) ?_;obtain⟨x6,ab,h⟩:=gP h;rw [yZ] at ab;obtain⟨am,an,ao⟩:=x6;refine jL (jM f (zL ab)) ?_;obtain⟨x7,ae,h⟩:=gP h;refine jL (gN9 (ha2 _ _ _ ae) (a2_lt 0)) ?_;refine kX (fun c8=>?_) (fun c8=>?_)
   ·replace h:=kD c8 h;exact goR h
   ·replace h:=kE c8 h;refine goS ?_;refine jL (jR f (by omega)) ?_;exact⟨(f+1),h,by omega,⟨rfl,⟨⟨rfl,rfl⟩,⟨rfl,a2_lt _⟩,⟨rfl,rfl⟩,⟨rfl,rfl⟩,⟨rfl,rfl⟩,trivial⟩,⟨_,rfl⟩,rfl⟩⟩
  ·have c:=uS c4;rw [jF c,yT.eq_1] at h;refine goX ?_;refine jK ?_;cases h;exact qA
def gIp(c:gB→gB→Option (Bool))(f:gB)(a1:gB):Option (Bool):=
bnd ((cnd (f.kind==a1.kind) ((cnd (f.name==a1.name) (bnd (gFz f.args a1.args c) fun h=>
(some h)) ((some false)))) ((some false)))) fun y=>
(some y)
theorem gY0{c:gB→gB→Option (Bool)}(f:∀(x0:gB) (x1:gB) {r:Bool},c x0 x1=some r→jC Tryz.prog 45 [.d (jS x0),.d (jS x1)] [.b r])(a0:gB)(a1:gB){r:Bool}(h:gIp c a0 a1=some r):jC Tryz.prog 45 [.d (jS a0),.d (jS a1)] [.b r]:=by
 obtain⟨ab,ac,y⟩:=a0;obtain⟨ad,ae,aa⟩:=a1;unfold gIp at h;refine SpI Tryz.func45 fun A _=>?_;refine goL ?_;obtain⟨b1,hb1,h⟩:=gP h;refine jT ⟨[(4,.B b1)],[bTy ab ac y,bTy ad ae aa],Tryz.f45.ntmps⟩ ?_ ?_
 ·refine gqA 10 hb1 (fun c2 hb1=>?_);refine gqA 17 hb1 (fun c3 hb1=>?_);obtain⟨x4,aj,hb1⟩:=gP hb1;refine jL (gF (gYz y aa (a2:=c) (fun _=>rfl) (fun x0 x1 r hr=>f x0 x1 hr) aj)) ?_;cases hb1;exact eJ
 exact goR h
def gIq:Nat→gB→gB→Option (Bool)
 | 0,_,_=>none
 | n+1,c,f=>gIp (gIq n) c f
theorem gY1:∀(n:Nat) (c:gB) (f:gB) {r:Bool},gIq n c f=some r→jC Tryz.prog 45 [.d (jS c),.d (jS f)] [.b r]:=by
 intro n
 induction n with
 | zero=>intro c f r h;cases h
 | succ n ih=>intro c f r h;exact gY0 ih c f h
def gIr(f:gB→gB→Option (Bool))(c:(List gB)→(List gB)→Option (Bool))(h:gB)(a1:gB):Option (Bool):=
bnd ((cnd (h.kind==a1.kind) ((cnd (h.name==a1.name) (bnd (c h.args a1.args) fun y=>
(some y)) ((some false)))) ((some false)))) fun b1=>
(some b1)
def gIs(c:gB→gB→Option (Bool)):Prop:=∀(f:gB) (h:gB) {r:Bool},c f h=some r→jC Tryz.prog 12 [.d (jS f),.d (jS h)] [.b r]
def hAy(c:(List gB)→(List gB)→Option (Bool)):Prop:=∀(f:List gB) (h:List gB) {r:Bool},c f h=some r→jC Tryz.prog 29 [.L 3 (jJ f),.L 3 (jJ h)] [.b r]
theorem gY2{c}{f}(aa:gIs c)(y:hAy f)(a0:gB)(a1:gB){r:Bool}(h:gIr c f a0 a1=some r):jC Tryz.prog 12 [.d (jS a0),.d (jS a1)] [.b r]:=by
 obtain⟨ab,ac,ad⟩:=a0;obtain⟨ae,ag,ah⟩:=a1;unfold gIr at h;refine SpI Tryz.func12 fun A _=>?_;refine goL ?_;obtain⟨b1,hb1,h⟩:=gP h;refine jT ⟨[(4,.B b1)],[bTy ab ac ad,bTy ae ag ah],Tryz.f12.ntmps⟩ ?_ ?_
 ·refine gqA 10 hb1 (fun c2 hb1=>?_);refine gqA 17 hb1 (fun c3 hb1=>?_);obtain⟨x4,aj,hb1⟩:=gP hb1;refine jL (gF (y _ _ aj)) ?_;cases hb1;exact eJ
 exact goR h
def gE3(c:gB→gB→Option (Bool))(a1:List gB):List gB→Nat→Option (Bool)
 | [],f=>(some true)
 | h::xs,f=>bnd (at? a1 (f:Int)) fun y=>
bnd (c h y) fun x7=>
(cnd (!x7) (
(some false)) (
gE3 c a1 xs (f+1)))
def gWq(c:gB→gB→Option (Bool))(f:(List gB)→(List gB)→Option (Bool))(h:List gB)(a1:List gB):Option (Bool):=
(cnd ((h.length:Int) !=(a1.length:Int)) (
(some false)) (
gE3 c a1 h 0))
theorem hSa{c}{y}(f:gIs c)(ac:hAy y)(a0:List gB)(a1:List gB){r:Bool}(h:gWq c y a0 a1=some r):jC Tryz.prog 29 [.L 3 (jJ a0),.L 3 (jJ a1)] [.b r]:=by
 unfold gWq at h;refine SpI Tryz.func29 fun A _=>?_;refine goC h ?_ ?_<;>intro c1 h
 ·exact goR h
 ·refine goS ?_;refine noB ?_;refine gBx 0 (fun z3=>?_);refine mQ (fun(y2:Nat)=>⟨[(0,.L 3 (jJ a0)),(1,.L 3 (jJ a1)),(5,.N y2)],[],Tryz.f29.ntmps⟩) (fun y2=>gE3 c a1 (a0.drop y2) y2=some r) (fun y2=>a0.length - y2) 0 eJ h ?_;rintro y2 h;refine goL ?_;refine kX (fun c4=>?_) (fun c4=>?_)
  ·have aa:=uR c4;obtain⟨x5,ai,ae⟩:=drop_at aa;rw [ae,gE3.eq_2] at h;obtain⟨ak,al,am⟩:=x5;refine noS ?_;refine jW (jE ?_);refine goL ?_;refine gE7 (jM y2 (zL ai)) ?_;refine goL ?_;obtain⟨x6,ag,h⟩:=gP h;rw [yZ] at ag;obtain⟨an,ao,ap⟩:=x6;refine gE7 (jM y2 (zL ag)) ?_;refine goL ?_;obtain⟨x7,aj,h⟩:=gP h;refine gE7 (gF (f _ _ aj)) ?_;refine goC h ?_ ?_<;>intro c8 h
   ·exact goR h
   ·refine goS ?_;refine jL (jR y2 (by omega)) ?_;exact⟨(y2+1),h,by omega,eJ⟩
  ·have aa:=uS c4;rw [jF aa,gE3.eq_1] at h;refine goX ?_;refine jK ?_;cases h;exact qA
mutual
def gDu:Nat→gB→gB→Option (Bool)
 | 0,_,_=>none
 | n+1,c,f=>gIr (gDu n) (gTa n) c f
def gTa:Nat→(List gB)→(List gB)→Option (Bool)
 | 0,_,_=>none
 | n+1,c,f=>gWq (gDu n) (gTa n) c f
end
theorem gWr:∀(n:Nat),gIs (gDu n)∧hAy (gTa n):=by
 intro n
 induction n with
 | zero=>exact⟨(by intro c f r h;cases h),(by intro c f r h;cases h)⟩
 | succ n ih=>
   obtain⟨ih0,ih1⟩:=ih;refine⟨(fun c f r h=>gY2 ih0 ih1 c f h),(fun c f r h=>hSa ih0 ih1 c f h)⟩
theorem gY3:∀(n:Nat),gIs (gDu n):=fun n=>(gWr n).1
mutual
def teq:gB→gB→Bool
 | ⟨k,n,ts⟩,⟨k',n',ts'⟩=>(k==k') && ((n==n') && gY4 ts ts')
def gY4:List gB→List gB→Bool
 | [],[]=>true
 | a::ts,b::ts'=>teq a b && gY4 ts ts'
 | _,_=>false
end
mutual
theorem gPn:∀(a b:gB),teq a b=true↔a=b
 | ⟨k,n,ts⟩,⟨k',n',ts'⟩=>by
   simp only [teq,Bool.and_eq_true,beq_iff_eq,gB.mk.injEq];rw [hDk ts ts']
theorem hDk:∀(a b:List gB),gY4 a b=true↔a=b
 | [],[]=>by simp [gY4]
 | a::ts,b::ts'=>by
   simp only [gY4,Bool.and_eq_true,List.cons.injEq];rw [gPn a b,hDk ts ts']
 | [],_::_=>by simp [gY4]
 | _::_,[]=>by simp [gY4]
end
theorem gWs:∀{a b:List gB},a.length≠b.length→gY4 a b=false
 | [],[],h=>by simp at h
 | a::ts,b::ts',h=>by
   simp only [gY4];rw [gWs (a:=ts) (b:=ts') (by simpa using h),Bool.and_false]
 | [],_::_,_=>rfl
 | _::_,[],_=>rfl
theorem gKt{p:gB→gB→Option Bool}(b:List gB):∀(xs:List gB) (k:Nat),(∀x∈xs,∀y,p x y=some (teq x y))→b.length=k+xs.length→yT b p xs k=some (gY4 xs (b.drop k))
 | [],k,_,h=>by
   rw [List.drop_eq_nil_of_le (by simp at h;omega)];rfl
 | x::xs,k,hp,h=>by
   simp only [List.length_cons] at h;have hk:k < b.length:=by omega
   simp only [yT,yZ];rw [List.getElem?_eq_getElem hk,List.drop_eq_getElem_cons hk];simp only [bnd,hp x (by simp),gY4];cases hq:teq x b[k] with
   | true=>simp only [Bool.not_true,gK,Bool.true_and];exact gKt b xs (k+1) (fun z hz=>hp z (by simp [hz])) (by omega)
   | false=>rfl
theorem gWt{p:gB→gB→Option Bool}(a b:List gB)(hp:∀x∈a,∀y,p x y=some (teq x y)):gFz a b p=some (gY4 a b):=by
 unfold gFz;by_cases h:a.length=b.length
 ·have:((a.length:Int) !=(b.length:Int))=false:=by simp [h]
  rw [this,gK,gKt b a 0 hp (by omega)];rfl
 ·have:((a.length:Int) !=(b.length:Int))=true:=by simp;omega
  rw [this,gZ,gWs h]
theorem gOq:∀(n:Nat) (a b:gB),tnd a≤n→gIq n a b=some (teq a b)
 | 0,a,b,h=>by have:=gBq a;omega
 | n+1,⟨k,s,ts⟩,⟨k',s',ts'⟩,h=>by
   simp only [tnd] at h;simp only [gIq,gIp,teq];rw [gWt ts ts' (fun x hx y=>gOq n x y (by have:=zC hx;omega))];cases c:k==k'<;>cases f:s==s'<;>cases gY4 ts ts'<;>rfl
theorem gTb{p:gB→gB→Option Bool}(b:List gB):∀(xs:List gB) (k:Nat),(∀x∈xs,∀y,p x y=some (teq x y))→b.length=k+xs.length→gE3 p b xs k=some (gY4 xs (b.drop k))
 | [],k,_,h=>by
   rw [List.drop_eq_nil_of_le (by simp at h;omega)];rfl
 | x::xs,k,hp,h=>by
   simp only [List.length_cons] at h;have hk:k < b.length:=by omega
   simp only [gE3,yZ];rw [List.getElem?_eq_getElem hk,List.drop_eq_getElem_cons hk];simp only [bnd,hp x (by simp),gY4];cases hq:teq x b[k] with
   | true=>simp only [Bool.not_true,gK,Bool.true_and];exact gTb b xs (k+1) (fun z hz=>hp z (by simp [hz])) (by omega)
   | false=>rfl
theorem gY5:∀(n:Nat),(∀a b:gB,2*tnd a≤n→gDu n a b=some (teq a b))∧(∀a b:List gB,2*gA6 a+1≤n→gTa n a b=some (gY4 a b))
 | 0=>⟨fun t _ h=>by have:=gBq t;omega,fun ts _ h=>by omega⟩
 | n+1=>by
   obtain⟨c,f⟩:=gY5 n;refine⟨fun a b hn=>?_,fun a b hn=>?_⟩
   ·obtain⟨k,s,ts⟩:=a;obtain⟨k',s',ts'⟩:=b;simp only [tnd] at hn;simp only [gDu,gIr,teq];rw [f ts ts' (by omega)];cases c:k==k'<;>cases f:s==s'<;>cases gY4 ts ts'<;>rfl
   ·simp only [gTa,gWq];by_cases h:a.length=b.length
    ·have:((a.length:Int) !=(b.length:Int))=false:=by simp [h]
     rw [this,gK,gTb b a 0 (fun x hx y=>c x y (by have:=zC hx;omega)) (by omega)];rfl
    ·have:((a.length:Int) !=(b.length:Int))=true:=by simp;omega
     rw [this,gZ,gWs h]
theorem gIt(c:gB)(f:gB):jC Tryz.prog 45 [.d (jS c),.d (jS f)] [.b (teq c f)]:=gY1 (tnd c) c f (gOq _ _ _ (Nat.le_refl _))
theorem gF0(c:gB)(f:gB):jC Tryz.prog 12 [.d (jS c),.d (jS f)] [.b (teq c f)]:=gY3 (2*tnd c) c f ((gY5 _).1 _ _ (Nat.le_refl _))
mutual
def tsz:gB→Int
 | ⟨_,_,ts⟩=>hN4 ts 1
def hN4:List gB→Int→Int
 | [],y=>y
 | a::ts,y=>hN4 ts (IntKind.i64.wrap (y+tsz a))
end
def zW(c:gB→Option (Int)):List gB→Int→Option (Int)
 | [],f=>(some f)
 | h::xs,f=>bnd (c h) fun y=>
zW c xs (IntKind.i64.wrap (f+y))
def gKc(c:gB→Option (Int))(f:gB):Option (Int):=
zW c f.args 1
theorem hAz{c:gB→Option (Int)}(f:∀(x0:gB) {r:Int},c x0=some r→jC Tryz.prog 46 [.d (jS x0)] [.i .i64 r])(a0:gB){r:Int}(h:gKc c a0=some r):jC Tryz.prog 46 [.d (jS a0)] [.i .i64 r]:=by
 obtain⟨ad,ae,y⟩:=a0;unfold gKc at h;refine SpI Tryz.func46 fun A _=>?_;refine goL ?_;refine noB ?_;refine gBx 7 (fun z3=>?_);refine gEe (fun(y2:Nat) (y1:Int)=>⟨[(3,.I y1),(7,.L 3 (jJ y)),(8,.I (y.length:Int)),(9,.N y2)],[bTy ad ae y],Tryz.f46.ntmps⟩) (fun y2 y1=>zW c (y.drop y2) y1=some r) (fun y2 y1=>y.length - y2) 0 1 eJ h ?_;rintro y2 y1 h;refine goL ?_;refine jW (kX (fun c4=>?_) (fun c4=>?_))
 ·have aa:=uR c4;obtain⟨x5,aj,ag⟩:=drop_at aa;rw [ag,zW.eq_2] at h;obtain⟨am,an,ao⟩:=x5;refine noS ?_;refine jW (jE ?_);refine goL ?_;refine jL (jM y2 (zL aj)) ?_;obtain⟨x6,ak,h⟩:=gP h;refine qI (gF (f _ ak)) ?_;refine jL (pR) ?_;refine jL (jR y2 (by omega)) ?_;exact⟨(y2+1),(IntKind.i64.wrap (y1+x6)),h,by omega,eJ⟩
 ·have aa:=uS c4;rw [jF aa,zW.eq_1] at h;refine goX ?_;refine jK ?_;cases h;exact qA
def gKd:Nat→gB→Option (Int)
 | 0,_=>none
 | n+1,c=>gKc (gKd n) c
theorem hA4:∀(n:Nat) (c:gB) {r:Int},gKd n c=some r→jC Tryz.prog 46 [.d (jS c)] [.i .i64 r]:=by
 intro n
 induction n with
 | zero=>intro c r h;cases h
 | succ n ih=>intro c r h;exact hAz ih c h
theorem gLx{rec:gB→Option Int}:∀(xs:List gB) (y:Int),(∀x∈xs,rec x=some (tsz x))→zW rec xs y=some (hN4 xs y)
 | [],y,_=>rfl
 | x::xs,y,h=>by
   simp only [zW,h x (by simp),bnd,hN4];exact gLx xs _ (fun z hz=>h z (by simp [hz]))
theorem gP4:∀(n:Nat) (t:gB),tnd t≤n→gKd n t=some (tsz t)
 | 0,t,h=>by have:=gBq t;omega
 | n+1,⟨k,s,ts⟩,h=>by
   simp only [tnd] at h;simp only [gKd,gKc,tsz];exact gLx ts 1 (fun x hx=>gP4 n x (by have:=zC hx;omega))
theorem gKe(c:gB):jC Tryz.prog 46 [.d (jS c)] [.i .i64 (tsz c)]:=hA4 (tnd c) c (gP4 _ _ (Nat.le_refl _))
def zX(c:gB→Option (Int)):List gB→Int→Option (Int)
 | [],f=>(some f)
 | h::xs,f=>bnd (c h) fun y=>
zX c xs (IntKind.i64.wrap (f+y))
def gKf(c:gB→Option (Int))(f:gB):Option (Int):=
zX c f.args 1
theorem hA5{c:gB→Option (Int)}(f:∀(x0:gB) {r:Int},c x0=some r→jC Tryz.prog 57 [.d (jS x0)] [.i .i64 r])(a0:gB){r:Int}(h:gKf c a0=some r):jC Tryz.prog 57 [.d (jS a0)] [.i .i64 r]:=by
 obtain⟨ad,ae,aa⟩:=a0;unfold gKf at h;refine SpI Tryz.func57 fun A _=>?_;refine goL ?_;refine noB ?_;refine wN 0 2 (fun z3=>?_);refine gEe (fun(y2:Nat) (y1:Int)=>⟨[(1,.ptr 0 0),(3,.I y1),(4,.N y2)],[bTy ad ae aa],Tryz.f57.ntmps⟩) (fun y2 y1=>zX c (aa.drop y2) y1=some r) (fun y2 y1=>aa.length - y2) 0 1 eJ h ?_;rintro y2 y1 h;refine goL ?_;refine kX (fun c4=>?_) (fun c4=>?_)
 ·have y:=uR c4;obtain⟨x5,aj,ag⟩:=drop_at y;rw [ag,zX.eq_2] at h;obtain⟨am,an,ao⟩:=x5;refine noS ?_;refine jW (jE ?_);refine goL ?_;refine jL (jM y2 (zL aj)) ?_;obtain⟨x6,ak,h⟩:=gP h;refine qI (gF (f _ ak)) ?_;refine jL (pR) ?_;refine jL (jR y2 (by omega)) ?_;exact⟨(y2+1),(IntKind.i64.wrap (y1+x6)),h,by omega,eJ⟩
 ·have y:=uS c4;rw [jF y,zX.eq_1] at h;refine goX ?_;refine jK ?_;cases h;exact qA
def gKg:Nat→gB→Option (Int)
 | 0,_=>none
 | n+1,c=>gKf (gKg n) c
theorem hA6:∀(n:Nat) (c:gB) {r:Int},gKg n c=some r→jC Tryz.prog 57 [.d (jS c)] [.i .i64 r]:=by
 intro n
 induction n with
 | zero=>intro c r h;cases h
 | succ n ih=>intro c r h;exact hA5 ih c h
theorem gLy{rec:gB→Option Int}:∀(xs:List gB) (y:Int),(∀x∈xs,rec x=some (tsz x))→zX rec xs y=some (hN4 xs y)
 | [],y,_=>rfl
 | x::xs,y,h=>by
   simp only [zX,h x (by simp),bnd,hN4];exact gLy xs _ (fun z hz=>h z (by simp [hz]))
theorem gP5:∀(n:Nat) (t:gB),tnd t≤n→gKg n t=some (tsz t)
 | 0,t,h=>by have:=gBq t;omega
 | n+1,⟨k,s,ts⟩,h=>by
   simp only [tnd] at h;simp only [gKg,gKf,tsz];exact gLy ts 1 (fun x hx=>gP5 n x (by have:=zC hx;omega))
theorem gKh(c:gB):jC Tryz.prog 57 [.d (jS c)] [.i .i64 (tsz c)]:=hA6 (tnd c) c (gP5 _ _ (Nat.le_refl _))
def gCh(a1:List UInt8):List gG→Option (gB × Bool)
 | []=>(some ((gB.mk 0 [] []),false))
 | c::xs=>(cnd (c.var_==a1) (
gd (tok c.type_) (lt_ (idT c.type_) fun f=>
(some (f,true)))) (
gCh a1 xs ))
def gJi(c:List gG)(a1:List UInt8):Option (gB × Bool):=
gCh a1 c
theorem gY6(a0:List gG)(a1:List UInt8){r:gB × Bool}(h:gJi a0 a1=some r):kT Tryz.prog 92 [.L 4 (gN a0),.S a1] [35] [jS r.1,.b r.2]:=by
 unfold gJi at h;refine pM Tryz.func92 rfl (by kernel_rfl) rfl (by simp) fun A _=>?_;refine goL ?_;refine noB ?_;refine gBx 8 (fun z2=>?_);refine mQ (fun(f:Nat)=>⟨[(1,.S a1),(4,.ptr 0 0),(8,.L 4 (gN a0)),(9,.I (a0.length:Int)),(10,.N f)],[.box [.I 0,.S [],.nilsl]],Tryz.f92.ntmps⟩) (fun f=>gCh a1 (a0.drop f)  =some r) (fun f=>a0.length - f) 0 eJ h ?_;rintro f h;refine goL ?_;refine jW (kX (fun c3=>?_) (fun c3=>?_))
 ·have c:=uR c3;obtain⟨x4,ag,ad⟩:=drop_at c;rw [ad,gCh.eq_2] at h;obtain⟨aj,⟨y,aa,ab⟩⟩:=x4;refine noS ?_;refine jW (jE ?_);refine goL ?_;refine jL (jM f (gMf ag)) ?_;refine kX (fun c5=>?_) (fun c5=>?_)
  ·replace h:=kD c5 h;refine goL ?_;obtain⟨g6,h⟩:=mW h;obtain⟨⟨ak,al,am⟩,ai,h⟩:=qB h;have sx7:=gA7 (gB.mk y aa ab) g6;rw [ai] at sx7;refine gGa (sx7) ?_;refine goL ?_;refine jK ?_;obtain rfl:=Option.some.inj h;exact gPw
  ·replace h:=kE c5 h;refine goS ?_;refine jL (jR f (by omega)) ?_;exact⟨(f+1),h,by omega,eJ⟩
 ·have c:=uS c3;rw [jF c,gCh.eq_1] at h;refine goX ?_;refine gBn (jU TBd.h TZ.h rfl (by repeat constructor)) ?_;refine hHt 35 3 0 2 rfl rfl (by repeat constructor) (by repeat constructor) (by repeat constructor) (by repeat constructor) ?_;refine jK ?_;obtain rfl:=Option.some.inj h;exact gPw
def gQ1(f:(List gG)→gB→Option (gB))(c:(List gG)→(List gB)→Option (List gB))(h:List gG)(a1:gB):Option (gB):=
(cnd (a1.kind==1) (
bnd (gJi h a1.name) fun y=>
(cnd y.2 (
(some y.1)) (
bnd (c h a1.args) fun x4=>
(some (gB.mk a1.kind a1.name x4))))) (
bnd (c h a1.args) fun x5=>
(some (gB.mk a1.kind a1.name x5))))
def gQ2(c:(List gG)→gB→Option (gB)):Prop:=∀(f:List gG) (h:gB) {r:gB},c f h=some r→kT Tryz.prog 69 [.L 4 (gN f),.d (jS h)] [35] [jS r]
def gNm(c:(List gG)→(List gB)→Option (List gB)):Prop:=∀(f:List gG) (h:List gB) {r:List gB},c f h=some r→kT Tryz.prog 93 [.L 4 (gN f),.L 3 (jJ h)] [35] [.sl 3 (jJ r)]
theorem hN5{y}{f}(aa:gQ2 y)(c:gNm f)(a0:List gG)(a1:gB){r:gB}(h:gQ1 y f a0 a1=some r):kT Tryz.prog 69 [.L 4 (gN a0),.d (jS a1)] [35] [jS r]:=by
 obtain⟨al,ad,ab⟩:=a1;unfold gQ1 at h;refine pM Tryz.func69 rfl (by kernel_rfl) rfl (by simp) fun A _=>?_;refine goC h ?_ ?_<;>intro c1 h
 ·refine goL ?_;obtain⟨⟨⟨ae,ag,ah⟩,am⟩,ai,h⟩:=gP h;refine gGa (gY6 a0 ad ai) ?_;refine goC h ?_ ?_<;>intro c3 h
  ·refine goL ?_;refine jK ?_;obtain rfl:=Option.some.inj h;exact gPw
  ·refine noS ?_;refine jO (P:=Tryz.prog) Mix.h [(0,true),(1,true),(2,true),(3,true),(4,true),(5,true),(6,true),(7,false),(8,true),(9,false)] (by kernel_rfl) ?_;refine goY ?_;obtain⟨x4,aj,h⟩:=gP h;refine gNa (c a0 ab aj) ?_;refine goY ?_;refine kQ ?_;refine goL ?_;refine jK ?_;obtain rfl:=Option.some.inj h;exact gPw
 ·refine noS ?_;refine jO (P:=Tryz.prog) Mix.h [(0,true),(1,true),(2,true),(3,true),(4,true),(5,true),(6,true),(7,false),(8,true),(9,false)] (by kernel_rfl) ?_;refine goY ?_;obtain⟨x5,ak,h⟩:=gP h;refine gNa (c a0 ab ak) ?_;refine goY ?_;refine kQ ?_;refine goL ?_;refine jK ?_;obtain rfl:=Option.some.inj h;exact gPw
def yE(c:(List gG)→gB→Option (gB))(y:List gG):List gB→Nat→(List gB)→Option (List gB)
 | [],f,h=>(some h)
 | x7::xs,f,h=>bnd (c y x7) fun x8=>
gd (f < h.length) (
yE c y xs (f+1) (h.set f x8))
def gKi(c:(List gG)→gB→Option (gB))(f:(List gG)→(List gB)→Option (List gB))(h:List gG)(a1:List gB):Option (List gB):=
gd (a1.length≤4294967296) (
yE c h a1 0 (List.replicate a1.length (gB.mk 0 [] [])))
theorem hA7{c}{f}(y:gQ2 c)(ab:gNm f)(a0:List gG)(a1:List gB){r:List gB}(h:gKi c f a0 a1=some r):kT Tryz.prog 93 [.L 4 (gN a0),.L 3 (jJ a1)] [35] [.sl 3 (jJ r)]:=by
 unfold gKi at h;refine pM Tryz.func93 rfl (by kernel_rfl) rfl (by simp) fun A _=>?_;refine goL ?_;obtain⟨g1,h⟩:=mW h;refine hIm (gB.mk 0 [] []) g1 ?_;refine goL ?_;refine noB ?_;refine gBx 11 (fun z5=>?_);refine kS (fun(y4:Nat) (y2:List gB) (v3:Nat)=>⟨[(0,.L 4 (gN a0)),(5,.sl 0 v3),(11,.L 3 (jJ a1)),(12,.I (a1.length:Int)),(13,.N y4)],[.own 35 3 v3 (jJ y2)],Tryz.f93.ntmps⟩) (fun y4 y2 v3=>yE c a0 (a1.drop y4) y4 y2=some r) (fun y4 y2 v3=>a1.length - y4) 0 (List.replicate a1.length (gB.mk 0 [] [])) 0 eJ h ?_;rintro y4 y2 v3 h;refine goL ?_;refine jW (kX (fun c6=>?_) (fun c6=>?_))
 ·have aa:=uR c6;obtain⟨x7,ap,ak⟩:=drop_at aa;rw [ak,yE.eq_2] at h;obtain⟨al,am,an⟩:=x7;refine noS ?_;refine jW (jE ?_);refine goL ?_;refine jL (jM y4 (zL ap)) ?_;obtain⟨⟨ad,ae,ag⟩,aq,h⟩:=gP h;refine gGa (y a0 (gB.mk al am an) aq) ?_;obtain⟨g9,h⟩:=mW h;refine gAq (hM5 y4 g9) ?_;refine hQ3 (gB.mk ad ae ag) g9 ?_;refine goL ?_;refine jL (jR y4 (by omega)) ?_;exact⟨(y4+1),(y2.set y4 (gB.mk ad ae ag)),v3,h,by omega,eJ⟩
 ·have aa:=uS c6;rw [jF aa,yE.eq_1] at h;refine goX ?_;refine jK ?_;obtain rfl:=Option.some.inj h;exact gPw
mutual
def gMm:Nat→(List gG)→gB→Option (gB)
 | 0,_,_=>none
 | n+1,c,f=>gQ1 (gMm n) (gHz n) c f
def gHz:Nat→(List gG)→(List gB)→Option (List gB)
 | 0,_,_=>none
 | n+1,c,f=>gKi (gMm n) (gHz n) c f
end
theorem hKg:∀(n:Nat),gQ2 (gMm n)∧gNm (gHz n):=by
 intro n
 induction n with
 | zero=>exact⟨(by intro c f r h;cases h),(by intro c f r h;cases h)⟩
 | succ n ih=>
   obtain⟨ih0,ih1⟩:=ih;refine⟨(fun c f r h=>hN5 ih0 ih1 c f h),(fun c f r h=>hA7 ih0 ih1 c f h)⟩
theorem hN6:∀(n:Nat),gQ2 (gMm n):=fun n=>(hKg n).1
def gCi(a1:List UInt8):List gG→Option (gB × Bool)
 | []=>(some ((gB.mk 0 [] []),false))
 | c::xs=>(cnd (c.var_==a1) (
gd (tok c.type_) (lt_ (idT c.type_) fun f=>
(some (f,true)))) (
gCi a1 xs ))
def gF1(c:List gG)(a1:List UInt8):Option (gB × Bool):=
gCi a1 c
theorem gTc(a0:List gG)(a1:List UInt8){r:gB × Bool}(h:gF1 a0 a1=some r):kT Tryz.prog 102 [.L 4 (gN a0),.S a1] [35] [jS r.1,.b r.2]:=by
 unfold gF1 at h;refine pM Tryz.func102 rfl (by kernel_rfl) rfl (by simp) fun A _=>?_;refine goL ?_;refine noB ?_;refine gBx 0 (fun z2=>?_);refine mQ (fun(f:Nat)=>⟨[(0,.L 4 (gN a0)),(1,.S a1),(4,.ptr 0 0),(6,.N f)],[.box [.I 0,.S [],.nilsl]],Tryz.f102.ntmps⟩) (fun f=>gCi a1 (a0.drop f)  =some r) (fun f=>a0.length - f) 0 eJ h ?_;rintro f h;refine goL ?_;refine kX (fun c3=>?_) (fun c3=>?_)
 ·have c:=uR c3;obtain⟨x4,ad,ae⟩:=drop_at c;rw [ae,gCi.eq_2] at h;obtain⟨aj,⟨y,aa,ab⟩⟩:=x4;refine noS ?_;refine jW (jE ?_);refine goL ?_;refine jL (jM f (gMf ad)) ?_;refine kX (fun c5=>?_) (fun c5=>?_)
  ·replace h:=kD c5 h;refine goL ?_;refine jL (jM f (gMf ad)) ?_;obtain⟨g6,h⟩:=mW h;obtain⟨⟨ak,al,am⟩,ai,h⟩:=qB h;have sx7:=zV (gB.mk y aa ab) g6;rw [ai] at sx7;refine gGa (sx7) ?_;refine goL ?_;refine jK ?_;obtain rfl:=Option.some.inj h;exact gPw
  ·replace h:=kE c5 h;refine goS ?_;refine jL (jR f (by omega)) ?_;exact⟨(f+1),h,by omega,eJ⟩
 ·have c:=uS c3;rw [jF c,gCi.eq_1] at h;refine goX ?_;refine gBn (jU TBd.h TZ.h rfl (by repeat constructor)) ?_;refine hHt 35 3 0 2 rfl rfl (by repeat constructor) (by repeat constructor) (by repeat constructor) (by repeat constructor) ?_;refine jK ?_;obtain rfl:=Option.some.inj h;exact gPw
def gQ3(f:(List gG)→gB→Option (gB))(c:(List gG)→(List gB)→Option (List gB))(h:List gG)(a1:gB):Option (gB):=
(cnd (a1.kind==1) (
bnd (gF1 h a1.name) fun y=>
(cnd y.2 (
(some y.1)) (
bnd (c h a1.args) fun x4=>
(some (gB.mk a1.kind a1.name x4))))) (
bnd (c h a1.args) fun x5=>
(some (gB.mk a1.kind a1.name x5))))
def gQ4(c:(List gG)→gB→Option (gB)):Prop:=∀(f:List gG) (h:gB) {r:gB},c f h=some r→kT Tryz.prog 85 [.L 4 (gN f),.d (jS h)] [35] [jS r]
def gNn(c:(List gG)→(List gB)→Option (List gB)):Prop:=∀(f:List gG) (h:List gB) {r:List gB},c f h=some r→kT Tryz.prog 103 [.L 4 (gN f),.L 3 (jJ h)] [35] [.sl 3 (jJ r)]
theorem hN7{y}{f}(aa:gQ4 y)(c:gNn f)(a0:List gG)(a1:gB){r:gB}(h:gQ3 y f a0 a1=some r):kT Tryz.prog 85 [.L 4 (gN a0),.d (jS a1)] [35] [jS r]:=by
 obtain⟨al,ad,ab⟩:=a1;unfold gQ3 at h;refine pM Tryz.func85 rfl (by kernel_rfl) rfl (by simp) fun A _=>?_;refine goC h ?_ ?_<;>intro c1 h
 ·refine goL ?_;obtain⟨⟨⟨ae,ag,ah⟩,am⟩,ai,h⟩:=gP h;refine gGa (gTc a0 ad ai) ?_;refine goC h ?_ ?_<;>intro c3 h
  ·refine goL ?_;refine jK ?_;obtain rfl:=Option.some.inj h;exact gPw
  ·refine noS ?_;refine jO (P:=Tryz.prog) Mix.h [(0,true),(1,true),(2,true),(3,true),(4,true),(5,true),(6,true),(7,false),(8,true),(9,false)] (by kernel_rfl) ?_;refine goY ?_;obtain⟨x4,aj,h⟩:=gP h;refine gNa (c a0 ab aj) ?_;refine goY ?_;refine kQ ?_;refine goL ?_;refine jK ?_;obtain rfl:=Option.some.inj h;exact gPw
 ·refine noS ?_;refine jO (P:=Tryz.prog) Mix.h [(0,true),(1,true),(2,true),(3,true),(4,true),(5,true),(6,true),(7,false),(8,true),(9,false)] (by kernel_rfl) ?_;refine goY ?_;obtain⟨x5,ak,h⟩:=gP h;refine gNa (c a0 ab ak) ?_;refine goY ?_;refine kQ ?_;refine goL ?_;refine jK ?_;obtain rfl:=Option.some.inj h;exact gPw
def yF(c:(List gG)→gB→Option (gB))(h:List gG):List gB→(List gB)→Option (List gB)
 | [],f=>(some f)
 | x6::xs,f=>bnd (c h x6) fun y=>
gd (f.length+[y].length≤4294967296) (
yF c h xs (f++[y]))
def gKj(c:(List gG)→gB→Option (gB))(f:(List gG)→(List gB)→Option (List gB))(h:List gG)(a1:List gB):Option (List gB):=
yF c h a1 []
theorem hA8{c}{f}(y:gQ4 c)(ab:gNn f)(a0:List gG)(a1:List gB){r:List gB}(h:gKj c f a0 a1=some r):kT Tryz.prog 103 [.L 4 (gN a0),.L 3 (jJ a1)] [35] [.sl 3 (jJ r)]:=by
 unfold gKj at h;refine pM Tryz.func103 rfl (by kernel_rfl) rfl (by simp) fun A _=>?_;refine goL ?_;refine gF9 ?_;refine goL ?_;refine noB ?_;refine gBx 1 (fun z4=>?_);refine kS (fun(y3:Nat) (y1:List gB) (v2:Nat)=>⟨[(0,.L 4 (gN a0)),(1,.L 3 (jJ a1)),(5,.sl 0 v2),(6,.N y3)],[.own 35 3 v2 (jJ y1)],Tryz.f103.ntmps⟩) (fun y3 y1 v2=>yF c a0 (a1.drop y3) y1=some r) (fun y3 y1 v2=>a1.length - y3) 0 [] 0 eJ h ?_;rintro y3 y1 v2 h;refine goL ?_;refine kX (fun c5=>?_) (fun c5=>?_)
 ·have aa:=uR c5;obtain⟨x6,ap,ak⟩:=drop_at aa;rw [ak,yF.eq_2] at h;obtain⟨al,am,an⟩:=x6;refine noS ?_;refine jW (jE ?_);refine goL ?_;refine jL (jM y3 (zL ap)) ?_;obtain⟨⟨ad,ae,ag⟩,aq,h⟩:=gP h;refine gGa (y a0 (gB.mk al am an) aq) ?_;refine gBc (gB.mk ad ae ag) ?_;obtain⟨g8,h⟩:=mW h;refine gH3 g8 ?_;refine goL ?_;refine jL (jR y3 (by omega)) ?_;exact⟨(y3+1),(y1++[(gB.mk ad ae ag)]),(v2+1),h,by omega,eJ⟩
 ·have aa:=uS c5;rw [jF aa,yF.eq_1] at h;refine goX ?_;refine jK ?_;obtain rfl:=Option.some.inj h;exact gPw
mutual
def gMn:Nat→(List gG)→gB→Option (gB)
 | 0,_,_=>none
 | n+1,c,f=>gQ3 (gMn n) (gH0 n) c f
def gH0:Nat→(List gG)→(List gB)→Option (List gB)
 | 0,_,_=>none
 | n+1,c,f=>gKj (gMn n) (gH0 n) c f
end
theorem hKh:∀(n:Nat),gQ4 (gMn n)∧gNn (gH0 n):=by
 intro n
 induction n with
 | zero=>exact⟨(by intro c f r h;cases h),(by intro c f r h;cases h)⟩
 | succ n ih=>
   obtain⟨ih0,ih1⟩:=ih;refine⟨(fun c f r h=>hN7 ih0 ih1 c f h),(fun c f r h=>hA8 ih0 ih1 c f h)⟩
theorem hN8:∀(n:Nat),gQ4 (gMn n):=fun n=>(hKh n).1
def lkp(v:List UInt8):List gG→gB × Bool
 | []=>(⟨0,[],[]⟩,false)
 | b::l=>cnd (b.var_==v) (b.type_,true) (lkp v l)
def bok(l:List gG):Prop:=∀b∈l,tok b.type_
instance (l:List gG):Decidable (bok l):=inferInstanceAs (Decidable (∀b∈l,tok b.type_))
theorem gH1(k:Int)(n:List UInt8):tok ⟨k,n,[]⟩:=by simp [tok,gUv]
theorem gLz{v:List UInt8}:∀{l:List gG},(lkp v l).2=true→∃b∈l,b.var_=v∧(lkp v l).1=b.type_
 | [],h=>by cases h
 | b::l,h=>by
   simp only [lkp] at h ⊢;cases hb:b.var_==v with
   | true=>exact⟨b,by simp,by simpa using hb,rfl⟩
   | false=>
     rw [hb] at h;obtain⟨c,f,y,h3⟩:=gLz (l:=l) h;exact⟨c,by simp [f],y,h3⟩
theorem hKi{v:List UInt8}:∀{l:List gG},(lkp v l).2=false→(lkp v l).1=⟨0,[],[]⟩
 | [],h=>rfl
 | b::l,h=>by
   simp only [lkp] at h ⊢;cases hb:b.var_==v with
   | true=>rw [hb] at h;cases h
   | false=>rw [hb] at h;exact hKi (l:=l) h
theorem hSc{v:List UInt8}{l:List gG}(h:bok l):tok (lkp v l).1:=by
 cases hb:(lkp v l).2 with
 | true=>
   obtain⟨b,c,_,f⟩:=gLz hb;rw [f];exact h b c
 | false=>rw [hKi hb];exact gH1 _ _
mutual
def apT(l:List gG):gB→gB
 | ⟨k,n,ts⟩=>cnd (k==1) (cnd (lkp n l).2 (lkp n l).1 ⟨k,n,gNo l ts⟩) ⟨k,n,gNo l ts⟩
def gNo(l:List gG):List gB→List gB
 | []=>[]
 | a::ts=>apT l a::gNo l ts
end
theorem gQ5(l:List gG):∀ts:List gB,gNo l ts=ts.map (apT l)
 | []=>rfl
 | a::ts=>by simp only [gNo,List.map_cons,gQ5 l ts]
theorem hDm(l:List gG)(ts:List gB):(gNo l ts).length=ts.length:=by rw [gQ5,List.length_map]
theorem gKk(v:List UInt8):∀(l:List gG),bok l→gCh v l=some (lkp v l)
 | [],_=>rfl
 | b::l,h=>by
   simp only [gCh,lkp];rw [mK (h b (by simp)),gKk v l (fun c hc=>h c (by simp [hc]))];cases b.var_==v<;>rfl
theorem gGr(v:List UInt8):∀(l:List gG),bok l→gCi v l=some (lkp v l)
 | [],_=>rfl
 | b::l,h=>by
   simp only [gCi,lkp];rw [mK (h b (by simp)),gGr v l (fun c hc=>h c (by simp [hc]))];cases b.var_==v<;>rfl
theorem gL0{rec:List gG→gB→Option gB}(l:List gG)(f:gB→gB):∀(xs:List gB) (k:Nat) (y:List gB),(∀x∈xs,rec l x=some (f x))→y.length=k+xs.length→yE rec l xs k y=some (y.take k++xs.map f)
 | [],k,y,_,h=>by
   simp only [yE,List.map_nil,List.append_nil];rw [List.take_of_length_le (by simp at h;omega)]
 | x::xs,k,y,c,h2=>by
   simp only [yE];rw [c x (by simp)];simp only [bnd,List.length_cons] at h2 ⊢;rw [mK (by omega),gL0 l f xs (k+1) _ (fun z hz=>c z (by simp [hz])) (by simp;omega),gGq (by omega)];simp
theorem gY7:∀(n:Nat),(∀(l:List gG) (t:gB),bok l→tok t→2*tnd t≤n→gMm n l t=some (apT l t))∧(∀(l:List gG) (ts:List gB),bok l→hPz ts→2*gA6 ts+1≤n→gHz n l ts=some (gNo l ts))
 | 0=>⟨fun _ t _ _ h=>by have:=gBq t;omega,fun _ ts _ _ h=>by omega⟩
 | n+1=>by
   obtain⟨c,f⟩:=gY7 n;refine⟨fun l t hl ht hn=>?_,fun l ts hl ht hn=>?_⟩
   ·obtain⟨k,s,ts⟩:=t;simp only [tnd] at hn;simp only [gMm,gQ1,gJi,apT];rw [f l ts hl (by simpa only [tok,hPz] using ht) (by omega),gKk s l hl];simp only [bnd];cases k==1<;>cases (lkp s l).2<;>rfl
   ·simp only [gHz,gKi];rw [mK ht.1,gL0 l (apT l) ts 0 _ (fun x hx=>c l x hl (gIm.1 ht.2 x hx) (by have:=zC hx;omega)) (by simp)];simp [gQ5]
theorem gL1{rec:List gG→gB→Option gB}(l:List gG)(f:gB→gB):∀(xs:List gB) (y:List gB),(∀x∈xs,rec l x=some (f x))→y.length+xs.length≤4294967296→yF rec l xs y=some (y++xs.map f)
 | [],y,_,h=>by simp [yF]
 | x::xs,y,c,h2=>by
   simp only [yF];rw [c x (by simp)];simp only [bnd,List.length_cons,List.length_nil] at h2 ⊢;rw [mK (by omega),gL1 l f xs _ (fun z hz=>c z (by simp [hz])) (by simp;omega)];simp
theorem gY8:∀(n:Nat),(∀(l:List gG) (t:gB),bok l→tok t→2*tnd t≤n→gMn n l t=some (apT l t))∧(∀(l:List gG) (ts:List gB),bok l→hPz ts→2*gA6 ts+1≤n→gH0 n l ts=some (gNo l ts))
 | 0=>⟨fun _ t _ _ h=>by have:=gBq t;omega,fun _ ts _ _ h=>by omega⟩
 | n+1=>by
   obtain⟨c,f⟩:=gY8 n;refine⟨fun l t hl ht hn=>?_,fun l ts hl ht hn=>?_⟩
   ·obtain⟨k,s,ts⟩:=t;simp only [tnd] at hn;simp only [gMn,gQ3,gF1,apT];rw [f l ts hl (by simpa only [tok,hPz] using ht) (by omega),gGr s l hl];simp only [bnd];cases k==1<;>cases (lkp s l).2<;>rfl
   ·simp only [gH0,gKj];rw [gL1 l (apT l) ts _ (fun x hx=>c l x hl (gIm.1 ht.2 x hx) (by have:=zC hx;omega)) (by simpa using ht.1)];simp [gQ5]
mutual
theorem hA9{l:List gG}(hl:bok l):∀(t:gB),tok t→tok (apT l t)
 | ⟨k,n,ts⟩,h=>by
   simp only [tok] at h;have f:=hDo hl ts h.2;have c:tok ⟨k,n,gNo l ts⟩:=by simp only [tok,hDm];exact⟨h.1,f⟩
   simp only [apT];cases k==1 with
   | false=>exact c
   | true=>
     simp only [gZ];cases (lkp n l).2 with
     | false=>exact c
     | true=>exact hSc hl
theorem hDo{l:List gG}(hl:bok l):∀(ts:List gB),gUv ts→gUv (gNo l ts)
 | [],_=>by simp [gNo,gUv]
 | a::ts,h=>by
   simp only [gUv] at h;simp only [gNo,gUv];exact⟨hA9 hl a h.1,hDo hl ts h.2⟩
end
def hDp(M:Nat)(l:List gG):Prop:=1≤M∧∀b∈l,tnd b.type_≤M
theorem hSe{M:Nat}{v:List UInt8}{l:List gG}(h:hDp M l):tnd (lkp v l).1≤M:=by
 cases hb:(lkp v l).2 with
 | true=>
   obtain⟨b,c,_,f⟩:=gLz hb;rw [f];exact h.2 b c
 | false=>rw [hKi hb];simp only [tnd,gA6];exact h.1
mutual
theorem hBc{M:Nat}{l:List gG}(hl:hDp M l):∀(t:gB),tnd (apT l t)≤M*tnd t
 | ⟨k,n,ts⟩=>by
   have f:=hDq hl ts;have y:=hl.1;have c:tnd ⟨k,n,gNo l ts⟩≤M*(1+gA6 ts):=by
    simp only [tnd,Nat.mul_add];omega
   have h:tnd (lkp n l).1≤M*(1+gA6 ts):=by
    have:=hSe (v:=n) hl
    rw [Nat.mul_add];omega
   simp only [apT];cases k==1 with
   | false=>exact c
   | true=>
     simp only [gZ];cases (lkp n l).2 with
     | false=>exact c
     | true=>exact h
theorem hDq{M:Nat}{l:List gG}(hl:hDp M l):∀(ts:List gB),gA6 (gNo l ts)≤M*gA6 ts
 | []=>by simp [gNo,gA6]
 | a::ts=>by
   have f:=hBc hl a;have c:=hDq hl ts;simp only [gNo,gA6,Nat.mul_add];omega
end
theorem gQ6(f:List gG)(c:gB)(h:bok f∧tok c):kT Tryz.prog 69 [.L 4 (gN f),.d (jS c)] [35] [jS (apT f c)]:=hN6 (2*tnd c) f c ((gY7 _).1 _ _ h.1 h.2 (Nat.le_refl _))
theorem gWu(f:List gG)(c:gB)(h:bok f∧tok c):kT Tryz.prog 85 [.L 4 (gN f),.d (jS c)] [35] [jS (apT f c)]:=hN8 (2*tnd c) f c ((gY8 _).1 _ _ h.1 h.2 (Nat.le_refl _))
end Go.Proofs.YtegahmhnmjnhhaaGreat
