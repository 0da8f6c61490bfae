import Derived.Test.YtfpdlnkkcnmebaaGreatCur
set_option maxHeartbeats 4000000
set_option linter.unusedVariables false
set_option linter.unusedSimpArgs false
set_option linter.unusedSectionVars false
namespace Go.Proofs.YtfpdlnkkcnmebaaGreat
open Go Go.Eng
attribute [local irreducible] V VO VQ VY Quiet QR jF mJ Rng qI qJ qB
mutual
def tnd:gB→Nat
 | ⟨_,_,ts⟩=>1+gGj ts
def gGj:List gB→Nat
 | []=>0
 | a::ts=>tnd a+gGj ts
end
mutual
def tok:gB→Prop
 | ⟨_,_,ts⟩=>ts.length≤4294967296∧gVx ts
def gVx:List gB→Prop
 | []=>True
 | a::ts=>tok a∧gVx ts
end
def gZn(ts:List gB):Prop:=ts.length≤4294967296∧gVx ts
theorem gI7:∀{ts:List gB},gVx ts↔∀t∈ts,tok t
 | []=>by simp [gVx]
 | a::ts=>by simp [gVx,gI7 (ts:=ts)]
theorem gI8{x:gB}:∀{ts:List gB},x∈ts→tnd x≤gGj ts
 | [],h=>by simp at h
 | a::ts,h=>by
   simp only [gGj];rcases List.mem_cons.1 h with rfl | h
   ·omega
   ·have:=gI8 h
    omega
theorem gI9(t:gB):1≤tnd t:=by cases t;simp only [tnd];omega
def idT(t:gB):gB:=t
def hGa(t:List gB):List gB:=t
mutual
def hSm:gB→Bool
 | ⟨_,_,ts⟩=>decide (ts.length≤4294967296) && hC9 ts
def hC9:List gB→Bool
 | []=>true
 | a::ts=>hSm a && hC9 ts
end
mutual
theorem gYg:∀(t:gB),hSm t=true↔tok t
 | ⟨k,n,ts⟩=>by simp only [hSm,tok,Bool.and_eq_true,decide_eq_true_eq,gQ3 ts]
theorem gQ3:∀(ts:List gB),hC9 ts=true↔gVx ts
 | []=>by simp [hC9,gVx]
 | a::ts=>by simp only [hC9,gVx,Bool.and_eq_true,gYg a,gQ3 ts]
end
instance (t:gB):Decidable (tok t):=decidable_of_iff _ (gYg t)
instance (ts:List gB):Decidable (gVx ts):=decidable_of_iff _ (gQ3 ts)
instance (ts:List gB):Decidable (gZn ts):=inferInstanceAs (Decidable (_∧_))
def gJa(f:gB→Option (gB))(c:(List gB)→Option (List gB))(h:gB):Option (gB):=
bnd (c h.args) fun q=>
(some (gB.mk h.kind h.name q))
def gJb(c:gB→Option (gB)):Prop:=∀(f:gB){r:gB},c f=some r→mJ Tryz.prog 104 [.d (kZ f)] [37] [kZ r]
def gKu(c:(List gB)→Option (List gB)):Prop:=∀(f:List gB){r:List gB},c f=some r→mJ Tryz.prog 148 [.L 3 (gK f)] [37] [.sl 3 (gK r)]
theorem gWw{f}{c}(y:gJb f)(q:gKu c)(a0:gB){r:gB}(h:gJa f c a0=some r):mJ Tryz.prog 104 [.d (kZ a0)] [37] [kZ r]:=by
 obtain⟨ad,ae,aa⟩:=a0;unfold gJa at h;refine qV Tryz.func104 rfl (by kernel_rfl) rfl (by simp) fun A _=>?_;refine goL ?_;obtain⟨x1,ac,h⟩:=gJ h;refine gIe (q aa ac) ?_;refine goL ?_;refine jG ?_;obtain rfl:=Option.some.inj h;exact gOs
def wH(c:gB→Option (gB)):List gB→Nat→(List gB)→Option (List gB)
 | [],f,h=>(some h)
 | q::xs,f,h=>bnd (c q) fun y=>
gd (f < h.length) (
wH c xs (f+1) (h.set f y))
def gHn(c:gB→Option (gB))(f:(List gB)→Option (List gB))(h:List gB):Option (List gB):=
gd (h.length≤4294967296) (
wH c h 0 (List.replicate h.length (gB.mk 0 [] [])))
theorem gVd{c}{f}(q:gJb c)(aa:gKu f)(a0:List gB){r:List gB}(h:gHn c f a0=some r):mJ Tryz.prog 148 [.L 3 (gK a0)] [37] [.sl 3 (gK r)]:=by
 unfold gHn at h;refine qV Tryz.func148 rfl (by kernel_rfl) rfl (by simp) fun A _=>?_;refine goL ?_;obtain⟨g1,h⟩:=pO h;refine hIp (gB.mk 0 [] []) g1 ?_;refine goL ?_;refine noB ?_;refine gCm 9 (fun z5=>?_);refine kV (fun(y4:Nat)(y2:List gB)(v3:Nat)=>⟨[(3,.sl 0 v3),(9,.L 3 (gK a0)),(10,.I (a0.length:Int)),(11,.N y4)],[.own 37 3 v3 (gK y2)],Tryz.f148.ntmps⟩) (fun y4 y2 v3=>wH c (a0.drop y4) y4 y2=some r) (fun y4 y2 v3=>a0.length - y4) 0 (List.replicate a0.length (gB.mk 0 [] [])) 0 eJ h ?_;rintro y4 y2 v3 h;refine goL ?_;refine kH (mQ (fun c6=>?_) (fun c6=>?_))
 ·have y:=vF c6;obtain⟨x7,ao,aj⟩:=drop_at y;rw [aj,wH.eq_2] at h;obtain⟨ak,al,am⟩:=x7;refine noS ?_;refine kH (jE ?_);refine goL ?_;refine jK (jM y4 (gEk ao)) ?_;obtain⟨⟨ac,ad,ae⟩,ap,h⟩:=gJ h;refine gIe (q (gB.mk ak al am) ap) ?_;obtain⟨g9,h⟩:=pO h;refine yS (hIq y4 g9) ?_;refine hIr (gB.mk ac ad ae) g9 ?_;refine goL ?_;refine jK (kD y4 (by omega)) ?_;exact⟨(y4+1),(y2.set y4 (gB.mk ac ad ae)),v3,h,by omega,eJ⟩
 ·have y:=vG c6;rw [jH y,wH.eq_1] at h;refine goX ?_;refine jG ?_;obtain rfl:=Option.some.inj h;exact gOs
mutual
def gE0:Nat→gB→Option (gB)
 | 0,_=>none
 | n+1,c=>gJa (gE0 n) (gFu n) c
def gFu:Nat→(List gB)→Option (List gB)
 | 0,_=>none
 | n+1,c=>gHn (gE0 n) (gFu n) c
end
theorem gVe:∀(n:Nat),gJb (gE0 n)∧gKu (gFu n):=by
 intro n
 induction n with
 | zero=>exact⟨(by intro c r h;cases h),(by intro c r h;cases h)⟩
 | succ n ih=>
   obtain⟨ih0,ih1⟩:=ih;refine⟨(fun c r h=>gWw ih0 ih1 c h),(fun c r h=>gVd ih0 ih1 c h)⟩
theorem gWx:∀(n:Nat),gJb (gE0 n):=fun n=>(gVe n).1
def gJc(f:gB→Option (gB))(c:(List gB)→Option (List gB))(h:gB):Option (gB):=
bnd (c h.args) fun q=>
(some (gB.mk h.kind h.name q))
def gJd(c:gB→Option (gB)):Prop:=∀(f:gB){r:gB},c f=some r→mJ Tryz.prog 48 [.d (kZ f)] [37] [kZ r]
def gHo(c:(List gB)→Option (List gB)):Prop:=∀(f:List gB){r:List gB},c f=some r→mJ Tryz.prog 81 [.L 3 (gK f)] [37] [.sl 3 (gK r)]
theorem gWy{f}{c}(y:gJd f)(q:gHo c)(a0:gB){r:gB}(h:gJc f c a0=some r):mJ Tryz.prog 48 [.d (kZ a0)] [37] [kZ r]:=by
 obtain⟨ad,ae,aa⟩:=a0;unfold gJc at h;refine qV Tryz.func48 rfl (by kernel_rfl) rfl (by simp) fun A _=>?_;refine gHi ?_;refine jL (P:=Tryz.prog) Mix.h [(0,true),(1,true),(2,true),(3,true),(4,true),(5,true),(6,false),(7,true),(8,false)] (by kernel_rfl) ?_;refine goY ?_;obtain⟨x1,ac,h⟩:=gJ h;refine gQh (q aa ac) ?_;refine goY ?_;refine kX ?_;refine goL ?_;refine jG ?_;obtain rfl:=Option.some.inj h;exact gOs
def wI(c:gB→Option (gB)):List gB→(List gB)→Option (List gB)
 | [],f=>(some f)
 | q::xs,f=>bnd (c q) fun h=>
gd (f.length+[h].length≤4294967296) (
wI c xs (f++[h]))
def gHp(c:gB→Option (gB))(f:(List gB)→Option (List gB))(h:List gB):Option (List gB):=
wI c h []
theorem gVf{c}{f}(q:gJd c)(aa:gHo f)(a0:List gB){r:List gB}(h:gHp c f a0=some r):mJ Tryz.prog 81 [.L 3 (gK a0)] [37] [.sl 3 (gK r)]:=by
 unfold gHp at h;refine qV Tryz.func81 rfl (by kernel_rfl) rfl (by simp) fun A _=>?_;refine goL ?_;refine gB9 ?_;refine goL ?_;refine noB ?_;refine gCm 0 (fun z4=>?_);refine kV (fun(y3:Nat)(y1:List gB)(v2:Nat)=>⟨[(0,.L 3 (gK a0)),(3,.sl 0 v2),(4,.N y3)],[.own 37 3 v2 (gK y1)],Tryz.f81.ntmps⟩) (fun y3 y1 v2=>wI c (a0.drop y3) y1=some r) (fun y3 y1 v2=>a0.length - y3) 0 [] 0 eJ h ?_;rintro y3 y1 v2 h;refine goL ?_;refine mQ (fun c5=>?_) (fun c5=>?_)
 ·have y:=vF c5;obtain⟨x6,ao,aj⟩:=drop_at y;rw [aj,wI.eq_2] at h;obtain⟨ak,al,am⟩:=x6;refine noS ?_;refine kH (jE ?_);refine goL ?_;refine jK (jM y3 (gEk ao)) ?_;obtain⟨⟨ac,ad,ae⟩,ap,h⟩:=gJ h;refine gIe (q (gB.mk ak al am) ap) ?_;refine yF (gB.mk ac ad ae) ?_;obtain⟨g8,h⟩:=pO h;refine gDn g8 ?_;refine goL ?_;refine jK (kD y3 (by omega)) ?_;exact⟨(y3+1),(y1++[(gB.mk ac ad ae)]),(v2+1),h,by omega,eJ⟩
 ·have y:=vG c5;rw [jH y,wI.eq_1] at h;refine goX ?_;refine jG ?_;obtain rfl:=Option.some.inj h;exact gOs
mutual
def gE1:Nat→gB→Option (gB)
 | 0,_=>none
 | n+1,c=>gJc (gE1 n) (gDl n) c
def gDl:Nat→(List gB)→Option (List gB)
 | 0,_=>none
 | n+1,c=>gHp (gE1 n) (gDl n) c
end
theorem gN9:∀(n:Nat),gJd (gE1 n)∧gHo (gDl n):=by
 intro n
 induction n with
 | zero=>exact⟨(by intro c r h;cases h),(by intro c r h;cases h)⟩
 | succ n ih=>
   obtain⟨ih0,ih1⟩:=ih;refine⟨(fun c r h=>gWy ih0 ih1 c h),(fun c r h=>gVf ih0 ih1 c h)⟩
theorem gWz:∀(n:Nat),gJd (gE1 n):=fun n=>(gN9 n).1
theorem gVg:∀(n:Nat),gHo (gDl n):=fun n=>(gN9 n).2
theorem gM1{α:Type}{l:List α}{k:Nat}{x:α}(h:k < l.length):(l.set k x).take (k+1)=l.take k++[x]:=by
 apply List.ext_getElem?;intro i;rw [List.getElem?_take,List.getElem?_append,List.length_take,List.getElem?_take,List.getElem?_set];have hm:min k l.length=k:=Nat.min_eq_left (by omega);rw [hm];by_cases c:i < k
 ·rw [if_pos (by omega),if_neg (by omega),if_pos c,if_pos c]
 ·rw [if_neg c];by_cases f:i=k
  ·subst f;rw [if_pos (by omega),if_pos rfl,if_pos h];simp
  ·rw [if_neg (by omega),List.getElem?_eq_none (by simp;omega)]
theorem gJm{rec:gB→Option gB}:∀(xs:List gB)(k:Nat)(y:List gB),(∀x∈xs,rec x=some x)→y.length=k+xs.length→wH rec xs k y=some (y.take k++xs)
 | [],k,y,_,h=>by
   simp only [wH,List.append_nil];rw [List.take_of_length_le (by simp at h;omega)]
 | x::xs,k,y,c,f=>by
   simp only [wH];rw [c x (by simp)];simp only [bnd,List.length_cons] at f ⊢;rw [uF (by omega),gJm xs (k+1) _ (fun z hz=>c z (by simp [hz])) (by simp;omega),gM1 (by omega)];simp
theorem gYh:∀(n:Nat),(∀t:gB,2*tnd t≤n→tok t→gE0 n t=some (idT t))∧(∀ts:List gB,2*gGj ts+1≤n→gZn ts→gFu n ts=some (hGa ts))
 | 0=>⟨fun t h=>by have:=gI9 t;omega,fun ts h=>by omega⟩
 | n+1=>by
   obtain⟨c,f⟩:=gYh n;refine⟨fun t hn ht=>?_,fun ts hn ht=>?_⟩
   ·obtain⟨k,s,ts⟩:=t;simp only [tnd] at hn;simp only [gE0,gJa];rw [f ts (by omega) (by simpa only [tok,gZn] using ht)];rfl
   ·simp only [gFu,gHn];rw [uF ht.1,gJm ts 0 _ (fun x hx=>c x (by have:=gI8 hx;omega) (gI7.1 ht.2 x hx)) (by simp)];simp [hGa]
theorem gJn{rec:gB→Option gB}:∀(xs:List gB)(y:List gB),(∀x∈xs,rec x=some x)→y.length+xs.length≤4294967296→wI rec xs y=some (y++xs)
 | [],y,_,h=>by simp [wI]
 | x::xs,y,c,f=>by
   simp only [wI];rw [c x (by simp)];simp only [bnd,List.length_cons,List.length_nil] at f ⊢;rw [uF (by omega),gJn xs _ (fun z hz=>c z (by simp [hz])) (by simp;omega)];simp
theorem gTs:∀(n:Nat),(∀t:gB,2*tnd t≤n→tok t→gE1 n t=some (idT t))∧(∀ts:List gB,2*gGj ts+1≤n→gZn ts→gDl n ts=some (hGa ts))
 | 0=>⟨fun t h=>by have:=gI9 t;omega,fun ts h=>by omega⟩
 | n+1=>by
   obtain⟨c,f⟩:=gTs n;refine⟨fun t hn ht=>?_,fun ts hn ht=>?_⟩
   ·obtain⟨k,s,ts⟩:=t;simp only [tnd] at hn;simp only [gE1,gJc];rw [f ts (by omega) (by simpa only [tok,gZn] using ht)];rfl
   ·simp only [gDl,gHp];rw [gJn ts _ (fun x hx=>c x (by have:=gI8 hx;omega) (gI7.1 ht.2 x hx)) (by simpa using ht.1)];simp [hGa]
theorem gJe(c:gB)(h:tok c):mJ Tryz.prog 104 [.d (kZ c)] [37] [kZ (idT c)]:=gWx (2*tnd c) c ((gYh _).1 _ (Nat.le_refl _) h)
theorem gAp(c:gB)(h:tok c):mJ Tryz.prog 48 [.d (kZ c)] [37] [kZ (idT c)]:=gWz (2*tnd c) c ((gTs _).1 _ (Nat.le_refl _) h)
theorem gOa(c:List gB)(h:gZn c):mJ Tryz.prog 81 [.L 3 (gK c)] [37] [.sl 3 (gK (hGa c))]:=gVg (2*gGj c+1) c ((gTs _).2 _ (Nat.le_refl _) h)
def yZ(a1:List gB)(a2:gB→gB→Option Bool):List gB→Nat→Option (Bool)
 | [],c=>(some true)
 | f::xs,c=>bnd (at? a1 (c:Int)) fun h=>
bnd (a2 f h) fun q=>
(cnd (!q) (
(some false)) (
yZ a1 a2 xs (c+1)))
def gFv(c:List gB)(a1:List gB)(a2:gB→gB→Option Bool):Option (Bool):=
(cnd ((c.length:Int) !=(a1.length:Int)) (
(some false)) (
yZ a1 a2 c 0))
theorem gVh(q:List gB)(a1:List gB){a2f:Nat}{a2c:List SV}{a2:gB→gB→Option Bool}(a2_lt:∀n,SV.lts n a2c=true)(ha2:∀(x0:gB)(x1:gB)(r:Bool),a2 x0 x1=some r→jF Tryz.prog a2f ([.d (kZ x0),.d (kZ x1)]++a2c) [.b r]){r:Bool}(h:gFv q a1 a2=some r):jF Tryz.prog 127 [.L 3 (gK q),.L 3 (gK a1),.fn a2f a2c] [.b r]:=by
 unfold gFv at h;refine SpI Tryz.func127 fun A _=>?_;refine goC h ?_ ?_<;>intro c1 h
 ·exact goR h
 ·refine goS ?_;refine noB ?_;refine gCm 15 (fun z3=>?_);refine qD (fun(f:Nat)=>⟨[(1,.L 3 (gK a1)),(2,.fn a2f a2c),(15,.L 3 (gK q)),(16,.I (q.length:Int)),(17,.N f)],[],Tryz.f127.ntmps⟩) (fun f=>yZ a1 a2 (q.drop f) f=some r) (fun f=>q.length - f) 0 ⟨rfl,⟨⟨rfl,rfl⟩,⟨rfl,a2_lt _⟩,⟨rfl,rfl⟩,⟨rfl,rfl⟩,⟨rfl,rfl⟩,trivial⟩,⟨[],rfl⟩,rfl⟩ h ?_;rintro f h;refine goL ?_;refine kH (mQ (fun c4=>?_) (fun c4=>?_))
  ·have c:=vF c4;obtain⟨x5,ac,y⟩:=drop_at c;rw [y,yZ.eq_2] at h;obtain⟨ai,aj,ak⟩:=x5;refine noS ?_;refine kH (jE ?_);refine goL ?_;refine jK (jM f (gEk ac)) ?_;obtain⟨x6,aa,h⟩:=gJ h;rw [gCk] at aa;obtain⟨al,am,an⟩:=x6;refine jK (jM f (gEk aa)) ?_;obtain⟨x7,ad,h⟩:=gJ h;refine jK (gOt (ha2 _ _ _ ad) (a2_lt 0)) ?_;refine mQ (fun c8=>?_) (fun c8=>?_)
   ·replace h:=kT c8 h;exact goR h
   ·replace h:=kU c8 h;refine goS ?_;refine jK (kD f (by omega)) ?_;exact⟨(f+1),h,by omega,⟨rfl,⟨⟨rfl,rfl⟩,⟨rfl,a2_lt _⟩,⟨rfl,rfl⟩,⟨rfl,rfl⟩,⟨rfl,rfl⟩,trivial⟩,⟨_,rfl⟩,rfl⟩⟩
  ·have c:=vG c4;rw [jH c,yZ.eq_1] at h;refine goX ?_;refine jG ?_;cases h;exact uA
def gHq(c:gB→gB→Option (Bool))(f:gB)(a1:gB):Option (Bool):=
bnd ((cnd (f.kind==a1.kind) ((cnd (f.name==a1.name) (bnd (gFv f.args a1.args c) fun h=>
(some h)) ((some false)))) ((some false)))) fun q=>
(some q)
theorem gVi{c:gB→gB→Option (Bool)}(f:∀(x0:gB)(x1:gB){r:Bool},c x0 x1=some r→jF Tryz.prog 83 [.d (kZ x0),.d (kZ x1)] [.b r])(a0:gB)(a1:gB){r:Bool}(h:gHq c a0 a1=some r):jF Tryz.prog 83 [.d (kZ a0),.d (kZ a1)] [.b r]:=by
 obtain⟨aa,ab,q⟩:=a0;obtain⟨ac,ad,y⟩:=a1;unfold gHq at h;refine SpI Tryz.func83 fun A _=>?_;refine goL ?_;obtain⟨b1,hb1,h⟩:=gJ h;refine kC ⟨[(4,.B b1)],[bTy aa ab q,bTy ac ad y],Tryz.f83.ntmps⟩ ?_ ?_
 ·refine gqA 10 hb1 (fun c2 hb1=>?_);refine gqA 17 hb1 (fun c3 hb1=>?_);obtain⟨x4,ai,hb1⟩:=gJ hb1;refine jK (gG (gVh q y (a2:=c) (fun _=>rfl) (fun x0 x1 r hr=>f x0 x1 hr) ai)) ?_;cases hb1;exact eJ
 exact goR h
def gHr:Nat→gB→gB→Option (Bool)
 | 0,_,_=>none
 | n+1,c,f=>gHq (gHr n) c f
theorem gVj:∀(n:Nat)(c:gB)(f:gB){r:Bool},gHr n c f=some r→jF Tryz.prog 83 [.d (kZ c),.d (kZ f)] [.b r]:=by
 intro n
 induction n with
 | zero=>intro c f r h;cases h
 | succ n ih=>intro c f r h;exact gVi ih c f h
def gHs(f:gB→gB→Option (Bool))(c:(List gB)→(List gB)→Option (Bool))(h:gB)(a1:gB):Option (Bool):=
bnd ((cnd (h.kind==a1.kind) ((cnd (h.name==a1.name) (bnd (c h.args a1.args) fun q=>
(some q)) ((some false)))) ((some false)))) fun y=>
(some y)
def gHt(c:gB→gB→Option (Bool)):Prop:=∀(f:gB)(h:gB){r:Bool},c f h=some r→jF Tryz.prog 119 [.d (kZ f),.d (kZ h)] [.b r]
def gW0(c:(List gB)→(List gB)→Option (Bool)):Prop:=∀(f:List gB)(h:List gB){r:Bool},c f h=some r→jF Tryz.prog 152 [.L 3 (gK f),.L 3 (gK h)] [.b r]
theorem gVk{c}{f}(y:gHt c)(q:gW0 f)(a0:gB)(a1:gB){r:Bool}(h:gHs c f a0 a1=some r):jF Tryz.prog 119 [.d (kZ a0),.d (kZ a1)] [.b r]:=by
 obtain⟨aa,ab,ac⟩:=a0;obtain⟨ad,ae,ag⟩:=a1;unfold gHs at h;refine SpI Tryz.func119 fun A _=>?_;refine goL ?_;obtain⟨b1,hb1,h⟩:=gJ h;refine kC ⟨[(4,.B b1)],[bTy aa ab ac,bTy ad ae ag],Tryz.f119.ntmps⟩ ?_ ?_
 ·refine gqA 10 hb1 (fun c2 hb1=>?_);refine gqA 17 hb1 (fun c3 hb1=>?_);obtain⟨x4,ai,hb1⟩:=gJ hb1;refine jK (gG (q _ _ ai)) ?_;cases hb1;exact eJ
 exact goR h
def gE2(c:gB→gB→Option (Bool))(a1:List gB):List gB→Nat→Option (Bool)
 | [],f=>(some true)
 | h::xs,f=>bnd (at? a1 (f:Int)) fun q=>
bnd (c h q) fun y=>
(cnd (!y) (
(some false)) (
gE2 c a1 xs (f+1)))
def gTt(c:gB→gB→Option (Bool))(f:(List gB)→(List gB)→Option (Bool))(h:List gB)(a1:List gB):Option (Bool):=
(cnd ((h.length:Int) !=(a1.length:Int)) (
(some false)) (
gE2 c a1 h 0))
theorem hJo{c}{q}(f:gHt c)(ab:gW0 q)(a0:List gB)(a1:List gB){r:Bool}(h:gTt c q a0 a1=some r):jF Tryz.prog 152 [.L 3 (gK a0),.L 3 (gK a1)] [.b r]:=by
 unfold gTt at h;refine SpI Tryz.func152 fun A _=>?_;refine goC h ?_ ?_<;>intro c1 h
 ·exact goR h
 ·refine goS ?_;refine noB ?_;refine gCm 0 (fun z3=>?_);refine qD (fun(y2:Nat)=>⟨[(0,.L 3 (gK a0)),(1,.L 3 (gK a1)),(5,.N y2)],[],Tryz.f152.ntmps⟩) (fun y2=>gE2 c a1 (a0.drop y2) y2=some r) (fun y2=>a0.length - y2) 0 eJ h ?_;rintro y2 h;refine goL ?_;refine mQ (fun c4=>?_) (fun c4=>?_)
  ·have y:=vF c4;obtain⟨x5,ah,ad⟩:=drop_at y;rw [ad,gE2.eq_2] at h;obtain⟨aj,ak,al⟩:=x5;refine noS ?_;refine kH (jE ?_);refine goL ?_;refine gCy (jM y2 (gEk ah)) ?_;refine goL ?_;obtain⟨x6,ae,h⟩:=gJ h;rw [gCk] at ae;obtain⟨am,an,ao⟩:=x6;refine gCy (jM y2 (gEk ae)) ?_;refine goL ?_;obtain⟨x7,ai,h⟩:=gJ h;refine gCy (gG (f _ _ ai)) ?_;refine goC h ?_ ?_<;>intro c8 h
   ·exact goR h
   ·refine goS ?_;refine jK (kD y2 (by omega)) ?_;exact⟨(y2+1),h,by omega,eJ⟩
  ·have y:=vG c4;rw [jH y,gE2.eq_1] at h;refine goX ?_;refine jG ?_;cases h;exact uA
mutual
def gDm:Nat→gB→gB→Option (Bool)
 | 0,_,_=>none
 | n+1,c,f=>gHs (gDm n) (gQ4 n) c f
def gQ4:Nat→(List gB)→(List gB)→Option (Bool)
 | 0,_,_=>none
 | n+1,c,f=>gTt (gDm n) (gQ4 n) c f
end
theorem gTu:∀(n:Nat),gHt (gDm n)∧gW0 (gQ4 n):=by
 intro n
 induction n with
 | zero=>exact⟨(by intro c f r h;cases h),(by intro c f r h;cases h)⟩
 | succ n ih=>
   obtain⟨ih0,ih1⟩:=ih;refine⟨(fun c f r h=>gVk ih0 ih1 c f h),(fun c f r h=>hJo ih0 ih1 c f h)⟩
theorem gVl:∀(n:Nat),gHt (gDm n):=fun n=>(gTu n).1
mutual
def teq:gB→gB→Bool
 | ⟨k,n,ts⟩,⟨k',n',ts'⟩=>(k==k') && ((n==n') && gVm ts ts')
def gVm:List gB→List gB→Bool
 | [],[]=>true
 | a::ts,b::ts'=>teq a b && gVm ts ts'
 | _,_=>false
end
mutual
theorem hDa:∀(a b:gB),teq a b=true↔a=b
 | ⟨k,n,ts⟩,⟨k',n',ts'⟩=>by
   simp only [teq,Bool.and_eq_true,beq_iff_eq,gB.mk.injEq];rw [gYi ts ts']
theorem gYi:∀(a b:List gB),gVm a b=true↔a=b
 | [],[]=>by simp [gVm]
 | a::ts,b::ts'=>by
   simp only [gVm,Bool.and_eq_true,List.cons.injEq];rw [hDa a b,gYi ts ts']
 | [],_::_=>by simp [gVm]
 | _::_,[]=>by simp [gVm]
end
theorem gTv:∀{a b:List gB},a.length≠b.length→gVm a b=false
 | [],[],h=>by simp at h
 | a::ts,b::ts',h=>by
   simp only [gVm];rw [gTv (a:=ts) (b:=ts') (by simpa using h),Bool.and_false]
 | [],_::_,_=>rfl
 | _::_,[],_=>rfl
theorem gJo{p:gB→gB→Option Bool}(b:List gB):∀(xs:List gB)(k:Nat),(∀x∈xs,∀y,p x y=some (teq x y))→b.length=k+xs.length→yZ b p xs k=some (gVm xs (b.drop k))
 | [],k,_,h=>by
   rw [List.drop_eq_nil_of_le (by simp at h;omega)];rfl
 | x::xs,k,hp,h=>by
   simp only [List.length_cons] at h;have hk:k < b.length:=by omega
   simp only [yZ,gCk];rw [List.getElem?_eq_getElem hk,List.drop_eq_getElem_cons hk];simp only [bnd,hp x (by simp),gVm];cases hq:teq x b[k] with
   | true=>simp only [Bool.not_true,jC,Bool.true_and];exact gJo b xs (k+1) (fun z hz=>hp z (by simp [hz])) (by omega)
   | false=>rfl
theorem gTw{p:gB→gB→Option Bool}(a b:List gB)(hp:∀x∈a,∀y,p x y=some (teq x y)):gFv a b p=some (gVm a b):=by
 unfold gFv;by_cases h:a.length=b.length
 ·have:((a.length:Int) !=(b.length:Int))=false:=by simp [h]
  rw [this,jC,gJo b a 0 hp (by omega)];rfl
 ·have:((a.length:Int) !=(b.length:Int))=true:=by simp;omega
  rw [this,jV,gTv h]
theorem gM2:∀(n:Nat)(a b:gB),tnd a≤n→gHr n a b=some (teq a b)
 | 0,a,b,h=>by have:=gI9 a;omega
 | n+1,⟨k,s,ts⟩,⟨k',s',ts'⟩,h=>by
   simp only [tnd] at h;simp only [gHr,gHq,teq];rw [gTw ts ts' (fun x hx y=>gM2 n x y (by have:=gI8 hx;omega))];cases c:k==k'<;>cases f:s==s'<;>cases gVm ts ts'<;>rfl
theorem gQ5{p:gB→gB→Option Bool}(b:List gB):∀(xs:List gB)(k:Nat),(∀x∈xs,∀y,p x y=some (teq x y))→b.length=k+xs.length→gE2 p b xs k=some (gVm xs (b.drop k))
 | [],k,_,h=>by
   rw [List.drop_eq_nil_of_le (by simp at h;omega)];rfl
 | x::xs,k,hp,h=>by
   simp only [List.length_cons] at h;have hk:k < b.length:=by omega
   simp only [gE2,gCk];rw [List.getElem?_eq_getElem hk,List.drop_eq_getElem_cons hk];simp only [bnd,hp x (by simp),gVm];cases hq:teq x b[k] with
   | true=>simp only [Bool.not_true,jC,Bool.true_and];exact gQ5 b xs (k+1) (fun z hz=>hp z (by simp [hz])) (by omega)
   | false=>rfl
theorem gVn:∀(n:Nat),(∀a b:gB,2*tnd a≤n→gDm n a b=some (teq a b))∧(∀a b:List gB,2*gGj a+1≤n→gQ4 n a b=some (gVm a b))
 | 0=>⟨fun t _ h=>by have:=gI9 t;omega,fun ts _ h=>by omega⟩
 | n+1=>by
   obtain⟨c,f⟩:=gVn n;refine⟨fun a b hn=>?_,fun a b hn=>?_⟩
   ·obtain⟨k,s,ts⟩:=a;obtain⟨k',s',ts'⟩:=b;simp only [tnd] at hn;simp only [gDm,gHs,teq];rw [f ts ts' (by omega)];cases c:k==k'<;>cases f:s==s'<;>cases gVm ts ts'<;>rfl
   ·simp only [gQ4,gTt];by_cases h:a.length=b.length
    ·have:((a.length:Int) !=(b.length:Int))=false:=by simp [h]
     rw [this,jC,gQ5 b a 0 (fun x hx y=>c x y (by have:=gI8 hx;omega)) (by omega)];rfl
    ·have:((a.length:Int) !=(b.length:Int))=true:=by simp;omega
     rw [this,jV,gTv h]
theorem gOb(c:gB)(f:gB):jF Tryz.prog 83 [.d (kZ c),.d (kZ f)] [.b (teq c f)]:=gVj (tnd c) c f (gM2 _ _ _ (Nat.le_refl _))
theorem gKv(c:gB)(f:gB):jF Tryz.prog 119 [.d (kZ c),.d (kZ f)] [.b (teq c f)]:=gVl (2*tnd c) c f ((gVn _).1 _ _ (Nat.le_refl _))
def gB4(a1:LB):List gV→Option (gB × Bool)
 | []=>(some ((gB.mk 0 [] []),false))
 | c::xs=>(cnd (c.var_==a1) (
gd (tok c.type_) (lt_ (idT c.type_) fun f=>
(some (f,true)))) (
gB4 a1 xs ))
def gIj(c:List gV)(a1:LB):Option (gB × Bool):=
gB4 a1 c
theorem gVo(a0:List gV)(a1:LB){r:gB × Bool}(h:gIj a0 a1=some r):mJ Tryz.prog 90 [.L 4 (jY a0),.S a1] [37] [kZ r.1,.b r.2]:=by
 unfold gIj at h;refine qV Tryz.func90 rfl (by kernel_rfl) rfl (by simp) fun A _=>?_;refine goL ?_;refine noB ?_;refine gCm 8 (fun z2=>?_);refine qD (fun(f:Nat)=>⟨[(1,.S a1),(4,.ptr 0 0),(8,.L 4 (jY a0)),(9,.I (a0.length:Int)),(10,.N f)],[.box [.I 0,.S [],.nilsl]],Tryz.f90.ntmps⟩) (fun f=>gB4 a1 (a0.drop f)  =some r) (fun f=>a0.length - f) 0 eJ h ?_;rintro f h;refine goL ?_;refine kH (mQ (fun c3=>?_) (fun c3=>?_))
 ·have c:=vF c3;obtain⟨x4,ae,ac⟩:=drop_at c;rw [ac,gB4.eq_2] at h;obtain⟨ai,⟨q,y,aa⟩⟩:=x4;refine noS ?_;refine kH (jE ?_);refine goL ?_;refine jK (jM f (gS6 ae)) ?_;refine mQ (fun c5=>?_) (fun c5=>?_)
  ·replace h:=kT c5 h;refine goL ?_;obtain⟨g6,h⟩:=pO h;obtain⟨⟨aj,ak,al⟩,ah,h⟩:=qW h;have sx7:=gJe (gB.mk q y aa) g6;rw [ah] at sx7;refine gIe (sx7) ?_;refine goL ?_;refine jG ?_;obtain rfl:=Option.some.inj h;exact gOs
  ·replace h:=kU c5 h;refine goS ?_;refine jK (kD f (by omega)) ?_;exact⟨(f+1),h,by omega,eJ⟩
 ·have c:=vG c3;rw [jH c,gB4.eq_1] at h;refine goX ?_;refine gAc (jU TBd.h TZ.h rfl (by repeat constructor)) ?_;refine hA4 37 3 0 2 rfl rfl (by repeat constructor) (by repeat constructor) (by repeat constructor) (by repeat constructor) ?_;refine jG ?_;obtain rfl:=Option.some.inj h;exact gOs
def gO2(f:(List gV)→gB→Option (gB))(c:(List gV)→(List gB)→Option (List gB))(h:List gV)(a1:gB):Option (gB):=
(cnd (a1.kind==1) (
bnd (gIj h a1.name) fun q=>
(cnd q.2 (
(some q.1)) (
bnd (c h a1.args) fun y=>
(some (gB.mk a1.kind a1.name y))))) (
bnd (c h a1.args) fun x5=>
(some (gB.mk a1.kind a1.name x5))))
def gO3(c:(List gV)→gB→Option (gB)):Prop:=∀(f:List gV)(h:gB){r:gB},c f h=some r→mJ Tryz.prog 59 [.L 4 (jY f),.d (kZ h)] [37] [kZ r]
def gLx(c:(List gV)→(List gB)→Option (List gB)):Prop:=∀(f:List gV)(h:List gB){r:List gB},c f h=some r→mJ Tryz.prog 91 [.L 4 (jY f),.L 3 (gK h)] [37] [.sl 3 (gK r)]
theorem hGb{q}{f}(y:gO3 q)(c:gLx f)(a0:List gV)(a1:gB){r:gB}(h:gO2 q f a0 a1=some r):mJ Tryz.prog 59 [.L 4 (jY a0),.d (kZ a1)] [37] [kZ r]:=by
 obtain⟨ak,ac,aa⟩:=a1;unfold gO2 at h;refine qV Tryz.func59 rfl (by kernel_rfl) rfl (by simp) fun A _=>?_;refine goC h ?_ ?_<;>intro c1 h
 ·refine goL ?_;obtain⟨⟨⟨ad,ae,ag⟩,al⟩,ah,h⟩:=gJ h;refine gIe (gVo a0 ac ah) ?_;refine goC h ?_ ?_<;>intro c3 h
  ·refine goL ?_;refine jG ?_;obtain rfl:=Option.some.inj h;exact gOs
  ·refine noS ?_;refine jL (P:=Tryz.prog) Mix.h [(0,true),(1,true),(2,true),(3,true),(4,true),(5,true),(6,true),(7,false),(8,true),(9,false)] (by kernel_rfl) ?_;refine goY ?_;obtain⟨x4,ai,h⟩:=gJ h;refine gQh (c a0 aa ai) ?_;refine goY ?_;refine kX ?_;refine goL ?_;refine jG ?_;obtain rfl:=Option.some.inj h;exact gOs
 ·refine noS ?_;refine jL (P:=Tryz.prog) Mix.h [(0,true),(1,true),(2,true),(3,true),(4,true),(5,true),(6,true),(7,false),(8,true),(9,false)] (by kernel_rfl) ?_;refine goY ?_;obtain⟨x5,aj,h⟩:=gJ h;refine gQh (c a0 aa aj) ?_;refine goY ?_;refine kX ?_;refine goL ?_;refine jG ?_;obtain rfl:=Option.some.inj h;exact gOs
def yI(c:(List gV)→gB→Option (gB))(q:List gV):List gB→Nat→(List gB)→Option (List gB)
 | [],f,h=>(some h)
 | y::xs,f,h=>bnd (c q y) fun x8=>
gd (f < h.length) (
yI c q xs (f+1) (h.set f x8))
def gJf(c:(List gV)→gB→Option (gB))(f:(List gV)→(List gB)→Option (List gB))(h:List gV)(a1:List gB):Option (List gB):=
gd (a1.length≤4294967296) (
yI c h a1 0 (List.replicate a1.length (gB.mk 0 [] [])))
theorem gW1{c}{f}(q:gO3 c)(aa:gLx f)(a0:List gV)(a1:List gB){r:List gB}(h:gJf c f a0 a1=some r):mJ Tryz.prog 91 [.L 4 (jY a0),.L 3 (gK a1)] [37] [.sl 3 (gK r)]:=by
 unfold gJf at h;refine qV Tryz.func91 rfl (by kernel_rfl) rfl (by simp) fun A _=>?_;refine goL ?_;obtain⟨g1,h⟩:=pO h;refine hIp (gB.mk 0 [] []) g1 ?_;refine goL ?_;refine noB ?_;refine gCm 11 (fun z5=>?_);refine kV (fun(y4:Nat)(y2:List gB)(v3:Nat)=>⟨[(0,.L 4 (jY a0)),(5,.sl 0 v3),(11,.L 3 (gK a1)),(12,.I (a1.length:Int)),(13,.N y4)],[.own 37 3 v3 (gK y2)],Tryz.f91.ntmps⟩) (fun y4 y2 v3=>yI c a0 (a1.drop y4) y4 y2=some r) (fun y4 y2 v3=>a1.length - y4) 0 (List.replicate a1.length (gB.mk 0 [] [])) 0 eJ h ?_;rintro y4 y2 v3 h;refine goL ?_;refine kH (mQ (fun c6=>?_) (fun c6=>?_))
 ·have y:=vF c6;obtain⟨x7,ao,aj⟩:=drop_at y;rw [aj,yI.eq_2] at h;obtain⟨ak,al,am⟩:=x7;refine noS ?_;refine kH (jE ?_);refine goL ?_;refine jK (jM y4 (gEk ao)) ?_;obtain⟨⟨ac,ad,ae⟩,ap,h⟩:=gJ h;refine gIe (q a0 (gB.mk ak al am) ap) ?_;obtain⟨g9,h⟩:=pO h;refine yS (hIq y4 g9) ?_;refine hIr (gB.mk ac ad ae) g9 ?_;refine goL ?_;refine jK (kD y4 (by omega)) ?_;exact⟨(y4+1),(y2.set y4 (gB.mk ac ad ae)),v3,h,by omega,eJ⟩
 ·have y:=vG c6;rw [jH y,yI.eq_1] at h;refine goX ?_;refine jG ?_;obtain rfl:=Option.some.inj h;exact gOs
mutual
def gLa:Nat→(List gV)→gB→Option (gB)
 | 0,_,_=>none
 | n+1,c,f=>gO2 (gLa n) (gG4 n) c f
def gG4:Nat→(List gV)→(List gB)→Option (List gB)
 | 0,_,_=>none
 | n+1,c,f=>gJf (gLa n) (gG4 n) c f
end
theorem hDb:∀(n:Nat),gO3 (gLa n)∧gLx (gG4 n):=by
 intro n
 induction n with
 | zero=>exact⟨(by intro c f r h;cases h),(by intro c f r h;cases h)⟩
 | succ n ih=>
   obtain⟨ih0,ih1⟩:=ih;refine⟨(fun c f r h=>hGb ih0 ih1 c f h),(fun c f r h=>gW1 ih0 ih1 c f h)⟩
theorem hGc:∀(n:Nat),gO3 (gLa n):=fun n=>(hDb n).1
def gB5(a1:LB):List gV→Option (gB × Bool)
 | []=>(some ((gB.mk 0 [] []),false))
 | c::xs=>(cnd (c.var_==a1) (
gd (tok c.type_) (lt_ (idT c.type_) fun f=>
(some (f,true)))) (
gB5 a1 xs ))
def gIk(c:List gV)(a1:LB):Option (gB × Bool):=
gB5 a1 c
theorem gVp(a0:List gV)(a1:LB){r:gB × Bool}(h:gIk a0 a1=some r):mJ Tryz.prog 153 [.L 4 (jY a0),.S a1] [37] [kZ r.1,.b r.2]:=by
 unfold gIk at h;refine qV Tryz.func153 rfl (by kernel_rfl) rfl (by simp) fun A _=>?_;refine goL ?_;refine noB ?_;refine gCm 0 (fun z2=>?_);refine qD (fun(f:Nat)=>⟨[(0,.L 4 (jY a0)),(1,.S a1),(4,.ptr 0 0),(6,.N f)],[.box [.I 0,.S [],.nilsl]],Tryz.f153.ntmps⟩) (fun f=>gB5 a1 (a0.drop f)  =some r) (fun f=>a0.length - f) 0 eJ h ?_;rintro f h;refine goL ?_;refine mQ (fun c3=>?_) (fun c3=>?_)
 ·have c:=vF c3;obtain⟨x4,ac,ad⟩:=drop_at c;rw [ad,gB5.eq_2] at h;obtain⟨ai,⟨q,y,aa⟩⟩:=x4;refine noS ?_;refine kH (jE ?_);refine goL ?_;refine jK (jM f (gS6 ac)) ?_;refine mQ (fun c5=>?_) (fun c5=>?_)
  ·replace h:=kT c5 h;refine goL ?_;refine jK (jM f (gS6 ac)) ?_;obtain⟨g6,h⟩:=pO h;obtain⟨⟨aj,ak,al⟩,ah,h⟩:=qW h;have sx7:=gAp (gB.mk q y aa) g6;rw [ah] at sx7;refine gIe (sx7) ?_;refine goL ?_;refine jG ?_;obtain rfl:=Option.some.inj h;exact gOs
  ·replace h:=kU c5 h;refine goS ?_;refine jK (kD f (by omega)) ?_;exact⟨(f+1),h,by omega,eJ⟩
 ·have c:=vG c3;rw [jH c,gB5.eq_1] at h;refine goX ?_;refine gAc (jU TBd.h TZ.h rfl (by repeat constructor)) ?_;refine hA4 37 3 0 2 rfl rfl (by repeat constructor) (by repeat constructor) (by repeat constructor) (by repeat constructor) ?_;refine jG ?_;obtain rfl:=Option.some.inj h;exact gOs
def gO4(f:(List gV)→gB→Option (gB))(c:(List gV)→(List gB)→Option (List gB))(h:List gV)(a1:gB):Option (gB):=
(cnd (a1.kind==1) (
bnd (gIk h a1.name) fun q=>
(cnd q.2 (
(some q.1)) (
bnd (c h a1.args) fun y=>
(some (gB.mk a1.kind a1.name y))))) (
bnd (c h a1.args) fun x5=>
(some (gB.mk a1.kind a1.name x5))))
def gO5(c:(List gV)→gB→Option (gB)):Prop:=∀(f:List gV)(h:gB){r:gB},c f h=some r→mJ Tryz.prog 122 [.L 4 (jY f),.d (kZ h)] [37] [kZ r]
def gLy(c:(List gV)→(List gB)→Option (List gB)):Prop:=∀(f:List gV)(h:List gB){r:List gB},c f h=some r→mJ Tryz.prog 154 [.L 4 (jY f),.L 3 (gK h)] [37] [.sl 3 (gK r)]
theorem hGd{q}{f}(y:gO5 q)(c:gLy f)(a0:List gV)(a1:gB){r:gB}(h:gO4 q f a0 a1=some r):mJ Tryz.prog 122 [.L 4 (jY a0),.d (kZ a1)] [37] [kZ r]:=by
 obtain⟨ak,ac,aa⟩:=a1;unfold gO4 at h;refine qV Tryz.func122 rfl (by kernel_rfl) rfl (by simp) fun A _=>?_;refine goC h ?_ ?_<;>intro c1 h
 ·refine goL ?_;obtain⟨⟨⟨ad,ae,ag⟩,al⟩,ah,h⟩:=gJ h;refine gIe (gVp a0 ac ah) ?_;refine goC h ?_ ?_<;>intro c3 h
  ·refine goL ?_;refine jG ?_;obtain rfl:=Option.some.inj h;exact gOs
  ·refine noS ?_;refine jL (P:=Tryz.prog) Mix.h [(0,true),(1,true),(2,true),(3,true),(4,true),(5,true),(6,true),(7,false),(8,true),(9,false)] (by kernel_rfl) ?_;refine goY ?_;obtain⟨x4,ai,h⟩:=gJ h;refine gQh (c a0 aa ai) ?_;refine goY ?_;refine kX ?_;refine goL ?_;refine jG ?_;obtain rfl:=Option.some.inj h;exact gOs
 ·refine noS ?_;refine jL (P:=Tryz.prog) Mix.h [(0,true),(1,true),(2,true),(3,true),(4,true),(5,true),(6,true),(7,false),(8,true),(9,false)] (by kernel_rfl) ?_;refine goY ?_;obtain⟨x5,aj,h⟩:=gJ h;refine gQh (c a0 aa aj) ?_;refine goY ?_;refine kX ?_;refine goL ?_;refine jG ?_;obtain rfl:=Option.some.inj h;exact gOs
def yJ(c:(List gV)→gB→Option (gB))(h:List gV):List gB→(List gB)→Option (List gB)
 | [],f=>(some f)
 | y::xs,f=>bnd (c h y) fun q=>
gd (f.length+[q].length≤4294967296) (
yJ c h xs (f++[q]))
def gJg(c:(List gV)→gB→Option (gB))(f:(List gV)→(List gB)→Option (List gB))(h:List gV)(a1:List gB):Option (List gB):=
yJ c h a1 []
theorem gW2{c}{f}(q:gO5 c)(aa:gLy f)(a0:List gV)(a1:List gB){r:List gB}(h:gJg c f a0 a1=some r):mJ Tryz.prog 154 [.L 4 (jY a0),.L 3 (gK a1)] [37] [.sl 3 (gK r)]:=by
 unfold gJg at h;refine qV Tryz.func154 rfl (by kernel_rfl) rfl (by simp) fun A _=>?_;refine goL ?_;refine gB9 ?_;refine goL ?_;refine noB ?_;refine gCm 1 (fun z4=>?_);refine kV (fun(y3:Nat)(y1:List gB)(v2:Nat)=>⟨[(0,.L 4 (jY a0)),(1,.L 3 (gK a1)),(5,.sl 0 v2),(6,.N y3)],[.own 37 3 v2 (gK y1)],Tryz.f154.ntmps⟩) (fun y3 y1 v2=>yJ c a0 (a1.drop y3) y1=some r) (fun y3 y1 v2=>a1.length - y3) 0 [] 0 eJ h ?_;rintro y3 y1 v2 h;refine goL ?_;refine mQ (fun c5=>?_) (fun c5=>?_)
 ·have y:=vF c5;obtain⟨x6,ao,aj⟩:=drop_at y;rw [aj,yJ.eq_2] at h;obtain⟨ak,al,am⟩:=x6;refine noS ?_;refine kH (jE ?_);refine goL ?_;refine jK (jM y3 (gEk ao)) ?_;obtain⟨⟨ac,ad,ae⟩,ap,h⟩:=gJ h;refine gIe (q a0 (gB.mk ak al am) ap) ?_;refine yF (gB.mk ac ad ae) ?_;obtain⟨g8,h⟩:=pO h;refine gDn g8 ?_;refine goL ?_;refine jK (kD y3 (by omega)) ?_;exact⟨(y3+1),(y1++[(gB.mk ac ad ae)]),(v2+1),h,by omega,eJ⟩
 ·have y:=vG c5;rw [jH y,yJ.eq_1] at h;refine goX ?_;refine jG ?_;obtain rfl:=Option.some.inj h;exact gOs
mutual
def gLb:Nat→(List gV)→gB→Option (gB)
 | 0,_,_=>none
 | n+1,c,f=>gO4 (gLb n) (gG5 n) c f
def gG5:Nat→(List gV)→(List gB)→Option (List gB)
 | 0,_,_=>none
 | n+1,c,f=>gJg (gLb n) (gG5 n) c f
end
theorem hDc:∀(n:Nat),gO5 (gLb n)∧gLy (gG5 n):=by
 intro n
 induction n with
 | zero=>exact⟨(by intro c f r h;cases h),(by intro c f r h;cases h)⟩
 | succ n ih=>
   obtain⟨ih0,ih1⟩:=ih;refine⟨(fun c f r h=>hGd ih0 ih1 c f h),(fun c f r h=>gW2 ih0 ih1 c f h)⟩
theorem hGe:∀(n:Nat),gO5 (gLb n):=fun n=>(hDc n).1
def lkp(v:LB):List gV→gB × Bool
 | []=>(⟨0,[],[]⟩,false)
 | b::l=>cnd (b.var_==v) (b.type_,true) (lkp v l)
def bok(l:List gV):Prop:=∀b∈l,tok b.type_
instance (l:List gV):Decidable (bok l):=inferInstanceAs (Decidable (∀b∈l,tok b.type_))
theorem gTx(k:Int)(n:LB):tok ⟨k,n,[]⟩:=by simp [tok,gVx]
theorem gQ6{v:LB}:∀{l:List gV},(lkp v l).2=true→∃b∈l,b.var_=v∧(lkp v l).1=b.type_
 | [],h=>by cases h
 | b::l,h=>by
   simp only [lkp] at h ⊢;cases hb:b.var_==v with
   | true=>exact⟨b,by simp,by simpa using hb,rfl⟩
   | false=>
     rw [hb] at h;obtain⟨c,f,q,y⟩:=gQ6 (l:=l) h;exact⟨c,by simp [f],q,y⟩
theorem hDd{v:LB}:∀{l:List gV},(lkp v l).2=false→(lkp v l).1=⟨0,[],[]⟩
 | [],h=>rfl
 | b::l,h=>by
   simp only [lkp] at h ⊢;cases hb:b.var_==v with
   | true=>rw [hb] at h;cases h
   | false=>rw [hb] at h;exact hDd (l:=l) h
theorem hJp{v:LB}{l:List gV}(h:bok l):tok (lkp v l).1:=by
 cases hb:(lkp v l).2 with
 | true=>
   obtain⟨b,c,_,f⟩:=gQ6 hb;rw [f];exact h b c
 | false=>rw [hDd hb];exact gTx _ _
mutual
def apT(l:List gV):gB→gB
 | ⟨k,n,ts⟩=>cnd (k==1) (cnd (lkp n l).2 (lkp n l).1 ⟨k,n,gSb l ts⟩) ⟨k,n,gSb l ts⟩
def gSb(l:List gV):List gB→List gB
 | []=>[]
 | a::ts=>apT l a::gSb l ts
end
theorem gO6(l:List gV):∀ts:List gB,gSb l ts=ts.map (apT l)
 | []=>rfl
 | a::ts=>by simp only [gSb,List.map_cons,gO6 l ts]
theorem hGf(l:List gV)(ts:List gB):(gSb l ts).length=ts.length:=by rw [gO6,List.length_map]
theorem gJh(v:LB):∀(l:List gV),bok l→gB4 v l=some (lkp v l)
 | [],_=>rfl
 | b::l,h=>by
   simp only [gB4,lkp];rw [uF (h b (by simp)),gJh v l (fun c hc=>h c (by simp [hc]))];cases b.var_==v<;>rfl
theorem gJi(v:LB):∀(l:List gV),bok l→gB5 v l=some (lkp v l)
 | [],_=>rfl
 | b::l,h=>by
   simp only [gB5,lkp];rw [uF (h b (by simp)),gJi v l (fun c hc=>h c (by simp [hc]))];cases b.var_==v<;>rfl
theorem gKw{rec:List gV→gB→Option gB}(l:List gV)(f:gB→gB):∀(xs:List gB)(k:Nat)(y:List gB),(∀x∈xs,rec l x=some (f x))→y.length=k+xs.length→yI rec l xs k y=some (y.take k++xs.map f)
 | [],k,y,_,h=>by
   simp only [yI,List.map_nil,List.append_nil];rw [List.take_of_length_le (by simp at h;omega)]
 | x::xs,k,y,c,q=>by
   simp only [yI];rw [c x (by simp)];simp only [bnd,List.length_cons] at q ⊢;rw [uF (by omega),gKw l f xs (k+1) _ (fun z hz=>c z (by simp [hz])) (by simp;omega),gM1 (by omega)];simp
theorem gVq:∀(n:Nat),(∀(l:List gV)(t:gB),bok l→tok t→2*tnd t≤n→gLa n l t=some (apT l t))∧(∀(l:List gV)(ts:List gB),bok l→gZn ts→2*gGj ts+1≤n→gG4 n l ts=some (gSb l ts))
 | 0=>⟨fun _ t _ _ h=>by have:=gI9 t;omega,fun _ ts _ _ h=>by omega⟩
 | n+1=>by
   obtain⟨c,f⟩:=gVq n;refine⟨fun l t hl ht hn=>?_,fun l ts hl ht hn=>?_⟩
   ·obtain⟨k,s,ts⟩:=t;simp only [tnd] at hn;simp only [gLa,gO2,gIj,apT];rw [f l ts hl (by simpa only [tok,gZn] using ht) (by omega),gJh s l hl];simp only [bnd];cases k==1<;>cases (lkp s l).2<;>rfl
   ·simp only [gG4,gJf];rw [uF ht.1,gKw l (apT l) ts 0 _ (fun x hx=>c l x hl (gI7.1 ht.2 x hx) (by have:=gI8 hx;omega)) (by simp)];simp [gO6]
theorem gKx{rec:List gV→gB→Option gB}(l:List gV)(f:gB→gB):∀(xs:List gB)(y:List gB),(∀x∈xs,rec l x=some (f x))→y.length+xs.length≤4294967296→yJ rec l xs y=some (y++xs.map f)
 | [],y,_,h=>by simp [yJ]
 | x::xs,y,c,q=>by
   simp only [yJ];rw [c x (by simp)];simp only [bnd,List.length_cons,List.length_nil] at q ⊢;rw [uF (by omega),gKx l f xs _ (fun z hz=>c z (by simp [hz])) (by simp;omega)];simp
theorem gVr:∀(n:Nat),(∀(l:List gV)(t:gB),bok l→tok t→2*tnd t≤n→gLb n l t=some (apT l t))∧(∀(l:List gV)(ts:List gB),bok l→gZn ts→2*gGj ts+1≤n→gG5 n l ts=some (gSb l ts))
 | 0=>⟨fun _ t _ _ h=>by have:=gI9 t;omega,fun _ ts _ _ h=>by omega⟩
 | n+1=>by
   obtain⟨c,f⟩:=gVr n;refine⟨fun l t hl ht hn=>?_,fun l ts hl ht hn=>?_⟩
   ·obtain⟨k,s,ts⟩:=t;simp only [tnd] at hn;simp only [gLb,gO4,gIk,apT];rw [f l ts hl (by simpa only [tok,gZn] using ht) (by omega),gJi s l hl];simp only [bnd];cases k==1<;>cases (lkp s l).2<;>rfl
   ·simp only [gG5,gJg];rw [gKx l (apT l) ts _ (fun x hx=>c l x hl (gI7.1 ht.2 x hx) (by have:=gI8 hx;omega)) (by simpa using ht.1)];simp [gO6]
mutual
theorem hDf{l:List gV}(hl:bok l):∀(t:gB),tok t→tok (apT l t)
 | ⟨k,n,ts⟩,h=>by
   simp only [tok] at h;have f:=gYj hl ts h.2;have c:tok ⟨k,n,gSb l ts⟩:=by simp only [tok,hGf];exact⟨h.1,f⟩
   simp only [apT];cases k==1 with
   | false=>exact c
   | true=>
     simp only [jV];cases (lkp n l).2 with
     | false=>exact c
     | true=>exact hJp hl
theorem gYj{l:List gV}(hl:bok l):∀(ts:List gB),gVx ts→gVx (gSb l ts)
 | [],_=>by simp [gSb,gVx]
 | a::ts,h=>by
   simp only [gVx] at h;simp only [gSb,gVx];exact⟨hDf hl a h.1,gYj hl ts h.2⟩
end
def hOw(M:Nat)(l:List gV):Prop:=1≤M∧∀b∈l,tnd b.type_≤M
theorem hJq{M:Nat}{v:LB}{l:List gV}(h:hOw M l):tnd (lkp v l).1≤M:=by
 cases hb:(lkp v l).2 with
 | true=>
   obtain⟨b,c,_,f⟩:=gQ6 hb;rw [f];exact h.2 b c
 | false=>rw [hDd hb];simp only [tnd,gGj];exact h.1
mutual
theorem hDg{M:Nat}{l:List gV}(hl:hOw M l):∀(t:gB),tnd (apT l t)≤M*tnd t
 | ⟨k,n,ts⟩=>by
   have f:=gYk hl ts;have q:=hl.1;have c:tnd ⟨k,n,gSb l ts⟩≤M*(1+gGj ts):=by
    simp only [tnd,Nat.mul_add];omega
   have h:tnd (lkp n l).1≤M*(1+gGj ts):=by
    have:=hJq (v:=n) hl
    rw [Nat.mul_add];omega
   simp only [apT];cases k==1 with
   | false=>exact c
   | true=>
     simp only [jV];cases (lkp n l).2 with
     | false=>exact c
     | true=>exact h
theorem gYk{M:Nat}{l:List gV}(hl:hOw M l):∀(ts:List gB),gGj (gSb l ts)≤M*gGj ts
 | []=>by simp [gSb,gGj]
 | a::ts=>by
   have f:=hDg hl a;have c:=gYk hl ts;simp only [gSb,gGj,Nat.mul_add];omega
end
theorem gTy(f:List gV)(c:gB)(h:bok f∧tok c):mJ Tryz.prog 59 [.L 4 (jY f),.d (kZ c)] [37] [kZ (apT f c)]:=hGc (2*tnd c) f c ((gVq _).1 _ _ h.1 h.2 (Nat.le_refl _))
theorem hGg(f:List gV)(c:gB)(h:bok f∧tok c):mJ Tryz.prog 122 [.L 4 (jY f),.d (kZ c)] [37] [kZ (apT f c)]:=hGe (2*tnd c) f c ((gVr _).1 _ _ h.1 h.2 (Nat.le_refl _))
end Go.Proofs.YtfpdlnkkcnmebaaGreat
