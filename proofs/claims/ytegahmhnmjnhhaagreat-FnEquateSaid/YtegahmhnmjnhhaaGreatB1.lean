import Derived.Test.YtegahmhnmjnhhaaGreatZv
import Derived.Lib.ItoaLen
import Derived.Lib.AppendIntMem
import Derived.Lib.ItoaNum
set_option maxHeartbeats 4000000
set_option linter.unusedVariables false
set_option linter.unusedSimpArgs false
set_option linter.unusedSectionVars false
namespace Go.Proofs.YtegahmhnmjnhhaaGreat
open Go Go.Eng
attribute [local irreducible] V VO VQ VY Quiet QR gY kR Rng mU mW mG
theorem wrap_small{m:Int}(c: -4611686018427387904≤m)(f:m≤4611686018427387904):IntKind.i64.wrap m=m:=by
 exact qR m (by omega) (by omega)
mutual
theorem uN:∀(t:gB),tnd t≤4294967297→tsz t=tnd t
 | ⟨k,n,ts⟩,h=>by
   simp only [tnd] at h;simp only [tsz,tnd];rw [gT9 ts 1 (by omega) (by omega)];omega
theorem gT9:∀(ts:List gB)(y:Int),0≤y→y+gAb ts≤4294967297→hPm ts y=y+gAb ts
 | [],y,_,_=>by simp [hPm,gAb]
 | a::ts,y,c,h=>by
   simp only [gAb] at h;simp only [hPm,gAb];rw [uN a (by omega),wrap_small (by omega) (by omega),gT9 ts _ (by omega) (by omega)];omega
end
def gAv(c:(List gG)→gB→Option (Bool))(f:List gG):List gB→Option (Bool)
 | []=>(some false)
 | h::xs=>bnd (c f h) fun y=>
(cnd y (
(some true)) (
gAv c f xs ))
def gAw(c:(List gG)→gB→Option (Bool))(y:List gG):List gB→Option (Bool)
 | []=>(some false)
 | f::xs=>bnd (c y f) fun h=>
(cnd h (
(some true)) (
gAw c y xs ))
def gMa(c:(List gG)→gB→Option (Bool))(f:List gG)(a1:gB):Option (Bool):=
bnd (gGb a1) fun h=>
(cnd h (
bnd (gGa f a1.name) fun y=>
(cnd y.2 (
(some true)) (
gAv c f a1.args ))) (
gAw c f a1.args ))
theorem hEw{c:(List gG)→gB→Option (Bool)}(f:∀(x0:List gG)(x1:gB){r:Bool},c x0 x1=some r→gY Tryz.prog 84 [.L 4 (gP x0),.d (jS x1)] [.b r])(a0:List gG)(a1:gB){r:Bool}(h:gMa c a0 a1=some r):gY Tryz.prog 84 [.L 4 (gP a0),.d (jS a1)] [.b r]:=by
 obtain⟨aj,ad,y⟩:=a1;unfold gMa at h;refine SpI Tryz.func84 fun A _=>?_;refine goL ?_;obtain⟨x1,av,h⟩:=gM h;refine jI (gF (gO5 _ av)) ?_;refine kX (fun c2=>?_) (fun c2=>?_)
 ·replace h:=kD c2 h;refine goL ?_;obtain⟨⟨⟨ae,ag,ah⟩,bb⟩,ax,h⟩:=gM h;refine jI (gF ((gTr a0 ad ax).p)) ?_;refine kX (fun c4=>?_) (fun c4=>?_)
  ·replace h:=kD c4 h;exact goR h
  ·replace h:=kE c4 h;refine goS ?_;refine noB ?_;refine wJ 0 2 (fun z6=>?_);refine mV (fun(y5:Nat)=>⟨[(0,.L 4 (gP a0)),(3,.ptr 0 0),(7,.N y5)],[bTy aj ad y,bTy ae ag ah],Tryz.f84.ntmps⟩) (fun y5=>gAv c a0 (y.drop y5)  =some r) (fun y5=>y.length - y5) 0 eJ h ?_;rintro y5 h;refine goL ?_;refine kX (fun c7=>?_) (fun c7=>?_)
   ·have ac:=uR c7;obtain⟨x8,a4,ap⟩:=drop_at ac;rw [ap,gAv.eq_2] at h;obtain⟨bc,bd,be⟩:=x8;refine noS ?_;refine jY (jA ?_);refine goL ?_;refine jI (jJ y5 (zJ a4)) ?_;obtain⟨x9,a5,h⟩:=gM h;refine jI (gF (f _ _ a5)) ?_;refine kX (fun al=>?_) (fun al=>?_)
    ·replace h:=kD al h;exact goR h
    ·replace h:=kE al h;refine goS ?_;refine jI (jW y5 (by omega)) ?_;exact⟨(y5+1),h,by omega,eJ⟩
   ·have ac:=uS c7;rw [jC ac,gAv.eq_1] at h;refine goX ?_;refine jG ?_;cases h;exact qD
 ·replace h:=kE c2 h;refine goS ?_;refine noB ?_;refine wJ 0 2 (fun bg=>?_);refine mV (fun(aa:Nat)=>⟨[(0,.L 4 (gP a0)),(3,.ptr 0 0),(7,.N aa)],[bTy aj ad y],Tryz.f84.ntmps⟩) (fun aa=>gAw c a0 (y.drop aa)  =some r) (fun aa=>y.length - aa) 0 eJ h ?_;rintro aa h;refine goL ?_;refine kX (fun am=>?_) (fun am=>?_)
  ·have ab:=uR am;obtain⟨a6,aq,an⟩:=drop_at ab;rw [an,gAw.eq_2] at h;obtain⟨a7,a8,a9⟩:=a6;refine noS ?_;refine jY (jA ?_);refine goL ?_;refine jI (jJ aa (zJ aq)) ?_;obtain⟨bh,ar,h⟩:=gM h;refine jI (gF (f _ _ ar)) ?_;refine kX (fun ao=>?_) (fun ao=>?_)
   ·replace h:=kD ao h;exact goR h
   ·replace h:=kE ao h;refine goS ?_;refine jI (jW aa (by omega)) ?_;exact⟨(aa+1),h,by omega,eJ⟩
  ·have ab:=uS am;rw [jC ab,gAw.eq_1] at h;refine goX ?_;refine jG ?_;cases h;exact qD
def gJe:Nat→(List gG)→gB→Option (Bool)
 | 0,_,_=>none
 | n+1,c,f=>gMa (gJe n) c f
theorem hEx:∀(n:Nat)(c:List gG)(f:gB){r:Bool},gJe n c f=some r→gY Tryz.prog 84 [.L 4 (gP c),.d (jS f)] [.b r]:=by
 intro n
 induction n with
 | zero=>intro c f r h;cases h
 | succ n ih=>intro c f r h;exact hEw ih c f h
mutual
def gVa(p:LB→Bool):gB→Bool
 | ⟨k,n,ts⟩=>((k==1) && p n) || gGf p ts
def gGf(p:LB→Bool):List gB→Bool
 | []=>false
 | a::ts=>gVa p a || gGf p ts
end
theorem hEy(p:LB→Bool)(k:Int)(n:LB)(l:LS):(gM5 k n l).any p=(l.any p || ((k==1) && p n)):=by
 unfold gM5;by_cases hk:k=1
 ·by_cases hn:n∈l
  ·simp only [hn,not_true_eq_false,and_false,if_false,hk,beq_self_eq_true,Bool.true_and];cases h:p n with
   | false=>simp
   | true=>simp only [Bool.or_true];exact List.any_eq_true.2 ⟨n,hn,h⟩
  ·simp [hn,hk]
 ·simp [hk]
mutual
theorem gRr(p:LB→Bool):∀(t:gB)(l:LS),(gK3 t l).any p=(l.any p || gVa p t)
 | ⟨k,n,ts⟩,l=>by
   simp only [gK3,gVa];rw [gUa p ts,hEy,Bool.or_assoc]
theorem gUa(p:LB→Bool):∀(ts:List gB)(l:LS),(gI6 ts l).any p=(l.any p || gGf p ts)
 | [],l=>by simp [gI6,gGf]
 | a::ts,l=>by
   simp only [gI6,gGf];rw [gUa p ts,gRr p a,Bool.or_assoc]
end
def hasB(l:List gG)(s:LB):Bool:=l.any fun b=>b.var_==s
theorem hGk(v:LB):∀(l:List gG),(lkp v l).2=hasB l v
 | []=>rfl
 | b::l=>by
   simp only [lkp,hasB,List.any_cons];cases hb:b.var_==v with
   | true=>rfl
   | false=>
     simp only [gI,Bool.false_or];exact hGk v l
def zp(l:List gG)(s:LB):Bool:=isInf s && hasB l s
def zbd(l:List gG)(t:gB):Bool:=gVa (zp l) t
theorem gMz{rec:List gG→gB→Option Bool}{l:List gG}:∀(xs:List gB),(∀x∈xs,rec l x=some (zbd l x))→gAv rec l xs=some (gGf (zp l) xs)
 | [],_=>rfl
 | x::xs,h=>by
   simp only [gAv,h x (by simp),bnd,gGf];rw [gMz xs (fun y hy=>h y (by simp [hy]))];show cnd (gVa (zp l) x) _ _=_;cases gVa (zp l) x<;>rfl
theorem gM0{rec:List gG→gB→Option Bool}{l:List gG}:∀(xs:List gB),(∀x∈xs,rec l x=some (zbd l x))→gAw rec l xs=some (gGf (zp l) xs)
 | [],_=>rfl
 | x::xs,h=>by
   simp only [gAw,h x (by simp),bnd,gGf];rw [gM0 xs (fun y hy=>h y (by simp [hy]))];show cnd (gVa (zp l) x) _ _=_;cases gVa (zp l) x<;>rfl
theorem gRs:∀(n:Nat)(l:List gG)(t:gB),bok l→tnd t≤n→gJe n l t=some (zbd l t)
 | 0,l,⟨k,nm,ts⟩,_,h=>by simp only [tnd] at h;omega
 | n+1,l,⟨k,nm,ts⟩,hl,h=>by
   simp only [tnd] at h;have ih:∀x∈ts,gJe n l x=some (zbd l x):=fun x hx=>gRs n l x hl (by have:=yU hx;omega);simp only [gJe,gMa,gDx,bnd,gGa,gG2 nm l hl,gMz ts ih,gM0 ts ih,hGk];unfold zbd;simp only [gVa,zp];cases k==1<;>cases isInf nm<;>cases hasB l nm<;>rfl
theorem hEz(c:List gG)(f:gB)(h:bok c):gY Tryz.prog 84 [.L 4 (gP c),.d (jS f)] [.b (zbd c f)]:=hEx (tnd f) c f (gRs _ _ _ h (Nat.le_refl _))
def gDb(a0:gJ):Nat→Int→LB→(List gB)→Int→Option (gB)
 | 0,f,h,y,y6=>none
 | n7+1,f,h,y,y6=>bnd ((cnd (decide (y6 < 60)) (gd (bok a0.bindings) ((cnd (zbd a0.bindings (gB.mk f h y)) ((some (decide ((tsz (gB.mk f h y)) < 4000)))) ((some false))))) ((some false)))) fun b8=>
(cnd b8 (
gd (bok a0.bindings∧tok (gB.mk f h y)) (lt_ (apT a0.bindings (gB.mk f h y)) fun c=>
gDb a0 n7 c.kind c.name c.args (IntKind.i64.wrap (y6+1)))) (
(some (gB.mk f h y))))
def gQv(f:gJ)(a1:gB)(h:Nat):Option (gB):=
gd (tok a1) (lt_ (idT a1) fun c=>
gDb f h c.kind c.name c.args 0)
theorem hMx(a0:gJ)(a1:gB){n0:Nat}{r:gB}(h:gQv a0 a1 n0=some r):gY Tryz.prog 56 [.d (mJ a0),.d (jS a1)] [jS r]:=by
 obtain⟨f,y,aa,c,ab,ac,ad,ae⟩:=a0;obtain⟨ao,ap,aq⟩:=a1;unfold gQv at h;refine SpI Tryz.func56 fun A _=>?_;refine goL ?_;obtain⟨g1,h⟩:=mY h;obtain⟨⟨ar,au,av⟩,ay,h⟩:=qA h;have sx2:=(zT (gB.mk ao ap aq) g1).p;rw [ay] at sx2;refine jI (gF (sx2)) ?_;refine noB ?_;refine gWe (fun(n7:Nat)(y3:Int)(y4:LB)(y5:List gB)(y6:Int)=>⟨[(2,.ptr 0 0),(3,.ptr 1 0),(4,.ptr 2 0),(5,.I y6)],[bSt f y aa c ab ac ad ae,bTy y3 y4 y5,.box [.I 0,.S [],.nilsl]],Tryz.f56.ntmps⟩) (fun n7 y3 y4 y5 y6=>gDb (gJ.mk f y aa c ab ac ad ae) n7 y3 y4 y5 y6=some r) (fun n7 y3 y4 y5 y6=>n7) n0 ar au av 0 eJ h ?_;rintro n7 y3 y4 y5 y6 h;rcases n7 with _ | n7
 ·cases h
 rw [gDb.eq_2] at h;refine goL ?_;obtain⟨b8,hb8,h⟩:=gM h;refine jT ⟨[(2,.ptr 0 0),(3,.ptr 1 0),(4,.ptr 2 0),(5,.I y6),(20,.B b8)],[bSt f y aa c ab ac ad ae,bTy y3 y4 y5,.box [.I 0,.S [],.nilsl]],Tryz.f56.ntmps⟩ ?_ ?_
 ·refine gqA 10 hb8 (fun c9 hb8=>?_);obtain⟨a3,hb8⟩:=mY hb8;refine jI (gF (hEz c (gB.mk y3 y4 y5) a3)) ?_;refine gqA 16 hb8 (fun a8 hb8=>?_);refine jI (gF (gKp (gB.mk y3 y4 y5))) ?_;cases hb8;exact eJ
 refine goC h ?_ ?_<;>intro a9 h
 ·refine noS ?_;refine jY (jA ?_);refine goL ?_;obtain⟨a4,h⟩:=mY h;obtain⟨⟨al,am,an⟩,aw,h⟩:=qA h;have sx14:=(gW7 c (gB.mk y3 y4 y5) a4).p;rw [aw] at sx14;refine jI (gF (sx14)) ?_;refine jI (pU) ?_;exact⟨n7,al,am,an,(IntKind.i64.wrap (y6+1)),h,Nat.lt_succ_self _,eJ⟩
 ·refine goX ?_;refine jG ?_;cases h;exact qD
def zk(l:List gG):Nat→gB→gB
 | 0,t=>t
 | n+1,t=>cnd (zbd l t && decide (tsz t < 4000)) (zk l n (apT l t)) t
theorem gKt(t:gB)(h:tnd t≤4294967296):yS t=some (gK3 t []):=by
 unfold yS gG3;simp only [yZ];rw [mI (by simpa using h)];rfl
theorem gXc(t:gB):gB.mk t.kind t.name t.args=t:=by cases t;rfl
theorem gRt(s:gJ)(c:bok s.bindings):∀(n k:Nat)(t:gB),k+n=60→tok t→gDb s (n+1) t.kind t.name t.args (k:Int)=some (zk s.bindings n t)
 | 0,k,t,hk,_=>by
   obtain rfl:k=60:=by omega
   simp only [gDb,zk,gXc];rfl
 | n+1,k,t,hk,f=>by
   rw [gDb.eq_2,zk];simp only [gXc];have e0:decide ((k:Int) < 60)=true:=decide_eq_true (by omega);rw [e0,mI c,mI ⟨c,f⟩];have h:IntKind.i64.wrap ((k:Int)+1)=((k+1:Nat):Int):=by rw [wrap_small (by omega) (by omega)];omega
   have ih:=gRt s c n (k+1) (apT s.bindings t) (by omega) (hBt c t f);simp only [lt_,h,gT,ih];cases zbd s.bindings t<;>cases decide (tsz t < 4000)<;>rfl
def zkF(s:gJ)(t:gB):gB:=zk s.bindings 60 t
theorem hGl(s:gJ)(t:gB)(f:bok s.bindings)(c:tok t):gQv s t 61=some (zkF s t):=by
 unfold gQv;rw [mI c];exact gRt s f 60 0 t rfl c
theorem hBy(s:gJ)(t:gB)(h:bok s.bindings∧tok t):gY Tryz.prog 56 [.d (mJ s),.d (jS t)] [jS (zkF s t)]:=hMx s t (hGl s t h.1 h.2)
def gQw(f:gB→gB→(List gG)→Option (Bool × List gG))(c:(List gB)→(List gB)→(List gG)→Option (Bool × List gG))(p:gB)(t:gB)(l0:List gG):Option (Bool × List gG):=
(cnd (p.kind==1) (
bnd (gGa l0 p.name) fun y=>
(cnd y.2 (
(some ((teq y.1 t),l0))) (
gd (tok t) (lt_ (idT t) fun x6=>
gd (l0.length+[(gG.mk p.name x6)].length≤4294967296) (
(some (true,(l0++[(gG.mk p.name x6)])))))))) (
lt_ ((cnd (p.kind != t.kind) (true) ((cnd (!(p.name==t.name)) (true) (((p.args.length:Int) !=(t.args.length:Int))))))) fun b8=>
(cnd b8 (
(some (false,[]))) (
bnd (c p.args t.args l0) fun h=>
(cnd h.1 (
(some (true,h.2))) (
(some (false,[]))))))))
def gVb(c:gB→gB→(List gG)→Option (Bool × List gG)):Prop:=∀(f:gB)(h:gB)(y:List gG)(w0:Nat){r:Bool × List gG},c f h y=some r→Go.Eng.Spec Tryz.prog 240 [.d (jS f),.d (jS h),.sl 0 w0] [.arr 101 4 w0 (gP y)] (fun sv Lo=>∃(u'0 v'0:Nat)(j'0:List gG),(r.1=true∧sv=.tup [.sl 0 v'0,.B true]∧Lo=[.arr 101 4 v'0 (gP r.2)])∨(r.1=false∧sv=.tup [.sl 0 u'0,.B false]∧Lo=[.arr 101 4 v'0 (gP j'0)]))
def gVc(c:(List gB)→(List gB)→(List gG)→Option (Bool × List gG)):Prop:=∀(f:List gB)(h:List gB)(y:List gG)(w0:Nat){r:Bool × List gG},c f h y=some r→Go.Eng.Spec Tryz.prog 226 [.L 3 (jH f),.L 3 (jH h),.sl 0 w0] [.arr 101 4 w0 (gP y)] (fun sv Lo=>∃(u'0 v'0:Nat)(j'0:List gG),(r.1=true∧sv=.tup [.sl 0 v'0,.B true]∧Lo=[.arr 101 4 v'0 (gP r.2)])∨(r.1=false∧sv=.tup [.sl 0 u'0,.B false]∧Lo=[.arr 101 4 v'0 (gP j'0)]))
theorem hMy{c}{ab}(ak:gVb c)(ae:gVc ab)(p:gB)(t:gB)(l0:List gG)(v0:Nat){r:Bool × List gG}(h:gQw c ab p t l0=some r):Go.Eng.Spec Tryz.prog 240 [.d (jS p),.d (jS t),.sl 0 v0] [.arr 101 4 v0 (gP l0)] (fun sv Lo=>∃(u'0 v'0:Nat)(j'0:List gG),(r.1=true∧sv=.tup [.sl 0 v'0,.B true]∧Lo=[.arr 101 4 v'0 (gP r.2)])∨(r.1=false∧sv=.tup [.sl 0 u'0,.B false]∧Lo=[.arr 101 4 v'0 (gP j'0)])):=by
 obtain⟨am,aj,al⟩:=p;obtain⟨ag,ah,ad⟩:=t;unfold gQw at h;refine kF 1 Tryz.func240 rfl (by kernel_rfl) rfl rfl fun A _=>?_;refine goC h ?_ ?_<;>intro c1 h
 ·refine goL ?_;obtain⟨⟨⟨f,y,aa⟩,a6⟩,a0,h⟩:=gM h;refine gE3 (gTr l0 aj a0) ?_;refine goC h ?_ ?_<;>intro c3 h
  ·refine goL ?_;refine gBn (gV9 (gDw (gB.mk f y aa) (gB.mk ag ah ad))) ?_;refine jG ?_;obtain rfl:=Option.some.inj h;rcases Bool.eq_false_or_eq_true (teq (gB.mk f y aa) (gB.mk ag ah ad))with q4 | q4
   ·exact yK [.sl 0 v0,.d (.b (teq (gB.mk f y aa) (gB.mk ag ah ad)))] _ ⟨v0,v0,[],.inl ⟨q4,congrArg (fun z=>SV.tup [.sl 0 v0,.B z]) q4,rfl⟩⟩
   ·exact yK [.sl 0 v0,.d (.b (teq (gB.mk f y aa) (gB.mk ag ah ad)))] _ ⟨v0,v0,l0,.inr ⟨q4,congrArg (fun z=>SV.tup [.sl 0 v0,.B z]) q4,rfl⟩⟩
  ·refine noS ?_;refine jK (P:=Tryz.prog) Mix.h [(0,true),(1,true),(2,true),(3,true),(4,false),(5,true),(6,false),(7,false),(8,true),(9,true)] (by kernel_rfl) ?_;refine goY ?_;obtain⟨g5,h⟩:=mY h;obtain⟨⟨au,av,aw⟩,a3,h⟩:=qA h;have sx6:=zT (gB.mk ag ah ad) g5;rw [a3] at sx6;refine gMy (sx6) ?_;refine goY ?_;refine gKa 5 rfl rfl ?_;refine qE (T:=28) (us:=gP [(gG.mk aj (gB.mk au av aw))]) ?_;obtain⟨g7,h⟩:=mY h;refine pW (T:=28) g7 ?_;refine goY ?_;refine kQ ?_;refine goL ?_;refine jG ?_;obtain rfl:=Option.some.inj h;exact yK [.sl 0 (v0+1),.B true] _ ⟨(v0+1),(v0+1),[],.inl ⟨rfl,rfl,rfl⟩⟩
 ·refine goS ?_;obtain⟨b8,hb8,h⟩:=qA h;refine jT ⟨[(2,.sl 0 v0),(3,.ptr 1 0),(4,.ptr 2 0),(53,.B b8)],[.arr 101 4 v0 (gP l0),bTy am aj al,bTy ag ah ad],Tryz.f240.ntmps⟩ ?_ ?_
  ·refine uD 38 (fun c9=>?_) (fun c9=>?_) (by first | rfl | (simp only [jE,gU];rfl))
   ·replace hb8:=kD c9 hb8;refine goL ?_;cases hb8;exact⟨rfl,⟨⟨rfl,rfl⟩,⟨rfl,rfl⟩,⟨rfl,rfl⟩,⟨by first | rfl | (simp only [jE,gU];rfl),rfl⟩,trivial⟩,⟨_,rfl⟩,rfl⟩
   ·replace hb8:=kE c9 hb8;refine goL ?_;refine uD 45 (fun an=>?_) (fun an=>?_) (by first | rfl | (simp only [jE,gU];rfl))
    ·replace hb8:=kD an hb8;refine goL ?_;cases hb8;exact⟨rfl,⟨⟨rfl,rfl⟩,⟨rfl,rfl⟩,⟨rfl,rfl⟩,⟨by first | rfl | (simp only [jE,gU];rfl),rfl⟩,trivial⟩,⟨_,rfl⟩,rfl⟩
    ·replace hb8:=kE an hb8;refine goL ?_;cases hb8;exact⟨rfl,⟨⟨rfl,rfl⟩,⟨rfl,rfl⟩,⟨rfl,rfl⟩,⟨by first | rfl | (simp only [jE,gU];rfl),rfl⟩,trivial⟩,⟨_,rfl⟩,rfl⟩
  refine goC h ?_ ?_<;>intro ba h
  ·refine goL ?_;refine jG ?_;obtain rfl:=Option.some.inj h;exact yK [.sl 0 v0,.B false] _ ⟨v0,v0,l0,.inr ⟨rfl,rfl,rfl⟩⟩
  ·refine goS ?_;obtain⟨⟨a5,ao⟩,ax,h⟩:=gM h;refine yJ [0] (ae al ad l0 v0 ax) ?_;rintro _ _ ⟨ap,ai,ay,⟨aq,rfl,rfl⟩ | ⟨aq,rfl,rfl⟩⟩
   ·replace h:=kD aq h;show VO _ _ _ _ ⟨(_,.tup [.sl 0 ai,.B true])::_,[.arr 101 4 ai (gP ao),bTy am aj al,bTy ag ah ad],_⟩ _;refine goL ?_;refine jG ?_;obtain rfl:=Option.some.inj h;exact yK [.sl 0 ai,.B true] _ ⟨ai,ai,[],.inl ⟨rfl,rfl,rfl⟩⟩
   ·replace h:=kE aq h;show VO _ _ _ _ ⟨(_,.tup [.sl 0 ap,.B false])::_,[.arr 101 4 ai (gP ay),bTy am aj al,bTy ag ah ad],_⟩ _;refine goL ?_;refine jG ?_;obtain rfl:=Option.some.inj h;exact yK [.sl 0 ap,.B false] _ ⟨ap,ai,ay,.inr ⟨rfl,rfl,rfl⟩⟩
def gEt(c:gB→gB→(List gG)→Option (Bool × List gG))(all:List gB):List gB→Nat→(List gG)→Option (Bool × List gG)
 | [],f,h=>(some (true,h))
 | x6::xs,f,h=>bnd (at? all (f:Int)) fun x7=>
bnd (c x6 x7 h) fun y=>
(cnd y.1 (
gEt c all xs (f+1) y.2) (
(some (false,[]))))
def gVd(c:gB→gB→(List gG)→Option (Bool × List gG))(f:(List gB)→(List gB)→(List gG)→Option (Bool × List gG))(p:List gB)(all:List gB)(l0:List gG):Option (Bool × List gG):=
gEt c all p 0 l0
theorem hRn{c}{f}(y:gVb c)(ad:gVc f)(p:List gB)(all:List gB)(l0:List gG)(v0:Nat){r:Bool × List gG}(h:gVd c f p all l0=some r):Go.Eng.Spec Tryz.prog 226 [.L 3 (jH p),.L 3 (jH all),.sl 0 v0] [.arr 101 4 v0 (gP l0)] (fun sv Lo=>∃(u'0 v'0:Nat)(j'0:List gG),(r.1=true∧sv=.tup [.sl 0 v'0,.B true]∧Lo=[.arr 101 4 v'0 (gP r.2)])∨(r.1=false∧sv=.tup [.sl 0 u'0,.B false]∧Lo=[.arr 101 4 v'0 (gP j'0)])):=by
 unfold gVd at h;refine kF 1 Tryz.func226 rfl (by kernel_rfl) rfl rfl fun A _=>?_;refine goL ?_;refine noB ?_;refine gB0 0 (fun z4=>?_);refine kS (fun(y3:Nat)(y1:List gG)(v2:Nat)=>⟨[(0,.L 3 (jH p)),(1,.L 3 (jH all)),(2,.sl 0 v2),(8,.N y3)],[.arr 101 4 v2 (gP y1)],Tryz.f226.ntmps⟩) (fun y3 y1 v2=>gEt c all (p.drop y3) y3 y1=some r) (fun y3 y1 v2=>p.length - y3) 0 l0 v0 eJ h ?_;rintro y3 y1 v2 h;refine goL ?_;refine kX (fun c5=>?_) (fun c5=>?_)
 ·have aa:=uR c5;obtain⟨x6,aw,ai⟩:=drop_at aa;rw [ai,gEt.eq_2] at h;obtain⟨aj,ak,al⟩:=x6;refine noS ?_;refine jY (jA ?_);refine jK (P:=Tryz.prog) Mix.h [(0,true),(1,true),(2,true),(3,true),(4,true),(5,true),(6,true),(7,true),(8,true),(9,false),(10,true),(11,true),(12,true),(13,true),(14,true)] (by kernel_rfl) ?_;refine goY ?_;refine jF rfl (jJ y3 (zJ aw)) ?_;refine goY ?_;obtain⟨x7,am,h⟩:=gM h;rw [zI] at am;obtain⟨an,ao,ap⟩:=x7;refine jF rfl (jJ y3 (zJ am)) ?_;refine goY ?_;obtain⟨⟨a0,ae⟩,ax,h⟩:=gM h;refine gS1 [0] (y (gB.mk aj ak al) (gB.mk an ao ap) y1 v2 ax) ?_;rintro _ _ ⟨ay,v9,ar,⟨ag,rfl,rfl⟩ | ⟨ag,rfl,rfl⟩⟩
  ·replace h:=kD ag h;refine gQe (sv:=.tup [.sl 0 v9,.B true]) (L':=[.arr 101 4 v9 (gP ae)]) (by repeat(first | exact uY.nil | (apply uY.keep;focus ((repeat constructor);done)) | (apply uY.dep;focus kernel_rfl))) ?_;refine goY ?_;refine kQ ?_;refine goL ?_;refine jA8 ?_;refine goS ?_;refine jI (jW y3 (by omega)) ?_;exact⟨(y3+1),ae,v9,h,by omega,eJ⟩
  ·replace h:=kE ag h;refine gQe (sv:=.tup [.sl 0 ay,.B false]) (L':=[.arr 101 4 v9 (gP ar)]) (by repeat(first | exact uY.nil | (apply uY.keep;focus ((repeat constructor);done)) | (apply uY.dep;focus kernel_rfl))) ?_;refine goY ?_;refine kQ ?_;refine goL ?_;refine hYg ?_;refine goL ?_;refine jG ?_;obtain rfl:=Option.some.inj h;exact yK [.sl 0 v2,.B false] _ ⟨v2,v9,ar,.inr ⟨rfl,rfl,rfl⟩⟩
 ·have aa:=uS c5;rw [jC aa,gEt.eq_1] at h;refine goX ?_;refine jG ?_;obtain rfl:=Option.some.inj h;exact yK [.sl 0 v2,.B true] _ ⟨v2,v2,[],.inl ⟨rfl,rfl,rfl⟩⟩
mutual
def gJw:Nat→gB→gB→(List gG)→Option (Bool × List gG)
 | 0,_,_,_=>none
 | n+1,c,f,h=>gQw (gJw n) (gM7 n) c f h
def gM7:Nat→(List gB)→(List gB)→(List gG)→Option (Bool × List gG)
 | 0,_,_,_=>none
 | n+1,c,f,h=>gVd (gJw n) (gM7 n) c f h
end
theorem hGm:∀(n:Nat),gVb (gJw n)∧gVc (gM7 n):=by
 intro n
 induction n with
 | zero=>exact⟨(by intro c f y w0 r h;cases h),(by intro c f y w0 r h;cases h)⟩
 | succ n ih=>
   obtain⟨ih0,ih1⟩:=ih;refine⟨(fun c f y w0 r h=>hMy ih0 ih1 c f y w0 h),(fun c f y w0 r h=>hRn ih0 ih1 c f y w0 h)⟩
theorem hRo:∀(n:Nat),gVc (gM7 n):=fun n=>(hGm n).2
def gHc(c:List gB)(a1:List gB):Option (List gG × Bool):=
(cnd ((c.length:Int) !=(a1.length:Int)) (
(some ([],false))) (
bnd (gM7 100000 c a1 []) fun f=>
(cnd f.1 (
(some (f.2,true))) (
(some ([],false))))))
theorem gZq(f:List gB)(a1:List gB){r:List gG × Bool}(h:gHc f a1=some r):gY Tryz.prog 197 [.L 3 (jH f),.L 3 (jH a1)] [.sl 4 (gP r.1),.b r.2]:=by
 unfold gHc at h;refine SpI Tryz.func197 fun A _=>?_;refine goC h ?_ ?_<;>intro c1 h
 ·refine goL ?_;refine gAp ?_;refine goL ?_;refine kP 0 rfl rfl ?_;refine jG ?_;cases h;exact qD
 ·refine goS ?_;refine gAp ?_;obtain⟨⟨ac,c⟩,y,h⟩:=gM h;refine yJ [0] (hRo 100000 f a1 [] 0 y) ?_;rintro _ _ ⟨u4,v3,j5,⟨q6,rfl,rfl⟩ | ⟨q6,rfl,rfl⟩⟩
  ·replace h:=kD q6 h;show VO _ _ _ _ ⟨(_,.tup [.sl 0 v3,.B true])::_,[.arr 101 4 v3 (gP c)],_⟩ _;refine goL ?_;refine jA8 ?_;refine goS ?_;refine kP 0 rfl rfl ?_;refine jG ?_;cases h;exact qD
  ·replace h:=kE q6 h;show VO _ _ _ _ ⟨(_,.tup [.sl 0 u4,.B false])::_,[.arr 101 4 v3 (gP j5)],_⟩ _;refine goL ?_;refine hYg ?_;refine goL ?_;refine gAp ?_;refine goL ?_;refine kP 1 rfl rfl ?_;refine jG ?_;cases h;exact qD
def gFj(f:gB)(a1:gB):Option (List gG × Bool):=
bnd (gHc [f] [a1]) fun c=>
(some (c.1,c.2))
theorem gRu(a0:gB)(a1:gB){r:List gG × Bool}(h:gFj a0 a1=some r):gY Tryz.prog 161 [.d (jS a0),.d (jS a1)] [.sl 4 (gP r.1),.b r.2]:=by
 obtain⟨c,f,y⟩:=a0;obtain⟨aa,ab,ac⟩:=a1;unfold gFj at h;refine SpI Tryz.func161 fun A _=>?_;refine goL ?_;refine gAo (u:=(.st [.i .i64 c,.s f,.sl 3 (jH y)])) ?_;refine goL ?_;refine gAo (u:=(.st [.i .i64 aa,.s ab,.sl 3 (jH ac)])) ?_;refine uZ 2 rfl rfl ?_;refine uZ 3 rfl rfl ?_;obtain⟨⟨ag,ah⟩,ae,h⟩:=gM h;refine zZ (hJi (gZq [(gB.mk c f y)] [(gB.mk aa ab ac)] ae)) ?_;exact goR h
def gBg(c:gB)(a1:gB):Option (Bool):=
bnd (gFj c a1) fun f=>
(some f.2)
theorem gUb(c:gB)(a1:gB){r:Bool}(h:gBg c a1=some r):gY Tryz.prog 250 [.d (jS c),.d (jS a1)] [.b r]:=by
 obtain⟨y,aa,ab⟩:=c;obtain⟨ac,ad,ae⟩:=a1;unfold gBg at h;refine SpI Tryz.func250 fun A _=>?_;refine goL ?_;obtain⟨⟨ag,ah⟩,f,h⟩:=gM h;refine qK (gF (gRu _ _ f)) ?_;exact goR h
mutual
def tvs:gB→LS
 | ⟨k,n,ts⟩=>(if k=1 then [n] else [])++gGc ts
def gGc:List gB→LS
 | []=>[]
 | a::ts=>tvs a++gGc ts
end
theorem gNv{v:LB}:∀{ts:List gB},v∈gGc ts↔∃t∈ts,v∈tvs t
 | []=>by simp [gGc]
 | a::ts=>by simp [gGc,gNv (ts:=ts)]
mutual
theorem gZr:∀(t:gB),(tvs t).length≤tnd t
 | ⟨k,n,ts⟩=>by
   have:=hBz ts
   simp only [tvs,tnd,List.length_append]
   split<;>simp<;>omega
theorem hBz:∀(ts:List gB),(gGc ts).length≤gAb ts
 | []=>by simp [gGc]
 | a::ts=>by
   have c:=gZr a;have f:=hBz ts;simp only [gGc,gAb,List.length_append];omega
end
def dom(l:List gG):LS:=l.map gG.var_
theorem hGo{v:LB}{l:List gG}(h:v∈dom l):(lkp v l).2=true:=by
 cases hb:(lkp v l).2 with
 | true=>rfl
 | false=>
   exfalso
   induction l with
   | nil=>simp [dom] at h
   | cons b l ih=>
     simp only [lkp] at hb;by_cases e:b.var_=v
     ·subst e;simp [gT] at hb
     ·rw [beq_false_of_ne e] at hb;simp only [dom,List.map_cons,List.mem_cons] at h;exact ih (h.resolve_left (fun e'=>e e'.symm)) hb
mutual
def mtT:gB→gB→List gG→Option (List gG)
 | ⟨k,n,ps⟩,t,l=>cnd (k==1) (cnd (lkp n l).2 (cnd (teq (lkp n l).1 t) (some l) none) (some (l++[⟨n,t⟩])))
   (cnd (cnd (k != t.kind) true (cnd (!(n==t.name)) true ((ps.length:Int) !=(t.args.length:Int)))) none (gZo ps t.args l))
def gZo:List gB→List gB→List gG→Option (List gG)
 | [],_,l=>some l
 | _::_,[],_=>none
 | p::ps,t::ts,l=>bnd (mtT p t l) fun l'=>gZo ps ts l'
end
def Agr:Option (List gG)→Bool × List gG→Prop
 | none,q=>q.1=false
 | some l,q=>q=(true,l)
mutual
theorem gZs{Q:gB→Prop}(hQ:∀x,Q x→∀y∈x.args,Q y):∀(p t:gB)(l l':List gG),Q t→(∀b∈l,Q b.type_)→mtT p t l=some l'→(∀b∈l',Q b.type_)∧l'.length≤l.length+tnd p
 | ⟨k,n,ps⟩,t,l,l',ht,hl,h=>by
   simp only [mtT] at h;simp only [tnd];cases hk:(k==1)with
   | true=>
     simp only [hk,gT] at h;cases hb:(lkp n l).2 with
     | true=>
       simp only [hb,gT] at h;cases he:teq (lkp n l).1 t with
       | true=>simp only [he,gT,Option.some.injEq] at h;subst h;exact⟨hl,by omega⟩
       | false=>simp [he,gI] at h
     | false=>
       simp only [hb,gI,Option.some.injEq] at h;subst h;refine⟨fun b hb'=>?_,by simp only [List.length_append,List.length_cons,List.length_nil];omega⟩;rcases List.mem_append.1 hb' with hb' | hb'
       ·exact hl b hb'
       ·simp only [List.mem_singleton] at hb';subst hb';exact ht
   | false=>
     simp only [hk,gI] at h;cases hc:(cnd (k != t.kind) true (cnd (!(n==t.name)) true ((ps.length:Int) !=(t.args.length:Int))))with
     | true=>simp [hc,gT] at h
     | false=>
       simp only [hc,gI] at h
       have:=hB5 hQ ps t.args l l' (hQ t ht) hl h
       exact⟨this.1,by omega⟩
theorem hB5{Q:gB→Prop}(hQ:∀x,Q x→∀y∈x.args,Q y):∀(ps ts:List gB)(l l':List gG),(∀t∈ts,Q t)→(∀b∈l,Q b.type_)→gZo ps ts l=some l'→(∀b∈l',Q b.type_)∧l'.length≤l.length+gAb ps
 | [],_,l,l',_,hl,h=>by simp only [gZo,Option.some.injEq] at h;subst h;exact⟨hl,by simp⟩
 | _::_,[],_,_,_,_,h=>by simp [gZo] at h
 | p::ps,t::ts,l,l',ht,hl,h=>by
   simp only [gZo] at h;obtain⟨c,f,h2⟩:=gM h;obtain⟨q1,q2⟩:=gZs hQ p t l c (ht t (by simp)) hl f;obtain⟨q3,q4⟩:=hB5 hQ ps ts c l' (fun t h=>ht t (by simp [h])) q1 h2;simp only [gAb];exact⟨q3,by omega⟩
end
theorem hMz:∀x,tok x→∀y∈x.args,tok y:=fun x hx y hy=>by
 obtain⟨k,n,ts⟩:=x;simp only [tok] at hx;exact gIy.1 hx.2 y hy
theorem gUc{n:Nat}(ih:∀(p t:gB)(l:List gG),2*tnd p≤n→bok l→tok t→l.length+tnd p≤4000000→∃q,gJw n p t l=some q∧Agr (mtT p t l) q)(all:List gB)(hall:∀t∈all,tok t) :
  ∀(xs:List gB)(k:Nat)(l:List gG),2*gAb xs≤n→bok l→all.length=k+xs.length→l.length+gAb xs≤4000000→∃q,gEt (gJw n) all xs k l=some q∧Agr (gZo xs (all.drop k) l) q
 | [],k,l,_,_,h,_=>⟨_,rfl,rfl⟩
 | x::xs,k,l,hn,hb,h,hl=>by
   simp only [List.length_cons] at h;simp only [gAb] at hn hl;have hk:k < all.length:=by omega
   have hx:all[k]? =some all[k]:=List.getElem?_eq_getElem hk;obtain⟨q,e1,c⟩:=ih x all[k] l (by omega) hb (hall _ (List.getElem_mem hk)) (by omega);rw [gEt.eq_2,zI,hx,List.drop_eq_getElem_cons hk];simp only [bnd,e1,gZo];cases hm:mtT x all[k] l with
   | none=>
     rw [hm] at c;have f:q.1=false:=c;simp only [f,gI];exact⟨_,rfl,rfl⟩
   | some y=>
     rw [hm] at c;have f:q=(true,y):=c;subst f;simp only [gT];obtain⟨r1,r2⟩:=gZs hMz x all[k] l y (hall _ (List.getElem_mem hk)) hb hm;exact gUc ih all hall xs (k+1) y (by omega) r1 (by omega) (by omega)
theorem gRv:∀(n:Nat),(∀(p t:gB)(l:List gG),2*tnd p≤n→bok l→tok t→l.length+tnd p≤4000000→∃q,gJw n p t l=some q∧Agr (mtT p t l) q)∧
  (∀(ps ts:List gB)(l:List gG),2*gAb ps+1≤n→bok l→(∀t∈ts,tok t)→ts.length=ps.length→l.length+gAb ps≤4000000→∃q,gM7 n ps ts l=some q∧Agr (gZo ps ts l) q)
 | 0=>⟨fun p t l h=>by have:=gBs p;omega,fun ps ts l h=>by omega⟩
 | n+1=>by
   obtain⟨ih1,ih2⟩:=gRv n;refine⟨fun p t l hn hb ht hl=>?_,fun ps ts l hn hb ht hlen hl=>?_⟩
   ·obtain⟨k,nm,ps⟩:=p;simp only [tnd] at hn hl;rw [gJw.eq_2];unfold gQw;simp only [lt_,idT,mtT];cases hk:(k==1)with
    | true=>
      simp only [gT];have hlk:gGa l nm=some (lkp nm l):=gG2 nm l hb;rw [jO hlk];cases (lkp nm l).2 with
      | true=>
        simp only [gT];refine⟨_,rfl,?_⟩;cases teq (lkp nm l).1 t<;>rfl
      | false=>
        simp only [gI];rw [mI ht,mI (by simp;omega)];exact⟨_,rfl,rfl⟩
    | false=>
      simp only [gI];cases c:(cnd (k != t.kind) true (cnd (!(nm==t.name)) true ((ps.length:Int) !=(t.args.length:Int))))with
      | true=>simp only [gT];exact⟨_,rfl,rfl⟩
      | false=>
        simp only [gI];have hlen:t.args.length=ps.length:=by
         cases h2:(k != t.kind)with
         | true=>rw [h2] at c;simp [gT] at c
         | false=>
           rw [h2] at c;simp only [gI] at c;cases h3:(!(nm==t.name))with
           | true=>rw [h3] at c;simp [gT] at c
           | false=>
             rw [h3] at c;simp only [gI] at c
             have:((ps.length:Int))=t.args.length:=by simpa using c
             omega
        obtain⟨q,e1,f⟩:=ih2 ps t.args l (by omega) hb (hMz t ht) hlen (by omega);rw [jO e1];cases hm:gZo ps t.args l with
        | none=>
          rw [hm] at f;have y:q.1=false:=f;simp only [y,gI];exact⟨_,rfl,rfl⟩
        | some l1=>
          rw [hm] at f;have y:q=(true,l1):=f;subst y;exact⟨_,rfl,rfl⟩
   ·rw [gM7.eq_2];unfold gVd
    have:=gUc ih1 ts ht ps 0 l (by omega) hb (by omega) (by omega)
    rwa [List.drop_zero] at this
theorem gJx(p t:gB)(hp:tnd p≤40000)(ht:tok t):gBg p t=some (mtT p t []).isSome:=by
 obtain⟨q,h,c⟩:=(gRv 100000).2 [p] [t] [] (by simp only [gAb];omega) (fun b hb=>by simp at hb) (by simpa using ht) rfl (by simp [gAb];omega);have y:((([p]:List gB).length:Int) !=(([t]:List gB).length:Int))=false:=by simp
 unfold gBg gFj gHc;rw [y,gI,jO h];simp only [gZo] at c;cases hm:mtT p t [] with
 | none=>
   rw [hm] at c;have f:q.1=false:=c;rw [f];rfl
 | some l=>
   rw [hm] at c;have f:q=(true,l):=c;subst f;rfl
end Go.Proofs.YtegahmhnmjnhhaaGreat
namespace Go.Proofs.YtegahmhnmjnhhaaGreat
open Go Go.Eng Go.RowKit
attribute [local irreducible] V VO VQ VY Quiet QR gY kR Rng mU mW mG
instance (n:Int):Decidable (gGi n):=inferInstanceAs (Decidable (_∧_))
def dgs(u:Nat):LB:=if u=0 then [] else Lib.decDigits u
theorem hM3{u:Nat}(h:u≠0):dgs u=dgs (u / 10)++[UInt8.ofNat (48+u % 10)]:=by
 unfold dgs;rw [if_neg h,Lib.decDigits];by_cases c:u < 10
 ·rw [dif_pos c,if_pos (by omega),Nat.mod_eq_of_lt c];rfl
 ·rw [dif_neg c,if_neg (by omega)]
theorem hRp{n:Int}(h:gGi n):(dgs n.natAbs).length≤21:=by
 unfold dgs;split
 ·simp
 ·have:=Lib.itoa_length_le n h.1 h.2
  unfold Lib.itoa at this;split at this
  ·simp at this;omega
  ·have e:n.natAbs=n.toNat:=by omega
   rw [e];exact this
theorem itoa_neg{n:Int}(h:n < 0):Lib.itoa n=45::dgs n.natAbs:=by unfold Lib.itoa dgs;rw [if_pos h,if_neg (by omega)]
theorem hM4{n:Int}(h:0 < n):Lib.itoa n=dgs n.natAbs:=by unfold Lib.itoa dgs;rw [if_neg (by omega),if_neg (by omega)];congr 1;omega
theorem hGp:Lib.itoa 0=[48]:=by unfold Lib.itoa;rw [if_neg (by omega),Lib.decDigits];rfl
theorem hGq{m:Int}(h:m.tmod 10 < 0):IntKind.i64.wrap (0 - m.tmod 10)=((m.natAbs % 10:Nat):Int):=by
 have e:m.tmod 10= -((m.natAbs % 10:Nat):Int):=by
  rcases Int.natAbs_eq m with c | c
  ·rw [c] at h
   have:=Int.tmod_nonneg (a:=(m.natAbs:Int)) 10 (by omega)
   omega
  ·conv=>lhs;rw [c]
   rw [Int.neg_tmod]
   have:((m.natAbs:Int)).tmod 10=((m.natAbs % 10:Nat):Int):=by rw [show (10:Int)=((10:Nat):Int)from rfl,←Int.ofNat_tmod];
   rw [this]
 rw [e,qR _ (by omega) (by omega)];omega
theorem hGr{m:Int}(h:¬m.tmod 10 < 0):m.tmod 10=((m.natAbs % 10:Nat):Int):=by
 have key:((m.natAbs:Int)).tmod 10=((m.natAbs % 10:Nat):Int):=by rw [show (10:Int)=((10:Nat):Int)from rfl,←Int.ofNat_tmod]
 rcases Int.natAbs_eq m with c | c
 ·conv=>lhs;rw [c]
  exact key
 ·have e:m.tmod 10= -((m.natAbs % 10:Nat):Int):=by
   conv=>lhs;rw [c]
   rw [Int.neg_tmod,key]
  omega
theorem gVe(m:Int):(m.tdiv 10).natAbs=m.natAbs / 10:=by simp [Int.natAbs_tdiv];rfl
theorem gNw{m:Int}(h:gGi m):gGi (m.tdiv 10)∧IntKind.i64.wrap (m.tdiv 10)=m.tdiv 10:=by
 have:=gVe m
 have hr:gGi (m.tdiv 10):=by
  obtain⟨c,f⟩:=h;unfold gGi;omega
 exact⟨hr,qR _ hr.1 hr.2⟩
theorem byte_of(u:Nat):UInt8.ofNat (IntKind.u8.wrap (IntKind.i64.wrap (48+((u % 10:Nat):Int)))).toNat=UInt8.ofNat (48+u % 10):=by
 have:u % 10 < 10:=Nat.mod_lt _ (by decide)
 generalize u % 10=k at this
 match k,this with
 | 0,_ | 1,_ | 2,_ | 3,_ | 4,_ | 5,_ | 6,_ | 7,_ | 8,_ | 9,_=>rfl
theorem round_eq{n m:Int}{out:LB}(hm:m≠0)(h:dgs n.natAbs=dgs m.natAbs++out):dgs n.natAbs=dgs (m.tdiv 10).natAbs++([UInt8.ofNat (48+m.natAbs % 10)]++out):=by
 rw [h,hM3 (u:=m.natAbs) (by omega),gVe,List.append_assoc]
set_option maxHeartbeats 4000000 in
theorem gK6(n:Int)(hn:gGi n):gY Tryz.prog 39 [.d (.i .i64 n)] [.s (Lib.itoa n)]:=by
 refine gSl Tryz.func39 rfl (by kernel_rfl) rfl fun A _=>?_;refine goL ?_;refine kX (fun f=>?_) (fun f=>?_)
 ·have:n=0:=by simpa using f
  subst this;rw [hGp];refine goL ?_;refine jG ?_;exact qD
 refine gAn ?_;show V _ _ _ _ _;have hn0:n≠0:=by simpa using f
 refine goL ?_;refine jY (jA ?_);refine mV (fun(x:Int × LB)=>⟨[(0,.d (.i .i64 x.1)),(2,.d (.s [])),(3,.d (.b (decide (n < 0)))),(4,.d (.s x.2))],[],Tryz.f39.ntmps⟩) (fun x=>gGi x.1∧dgs n.natAbs=dgs x.1.natAbs++x.2) (fun x=>x.1.natAbs) (n,[]) ⟨rfl,⟨⟨rfl,rfl⟩,⟨rfl,rfl⟩,⟨rfl,rfl⟩,⟨rfl,rfl⟩,trivial⟩,⟨_,rfl⟩,rfl⟩ ⟨hn,by simp⟩ ?_;rintro⟨m,out⟩ ⟨hr,hd⟩;have hl:=hRp hn;have hol:out.length≤21:=by rw [hd] at hl;simp at hl;omega
 dsimp only;refine goL ?_;refine kX (fun h=>?_) (fun h=>?_)
 ·have hm:m≠0:=by simpa using h
  refine gAn ?_;show V _ _ _ _ _;refine jA ?_;refine goL ?_;refine zZ hWg ?_;refine goL ?_;refine kX (fun c=>?_) (fun c=>?_)
  ·have hd3:=hGq (of_decide_eq_true c);refine goL ?_;refine qK pU ?_;rw [hd3];refine goL ?_;refine qK pU ?_;refine goL ?_;refine zZ (hAd rfl Tryz.underlying3 Tryz.underlying5) ?_;refine goL ?_;refine hV8 (u:=.i .u8 _) ?_;refine zZ (hC5 rfl rfl Tryz.underlying22 Tryz.underlying5 Tryz.underlying9) ?_;rw [byte_of];refine goL ?_;refine qK (wK (a:=[_]) (b:=out) (by simp;omega)) ?_;refine goL ?_;refine zZ (hQj (gNw hr).2) ?_;refine goL ?_;exact⟨(m.tdiv 10,_),⟨(gNw hr).1,round_eq hm hd⟩,by have:=gVe m;simp only;omega,⟨rfl,⟨⟨rfl,rfl⟩,⟨rfl,rfl⟩,⟨rfl,rfl⟩,⟨rfl,rfl⟩,trivial⟩,⟨_,rfl⟩,rfl⟩⟩
  ·have hd3:=hGr (of_decide_eq_false c);refine gAn ?_;show V _ _ _ _ _;refine goL ?_;rw [hd3];refine qK pU ?_;refine goL ?_;refine zZ (hAd rfl Tryz.underlying3 Tryz.underlying5) ?_;refine goL ?_;refine hV8 (u:=.i .u8 _) ?_;refine zZ (hC5 rfl rfl Tryz.underlying22 Tryz.underlying5 Tryz.underlying9) ?_;rw [byte_of];refine goL ?_;refine qK (wK (a:=[_]) (b:=out) (by simp;omega)) ?_;refine goL ?_;refine zZ (hQj (gNw hr).2) ?_;refine goL ?_;exact⟨(m.tdiv 10,_),⟨(gNw hr).1,round_eq hm hd⟩,by have:=gVe m;simp only;omega,⟨rfl,⟨⟨rfl,rfl⟩,⟨rfl,rfl⟩,⟨rfl,rfl⟩,⟨rfl,rfl⟩,trivial⟩,⟨_,rfl⟩,rfl⟩⟩
 ·have hm:m=0:=by simpa using h
  subst hm;refine gSy ?_;show V _ _ _ _ _;refine goL ?_;simp [dgs] at hd;refine kX (fun c=>?_) (fun c=>?_)
  ·have y:=of_decide_eq_true c;rw [itoa_neg y,show dgs n.natAbs=out by simp [dgs,hd]];refine goL ?_;refine qK (wK (a:=[45]) (b:=out) (by simp;omega)) ?_;refine goL ?_;refine jG ?_;exact qD
  ·have y:=of_decide_eq_false c;rw [hM4 (by omega),show dgs n.natAbs=out by simp [dgs,hd]];refine gAn ?_;show V _ _ _ _ _;refine goL ?_;refine jG ?_;exact qD
end Go.Proofs.YtegahmhnmjnhhaaGreat
namespace Go.Proofs.YtegahmhnmjnhhaaGreat
open Go Go.Eng
attribute [local irreducible] V VO VQ VY Quiet QR gY kR Rng mU mW mG
def gEu(a1:LB):LS→Bool
 | []=>false
 | c::xs=>(cnd (c==a1) (
true) (
gEu a1 xs ))
def wM(c:LS)(a1:LB):Bool:=
gEu a1 c
theorem gGg(y:LS)(a1:LB):gY Tryz.prog 139 [.L 1 (jL y),.S a1] [.b (wM y a1)]:=by
 obtain⟨r,h⟩:∃r,wM y a1=r:=⟨_,rfl⟩
 rw [h];unfold wM at h;refine SpI Tryz.func139 fun A _=>?_;refine goL ?_;refine noB ?_;refine gB0 0 (fun z2=>?_);refine mV (fun(f:Nat)=>⟨[(0,.L 1 (jL y)),(1,.S a1),(5,.N f)],[],Tryz.f139.ntmps⟩) (fun f=>gEu a1 (y.drop f)  =r) (fun f=>y.length - f) 0 eJ h ?_;rintro f h;refine goL ?_;refine kX (fun c3=>?_) (fun c3=>?_)
 ·have c:=uR c3;obtain⟨x4,ac,aa⟩:=drop_at c;rw [aa,gEu.eq_2] at h;refine noS ?_;refine jY (jA ?_);refine goL ?_;refine jI (jJ f (gQr ac)) ?_;refine kX (fun c5=>?_) (fun c5=>?_)
  ·replace h:=kD c5 h;refine goL ?_;refine jG ?_;subst h;exact qD
  ·replace h:=kE c5 h;refine goS ?_;refine jI (jW f (by omega)) ?_;exact⟨(f+1),h,by omega,eJ⟩
 ·have c:=uS c3;rw [jC c,gEu.eq_1] at h;refine goX ?_;refine jG ?_;subst h;exact qD
def gDc(c:gB→LS→Option LS):List gB→LS→Option LS
 | [],f=>(some f)
 | h::xs,f=>bnd (c h f) fun y=>
gDc c xs y
def gDd(c:gB→LS→Option LS):List gB→LS→Option LS
 | [],f=>(some f)
 | h::xs,f=>bnd (c h f) fun y=>
gDd c xs y
def gQx(c:gB→LS→Option LS)(t:gB)(l0:LS):Option LS:=
lt_ ((cnd (t.kind==1) ((!(wM l0 t.name))) (false))) fun f=>
(cnd f (
gd (l0.length+[t.name].length≤4294967296) (
gDc c t.args (l0++[t.name]))) (
gDd c t.args l0))
theorem hM5{c:gB→LS→Option LS}(f:∀(x0:gB)(x1:LS)(w0:Nat){r:LS},c x0 x1=some r→Go.Eng.Spec Tryz.prog 242 [.d (jS x0),.sl 0 w0] [.own 9 1 w0 (jL x1)] (fun sv Lo=>∃v'0,sv=.sl 0 v'0∧Lo=[.own 9 1 v'0 (jL r)]))(t:gB)(l0:LS)(v0:Nat){r:LS}(h:gQx c t l0=some r):Go.Eng.Spec Tryz.prog 242 [.d (jS t),.sl 0 v0] [.own 9 1 v0 (jL l0)] (fun sv Lo=>∃v'0,sv=.sl 0 v'0∧Lo=[.own 9 1 v'0 (jL r)]):=by
 obtain⟨ah,ac,y⟩:=t;unfold gQx at h;refine kF 1 Tryz.func242 rfl (by kernel_rfl) rfl rfl fun A _=>?_;refine goL ?_;obtain⟨b1,hb1,h⟩:=qA h;refine jT ⟨[(1,.sl 0 v0),(2,.ptr 1 0),(15,.B b1)],[.own 9 1 v0 (jL l0),bTy ah ac y],Tryz.f242.ntmps⟩ ?_ ?_
 ·refine gqA 9 hb1 (fun c2 hb1=>?_);refine gBn (gV9 (gGg l0 ac)) ?_;cases hb1;exact eJ
 refine goC h ?_ ?_<;>intro c3 h
 ·refine goL ?_;refine gBc ac ?_;obtain⟨g4,h⟩:=mY h;refine gIe g4 ?_;refine goL ?_;refine noB ?_;refine wJ 1 2 (fun z8=>?_);refine kS (fun(y7:Nat)(y5:LS)(v6:Nat)=>⟨[(1,.sl 0 v6),(2,.ptr 1 0),(5,.N y7)],[.own 9 1 v6 (jL y5),bTy ah ac y,.dead 1],Tryz.f242.ntmps⟩) (fun y7 y5 v6=>gDc c (y.drop y7) y5=some r) (fun y7 y5 v6=>y.length - y7) 0 (l0++[ac]) (v0+1) eJ h ?_;rintro y7 y5 v6 h;refine goL ?_;refine kX (fun c9=>?_) (fun c9=>?_)
  ·have ae:=uR c9;obtain⟨a9,a0,ak⟩:=drop_at ae;rw [ak,gDc.eq_2] at h;obtain⟨al,am,an⟩:=a9;refine noS ?_;refine jY (jA ?_);refine goL ?_;refine jI (jJ y7 (zJ a0)) ?_;obtain⟨a3,a4,h⟩:=gM h;refine yJ [0] (f (gB.mk al am an) y5 v6 a4) ?_;rintro _ _ ⟨ao,rfl,rfl⟩;show VO _ _ _ _ ⟨(_,.sl 0 ao)::_,[.own 9 1 ao (jL a3),bTy ah ac y,.dead 1],_⟩ _;refine goL ?_;refine jI (jW y7 (by omega)) ?_;exact⟨(y7+1),a3,ao,h,by omega,eJ⟩
  ·have ae:=uS c9;rw [jC ae,gDc.eq_1] at h;refine goX ?_;refine jG ?_;obtain rfl:=Option.some.inj h;exact yK [.sl 0 v6] _ ⟨v6,rfl,rfl⟩
 ·refine goS ?_;refine noB ?_;refine wJ 1 2 (fun bg=>?_);refine kS (fun(aa:Nat)(ag:LS)(ad:Nat)=>⟨[(1,.sl 0 ad),(2,.ptr 1 0),(5,.N aa)],[.own 9 1 ad (jL ag),bTy ah ac y],Tryz.f242.ntmps⟩) (fun aa ag ad=>gDd c (y.drop aa) ag=some r) (fun aa ag ad=>y.length - aa) 0 l0 v0 eJ h ?_;rintro aa ag ad h;refine goL ?_;refine kX (fun ap=>?_) (fun ap=>?_)
  ·have ab:=uR ap;obtain⟨ba,a5,aq⟩:=drop_at ab;rw [aq,gDd.eq_2] at h;obtain⟨ar,au,av⟩:=ba;refine noS ?_;refine jY (jA ?_);refine goL ?_;refine jI (jJ aa (zJ a5)) ?_;obtain⟨a6,a7,h⟩:=gM h;refine yJ [0] (f (gB.mk ar au av) ag ad a7) ?_;rintro _ _ ⟨aw,rfl,rfl⟩;show VO _ _ _ _ ⟨(_,.sl 0 aw)::_,[.own 9 1 aw (jL a6),bTy ah ac y],_⟩ _;refine goL ?_;refine jI (jW aa (by omega)) ?_;exact⟨(aa+1),a6,aw,h,by omega,eJ⟩
  ·have ab:=uS ap;rw [jC ab,gDd.eq_1] at h;refine goX ?_;refine jG ?_;obtain rfl:=Option.some.inj h;exact yK [.sl 0 ad] _ ⟨ad,rfl,rfl⟩
def gNx:Nat→gB→LS→Option LS
 | 0,_,_=>none
 | n+1,c,f=>gQx (gNx n) c f
theorem hM6:∀(n:Nat)(c:gB)(f:LS)(y:Nat){r:LS},gNx n c f=some r→Go.Eng.Spec Tryz.prog 242 [.d (jS c),.sl 0 y] [.own 9 1 y (jL f)] (fun sv Lo=>∃v'0,sv=.sl 0 v'0∧Lo=[.own 9 1 v'0 (jL r)]):=by
 intro n
 induction n with
 | zero=>intro c f y r h;cases h
 | succ n ih=>intro c f y r h;exact hM5 ih c f y h
theorem hB6(a:LB):∀l:LS,gEu a l=decide (a∈l)
 | []=>rfl
 | x::l=>by
   simp only [gEu,hB6 a l];by_cases h:x=a
   ·subst h;simp [gT]
   ·rw [beq_false_of_ne h];have h':¬a=x:=fun e=>h e.symm;simp [gI,h']
theorem hM7(l:LS)(a:LB):wM l a=decide (a∈l):=hB6 a l
theorem gNy{rec:gB→LS→Option LS}:∀(xs:List gB)(y:LS),(∀x∈xs,∀l,l.length+tnd x≤4294967296→rec x l=some (gK3 x l))→y.length+gAb xs≤4294967296→gDc rec xs y=some (gI6 xs y)∧gDd rec xs y=some (gI6 xs y)
 | [],y,_,_=>⟨rfl,rfl⟩
 | x::xs,y,h,hl=>by
   simp only [gAb] at hl;have c:=gTt x y;simp only [gDc,gDd,gI6];rw [h x (by simp) y (by omega)];exact gNy xs _ (fun z hz=>h z (by simp [hz])) (by omega)
theorem gXd:∀(n:Nat)(t:gB)(l:LS),tnd t≤n→l.length+tnd t≤4294967296→gNx n t l=some (gK3 t l)
 | 0,t,l,h,_=>by have:=gBs t;omega
 | n+1,⟨k,s,ts⟩,l,h,hl=>by
   simp only [tnd] at h hl;have hr:∀x∈ts,∀l,l.length+tnd x≤4294967296→gNx n x l=some (gK3 x l):=fun x hx l hl=>gXd n x l (by have:=yU hx;omega) hl;simp only [gNx,gQx,lt_,hM7,gK3,gM5];by_cases hk:k=1
   ·by_cases hs:s∈l
    ·simp only [hk,hs,beq_self_eq_true,gT,decide_true,Bool.not_true,gI];simp only [not_true,and_false,if_false];exact(gNy ts l hr (by omega)).2
    ·simp only [hk,hs,beq_self_eq_true,gT,decide_false,Bool.not_false];simp only [not_false_eq_true,and_self,if_true];rw [mI (by simp;omega)];exact(gNy ts (l++[s]) hr (by simp;omega)).1
   ·simp only [beq_false_of_ne hk,gI,hk,false_and,if_false];exact(gNy ts l hr (by omega)).2
theorem hM8(c:gB)(f:LS)(y:Nat)(h:(f:LS).length+tnd c≤4294967296):Go.Eng.Spec Tryz.prog 242 [.d (jS c),.sl 0 y] [.own 9 1 y (jL f)] (fun sv Lo=>∃v'0,sv=.sl 0 v'0∧Lo=[.own 9 1 v'0 (jL (gK3 c f))]):=hM6 (tnd c) c f y (gXd _ _ _ (Nat.le_refl _) h)
def gGh(c:gB):Option LS:=
gd (([]:LS).length+tnd c≤4294967296) (lt_ (gK3 c []) fun f=>
(some f))
theorem gQo(a0:gB){r:LS}(h:gGh a0=some r):gY Tryz.prog 231 [.d (jS a0)] [.sl 1 (jL r)]:=by
 obtain⟨c,f,y⟩:=a0;unfold gGh at h;refine SpI Tryz.func231 fun A _=>?_;refine goL ?_;refine gGk ?_;obtain⟨g2,h⟩:=mY h;obtain⟨x1,ab,h⟩:=qA h;have sx1:=hM8 (gB.mk c f y) [] 0 g2;rw [ab] at sx1;refine yJ [1] (sx1) ?_;rintro _ _ ⟨v3,rfl,rfl⟩;show VO _ _ _ _ ⟨(_,.sl 1 v3)::_,[bTy c f y,.own 9 1 v3 (jL x1)],_⟩ _;refine goL ?_;refine qU 1 rfl rfl ?_;refine jG ?_;cases h;exact qD
def pF(f:LB)(a1:Int):Nat→LS→Int→Int→Option LS
 | 0,y,h,c=>none
 | n5+1,y,h,c=>(cnd (decide (c≤(f.length:Int))) (
bnd ((cnd (c==(f.length:Int)) ((some true)) (bnd (at? f c) fun x9=>
(some ((x9.toNat:Int)==a1))))) fun b7=>
(cnd b7 (
gd (0≤h∧h≤c∧c≤(f.length:Int)) (
gd (y.length+[((f.drop (Int.toNat h)).take (Int.toNat c - Int.toNat h))].length≤4294967296) (
pF f a1 n5 (y++[((f.drop (Int.toNat h)).take (Int.toNat c - Int.toNat h))]) (IntKind.i64.wrap (c+1)) (IntKind.i64.wrap (c+1))))) (
pF f a1 n5 y h (IntKind.i64.wrap (c+1))))) (
(some y)))
def gFk(c:LB)(a1:Int)(f:Nat):Option LS:=
pF c a1 f [] 0 0
theorem gXe(a0:LB)(a1:Int){n0:Nat}{r:LS}(h:gFk a0 a1 n0=some r):gY Tryz.prog 70 [.S a0,.d (.i .u8 a1)] [.sl 1 (jL r)]:=by
 unfold gFk at h;refine SpI Tryz.func70 fun A _=>?_;refine goL ?_;refine gGk ?_;refine goL ?_;refine noB ?_;refine gWe (fun(y:Nat)(y1:LS)(c:Int)(f:Int)(v2:Nat)=>⟨[(0,.S a0),(1,.d (.i .u8 a1)),(5,.sl 0 v2),(6,.I c),(7,.I f)],[.own 9 1 v2 (jL y1)],Tryz.f70.ntmps⟩) (fun y y1 c f v2=>pF a0 a1 y y1 c f=some r) (fun y y1 c f v2=>y) n0 [] 0 0 0 eJ h ?_;rintro y y1 c f v2 h;rcases y with _ | y
 ·cases h
 rw [pF.eq_2] at h;refine goC h ?_ ?_<;>intro c6 h
 ·refine noS ?_;refine jY (jA ?_);refine goL ?_;obtain⟨b7,hb7,h⟩:=gM h;refine jT ⟨[(0,.S a0),(1,.d (.i .u8 a1)),(5,.sl 0 v2),(6,.I c),(7,.I f),(25,.B b7)],[.own 9 1 v2 (jL y1)],Tryz.f70.ntmps⟩ ?_ ?_
  ·refine gqO 19 hb7 (fun c8 hb7=>?_);obtain⟨x9,ad,hb7⟩:=gM hb7;obtain⟨ae,ad⟩:=gDy ad;refine jI (gJn ae ad) ?_;cases hb7;exact eJ
  refine goC h ?_ ?_<;>intro ak h
  ·refine goL ?_;obtain⟨ag,h⟩:=mY h;refine qK (hQo ag) ?_;refine gBc ((a0.drop (Int.toNat c)).take (Int.toNat f - Int.toNat c)) ?_;obtain⟨ah,h⟩:=mY h;refine gIe ah ?_;refine goL ?_;refine jI (pU) ?_;refine jI (pU) ?_;exact⟨y,(y1++[((a0.drop (Int.toNat c)).take (Int.toNat f - Int.toNat c))]),(IntKind.i64.wrap (f+1)),(IntKind.i64.wrap (f+1)),(v2+1),h,Nat.lt_succ_self _,eJ⟩
  ·refine goS ?_;refine jI (pU) ?_;exact⟨y,y1,c,(IntKind.i64.wrap (f+1)),v2,h,Nat.lt_succ_self _,eJ⟩
 ·refine goX ?_;refine qU 0 rfl rfl ?_;refine jG ?_;cases h;exact qD
def gEv(c:LB)(f:Int):Option LS:=gFk c f 5000
def gDz:LB→Bool
 | []=>true
 | c::xs=>(cnd ((c.toNat:Int) != 32) (
false) (
gDz xs ))
def gG5(c:LB):Bool:=
gDz c
theorem hE3(y:LB):gY Tryz.prog 71 [.S y] [.b (gG5 y)]:=by
 obtain⟨r,h⟩:∃r,gG5 y=r:=⟨_,rfl⟩
 rw [h];unfold gG5 at h;refine SpI Tryz.func71 fun A _=>?_;refine goL ?_;refine noB ?_;refine hJ5 0 (fun z2=>?_);refine mV (fun(f:Nat)=>⟨[(0,.S y),(3,.N f)],[],Tryz.f71.ntmps⟩) (fun f=>gDz (y.drop f)  =r) (fun f=>y.length - f) 0 eJ h ?_;rintro f h;refine goL ?_;refine kX (fun c3=>?_) (fun c3=>?_)
 ·have c:=hUu c3;obtain⟨x4,ac,aa⟩:=drop_at c;rw [aa,gDz.eq_2] at h;refine noS ?_;refine jY (jA ?_);refine goL ?_;refine jI (gGj f ac) ?_;refine kX (fun c5=>?_) (fun c5=>?_)
  ·replace h:=kD c5 h;refine goL ?_;refine jG ?_;subst h;exact qD
  ·replace h:=kE c5 h;refine goS ?_;refine jI (jW f (by omega)) ?_;exact⟨(f+1),h,by omega,eJ⟩
 ·have c:=hUv c3;rw [jC c,gDz.eq_1] at h;refine goX ?_;refine jG ?_;subst h;exact qD
def zN(c:vB):Nat→Int→Option (vB)
 | 0,f=>none
 | y+1,f=>bnd ((cnd (decide (f < (c.s.length:Int))) (bnd (at? c.s f) fun h=>
(cnd ((h.toNat:Int)==32) ((some true)) ((some ((h.toNat:Int)==10))))) ((some false)))) fun b3=>
(cnd b3 (
zN c y (IntKind.i64.wrap (f+1))) (
(some (vB.mk c.s f c.deep c.size c.bad))))
def gVf(c:vB)(f:Nat):Option (vB):=
zN c f c.at_
theorem gVg(c:vB){n0:Nat}{r:vB}(h:gVf c n0=some r):Go.Eng.Spec Tryz.prog 110 [.ptr 0 0] [bIp c.s c.at_ c.deep c.size c.bad] (fun sv Lo=>sv=.tup []∧Lo=[bIp r.s r.at_ r.deep r.size r.bad]):=by
 obtain⟨ab,ah,ac,ad,ae⟩:=c;unfold gVf at h;refine kF 1 Tryz.func110 rfl (by kernel_rfl) rfl rfl fun A _=>?_;refine noB ?_;refine gEe (fun(y:Nat)(y1:Int)=>⟨[(0,.ptr 0 0)],[bIp ab y1 ac ad ae],Tryz.f110.ntmps⟩) (fun y y1=>zN (vB.mk ab ah ac ad ae) y y1=some r) (fun y y1=>y) n0 ah eJ h ?_;rintro y y1 h;rcases y with _ | y
 ·cases h
 rw [zN.eq_2] at h;refine gId ?_;obtain⟨b3,hb3,h⟩:=gM h;refine uE (P:=Tryz.prog) Mix.h ⟨[(0,.ptr 0 0),(35,.B b3)],[bIp ab y1 ac ad ae],Tryz.f110.ntmps⟩ (by kernel_rfl) ?_ ?_
 ·refine goL ?_;refine vG 12 (fun c4=>?_) (fun c4=>?_)
  ·replace hb3:=kD c4 hb3;refine goL ?_;obtain⟨x5,f,hb3⟩:=gM hb3;obtain⟨aa,f⟩:=gDy f;refine gC1 (gJn aa f) ?_;refine goL ?_;refine vG 23 (fun c6=>?_) (fun c6=>?_)
   ·replace hb3:=kD c6 hb3;refine goL ?_;cases hb3;exact eJ
   ·replace hb3:=kE c6 hb3;refine goL ?_;refine gC1 (gJn aa f) ?_;refine goL ?_;cases hb3;exact eJ
  ·replace hb3:=kE c4 hb3;refine goL ?_;cases hb3;exact eJ
 refine goC h ?_ ?_<;>intro c7 h
 ·refine noS ?_;refine jA ?_;refine goL ?_;refine jI (pU) ?_;exact⟨y,(IntKind.i64.wrap (y1+1)),h,Nat.lt_succ_self _,eJ⟩
 ·refine gSy ?_;show mG _ _ _ _ _ _;obtain rfl:=Option.some.inj h;exact hJ8 [] _ ⟨rfl,rfl⟩
def gO9(c:vB):Option (vB):=gVf c 5000
def gGp(c:Int):Bool:=
lt_ ((cnd (decide (c≥97)) ((cnd (decide (c≤122)) (true) ((cnd (decide (c≥48)) ((cnd (decide (c≤57)) (true) ((cnd (c==39) (true) ((cnd (c==45) (true) ((cnd (c==43) (true) ((cnd (c==42) (true) ((cnd (c==60) (true) ((cnd (c==61) (true) ((c==46)))))))))))))))) ((cnd (c==39) (true) ((cnd (c==45) (true) ((cnd (c==43) (true) ((cnd (c==42) (true) ((cnd (c==60) (true) ((cnd (c==61) (true) ((c==46)))))))))))))))))) ((cnd (decide (c≥48)) ((cnd (decide (c≤57)) (true) ((cnd (c==39) (true) ((cnd (c==45) (true) ((cnd (c==43) (true) ((cnd (c==42) (true) ((cnd (c==60) (true) ((cnd (c==61) (true) ((c==46)))))))))))))))) ((cnd (c==39) (true) ((cnd (c==45) (true) ((cnd (c==43) (true) ((cnd (c==42) (true) ((cnd (c==60) (true) ((cnd (c==61) (true) ((c==46)))))))))))))))))) fun f=>
f
theorem hB7(c:Int):gY Tryz.prog 128 [.d (.i .u8 c)] [.b (gGp c)]:=by
 obtain⟨r,h⟩:∃r,gGp c=r:=⟨_,rfl⟩
 rw [h];unfold gGp at h;refine SpI Tryz.func128 fun A _=>?_;refine goL ?_;obtain⟨f,hb1,h⟩:=qA h;refine jT ⟨[(2,.B f)],[],Tryz.f128.ntmps⟩ ?_ ?_
 ·refine gqV 5 hb1 ?_ ?_<;>intro c2 hb1
  ·refine gqO 9 hb1 (fun c3 hb1=>?_);refine gqV 12 hb1 ?_ ?_<;>intro c4 hb1
   ·refine gqO 17 hb1 (fun c5 hb1=>?_);refine gqO 21 hb1 (fun c6 hb1=>?_);refine gqO 25 hb1 (fun c7 hb1=>?_);refine gqO 29 hb1 (fun c8 hb1=>?_);refine gqO 33 hb1 (fun c9 hb1=>?_);refine gqO 37 hb1 (fun y hb1=>?_);exact gqZ 41 hb1
   ·refine gqO 21 hb1 (fun aa hb1=>?_);refine gqO 25 hb1 (fun ab hb1=>?_);refine gqO 29 hb1 (fun ac hb1=>?_);refine gqO 33 hb1 (fun ad hb1=>?_);refine gqO 37 hb1 (fun ae hb1=>?_);exact gqZ 41 hb1
  ·refine gqV 12 hb1 ?_ ?_<;>intro ag hb1
   ·refine gqO 17 hb1 (fun ah hb1=>?_);refine gqO 21 hb1 (fun ai hb1=>?_);refine gqO 25 hb1 (fun aj hb1=>?_);refine gqO 29 hb1 (fun ak hb1=>?_);refine gqO 33 hb1 (fun al hb1=>?_);refine gqO 37 hb1 (fun am hb1=>?_);exact gqZ 41 hb1
   ·refine gqO 21 hb1 (fun an hb1=>?_);refine gqO 25 hb1 (fun ao hb1=>?_);refine gqO 29 hb1 (fun ap hb1=>?_);refine gqO 33 hb1 (fun aq hb1=>?_);refine gqO 37 hb1 (fun ar hb1=>?_);exact gqZ 41 hb1
 refine goL ?_;refine jG ?_;subst h;exact qD
def gJy(c:gD→Int→Option (Int))(y:gD):Nat→Int→Int→Option (Int)
 | 0,f,h=>none
 | n3+1,f,h=>lt_ ((cnd (decide (h < (y.list.length:Int))) ((decide (f≥0))) (false))) fun b4=>
(cnd b4 (
bnd (at? y.list h) fun x7=>
bnd (c x7 f) fun x8=>
gJy c y n3 x8 (IntKind.i64.wrap (h+1))) (
(some f)))
def gVh(c:gD→Int→Option (Int))(f:gD)(a1:Int)(h:Nat):Option (Int):=
gJy c f h (IntKind.i64.wrap (a1 - 1)) 0
theorem hM9{c:gD→Int→Option (Int)}(f:∀(x0:gD)(x1:Int){r:Int},c x0 x1=some r→gY Tryz.prog 129 [.d (pJ x0),.I x1] [.i .i64 r])(a0:gD)(a1:Int){n0:Nat}{r:Int}(h:gVh c a0 a1 n0=some r):gY Tryz.prog 129 [.d (pJ a0),.I a1] [.i .i64 r]:=by
 obtain⟨y,aa⟩:=a0;unfold gVh at h;refine SpI Tryz.func129 fun A _=>?_;refine goL ?_;refine jI (pU) ?_;refine noB ?_;refine kS (fun(n3:Nat)(y1:Int)(y2:Int)=>⟨[(1,.I y1),(2,.ptr 0 0),(5,.I y2)],[bSx y aa],Tryz.f129.ntmps⟩) (fun n3 y1 y2=>gJy c (gD.mk y aa) n3 y1 y2=some r) (fun n3 y1 y2=>n3) n0 (IntKind.i64.wrap (a1 - 1)) 0 eJ h ?_;rintro n3 y1 y2 h;rcases n3 with _ | n3
 ·cases h
 rw [gJy.eq_2] at h;refine goL ?_;obtain⟨b4,hb4,h⟩:=qA h;refine jT ⟨[(1,.I y1),(2,.ptr 0 0),(5,.I y2),(16,.B b4)],[bSx y aa],Tryz.f129.ntmps⟩ ?_ ?_
 ·exact gqZ 13 hb4
 refine goC h ?_ ?_<;>intro c6 h
 ·refine noS ?_;refine jY (jA ?_);refine goL ?_;obtain⟨x7,ad,h⟩:=gM h;obtain⟨ag,ad⟩:=gDy ad;obtain⟨am,an⟩:=x7;refine jI (qW ag (uK ad)) ?_;obtain⟨x8,ai,h⟩:=gM h;refine jI (gF (f _ _ ai)) ?_;refine jI (pU) ?_;exact⟨n3,x8,(IntKind.i64.wrap (y2+1)),h,Nat.lt_succ_self _,eJ⟩
 ·refine goX ?_;refine jG ?_;cases h;exact qD
def gVi:Nat→gD→Int→Option (Int)
 | 0,_,_=>none
 | n+1,c,f=>gVh (gVi n) c f n
theorem hNa:∀(n:Nat)(c:gD)(f:Int){r:Int},gVi n c f=some r→gY Tryz.prog 129 [.d (pJ c),.I f] [.i .i64 r]:=by
 intro n
 induction n with
 | zero=>intro c f r h;cases h
 | succ n ih=>intro c f r h;exact hM9 ih c f h
def gFl(c:Int)(a1:Int)(a2:Int):Bool:=
lt_ ((cnd (decide (c≥a1)) ((decide (c≤a2))) (false))) fun f=>
f
theorem gNz(c:Int)(a1:Int)(a2:Int):gY Tryz.prog 27 [.I c,.I a1,.I a2] [.b (gFl c a1 a2)]:=by
 obtain⟨r,h⟩:∃r,gFl c a1 a2=r:=⟨_,rfl⟩
 rw [h];unfold gFl at h;refine SpI Tryz.func27 fun A _=>?_;refine goL ?_;obtain⟨f,hb1,h⟩:=qA h;refine jT ⟨[(6,.B f)],[],Tryz.f27.ntmps⟩ ?_ ?_
 ·exact gqZ 10 hb1
 refine goL ?_;refine jG ?_;subst h;exact qD
def gM8(c:Int)(a1:Int):Int:=
(cnd (decide (c > a1)) (
c) (
a1))
theorem hGs(c:Int)(a1:Int):gY Tryz.prog 163 [.I c,.I a1] [.i .i64 (gM8 c a1)]:=by
 obtain⟨r,h⟩:∃r,gM8 c a1=r:=⟨_,rfl⟩
 rw [h];unfold gM8 at h;refine SpI Tryz.func163 fun A _=>?_;refine goC h ?_ ?_<;>intro f h
 ·refine goL ?_;refine jG ?_;subst h;exact qD
 ·refine goS ?_;refine jG ?_;subst h;exact qD
def gFm:List gD→LS→Option (LS × Bool)
 | [],c=>(some (c,true))
 | f::xs,c=>(cnd (f.atom==[]) (
(some ([],false))) (
gd (c.length+[f.atom].length≤4294967296) (
gFm xs (c++[f.atom]))))
def gK7(c:List gD):Option (LS × Bool):=
gFm c []
theorem gRw(a0:List gD){r:LS × Bool}(h:gK7 a0=some r):gY Tryz.prog 112 [.L 2 (gX a0)] [.sl 1 (jL r.1),.b r.2]:=by
 unfold gK7 at h;refine SpI Tryz.func112 fun A _=>?_;refine goL ?_;refine gGk ?_;refine goL ?_;refine noB ?_;refine gB0 0 (fun z4=>?_);refine kS (fun(f:Nat)(y1:LS)(v2:Nat)=>⟨[(0,.L 2 (gX a0)),(4,.sl 0 v2),(5,.N f)],[.own 9 1 v2 (jL y1)],Tryz.f112.ntmps⟩) (fun f y1 v2=>gFm (a0.drop f) y1=some r) (fun f y1 v2=>a0.length - f) 0 [] 0 eJ h ?_;rintro f y1 v2 h;refine goL ?_;refine kX (fun c5=>?_) (fun c5=>?_)
 ·have c:=uR c5;obtain⟨x6,ad,ae⟩:=drop_at c;rw [ae,gFm.eq_2] at h;obtain⟨y,ai⟩:=x6;refine noS ?_;refine jY (jA ?_);refine goL ?_;refine jI (jJ f (uK ad)) ?_;refine kX (fun c7=>?_) (fun c7=>?_)
  ·replace h:=kD c7 h;refine goL ?_;refine gGk ?_;refine goL ?_;refine qU 1 rfl rfl ?_;refine jG ?_;cases h;exact qD
  ·replace h:=kE c7 h;refine goS ?_;refine jI (jJ f (uK ad)) ?_;refine gBc y ?_;obtain⟨g8,h⟩:=mY h;refine gIe g8 ?_;refine goL ?_;refine jI (jW f (by omega)) ?_;exact⟨(f+1),(y1++[y]),(v2+1),h,by omega,eJ⟩
 ·have c:=uS c5;rw [jC c,gFm.eq_1] at h;refine goX ?_;refine qU 0 rfl rfl ?_;refine jG ?_;cases h;exact qD
def qM(c:gD)(a1:Int):Option (gD):=
(cnd (decide (a1≥(c.list.length:Int))) (
(some (gD.mk [] []))) (
bnd (at? c.list a1) fun f=>
(some f)))
theorem uB(y:gD)(a1:Int){r:gD}(h:qM y a1=some r):gY Tryz.prog 113 [.d (pJ y),.I a1] [pJ r]:=by
 obtain⟨aa,ab⟩:=y;unfold qM at h;refine SpI Tryz.func113 fun A _=>?_;refine goC h ?_ ?_<;>intro c1 h
 ·refine goL ?_;refine zZ (jX TBd.h TZ.h rfl (by repeat constructor)) ?_;exact goR h
 ·refine goS ?_;obtain⟨x2,c,h⟩:=gM h;obtain⟨f,c⟩:=gDy c;obtain⟨ac,ad⟩:=x2;refine qK (qW f (uK c)) ?_;exact goR h
def uQ(c:Int)(a1:Int):Int:=
(cnd (decide (c < a1)) (
c) (
a1))
theorem gJz(c:Int)(a1:Int):gY Tryz.prog 198 [.I c,.I a1] [.i .i64 (uQ c a1)]:=by
 obtain⟨r,h⟩:∃r,uQ c a1=r:=⟨_,rfl⟩
 rw [h];unfold uQ at h;refine SpI Tryz.func198 fun A _=>?_;refine goC h ?_ ?_<;>intro f h
 ·refine goL ?_;refine jG ?_;subst h;exact qD
 ·refine goS ?_;refine jG ?_;subst h;exact qD
def gDe(c:LB):gB:=
(gB.mk 1 c [])
theorem gPa(c:LB):gY Tryz.prog 31 [.S c] [jS (gDe c)]:=by
 obtain⟨r,h⟩:∃r,gDe c=r:=⟨_,rfl⟩
 rw [h];unfold gDe at h;refine SpI Tryz.func31 fun A _=>?_;refine goL ?_;refine gBn (jX TBd.h TZ.h rfl (by repeat constructor)) ?_;refine jG ?_;subst h;exact qD
def gI7(c:LB)(a1:List gB):Option (gB):=
gd (([]:List gB).length+a1.length≤4294967296) (
(some (gB.mk 2 c ([]++a1))))
theorem gPb(c:LB)(a1:List gB){r:gB}(h:gI7 c a1=some r):gY Tryz.prog 40 [.S c,.L 3 (jH a1)] [jS r]:=by
 unfold gI7 at h;refine SpI Tryz.func40 fun A _=>?_;refine goL ?_;refine gAp ?_;refine goL ?_;obtain⟨f,h⟩:=mY h;refine gBd f ?_;refine gBn (jX TBd.h TZ.h rfl (by repeat constructor)) ?_;refine kP 1 rfl rfl ?_;refine jG ?_;cases h;exact qD
def gHd(a0:LB)(b1:Bool):LB→Int→Option (Int × Bool)
 | [],c=>bnd ((cnd b1 (
(some (IntKind.i64.wrap ((0:Int) - c)))) (
(some c)))) fun f=>
gd (gGi f) ((cnd (!((Lib.itoa f)==a0)) (
(some (0,false))) (
(some (f,true)))))
 | h::xs,c=>lt_ ((cnd (decide ((h.toNat:Int) < 48)) (true) ((decide ((h.toNat:Int) > 57))))) fun y=>
(cnd y (
(some (0,false))) (
gHd a0 b1 xs (IntKind.i64.wrap ((IntKind.i64.wrap ((10:Int)*c))+(IntKind.i64.wrap (IntKind.u8.wrap ((h.toNat:Int) - 48)))))))
def gVj(c:LB)(a1:Int):Option (Int × Bool):=
bnd ((cnd (decide ((c.length:Int) > 0)) (bnd (at? c 0) fun y=>
(some ((y.toNat:Int)==45))) ((some false)))) fun h=>
bnd ((cnd h (
gd (0≤(1:Int)∧1≤(c.length:Int)) (
(some (c.drop (Int.toNat 1))))) (
(some c)))) fun f=>
lt_ ((cnd (decide ((f.length:Int) < 1)) (true) ((decide ((f.length:Int) > a1))))) fun b7=>
(cnd b7 (
(some (0,false))) (
gHd c h f 0))
theorem hNd(a0:LB)(a1:Int){r:Int × Bool}(h:gVj a0 a1=some r):gY Tryz.prog 227 [.S a0,.I a1] [.i .i64 r.1,.b r.2]:=by
 unfold gVj at h;refine SpI Tryz.func227 fun A _=>?_;refine goL ?_;obtain⟨b1,hb1,h⟩:=gM h;refine jT ⟨[(0,.S a0),(1,.I a1),(6,.B b1)],[],Tryz.f227.ntmps⟩ ?_ ?_
 ·refine gqA 13 hb1 (fun c2 hb1=>?_);obtain⟨x3,ac,hb1⟩:=gM hb1;obtain⟨ak,ac⟩:=gDy ac;refine jI (gJn ak ac) ?_;cases hb1;exact eJ
 refine goL ?_;obtain⟨b4,hb4,h⟩:=gM h;refine gE4 ⟨[(0,.S a0),(1,.I a1),(6,.B b1),(7,.S b4)],[],Tryz.f227.ntmps⟩ ?_ ?_
 ·refine kX (fun c5=>?_) (fun c5=>?_)
  ·replace hb4:=kD c5 hb4;refine goL ?_;obtain⟨g6,hb4⟩:=mY hb4;refine jI (hQp g6) ?_;cases hb4;exact eJ
  ·replace hb4:=kE c5 hb4;refine gAn ?_;cases hb4;exact eJ
 refine goL ?_;obtain⟨b7,hb7,h⟩:=qA h;refine jT ⟨[(0,.S a0),(6,.B b1),(7,.S b4),(30,.B b7)],[],Tryz.f227.ntmps⟩ ?_ ?_
 ·exact gqZ 25 hb7
 refine goC h ?_ ?_<;>intro c9 h
 ·exact goR h
 ·refine goS ?_;refine noB ?_;refine hJ5 7 (fun au=>?_);refine gEe (fun(c:Nat)(y:Int)=>⟨[(0,.S a0),(6,.B b1),(7,.S b4),(8,.I y),(9,.N c)],[],Tryz.f227.ntmps⟩) (fun c y=>gHd a0 b1 (b4.drop c) y=some r) (fun c y=>b4.length - c) 0 0 eJ h ?_;rintro c y h;refine goL ?_;refine kX (fun ad=>?_) (fun ad=>?_)
  ·have f:=hUu ad;obtain⟨an,aa,ae⟩:=drop_at f;rw [ae,gHd.eq_2] at h;refine noS ?_;refine jY (jA ?_);refine goL ?_;refine jI (gGj c aa) ?_;obtain⟨ao,hb15,h⟩:=qA h;refine jT ⟨[(0,.S a0),(6,.B b1),(7,.S b4),(8,.I y),(9,.N c),(46,.B ao)],[],Tryz.f227.ntmps⟩ ?_ ?_
   ·refine gqO 41 hb15 (fun av hb15=>?_);refine jI (gGj c aa) ?_;cases hb15;exact eJ
   refine goC h ?_ ?_<;>intro aw h
   ·exact goR h
   ·refine goS ?_;refine jI (pU) ?_;refine qK (gGj c aa) ?_;refine qK (pU) ?_;refine qK (hTt Tryz.underlying5 Tryz.underlying3) ?_;refine jI (pU) ?_;refine jI (jW c (by omega)) ?_;exact⟨(c+1),(IntKind.i64.wrap ((IntKind.i64.wrap ((10:Int)*y))+(IntKind.i64.wrap (IntKind.u8.wrap ((an.toNat:Int) - 48))))),h,by omega,eJ⟩
  ·have f:=hUv ad;rw [jC f,gHd.eq_1] at h;refine goX ?_;obtain⟨al,hb18,h⟩:=gM h;refine gE4 ⟨[(0,.S a0),(8,.I al)],[],Tryz.f227.ntmps⟩ ?_ ?_
   ·refine kX (fun ag=>?_) (fun ag=>?_)
    ·replace hb18:=kD ag hb18;refine goL ?_;refine jI (pU) ?_;cases hb18;exact eJ
    ·replace hb18:=kE ag hb18;refine gAn ?_;cases hb18;exact eJ
   refine goL ?_;obtain⟨ap,h⟩:=mY h;refine jI (gF (gK6 al ap)) ?_;refine kX (fun ah=>?_) (fun ah=>?_)
   ·replace h:=kD ah h;exact goR h
   ·replace h:=kE ah h;refine goS ?_;refine jG ?_;cases h;exact qD
def gQy(c:Int):kI:=
(kI.mk 1 [] [] c (gB.mk 0 [] []) [] [])
theorem hNe(c:Int):gY Tryz.prog 200 [.I c] [gCy (gQy c)]:=by
 obtain⟨r,h⟩:∃r,gQy c=r:=⟨_,rfl⟩
 rw [h];unfold gQy at h;refine SpI Tryz.func200 fun A _=>?_;refine goL ?_;refine gBn (jX TBd.h TZ.h rfl (by repeat constructor)) ?_;refine jG ?_;subst h;exact qD
def gQz(c:LB):kI:=
(kI.mk 3 [] c 0 (gB.mk 0 [] []) [] [])
theorem hNg(c:LB):gY Tryz.prog 201 [.S c] [gCy (gQz c)]:=by
 obtain⟨r,h⟩:∃r,gQz c=r:=⟨_,rfl⟩
 rw [h];unfold gQz at h;refine SpI Tryz.func201 fun A _=>?_;refine goL ?_;refine gBn (jX TBd.h TZ.h rfl (by repeat constructor)) ?_;refine jG ?_;subst h;exact qD
def gBb(c:gD→gD→Option (Bool))(a1:gD):List gD→Nat→Option (Bool)
 | [],f=>(some true)
 | h::xs,f=>bnd (at? a1.list (f:Int)) fun y=>
bnd (c h y) fun x9=>
(cnd (!x9) (
(some false)) (
gBb c a1 xs (f+1)))
def gJ0(c:gD→gD→Option (Bool))(f:gD)(a1:gD):Option (Bool):=
lt_ ((cnd (!(f.atom==a1.atom)) (true) (((f.list.length:Int) !=(a1.list.length:Int))))) fun h=>
(cnd h (
(some false)) (
gBb c a1 f.list 0))
theorem gVk{c:gD→gD→Option (Bool)}(f:∀(x0:gD)(x1:gD){r:Bool},c x0 x1=some r→gY Tryz.prog 169 [.d (pJ x0),.d (pJ x1)] [.b r])(a0:gD)(a1:gD){r:Bool}(h:gJ0 c a0 a1=some r):gY Tryz.prog 169 [.d (pJ a0),.d (pJ a1)] [.b r]:=by
 obtain⟨ae,aa⟩:=a0;obtain⟨ab,ac⟩:=a1;unfold gJ0 at h;refine SpI Tryz.func169 fun A _=>?_;refine goL ?_;obtain⟨b1,hb1,h⟩:=qA h;refine jT ⟨[(2,.ptr 0 0),(3,.ptr 1 0),(19,.B b1)],[bSx ae aa,bSx ab ac],Tryz.f169.ntmps⟩ ?_ ?_
 ·exact gqZ 11 hb1
 refine goC h ?_ ?_<;>intro c3 h
 ·exact goR h
 ·refine goS ?_;refine noB ?_;refine wJ 0 1 (fun z5=>?_);refine mV (fun(y4:Nat)=>⟨[(2,.ptr 0 0),(3,.ptr 1 0),(5,.N y4)],[bSx ae aa,bSx ab ac],Tryz.f169.ntmps⟩) (fun y4=>gBb c (gD.mk ab ac) (aa.drop y4) y4=some r) (fun y4=>aa.length - y4) 0 eJ h ?_;rintro y4 h;refine goL ?_;refine kX (fun c6=>?_) (fun c6=>?_)
  ·have y:=uR c6;obtain⟨x7,ak,ag⟩:=drop_at y;rw [ag,gBb.eq_2] at h;obtain⟨ao,ap⟩:=x7;refine noS ?_;refine jY (jA ?_);refine goL ?_;refine gFd (jJ y4 (uK ak)) ?_;refine goL ?_;obtain⟨x8,ah,h⟩:=gM h;rw [zI] at ah;obtain⟨aq,ar⟩:=x8;refine gFd (jJ y4 (uK ah)) ?_;refine goL ?_;obtain⟨x9,al,h⟩:=gM h;refine gFd (gF (f _ _ al)) ?_;refine goC h ?_ ?_<;>intro ax h
   ·exact goR h
   ·refine goS ?_;refine jI (jW y4 (by omega)) ?_;exact⟨(y4+1),h,by omega,eJ⟩
  ·have y:=uS c6;rw [jC y,gBb.eq_1] at h;refine goX ?_;refine jG ?_;cases h;exact qD
def gCl:Nat→gD→gD→Option (Bool)
 | 0,_,_=>none
 | n+1,c,f=>gJ0 (gCl n) c f
theorem gGq:∀(n:Nat)(c:gD)(f:gD){r:Bool},gCl n c f=some r→gY Tryz.prog 169 [.d (pJ c),.d (pJ f)] [.b r]:=by
 intro n
 induction n with
 | zero=>intro c f r h;cases h
 | succ n ih=>intro c f r h;exact gVk ih c f h
@[reducible] def zL0:LS:=[[105,110,116],[98,111,111,108],[97,115,115,111,99],[100,121,110],[105,102],[108,101,116],[99,97,115,101],[110,101,119],[109,101,116,104,111,100],[112,97,99,107],[116,114,117,101],[102,97,108,115,101]]
def gGr(c:LB):Bool:=
(wM zL0 c)
theorem gVl(c:LB):gY Tryz.prog 175 [.S c] [.b (gGr c)]:=by
 obtain⟨r,h⟩:∃r,gGr c=r:=⟨_,rfl⟩
 rw [h];unfold gGr at h;refine SpI Tryz.func175 fun A _=>?_;refine goL ?_;refine gPz (us:=jL zL0) ?_;refine goL ?_;refine gBn (gV9 (gGg zL0 c)) ?_;refine jG ?_;subst h;exact qD
end Go.Proofs.YtegahmhnmjnhhaaGreat
