import Derived.Test.YtegahmhnmjnhhaaGreatZz
set_option maxHeartbeats 4000000
set_option linter.unusedVariables false
set_option linter.unusedSimpArgs false
set_option linter.unusedSectionVars false
namespace Go.Proofs.YtegahmhnmjnhhaaGreat
open Go Go.Eng
attribute [local irreducible] V VO VQ VY Quiet QR jC kT Rng mU mV mI
def gQx(f:gB→gB→(List gG)→Option (Bool × List gG))(c:(List gB)→(List gB)→(List gG)→Option (Bool × List gG))(p:gB)(t:gB)(h:List gG):Option (Bool × List gG):=
(cnd (p.kind==1) (
bnd (gF1 h p.name) fun x2=>
(cnd x2.2 (
(some ((teq x2.1 t),h))) (
gd (tok t) (lt_ (idT t) fun x6=>
gd (h.length+[(gG.mk p.name x6)].length≤4294967296) (
(some (true,(h++[(gG.mk p.name x6)])))))))) (
lt_ ((cnd (p.kind != t.kind) (true) ((cnd (!(p.name==t.name)) (true) (((p.args.length:Int) !=(t.args.length:Int))))))) fun b8=>
(cnd b8 (
(some (false,[]))) (
bnd (c p.args t.args h) fun y=>
(cnd y.1 (
(some (true,y.2))) (
(some (false,[]))))))))
def gWk(c:gB→gB→(List gG)→Option (Bool × List gG)):Prop:=∀(f:gB) (h:gB) (y:List gG) (w0:Nat) {r:Bool × List gG},c f h y=some r→Go.Eng.Spec Tryz.prog 240 [.d (jS f),.d (jS h),.sl 0 w0] [.arr 101 4 w0 (gN y)] (fun sv Lo=>∃(u'0 v'0:Nat) (j'0:List gG),(r.1=true∧sv=.tup [.sl 0 v'0,.B true]∧Lo=[.arr 101 4 v'0 (gN r.2)])∨(r.1=false∧sv=.tup [.sl 0 u'0,.B false]∧Lo=[.arr 101 4 v'0 (gN j'0)]))
def gWl(c:(List gB)→(List gB)→(List gG)→Option (Bool × List gG)):Prop:=∀(f:List gB) (h:List gB) (y:List gG) (w0:Nat) {r:Bool × List gG},c f h y=some r→Go.Eng.Spec Tryz.prog 226 [.L 3 (jJ f),.L 3 (jJ h),.sl 0 w0] [.arr 101 4 w0 (gN y)] (fun sv Lo=>∃(u'0 v'0:Nat) (j'0:List gG),(r.1=true∧sv=.tup [.sl 0 v'0,.B true]∧Lo=[.arr 101 4 v'0 (gN r.2)])∨(r.1=false∧sv=.tup [.sl 0 u'0,.B false]∧Lo=[.arr 101 4 v'0 (gN j'0)]))
theorem hNx{c}{ab}(am:gWk c)(ag:gWl ab)(p:gB)(t:gB)(l0:List gG)(v0:Nat){r:Bool × List gG}(h:gQx c ab p t l0=some r):Go.Eng.Spec Tryz.prog 240 [.d (jS p),.d (jS t),.sl 0 v0] [.arr 101 4 v0 (gN l0)] (fun sv Lo=>∃(u'0 v'0:Nat) (j'0:List gG),(r.1=true∧sv=.tup [.sl 0 v'0,.B true]∧Lo=[.arr 101 4 v'0 (gN r.2)])∨(r.1=false∧sv=.tup [.sl 0 u'0,.B false]∧Lo=[.arr 101 4 v'0 (gN j'0)])):=by
 obtain⟨ar,aj,an⟩:=p;obtain⟨ah,ai,ad⟩:=t;unfold gQx at h;refine kM 1 Tryz.func240 rfl (by kernel_rfl) rfl rfl fun A _=>?_;refine goC h ?_ ?_<;>intro c1 h
 ·refine goL ?_;obtain⟨⟨⟨f,y,aa⟩,a7⟩,a3,h⟩:=gP h;refine gGa (gTc l0 aj a3) ?_;refine goC h ?_ ?_<;>intro c3 h
  ·refine goL ?_;refine gBn (gW2 (gF0 (gB.mk f y aa) (gB.mk ah ai ad))) ?_;refine jK ?_;obtain rfl:=Option.some.inj h;rcases Bool.eq_false_or_eq_true (teq (gB.mk f y aa) (gB.mk ah ai ad))with q4 | q4
   ·exact zB [.sl 0 v0,.d (.b (teq (gB.mk f y aa) (gB.mk ah ai ad)))] [.arr 101 4 v0 (gN l0)] ⟨v0,v0,[],.inl ⟨q4,congrArg (fun z=>SV.tup [.sl 0 v0,.B z]) q4,rfl⟩⟩
   ·exact zB [.sl 0 v0,.d (.b (teq (gB.mk f y aa) (gB.mk ah ai ad)))] [.arr 101 4 v0 (gN l0)] ⟨v0,v0,l0,.inr ⟨q4,congrArg (fun z=>SV.tup [.sl 0 v0,.B z]) q4,rfl⟩⟩
  ·refine noS ?_;refine jO (P:=Tryz.prog) Mix.h [(0,true),(1,true),(2,true),(3,true),(4,false),(5,true),(6,false),(7,false),(8,true),(9,true)] (by kernel_rfl) ?_;refine goY ?_;obtain⟨g5,h⟩:=mW h;obtain⟨⟨ao,ap,aq⟩,a4,h⟩:=qB h;have sx6:=zV (gB.mk ah ai ad) g5;rw [a4] at sx6;refine gNa (sx6) ?_;refine goY ?_;refine gJ2 5 rfl rfl ?_;refine qE (T:=28) (us:=gN [(gG.mk aj (gB.mk ao ap aq))]) ?_;obtain⟨g7,h⟩:=mW h;refine pV (T:=28) g7 ?_;refine goY ?_;refine kQ ?_;refine goL ?_;refine jK ?_;obtain rfl:=Option.some.inj h;exact zB [.sl 0 (v0+1),.B true] [.arr 101 4 (v0+1) (gN (l0++[(gG.mk aj (gB.mk ao ap aq))]))] ⟨(v0+1),(v0+1),[],.inl ⟨rfl,rfl,rfl⟩⟩
 ·refine goS ?_;obtain⟨b8,hb8,h⟩:=qB h;refine jT ⟨[(2,.sl 0 v0),(3,.ptr 1 0),(4,.ptr 2 0),(53,.B b8)],[.arr 101 4 v0 (gN l0),bTy ar aj an,bTy ah ai ad],Tryz.f240.ntmps⟩ ?_ ?_
  ·refine pX 38 (fun c9=>?_) (fun c9=>?_) (by first | rfl | (simp only [jG,gV];rfl))
   ·replace hb8:=kD c9 hb8;refine goL ?_;cases hb8;exact⟨rfl,⟨⟨rfl,rfl⟩,⟨rfl,rfl⟩,⟨rfl,rfl⟩,⟨by first | rfl | (simp only [jG,gV];rfl),rfl⟩,trivial⟩,⟨_,rfl⟩,rfl⟩
   ·replace hb8:=kE c9 hb8;refine goL ?_;refine pX 45 (fun au=>?_) (fun au=>?_) (by first | rfl | (simp only [jG,gV];rfl))
    ·replace hb8:=kD au hb8;refine goL ?_;cases hb8;exact⟨rfl,⟨⟨rfl,rfl⟩,⟨rfl,rfl⟩,⟨rfl,rfl⟩,⟨by first | rfl | (simp only [jG,gV];rfl),rfl⟩,trivial⟩,⟨_,rfl⟩,rfl⟩
    ·replace hb8:=kE au hb8;refine goL ?_;cases hb8;exact⟨rfl,⟨⟨rfl,rfl⟩,⟨rfl,rfl⟩,⟨rfl,rfl⟩,⟨by first | rfl | (simp only [jG,gV];rfl),rfl⟩,trivial⟩,⟨_,rfl⟩,rfl⟩
  refine goC h ?_ ?_<;>intro bb h
  ·refine goL ?_;refine jK ?_;obtain rfl:=Option.some.inj h;exact zB [.sl 0 v0,.B false] [.arr 101 4 v0 (gN l0)] ⟨v0,v0,l0,.inr ⟨rfl,rfl,rfl⟩⟩
  ·refine goS ?_;obtain⟨⟨a6,al⟩,a0,h⟩:=gP h;refine yY [0] (ag an ad l0 v0 a0) ?_;rintro _ _ ⟨av,ae,aw,⟨ax,rfl,rfl⟩ | ⟨ax,rfl,rfl⟩⟩
   ·replace h:=kD ax h;show VO _ _ _ _ ⟨(_,.tup [.sl 0 ae,.B true])::_,[.arr 101 4 ae (gN al),bTy ar aj an,bTy ah ai ad],_⟩ _;refine goL ?_;refine jK ?_;obtain rfl:=Option.some.inj h;exact zB [.sl 0 ae,.B true] [.arr 101 4 ae (gN al)] ⟨ae,ae,[],.inl ⟨rfl,rfl,rfl⟩⟩
   ·replace h:=kE ax h;show VO _ _ _ _ ⟨(_,.tup [.sl 0 av,.B false])::_,[.arr 101 4 ae (gN aw),bTy ar aj an,bTy ah ai ad],_⟩ _;refine goL ?_;refine jK ?_;obtain rfl:=Option.some.inj h;exact zB [.sl 0 av,.B false] [.arr 101 4 ae (gN aw)] ⟨av,ae,aw,.inr ⟨rfl,rfl,rfl⟩⟩
def gE0(c:gB→gB→(List gG)→Option (Bool × List gG))(all:List gB):List gB→Nat→(List gG)→Option (Bool × List gG)
 | [],f,h=>(some (true,h))
 | x6::xs,f,h=>bnd (at? all (f:Int)) fun x7=>
bnd (c x6 x7 h) fun y=>
(cnd y.1 (
gE0 c all xs (f+1) y.2) (
(some (false,[]))))
def gWm(c:gB→gB→(List gG)→Option (Bool × List gG))(f:(List gB)→(List gB)→(List gG)→Option (Bool × List gG))(p:List gB)(all:List gB)(h:List gG):Option (Bool × List gG):=
gE0 c all p 0 h
theorem hR4{c}{f}(y:gWk c)(ad:gWl f)(p:List gB)(all:List gB)(l0:List gG)(v0:Nat){r:Bool × List gG}(h:gWm c f p all l0=some r):Go.Eng.Spec Tryz.prog 226 [.L 3 (jJ p),.L 3 (jJ all),.sl 0 v0] [.arr 101 4 v0 (gN l0)] (fun sv Lo=>∃(u'0 v'0:Nat) (j'0:List gG),(r.1=true∧sv=.tup [.sl 0 v'0,.B true]∧Lo=[.arr 101 4 v'0 (gN r.2)])∨(r.1=false∧sv=.tup [.sl 0 u'0,.B false]∧Lo=[.arr 101 4 v'0 (gN j'0)])):=by
 unfold gWm at h;refine kM 1 Tryz.func226 rfl (by kernel_rfl) rfl rfl fun A _=>?_;refine goL ?_;refine noB ?_;refine gBx 0 (fun z4=>?_);refine kS (fun(y3:Nat) (y1:List gG) (v2:Nat)=>⟨[(0,.L 3 (jJ p)),(1,.L 3 (jJ all)),(2,.sl 0 v2),(8,.N y3)],[.arr 101 4 v2 (gN y1)],Tryz.f226.ntmps⟩) (fun y3 y1 v2=>gE0 c all (p.drop y3) y3 y1=some r) (fun y3 y1 v2=>p.length - y3) 0 l0 v0 eJ h ?_;rintro y3 y1 v2 h;refine goL ?_;refine kX (fun c5=>?_) (fun c5=>?_)
 ·have aa:=uR c5;obtain⟨x6,ax,ak⟩:=drop_at aa;rw [ak,gE0.eq_2] at h;obtain⟨al,am,an⟩:=x6;refine noS ?_;refine jW (jE ?_);refine jO (P:=Tryz.prog) Mix.h [(0,true),(1,true),(2,true),(3,true),(4,true),(5,true),(6,true),(7,true),(8,true),(9,false),(10,true),(11,true),(12,true),(13,true),(14,true)] (by kernel_rfl) ?_;refine goY ?_;refine jI rfl (jM y3 (zL ax)) ?_;refine goY ?_;obtain⟨x7,ao,h⟩:=gP h;rw [yZ] at ao;obtain⟨ap,aq,ar⟩:=x7;refine jI rfl (jM y3 (zL ao)) ?_;refine goY ?_;obtain⟨⟨a3,ae⟩,ay,h⟩:=gP h;refine gUg [0] (y (gB.mk al am an) (gB.mk ap aq ar) y1 v2 ay) ?_;rintro _ _ ⟨a0,v9,ah,⟨ai,rfl,rfl⟩ | ⟨ai,rfl,rfl⟩⟩
  ·replace h:=kD ai h;refine gSt (sv:=.tup [.sl 0 v9,.B true]) (L':=[.arr 101 4 v9 (gN ae)]) (by repeat(first | exact vV.nil | (apply vV.keep;focus ((repeat constructor);done)) | (apply vV.dep;focus kernel_rfl))) ?_;refine goY ?_;refine kQ ?_;refine goL ?_;refine hYt ?_;refine goS ?_;refine jL (jR y3 (by omega)) ?_;exact⟨(y3+1),ae,v9,h,by omega,eJ⟩
  ·replace h:=kE ai h;refine gSt (sv:=.tup [.sl 0 a0,.B false]) (L':=[.arr 101 4 v9 (gN ah)]) (by repeat(first | exact vV.nil | (apply vV.keep;focus ((repeat constructor);done)) | (apply vV.dep;focus kernel_rfl))) ?_;refine goY ?_;refine kQ ?_;refine goL ?_;refine hV3 ?_;refine goL ?_;refine jK ?_;obtain rfl:=Option.some.inj h;exact zB [.sl 0 v2,.B false] [.arr 101 4 v9 (gN ah)] ⟨v2,v9,ah,.inr ⟨rfl,rfl,rfl⟩⟩
 ·have aa:=uS c5;rw [jF aa,gE0.eq_1] at h;refine goX ?_;refine jK ?_;obtain rfl:=Option.some.inj h;exact zB [.sl 0 v2,.B true] [.arr 101 4 v2 (gN y1)] ⟨v2,v2,[],.inl ⟨rfl,rfl,rfl⟩⟩
mutual
def gJ5:Nat→gB→gB→(List gG)→Option (Bool × List gG)
 | 0,_,_,_=>none
 | n+1,c,f,h=>gQx (gJ5 n) (gNk n) c f h
def gNk:Nat→(List gB)→(List gB)→(List gG)→Option (Bool × List gG)
 | 0,_,_,_=>none
 | n+1,c,f,h=>gWm (gJ5 n) (gNk n) c f h
end
theorem hJ1:∀(n:Nat),gWk (gJ5 n)∧gWl (gNk n):=by
 intro n
 induction n with
 | zero=>exact⟨(by intro c f y w0 r h;cases h),(by intro c f y w0 r h;cases h)⟩
 | succ n ih=>
   obtain⟨ih0,ih1⟩:=ih;refine⟨(fun c f y w0 r h=>hNx ih0 ih1 c f y w0 h),(fun c f y w0 r h=>hR4 ih0 ih1 c f y w0 h)⟩
theorem hR5:∀(n:Nat),gWl (gNk n):=fun n=>(hJ1 n).2
def gHx(c:List gB)(a1:List gB):Option (List gG × Bool):=
(cnd ((c.length:Int) !=(a1.length:Int)) (
(some ([],false))) (
bnd (gNk 100000 c a1 []) fun f=>
(cnd f.1 (
(some (f.2,true))) (
(some ([],false))))))
theorem hAj(f:List gB)(a1:List gB){r:List gG × Bool}(h:gHx f a1=some r):jC Tryz.prog 197 [.L 3 (jJ f),.L 3 (jJ a1)] [.sl 4 (gN r.1),.b r.2]:=by
 unfold gHx at h;refine SpI Tryz.func197 fun A _=>?_;refine goC h ?_ ?_<;>intro c1 h
 ·refine goL ?_;refine gAl ?_;refine goL ?_;refine kN 0 rfl rfl ?_;refine jK ?_;cases h;exact qA
 ·refine goS ?_;refine gAl ?_;obtain⟨⟨ac,c⟩,y,h⟩:=gP h;refine yY [0] (hR5 100000 f a1 [] 0 y) ?_;rintro _ _ ⟨u4,v3,j5,⟨q6,rfl,rfl⟩ | ⟨q6,rfl,rfl⟩⟩
  ·replace h:=kD q6 h;show VO _ _ _ _ ⟨(_,.tup [.sl 0 v3,.B true])::_,[.arr 101 4 v3 (gN c)],_⟩ _;refine goL ?_;refine hYt ?_;refine goS ?_;refine kN 0 rfl rfl ?_;refine jK ?_;cases h;exact qA
  ·replace h:=kE q6 h;show VO _ _ _ _ ⟨(_,.tup [.sl 0 u4,.B false])::_,[.arr 101 4 v3 (gN j5)],_⟩ _;refine goL ?_;refine hV3 ?_;refine goL ?_;refine gAl ?_;refine goL ?_;refine kN 1 rfl rfl ?_;refine jK ?_;cases h;exact qA
def gFw(f:gB)(a1:gB):Option (List gG × Bool):=
bnd (gHx [f] [a1]) fun c=>
(some (c.1,c.2))
theorem gS8(a0:gB)(a1:gB){r:List gG × Bool}(h:gFw a0 a1=some r):jC Tryz.prog 161 [.d (jS a0),.d (jS a1)] [.sl 4 (gN r.1),.b r.2]:=by
 obtain⟨c,f,y⟩:=a0;obtain⟨aa,ab,ac⟩:=a1;unfold gFw at h;refine SpI Tryz.func161 fun A _=>?_;refine goL ?_;refine gAk (u:=(.st [.i .i64 c,.s f,.sl 3 (jJ y)])) ?_;refine goL ?_;refine gAk (u:=(.st [.i .i64 aa,.s ab,.sl 3 (jJ ac)])) ?_;refine uZ 2 rfl rfl ?_;refine uZ 3 rfl rfl ?_;obtain⟨⟨ag,ah⟩,ae,h⟩:=gP h;refine gAq (hHy (hAj [(gB.mk c f y)] [(gB.mk aa ab ac)] ae)) ?_;exact goR h
def gBl(c:gB)(a1:gB):Option (Bool):=
bnd (gFw c a1) fun f=>
(some f.2)
theorem gUo(c:gB)(a1:gB){r:Bool}(h:gBl c a1=some r):jC Tryz.prog 250 [.d (jS c),.d (jS a1)] [.b r]:=by
 obtain⟨y,aa,ab⟩:=c;obtain⟨ac,ad,ae⟩:=a1;unfold gBl at h;refine SpI Tryz.func250 fun A _=>?_;refine goL ?_;obtain⟨⟨ag,ah⟩,f,h⟩:=gP h;refine qI (gF (gS8 _ _ f)) ?_;exact goR h
mutual
def tvs:gB→List (List UInt8)
 | ⟨k,n,ts⟩=>(if k=1 then [n] else [])++gH4 ts
def gH4:List gB→List (List UInt8)
 | []=>[]
 | a::ts=>tvs a++gH4 ts
end
theorem gOk{v:List UInt8}:∀{ts:List gB},v∈gH4 ts↔∃t∈ts,v∈tvs t
 | []=>by simp [gH4]
 | a::ts=>by simp [gH4,gOk (ts:=ts)]
mutual
theorem hAl:∀(t:gB),(tvs t).length≤tnd t
 | ⟨k,n,ts⟩=>by
   have:=hC9 ts
   simp only [tvs,tnd,List.length_append]
   split<;>simp<;>omega
theorem hC9:∀(ts:List gB),(gH4 ts).length≤gA6 ts
 | []=>by simp [gH4]
 | a::ts=>by
   have c:=hAl a;have f:=hC9 ts;simp only [gH4,gA6,List.length_append];omega
end
def dom(l:List gG):List (List UInt8):=l.map gG.var_
theorem hJ4{v:List UInt8}{l:List gG}(h:v∈dom l):(lkp v l).2=true:=by
 cases hb:(lkp v l).2 with
 | true=>rfl
 | false=>
   exfalso
   induction l with
   | nil=>simp [dom] at h
   | cons b l ih=>
     simp only [lkp] at hb;by_cases e:b.var_=v
     ·subst e;simp [gZ] at hb
     ·rw [beq_false_of_ne e] at hb;simp only [dom,List.map_cons,List.mem_cons] at h;exact ih (h.resolve_left (fun e'=>e e'.symm)) hb
mutual
def mtT:gB→gB→List gG→Option (List gG)
 | ⟨k,n,ps⟩,t,l=>cnd (k==1) (cnd (lkp n l).2 (cnd (teq (lkp n l).1 t) (some l) none) (some (l++[⟨n,t⟩])))
   (cnd (cnd (k != t.kind) true (cnd (!(n==t.name)) true ((ps.length:Int) !=(t.args.length:Int)))) none (gZe ps t.args l))
def gZe:List gB→List gB→List gG→Option (List gG)
 | [],_,l=>some l
 | _::_,[],_=>none
 | p::ps,t::ts,l=>bnd (mtT p t l) fun l'=>gZe ps ts l'
end
def Agr:Option (List gG)→Bool × List gG→Prop
 | none,q=>q.1=false
 | some l,q=>q=(true,l)
mutual
theorem hAm{Q:gB→Prop}(hQ:∀x,Q x→∀y∈x.args,Q y):∀(p t:gB) (l l':List gG),Q t→(∀b∈l,Q b.type_)→mtT p t l=some l'→(∀b∈l',Q b.type_)∧l'.length≤l.length+tnd p
 | ⟨k,n,ps⟩,t,l,l',ht,hl,h=>by
   simp only [mtT] at h;simp only [tnd];cases hk:(k==1)with
   | true=>
     simp only [hk,gZ] at h;cases hb:(lkp n l).2 with
     | true=>
       simp only [hb,gZ] at h;cases he:teq (lkp n l).1 t with
       | true=>simp only [he,gZ,Option.some.injEq] at h;subst h;exact⟨hl,by omega⟩
       | false=>simp [he,gK] at h
     | false=>
       simp only [hb,gK,Option.some.injEq] at h;subst h;refine⟨fun b hb'=>?_,by simp only [List.length_append,List.length_cons,List.length_nil];omega⟩;rcases List.mem_append.1 hb' with hb' | hb'
       ·exact hl b hb'
       ·simp only [List.mem_singleton] at hb';subst hb';exact ht
   | false=>
     simp only [hk,gK] at h;cases hc:(cnd (k != t.kind) true (cnd (!(n==t.name)) true ((ps.length:Int) !=(t.args.length:Int))))with
     | true=>simp [hc,gZ] at h
     | false=>
       simp only [hc,gK] at h
       have:=hDa hQ ps t.args l l' (hQ t ht) hl h
       exact⟨this.1,by omega⟩
theorem hDa{Q:gB→Prop}(hQ:∀x,Q x→∀y∈x.args,Q y):∀(ps ts:List gB) (l l':List gG),(∀t∈ts,Q t)→(∀b∈l,Q b.type_)→gZe ps ts l=some l'→(∀b∈l',Q b.type_)∧l'.length≤l.length+gA6 ps
 | [],_,l,l',_,hl,h=>by simp only [gZe,Option.some.injEq] at h;subst h;exact⟨hl,by simp⟩
 | _::_,[],_,_,_,_,h=>by simp [gZe] at h
 | p::ps,t::ts,l,l',ht,hl,h=>by
   simp only [gZe] at h;obtain⟨c,f,h2⟩:=gP h;obtain⟨q1,q2⟩:=hAm hQ p t l c (ht t (by simp)) hl f;obtain⟨q3,q4⟩:=hDa hQ ps ts c l' (fun t h=>ht t (by simp [h])) q1 h2;simp only [gA6];exact⟨q3,by omega⟩
end
theorem hNy:∀x,tok x→∀y∈x.args,tok y:=fun x hx y hy=>by
 obtain⟨k,n,ts⟩:=x;simp only [tok] at hx;exact gIm.1 hx.2 y hy
theorem gUp{n:Nat}(ih:∀(p t:gB) (l:List gG),2*tnd p≤n→bok l→tok t→l.length+tnd p≤4000000→∃q,gJ5 n p t l=some q∧Agr (mtT p t l) q)(all:List gB)(hall:∀t∈all,tok t) :
  ∀(xs:List gB) (k:Nat) (l:List gG),2*gA6 xs≤n→bok l→all.length=k+xs.length→l.length+gA6 xs≤4000000→∃q,gE0 (gJ5 n) all xs k l=some q∧Agr (gZe xs (all.drop k) l) q
 | [],k,l,_,_,h,_=>⟨_,rfl,rfl⟩
 | x::xs,k,l,hn,hb,h,hl=>by
   simp only [List.length_cons] at h;simp only [gA6] at hn hl;have hk:k < all.length:=by omega
   have hx:all[k]? =some all[k]:=List.getElem?_eq_getElem hk;obtain⟨q,e1,c⟩:=ih x all[k] l (by omega) hb (hall _ (List.getElem_mem hk)) (by omega);rw [gE0.eq_2,yZ,hx,List.drop_eq_getElem_cons hk];simp only [bnd,e1,gZe];cases hm:mtT x all[k] l with
   | none=>
     rw [hm] at c;have f:q.1=false:=c;simp only [f,gK];exact⟨_,rfl,rfl⟩
   | some y=>
     rw [hm] at c;have f:q=(true,y):=c;subst f;simp only [gZ];obtain⟨r1,r2⟩:=hAm hNy x all[k] l y (hall _ (List.getElem_mem hk)) hb hm;exact gUp ih all hall xs (k+1) y (by omega) r1 (by omega) (by omega)
theorem gS9:∀(n:Nat),(∀(p t:gB) (l:List gG),2*tnd p≤n→bok l→tok t→l.length+tnd p≤4000000→∃q,gJ5 n p t l=some q∧Agr (mtT p t l) q)∧
  (∀(ps ts:List gB) (l:List gG),2*gA6 ps+1≤n→bok l→(∀t∈ts,tok t)→ts.length=ps.length→l.length+gA6 ps≤4000000→∃q,gNk n ps ts l=some q∧Agr (gZe ps ts l) q)
 | 0=>⟨fun p t l h=>by have:=gBq p;omega,fun ps ts l h=>by omega⟩
 | n+1=>by
   obtain⟨ih1,ih2⟩:=gS9 n;refine⟨fun p t l hn hb ht hl=>?_,fun ps ts l hn hb ht hlen hl=>?_⟩
   ·obtain⟨k,nm,ps⟩:=p;simp only [tnd] at hn hl;rw [gJ5.eq_2];unfold gQx;simp only [lt_,idT,mtT];cases hk:(k==1)with
    | true=>
      simp only [gZ];have hlk:gF1 l nm=some (lkp nm l):=gGr nm l hb;rw [jQ hlk];cases (lkp nm l).2 with
      | true=>
        simp only [gZ];refine⟨_,rfl,?_⟩;cases teq (lkp nm l).1 t<;>rfl
      | false=>
        simp only [gK];rw [mK ht,mK (by simp;omega)];exact⟨_,rfl,rfl⟩
    | false=>
      simp only [gK];cases c:(cnd (k != t.kind) true (cnd (!(nm==t.name)) true ((ps.length:Int) !=(t.args.length:Int))))with
      | true=>simp only [gZ];exact⟨_,rfl,rfl⟩
      | false=>
        simp only [gK];have hlen:t.args.length=ps.length:=by
         cases h2:(k != t.kind)with
         | true=>rw [h2] at c;simp [gZ] at c
         | false=>
           rw [h2] at c;simp only [gK] at c;cases h3:(!(nm==t.name))with
           | true=>rw [h3] at c;simp [gZ] at c
           | false=>
             rw [h3] at c;simp only [gK] at c
             have:((ps.length:Int))=t.args.length:=by simpa using c
             omega
        obtain⟨q,e1,f⟩:=ih2 ps t.args l (by omega) hb (hNy t ht) hlen (by omega);rw [jQ e1];cases hm:gZe ps t.args l with
        | none=>
          rw [hm] at f;have y:q.1=false:=f;simp only [y,gK];exact⟨_,rfl,rfl⟩
        | some l1=>
          rw [hm] at f;have y:q=(true,l1):=f;subst y;exact⟨_,rfl,rfl⟩
   ·rw [gNk.eq_2];unfold gWm
    have:=gUp ih1 ts ht ps 0 l (by omega) hb (by omega) (by omega)
    rwa [List.drop_zero] at this
theorem gJ6(p t:gB)(hp:tnd p≤40000)(ht:tok t):gBl p t=some (mtT p t []).isSome:=by
 obtain⟨q,h,c⟩:=(gS9 100000).2 [p] [t] [] (by simp only [gA6];omega) (fun b hb=>by simp at hb) (by simpa using ht) rfl (by simp [gA6];omega);have y:((([p]:List gB).length:Int) !=(([t]:List gB).length:Int))=false:=by simp
 unfold gBl gFw gHx;rw [y,gK,jQ h];simp only [gZe] at c;cases hm:mtT p t [] with
 | none=>
   rw [hm] at c;have f:q.1=false:=c;rw [f];rfl
 | some l=>
   rw [hm] at c;have f:q=(true,l):=c;subst f;rfl
end Go.Proofs.YtegahmhnmjnhhaaGreat
