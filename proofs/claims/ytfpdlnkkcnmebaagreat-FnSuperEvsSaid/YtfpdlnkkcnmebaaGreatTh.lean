import Derived.Test.YtfpdlnkkcnmebaaGreatUn1
set_option maxHeartbeats 4000000
set_option linter.unusedVariables false
set_option linter.unusedSimpArgs false
set_option linter.unusedSectionVars false
namespace Go.Proofs.YtfpdlnkkcnmebaaGreat
open Go Go.Eng
attribute [local irreducible] V VO VQ VY Quiet QR jF mJ Rng qI qJ qB
def gO0(f:gB→gB→(List gV)→Option (Bool × List gV))(c:(List gB)→(List gB)→(List gV)→Option (Bool × List gV))(p:gB)(t:gB)(h:List gV):Option (Bool × List gV):=
(cnd (p.kind==1) (
bnd (gIk h p.name) fun y=>
(cnd y.2 (
(some ((teq y.1 t),h))) (
gd (tok t) (lt_ (idT t) fun x6=>
gd (h.length+[(gV.mk p.name x6)].length≤4294967296) (
(some (true,(h++[(gV.mk p.name x6)])))))))) (
lt_ ((cnd (p.kind != t.kind) (true) ((cnd (!(p.name==t.name)) (true) (((p.args.length:Int) !=(t.args.length:Int))))))) fun b8=>
(cnd b8 (
(some (false,[]))) (
bnd (c p.args t.args h) fun q=>
(cnd q.1 (
(some (true,q.2))) (
(some (false,[]))))))))
def gTm(c:gB→gB→(List gV)→Option (Bool × List gV)):Prop:=∀(f:gB)(h:gB)(q:List gV)(y:Nat){r:Bool × List gV},c f h q=some r→Go.Eng.Spec Tryz.prog 182 [.d (kZ f),.d (kZ h),.sl 0 y] [.arr 192 4 y (jY q)] (fun sv Lo=>∃(u'0 v'0:Nat)(j'0:List gV),(r.1=true∧sv=.tup [.sl 0 v'0,.B true]∧Lo=[.arr 192 4 v'0 (jY r.2)])∨(r.1=false∧sv=.tup [.sl 0 u'0,.B false]∧Lo=[.arr 192 4 v'0 (jY j'0)]))
def gTn(c:(List gB)→(List gB)→(List gV)→Option (Bool × List gV)):Prop:=∀(f:List gB)(h:List gB)(q:List gV)(y:Nat){r:Bool × List gV},c f h q=some r→Go.Eng.Spec Tryz.prog 171 [.L 3 (gK f),.L 3 (gK h),.sl 0 y] [.arr 192 4 y (jY q)] (fun sv Lo=>∃(u'0 v'0:Nat)(j'0:List gV),(r.1=true∧sv=.tup [.sl 0 v'0,.B true]∧Lo=[.arr 192 4 v'0 (jY r.2)])∨(r.1=false∧sv=.tup [.sl 0 u'0,.B false]∧Lo=[.arr 192 4 v'0 (jY j'0)]))
theorem hF5{c}{aa}(aj:gTm c)(ad:gTn aa)(p:gB)(t:gB)(l0:List gV)(v0:Nat){r:Bool × List gV}(h:gO0 c aa p t l0=some r):Go.Eng.Spec Tryz.prog 182 [.d (kZ p),.d (kZ t),.sl 0 v0] [.arr 192 4 v0 (jY l0)] (fun sv Lo=>∃(u'0 v'0:Nat)(j'0:List gV),(r.1=true∧sv=.tup [.sl 0 v'0,.B true]∧Lo=[.arr 192 4 v'0 (jY r.2)])∨(r.1=false∧sv=.tup [.sl 0 u'0,.B false]∧Lo=[.arr 192 4 v'0 (jY j'0)])):=by
 obtain⟨am,ai,ak⟩:=p;obtain⟨ae,ag,ac⟩:=t;unfold gO0 at h;refine kS 1 Tryz.func182 rfl (by kernel_rfl) rfl rfl fun A _=>?_;refine goC h ?_ ?_<;>intro c1 h
 ·refine goL ?_;obtain⟨⟨⟨f,q,y⟩,a6⟩,a0,h⟩:=gJ h;refine gIe (gVp l0 ai a0) ?_;refine goC h ?_ ?_<;>intro c3 h
  ·refine goL ?_;refine gAc (gUo (gKv (gB.mk f q y) (gB.mk ae ag ac))) ?_;refine jG ?_;obtain rfl:=Option.some.inj h;rcases Bool.eq_false_or_eq_true (teq (gB.mk f q y) (gB.mk ae ag ac))with q4 | q4
   ·exact gBa [.sl 0 v0,.d (.b (teq (gB.mk f q y) (gB.mk ae ag ac)))] _ ⟨v0,v0,[],.inl ⟨q4,congrArg (fun z=>SV.tup [.sl 0 v0,.B z]) q4,rfl⟩⟩
   ·exact gBa [.sl 0 v0,.d (.b (teq (gB.mk f q y) (gB.mk ae ag ac)))] _ ⟨v0,v0,l0,.inr ⟨q4,congrArg (fun z=>SV.tup [.sl 0 v0,.B z]) q4,rfl⟩⟩
  ·refine noS ?_;refine jL (P:=Tryz.prog) Mix.h [(0,true),(1,true),(2,true),(3,true),(4,false),(5,true),(6,false),(7,false),(8,true),(9,true)] (by kernel_rfl) ?_;refine goY ?_;obtain⟨g5,h⟩:=pO h;obtain⟨⟨au,av,aw⟩,a3,h⟩:=qW h;have sx6:=gAp (gB.mk ae ag ac) g5;rw [a3] at sx6;refine gQh (sx6) ?_;refine goY ?_;refine gG2 5 rfl rfl ?_;refine jT (T:=118) (us:=jY [(gV.mk ai (gB.mk au av aw))]) ?_;obtain⟨g7,h⟩:=pO h;refine jR (T:=118) g7 ?_;refine goY ?_;refine kX ?_;refine goL ?_;refine jG ?_;obtain rfl:=Option.some.inj h;exact gBa [.sl 0 (v0+1),.B true] _ ⟨(v0+1),(v0+1),[],.inl ⟨rfl,rfl,rfl⟩⟩
 ·refine goS ?_;obtain⟨b8,hb8,h⟩:=qW h;refine kC ⟨[(2,.sl 0 v0),(3,.ptr 1 0),(4,.ptr 2 0),(53,.B b8)],[.arr 192 4 v0 (jY l0),bTy am ai ak,bTy ae ag ac],Tryz.f182.ntmps⟩ ?_ ?_
  ·refine wW 38 (fun c9=>?_) (fun c9=>?_) (by first | rfl | (simp only [kE,jN];rfl))
   ·replace hb8:=kT c9 hb8;refine goL ?_;cases hb8;exact⟨rfl,⟨⟨rfl,rfl⟩,⟨rfl,rfl⟩,⟨rfl,rfl⟩,⟨by first | rfl | (simp only [kE,jN];rfl),rfl⟩,trivial⟩,⟨_,rfl⟩,rfl⟩
   ·replace hb8:=kU c9 hb8;refine goL ?_;refine wW 45 (fun an=>?_) (fun an=>?_) (by first | rfl | (simp only [kE,jN];rfl))
    ·replace hb8:=kT an hb8;refine goL ?_;cases hb8;exact⟨rfl,⟨⟨rfl,rfl⟩,⟨rfl,rfl⟩,⟨rfl,rfl⟩,⟨by first | rfl | (simp only [kE,jN];rfl),rfl⟩,trivial⟩,⟨_,rfl⟩,rfl⟩
    ·replace hb8:=kU an hb8;refine goL ?_;cases hb8;exact⟨rfl,⟨⟨rfl,rfl⟩,⟨rfl,rfl⟩,⟨rfl,rfl⟩,⟨by first | rfl | (simp only [kE,jN];rfl),rfl⟩,trivial⟩,⟨_,rfl⟩,rfl⟩
  refine goC h ?_ ?_<;>intro ba h
  ·refine goL ?_;refine jG ?_;obtain rfl:=Option.some.inj h;exact gBa [.sl 0 v0,.B false] _ ⟨v0,v0,l0,.inr ⟨rfl,rfl,rfl⟩⟩
  ·refine goS ?_;obtain⟨⟨a5,ao⟩,ax,h⟩:=gJ h;refine gCl [0] (ad ak ac l0 v0 ax) ?_;rintro _ _ ⟨ap,ah,ay,⟨aq,rfl,rfl⟩ | ⟨aq,rfl,rfl⟩⟩
   ·replace h:=kT aq h;show VO _ _ _ _ ⟨(_,.tup [.sl 0 ah,.B true])::_,[.arr 192 4 ah (jY ao),bTy am ai ak,bTy ae ag ac],_⟩ _;refine goL ?_;refine jG ?_;obtain rfl:=Option.some.inj h;exact gBa [.sl 0 ah,.B true] _ ⟨ah,ah,[],.inl ⟨rfl,rfl,rfl⟩⟩
   ·replace h:=kU aq h;show VO _ _ _ _ ⟨(_,.tup [.sl 0 ap,.B false])::_,[.arr 192 4 ah (jY ay),bTy am ai ak,bTy ae ag ac],_⟩ _;refine goL ?_;refine jG ?_;obtain rfl:=Option.some.inj h;exact gBa [.sl 0 ap,.B false] _ ⟨ap,ah,ay,.inr ⟨rfl,rfl,rfl⟩⟩
def gEy(c:gB→gB→(List gV)→Option (Bool × List gV))(all:List gB):List gB→Nat→(List gV)→Option (Bool × List gV)
 | [],f,h=>(some (true,h))
 | y::xs,f,h=>bnd (at? all (f:Int)) fun x7=>
bnd (c y x7 h) fun q=>
(cnd q.1 (
gEy c all xs (f+1) q.2) (
(some (false,[]))))
def gTo(c:gB→gB→(List gV)→Option (Bool × List gV))(f:(List gB)→(List gB)→(List gV)→Option (Bool × List gV))(p:List gB)(all:List gB)(h:List gV):Option (Bool × List gV):=
gEy c all p 0 h
theorem hJk{c}{f}(q:gTm c)(ac:gTn f)(p:List gB)(all:List gB)(l0:List gV)(v0:Nat){r:Bool × List gV}(h:gTo c f p all l0=some r):Go.Eng.Spec Tryz.prog 171 [.L 3 (gK p),.L 3 (gK all),.sl 0 v0] [.arr 192 4 v0 (jY l0)] (fun sv Lo=>∃(u'0 v'0:Nat)(j'0:List gV),(r.1=true∧sv=.tup [.sl 0 v'0,.B true]∧Lo=[.arr 192 4 v'0 (jY r.2)])∨(r.1=false∧sv=.tup [.sl 0 u'0,.B false]∧Lo=[.arr 192 4 v'0 (jY j'0)])):=by
 unfold gTo at h;refine kS 1 Tryz.func171 rfl (by kernel_rfl) rfl rfl fun A _=>?_;refine goL ?_;refine noB ?_;refine gCm 0 (fun z4=>?_);refine kV (fun(y3:Nat)(y1:List gV)(v2:Nat)=>⟨[(0,.L 3 (gK p)),(1,.L 3 (gK all)),(2,.sl 0 v2),(8,.N y3)],[.arr 192 4 v2 (jY y1)],Tryz.f171.ntmps⟩) (fun y3 y1 v2=>gEy c all (p.drop y3) y3 y1=some r) (fun y3 y1 v2=>p.length - y3) 0 l0 v0 eJ h ?_;rintro y3 y1 v2 h;refine goL ?_;refine mQ (fun c5=>?_) (fun c5=>?_)
 ·have y:=vF c5;obtain⟨x6,aw,ah⟩:=drop_at y;rw [ah,gEy.eq_2] at h;obtain⟨ai,aj,ak⟩:=x6;refine noS ?_;refine kH (jE ?_);refine jL (P:=Tryz.prog) Mix.h [(0,true),(1,true),(2,true),(3,true),(4,true),(5,true),(6,true),(7,true),(8,true),(9,false),(10,true),(11,true),(12,true),(13,true),(14,true)] (by kernel_rfl) ?_;refine goY ?_;refine jO rfl (jM y3 (gEk aw)) ?_;refine goY ?_;obtain⟨x7,al,h⟩:=gJ h;rw [gCk] at al;obtain⟨am,an,ao⟩:=x7;refine jO rfl (jM y3 (gEk al)) ?_;refine goY ?_;obtain⟨⟨a0,ad⟩,ax,h⟩:=gJ h;refine gU2 [0] (q (gB.mk ai aj ak) (gB.mk am an ao) y1 v2 ax) ?_;rintro _ _ ⟨ay,v9,aq,⟨ae,rfl,rfl⟩ | ⟨ae,rfl,rfl⟩⟩
  ·replace h:=kT ae h;refine gRz (sv:=.tup [.sl 0 v9,.B true]) (L':=[.arr 192 4 v9 (jY ad)]) (by repeat(first | exact vE.nil | (apply vE.keep;focus ((repeat constructor);done)) | (apply vE.dep;focus kernel_rfl))) ?_;refine goY ?_;refine kX ?_;refine goL ?_;refine hTn ?_;refine goS ?_;refine jK (kD y3 (by omega)) ?_;exact⟨(y3+1),ad,v9,h,by omega,eJ⟩
  ·replace h:=kU ae h;refine gRz (sv:=.tup [.sl 0 ay,.B false]) (L':=[.arr 192 4 v9 (jY aq)]) (by repeat(first | exact vE.nil | (apply vE.keep;focus ((repeat constructor);done)) | (apply vE.dep;focus kernel_rfl))) ?_;refine goY ?_;refine kX ?_;refine goL ?_;refine hTm ?_;refine goL ?_;refine jG ?_;obtain rfl:=Option.some.inj h;exact gBa [.sl 0 v2,.B false] _ ⟨v2,v9,aq,.inr ⟨rfl,rfl,rfl⟩⟩
 ·have y:=vG c5;rw [jH y,gEy.eq_1] at h;refine goX ?_;refine jG ?_;obtain rfl:=Option.some.inj h;exact gBa [.sl 0 v2,.B true] _ ⟨v2,v2,[],.inl ⟨rfl,rfl,rfl⟩⟩
mutual
def gI2:Nat→gB→gB→(List gV)→Option (Bool × List gV)
 | 0,_,_,_=>none
 | n+1,c,f,h=>gO0 (gI2 n) (gLu n) c f h
def gLu:Nat→(List gB)→(List gB)→(List gV)→Option (Bool × List gV)
 | 0,_,_,_=>none
 | n+1,c,f,h=>gTo (gI2 n) (gLu n) c f h
end
theorem hCz:∀(n:Nat),gTm (gI2 n)∧gTn (gLu n):=by
 intro n
 induction n with
 | zero=>exact⟨(by intro c f q y r h;cases h),(by intro c f q y r h;cases h)⟩
 | succ n ih=>
   obtain⟨ih0,ih1⟩:=ih;refine⟨(fun c f q y r h=>hF5 ih0 ih1 c f q y h),(fun c f q y r h=>hJk ih0 ih1 c f q y h)⟩
theorem hJl:∀(n:Nat),gTn (gLu n):=fun n=>(hCz n).2
def gI3(c:List gB)(a1:List gB):Option (List gV × Bool):=
(cnd ((c.length:Int) !=(a1.length:Int)) (
(some ([],false))) (
bnd (gLu 100000 c a1 []) fun f=>
(cnd f.1 (
(some (f.2,true))) (
(some ([],false))))))
theorem gWq(f:List gB)(a1:List gB){r:List gV × Bool}(h:gI3 f a1=some r):jF Tryz.prog 158 [.L 3 (gK f),.L 3 (gK a1)] [.sl 4 (jY r.1),.b r.2]:=by
 unfold gI3 at h;refine SpI Tryz.func158 fun A _=>?_;refine goC h ?_ ?_<;>intro c1 h
 ·refine goL ?_;refine zS ?_;refine goL ?_;refine gW 0 rfl rfl ?_;refine jG ?_;cases h;exact uA
 ·refine goS ?_;refine zS ?_;obtain⟨⟨ab,c⟩,q,h⟩:=gJ h;refine gCl [0] (hJl 100000 f a1 [] 0 q) ?_;rintro _ _ ⟨u4,y,j5,⟨q6,rfl,rfl⟩ | ⟨q6,rfl,rfl⟩⟩
  ·replace h:=kT q6 h;show VO _ _ _ _ ⟨(_,.tup [.sl 0 y,.B true])::_,[.arr 192 4 y (jY c)],_⟩ _;refine goL ?_;refine hTn ?_;refine goS ?_;refine gW 0 rfl rfl ?_;refine jG ?_;cases h;exact uA
  ·replace h:=kU q6 h;show VO _ _ _ _ ⟨(_,.tup [.sl 0 u4,.B false])::_,[.arr 192 4 y (jY j5)],_⟩ _;refine goL ?_;refine hTm ?_;refine goL ?_;refine zS ?_;refine goL ?_;refine gW 1 rfl rfl ?_;refine jG ?_;cases h;exact uA
def gIi(f:gB)(a1:gB):Option (List gV × Bool):=
bnd (gI3 [f] [a1]) fun c=>
(some (c.1,c.2))
theorem gVa(a0:gB)(a1:gB){r:List gV × Bool}(h:gIi a0 a1=some r):jF Tryz.prog 125 [.d (kZ a0),.d (kZ a1)] [.sl 4 (jY r.1),.b r.2]:=by
 obtain⟨c,f,q⟩:=a0;obtain⟨y,aa,ab⟩:=a1;unfold gIi at h;refine SpI Tryz.func125 fun A _=>?_;refine goL ?_;refine uQ (u:=(.st [.i .i64 c,.s f,.sl 3 (gK q)])) ?_;refine goL ?_;refine uQ (u:=(.st [.i .i64 y,.s aa,.sl 3 (gK ab)])) ?_;refine mD 2 rfl rfl ?_;refine mD 3 rfl rfl ?_;obtain⟨⟨ae,ag⟩,ad,h⟩:=gJ h;refine yS (gRj (gWq [(gB.mk c f q)] [(gB.mk y aa ab)] ad)) ?_;exact goR h
def gGi(c:gB)(a1:gB):Option (Bool):=
bnd (gIi c a1) fun f=>
(some f.2)
theorem gR7(c:gB)(a1:gB){r:Bool}(h:gGi c a1=some r):jF Tryz.prog 167 [.d (kZ c),.d (kZ a1)] [.b r]:=by
 obtain⟨q,y,aa⟩:=c;obtain⟨ab,ac,ad⟩:=a1;unfold gGi at h;refine SpI Tryz.func167 fun A _=>?_;refine goL ?_;obtain⟨⟨ae,ag⟩,f,h⟩:=gJ h;refine qM (gG (gVa _ _ f)) ?_;exact goR h
def gO1(f:(List gV)→gB→gB→Option (Bool × List gV))(c:(List gV)→(List gB)→(List gB)→Option (Bool × List gV))(h:List gV)(p:gB)(t:gB):Option (Bool × List gV):=
(cnd (p.kind==1) (
bnd (gIj h p.name) fun y=>
(cnd y.2 (
(some ((teq y.1 t),h))) (
gd (tok t) (lt_ (idT t) fun x5=>
gd (h.length+[(gV.mk p.name x5)].length≤4294967296) (
(some (true,(h++[(gV.mk p.name x5)])))))))) (
lt_ ((cnd (p.kind != t.kind) (true) ((!(p.name==t.name))))) fun b7=>
(cnd b7 (
(some (false,[]))) (
bnd (c h p.args t.args) fun q=>
(some (q.1,q.2))))))
def gTp(c:(List gV)→gB→gB→Option (Bool × List gV)):Prop:=∀(f:List gV)(h:gB)(q:gB)(y:Nat){r:Bool × List gV},c f h q=some r→Go.Eng.Spec Tryz.prog 135 [.sl 0 y,.d (kZ h),.d (kZ q)] [.arr 192 4 y (jY f)] (fun sv Lo=>∃v'0,sv=.tup [.sl 0 v'0,.B r.1]∧Lo=[.arr 192 4 v'0 (jY r.2)])
def gI4(c:(List gV)→(List gB)→(List gB)→Option (Bool × List gV)):Prop:=∀(f:List gV)(h:List gB)(q:List gB)(y:Nat){r:Bool × List gV},c f h q=some r→Go.Eng.Spec Tryz.prog 89 [.sl 0 y,.L 3 (gK h),.L 3 (gK q)] [.arr 192 4 y (jY f)] (fun sv Lo=>∃v'0,sv=.tup [.sl 0 v'0,.B r.1]∧Lo=[.arr 192 4 v'0 (jY r.2)])
theorem hF6{f}{c}(ai:gTp f)(q:gI4 c)(l0:List gV)(p:gB)(t:gB)(v0:Nat){r:Bool × List gV}(h:gO1 f c l0 p t=some r):Go.Eng.Spec Tryz.prog 135 [.sl 0 v0,.d (kZ p),.d (kZ t)] [.arr 192 4 v0 (jY l0)] (fun sv Lo=>∃v'0,sv=.tup [.sl 0 v'0,.B r.1]∧Lo=[.arr 192 4 v'0 (jY r.2)]):=by
 obtain⟨ao,aj,al⟩:=p;obtain⟨ae,ag,ac⟩:=t;unfold gO1 at h;refine kS 1 Tryz.func135 rfl (by kernel_rfl) rfl rfl fun A _=>?_;refine goC h ?_ ?_<;>intro c1 h
 ·refine goL ?_;obtain⟨⟨⟨y,aa,ab⟩,ax⟩,av,h⟩:=gJ h;refine gIe (gVo l0 aj av) ?_;refine goC h ?_ ?_<;>intro c3 h
  ·refine goL ?_;refine gAc (gUo (gOb (gB.mk y aa ab) (gB.mk ae ag ac))) ?_;refine jG ?_;obtain rfl:=Option.some.inj h;exact gBa [.sl 0 v0,.d (.b (teq (gB.mk y aa ab) (gB.mk ae ag ac)))] _ ⟨v0,rfl,rfl⟩
  ·refine noS ?_;refine jL (P:=Tryz.prog) Mix.h [(0,true),(1,true),(2,true),(3,true),(4,false),(5,true),(6,false),(7,false),(8,true),(9,true)] (by kernel_rfl) ?_;refine goY ?_;obtain⟨g4,h⟩:=pO h;obtain⟨⟨ap,aq,ar⟩,aw,h⟩:=qW h;have sx5:=gJe (gB.mk ae ag ac) g4;rw [aw] at sx5;refine gQh (sx5) ?_;refine goY ?_;refine gG2 5 rfl rfl ?_;refine jT (T:=118) (us:=jY [(gV.mk aj (gB.mk ap aq ar))]) ?_;obtain⟨g6,h⟩:=pO h;refine jR (T:=118) g6 ?_;refine goY ?_;refine kX ?_;refine goL ?_;refine jG ?_;obtain rfl:=Option.some.inj h;exact gBa [.sl 0 (v0+1),.B true] _ ⟨(v0+1),rfl,rfl⟩
 ·refine goS ?_;obtain⟨b7,hb7,h⟩:=qW h;refine kC ⟨[(0,.sl 0 v0),(4,.ptr 1 0),(5,.ptr 2 0),(44,.B b7)],[.arr 192 4 v0 (jY l0),bTy ao aj al,bTy ae ag ac],Tryz.f135.ntmps⟩ ?_ ?_
  ·exact gqZ 38 hb7
  refine goC h ?_ ?_<;>intro c9 h
  ·refine goL ?_;refine hBu 6 0 ?_;refine jG ?_;obtain rfl:=Option.some.inj h;exact gBa [.sl 0 (v0+1),.B false] _ ⟨(v0+1),rfl,rfl⟩
  ·refine goS ?_;obtain⟨⟨ah,am⟩,au,h⟩:=gJ h;refine gCl [0] (q l0 al ac v0 au) ?_;rintro _ _ ⟨ak,rfl,rfl⟩;show VO _ _ _ _ ⟨(_,.tup [.sl 0 ak,.B ah])::_,[.arr 192 4 ak (jY am),bTy ao aj al,bTy ae ag ac],_⟩ _;refine goL ?_;refine jG ?_;obtain rfl:=Option.some.inj h;exact gBa [.sl 0 ak,.B ah] _ ⟨ak,rfl,rfl⟩
def zR(c:(List gV)→gB→gB→Option (Bool × List gV))(all:List gB):List gB→Nat→(List gV)→Option (Bool × List gV)
 | [],f,h=>(some (true,h))
 | y::xs,f,h=>bnd (at? all (f:Int)) fun x8=>
bnd (c h y x8) fun q=>
(cnd (!q.1) (
(some (false,[]))) (
zR c all xs (f+1) q.2))
def gI5(c:(List gV)→gB→gB→Option (Bool × List gV))(f:(List gV)→(List gB)→(List gB)→Option (Bool × List gV))(h:List gV)(p:List gB)(all:List gB):Option (Bool × List gV):=
(cnd ((p.length:Int) !=(all.length:Int)) (
(some (false,[]))) (
zR c all p 0 h))
theorem gWr{c}{f}(q:gTp c)(aa:gI4 f)(l0:List gV)(p:List gB)(all:List gB)(v0:Nat){r:Bool × List gV}(h:gI5 c f l0 p all=some r):Go.Eng.Spec Tryz.prog 89 [.sl 0 v0,.L 3 (gK p),.L 3 (gK all)] [.arr 192 4 v0 (jY l0)] (fun sv Lo=>∃v'0,sv=.tup [.sl 0 v'0,.B r.1]∧Lo=[.arr 192 4 v'0 (jY r.2)]):=by
 unfold gI5 at h;refine kS 1 Tryz.func89 rfl (by kernel_rfl) rfl rfl fun A _=>?_;refine goC h ?_ ?_<;>intro c1 h
 ·refine goL ?_;refine hBu 6 0 ?_;refine jG ?_;obtain rfl:=Option.some.inj h;exact gBa [.sl 0 (v0+1),.B false] _ ⟨(v0+1),rfl,rfl⟩
 ·refine goS ?_;refine noB ?_;refine gCm 1 (fun z5=>?_);refine kV (fun(y4:Nat)(y2:List gV)(v3:Nat)=>⟨[(0,.sl 0 v3),(1,.L 3 (gK p)),(2,.L 3 (gK all)),(17,.I (p.length:Int)),(18,.N y4)],[.arr 192 4 v3 (jY y2)],Tryz.f89.ntmps⟩) (fun y4 y2 v3=>zR c all (p.drop y4) y4 y2=some r) (fun y4 y2 v3=>p.length - y4) 0 l0 v0 eJ h ?_;rintro y4 y2 v3 h;refine goL ?_;refine kH (mQ (fun c6=>?_) (fun c6=>?_))
  ·have y:=vF c6;obtain⟨x7,av,ai⟩:=drop_at y;rw [ai,zR.eq_2] at h;obtain⟨aj,ak,al⟩:=x7;refine noS ?_;refine kH (jE ?_);refine gHi ?_;refine jL (P:=Tryz.prog) Mix.h [(0,true),(1,true),(2,true),(3,true),(4,true),(5,true),(6,true),(7,true),(8,true),(9,false),(10,true),(11,true),(12,true),(13,true),(14,true)] (by kernel_rfl) ?_;refine goY ?_;refine jO rfl (jM y4 (gEk av)) ?_;refine goY ?_;obtain⟨x8,am,h⟩:=gJ h;rw [gCk] at am;obtain⟨an,ao,ap⟩:=x8;refine jO rfl (jM y4 (gEk am)) ?_;refine goY ?_;obtain⟨⟨aq,ae⟩,aw,h⟩:=gJ h;refine gU2 [0] (q y2 (gB.mk aj ak al) (gB.mk an ao ap) v3 aw) ?_;rintro _ _ ⟨ac,rfl,rfl⟩;refine gRz (sv:=.tup [.sl 0 ac,.B aq]) (L':=[.arr 192 4 ac (jY ae)]) (by repeat(first | exact vE.nil | (apply vE.keep;focus ((repeat constructor);done)) | (apply vE.dep;focus kernel_rfl))) ?_;refine goY ?_;refine kX ?_;refine goC h ?_ ?_<;>intro a0 h
   ·refine goL ?_;refine hBu 6 0 ?_;refine jG ?_;obtain rfl:=Option.some.inj h;exact gBa [.sl 0 (ac+1),.B false] _ ⟨(ac+1),rfl,rfl⟩
   ·refine goS ?_;refine jK (kD y4 (by omega)) ?_;exact⟨(y4+1),ae,ac,h,by omega,eJ⟩
  ·have y:=vG c6;rw [jH y,zR.eq_1] at h;refine goX ?_;refine jG ?_;obtain rfl:=Option.some.inj h;exact gBa [.sl 0 v3,.B true] _ ⟨v3,rfl,rfl⟩
mutual
def gI6:Nat→(List gV)→gB→gB→Option (Bool × List gV)
 | 0,_,_,_=>none
 | n+1,c,f,h=>gO1 (gI6 n) (gB3 n) c f h
def gB3:Nat→(List gV)→(List gB)→(List gB)→Option (Bool × List gV)
 | 0,_,_,_=>none
 | n+1,c,f,h=>gI5 (gI6 n) (gB3 n) c f h
end
theorem hC1:∀(n:Nat),gTp (gI6 n)∧gI4 (gB3 n):=by
 intro n
 induction n with
 | zero=>exact⟨(by intro c f q y r h;cases h),(by intro c f q y r h;cases h)⟩
 | succ n ih=>
   obtain⟨ih0,ih1⟩:=ih;refine⟨(fun c f q y r h=>hF6 ih0 ih1 c f q y h),(fun c f q y r h=>gWr ih0 ih1 c f q y h)⟩
theorem gWs:∀(n:Nat),gI4 (gB3 n):=fun n=>(hC1 n).2
def gHm(a b:List gB):Option (List gV × Bool):=(gB3 100000 [] a b).map fun r=>(r.2,r.1)
theorem gRm(a b:List gB){r:List gV × Bool}(h:gHm a b=some r):Go.Eng.Spec Tryz.prog 89 [.nilsl,.L 3 (gK a),.L 3 (gK b)] [] (fun sv Lo=>sv=.tup [.L 4 (jY r.1),.B r.2]∧Lo=[]):=by
 unfold gHm at h;cases hm:gB3 100000 [] a b with
 | none=>rw [hm] at h;cases h
 | some p=>
   rw [hm] at h;simp only [Option.map_some,Option.some.injEq] at h;subst h;exact Spec.nilF (gWs 100000 [] a b 0 hm)
def gC1(f:gB)(a1:gB):Option (List gV × Bool):=
bnd (gHm [f] [a1]) fun c=>
(some (c.1,c.2))
theorem gMz(a0:gB)(a1:gB){r:List gV × Bool}(h:gC1 a0 a1=some r):jF Tryz.prog 58 [.d (kZ a0),.d (kZ a1)] [.sl 4 (jY r.1),.b r.2]:=by
 obtain⟨c,f,q⟩:=a0;obtain⟨y,aa,ab⟩:=a1;unfold gC1 at h;refine SpI Tryz.func58 fun A _=>?_;refine goL ?_;refine uQ (u:=(.st [.i .i64 c,.s f,.sl 3 (gK q)])) ?_;refine goL ?_;refine uQ (u:=(.st [.i .i64 y,.s aa,.sl 3 (gK ab)])) ?_;refine mD 2 rfl rfl ?_;refine mD 3 rfl rfl ?_;obtain⟨⟨ac,ad⟩,ag,h⟩:=gJ h;refine gCl [] (gRm [(gB.mk c f q)] [(gB.mk y aa ab)] ag) ?_;rintro _ _ ⟨rfl,rfl⟩;show VO _ _ _ _ ⟨(_,.tup [.L 4 (jY ac),.B ad])::_,[bTy c f q,bTy y aa ab,.frz 37 3 0 (gK [(gB.mk c f q)]),.frz 37 3 0 (gK [(gB.mk y aa ab)])],_⟩ _;exact goR h
def gEz(c:gB)(a1:gB):Option (Bool):=
bnd (gC1 c a1) fun f=>
(some f.2)
theorem gNx(c:gB)(a1:gB){r:Bool}(h:gEz c a1=some r):jF Tryz.prog 131 [.d (kZ c),.d (kZ a1)] [.b r]:=by
 obtain⟨q,y,aa⟩:=c;obtain⟨ab,ac,ad⟩:=a1;unfold gEz at h;refine SpI Tryz.func131 fun A _=>?_;refine goL ?_;obtain⟨⟨ae,ag⟩,f,h⟩:=gJ h;refine qM (gG (gMz _ _ f)) ?_;exact goR h
mutual
def mtT:gB→gB→List gV→Option (List gV)
 | ⟨k,n,ps⟩,t,l=>cnd (k==1) (cnd (lkp n l).2 (cnd (teq (lkp n l).1 t) (some l) none) (some (l++[⟨n,t⟩])))
   (cnd (cnd (k != t.kind) true (cnd (!(n==t.name)) true ((ps.length:Int) !=(t.args.length:Int)))) none (gWt ps t.args l))
def gWt:List gB→List gB→List gV→Option (List gV)
 | [],_,l=>some l
 | _::_,[],_=>none
 | p::ps,t::ts,l=>bnd (mtT p t l) fun l'=>gWt ps ts l'
end
def Agr:Option (List gV)→Bool × List gV→Prop
 | none,q=>q.1=false
 | some l,q=>q=(true,l)
mutual
theorem gTq{Q:gB→Prop}(hQ:∀x,Q x→∀y∈x.args,Q y):∀(p t:gB)(l l':List gV),Q t→(∀b∈l,Q b.type_)→mtT p t l=some l'→(∀b∈l',Q b.type_)∧l'.length≤l.length+tnd p
 | ⟨k,n,ps⟩,t,l,l',ht,hl,h=>by
   simp only [mtT] at h;simp only [tnd];cases hk:(k==1)with
   | true=>
     simp only [hk,jV] at h;cases hb:(lkp n l).2 with
     | true=>
       simp only [hb,jV] at h;cases he:teq (lkp n l).1 t with
       | true=>simp only [he,jV,Option.some.injEq] at h;subst h;exact⟨hl,by omega⟩
       | false=>simp [he,jC] at h
     | false=>
       simp only [hb,jC,Option.some.injEq] at h;subst h;refine⟨fun b hb'=>?_,by simp only [List.length_append,List.length_cons,List.length_nil];omega⟩;rcases List.mem_append.1 hb' with hb' | hb'
       ·exact hl b hb'
       ·simp only [List.mem_singleton] at hb';subst hb';exact ht
   | false=>
     simp only [hk,jC] at h;cases hc:(cnd (k != t.kind) true (cnd (!(n==t.name)) true ((ps.length:Int) !=(t.args.length:Int))))with
     | true=>simp [hc,jV] at h
     | false=>
       simp only [hc,jC] at h
       have:=gYd hQ ps t.args l l' (hQ t ht) hl h
       exact⟨this.1,by omega⟩
theorem gYd{Q:gB→Prop}(hQ:∀x,Q x→∀y∈x.args,Q y):∀(ps ts:List gB)(l l':List gV),(∀t∈ts,Q t)→(∀b∈l,Q b.type_)→gWt ps ts l=some l'→(∀b∈l',Q b.type_)∧l'.length≤l.length+gGj ps
 | [],_,l,l',_,hl,h=>by simp only [gWt,Option.some.injEq] at h;subst h;exact⟨hl,by simp⟩
 | _::_,[],_,_,_,_,h=>by simp [gWt] at h
 | p::ps,t::ts,l,l',ht,hl,h=>by
   simp only [gWt] at h;obtain⟨c,f,q⟩:=gJ h;obtain⟨q1,q2⟩:=gTq hQ p t l c (ht t (by simp)) hl f;obtain⟨q3,q4⟩:=gYd hQ ps ts c l' (fun t h=>ht t (by simp [h])) q1 q;simp only [gGj];exact⟨q3,by omega⟩
end
theorem hMw:∀x,tok x→∀y∈x.args,tok y:=fun x hx y hy=>by
 obtain⟨k,n,ts⟩:=x;simp only [tok] at hx;exact gI7.1 hx.2 y hy
theorem gR8{n:Nat}(ih:∀(p t:gB)(l:List gV),2*tnd p≤n→bok l→tok t→l.length+tnd p≤4000000→∃q,gI2 n p t l=some q∧Agr (mtT p t l) q)(all:List gB)(hall:∀t∈all,tok t) :
  ∀(xs:List gB)(k:Nat)(l:List gV),2*gGj xs≤n→bok l→all.length=k+xs.length→l.length+gGj xs≤4000000→∃q,gEy (gI2 n) all xs k l=some q∧Agr (gWt xs (all.drop k) l) q
 | [],k,l,_,_,h,_=>⟨_,rfl,rfl⟩
 | x::xs,k,l,hn,hb,h,hl=>by
   simp only [List.length_cons] at h;simp only [gGj] at hn hl;have hk:k < all.length:=by omega
   have hx:all[k]? =some all[k]:=List.getElem?_eq_getElem hk;obtain⟨q,e1,c⟩:=ih x all[k] l (by omega) hb (hall _ (List.getElem_mem hk)) (by omega);rw [gEy.eq_2,gCk,hx,List.drop_eq_getElem_cons hk];simp only [bnd,e1,gWt];cases hm:mtT x all[k] l with
   | none=>
     rw [hm] at c;have f:q.1=false:=c;simp only [f,jC];exact⟨_,rfl,rfl⟩
   | some y=>
     rw [hm] at c;have f:q=(true,y):=c;subst f;simp only [jV];obtain⟨r1,r2⟩:=gTq hMw x all[k] l y (hall _ (List.getElem_mem hk)) hb hm;exact gR8 ih all hall xs (k+1) y (by omega) r1 (by omega) (by omega)
theorem gVb:∀(n:Nat),(∀(p t:gB)(l:List gV),2*tnd p≤n→bok l→tok t→l.length+tnd p≤4000000→∃q,gI2 n p t l=some q∧Agr (mtT p t l) q)∧
  (∀(ps ts:List gB)(l:List gV),2*gGj ps+1≤n→bok l→(∀t∈ts,tok t)→ts.length=ps.length→l.length+gGj ps≤4000000→∃q,gLu n ps ts l=some q∧Agr (gWt ps ts l) q)
 | 0=>⟨fun p t l h=>by have:=gI9 p;omega,fun ps ts l h=>by omega⟩
 | n+1=>by
   obtain⟨ih1,ih2⟩:=gVb n;refine⟨fun p t l hn hb ht hl=>?_,fun ps ts l hn hb ht hlen hl=>?_⟩
   ·obtain⟨k,nm,ps⟩:=p;simp only [tnd] at hn hl;rw [gI2.eq_2];unfold gO0;simp only [lt_,idT,mtT];cases hk:(k==1)with
    | true=>
      simp only [jV];have hlk:gIk l nm=some (lkp nm l):=gJi nm l hb;rw [kF hlk];cases (lkp nm l).2 with
      | true=>
        simp only [jV];refine⟨_,rfl,?_⟩;cases teq (lkp nm l).1 t<;>rfl
      | false=>
        simp only [jC];rw [uF ht,uF (by simp;omega)];exact⟨_,rfl,rfl⟩
    | false=>
      simp only [jC];cases c:(cnd (k != t.kind) true (cnd (!(nm==t.name)) true ((ps.length:Int) !=(t.args.length:Int))))with
      | true=>simp only [jV];exact⟨_,rfl,rfl⟩
      | false=>
        simp only [jC];have hlen:t.args.length=ps.length:=by
         cases h2:(k != t.kind)with
         | true=>rw [h2] at c;simp [jV] at c
         | false=>
           rw [h2] at c;simp only [jC] at c;cases h3:(!(nm==t.name))with
           | true=>rw [h3] at c;simp [jV] at c
           | false=>
             rw [h3] at c;simp only [jC] at c
             have:((ps.length:Int))=t.args.length:=by simpa using c
             omega
        obtain⟨q,e1,f⟩:=ih2 ps t.args l (by omega) hb (hMw t ht) hlen (by omega);rw [kF e1];cases hm:gWt ps t.args l with
        | none=>
          rw [hm] at f;have y:q.1=false:=f;simp only [y,jC];exact⟨_,rfl,rfl⟩
        | some l1=>
          rw [hm] at f;have y:q=(true,l1):=f;subst y;exact⟨_,rfl,rfl⟩
   ·rw [gLu.eq_2];unfold gTo
    have:=gR8 ih1 ts ht ps 0 l (by omega) hb (by omega) (by omega)
    rwa [List.drop_zero] at this
theorem gR9{n:Nat}(ih:∀(p t:gB)(l:List gV),2*tnd p≤n→bok l→tok t→l.length+tnd p≤4000000→∃q,gI6 n l p t=some q∧Agr (mtT p t l) q)(all:List gB)(hall:∀t∈all,tok t) :
  ∀(xs:List gB)(k:Nat)(l:List gV),2*gGj xs≤n→bok l→all.length=k+xs.length→l.length+gGj xs≤4000000→∃q,zR (gI6 n) all xs k l=some q∧Agr (gWt xs (all.drop k) l) q
 | [],k,l,_,_,h,_=>⟨_,rfl,rfl⟩
 | x::xs,k,l,hn,hb,h,hl=>by
   simp only [List.length_cons] at h;simp only [gGj] at hn hl;have hk:k < all.length:=by omega
   have hx:all[k]? =some all[k]:=List.getElem?_eq_getElem hk;obtain⟨q,e1,c⟩:=ih x all[k] l (by omega) hb (hall _ (List.getElem_mem hk)) (by omega);rw [zR.eq_2,gCk,hx,List.drop_eq_getElem_cons hk];simp only [bnd,e1,gWt];cases hm:mtT x all[k] l with
   | none=>
     rw [hm] at c;have f:q.1=false:=c;simp only [f,Bool.not_false,jV];exact⟨_,rfl,rfl⟩
   | some y=>
     rw [hm] at c;have f:q=(true,y):=c;subst f;simp only [Bool.not_true,jC];obtain⟨r1,r2⟩:=gTq hMw x all[k] l y (hall _ (List.getElem_mem hk)) hb hm;exact gR9 ih all hall xs (k+1) y (by omega) r1 (by omega) (by omega)
theorem gVc:∀(n:Nat),(∀(p t:gB)(l:List gV),2*tnd p≤n→bok l→tok t→l.length+tnd p≤4000000→∃q,gI6 n l p t=some q∧Agr (mtT p t l) q)∧
  (∀(ps ts:List gB)(l:List gV),2*gGj ps+1≤n→bok l→(∀t∈ts,tok t)→l.length+gGj ps≤4000000→∃q,gB3 n l ps ts=some q∧Agr (cnd ((ps.length:Int) !=(ts.length:Int)) none (gWt ps ts l)) q)
 | 0=>⟨fun p t l h=>by have:=gI9 p;omega,fun ps ts l h=>by omega⟩
 | n+1=>by
   obtain⟨ih1,ih2⟩:=gVc n;refine⟨fun p t l hn hb ht hl=>?_,fun ps ts l hn hb ht hl=>?_⟩
   ·obtain⟨k,nm,ps⟩:=p;simp only [tnd] at hn hl;rw [gI6.eq_2];unfold gO1;simp only [lt_,idT,mtT];cases hk:(k==1)with
    | true=>
      simp only [jV];have hlk:gIj l nm=some (lkp nm l):=gJh nm l hb;rw [kF hlk];cases (lkp nm l).2 with
      | true=>
        simp only [jV];refine⟨_,rfl,?_⟩;cases teq (lkp nm l).1 t<;>rfl
      | false=>
        simp only [jC];rw [uF ht,uF (by simp;omega)];exact⟨_,rfl,rfl⟩
    | false=>
      simp only [jC];obtain⟨q,f,y⟩:=ih2 ps t.args l (by omega) hb (hMw t ht) (by omega);cases c:(k != t.kind)with
      | true=>simp only [jV];exact⟨_,rfl,rfl⟩
      | false=>
        simp only [jC];cases h2:(!(nm==t.name))with
        | true=>simp only [jV];exact⟨_,rfl,rfl⟩
        | false=>
          simp only [jC];rw [kF f];exact⟨_,rfl,y⟩
   ·rw [gB3.eq_2];unfold gI5;cases c:((ps.length:Int) !=(ts.length:Int))with
    | true=>simp only [jV];exact⟨_,rfl,rfl⟩
    | false=>
      simp only [jC];have hlen:ts.length=0+ps.length:=by
       have:((ps.length:Int))=ts.length:=by simpa using c
       omega
      have:=gR9 ih1 ts ht ps 0 l (by omega) hb hlen (by omega)
      rwa [List.drop_zero] at this
theorem gSa(p t:gB)(hp:tnd p≤40000)(ht:tok t):∃q,gC1 p t=some (q.2,q.1)∧Agr (mtT p t []) q:=by
 obtain⟨q,f,c⟩:=(gVc 100000).2 [p] [t] [] (by simp only [gGj];omega) (fun b hb=>by simp at hb) (by simpa using ht) (by simp [gGj];omega);refine⟨q,?_,?_⟩
 ·unfold gC1 gHm;rw [f];rfl
 ·have h:((([p]:List gB).length:Int) !=(([t]:List gB).length:Int))=false:=by simp
  rw [h,jC] at c;simp only [gWt] at c;cases hm:mtT p t [] with
  | none=>rw [hm] at c;exact c
  | some l=>rw [hm] at c;exact c
theorem Agr.fst{r:Option (List gV)}{q:Bool × List gV}(h:Agr r q):q.1=r.isSome:=by
 cases r with
 | none=>exact h
 | some l=>
   have h:q=(true,l):=h;rw [h];rfl
theorem gLv(p t:gB)(hp:tnd p≤40000)(ht:tok t):gEz p t=some (mtT p t []).isSome:=by
 obtain⟨q,c,f⟩:=gSa p t hp ht;unfold gEz;rw [kF c,←f.fst]
end Go.Proofs.YtfpdlnkkcnmebaaGreat
