import Derived.Test.YtegahmhnmjnhhaaGreatB9
set_option maxHeartbeats 4000000
set_option linter.unusedVariables false
set_option linter.unusedSimpArgs false
set_option linter.unusedSectionVars false
namespace Go.Proofs.YtegahmhnmjnhhaaGreat
open Go Go.Eng
attribute [local irreducible] V VO VQ VY Quiet QR jC kT Rng mU mV mI
def zF(c:gI→(List gU)→gY→Int→Option (gQ × Int))(a0:gI)(a1:List gU)(a3:Int)(x1:gH × Int)(x5:List gG × Bool):List gY→(List gQ)→Option (gQ × Int)
 | [],y=>(some ((gQ.mk 1 0 x1.1 y),0))
 | h::xs,y=>gd (bok x5.1∧tok h.type_) (lt_ (apT x5.1 h.type_) fun ab=>
bnd (c a0 a1 (gY.mk h.trait ab) (IntKind.i64.wrap (a3 - 1))) fun f=>
(cnd (f.2 != 0) (
(some ((gQ.mk 0 0 (gH.mk 0 0) []),f.2))) (
gd (y.length+[f.1].length≤4294967296) (
zF c a0 a1 a3 x1 x5 xs (y++[f.1])))))
def gK0(f:gI→(List gU)→gY→Int→Option (gQ × Int))(c:gI→(List gU)→gY→Int→Option (gQ × Int))(y:gI)(a1:List gU)(a2:gY)(a3:Int):Option (gQ × Int):=
bnd (gAh y a2) fun h=>
(cnd (h.2 != 0) (
(some ((gQ.mk 0 0 (gH.mk 0 0) []),h.2))) (
bnd (at? y.packages h.1.package) fun x3=>
bnd (at? x3.instances h.1.at_) fun x4=>
bnd (gFw x4.head a2.type_) fun x5=>
zF c y a1 a3 h x5 x4.where_ []))
def gRd(c:gI→(List gU)→gY→Int→Option (gQ × Int)):Prop:=∀(f:gI) (h:List gU) (y:gY) (x3:Int) {r:gQ × Int},c f h y x3=some r→jC Tryz.prog 195 [.d (kR f),.L 6 (gM h),.d (zY y),.I x3] [pY r.1,.i .i64 r.2]
def gL4(c:gI→(List gU)→gY→Int→Option (gQ × Int)):Prop:=∀(f:gI) (h:List gU) (y:gY) (x3:Int) {r:gQ × Int},c f h y x3=some r→jC Tryz.prog 158 [.d (kR f),.L 6 (gM h),.d (zY y),.I x3] [pY r.1,.i .i64 r.2]
theorem hF4{f}{c}(ao:gRd f)(y:gL4 c)(a0:gI)(a1:List gU)(a2:gY)(a3:Int){r:gQ × Int}(h:gK0 f c a0 a1 a2 a3=some r):jC Tryz.prog 195 [.d (kR a0),.L 6 (gM a1),.d (zY a2),.I a3] [pY r.1,.i .i64 r.2]:=by
 obtain⟨a6⟩:=a0;obtain⟨be,⟨aq,ar,au⟩⟩:=a2;unfold gK0 at h;refine SpI Tryz.func195 fun A _=>?_;refine goL ?_;obtain⟨⟨⟨ac,ad⟩,bf⟩,bt,h⟩:=gP h;refine jL (gF (gPa _ _ bt)) ?_;refine kX (fun c2=>?_) (fun c2=>?_)
 ·replace h:=kD c2 h;refine goL ?_;refine gAq (jU TBd.h TZ.h rfl (by repeat constructor)) ?_;exact goR h
 ·replace h:=kE c2 h;refine noS ?_;refine jO (P:=Tryz.prog) Mix.h [(0,true),(1,true),(2,true),(3,true),(4,true),(5,true),(6,true),(7,true),(8,true),(9,true),(10,true),(11,false),(12,false)] (by kernel_rfl) ?_;refine goY ?_;obtain⟨x3,a8,h⟩:=gP h;obtain⟨bg,a8⟩:=gEd a8;obtain⟨b5,b6,b7,b8,b9,ca⟩:=x3;refine jI rfl (qP bg (gBw a8)) ?_;refine goY ?_;obtain⟨x4,a9,h⟩:=gP h;obtain⟨bh,a9⟩:=gEd a9;obtain⟨bi,bj,⟨av,aw,ax⟩,aj,bk,bl,⟨ay,a4,a5⟩,bm⟩:=x4;refine jI rfl (qP bh (gHn a9)) ?_;refine goY ?_;refine kQ ?_;refine goL ?_;obtain⟨⟨ak,bn⟩,bv,h⟩:=gP h;refine jL (gF (gS8 _ _ bv)) ?_;refine gBn (jU TBd.h TZ.h rfl (by repeat constructor)) ?_;refine noB ?_;refine wT 147 5 5 4 rfl rfl (by repeat constructor) (by repeat constructor) (by repeat constructor) (by repeat constructor) ?_;show V _ _ _ _ _;refine wN 4 5 (fun z9=>?_);refine kS (fun(y8:Nat) (y6:List gQ) (v7:Nat)=>⟨[(1,.L 6 (gM a1)),(3,.I a3),(4,.ptr 0 0),(8,.ptr 2 0),(12,.ptr 4 0),(13,.L 4 (gN ak)),(15,.ptr 5 0),(16,.N y8)],[bPr a6,bBd be aq ar au,.box [.I 0,.I 0,.I 0,.I 0,.nilsl],.box [.I ac,.I ad],bIn bi bj av aw ax aj bk bl ay a4 a5 bm,.box [.I 1,.I 0,.I ac,.I ad,.sl 6 v7],.arr 147 5 v7 (jZ y6)],Tryz.f195.ntmps⟩) (fun y8 y6 v7=>zF c (gI.mk a6) a1 a3 ((gH.mk ac ad),bf) (ak,bn) (aj.drop y8) y6=some r) (fun y8 y6 v7=>aj.length - y8) 0 [] 0 eJ h ?_;rintro y8 y6 v7 h;refine goL ?_;refine kX (fun ba=>?_) (fun ba=>?_)
  ·have ai:=uR ba;obtain⟨bw,a7,bb⟩:=drop_at ai;rw [bb,zF.eq_2] at h;obtain⟨bx,⟨al,am,an⟩⟩:=bw;refine noS ?_;refine jW (jE ?_);refine jO (P:=Tryz.prog) Mix.h [(0,true),(1,true),(2,true),(3,true),(4,true),(5,true),(6,true),(7,true),(8,true),(9,true),(10,true),(11,true),(12,true),(13,true),(14,true),(15,true),(16,true),(17,true),(18,true),(19,true),(20,true),(21,true),(22,true),(23,false),(24,false),(25,true)] (by kernel_rfl) ?_;refine goY ?_;refine jI rfl (jM y8 (gHm a7)) ?_;refine goY ?_;refine jI rfl (jM y8 (gHm a7)) ?_;refine goY ?_;obtain⟨bz,h⟩:=mW h;obtain⟨⟨b0,b1,b2⟩,bo,h⟩:=qB h;have sx13:=(gWu ak (gB.mk al am an) bz).p;rw [bo] at sx13;refine jI rfl (gF (sx13)) ?_;refine goY ?_;refine jI rfl (pR) ?_;obtain⟨⟨⟨ae,ag,⟨aa,ab⟩,ah⟩,b3⟩,bp,h⟩:=gP h;refine jI rfl (gF (y _ _ _ _ bp)) ?_;refine goY ?_;refine kQ ?_;refine goC h ?_ ?_<;>intro cd h
   ·refine goL ?_;refine gAq (jU TBd.h TZ.h rfl (by repeat constructor)) ?_;exact goR h
   ·refine goS ?_;refine gAk (u:=(.st [.i .i64 ae,.i .i64 ag,.st [.i .i64 aa,.i .i64 ab],.sl 5 (jZ ah)])) ?_;obtain⟨b4,h⟩:=mW h;refine gBd b4 ?_;refine goL ?_;refine jL (jR y8 (by omega)) ?_;exact⟨(y8+1),(y6++[(gQ.mk ae ag (gH.mk aa ab) ah)]),(v7+1),h,by omega,eJ⟩
  ·have ai:=uS ba;rw [jF ai,zF.eq_1] at h;refine goX ?_;refine kN 6 rfl rfl ?_;refine jK ?_;cases h;exact qA
def gCk(c:gI→(List gU)→gY→Int→Option (gQ × Int))(f:gI→(List gU)→gY→Int→Option (gQ × Int))(a0:gI)(a1:List gU)(a2:gY)(a3:Int):Option (gQ × Int):=
(cnd (decide ((kH a1 a2)≥0)) (
bnd (at? a1 (kH a1 a2)) fun x2=>
bnd (qM (gQ.mk 2 x2.from_ (gH.mk 0 0) []) x2.steps) fun x3=>
(some (x3,0))) (
(cnd (decide (a3≤0)) (
(some ((gQ.mk 0 0 (gH.mk 0 0) []),3))) (
lt_ (yD a0 a2.trait) fun x5=>
(cnd x5.1.auto (
none) (
lt_ ((cnd (a2.type_.kind==1) (true) ((a2.type_.kind==3)))) fun b7=>
(cnd b7 (
(some ((gQ.mk 0 0 (gH.mk 0 0) []),1))) (
(cnd (a2.type_.kind==4) (
bnd (yJ a0 a2.type_.name a2.trait) fun h=>
(cnd h.2 (
bnd (qM (gQ.mk 4 0 (gH.mk 0 0) []) h.1) fun ad=>
(some (ad,0))) (
bnd (c a0 a1 a2 a3) fun y=>
(some (y.1,y.2))))) (
bnd (c a0 a1 a2 a3) fun aa=>
(some (aa.1,aa.2))))))))))))
theorem hEb{y}{c}(f:gRd y)(ad:gL4 c)(a0:gI)(a1:List gU)(a2:gY)(a3:Int){r:gQ × Int}(h:gCk y c a0 a1 a2 a3=some r):jC Tryz.prog 158 [.d (kR a0),.L 6 (gM a1),.d (zY a2),.I a3] [pY r.1,.i .i64 r.2]:=by
 obtain⟨am⟩:=a0;obtain⟨ae,⟨aa,ab,ac⟩⟩:=a2;unfold gCk at h;refine SpI Tryz.func158 fun A _=>?_;refine goL ?_;refine jL (gF (gO0 a1 (gY.mk ae (gB.mk aa ab ac)))) ?_;refine kX (fun c1=>?_) (fun c1=>?_)
 ·replace h:=kD c1 h;refine jO (P:=Tryz.prog) Mix.h [(0,true),(1,true),(2,true),(3,true),(4,true),(5,true),(6,true),(7,true),(8,true),(9,true),(10,true),(11,true),(12,false),(13,true)] (by kernel_rfl) ?_;refine goY ?_;obtain⟨x2,ag,h⟩:=gP h;obtain⟨an,ag⟩:=gEd ag;obtain⟨⟨bj,⟨ax,ay,a4⟩⟩,a5,a6⟩:=x2;refine jI rfl (qP an (gHq ag)) ?_;refine goY ?_;refine jI rfl (qP an (gHq ag)) ?_;refine goY ?_;obtain⟨⟨b1,b2,⟨bk,bl⟩,b3⟩,bp,h⟩:=gP h;refine jI rfl (gF ((gG8 (gQ.mk 2 a5 (gH.mk 0 0) []) a6 bp).p)) ?_;refine goY ?_;refine kQ ?_;exact goR h
 ·replace h:=kE c1 h;refine goS ?_;refine kX (fun c4=>?_) (fun c4=>?_)
  ·replace h:=kD c4 h;refine goL ?_;refine gAq (jU TBd.h TZ.h rfl (by repeat constructor)) ?_;exact goR h
  ·replace h:=kE c4 h;refine goS ?_;obtain⟨⟨⟨ah,ai,aj,ak,al⟩,b4,b5⟩,br,h⟩:=qB h;have sx5:=gLt (gI.mk am) ae;rw [br] at sx5;refine jL (gF (sx5)) ?_;refine kX (fun c6=>?_) (fun c6=>?_)
   ·replace h:=kD c6 h;refine goL ?_;refine gAl ?_;cases h
   ·replace h:=kE c6 h;refine goS ?_;obtain⟨b7,hb7,h⟩:=qB h;refine jT ⟨[(1,.L 6 (gM a1)),(3,.I a3),(4,.ptr 0 0),(6,.ptr 1 0),(8,.ptr 2 0),(66,.B b7)],[bPr am,bBd ae aa ab ac,.box [.I 0,.I 0,.I 0,.I 0,.nilsl],bTr ah ai aj ak al],Tryz.f158.ntmps⟩ ?_ ?_
    ·exact gqZ 61 hb7
    refine goC h ?_ ?_<;>intro c9 h
    ·refine goL ?_;refine gAq (jU TBd.h TZ.h rfl (by repeat constructor)) ?_;exact goR h
    ·refine goS ?_;refine kX (fun ao=>?_) (fun ao=>?_)
     ·replace h:=kD ao h;refine goL ?_;obtain⟨⟨ap,bu⟩,a7,h⟩:=gP h;refine jL (gF (gJa _ _ _ a7)) ?_;refine kX (fun aq=>?_) (fun aq=>?_)
      ·replace h:=kD aq h;refine goL ?_;refine gBn (jU TBd.h TZ.h rfl (by repeat constructor)) ?_;obtain⟨⟨bv,bw,⟨a8,a9⟩,bx⟩,ba,h⟩:=gP h;refine qI (gF ((gG8 (gQ.mk 4 0 (gH.mk 0 0) []) ap ba).p)) ?_;exact goR h
      ·replace h:=kE aq h;refine goS ?_;obtain⟨⟨⟨bb,bc,⟨ar,au⟩,bd⟩,bz⟩,be,h⟩:=gP h;refine qI (gF (f _ _ _ _ be)) ?_;exact goR h
     ·replace h:=kE ao h;refine goS ?_;obtain⟨⟨⟨bf,bg,⟨av,aw⟩,bh⟩,b0⟩,bi,h⟩:=gP h;refine qI (gF (f _ _ _ _ bi)) ?_;exact goR h
mutual
def gG2:Nat→gI→(List gU)→gY→Int→Option (gQ × Int)
 | 0,_,_,_,_=>none
 | n+1,c,f,h,y=>gK0 (gG2 n) (uD n) c f h y
def uD:Nat→gI→(List gU)→gY→Int→Option (gQ × Int)
 | 0,_,_,_,_=>none
 | n+1,c,f,h,y=>gCk (gG2 n) (uD n) c f h y
end
theorem hEc:∀(n:Nat),gRd (gG2 n)∧gL4 (uD n):=by
 intro n
 induction n with
 | zero=>exact⟨(by intro c f y x3 r h;cases h),(by intro c f y x3 r h;cases h)⟩
 | succ n ih=>
   obtain⟨ih0,ih1⟩:=ih;refine⟨(fun c f y x3 r h=>hF4 ih0 ih1 c f y x3 h),(fun c f y x3 r h=>hEb ih0 ih1 c f y x3 h)⟩
theorem hEd:∀(n:Nat),gL4 (uD n):=fun n=>(hEc n).2
def qC(a0:gI)(y3:Nat)(x6:gY)(f:(List gU)→Option (List gU)):List (List UInt8)→(List gU)→Option (List gU)
 | [],c=>(f c)
 | h::xs,c=>bnd (yJ a0 x6.trait h) fun y=>
gd (tok x6.type_) (lt_ (idT x6.type_) fun aa=>
gd (c.length+[(gU.mk (gY.mk h aa) (y3:Int) y.1)].length≤4294967296) (
qC a0 y3 x6 f xs (c++[(gU.mk (gY.mk h aa) (y3:Int) y.1)])))
def pK(y:gI):List gY→Nat→(List gU)→Option (List gU)
 | [],f,h=>(some h)
 | c::xs,f,h=>gd (tok c.type_) (lt_ (idT c.type_) fun x8=>
gd (h.length+[(gU.mk (gY.mk c.trait x8) (f:Int) [])].length≤4294967296) (
bnd (qQ y c.trait) fun aa=>
qC y f c (fun ab=>pK y xs (f+1) ab) aa (h++[(gU.mk (gY.mk c.trait x8) (f:Int) [])])))
def pQ(c:gI)(a1:List gY):Option (List gU):=
pK c a1 0 []
theorem gTm(a0:gI)(a1:List gY){r:List gU}(h:pQ a0 a1=some r):jC Tryz.prog 159 [.d (kR a0),.L 4 (kV a1)] [.sl 6 (gM r)]:=by
 obtain⟨ae⟩:=a0;unfold pQ at h;refine SpI Tryz.func159 fun A _=>?_;refine goL ?_;refine gAl ?_;refine goL ?_;refine noB ?_;refine gBx 1 (fun z4=>?_);refine kS (fun(c:Nat) (y1:List gU) (v2:Nat)=>⟨[(1,.L 4 (kV a1)),(2,.ptr 0 0),(5,.sl 1 v2),(6,.N c)],[bPr ae,.arr 121 6 v2 (gM y1)],Tryz.f159.ntmps⟩) (fun c y1 v2=>pK (gI.mk ae) (a1.drop c) c y1=some r) (fun c y1 v2=>a1.length - c) 0 [] 0 eJ h ?_;rintro c y1 v2 h;refine goL ?_;refine kX (fun c5=>?_) (fun c5=>?_)
 ·have ag:=uR c5;obtain⟨x6,aj,a3⟩:=drop_at ag;rw [a3,pK.eq_2] at h;obtain⟨ai,⟨y,aa,ab⟩⟩:=x6;refine noS ?_;refine jW (jE ?_);refine jO (P:=Tryz.prog) Mix.h [(0,true),(1,true),(2,true),(3,true),(4,true),(5,true),(6,true),(7,true),(8,true),(9,true),(10,true),(11,true),(12,true),(13,true),(14,true),(15,false),(16,false),(17,true)] (by kernel_rfl) ?_;refine goY ?_;refine jI rfl (jM c (gHm aj)) ?_;refine goY ?_;refine jI rfl (jM c (gHm aj)) ?_;refine goY ?_;obtain⟨g7,h⟩:=mW h;obtain⟨⟨ak,al,am⟩,ba,h⟩:=qB h;have sx8:=(zV (gB.mk y aa ab) g7).p;rw [ba] at sx8;refine jI rfl (gF (sx8)) ?_;refine goY ?_;refine qE (T:=88) (us:=gM [(gU.mk (gY.mk ai (gB.mk ak al am)) (c:Int) [])]) ?_;obtain⟨g9,h⟩:=mW h;refine pV (T:=88) g9 ?_;refine goY ?_;refine kQ ?_;refine goL ?_;refine gE7 (jM c (gHm aj)) ?_;refine goL ?_;obtain⟨au,a4,h⟩:=gP h;refine gE7 (gF (gPb _ _ a4)) ?_;refine goL ?_;refine noB ?_;refine gBx 7 (fun bh=>?_);refine kS (fun(f:Nat) (ac:List gU) (ah:Nat)=>⟨[(1,.L 4 (kV a1)),(2,.ptr 0 0),(5,.sl 1 ah),(6,.N c),(7,.L 1 (jP au)),(8,.N f)],[bPr ae,.arr 121 6 ah (gM ac),.arr 121 6 0 (gM [(gU.mk (gY.mk ai (gB.mk ak al am)) (c:Int) [])])],Tryz.f159.ntmps⟩) (fun f ac ah=>qC (gI.mk ae) c (gY.mk ai (gB.mk y aa ab)) (fun ac=>pK (gI.mk ae) (a1.drop (c+1)) (c+1) ac) (au.drop f) ac=some r) (fun f ac ah=>au.length - f) 0 (y1++[(gU.mk (gY.mk ai (gB.mk ak al am)) (c:Int) [])]) (v2+1) eJ h ?_;rintro f ac ah h;refine goL ?_;refine kX (fun av=>?_) (fun av=>?_)
  ·have ad:=uR av;obtain⟨a5,ar,aw⟩:=drop_at ad;rw [aw,qC.eq_2] at h;refine noS ?_;refine jW (jE ?_);refine goL ?_;refine gE7 (jM c (gHm aj)) ?_;refine goL ?_;refine gE7 (jM f (gQq ar)) ?_;refine goL ?_;obtain⟨⟨an,bb⟩,a6,h⟩:=gP h;refine gE7 (gF (gJa _ _ _ a6)) ?_;refine gH2 ?_;refine uF (P:=Tryz.prog) Mix.h [(0,true),(1,true),(2,true),(3,true),(4,true),(5,true),(6,true),(7,true),(8,true),(9,true),(10,true),(11,true),(12,true),(13,true),(14,true),(15,false),(16,false),(17,true)] (by kernel_rfl) ?_;refine goY ?_;refine jI rfl (jM f (gQq ar)) ?_;refine goY ?_;refine jI rfl (jM c (gHm aj)) ?_;refine goY ?_;obtain⟨bc,h⟩:=mW h;obtain⟨⟨ao,ap,aq⟩,a7,h⟩:=qB h;have sx19:=(zV (gB.mk y aa ab) bc).p;rw [a7] at sx19;refine jI rfl (gF (sx19)) ?_;refine goY ?_;refine qE (T:=88) (us:=gM [(gU.mk (gY.mk a5 (gB.mk ao ap aq)) (c:Int) an)]) ?_;obtain⟨bd,h⟩:=mW h;refine pV (T:=88) bd ?_;refine goY ?_;refine kQ ?_;refine goL ?_;refine jL (jR f (by omega)) ?_;exact⟨(f+1),(ac++[(gU.mk (gY.mk a5 (gB.mk ao ap aq)) (c:Int) an)]),(ah+1),h,by omega,eJ⟩
  ·have ad:=uS av;rw [jF ad,qC.eq_1] at h;refine goX ?_;refine jL (jR c (by omega)) ?_;exact⟨(c+1),ac,ah,h,by omega,eJ⟩
 ·have ag:=uS c5;rw [jF ag,pK.eq_1] at h;refine goX ?_;refine kN 1 rfl rfl ?_;refine jK ?_;cases h;exact qA
def qK(c:gD):Option (Bool):=
bnd (gVf 5000 c 900) fun f=>
bnd ((cnd (decide (f≥0)) (bnd (gVw 5000 c) fun h=>
(cnd h (bnd (gJv 5000 c) fun y=>
(some (decide (y≤14)))) ((some false)))) ((some false)))) fun b2=>
(some b2)
theorem yL(y:gD){r:Bool}(h:qK y=some r):jC Tryz.prog 111 [.d (pF y)] [.b r]:=by
 obtain⟨c,f⟩:=y;unfold qK at h;refine SpI Tryz.func111 fun A _=>?_;refine goL ?_;obtain⟨x1,aa,h⟩:=gP h;refine jL (gF (hLw _ _ _ aa)) ?_;obtain⟨b2,hb2,h⟩:=gP h;refine jT ⟨[(2,.B b2)],[bSx c f],Tryz.f111.ntmps⟩ ?_ ?_
 ·refine gqA 6 hb2 (fun c3 hb2=>?_);obtain⟨x4,ab,hb2⟩:=gP hb2;refine jL (gF (hMq _ _ ab)) ?_;refine gqA 10 hb2 (fun c5 hb2=>?_);obtain⟨x6,ac,hb2⟩:=gP hb2;refine jL (gF (gVn _ _ ac)) ?_;cases hb2;exact eJ
 exact goR h
def yG(c:List (List UInt8))(a1:Int):Option (Bool):=
bnd ((cnd (decide ((c.length:Int)≤a1)) ((cnd (gLg c) (bnd (wV c) fun f=>
(some f)) ((some false)))) ((some false)))) fun h=>
(some h)
theorem gAb(c:List (List UInt8))(a1:Int){r:Bool}(h:yG c a1=some r):jC Tryz.prog 138 [.L 1 (jP c),.I a1] [.b r]:=by
 unfold yG at h;refine SpI Tryz.func138 fun A _=>?_;refine goL ?_;obtain⟨y,hb1,h⟩:=gP h;refine jT ⟨[(4,.B y)],[],Tryz.f138.ntmps⟩ ?_ ?_
 ·refine gqA 9 hb1 (fun c2 hb1=>?_);refine jL (gF (gXg c)) ?_;refine gqA 13 hb1 (fun c3 hb1=>?_);obtain⟨x4,f,hb1⟩:=gP hb1;refine jL (gF (gBh _ f)) ?_;cases hb1;exact eJ
 exact goR h
def wU(c:gB):Option (Bool):=
bnd (gVk 5000 c 60) fun f=>
bnd ((cnd (decide (f≥0)) (bnd (gK9 5000 c) fun h=>
(cnd (decide (h≤6)) (bnd (gVr 5000 c) fun y=>
(some y)) ((some false)))) ((some false)))) fun b2=>
(some b2)
theorem gBf(a0:gB){r:Bool}(h:wU a0=some r):jC Tryz.prog 232 [.d (jS a0)] [.b r]:=by
 obtain⟨c,f,y⟩:=a0;unfold wU at h;refine SpI Tryz.func232 fun A _=>?_;refine goL ?_;obtain⟨x1,ab,h⟩:=gP h;refine jL (gF (hMa _ _ _ ab)) ?_;obtain⟨b2,hb2,h⟩:=gP h;refine jT ⟨[(2,.B b2)],[bTy c f y],Tryz.f232.ntmps⟩ ?_ ?_
 ·refine gqA 6 hb2 (fun c3 hb2=>?_);obtain⟨x4,ac,hb2⟩:=gP hb2;refine jL (gF (gW9 _ _ ac)) ?_;refine gqA 11 hb2 (fun c5 hb2=>?_);obtain⟨x6,ad,hb2⟩:=gP hb2;refine jL (gF (hMk _ _ ad)) ?_;cases hb2;exact eJ
 exact goR h
def gE4(c:gI)(a1:List gY)(a2:gY):Option (gQ × Int):=
bnd (pQ c a1) fun h=>
bnd (uD 5000 c h a2 12) fun f=>
(some (f.1,f.2))
theorem hLl(a0:gI)(a1:List gY)(a2:gY){r:gQ × Int}(h:gE4 a0 a1 a2=some r):jC Tryz.prog 125 [.d (kR a0),.L 4 (kV a1),.d (zY a2)] [pY r.1,.i .i64 r.2]:=by
 obtain⟨aj⟩:=a0;obtain⟨ak,⟨y,aa,ab⟩⟩:=a2;unfold gE4 at h;refine SpI Tryz.func125 fun A _=>?_;refine gH2 ?_;refine jO (P:=Tryz.prog) Mix.h [(0,true),(1,true),(2,true),(3,true),(4,true),(5,true),(6,true),(7,true),(8,false),(9,true)] (by kernel_rfl) ?_;refine goY ?_;obtain⟨x1,ah,h⟩:=gP h;refine jI rfl (gF (gTm _ _ ah)) ?_;refine goY ?_;obtain⟨⟨⟨ac,ad,⟨c,f⟩,ae⟩,al⟩,ai,h⟩:=gP h;refine jI rfl (gF (hEd _ _ _ _ _ ai)) ?_;refine goY ?_;refine kQ ?_;exact goR h
def gDv(f:List UInt8):Option (gD × Bool):=
bnd (gBv 5000 (vB.mk f 0 0 0 false)) fun c=>
bnd (gPm c.2) fun h=>
bnd ((cnd h.bad ((some true)) ((cnd (h.at_ !=(f.length:Int)) ((some true)) (bnd (qK c.1) fun y=>
(some (!y))))))) fun b3=>
(cnd b3 (
(some ((gD.mk [] []),false))) (
(some (c.1,true))))
theorem gU8(a0:List UInt8){r:gD × Bool}(h:gDv a0=some r):jC Tryz.prog 94 [.S a0] [pF r.1,.b r.2]:=by
 unfold gDv at h;refine SpI Tryz.func94 fun A _=>?_;refine goL ?_;refine gBn (jU TBd.h TZ.h rfl (by repeat constructor)) ?_;obtain⟨⟨⟨c,f⟩,⟨y,aa,ab,ac,ad⟩⟩,al,h⟩:=gP h;refine gAr 1 (hMc 5000 (vB.mk a0 0 0 0 false) al) ?_;refine goL ?_;obtain⟨⟨ae,ag,ah,ai,aj⟩,am,h⟩:=gP h;refine gAr 1 (gWi (vB.mk y aa ab ac ad) am) ?_;refine goL ?_;obtain⟨b3,hb3,h⟩:=gP h;refine jT ⟨[(2,.ptr 0 0),(5,.ptr 2 0),(30,.B b3)],[.box [.S [],.nilsl],bIp ae ag ah ai aj,bSx c f],Tryz.f94.ntmps⟩ ?_ ?_
 ·refine gqO 17 hb3 (fun c4 hb3=>?_);refine gqO 26 hb3 (fun c5 hb3=>?_);obtain⟨x6,an,hb3⟩:=gP hb3;refine jL (gF (yL _ an)) ?_;cases hb3;exact eJ
 refine goC h ?_ ?_<;>intro c7 h
 ·refine goL ?_;refine gAq (jU TBd.h TZ.h rfl (by repeat constructor)) ?_;exact goR h
 ·refine goS ?_;refine jK ?_;cases h;exact qA
def gFa(c:gB)(a1:List (List UInt8)):List (List UInt8)→Option (Bool)
 | []=>bnd (wU c) fun f=>
(some f)
 | h::xs=>(cnd (!(wQ a1 h)) (
(some false)) (
gFa c a1 xs ))
def gDw(c:gB)(a1:List (List UInt8)):Option (Bool):=
bnd (gF5 c) fun f=>
gFa c a1 f
theorem gG3(a0:gB)(a1:List (List UInt8)){r:Bool}(h:gDw a0 a1=some r):jC Tryz.prog 214 [.d (jS a0),.L 1 (jP a1)] [.b r]:=by
 obtain⟨y,aa,ab⟩:=a0;unfold gDw at h;refine SpI Tryz.func214 fun A _=>?_;refine goL ?_;obtain⟨x1,ag,h⟩:=gP h;refine jL (gF (gP8 _ ag)) ?_;refine noB ?_;refine gBx 5 (fun z3=>?_);refine mQ (fun(f:Nat)=>⟨[(1,.L 1 (jP a1)),(2,.ptr 0 0),(5,.L 1 (jP x1)),(6,.N f)],[bTy y aa ab],Tryz.f214.ntmps⟩) (fun f=>gFa (gB.mk y aa ab) a1 (x1.drop f)  =some r) (fun f=>x1.length - f) 0 eJ h ?_;rintro f h;refine goL ?_;refine kX (fun c4=>?_) (fun c4=>?_)
 ·have c:=uR c4;obtain⟨x5,ai,ac⟩:=drop_at c;rw [ac,gFa.eq_2] at h;refine noS ?_;refine jW (jE ?_);refine goL ?_;refine jL (jM f (gQq ai)) ?_;refine jL (gF (gF4 a1 x5)) ?_;refine kX (fun c6=>?_) (fun c6=>?_)
  ·replace h:=kD c6 h;exact goR h
  ·replace h:=kE c6 h;refine goS ?_;refine jL (jR f (by omega)) ?_;exact⟨(f+1),h,by omega,eJ⟩
 ·have c:=uS c4;rw [jF c,gFa.eq_1] at h;refine goX ?_;obtain⟨x7,ak,h⟩:=gP h;refine qI (gF (gBf _ ak)) ?_;exact goR h
def gFb(c:kJ→Option (Bool)):List gOv→Option (Bool)
 | []=>(some true)
 | f::xs=>bnd ((cnd (!(mF f.constructor)) ((some true)) ((cnd (!(gLg f.vars)) ((some true)) (bnd (wV f.vars) fun h=>
(cnd (!h) ((some true)) (bnd (c f.body) fun y=>
(some (!y))))))))) fun aa=>
(cnd aa (
(some false)) (
gFb c xs ))
def gFc(c:kJ→Option (Bool))(y:kJ):List kJ→Option (Bool)
 | []=>gFb c y.arms
 | f::xs=>bnd (c f) fun h=>
(cnd (!h) (
(some false)) (
gFc c y xs ))
def gRe(h:kJ→Option (Bool))(c:kJ):Option (Bool):=
lt_ (gGs c.kind) fun f=>
lt_ ((cnd (!(gHw c.kind 1 12)) (true) ((cnd (!((mF c.trait)==f.1)) (true) ((cnd (!f.1) ((cnd (!(c.trait==[])) (true) ((cnd (!f.2.2.1) ((cnd (c.n != 0) (true) ((!((decide ((c.arms.length:Int) > 0))==f.2.2.2.2.2))))) ((!((decide ((c.arms.length:Int) > 0))==f.2.2.2.2.2))))))) ((cnd (!f.2.2.1) ((cnd (c.n != 0) (true) ((!((decide ((c.arms.length:Int) > 0))==f.2.2.2.2.2))))) ((!((decide ((c.arms.length:Int) > 0))==f.2.2.2.2.2))))))))))) fun b2=>
(cnd b2 (
(some false)) (
lt_ ((cnd (c.kind==10) ((cnd (!(gOr c.name)) (true) ((cnd (c.kind != 10) ((cnd (!((mF c.name)==f.2.1)) (true) ((cnd (!f.2.1) ((!(c.name==[]))) (false))))) (false))))) ((cnd (c.kind != 10) ((cnd (!((mF c.name)==f.2.1)) (true) ((cnd (!f.2.1) ((!(c.name==[]))) (false))))) (false))))) fun y=>
(cnd y (
(some false)) (
bnd ((cnd (decide (f.2.2.2.2.1≥0)) ((cnd ((c.args.length:Int) != f.2.2.2.2.1) ((some true)) ((cnd (c.kind==5) ((cnd ((c.args.length:Int)==0) ((some true)) ((cnd f.2.2.2.1 (bnd (wU c.type_) fun aa=>
(cnd (!aa) ((some true)) ((cnd (!f.2.2.2.1) ((some (!(gAo c.type_)))) ((some false)))))) ((cnd (!f.2.2.2.1) ((some (!(gAo c.type_)))) ((some false)))))))) ((cnd f.2.2.2.1 (bnd (wU c.type_) fun ab=>
(cnd (!ab) ((some true)) ((cnd (!f.2.2.2.1) ((some (!(gAo c.type_)))) ((some false)))))) ((cnd (!f.2.2.2.1) ((some (!(gAo c.type_)))) ((some false)))))))))) ((cnd (c.kind==5) ((cnd ((c.args.length:Int)==0) ((some true)) ((cnd f.2.2.2.1 (bnd (wU c.type_) fun ac=>
(cnd (!ac) ((some true)) ((cnd (!f.2.2.2.1) ((some (!(gAo c.type_)))) ((some false)))))) ((cnd (!f.2.2.2.1) ((some (!(gAo c.type_)))) ((some false)))))))) ((cnd f.2.2.2.1 (bnd (wU c.type_) fun ad=>
(cnd (!ad) ((some true)) ((cnd (!f.2.2.2.1) ((some (!(gAo c.type_)))) ((some false)))))) ((cnd (!f.2.2.2.1) ((some (!(gAo c.type_)))) ((some false)))))))))) fun ae=>
(cnd ae (
(some false)) (
lt_ ((cnd (c.kind==1) ((cnd (!(gHw c.n (-999999) 999999)) (true) ((cnd (c.kind==2) ((!(gHw c.n 0 1))) (false))))) ((cnd (c.kind==2) ((!(gHw c.n 0 1))) (false))))) fun ag=>
(cnd ag (
(some false)) (
gFc h c c.args ))))))))
theorem hF5{aa:kJ→Option (Bool)}(ad:∀(x0:kJ) {r:Bool},aa x0=some r→jC Tryz.prog 248 [.d (gCx x0)] [.b r])(a0:kJ){r:Bool}(h:gRe aa a0=some r):jC Tryz.prog 248 [.d (gCx a0)] [.b r]:=by
 obtain⟨ae,ai,ab,ac,⟨c,f,y⟩,ag,ah⟩:=a0;unfold gRe at h;refine SpI Tryz.func248 fun A _=>?_;refine goL ?_;obtain⟨⟨b6,bb,b7,a4,a5,b8⟩,bp,h⟩:=qB h;have sx1:=hN9 ae;rw [bp] at sx1;refine jL (gF (sx1)) ?_;refine jL (gF (gP1 ae 1 12)) ?_;obtain⟨b2,hb2,h⟩:=qB h;refine jT ⟨[(1,.ptr 0 0),(4,.B bb),(6,.B a4),(7,.I a5),(58,.B b2)],[bEx ae ai ab ac c f y ag ah],Tryz.f248.ntmps⟩ ?_ ?_
 ·refine gqO 26 hb2 (fun c3 hb2=>?_);refine jL (gF (qD ai)) ?_;refine gqO 33 hb2 (fun c4 hb2=>?_);refine gqV 36 hb2 ?_ ?_<;>intro c5 hb2
  ·refine gqO 42 hb2 (fun c6 hb2=>?_);refine gqA 45 hb2 (fun c7 hb2=>?_);exact gqZ 51 hb2
  ·refine gqA 45 hb2 (fun c9 hb2=>?_);exact gqZ 51 hb2
 refine goC h ?_ ?_<;>intro ca h
 ·exact goR h
 ·refine goS ?_;obtain⟨bq,hb12,h⟩:=qB h;refine jT ⟨[(1,.ptr 0 0),(6,.B a4),(7,.I a5),(88,.B bq)],[bEx ae ai ab ac c f y ag ah],Tryz.f248.ntmps⟩ ?_ ?_
  ·refine gqV 62 hb12 ?_ ?_<;>intro cb hb12
   ·refine jL (gF (hKl ab)) ?_;refine gqO 68 hb12 (fun cc hb12=>?_);refine gqA 72 hb12 (fun cd hb12=>?_);refine jL (gF (qD ab)) ?_;refine gqO 78 hb12 (fun ce hb12=>?_);exact gqZ 81 hb12
   ·refine gqA 72 hb12 (fun cf hb12=>?_);refine jL (gF (qD ab)) ?_;refine gqO 78 hb12 (fun cg hb12=>?_);exact gqZ 81 hb12
  refine goC h ?_ ?_<;>intro ch h
  ·exact goR h
  ·refine goS ?_;obtain⟨br,hb22,h⟩:=gP h;refine jT ⟨[(1,.ptr 0 0),(127,.B br)],[bEx ae ai ab ac c f y ag ah],Tryz.f248.ntmps⟩ ?_ ?_
   ·refine gqV 91 hb22 ?_ ?_<;>intro ci hb22
    ·refine gqO 98 hb22 (fun cj hb22=>?_);refine gqV 102 hb22 ?_ ?_<;>intro ck hb22
     ·refine gqO 109 hb22 (fun cl hb22=>?_);refine gqV 111 hb22 ?_ ?_<;>intro cm hb22
      ·obtain⟨cn,bc,hb22⟩:=gP hb22;refine jL (gF (gBf _ bc)) ?_;refine gqO 118 hb22 (fun co hb22=>?_);refine gqA 121 hb22 (fun cp hb22=>?_);refine jL (gF (gC5 (gB.mk c f y))) ?_;cases hb22;exact eJ
      ·refine gqA 121 hb22 (fun cq hb22=>?_);refine jL (gF (gC5 (gB.mk c f y))) ?_;cases hb22;exact eJ
     ·refine gqV 111 hb22 ?_ ?_<;>intro cr hb22
      ·obtain⟨cs,bd,hb22⟩:=gP hb22;refine jL (gF (gBf _ bd)) ?_;refine gqO 118 hb22 (fun ct hb22=>?_);refine gqA 121 hb22 (fun cu hb22=>?_);refine jL (gF (gC5 (gB.mk c f y))) ?_;cases hb22;exact eJ
      ·refine gqA 121 hb22 (fun cv hb22=>?_);refine jL (gF (gC5 (gB.mk c f y))) ?_;cases hb22;exact eJ
    ·refine gqV 102 hb22 ?_ ?_<;>intro cw hb22
     ·refine gqO 109 hb22 (fun cx hb22=>?_);refine gqV 111 hb22 ?_ ?_<;>intro cy hb22
      ·obtain⟨cz,be,hb22⟩:=gP hb22;refine jL (gF (gBf _ be)) ?_;refine gqO 118 hb22 (fun c0 hb22=>?_);refine gqA 121 hb22 (fun c1 hb22=>?_);refine jL (gF (gC5 (gB.mk c f y))) ?_;cases hb22;exact eJ
      ·refine gqA 121 hb22 (fun c2 hb22=>?_);refine jL (gF (gC5 (gB.mk c f y))) ?_;cases hb22;exact eJ
     ·refine gqV 111 hb22 ?_ ?_<;>intro c8 hb22
      ·obtain⟨da,bf,hb22⟩:=gP hb22;refine jL (gF (gBf _ bf)) ?_;refine gqO 118 hb22 (fun db hb22=>?_);refine gqA 121 hb22 (fun dc hb22=>?_);refine jL (gF (gC5 (gB.mk c f y))) ?_;cases hb22;exact eJ
      ·refine gqA 121 hb22 (fun dd hb22=>?_);refine jL (gF (gC5 (gB.mk c f y))) ?_;cases hb22;exact eJ
   refine goC h ?_ ?_<;>intro de h
   ·exact goR h
   ·refine goS ?_;obtain⟨bt,hb50,h⟩:=qB h;refine jT ⟨[(1,.ptr 0 0),(147,.B bt)],[bEx ae ai ab ac c f y ag ah],Tryz.f248.ntmps⟩ ?_ ?_
    ·refine gqV 131 hb50 ?_ ?_<;>intro df hb50
     ·refine jL (gF (gP1 ac (-999999) 999999)) ?_;refine gqO 137 hb50 (fun dg hb50=>?_);refine gqA 141 hb50 (fun dh hb50=>?_);refine jL (gF (gP1 ac 0 1)) ?_;cases hb50;exact eJ
     ·refine gqA 141 hb50 (fun di hb50=>?_);refine jL (gF (gP1 ac 0 1)) ?_;cases hb50;exact eJ
    refine goC h ?_ ?_<;>intro dj h
    ·exact goR h
    ·refine goS ?_;refine noB ?_;refine wN 0 7 (fun dk=>?_);refine mQ (fun(ak:Nat)=>⟨[(1,.ptr 0 0),(9,.N ak)],[bEx ae ai ab ac c f y ag ah],Tryz.f248.ntmps⟩) (fun ak=>gFc aa (kJ.mk ae ai ab ac (gB.mk c f y) ag ah) (ag.drop ak)  =some r) (fun ak=>ag.length - ak) 0 eJ h ?_;rintro ak h;refine goL ?_;refine kX (fun a6=>?_) (fun a6=>?_)
     ·have al:=uR a6;obtain⟨bu,bg,a7⟩:=drop_at al;rw [a7,gFc.eq_2] at h;obtain⟨bv,bw,bx,bz,⟨bh,bi,bj⟩,b0,b1⟩:=bu;refine noS ?_;refine jW (jE ?_);refine goL ?_;refine jL (jM ak (gZ3 bg)) ?_;obtain⟨dl,bk,h⟩:=gP h;refine jL (gF (ad _ bk)) ?_;refine kX (fun a8=>?_) (fun a8=>?_)
      ·replace h:=kD a8 h;exact goR h
      ·replace h:=kE a8 h;refine goS ?_;refine jL (jR ak (by omega)) ?_;exact⟨(ak+1),h,by omega,eJ⟩
     ·have al:=uS a6;rw [jF al,gFc.eq_1] at h;refine goX ?_;refine noB ?_;refine wN 0 8 (fun dm=>?_);refine mQ (fun(aj:Nat)=>⟨[(1,.ptr 0 0),(10,.N aj)],[bEx ae ai ab ac c f y ag ah],Tryz.f248.ntmps⟩) (fun aj=>gFb aa (ah.drop aj)  =some r) (fun aj=>ah.length - aj) 0 eJ h ?_;rintro aj h;refine goL ?_;refine kX (fun a9=>?_) (fun a9=>?_)
      ·have am:=uR a9;obtain⟨b3,bl,ba⟩:=drop_at am;rw [ba,gFb.eq_2] at h;obtain⟨aq,ar,⟨au,av,aw,ax,⟨an,ao,ap⟩,ay,a3⟩⟩:=b3;refine noS ?_;refine jW (jE ?_);refine goL ?_;refine jL (jM aj (hH4 bl)) ?_;refine jL (gF (qD aq)) ?_;obtain⟨b4,hb66,h⟩:=gP h;refine jT ⟨[(1,.ptr 0 0),(10,.N aj),(195,.B b4)],[bEx ae ai ab ac c f y ag ah,.box [.S aq,.L 1 (jP ar),.I au,.S av,.S aw,.I ax,.I an,.S ao,.L 3 (jJ ap),.L 9 (gB8 ay),.L 11 (gKw a3)]],Tryz.f248.ntmps⟩ ?_ ?_
       ·refine gqO 178 hb66 (fun dn hb66=>?_);refine jL (gF (gXg ar)) ?_;refine gqO 184 hb66 (fun dp hb66=>?_);obtain⟨dq,bm,hb66⟩:=gP hb66;refine jL (gF (gBh _ bm)) ?_;refine gqO 190 hb66 (fun dr hb66=>?_);obtain⟨ds,bn,hb66⟩:=gP hb66;refine jL (gF (ad _ bn)) ?_;cases hb66;exact eJ
       refine goC h ?_ ?_<;>intro dt h
       ·exact goR h
       ·refine goS ?_;refine jL (jR aj (by omega)) ?_;exact⟨(aj+1),h,by omega,eJ⟩
      ·have am:=uS a9;rw [jF am,gFb.eq_1] at h;refine goX ?_;refine jK ?_;cases h;exact qA
def gRf:Nat→kJ→Option (Bool)
 | 0,_=>none
 | n+1,c=>gRe (gRf n) c
theorem hF6:∀(n:Nat) (c:kJ) {r:Bool},gRf n c=some r→jC Tryz.prog 248 [.d (gCx c)] [.b r]:=by
 intro n
 induction n with
 | zero=>intro c r h;cases h
 | succ n ih=>intro c r h;exact hF5 ih c h
def gOx(c:Bool)(a1:gD):Option (gD):=
bnd ((cnd (!c) ((some true)) (bnd (qK a1) fun f=>
(some (!f))))) fun h=>
(cnd h (
(some (gD.mk [] []))) (
(some a1)))
theorem gU9(a0:Bool)(a1:gD){r:gD}(h:gOx a0 a1=some r):jC Tryz.prog 210 [.B a0,.d (pF a1)] [pF r]:=by
 obtain⟨c,f⟩:=a1;unfold gOx at h;refine SpI Tryz.func210 fun A _=>?_;refine goL ?_;obtain⟨b1,hb1,h⟩:=gP h;refine jT ⟨[(3,.ptr 0 0),(4,.ptr 1 0),(11,.B b1)],[bSx c f,.box [.S [],.nilsl]],Tryz.f210.ntmps⟩ ?_ ?_
 ·refine gqO 7 hb1 (fun c2 hb1=>?_);obtain⟨x3,y,hb1⟩:=gP hb1;refine jL (gF (yL _ y)) ?_;cases hb1;exact eJ
 refine goC h ?_ ?_<;>intro c4 h
 ·refine goL ?_;refine gAq (jU TBd.h TZ.h rfl (by repeat constructor)) ?_;exact goR h
 ·refine goS ?_;refine jK ?_;cases h;exact qA
def gG4(c:gY):Option (Bool):=
bnd ((cnd (mF c.trait) (bnd (wU c.type_) fun f=>
(some f)) ((some false)))) fun h=>
(some h)
theorem gRg(a0:gY){r:Bool}(h:gG4 a0=some r):jC Tryz.prog 233 [.d (zY a0)] [.b r]:=by
 obtain⟨aa,⟨c,f,y⟩⟩:=a0;unfold gG4 at h;refine SpI Tryz.func233 fun A _=>?_;refine goL ?_;refine jL (gF (qD aa)) ?_;obtain⟨b1,hb1,h⟩:=gP h;refine jT ⟨[(2,.B b1)],[bBd aa c f y],Tryz.f233.ntmps⟩ ?_ ?_
 ·refine gqA 6 hb1 (fun c2 hb1=>?_);obtain⟨x3,ac,hb1⟩:=gP hb1;refine jL (gF (gBf _ ac)) ?_;cases hb1;exact eJ
 exact goR h
end Go.Proofs.YtegahmhnmjnhhaaGreat
