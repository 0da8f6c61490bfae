import Derived.Test.YtfpdlnkkcnmebaaGreatE2
set_option maxHeartbeats 4000000
set_option linter.unusedVariables false
set_option linter.unusedSimpArgs false
set_option linter.unusedSectionVars false
namespace Go.Proofs.YtfpdlnkkcnmebaaGreat
open Go Go.Eng
attribute [local irreducible] V VO VQ VY Quiet QR jI mK Rng qE qA pX
def mV(h:gM→gG→Int→Option (gG × Bool))(f:gM→(List gG)→gH→Option (gG × Bool))(a0:gM)(a1:gG)(a2:Int):Option (gG × Bool):=
(cnd (decide (a2 < 0)) (
(some ((gG.mk 0 (gD.mk 0 0) [] []),false))) (
(cnd (a1.kind==2) (
gd (W (jH a1)≤4294967296) (lt_ (idX a1) fun q=>
gd (q.steps.length+[a2].length≤4294967296) (
(some ((gG.mk q.kind q.at_ (q.steps++[a2]) q.args),true))))) (
(cnd (a1.kind==1) (
bnd (pJ a0 a1.at_) fun x7=>
lt_ ((cnd (x7.2 != 0) (true) ((decide (a2≥(x7.1.length:Int)))))) fun b8=>
(cnd b8 (
(some ((gG.mk 0 (gD.mk 0 0) [] []),false))) (
bnd (at? x7.1 a2) fun ab=>
bnd (f a0 a1.args ab) fun y=>
(some (y.1,y.2))))) (
(some ((gG.mk 0 (gD.mk 0 0) [] []),false))))))))
def gBc(f:gM→gG→Int→Option (gG × Bool)):Prop:=∀(h:gM)(q:gG)(y:Int){r:gG × Bool},f h q y=some r→jI Tryz.prog 37 [.d (mD h),.d (jH q),.I y] [jH r.1,.b r.2]
def gEy(f:gM→(List gG)→gH→Option (gG × Bool)):Prop:=∀(h:gM)(q:List gG)(y:gH){r:gG × Bool},f h q y=some r→jI Tryz.prog 14 [.d (mD h),.L 5 (jJ q),.d (mZ y)] [jH r.1,.b r.2]
theorem gJ5{f}{q}(aa:gBc f)(y:gEy q)(a0:gM)(a1:gG)(a2:Int){r:gG × Bool}(h:mV f q a0 a1 a2=some r):jI Tryz.prog 37 [.d (mD a0),.d (jH a1),.I a2] [jH r.1,.b r.2]:=by
 obtain⟨al⟩:=a0;obtain⟨ae,⟨ab,ac⟩,ag,ah⟩:=a1;unfold mV at h;refine SpI Tryz.func37 fun A _=>?_;refine goL ?_;refine kI (jA ?_);refine goC h ?_ ?_<;>intro c1 h
 ·refine goL ?_;refine vP (jN TBd.h TZ.h rfl (by repeat constructor)) ?_;exact goR h
 ·refine goC h ?_ ?_<;>intro c2 h
  ·refine goL ?_;obtain⟨g3,h⟩:=pU h;obtain⟨⟨a9,⟨av,aw⟩,ba,bb⟩,ay,h⟩:=uK h;have sx4:=gYv (gG.mk ae (gD.mk ab ac) ag ah) g3;rw [ay] at sx4;refine gE3 (sx4) ?_;refine goL ?_;refine wX a2 ?_;obtain⟨g5,h⟩:=pU h;refine gDl g5 ?_;refine goL ?_;refine mP 3 rfl rfl ?_;refine mP 4 rfl rfl ?_;refine jF ?_;cases h;exact uM
  ·refine goC h ?_ ?_<;>intro c6 h
   ·refine goL ?_;obtain⟨⟨am,bc⟩,a3,h⟩:=gJ h;refine jP (gI (gLn _ _ a3)) ?_;obtain⟨b8,hb8,h⟩:=uK h;refine kH ⟨[(2,.I a2),(3,.ptr 0 0),(4,.ptr 1 0),(6,.ptr 2 0),(9,.L 5 (jE am)),(46,.B b8)],[bPr al,.box [.I ae,.I ab,.I ac,.L 1 (vM ag),.L 5 (jJ ah)],.box [.I 0,.I 0,.I 0,.nilsl,.nilsl]],Tryz.f37.ntmps⟩ ?_ ?_
    ·exact gqZ 41 hb8
    refine goC h ?_ ?_<;>intro bg h
    ·refine goL ?_;refine vP (jN TBd.h TZ.h rfl (by repeat constructor)) ?_;exact goR h
    ·refine noS ?_;refine jS (P:=Tryz.prog) Mix.h [(0,true),(1,true),(2,true),(3,true),(4,true),(5,true),(6,true),(7,true),(8,true),(9,true),(10,false),(11,true)] (by kernel_rfl) ?_;refine goY ?_;obtain⟨a4,ad,h⟩:=gJ h;obtain⟨ai,ad⟩:=gBm ad;obtain⟨a5,a6,⟨an,ao⟩,a7⟩:=a4;refine jW rfl (uL ai (gF7 ad)) ?_;refine goY ?_;obtain⟨⟨⟨ap,⟨aj,ak⟩,aq,ar⟩,a8⟩,au,h⟩:=gJ h;refine jW rfl (gI (y _ _ _ au)) ?_;refine goY ?_;refine mJ ?_;exact goR h
   ·refine goS ?_;refine vP (jN TBd.h TZ.h rfl (by repeat constructor)) ?_;exact goR h
def qH(f:gM→(List gG)→gH→Option (gG × Bool))(a0:gM)(a1:List gG)(a2:gH):List gH→(List gG)→Option (gG × Bool)
 | [],q=>(some ((gG.mk 1 a2.at_ [] q),true))
 | y::xs,q=>bnd (f a0 a1 y) fun h=>
(cnd (!h.2) (
(some ((gG.mk 0 (gD.mk 0 0) [] []),false))) (
gd (q.length+[h.1].length≤4294967296) (
qH f a0 a1 a2 xs (q++[h.1]))))
def qX(f:gM→gG→Int→Option (gG × Bool))(h:gM→(List gG)→gH→Option (gG × Bool))(a0:gM)(a1:List gG)(a2:gH):Option (gG × Bool):=
(cnd (a2.kind==2) (
(cnd (gH3 a2.n 0 (IntKind.i64.wrap ((a1.length:Int) - 1))) (
bnd (at? a1 a2.n) fun x3=>
gd (W (jH x3)≤4294967296) (lt_ (idX x3) fun x5=>
(some (x5,true)))) (
(some ((gG.mk 0 (gD.mk 0 0) [] []),false))))) (
(cnd (a2.kind==1) (
qH h a0 a1 a2 a2.args []) (
(cnd (a2.kind==3) (
(cnd ((a2.args.length:Int)==1) (
bnd (at? a2.args 0) fun ab=>
bnd (h a0 a1 ab) fun q=>
(cnd q.2 (
bnd (f a0 q.1 a2.n) fun y=>
(some (y.1,y.2))) (
(some ((gG.mk 0 (gD.mk 0 0) [] []),false))))) (
(some ((gG.mk 0 (gD.mk 0 0) [] []),false))))) (
(cnd (a2.kind==4) (
(some ((gG.mk 2 (gD.mk 0 0) [] []),true))) (
(cnd (a2.kind==5) (
(some ((gG.mk 3 (gD.mk 0 0) [] []),true))) (
(some ((gG.mk 0 (gD.mk 0 0) [] []),false))))))))))))
theorem gR0{f}{q}(aa:gBc f)(y:gEy q)(a0:gM)(a1:List gG)(a2:gH){r:gG × Bool}(h:qX f q a0 a1 a2=some r):jI Tryz.prog 14 [.d (mD a0),.L 5 (jJ a1),.d (mZ a2)] [jH r.1,.b r.2]:=by
 obtain⟨aq⟩:=a0;obtain⟨ar,al,⟨ad,ae⟩,ak⟩:=a2;unfold qX at h;refine SpI Tryz.func14 fun A _=>?_;refine goL ?_;refine jA ?_;refine goC h ?_ ?_<;>intro c1 h
 ·refine goL ?_;refine uN (pV) ?_;refine jP (gI (gM8 al 0 (IntKind.i64.wrap ((a1.length:Int) - 1)))) ?_;refine mR (fun c2=>?_) (fun c2=>?_)
  ·replace h:=kU c2 h;refine goL ?_;obtain⟨x3,au,h⟩:=gJ h;obtain⟨a8,au⟩:=gBm au;obtain⟨a9,⟨an,ao⟩,ba,bb⟩:=x3;refine jP (uL a8 (gCh au)) ?_;obtain⟨g4,h⟩:=pU h;obtain⟨⟨b9,⟨bq,br⟩,ca,cb⟩,bv,h⟩:=uK h;have sx5:=gYv (gG.mk a9 (gD.mk an ao) ba bb) g4;rw [bv] at sx5;refine gE3 (sx5) ?_;refine goL ?_;refine mP 3 rfl rfl ?_;refine mP 4 rfl rfl ?_;refine jF ?_;cases h;exact uM
  ·replace h:=kV c2 h;refine goS ?_;refine vP (jN TBd.h TZ.h rfl (by repeat constructor)) ?_;exact goR h
 ·refine goC h ?_ ?_<;>intro c6 h
  ·refine goL ?_;refine yT (jN TBd.h TZ.h rfl (by repeat constructor)) ?_;refine noB ?_;refine qZ 59 5 3 4 rfl rfl (by repeat constructor) (by repeat constructor) (by repeat constructor) (by repeat constructor) ?_;show V _ _ _ _ _;refine yC 1 4 (fun ce=>?_);refine mG (fun(y9:Nat)(y7:List gG)(v8:Nat)=>⟨[(1,.L 5 (jJ a1)),(3,.ptr 0 0),(5,.ptr 1 0),(6,.ptr 2 0),(8,.ptr 3 0),(9,.N y9)],[bPr aq,.box [.I ar,.I al,.I ad,.I ae,.L 5 (jE ak)],.box [.I 0,.I 0,.I 0,.nilsl,.nilsl],.box [.I 1,.I ad,.I ae,.nilsl,.sl 4 v8],.arr 59 5 v8 (jJ y7)],Tryz.f14.ntmps⟩) (fun y9 y7 v8=>qH q (gM.mk aq) a1 (gH.mk ar al (gD.mk ad ae) ak) (ak.drop y9) y7=some r) (fun y9 y7 v8=>ak.length - y9) 0 [] 0 eJ h ?_;rintro y9 y7 v8 h;refine goL ?_;refine mR (fun av=>?_) (fun av=>?_)
   ·have aj:=vR av;obtain⟨bw,bc,aw⟩:=drop_at aj;rw [aw,qH.eq_2] at h;obtain⟨bx,bz,⟨bd,be⟩,b0⟩:=bw;refine noS ?_;refine kI (jA ?_);refine jS (P:=Tryz.prog) Mix.h [(0,true),(1,true),(2,true),(3,true),(4,true),(5,true),(6,true),(7,true),(8,true),(9,true),(10,true),(11,false),(12,false),(13,true)] (by kernel_rfl) ?_;refine goY ?_;refine jW rfl (jR y9 (gF7 bc)) ?_;refine goY ?_;obtain⟨⟨⟨ag,⟨ab,ac⟩,ah,ai⟩,b1⟩,bf,h⟩:=gJ h;refine jW rfl (gI (y _ _ _ bf)) ?_;refine goY ?_;refine mJ ?_;refine goC h ?_ ?_<;>intro cf h
    ·refine goL ?_;refine vP (jN TBd.h TZ.h rfl (by repeat constructor)) ?_;exact goR h
    ·refine goS ?_;refine uO (u:=(.st [.i .i64 ag,.st [.i .i64 ab,.i .i64 ac],.sl 1 (vM ah),.sl 5 (jJ ai)])) ?_;obtain⟨b2,h⟩:=pU h;refine gAd b2 ?_;refine goL ?_;refine jP (kD y9 (by omega)) ?_;exact⟨(y9+1),(y7++[(gG.mk ag (gD.mk ab ac) ah ai)]),(v8+1),h,by omega,eJ⟩
   ·have aj:=vS av;rw [jK aj,qH.eq_1] at h;refine goX ?_;refine gV 4 rfl rfl ?_;refine jF ?_;cases h;exact uM
  ·refine goC h ?_ ?_<;>intro cg h
   ·refine goC h ?_ ?_<;>intro ch h
    ·refine jS (P:=Tryz.prog) Mix.h [(0,true),(1,true),(2,true),(3,true),(4,true),(5,true),(6,true),(7,true),(8,true),(9,true),(10,false),(11,false),(12,true)] (by kernel_rfl) ?_;refine goY ?_;obtain⟨b3,am,h⟩:=gJ h;obtain⟨ax,am⟩:=gBm am;obtain⟨b4,b5,⟨bg,bh⟩,b6⟩:=b3;refine jW rfl (uL ax (gF7 am)) ?_;refine goY ?_;obtain⟨⟨⟨bi,⟨ay,a3⟩,bj,bk⟩,b7⟩,bl,h⟩:=gJ h;refine jW rfl (gI (y _ _ _ bl)) ?_;refine goY ?_;refine mJ ?_;refine goC h ?_ ?_<;>intro ci h
     ·refine goL ?_;obtain⟨⟨⟨bm,⟨a4,a5⟩,bn,bo⟩,b8⟩,bp,h⟩:=gJ h;refine uN (gI (aa _ _ _ bp)) ?_;exact goR h
     ·refine goS ?_;refine vP (jN TBd.h TZ.h rfl (by repeat constructor)) ?_;exact goR h
    ·refine goS ?_;refine vP (jN TBd.h TZ.h rfl (by repeat constructor)) ?_;exact goR h
   ·refine goC h ?_ ?_<;>intro cj h
    ·refine goL ?_;refine vP (jN TBd.h TZ.h rfl (by repeat constructor)) ?_;exact goR h
    ·refine goC h ?_ ?_<;>intro ck h
     ·refine goL ?_;refine vP (jN TBd.h TZ.h rfl (by repeat constructor)) ?_;exact goR h
     ·refine goS ?_;refine vP (jN TBd.h TZ.h rfl (by repeat constructor)) ?_;exact goR h
mutual
def kK:Nat→gM→gG→Int→Option (gG × Bool)
 | 0,_,_,_=>none
 | n+1,f,h,q=>mV (kK n) (mW n) f h q
def mW:Nat→gM→(List gG)→gH→Option (gG × Bool)
 | 0,_,_,_=>none
 | n+1,f,h,q=>qX (kK n) (mW n) f h q
end
theorem gJf:∀(n:Nat),gBc (kK n)∧gEy (mW n):=by
 intro n
 induction n with
 | zero=>exact⟨(by intro f q y r h;cases h),(by intro f q y r h;cases h)⟩
 | succ n ih=>
   obtain⟨ih0,ih1⟩:=ih;refine⟨(fun f q y r h=>gJ5 ih0 ih1 f q y h),(fun f q y r h=>gR0 ih0 ih1 f q y h)⟩
theorem gLp:∀(n:Nat),gEy (mW n):=fun n=>(gJf n).2
theorem gIj{α:Type}{l xs:List α}{x:α}{k:Nat}(h:l.drop k=x::xs):at? l (k:Int)=some x∧l.drop (k+1)=xs∧x∈l:=by
 refine⟨?_,?_,List.mem_of_mem_drop (i:=k) (by rw [h];simp)⟩
 ·rw [gA4]
  have:=congrArg (fun l=>l[0]?) h
  simpa [List.getElem?_drop] using this
 ·have:=congrArg List.tail h
  simpa [List.tail_drop] using this
theorem Al2.right{α β:Type}{R:α→β→Prop}{l:List α}{l':List β}(h:Al2 R l l'):∀b∈l',∃a,R a b:=by
 induction h with
 | nil=>intro b hb;simp at hb
 | cons h _ ih=>
   intro b hb;rcases List.mem_cons.1 hb with rfl | hb
   ·exact⟨_,h⟩
   ·exact ih b hb
mutual
def dd:gG→Nat
 | ⟨_,_,_,az⟩=>dds az
def dds:List gG→Nat
 | []=>0
 | a::l=>max (dd a+1) (dds l)
end
theorem gX2{a:gG}:∀{l:List gG},a∈l→dd a+1≤dds l
 | b::l,h=>by
   simp only [dds];rcases List.mem_cons.1 h with rfl | h
   ·omega
   ·have:=gX2 h
    omega
theorem hLp{n:Nat}:∀{l:List gG},(∀a∈l,dd a+1≤n)→dds l≤n
 | [],_=>Nat.zero_le _
 | b::l,h=>by
   have f:=h b (by simp);have q:=hLp fun a ha=>h a (List.mem_cons_of_mem b ha);simp only [dds];omega
theorem hF4{rec:gG→gG→Option Bool}(d:gG)(hr:∀a∈d.args,rec a a=some true):∀(xs:List gG)(k:Nat),d.args.drop k=xs→uW rec d xs k=some true
 | [],_,_=>rfl
 | x::xs,k,h=>by
   obtain⟨f,q,y⟩:=gIj h;rw [uW,jV f,jV (hr x y)];simp only [Bool.not_true,gW];exact hF4 d hr xs (k+1) q
theorem hF5{rec:gG→gG→Option Bool}(d:gG)(hr:∀a∈d.args,rec a a=some true):∀(xs:List Int)(k:Nat),d.steps.drop k=xs→uX rec d d xs k=some true
 | [],_,_=>hF4 d hr d.args 0 rfl
 | x::xs,k,h=>by
   obtain⟨f,q,y⟩:=gIj h;rw [uX,jV f];simp only [bne_self_eq_false,gW];exact hF5 d hr xs (k+1) q
theorem gR1:∀(n:Nat)(d:gG),dd d < n→yG n d d=some true
 | 0,_,h=>by omega
 | n+1,⟨a,b,c,az⟩,h=>by
   simp only [dd] at h;rw [yG];unfold gB6;simp only [lt_,bne_self_eq_false,beq_self_eq_true,Bool.and_self,Bool.not_true,gW];exact hF5 _ (fun x hx=>gR1 n x (by have:=gX2 (l:=az) hx;omega)) c 0 rfl
theorem hF6(l:List Int):∀(xs:List Int)(k:Nat),l.drop k=xs→vJ l xs k=some true
 | [],_,_=>rfl
 | x::xs,k,h=>by
   obtain⟨f,q,y⟩:=gIj h;rw [vJ,jV f];simp only [bne_self_eq_false,gW];exact hF6 l xs (k+1) q
theorem gZv{rec:gG→gG→Option Bool}(l:List gG)(hr:∀a∈l,rec a a=some true):∀(xs:List gG)(k:Nat),l.drop k=xs→jM l rec xs k=some true
 | [],_,_=>rfl
 | x::xs,k,h=>by
   obtain⟨f,q,y⟩:=gIj h;rw [jM,jV f,jV (hr x y)];simp only [Bool.not_true,gW];exact gZv l hr xs (k+1) q
theorem gV8:∀(n:Nat)(d:gG),dd d < n→yE n d d=some true
 | 0,_,h=>by omega
 | n+1,⟨a,b,c,az⟩,h=>by
   simp only [dd] at h;have f:gBr c c=some true:=by
    unfold gBr;simp only [bne_self_eq_false,gW];exact hF6 c c 0 rfl
   have q:jX az az (yE n)=some true:=by
    unfold jX;simp only [bne_self_eq_false,gW];exact gZv az (fun x hx=>gV8 n x (by have:=gX2 (l:=az) hx;omega)) az 0 rfl
   rw [yE];unfold gB4;simp only [beq_self_eq_true,Bool.and_self,jQ];rw [jV f];simp only [jQ];rw [jV q];rfl
def gE4:gG:=⟨0,⟨0,0⟩,[],[]⟩
theorem Wz:W (jH gE4)=0:=rfl
def Kd(B:Nat)(d:gG):Prop:=d.kind=2→W (jH d)≤B
theorem Kd.more{B C:Nat}{d:gG}(h:Kd B d)(hC:B≤C):Kd C d:=fun hk=>Nat.le_trans (h hk) hC
theorem hF7:∀l:List Int,Ws (vM l)=0
 | []=>rfl
 | a::l=>by simp [vM,Ws,W,hF7 l]
theorem gLq(k:Int)(a:gD)(s:List Int)(az:List gG):W (jH ⟨k,a,s,az⟩)=s.length+(az.length+Ws (jJ az)):=by
 obtain⟨p,q⟩:=a;simp [jH,qO,W,Ws,hF7,gT1,gSz]
def EvA:Nat→gH→Prop
 | 0,_=>False
 | k+1,e=>e.args.length≤100∧∀a∈e.args,EvA k a
theorem EvA.more:∀{k m:Nat}{e:gH},EvA k e→k≤m→EvA m e
 | 0,_,_,h,_=>h.elim
 | k+1,0,_,_,h=>by omega
 | k+1,m+1,_,h,hm=>⟨h.1,fun a ha=>(h.2 a ha).more (by omega)⟩
section
variable {w:gM}
def Ans(w:gM)(ds:List gG)(e:gH)(k:Nat)(r:gG × Bool):Prop:=∀n,k≤n→uG n w ds e=some r∧mW n w ds e=some r
theorem hLq(ds:List gG)(e:gH)(k:Nat){P:gG→Prop}:∀(xs:List gH)(acc:List gG),(∀a∈xs,∃r,Ans w ds a k r∧P r.1)→acc.length+xs.length≤1000→(∀d∈acc,P d)→
  ∃r,(∀n,k≤n→vG (uG n) w ds e xs acc=some r∧qH (mW n) w ds e xs acc=some r)∧(r=(gE4,false)∨∃az,r=(⟨1,e.at_,[],az⟩,true)∧∀d∈az,P d)
 | [],acc,_,_,hP=>⟨(⟨1,e.at_,[],acc⟩,true),fun n _=>⟨rfl,rfl⟩,.inr ⟨acc,rfl,hP⟩⟩
 | a::xs,acc,h,hl,hP=>by
   obtain⟨r,h1,h2⟩:=h a (by simp);simp only [List.length_cons] at hl;cases hr:r.2 with
   | false=>
     refine⟨(gE4,false),fun n hn=>?_,.inl rfl⟩;obtain⟨f,y⟩:=h1 n hn;rw [vG,qH,jV f,jV y,hr];exact⟨rfl,rfl⟩
   | true=>
     obtain⟨q,q1,q2⟩:=hLq ds e k xs (acc++[r.1]) (fun b hb=>h b (by simp [hb])) (by simp;omega) (fun d hd=>by
      rcases List.mem_append.1 hd with hd | hd
      ·exact hP d hd
      ·obtain rfl:=List.mem_singleton.1 hd
       exact h2)
     refine⟨q,fun n hn=>?_,q2⟩;obtain⟨f,y⟩:=h1 n hn;rw [vG,qH,jV f,jV y,hr];simp only [Bool.not_true,gW];rw [qN (by simp;omega),qN (by simp;omega)];exact q1 n hn
theorem hF8{ds:List gG}{e:gH}{k D:Nat}(hk:e.kind=1)(h:∀a∈e.args,∃r,Ans w ds a k r∧dd r.1+1≤D)(hl:e.args.length≤100):∃r,Ans w ds e (k+1) r∧r.1.kind≠2∧dd r.1≤D:=by
 obtain⟨r,f,q⟩:=hLq (w:=w) ds e k (P:=fun d=>dd d+1≤D) e.args [] h (by simp;omega) (by simp);refine⟨r,fun n hn=>?_,?_⟩
 ·obtain⟨n,rfl⟩:∃m,n=m+1:=⟨n - 1,by omega⟩
  obtain⟨y,e2⟩:=f n (by omega);rw [uG,mW];unfold uF qX;rw [hk];exact⟨y,e2⟩
 ·rcases q with rfl | ⟨az,rfl,h3⟩
  ·exact⟨by decide,Nat.zero_le _⟩
  ·exact⟨(show(1:Int)≠2 by decide),hLp h3⟩
theorem hLr{all:List gD}(ds:List gG):∀(d:Nat)(g:gP)(e:gH),EvS w all d g e→∃r,Ans w ds e d r∧r.1.kind≠2∧dd r.1≤d
 | 0,_,_,h=>h.elim
 | d+1,g,e,h=>by
   rw [EvS] at h;obtain⟨q,_,_,_,_,_,i,l,_,_,_,_,h4,_,f⟩:=h;have hl:=f.len;refine hF8 q (fun a ha=>?_) (by omega);obtain⟨b,hb⟩:=f.right a ha;obtain⟨r,y,_,r3⟩:=hLr ds d _ a hb;exact⟨r,y,by omega⟩
theorem hLs(hw:WD w){all:List gD}(hS:SW w all)(d:gG)(x:Int){B:Nat}(hB:B≤4000)(hd:Kd B d):∃r,(∀n,14≤n→kY n w d x=some r∧kK n w d x=some r)∧Kd (B+1) r.1∧dd r.1≤max 12 (dd d):=by
 have hz:∀{n:Nat}{d:gG},Kd n gE4∧dd gE4≤max 12 (dd d):=fun{n d}=>⟨fun h=>(by cases h),Nat.zero_le _⟩
 have hsuc:∀{P:Nat→Prop},(∀m,13≤m→P (m+1))→∀n,14≤n→P n:=fun hP n hn=>by
  obtain⟨m,rfl⟩:∃m,n=m+1:=⟨n - 1,by omega⟩
  exact hP m (by omega)
 by_cases hx:x < 0
 ·refine⟨(gE4,false),hsuc fun m _=>?_,hz⟩;rw [kY,kK];unfold qG mV;rw [decide_eq_true hx];exact⟨rfl,rfl⟩
 by_cases q:d.kind=1
 ·obtain⟨evs,c,e1,e2,e3⟩:=hOo hw hS d.at_;by_cases hc:c=0∧x < (evs.length:Int)
  ·obtain⟨rfl,hc⟩:=hc;have ha:at? evs x=some (evs[x.toNat]'(by omega)):=by unfold at?;rw [if_pos (by omega)];exact List.getElem?_eq_getElem _
   obtain⟨g,hg⟩:=e3 _ (List.getElem_mem (by omega:x.toNat < evs.length));obtain⟨r,r1,r2,r3⟩:=hLr d.args 12 g _ hg;refine⟨r,hsuc fun m hm=>?_,fun h=>absurd h r2,by omega⟩;obtain⟨f1,f2⟩:=r1 m (by omega);rw [kY,kK];unfold qG mV;rw [decide_eq_false hx,q,jV e1,jV e2,show((1:Int)==1)=true from rfl,show((1:Int)==2)=false from rfl];simp only [gW,jQ,lt_];rw [decide_eq_true hc,decide_eq_false (show ¬x≥(evs.length:Int) by omega),show((0:Int)==0)=true from rfl,show((0:Int) != 0)=false from rfl];simp only [gW,jQ];rw [jV ha,jV ha,jV f1,jV f2];exact⟨rfl,rfl⟩
  ·refine⟨(gE4,false),hsuc fun m _=>?_,hz⟩;have k1:cnd (c==0) (decide (x < (evs.length:Int))) false=false:=by
    cases y:(c==0)with
    | false=>rfl
    | true=>
      have:c=0:=by simpa using y
      exact decide_eq_false fun h=>hc ⟨this,h⟩
   have k2:cnd (c != 0) true (decide (x≥(evs.length:Int)))=true:=by
    cases y:(c != 0)with
    | true=>rfl
    | false=>
      have:c=0:=by simpa using y
      exact decide_eq_true (by have:=fun h=>hc ⟨this,h⟩;omega)
   rw [kY,kK];unfold qG mV;rw [decide_eq_false hx,q,jV e1,jV e2,show((1:Int)==1)=true from rfl,show((1:Int)==2)=false from rfl];simp only [gW,jQ,lt_];rw [k1,k2];exact⟨rfl,rfl⟩
 by_cases f:d.kind=2
 ·have hW:=hd f;obtain⟨k,a,s,az⟩:=d;have f:k=2:=f;subst f;rw [gLq] at hW;refine⟨(⟨2,a,s++[x],az⟩,true),hsuc fun m _=>?_,fun _=>?_,?_⟩
  ·rw [kY,kK];unfold qG mV;rw [decide_eq_false hx,show((2:Int)==1)=false from rfl,show((2:Int)==2)=true from rfl];simp only [gW,jQ,lt_,idX];rw [qN (by rw [gLq];omega)];have e:gd (s.length+[x].length≤4294967296) (some ((⟨2,a,s++[x],az⟩:gG),true))=some (⟨2,a,s++[x],az⟩,true):=qN (by simp;omega);exact⟨e,e⟩
  ·rw [gLq,List.length_append,List.length_singleton];omega
  ·exact Nat.le_max_right _ _
 ·refine⟨(gE4,false),hsuc fun m _=>?_,hz⟩;rw [kY,kK];unfold qG mV;rw [decide_eq_false hx,show(d.kind==1)=false by simpa using q,show(d.kind==2)=false by simpa using f];exact⟨rfl,rfl⟩
theorem hLt(hw:WD w){all:List gD}(hS:SW w all){ds:List gG}{e a:gH}{k B D:Nat}(hk:e.kind=3)(ha:e.args=[a]){r:gG × Bool}(h1:Ans w ds a k r)(hkk:14≤k)(hB:B≤4000)(h2:Kd B r.1)(h3:dd r.1≤D)(hD:12≤D) :
  ∃q,Ans w ds e (k+1) q∧Kd (B+1) q.1∧dd q.1≤D∧(r.2=true→∀n,14≤n→kY n w r.1 e.n=some q):=by
 have hl:(e.args.length:Int)=1:=by rw [ha];rfl
 have f:at? e.args 0=some a:=by rw [ha];rfl
 have go:∀{q:gG × Bool},(∀m,k≤m→cnd r.2 (bnd (kY m w r.1 e.n) fun x=>some (x.1,x.2)) (some (gE4,false))=some q∧cnd r.2 (bnd (kK m w r.1 e.n) fun x=>some (x.1,x.2)) (some (gE4,false))=some q)→Ans w ds e (k+1) q:=fun hq n hn=>by
  obtain⟨n,rfl⟩:∃m,n=m+1:=⟨n - 1,by omega⟩
  obtain⟨e1,e2⟩:=h1 n (by omega);rw [uG,mW];unfold uF qX;rw [hk,hl,show((3:Int)==2)=false from rfl,show((3:Int)==1)=false from rfl,show((3:Int)==3)=true from rfl,show((1:Int) != 1)=false from rfl,show((1:Int)==1)=true from rfl];simp only [gW,jQ];rw [jV f,jV f,jV e1,jV e2];exact hq n (by omega)
 cases hr:r.2 with
 | false=>
   refine⟨(gE4,false),go fun m _=>?_,fun h=>(by cases h),Nat.zero_le _,fun h=>by cases h⟩;rw [hr];exact⟨rfl,rfl⟩
 | true=>
   obtain⟨q,y,q2,q3⟩:=hLs hw hS r.1 e.n hB h2;refine⟨q,go fun m hm=>?_,q2,by omega,fun _ n hn=>(y n hn).1⟩;obtain⟨f1,f2⟩:=y m (by omega);rw [hr];simp only [jQ];rw [jV f1,jV f2];exact⟨rfl,rfl⟩
theorem hJg(hw:WD w){all:List gD}(hS:SW w all){ds:List gG}{B D:Nat}(hB:B≤1000)(hD:12≤D)(hd:∀d∈ds,W (jH d)≤4294967296∧Kd B d∧dd d≤D)(hl:ds.length≤100):∀(k:Nat)(e:gH),EvA k e→k≤1000→∃r,Ans w ds e (k+14) r∧Kd (B+k) r.1∧dd r.1≤D+k
 | 0,_,h,_=>h.elim
 | k+1,e,h,hk=>by
   have hz:∀{n:Nat},Kd n gE4∧dd gE4≤n:=fun{n}=>⟨fun h=>(by cases h),Nat.zero_le _⟩
   have hsuc:∀{r:gG × Bool},(∀m,k+14≤m→uF (kY m) (uG m) w ds e=some r∧qX (kK m) (mW m) w ds e=some r)→Ans w ds e (k+1+14) r:=fun hP n hn=>by
    obtain⟨m,rfl⟩:∃m,n=m+1:=⟨n - 1,by omega⟩
    rw [uG,mW];exact hP m (by omega)
   by_cases y:e.kind=2
   ·have hi:cnd (decide (e.n≥0)) (decide (e.n < (ds.length:Int))) false=decide (0≤e.n∧e.n < (ds.length:Int)):=by
     by_cases h0:e.n≥0
     ·rw [decide_eq_true h0,jQ];exact decide_eq_decide.2 (by omega)
     ·rw [decide_eq_false h0,gW];exact(decide_eq_false (by omega)).symm
    by_cases hn:0≤e.n∧e.n < (ds.length:Int)
    ·have ha:at? ds e.n=some (ds[e.n.toNat]'(by omega)):=by unfold at?;rw [if_pos (by omega)];exact List.getElem?_eq_getElem _
     obtain⟨d1,d2,d3⟩:=hd _ (List.getElem_mem (by omega:e.n.toNat < ds.length));refine⟨(ds[e.n.toNat]'(by omega),true),hsuc fun m _=>?_,d2.more (by omega),by simp only;omega⟩;unfold uF qX;rw [y,show((2:Int)==2)=true from rfl,gYt _ _ (by omega)];simp only [jQ,lt_];rw [hi,decide_eq_true hn];simp only [jQ];rw [jV ha,qN d1];exact⟨rfl,rfl⟩
    ·refine⟨(gE4,false),hsuc fun m _=>?_,hz.1,by simp [gE4,dd,dds]⟩;unfold uF qX;rw [y,show((2:Int)==2)=true from rfl,gYt _ _ (by omega)];simp only [jQ,lt_];rw [hi,decide_eq_false hn];exact⟨rfl,rfl⟩
   by_cases h1:e.kind=1
   ·obtain⟨r,f,r2,r3⟩:=hF8 (w:=w) (ds:=ds) (k:=k+14) (D:=D+k+1) h1 (fun a ha=>by
     obtain⟨r,f,_,r3⟩:=hJg hw hS hB hD hd hl k a (h.2 a ha) (by omega)
     exact⟨r,f,by omega⟩) h.1
    exact⟨r,fun n hn=>f n (by omega),fun h=>absurd h r2,by omega⟩
   by_cases h3:e.kind=3
   ·by_cases hlen:e.args.length=1
    ·obtain⟨a,ha⟩:=List.length_eq_one_iff.1 hlen;obtain⟨r,f,r2,r3⟩:=hJg hw hS hB hD hd hl k a (h.2 a (by rw [ha];simp)) (by omega);obtain⟨q,q1,q2,q3,_⟩:=hLt hw hS h3 ha f (by omega) (by omega) r2 r3 (by omega);exact⟨q,fun n hn=>q1 n (by omega),q2.more (by omega),by omega⟩
    ·refine⟨(gE4,false),hsuc fun m _=>?_,hz.1,by simp [gE4,dd,dds]⟩;have l1:((e.args.length:Int)==1)=false:=by simp;omega
     have l2:((e.args.length:Int) != 1)=true:=by simp;omega
     unfold uF qX;rw [h3,l1,l2];exact⟨rfl,rfl⟩
   by_cases h4:e.kind=4
   ·refine⟨(⟨2,⟨0,0⟩,[],[]⟩,true),hsuc fun m _=>?_,fun _=>by rw [gLq];simp [jJ,Ws],by simp [dd,dds]⟩;unfold uF qX;rw [h4];exact⟨rfl,rfl⟩
   by_cases h5:e.kind=5
   ·refine⟨(⟨3,⟨0,0⟩,[],[]⟩,true),hsuc fun m _=>?_,fun h=>(by cases h),by simp [dd,dds]⟩;unfold uF qX;rw [h5];exact⟨rfl,rfl⟩
   ·refine⟨(gE4,false),hsuc fun m _=>?_,hz.1,by simp [gE4,dd,dds]⟩;have c1:(e.kind==1)=false:=by simpa using h1
    have c2:(e.kind==2)=false:=by simpa using y
    have c3:(e.kind==3)=false:=by simpa using h3
    have c4:(e.kind==4)=false:=by simpa using h4
    have c5:(e.kind==5)=false:=by simpa using h5
    unfold uF qX;rw [c1,c2,c3,c4,c5];exact⟨rfl,rfl⟩
end
end Go.Proofs.YtfpdlnkkcnmebaaGreat
