import Derived.Test.YtegahmhnmjnhhaaGreatB1
set_option maxHeartbeats 4000000
set_option linter.unusedVariables false
set_option linter.unusedSimpArgs false
set_option linter.unusedSectionVars false
namespace Go.Proofs.YtegahmhnmjnhhaaGreat
open Go Go.Eng
attribute [local irreducible] V VO VQ VY Quiet QR gY kR Rng mU mW mG
def gG6(code:LB):Nat→Int→Int→Option (jB)
 | 0,f,c=>none
 | h+1,f,c=>lt_ ((cnd (decide (c < (code.length:Int))) ((decide (c < 4000))) (false))) fun y=>
(cnd y (
bnd (at? code c) fun x7=>
gG6 code h (hGc (IntKind.i64.wrap ((IntKind.i64.wrap ((IntKind.i64.wrap (f*131))+(IntKind.i64.wrap (x7.toNat:Int))))+7)) 1073741823) (IntKind.i64.wrap (c+1))) (
(some (jB.mk code 0 f))))
def gR6(code:LB)(c:Nat):Option (jB):=
gG6 code c (IntKind.i64.wrap ((28803:Int)+(code.length:Int))) 0
theorem hSg(code:LB){n0:Nat}{r:jB}(h:gR6 code n0=some r):Go.Eng.Spec Tryz.prog 17 [.L 1 (gEr code)] [] (fun sv Lo=>sv=.ptr 0 0∧Lo=[bCu r.b r.i r.h]):=by
 unfold gR6 at h;refine kF 0 Tryz.func17 rfl (by kernel_rfl) rfl rfl fun A _=>?_;refine goL ?_;refine jI (hKd) ?_;refine jI (pU) ?_;refine noB ?_;refine kS (fun(c:Nat)(f:Int)(y:Int)=>⟨[(0,.L 1 (gEr code)),(3,.I f),(4,.I y)],[],Tryz.f17.ntmps⟩) (fun c f y=>gG6 code c f y=some r) (fun c f y=>c) n0 (IntKind.i64.wrap ((28803:Int)+(code.length:Int))) 0 eJ h ?_;rintro c f y h;rcases c with _ | c
 ·cases h
 rw [gG6.eq_2] at h;refine goL ?_;obtain⟨b4,hb4,h⟩:=qA h;refine jT ⟨[(0,.L 1 (gEr code)),(3,.I f),(4,.I y),(15,.B b4)],[],Tryz.f17.ntmps⟩ ?_ ?_
 ·exact gqZ 12 hb4
 refine goC h ?_ ?_<;>intro c6 h
 ·refine noS ?_;refine jY (jA ?_);refine goL ?_;refine jI (pU) ?_;obtain⟨x7,aa,h⟩:=gM h;obtain⟨ab,aa⟩:=gDy aa;refine jI (qW ab (hTq aa)) ?_;refine qK (hTt Tryz.underlying5 Tryz.underlying3) ?_;refine qK (pU) ?_;refine qK (pU) ?_;refine jI (hKe) ?_;refine jI (pU) ?_;exact⟨c,(hGc (IntKind.i64.wrap ((IntKind.i64.wrap ((IntKind.i64.wrap (f*131))+(IntKind.i64.wrap (x7.toNat:Int))))+7)) 1073741823),(IntKind.i64.wrap (y+1)),h,Nat.lt_succ_self _,eJ⟩
 ·refine goX ?_;refine gBn (jX TBd.h TZ.h rfl (by repeat constructor)) ?_;refine jG ?_;obtain rfl:=Option.some.inj h;exact yK [.ptr 0 0] _ ⟨rfl,rfl⟩
def gLf(code:LB):jB:=(gR6 code 4001).getD ⟨[],0,0⟩
theorem gR7(code:LB):∀(n:Nat)(f c:Int),0≤c→c≤4000→(4001 - c).toNat≤n→∃h,gG6 code n f c=some ⟨code,0,h⟩
 | 0,f,c,y,h1,hn=>by omega
 | n+1,f,c,y,h1,hn=>by
   simp only [gG6,lt_];cases hc:decide (c < (code.length:Int))with
   | false=>exact⟨f,rfl⟩
   | true=>
     simp only [gT];cases hd:decide (c < 4000)with
     | false=>exact⟨f,rfl⟩
     | true=>
       have h3:=of_decide_eq_true hc;have h4:=of_decide_eq_true hd;have hx:at? code c=some (code[c.toNat]'(by omega)):=by unfold at?;rw [if_pos y];exact List.getElem?_eq_getElem _
       simp only [gT];rw [jO hx,qR (c+1) (by omega) (by omega)];exact gR7 code n _ (c+1) (by omega) (by omega) (by omega)
theorem hCg(code:LB):gR6 code 4001=some (gLf code)∧(gLf code).b=code∧(gLf code).i=0:=by
 obtain⟨h,e⟩:=gR7 code 4001 (IntKind.i64.wrap ((28803:Int)+(code.length:Int))) 0 (by omega) (by omega) (by omega);have e':gR6 code 4001=some ⟨code,0,h⟩:=e;unfold gLf;rw [e'];exact⟨rfl,rfl,rfl⟩
theorem hSh(code:LB):Go.Eng.Spec Tryz.prog 17 [.L 1 (gEr code)] [] (fun sv Lo=>sv=.ptr 0 0∧Lo=[.box [.d (.sl 1 (gEr (gLf code).b)),.d (.i .i64 (gLf code).i),.d (.i .i64 (gLf code).h)]]):=hSg code (hCg code).1
def gGu(c:jB):Option (Int × jB):=
(cnd (decide (c.i < (c.b.length:Int))) (
bnd (at? c.b c.i) fun f=>
(some ((hGc (IntKind.i64.wrap ((hGc (hWk (hOq (IntKind.i64.wrap ((IntKind.i64.wrap (c.h*6364136223846793005))+1442695040888963407)) 33) (hOq (IntKind.i64.wrap ((IntKind.i64.wrap (c.h*6364136223846793005))+1442695040888963407)) 45)) 255)+(IntKind.i64.wrap (f.toNat:Int)))) 255),(jB.mk c.b (IntKind.i64.wrap (c.i+1)) (IntKind.i64.wrap ((IntKind.i64.wrap (c.h*6364136223846793005))+1442695040888963407)))))) (
(some ((hGc (hWk (hOq (IntKind.i64.wrap ((IntKind.i64.wrap (c.h*6364136223846793005))+1442695040888963407)) 33) (hOq (IntKind.i64.wrap ((IntKind.i64.wrap (c.h*6364136223846793005))+1442695040888963407)) 45)) 255),(jB.mk c.b c.i (IntKind.i64.wrap ((IntKind.i64.wrap (c.h*6364136223846793005))+1442695040888963407)))))))
theorem gN6(c:jB){r:Int × jB}(h:gGu c=some r):Go.Eng.Spec Tryz.prog 75 [.ptr 0 0] [bCu c.b c.i c.h] (fun sv Lo=>sv=.I r.1∧Lo=[bCu r.2.b r.2.i r.2.h]):=by
 obtain⟨ab,ac,f⟩:=c;unfold gGu at h;refine kF 1 Tryz.func75 rfl (by kernel_rfl) rfl rfl fun A _=>?_;refine goL ?_;refine qK (pU) ?_;refine jI (pU) ?_;refine gFd (hQk) ?_;refine goL ?_;refine gFd (hQk) ?_;refine gFd (hWl) ?_;refine gFd (hKe) ?_;refine goC h ?_ ?_<;>intro c1 h
 ·refine goL ?_;obtain⟨x2,y,h⟩:=gM h;obtain⟨aa,y⟩:=gDy y;refine gFd (qW aa (hTq y)) ?_;refine goL ?_;refine gFd (hTt Tryz.underlying5 Tryz.underlying3) ?_;refine gFd (pU) ?_;refine gFd (hKe) ?_;refine goL ?_;refine jI (pU) ?_;refine jG ?_;obtain rfl:=Option.some.inj h;exact yK [.d (.i .i64 (hGc (IntKind.i64.wrap ((hGc (hWk (hOq (IntKind.i64.wrap ((IntKind.i64.wrap (f*6364136223846793005))+1442695040888963407)) 33) (hOq (IntKind.i64.wrap ((IntKind.i64.wrap (f*6364136223846793005))+1442695040888963407)) 45)) 255)+(IntKind.i64.wrap (x2.toNat:Int)))) 255))] _ ⟨rfl,rfl⟩
 ·refine goS ?_;refine jG ?_;obtain rfl:=Option.some.inj h;exact yK [.d (.i .i64 (hGc (hWk (hOq (IntKind.i64.wrap ((IntKind.i64.wrap (f*6364136223846793005))+1442695040888963407)) 33) (hOq (IntKind.i64.wrap ((IntKind.i64.wrap (f*6364136223846793005))+1442695040888963407)) 45)) 255))] _ ⟨rfl,rfl⟩
def gAg(c:jB)(n:Int):Option (Int × jB):=
(cnd (decide (n≤0)) (
(some (0,c))) (
(cnd (decide (n≤256)) (
bnd (gGu c) fun f=>
gd (n≠0) (
(some ((Int.tmod f.1 n),f.2)))) (
bnd (gGu c) fun h=>
bnd (gGu h.2) fun y=>
bnd (gGu y.2) fun x7=>
bnd (gGu x7.2) fun x8=>
gd (n≠0) (
(some ((Int.tmod (IntKind.i64.wrap ((IntKind.i64.wrap ((IntKind.i64.wrap ((IntKind.i64.wrap (h.1*16777216))+(IntKind.i64.wrap (y.1*65536))))+(IntKind.i64.wrap (x7.1*256))))+x8.1)) n),x8.2)))))))
theorem gD7(c:jB)(n:Int){r:Int × jB}(h:gAg c n=some r):Go.Eng.Spec Tryz.prog 37 [.ptr 0 0,.I n] [bCu c.b c.i c.h] (fun sv Lo=>sv=.I r.1∧Lo=[bCu r.2.b r.2.i r.2.h]):=by
 obtain⟨ai,aj,ak⟩:=c;unfold gAg at h;refine kF 1 Tryz.func37 rfl (by kernel_rfl) rfl rfl fun A _=>?_;refine goC h ?_ ?_<;>intro c1 h
 ·refine goL ?_;refine jG ?_;obtain rfl:=Option.some.inj h;exact yK [.I 0] _ ⟨rfl,rfl⟩
 ·refine goS ?_;refine kX (fun c2=>?_) (fun c2=>?_)
  ·replace h:=kD c2 h;refine goL ?_;obtain⟨⟨al,⟨aq,ar,au⟩⟩,a0,h⟩:=gM h;refine gA7 0 (gN6 (jB.mk ai aj ak) a0) ?_;refine goL ?_;obtain⟨g4,h⟩:=mY h;refine jI (hQl g4) ?_;refine jG ?_;obtain rfl:=Option.some.inj h;exact yK [.I (Int.tmod al n)] _ ⟨rfl,rfl⟩
  ·replace h:=kE c2 h;refine goS ?_;obtain⟨⟨am,⟨f,y,aa⟩⟩,a3,h⟩:=gM h;refine gA7 0 (gN6 (jB.mk ai aj ak) a3) ?_;refine goL ?_;obtain⟨⟨an,⟨ab,ac,ad⟩⟩,a4,h⟩:=gM h;refine gA7 0 (gN6 (jB.mk f y aa) a4) ?_;refine goL ?_;obtain⟨⟨ao,⟨ae,ag,ah⟩⟩,a5,h⟩:=gM h;refine gA7 0 (gN6 (jB.mk ab ac ad) a5) ?_;refine goL ?_;obtain⟨⟨ap,⟨av,aw,ax⟩⟩,a6,h⟩:=gM h;refine gA7 0 (gN6 (jB.mk ae ag ah) a6) ?_;refine goL ?_;refine jI (pU) ?_;refine qK (pU) ?_;refine jI (pU) ?_;refine qK (pU) ?_;refine jI (pU) ?_;refine jI (pU) ?_;obtain⟨g9,h⟩:=mY h;refine jI (hQl g9) ?_;refine jG ?_;obtain rfl:=Option.some.inj h;exact yK [.d (.i .i64 (Int.tmod (IntKind.i64.wrap ((IntKind.i64.wrap ((IntKind.i64.wrap ((IntKind.i64.wrap (am*16777216))+(IntKind.i64.wrap (an*65536))))+(IntKind.i64.wrap (ao*256))))+ap)) n))] _ ⟨rfl,rfl⟩
def gGv(c:jB)(l:LS):Option (LB × jB):=
bnd (gAg c (l.length:Int)) fun f=>
bnd (at? l f.1) fun h=>
(some (h,f.2))
theorem gQ0(c:jB)(l:LS){r:LB × jB}(h:gGv c l=some r):Go.Eng.Spec Tryz.prog 38 [.ptr 0 0,.L 1 (jL l)] [bCu c.b c.i c.h] (fun sv Lo=>sv=.S r.1∧Lo=[bCu r.2.b r.2.i r.2.h]):=by
 obtain⟨ad,ae,ag⟩:=c;unfold gGv at h;refine kF 1 Tryz.func38 rfl (by kernel_rfl) rfl rfl fun A _=>?_;refine goL ?_;obtain⟨⟨ai,⟨aa,ab,ac⟩⟩,ah,h⟩:=gM h;refine gA7 0 (gD7 (jB.mk ad ae ag) (l.length:Int) ah) ?_;obtain⟨x2,f,h⟩:=gM h;obtain⟨y,f⟩:=gDy f;refine jI (qW y (gQr f)) ?_;refine jG ?_;obtain rfl:=Option.some.inj h;exact yK [.S x2] _ ⟨rfl,rfl⟩
def mR(c:gB→LB→Option (Int))(a1:LB):List gB→Int→Option (Int)
 | [],f=>(some f)
 | y::xs,f=>bnd (c y a1) fun h=>
mR c a1 xs (IntKind.i64.wrap (f+h))
def zX(c:gB→LB→Option (Int))(f:gB)(a1:LB):Option (Int):=
lt_ ((cnd (f.kind==1) ((f.name==a1)) (false))) fun h=>
bnd ((cnd h (
(some 1)) (
(some 0)))) fun y=>
mR c a1 f.args y
theorem gMw{c:gB→LB→Option (Int)}(f:∀(x0:gB)(x1:LB){r:Int},c x0 x1=some r→gY Tryz.prog 104 [.d (jS x0),.S x1] [.i .i64 r])(a0:gB)(a1:LB){r:Int}(h:zX c a0 a1=some r):gY Tryz.prog 104 [.d (jS a0),.S a1] [.i .i64 r]:=by
 obtain⟨ab,ac,y⟩:=a0;unfold zX at h;refine SpI Tryz.func104 fun A _=>?_;refine goL ?_;obtain⟨b1,hb1,h⟩:=qA h;refine jT ⟨[(1,.S a1),(2,.ptr 0 0),(5,.I 0),(15,.B b1)],[bTy ab ac y],Tryz.f104.ntmps⟩ ?_ ?_
 ·exact gqZ 10 hb1
 refine goL ?_;obtain⟨b3,hb3,h⟩:=gM h;refine gE4 ⟨[(1,.S a1),(2,.ptr 0 0),(5,.I b3)],[bTy ab ac y],Tryz.f104.ntmps⟩ ?_ ?_
 ·refine kX (fun c4=>?_) (fun c4=>?_)
  ·replace hb3:=kD c4 hb3;refine goL ?_;cases hb3;exact eJ
  ·replace hb3:=kE c4 hb3;refine gAn ?_;cases hb3;exact eJ
 refine goL ?_;refine noB ?_;refine wJ 0 2 (fun z7=>?_);refine gEe (fun(y6:Nat)(y5:Int)=>⟨[(1,.S a1),(2,.ptr 0 0),(5,.I y5),(6,.N y6)],[bTy ab ac y],Tryz.f104.ntmps⟩) (fun y6 y5=>mR c a1 (y.drop y6) y5=some r) (fun y6 y5=>y.length - y6) 0 b3 eJ h ?_;rintro y6 y5 h;refine goL ?_;refine kX (fun c8=>?_) (fun c8=>?_)
 ·have aa:=uR c8;obtain⟨x9,al,ag⟩:=drop_at aa;rw [ag,mR.eq_2] at h;obtain⟨aq,ar,au⟩:=x9;refine noS ?_;refine jY (jA ?_);refine goL ?_;refine jI (jJ y6 (zJ al)) ?_;obtain⟨am,ah,h⟩:=gM h;refine qK (gF (f _ _ ah)) ?_;refine jI (pU) ?_;refine jI (jW y6 (by omega)) ?_;exact⟨(y6+1),(IntKind.i64.wrap (y5+am)),h,by omega,eJ⟩
 ·have aa:=uS c8;rw [jC aa,mR.eq_1] at h;refine goX ?_;refine jG ?_;cases h;exact qD
def uC:Nat→gB→LB→Option (Int)
 | 0,_,_=>none
 | n+1,c,f=>zX (uC n) c f
theorem gMx:∀(n:Nat)(c:gB)(f:LB){r:Int},uC n c f=some r→gY Tryz.prog 104 [.d (jS c),.S f] [.i .i64 r]:=by
 intro n
 induction n with
 | zero=>intro c f r h;cases h
 | succ n ih=>intro c f r h;exact gMw ih c f h
def gD8(f:LS→Option (LS × LS × LS × LS)):List pV→LS→Option (LS × LS × LS × LS)
 | [],c=>(f c)
 | h::xs,c=>gd (c.length+[h.name].length≤4294967296) (
gD8 f xs (c++[h.name]))
def gD9(y:LS)(y8:LS)(f:LS):List mK→LS→Option (LS × LS × LS × LS)
 | [],c=>(some (y,y8,f,c))
 | h::xs,c=>gd (c.length+[h.name].length≤4294967296) (
gD9 y y8 f xs (c++[h.name]))
def gCn(a0:kH)(y1:LS):List mP→LS→LS→Option (LS × LS × LS × LS)
 | [],h,c=>gD9 y1 h c a0.functions []
 | f::xs,h,c=>gd (h.length+[f.name].length≤4294967296) (
gD8 (fun y=>gCn a0 y1 xs (h++[f.name]) y) f.constructors c)
def gEa(f:kH):List uG→LS→Option (LS × LS × LS × LS)
 | [],c=>gCn f c f.dataTypes [] []
 | h::xs,c=>gd (c.length+[h.name].length≤4294967296) (
gEa f xs (c++[h.name]))
def gPh(c:kH):Option (LS × LS × LS × LS):=
gEa c c.traits []
theorem hE9(a0:kH){r:LS × LS × LS × LS}(h:gPh a0=some r):gY Tryz.prog 136 [.d (gFe a0)] [.sl 1 (jL r.1),.sl 1 (jL r.2.1),.sl 1 (jL r.2.2.1),.sl 1 (jL r.2.2.2)]:=by
 obtain⟨ab,ac,f,c,ad,y⟩:=a0;unfold gPh at h;refine SpI Tryz.func136 fun A _=>?_;refine goL ?_;refine gGk ?_;refine goL ?_;refine gGk ?_;refine goL ?_;refine gGk ?_;refine goL ?_;refine gGk ?_;refine goL ?_;refine noB ?_;refine wJ 0 2 (fun z4=>?_);refine kS (fun(y3:Nat)(y1:LS)(v2:Nat)=>⟨[(1,.ptr 0 0),(6,.sl 1 v2),(7,.sl 2 0),(8,.sl 3 0),(9,.sl 4 0),(10,.N y3)],[bPk ab ac f c ad y,.own 9 1 v2 (jL y1),.own 9 1 0 [],.own 9 1 0 [],.own 9 1 0 []],Tryz.f136.ntmps⟩) (fun y3 y1 v2=>gEa (kH.mk ab ac f c ad y) (f.drop y3) y1=some r) (fun y3 y1 v2=>f.length - y3) 0 [] 0 eJ h ?_;rintro y3 y1 v2 h;refine goL ?_;refine kX (fun c5=>?_) (fun c5=>?_)
 ·have ao:=uR c5;obtain⟨x6,bx,bi⟩:=drop_at ao;rw [bi,gEa.eq_2] at h;obtain⟨a7,b9,ca,cb,cc⟩:=x6;refine noS ?_;refine jY (jA ?_);refine goL ?_;refine jI (jJ y3 (gX6 bx)) ?_;refine gBc a7 ?_;obtain⟨g7,h⟩:=mY h;refine gIe g7 ?_;refine goL ?_;refine jI (jW y3 (by omega)) ?_;exact⟨(y3+1),(y1++[a7]),(v2+1),h,by omega,eJ⟩
 ·have ao:=uS c5;rw [jC ao,gEa.eq_1] at h;refine goX ?_;refine noB ?_;refine wJ 0 3 (fun cf=>?_);refine gWe (fun(aa:Nat)(y8:LS)(am:LS)(v9:Nat)(an:Nat)=>⟨[(1,.ptr 0 0),(6,.sl 1 v2),(7,.sl 2 v9),(8,.sl 3 an),(9,.sl 4 0),(11,.N aa)],[bPk ab ac f c ad y,.own 9 1 v2 (jL y1),.own 9 1 v9 (jL y8),.own 9 1 an (jL am),.own 9 1 0 []],Tryz.f136.ntmps⟩) (fun aa y8 am v9 an=>gCn (kH.mk ab ac f c ad y) y1 (c.drop aa) y8 am=some r) (fun aa y8 am v9 an=>c.length - aa) 0 [] [] 0 0 eJ h ?_;rintro aa y8 am v9 an h;refine goL ?_;refine kX (fun a8=>?_) (fun a8=>?_)
  ·have ae:=uR a8;obtain⟨bz,ax,a9⟩:=drop_at ae;rw [a9,gCn.eq_2] at h;obtain⟨ag,ba,ap⟩:=bz;refine noS ?_;refine jY (jA ?_);refine goL ?_;refine jI (jJ aa (gOi ax)) ?_;refine gBc ag ?_;obtain⟨b0,h⟩:=mY h;refine gIe b0 ?_;refine goL ?_;refine noB ?_;refine kS (fun(ah:Nat)(ai:LS)(aq:Nat)=>⟨[(1,.ptr 0 0),(6,.sl 1 v2),(7,.sl 2 (v9+1)),(8,.sl 3 aq),(9,.sl 4 0),(11,.N aa),(12,.N ah)],[bPk ab ac f c ad y,.own 9 1 v2 (jL y1),.own 9 1 (v9+1) (jL (y8++[ag])),.own 9 1 aq (jL ai),.own 9 1 0 [],.dead 1],Tryz.f136.ntmps⟩) (fun ah ai aq=>gD8 (fun ai=>gCn (kH.mk ab ac f c ad y) y1 (c.drop (aa+1)) (y8++[(mP.mk ag ba ap).name]) ai) (ap.drop ah) ai=some r) (fun ah ai aq=>ap.length - ah) 0 am an eJ h ?_;rintro ah ai aq h;refine goL ?_;refine jI (jJ aa (gOi ax)) ?_;refine kX (fun bb=>?_) (fun bb=>?_)
   ·have aj:=uR bb;refine gB0 56 (fun cg=>?_);obtain⟨b1,bj,bc⟩:=drop_at aj;rw [bc,gD8.eq_2] at h;obtain⟨ay,b2⟩:=b1;refine noS ?_;refine jY (jA ?_);refine goL ?_;refine jI (jJ aa (gOi ax)) ?_;refine jI (jJ ah (gDu bj)) ?_;refine gBc ay ?_;obtain⟨b3,h⟩:=mY h;refine gIe b3 ?_;refine goL ?_;refine jI (jW ah (by omega)) ?_;exact⟨(ah+1),(ai++[ay]),(aq+1),h,by omega,eJ⟩
   ·have aj:=uS bb;rw [jC aj,gD8.eq_1] at h;refine goX ?_;refine jI (jW aa (by omega)) ?_;exact⟨(aa+1),(y8++[ag]),ai,(v9+1),aq,h,by omega,eJ⟩
  ·have ae:=uS a8;rw [jC ae,gCn.eq_1] at h;refine goX ?_;refine noB ?_;refine wJ 0 5 (fun ch=>?_);refine kS (fun(ak:Nat)(ar:LS)(au:Nat)=>⟨[(1,.ptr 0 0),(6,.sl 1 v2),(7,.sl 2 v9),(8,.sl 3 an),(9,.sl 4 au),(13,.N ak)],[bPk ab ac f c ad y,.own 9 1 v2 (jL y1),.own 9 1 v9 (jL y8),.own 9 1 an (jL am),.own 9 1 au (jL ar)],Tryz.f136.ntmps⟩) (fun ak ar au=>gD9 y1 y8 am (y.drop ak) ar=some r) (fun ak ar au=>y.length - ak) 0 [] 0 eJ h ?_;rintro ak ar au h;refine goL ?_;refine kX (fun bd=>?_) (fun bd=>?_)
   ·have al:=uR bd;obtain⟨b4,bk,be⟩:=drop_at al;rw [be,gD9.eq_2] at h;obtain⟨a3,b5,b6,b7,⟨bl,bm,bn⟩,⟨bo,bp,bq,br,⟨bf,bg,bh⟩,bt,bu⟩⟩:=b4;refine noS ?_;refine jY (jA ?_);refine goL ?_;refine jI (jJ ak (gYb bk)) ?_;refine gBc a3 ?_;obtain⟨b8,h⟩:=mY h;refine gIe b8 ?_;refine goL ?_;refine jI (jW ak (by omega)) ?_;exact⟨(ak+1),(ar++[a3]),(au+1),h,by omega,eJ⟩
   ·have al:=uS bd;rw [jC al,gD9.eq_1] at h;refine goX ?_;refine qU 1 rfl rfl ?_;refine qU 2 rfl rfl ?_;refine qU 3 rfl rfl ?_;refine qU 4 rfl rfl ?_;refine jG ?_;cases h;exact qD
def gEb(c:jB)(a1:Int):Option (Bool × jB):=
bnd (gAg c a1) fun f=>
(some ((f.1==0),f.2))
theorem gJ2(c:jB)(a1:Int){r:Bool × jB}(h:gEb c a1=some r):Go.Eng.Spec Tryz.prog 30 [.ptr 0 0,.I a1] [bCu c.b c.i c.h] (fun sv Lo=>sv=.B r.1∧Lo=[bCu r.2.b r.2.i r.2.h]):=by
 obtain⟨ac,ad,ae⟩:=c;unfold gEb at h;refine kF 1 Tryz.func30 rfl (by kernel_rfl) rfl rfl fun A _=>?_;refine goL ?_;obtain⟨⟨f,⟨y,aa,ab⟩⟩,ag,h⟩:=gM h;refine gA7 0 (gD7 (jB.mk ac ad ae) a1 ag) ?_;refine goL ?_;refine jG ?_;obtain rfl:=Option.some.inj h;exact yK [.B (f==0)] _ ⟨rfl,rfl⟩
def gB3:List gG→(List gG)→Option (List gG)
 | [],c=>(some c)
 | f::xs,c=>gd (tok f.type_) (lt_ (idT f.type_) fun h=>
gd (c.length+[(gG.mk f.var_ h)].length≤4294967296) (
gB3 xs (c++[(gG.mk f.var_ h)])))
def gQ1(c:List gG):Option (List gG):=
gB3 c []
theorem hNu(a0:List gG){r:List gG}(h:gQ1 a0=some r):gY Tryz.prog 54 [.L 4 (gP a0)] [.sl 4 (gP r)]:=by
 unfold gQ1 at h;refine SpI Tryz.func54 fun A _=>?_;refine goL ?_;refine gAp ?_;refine goL ?_;refine noB ?_;refine gB0 0 (fun z4=>?_);refine kS (fun(f:Nat)(y1:List gG)(v2:Nat)=>⟨[(0,.L 4 (gP a0)),(3,.sl 0 v2),(4,.N f)],[.arr 101 4 v2 (gP y1)],Tryz.f54.ntmps⟩) (fun f y1 v2=>gB3 (a0.drop f) y1=some r) (fun f y1 v2=>a0.length - f) 0 [] 0 eJ h ?_;rintro f y1 v2 h;refine goL ?_;refine kX (fun c5=>?_) (fun c5=>?_)
 ·have c:=uR c5;obtain⟨x6,ak,al⟩:=drop_at c;rw [al,gB3.eq_2] at h;obtain⟨ac,⟨y,aa,ab⟩⟩:=x6;refine noS ?_;refine jY (jA ?_);refine uM (P:=Tryz.prog) Mix.h [(0,true),(1,true),(2,true),(3,true),(4,true),(5,true),(6,true),(7,true),(8,true),(9,true),(10,true),(11,true),(12,true),(13,false),(14,false),(15,true)] (by kernel_rfl) ?_;refine goY ?_;refine jF rfl (jJ f (gMi ak)) ?_;refine goY ?_;refine jF rfl (jJ f (gMi ak)) ?_;refine goY ?_;obtain⟨g7,h⟩:=mY h;obtain⟨⟨ad,ae,ag⟩,an,h⟩:=qA h;have sx8:=(zT (gB.mk y aa ab) g7).p;rw [an] at sx8;refine jF rfl (gF (sx8)) ?_;refine goY ?_;refine qE (T:=28) (us:=gP [(gG.mk ac (gB.mk ad ae ag))]) ?_;obtain⟨g9,h⟩:=mY h;refine pW (T:=28) g9 ?_;refine goY ?_;refine kQ ?_;refine goL ?_;refine jI (jW f (by omega)) ?_;exact⟨(f+1),(y1++[(gG.mk ac (gB.mk ad ae ag))]),(v2+1),h,by omega,eJ⟩
 ·have c:=uS c5;rw [jC c,gB3.eq_1] at h;refine goX ?_;refine kP 0 rfl rfl ?_;refine jG ?_;cases h;exact qD
def pG(c:gJ)(a1:Int):gJ:=
(cnd (c.code==0) (
(gJ.mk c.next c.count c.node c.bindings c.equations c.obligations a1 c.node)) (
c))
theorem gLg(c:gJ)(a1:Int):gY Tryz.prog 58 [.d (mJ c),.I a1] [mJ (pG c a1)]:=by
 obtain⟨r,h⟩:∃r,pG c a1=r:=⟨_,rfl⟩
 rw [h];obtain⟨f,y,aa,ab,ac,ad,ae,ag⟩:=c;unfold pG at h;refine SpI Tryz.func58 fun A _=>?_;refine goC h ?_ ?_<;>intro c1 h
 ·refine goL ?_;refine jG ?_;subst h;exact qD
 ·refine goS ?_;refine jG ?_;subst h;exact qD
def wU(c:gW)(a1:gW):Bool:=
lt_ ((cnd (c.trait==a1.trait) ((teq c.type_ a1.type_)) (false))) fun f=>
f
theorem gXm(a0:gW)(a1:gW):gY Tryz.prog 219 [.d (zW a0),.d (zW a1)] [.b (wU a0 a1)]:=by
 obtain⟨r,h⟩:∃r,wU a0 a1=r:=⟨_,rfl⟩
 rw [h];obtain⟨ad,⟨c,f,y⟩⟩:=a0;obtain⟨ae,⟨aa,ab,ac⟩⟩:=a1;unfold wU at h;refine SpI Tryz.func219 fun A _=>?_;refine goL ?_;obtain⟨b1,hb1,h⟩:=qA h;refine jT ⟨[(4,.B b1)],[bBd ad c f y,bBd ae aa ab ac],Tryz.f219.ntmps⟩ ?_ ?_
 ·refine gqA 10 hb1 (fun c2 hb1=>?_);refine jI (gF (gDw (gB.mk c f y) (gB.mk aa ab ac))) ?_;cases hb1;exact eJ
 refine goL ?_;refine jG ?_;subst h;exact qD
def gC4(c:gN→Option (gN)):List gN→(List gN)→Option (List gN)
 | [],f=>(some f)
 | y::xs,f=>bnd (c y) fun h=>
gd (f.length+[h].length≤4294967296) (
gC4 c xs (f++[h]))
def gNc(f:(List gN)→Option (List gN))(c:gN→Option (gN))(h:List gN):Option (List gN):=
gC4 c h []
def gNd(c:(List gN)→Option (List gN)):Prop:=∀(f:List gN){r:List gN},c f=some r→kR Tryz.prog 236 [.L 5 (kN f)] [147] [.sl 5 (kN r)]
def gN7(c:gN→Option (gN)):Prop:=∀(f:gN){r:gN},c f=some r→kR Tryz.prog 220 [.d (qB f)] [147] [qB r]
theorem gZy{f}{c}(ad:gNd f)(y:gN7 c)(a0:List gN){r:List gN}(h:gNc f c a0=some r):kR Tryz.prog 236 [.L 5 (kN a0)] [147] [.sl 5 (kN r)]:=by
 unfold gNc at h;refine pR Tryz.func236 rfl (by kernel_rfl) rfl (by simp) fun A _=>?_;refine goL ?_;refine gGk ?_;refine goL ?_;refine noB ?_;refine gB0 0 (fun z4=>?_);refine kS (fun(y3:Nat)(y1:List gN)(v2:Nat)=>⟨[(0,.L 5 (kN a0)),(3,.sl 0 v2),(4,.N y3)],[.own 147 5 v2 (kN y1)],Tryz.f236.ntmps⟩) (fun y3 y1 v2=>gC4 c (a0.drop y3) y1=some r) (fun y3 y1 v2=>a0.length - y3) 0 [] 0 eJ h ?_;rintro y3 y1 v2 h;refine goL ?_;refine kX (fun c5=>?_) (fun c5=>?_)
 ·have aa:=uR c5;obtain⟨x6,av,ao⟩:=drop_at aa;rw [ao,gC4.eq_2] at h;obtain⟨ap,aq,⟨ag,ah⟩,ar⟩:=x6;refine noS ?_;refine jY (jA ?_);refine goL ?_;refine jI (jJ y3 (gYd av)) ?_;obtain⟨⟨ai,aj,⟨ab,ac⟩,ak⟩,aw,h⟩:=gM h;refine gE3 (y (gN.mk ap aq (gH.mk ag ah) ar) aw) ?_;refine gBc (gN.mk ai aj (gH.mk ab ac) ak) ?_;obtain⟨g8,h⟩:=mY h;refine gIe g8 ?_;refine goL ?_;refine jI (jW y3 (by omega)) ?_;exact⟨(y3+1),(y1++[(gN.mk ai aj (gH.mk ab ac) ak)]),(v2+1),h,by omega,eJ⟩
 ·have aa:=uS c5;rw [jC aa,gC4.eq_1] at h;refine goX ?_;refine jG ?_;obtain rfl:=Option.some.inj h;exact gQd
def gR8(c:(List gN)→Option (List gN))(f:gN→Option (gN))(h:gN):Option (gN):=
bnd (c h.args) fun y=>
(some (gN.mk h.kind h.n h.at_ y))
theorem hHn{c}{f}(y:gNd c)(aa:gN7 f)(a0:gN){r:gN}(h:gR8 c f a0=some r):kR Tryz.prog 220 [.d (qB a0)] [147] [qB r]:=by
 obtain⟨ah,ai,⟨ac,ad⟩,ab⟩:=a0;unfold gR8 at h;refine pR Tryz.func220 rfl (by kernel_rfl) rfl (by simp) fun A _=>?_;refine goL ?_;obtain⟨x1,ag,h⟩:=gM h;refine gE3 (y ab ag) ?_;refine goL ?_;refine jG ?_;obtain rfl:=Option.some.inj h;exact gQd
mutual
def gNe:Nat→(List gN)→Option (List gN)
 | 0,_=>none
 | n+1,c=>gNc (gNe n) (gJg n) c
def gJg:Nat→gN→Option (gN)
 | 0,_=>none
 | n+1,c=>gR8 (gNe n) (gJg n) c
end
theorem gXn:∀(n:Nat),gNd (gNe n)∧gN7 (gJg n):=by
 intro n
 induction n with
 | zero=>exact⟨(by intro c r h;cases h),(by intro c r h;cases h)⟩
 | succ n ih=>
   obtain⟨ih0,ih1⟩:=ih;refine⟨(fun c r h=>gZy ih0 ih1 c h),(fun c r h=>hHn ih0 ih1 c h)⟩
theorem hHo:∀(n:Nat),gN7 (gJg n):=fun n=>(gXn n).2
def gB4(a1:LB)(f:Nat)(c:uG × Int × Bool):List uG→uG × Int × Bool
 | []=>c
 | h::xs=>(cnd (h.name==a1) (
(h,(f:Int),true)) (
gB4 a1 f c xs ))
def gAh(a1:LB):List kH→Nat→uG × Int × Bool
 | [],c=>((uG.mk [] [] false false []),0,false)
 | f::xs,c=>gB4 a1 c (gAh a1 xs (c+1)) f.traits
def wV(c:gK)(a1:LB):uG × Int × Bool:=
gAh a1 c.packages 0
theorem gLh(a0:gK)(a1:LB):gY Tryz.prog 192 [.d (kT a0),.S a1] [gM2 (wV a0 a1).1,.i .i64 (wV a0 a1).2.1,.b (wV a0 a1).2.2]:=by
 obtain⟨r,h⟩:∃r,wV a0 a1=r:=⟨_,rfl⟩
 rw [h];obtain⟨c⟩:=a0;unfold wV at h;refine SpI Tryz.func192 fun A _=>?_;refine goL ?_;refine noB ?_;refine wJ 0 0 (fun z2=>?_);refine mV (fun(f:Nat)=>⟨[(1,.S a1),(2,.ptr 0 0),(4,.ptr 1 0),(7,.N f)],[bPr c,.box [.S [],.nilsl,.B false,.B false,.nilsl]],Tryz.f192.ntmps⟩) (fun f=>gAh a1 (c.drop f) f=r) (fun f=>c.length - f) 0 eJ h ?_;rintro f h;refine goL ?_;refine kX (fun c3=>?_) (fun c3=>?_)
 ·have y:=uR c3;obtain⟨x4,ad,ag⟩:=drop_at y;rw [ag,gAh.eq_2] at h;obtain⟨am,an,ac,ao,ap,aq⟩:=x4;refine noS ?_;refine jY (jA ?_);refine goL ?_;refine noB ?_;refine mV (fun(y5:Nat)=>⟨[(1,.S a1),(2,.ptr 0 0),(4,.ptr 1 0),(7,.N f),(8,.N y5)],[bPr c,.box [.S [],.nilsl,.B false,.B false,.nilsl]],Tryz.f192.ntmps⟩) (fun y5=>gB4 a1 f (gAh a1 (c.drop (f+1)) (f+1)) (ac.drop y5)  =r) (fun y5=>ac.length - y5) 0 eJ h ?_;rintro y5 h;refine goL ?_;refine jI (jJ f (gBt ad)) ?_;refine kX (fun c6=>?_) (fun c6=>?_)
  ·have aa:=uR c6;refine gB0 22 (fun z7=>?_);obtain⟨x8,ah,ai⟩:=drop_at aa;rw [ai,gB4.eq_2] at h;obtain⟨ar,au,av,aw,ax⟩:=x8;refine noS ?_;refine jY (jA ?_);refine goL ?_;refine jI (jJ f (gBt ad)) ?_;refine jI (jJ y5 (gX6 ah)) ?_;refine kX (fun c9=>?_) (fun c9=>?_)
   ·replace h:=kD c9 h;refine goL ?_;refine jI (jJ f (gBt ad)) ?_;refine jI (jJ y5 (gX6 ah)) ?_;refine jG ?_;subst h;exact qD
   ·replace h:=kE c9 h;refine goS ?_;refine jI (jW y5 (by omega)) ?_;exact⟨(y5+1),h,by omega,eJ⟩
  ·have aa:=uS c6;rw [jC aa,gB4.eq_1] at h;refine goX ?_;refine jI (jW f (by omega)) ?_;exact⟨(f+1),h,by omega,eJ⟩
 ·have y:=uS c3;rw [jC y,gAh.eq_1] at h;refine goX ?_;refine gBn (jX TBd.h TZ.h rfl (by repeat constructor)) ?_;refine jG ?_;subst h;exact qD
def mX(y:Nat)(c:(List gH)→Option (List gH)):List kG→Nat→(List gH)→Option (List gH)
 | [],f,h=>(c h)
 | aa::xs,f,h=>gd (h.length+[(gH.mk (y:Int) (f:Int))].length≤4294967296) (
mX y c xs (f+1) (h++[(gH.mk (y:Int) (f:Int))]))
def pI:List kH→Nat→(List gH)→Option (List gH)
 | [],c,f=>(some f)
 | h::xs,c,f=>mX c (fun y=>pI xs (c+1) y) h.instances 0 f
def gAi(c:gK):Option (List gH):=
pI c.packages 0 []
theorem gR9(a0:gK){r:List gH}(h:gAi a0=some r):gY Tryz.prog 249 [.d (kT a0)] [.sl 2 (kK r)]:=by
 obtain⟨c⟩:=a0;unfold gAi at h;refine SpI Tryz.func249 fun A _=>?_;refine goL ?_;refine gAp ?_;refine goL ?_;refine noB ?_;refine wJ 0 0 (fun z4=>?_);refine kS (fun(f:Nat)(y1:List gH)(v2:Nat)=>⟨[(1,.ptr 0 0),(3,.sl 1 v2),(4,.N f)],[bPr c,.arr 144 2 v2 (kK y1)],Tryz.f249.ntmps⟩) (fun f y1 v2=>pI (c.drop f) f y1=some r) (fun f y1 v2=>c.length - f) 0 [] 0 eJ h ?_;rintro f y1 v2 h;refine goL ?_;refine kX (fun c5=>?_) (fun c5=>?_)
 ·have y:=uR c5;obtain⟨x6,av,ak⟩:=drop_at y;rw [ak,pI.eq_2] at h;obtain⟨a8,a9,ba,bb,ad,bc⟩:=x6;refine noS ?_;refine jY (jA ?_);refine goL ?_;refine noB ?_;refine kS (fun(y9:Nat)(y7:List gH)(v8:Nat)=>⟨[(1,.ptr 0 0),(3,.sl 1 v8),(4,.N f),(5,.N y9)],[bPr c,.arr 144 2 v8 (kK y7)],Tryz.f249.ntmps⟩) (fun y9 y7 v8=>mX f (fun y7=>pI (c.drop (f+1)) (f+1) y7) (ad.drop y9) y9 y7=some r) (fun y9 y7 v8=>ad.length - y9) 0 y1 v2 eJ h ?_;rintro y9 y7 v8 h;refine goL ?_;refine jI (jJ f (gBt av)) ?_;refine kX (fun ag=>?_) (fun ag=>?_)
  ·have aa:=uR ag;refine gB0 20 (fun bf=>?_);obtain⟨aw,bd,ah⟩:=drop_at aa;rw [ah,mX.eq_2] at h;obtain⟨ax,ay,⟨al,am,an⟩,a3,a4,a5,⟨ao,ap,aq⟩,a6⟩:=aw;refine noS ?_;refine jY (jA ?_);refine goL ?_;refine zZ (jX TBd.h TZ.h rfl (by repeat constructor)) ?_;refine gAo (u:=(.st [.i .i64 (f:Int),.i .i64 (y9:Int)])) ?_;obtain⟨a7,h⟩:=mY h;refine gBd a7 ?_;refine goL ?_;refine jI (jW y9 (by omega)) ?_;exact⟨(y9+1),(y7++[(gH.mk (f:Int) (y9:Int))]),(v8+1),h,by omega,eJ⟩
  ·have aa:=uS ag;rw [jC aa,mX.eq_1] at h;refine goX ?_;refine jI (jW f (by omega)) ?_;exact⟨(f+1),y7,v8,h,by omega,eJ⟩
 ·have y:=uS c5;rw [jC y,pI.eq_1] at h;refine goX ?_;refine kP 1 rfl rfl ?_;refine jG ?_;cases h;exact qD
def uX(c:gB)(a1:gB):Option (Bool):=
bnd (gBg a1 c) fun f=>
(some f)
theorem gGm(c:gB)(a1:gB){r:Bool}(h:uX c a1=some r):gY Tryz.prog 251 [.d (jS c),.d (jS a1)] [.b r]:=by
 obtain⟨y,aa,ab⟩:=c;obtain⟨ac,ad,ae⟩:=a1;unfold uX at h;refine SpI Tryz.func251 fun A _=>?_;refine goL ?_;obtain⟨x1,f,h⟩:=gM h;refine qK (gF (gUb _ _ f)) ?_;exact goR h
def gQ2(c:LB)(a1:gB):Option (gB):=
gd (tok a1) (lt_ (idT a1) fun f=>
(some (gB.mk 3 c [f])))
theorem hNv(a0:LB)(a1:gB){r:gB}(h:gQ2 a0 a1=some r):gY Tryz.prog 41 [.S a0,.d (jS a1)] [jS r]:=by
 obtain⟨c,f,y⟩:=a1;unfold gQ2 at h;refine SpI Tryz.func41 fun A _=>?_;refine goL ?_;obtain⟨g1,h⟩:=mY h;obtain⟨⟨aa,ab,ac⟩,ad,h⟩:=qA h;have sx2:=(zT (gB.mk c f y) g1).p;rw [ad] at sx2;refine qK (gF (sx2)) ?_;refine gAo (u:=(.st [.i .i64 aa,.s ab,.sl 3 (jH ac)])) ?_;refine gBn (jX TBd.h TZ.h rfl (by repeat constructor)) ?_;refine kP 2 rfl rfl ?_;refine jG ?_;cases h;exact qD
def gJh(c:jB)(a1:List gB):Option (gB × jB):=
bnd (gAg c (a1.length:Int)) fun f=>
bnd (at? a1 f.1) fun h=>
(some (h,f.2))
theorem hFa(c:jB)(a1:List gB){r:gB × jB}(h:gJh c a1=some r):Go.Eng.Spec Tryz.prog 42 [.ptr 0 0,.L 3 (jH a1)] [bCu c.b c.i c.h] (fun sv Lo=>sv=.d (jS r.1)∧Lo=[bCu r.2.b r.2.i r.2.h]):=by
 obtain⟨ah,ai,aj⟩:=c;unfold gJh at h;refine kF 1 Tryz.func42 rfl (by kernel_rfl) rfl rfl fun A _=>?_;refine goL ?_;obtain⟨⟨al,⟨ad,ae,ag⟩⟩,ak,h⟩:=gM h;refine gA7 0 (gD7 (jB.mk ah ai aj) (a1.length:Int) ak) ?_;obtain⟨x2,f,h⟩:=gM h;obtain⟨y,f⟩:=gDy f;obtain⟨aa,ab,ac⟩:=x2;refine jI (qW y (zJ f)) ?_;refine jG ?_;obtain rfl:=Option.some.inj h;exact yK [.d (.st [.i .i64 aa,.s ab,.sl 3 (jH ac)])] _ ⟨rfl,rfl⟩
@[reducible] def kU:LB:=[40,112,97,99,107,97,103,101,32,97,112,112,32,40,99,111,114,101,41,32,40,100,97,116,97,32,116,97,103,32,40,41,32,40,116,97,103,32,105,110,116,41,32,40,110,111,110,101,41,41]
@[reducible] def gCo:LB:=[32,40,105,110,115,116,32,115,104,111,119,32,40,41,32,105,110,116,32,40,41,32,40,41,32,40,41,32,40,109,32,40,120,41,32,57,41,41]
@[reducible] def gCp:LB:=[32,40,105,110,115,116,32,115,104,111,119,32,40,41,32,116,97,103,32,40,41,32,40,41,32,40,41,32,40,109,32,40,120,41,32,40,99,97,115,101,32,120,32,40,110,111,110,101,32,48,41,32,40,116,97,103,32,110,32,110,41,41,41,41]
@[reducible] def gCq:LB:=List.append [32,40,105,110,115,116,32,115,104,111,119,32,40,41,32,40,108,105,115,116,32,116,97,103,41,32,40,41,32,40,41,32,40,41,32,40,109,32,40,120,41] [32,52,41,41,32,40,105,110,115,116,32,115,104,111,119,32,40,41,32,116,97,103,32,40,41,32,40,41,32,40,41,32,40,109,32,40,120,41,32,53,41,41]
@[reducible] def gCr:LB:=[32,40,105,110,115,116,32,111,114,100,32,40,41,32,116,97,103,32,40,41,32,40,41,32,40,41,32,40,108,101,115,115,32,40,120,32,121,41,32,116,114,117,101,41,41]
@[reducible] def gCs:LB:=List.append [32,40,105,110,115,116,32,101,113,32,40,41,32,116,97,103,32,40,41,32,40,41,32,40,41,32,40,115,97,109,101,32,40,120,32,121,41,32,116,114,117,101,41,41,32] [40,105,110,115,116,32,111,114,100,32,40,41,32,116,97,103,32,40,41,32,40,41,32,40,41,32,40,108,101,115,115,32,40,120,32,121,41,32,102,97,108,115,101,41,41]
@[reducible] def gCt:LB:=[32,40,105,110,115,116,32,115,104,111,119,32,40,97,41,32,39,97,32,40,40,101,113,32,39,97,41,41,32,40,41,32,40,41,32,40,109,32,40,120,41,32,49,41,41]
@[reducible] def gCu:LB:=[32,40,105,110,115,116,32,115,104,111,119,32,40,41,32,116,97,103,32,40,41,32,40,41,32,40,41,32,40,109,32,40,120,41,32,40,99,97,115,101,32,120,32,40,116,97,103,32,110,32,110,41,32,40,110,111,110,101,32,48,41,41,41,41]
@[reducible] def yC:LB:=[32,40,102,110,32,109,97,105,110,32,40,41,32,40,41,32,40,41,32,105,110,116,32]
@[reducible] def gAx:LB:=List.append [40,109,101,116,104,111,100,32,115,104,111,119,32,109,32,40,110,101,119,32,99,111,110,115,32,49,32,40,110,101,119,32,99,111] [110,115,32,50,32,40,116,104,101,32,40,108,105,115,116,32,105,110,116,41,32,40,110,101,119,32,110,105,108,41,41,41,41,41]
@[reducible] def gAy:LB:=[40,99,97,108,108,32,98,111,116,104,32,40,110,101,119,32,112,97,105,114,32,51,32,116,114,117,101,41,41]
@[reducible] def gAz:LB:=[40,43,32,40,99,97,108,108,32,105,100,32,52,41,32,40,109,101,116,104,111,100,32,115,104,111,119,32,109,32,40,110,101,119,32,116,97,103,32,55,41,41,41]
@[reducible] def gA0:LB:=List.append [40,108,101,116,32,122,32,40,109,101,116,104,111,100,32,97,100,100,32,112,108,117,115,32,40,110,101,119,32,98,111,120,32,49] [41,32,40,110,101,119,32,98,111,120,32,50,41,41,32,40,99,97,115,101,32,122,32,40,98,111,120,32,110,32,110,41,41,41]
@[reducible] def gA1:LB:=[40,109,101,116,104,111,100,32,115,104,111,119,32,109,32,40,110,101,119,32,110,105,108,41,41]
@[reducible] def gA2:LB:=[40,109,101,116,104,111,100,32,115,104,111,119,32,109,32,40,112,97,99,107,32,115,104,111,119,32,51,41,41]
@[reducible] def gA3:LB:=[40,105,102,32,40,109,101,116,104,111,100,32,111,114,100,32,108,101,115,115,32,49,32,50,41,32,40,99,97,108,108,32,98,111,116,104,32,116,114,117,101,41,32,48,41]
@[reducible] def gA4:LB:=List.append [40,109,101,116,104,111,100,32,115,104,111,119,32,109,32,40,110,101,119,32,99,111,110,115,32,40,110,101,119,32,116,97] [103,32,49,41,32,40,116,104,101,32,40,108,105,115,116,32,116,97,103,41,32,40,110,101,119,32,110,105,108,41,41,41,41]
@[reducible] def gA5:LB:=[40,99,97,108,108,32,98,111,116,104,32,40,99,97,108,108,32,105,100,32,40,99,97,108,108,32,105,100,32,40,110,101,119,32,116,97,103,32,50,41,41,41,41]
@[reducible] def gHj:LB:=List.append [32,40,102,110,32,108,101,110,32,40,97,41,32,40,41,32,40,40,120,32,40,108,105,115,116,32,39,97,41,41,41,32,105,110,116,32,40,99,97,115,101] [32,120,32,40,110,105,108,32,48,41,32,40,99,111,110,115,32,104,32,116,32,40,43,32,49,32,40,99,97,108,108,32,108,101,110,32,116,41,41,41,41,41]
@[reducible] def gHk:LB:=List.append [32,40,102,110,32,115,117,109,32,40,97,41,32,40,40,97,100,100,32,39,97,41,41,32,40,40,120,32,39,97,41,32,40,121,32,39,97,41] [41,32,40,97,115,115,111,99,32,97,100,100,32,39,97,41,32,40,109,101,116,104,111,100,32,97,100,100,32,112,108,117,115,32,120,32,121,41,41]
@[reducible] def gHl:LB:=List.append [32,40,102,110,32,103,114,111,119,32,40,97,41,32,40,40,115,104,111,119,32,39,97,41,41,32,40,40,110,32,105,110,116,41,32,40,120,32,39,97,41,41,32,105,110,116,32,40,105,102,32,40,60,32,110,32] [49,41,32,40,109,101,116,104,111,100,32,115,104,111,119,32,109,32,120,41,32,40,99,97,108,108,32,103,114,111,119,32,40,45,32,110,32,49,41,32,40,110,101,119,32,112,97,105,114,32,120,32,120,41,41,41,41]
def gN8(c:jB):Option (LB × jB):=
bnd (gAg c 8) fun h=>
bnd ((cnd (h.1==0) (
gd (kU.length+gCo.length≤4294967296) (
(some (kU++gCo)))) (
(cnd (h.1==1) (
gd (kU.length+gCp.length≤4294967296) (
(some (kU++gCp)))) (
(cnd (h.1==2) (
gd (kU.length+gCq.length≤4294967296) (
(some (kU++gCq)))) (
(cnd (h.1==3) (
gd (kU.length+gCr.length≤4294967296) (
(some (kU++gCr)))) (
(cnd (h.1==4) (
gd (kU.length+gCs.length≤4294967296) (
(some (kU++gCs)))) (
(cnd (h.1==5) (
gd (kU.length+gCt.length≤4294967296) (
(some (kU++gCt)))) (
gd (kU.length+gCu.length≤4294967296) (
(some (kU++gCu)))))))))))))))) fun b2=>
gd (b2.length+yC.length≤4294967296) (
bnd (gGv h.2 [[40,99,97,108,108,32,98,111,116,104,32,53,41],gAx,gAy,gAz,gA0,gA1,gA2,gA3,gA4,gA5]) fun f=>
gd ((b2++yC).length+f.1.length≤4294967296) (
gd (((b2++yC)++f.1).length+([41]:LB).length≤4294967296) (
bnd (gEb f.2 2) fun ac=>
bnd ((cnd ac.1 (
gd ((((b2++yC)++f.1)++([41]:LB)).length+gHj.length≤4294967296) (
(some ((((b2++yC)++f.1)++([41]:LB))++gHj)))) (
(some (((b2++yC)++f.1)++([41]:LB)))))) fun y=>
bnd (gEb ac.2 3) fun ad=>
bnd ((cnd ad.1 (
gd (y.length+gHk.length≤4294967296) (
(some (y++gHk)))) (
(some y)))) fun aa=>
bnd (gEb ad.2 4) fun ae=>
bnd ((cnd ae.1 (
gd (aa.length+gHl.length≤4294967296) (
(some (aa++gHl)))) (
(some aa)))) fun ag=>
gd (ag.length+([41]:LB).length≤4294967296) (
(some ((ag++([41]:LB)),ae.2))))))
set_option maxRecDepth 100000 in
theorem hNw(c:jB){r:LB × jB}(h:gN8 c=some r):Go.Eng.Spec Tryz.prog 74 [.ptr 0 0] [bCu c.b c.i c.h] (fun sv Lo=>sv=.S r.1∧Lo=[bCu r.2.b r.2.i r.2.h]):=by
 obtain⟨a3,a4,a5⟩:=c;unfold gN8 at h;refine kF 1 Tryz.func74 rfl (by kernel_rfl) rfl rfl fun A _=>?_;refine goL ?_;obtain⟨⟨bt,⟨ae,ag,ah⟩⟩,a6,h⟩:=gM h;refine gA7 0 (gD7 (jB.mk a3 a4 a5) 8 a6) ?_;refine goL ?_;obtain⟨b2,hb2,h⟩:=gM h;refine gE4 ⟨[(0,.ptr 0 0),(3,.S b2)],[bCu ae ag ah],Tryz.f74.ntmps⟩ ?_ ?_
 ·refine jA ?_;refine goL ?_;refine kX (fun c3=>?_) (fun c3=>?_)
  ·replace hb2:=kD c3 hb2;refine goL ?_;obtain⟨g4,hb2⟩:=mY hb2;refine jI (wK g4) ?_;cases hb2;exact eJ
  ·replace hb2:=kE c3 hb2;refine goL ?_;refine kX (fun c5=>?_) (fun c5=>?_)
   ·replace hb2:=kD c5 hb2;refine goL ?_;obtain⟨g6,hb2⟩:=mY hb2;refine jI (wK g6) ?_;cases hb2;exact eJ
   ·replace hb2:=kE c5 hb2;refine goL ?_;refine kX (fun c7=>?_) (fun c7=>?_)
    ·replace hb2:=kD c7 hb2;refine goL ?_;obtain⟨g8,hb2⟩:=mY hb2;refine jI (wK g8) ?_;cases hb2;exact eJ
    ·replace hb2:=kE c7 hb2;refine goL ?_;refine kX (fun c9=>?_) (fun c9=>?_)
     ·replace hb2:=kD c9 hb2;refine goL ?_;obtain⟨bb,hb2⟩:=mY hb2;refine jI (wK bb) ?_;cases hb2;exact eJ
     ·replace hb2:=kE c9 hb2;refine goL ?_;refine kX (fun ao=>?_) (fun ao=>?_)
      ·replace hb2:=kD ao hb2;refine goL ?_;obtain⟨bc,hb2⟩:=mY hb2;refine jI (wK bc) ?_;cases hb2;exact eJ
      ·replace hb2:=kE ao hb2;refine goL ?_;refine kX (fun ap=>?_) (fun ap=>?_)
       ·replace hb2:=kD ap hb2;refine goL ?_;obtain⟨bd,hb2⟩:=mY hb2;refine jI (wK bd) ?_;cases hb2;exact eJ
       ·replace hb2:=kE ap hb2;refine goL ?_;obtain⟨be,hb2⟩:=mY hb2;refine jI (wK be) ?_;cases hb2;exact eJ
 refine goL ?_;obtain⟨bf,h⟩:=mY h;refine jI (wK bf) ?_;refine gPz (us:=jL [[40,99,97,108,108,32,98,111,116,104,32,53,41],gAx,gAy,gAz,gA0,gA1,gA2,gA3,gA4,gA5]) ?_;refine uZ 1 rfl rfl ?_;obtain⟨⟨bg,⟨ai,aj,ak⟩⟩,av,h⟩:=gM h;refine gA7 0 (gQ0 (jB.mk ae ag ah) [[40,99,97,108,108,32,98,111,116,104,32,53,41],gAx,gAy,gAz,gA0,gA1,gA2,gA3,gA4,gA5] av) ?_;obtain⟨bh,h⟩:=mY h;refine qK (wK bh) ?_;obtain⟨bi,h⟩:=mY h;refine jI (wK bi) ?_;obtain⟨⟨bj,⟨f,y,aa⟩⟩,aw,h⟩:=gM h;refine gA7 0 (gJ2 (jB.mk ai aj ak) 2 aw) ?_;refine goL ?_;obtain⟨bk,hb21,h⟩:=gM h;refine gE4 ⟨[(0,.ptr 0 0),(3,.S bk)],[bCu f y aa,.frz 9 1 0 (jL [[40,99,97,108,108,32,98,111,116,104,32,53,41],gAx,gAy,gAz,gA0,gA1,gA2,gA3,gA4,gA5])],Tryz.f74.ntmps⟩ ?_ ?_
 ·refine kX (fun aq=>?_) (fun aq=>?_)
  ·replace hb21:=kD aq hb21;refine goL ?_;obtain⟨bl,hb21⟩:=mY hb21;refine jI (wK bl) ?_;cases hb21;exact eJ
  ·replace hb21:=kE aq hb21;refine gAn ?_;cases hb21;exact eJ
 refine goL ?_;obtain⟨⟨bm,⟨ab,ac,ad⟩⟩,ax,h⟩:=gM h;refine gA7 0 (gJ2 (jB.mk f y aa) 3 ax) ?_;refine goL ?_;obtain⟨bn,hb25,h⟩:=gM h;refine gE4 ⟨[(0,.ptr 0 0),(3,.S bn)],[bCu ab ac ad,.frz 9 1 0 (jL [[40,99,97,108,108,32,98,111,116,104,32,53,41],gAx,gAy,gAz,gA0,gA1,gA2,gA3,gA4,gA5])],Tryz.f74.ntmps⟩ ?_ ?_
 ·refine kX (fun ar=>?_) (fun ar=>?_)
  ·replace hb25:=kD ar hb25;refine goL ?_;obtain⟨bo,hb25⟩:=mY hb25;refine jI (wK bo) ?_;cases hb25;exact eJ
  ·replace hb25:=kE ar hb25;refine gAn ?_;cases hb25;exact eJ
 refine goL ?_;obtain⟨⟨bp,⟨al,am,an⟩⟩,ay,h⟩:=gM h;refine gA7 0 (gJ2 (jB.mk ab ac ad) 4 ay) ?_;refine goL ?_;obtain⟨a0,hb29,h⟩:=gM h;refine gE4 ⟨[(3,.S a0)],[bCu al am an,.frz 9 1 0 (jL [[40,99,97,108,108,32,98,111,116,104,32,53,41],gAx,gAy,gAz,gA0,gA1,gA2,gA3,gA4,gA5])],Tryz.f74.ntmps⟩ ?_ ?_
 ·refine kX (fun au=>?_) (fun au=>?_)
  ·replace hb29:=kD au hb29;refine goL ?_;obtain⟨bq,hb29⟩:=mY hb29;refine jI (wK bq) ?_;cases hb29;exact eJ
  ·replace hb29:=kE au hb29;refine gAn ?_;cases hb29;exact eJ
 refine goL ?_;obtain⟨br,h⟩:=mY h;refine jI (wK br) ?_;refine jG ?_;obtain rfl:=Option.some.inj h;exact yK [.d (.s (a0++([41]:LB)))] _ ⟨rfl,rfl⟩
def gCv(x1:Int × jB):Nat→LB→Int→Int→(List gW)→Int→Option (List gW × jB)
 | 0,y2,y3,y4,y5,y7=>none
 | n8+1,y2,y3,y4,y5,y7=>(cnd (decide (y7 < x1.1)) (
bnd (gGv (jB.mk y2 y3 y4) [[115,104,111,119],[111,114,100],[97,100,100]]) fun f=>
bnd (gGv f.2 [[97],[98]]) fun c=>
lt_ (gDe c.1) fun y=>
gd (y5.length+[(gW.mk f.1 y)].length≤4294967296) (
gCv x1 n8 c.2.b c.2.i c.2.h (y5++[(gW.mk f.1 y)]) (IntKind.i64.wrap (y7+1)))) (
(some (y5,(jB.mk y2 y3 y4)))))
def gMd(c:jB)(y:Nat):Option (List gW × jB):=
bnd (gAg c 3) fun f=>
gCv f y f.2.b f.2.i f.2.h [] 0
theorem hFb(c:jB){n0:Nat}{r:List gW × jB}(h:gMd c n0=some r):Go.Eng.Spec Tryz.prog 19 [.ptr 0 0] [bCu c.b c.i c.h] (fun sv Lo=>sv=.L 4 (kY r.1)∧Lo=[bCu r.2.b r.2.i r.2.h]):=by
 obtain⟨a3,a4,a5⟩:=c;unfold gMd at h;refine kF 1 Tryz.func19 rfl (by kernel_rfl) rfl rfl fun A _=>?_;refine goL ?_;refine gAp ?_;refine goL ?_;obtain⟨⟨am,⟨f,y,aa⟩⟩,a6,h⟩:=gM h;refine gA7 0 (gD7 (jB.mk a3 a4 a5) 3 a6) ?_;refine goL ?_;refine noB ?_;refine hJ4 (fun(n8:Nat)(y2:LB)(y3:Int)(y4:Int)(y5:List gW)(y7:Int)(v6:Nat)=>⟨[(0,.ptr 0 0),(3,.sl 1 v6),(4,.I am),(5,.I y7)],[bCu y2 y3 y4,.arr 73 4 v6 (kY y5)],Tryz.f19.ntmps⟩) (fun n8 y2 y3 y4 y5 y7 v6=>gCv (am,(jB.mk f y aa)) n8 y2 y3 y4 y5 y7=some r) (fun n8 y2 y3 y4 y5 y7 v6=>n8) n0 f y aa [] 0 0 eJ h ?_;rintro n8 y2 y3 y4 y5 y7 v6 h;rcases n8 with _ | n8
 ·cases h
 rw [gCv.eq_2] at h;refine goC h ?_ ?_<;>intro c9 h
 ·refine noS ?_;refine jY (jA ?_);refine goL ?_;refine gPz (us:=jL [[115,104,111,119],[111,114,100],[97,100,100]]) ?_;refine uZ 2 rfl rfl ?_;obtain⟨⟨ab,⟨ac,ad,ae⟩⟩,ax,h⟩:=gM h;refine gA7 0 (gQ0 (jB.mk y2 y3 y4) [[115,104,111,119],[111,114,100],[97,100,100]] ax) ?_;refine goL ?_;refine gPz (us:=jL [[97],[98]]) ?_;refine uZ 3 rfl rfl ?_;obtain⟨⟨au,⟨ag,ah,ai⟩⟩,ay,h⟩:=gM h;refine gA7 0 (gQ0 (jB.mk ac ad ae) [[97],[98]] ay) ?_;obtain⟨⟨aj,ak,al⟩,a0,h⟩:=qA h;have sx12:=gPa au;rw [a0] at sx12;refine qK (gF (sx12)) ?_;refine zZ (jX TBd.h TZ.h rfl (by repeat constructor)) ?_;refine gAo (u:=(.st [.s ab,.st [.i .i64 aj,.s ak,.sl 3 (jH al)]])) ?_;obtain⟨a7,h⟩:=mY h;refine gBd a7 ?_;refine goL ?_;refine jI (pU) ?_;exact⟨n8,ag,ah,ai,(y5++[(gW.mk ab (gB.mk aj ak al))]),(IntKind.i64.wrap (y7+1)),(v6+1),h,Nat.lt_succ_self _,eJ⟩
 ·refine goX ?_;refine kP 1 rfl rfl ?_;refine jG ?_;obtain rfl:=Option.some.inj h;exact hGd [.L 4 (kY y5)] [bCu y2 y3 y4] ⟨rfl,rfl⟩
def gSa(c:jB):Option (List gW × jB):=gMd c 5000
def gCw(h:gJ)(x1:List gG)(y2:List jN):List jP→(List jP)→Option (gJ)
 | [],f=>(some (gJ.mk h.next h.count h.node x1 y2 f h.code h.at_))
 | c::xs,f=>gd (tok c.goal.type_) (lt_ (idT c.goal.type_) fun y=>
gd (f.length+[(jP.mk (gW.mk c.goal.trait y) c.node)].length≤4294967296) (
gCw h x1 y2 xs (f++[(jP.mk (gW.mk c.goal.trait y) c.node)])))
def zF(y:gJ)(x1:List gG):List jN→(List jN)→Option (gJ)
 | [],h=>gCw y x1 h y.obligations []
 | c::xs,h=>gd (tok c.a) (lt_ (idT c.a) fun x9=>
gd (tok c.b) (lt_ (idT c.b) fun f=>
gd (h.length+[(jN.mk x9 f c.node)].length≤4294967296) (
zF y x1 xs (h++[(jN.mk x9 f c.node)]))))
def gJi(c:gJ):Option (gJ):=
bnd (gQ1 c.bindings) fun f=>
zF c f c.equations []
theorem hFc(a0:gJ){r:gJ}(h:gJi a0=some r):gY Tryz.prog 25 [.d (mJ a0)] [mJ r]:=by
 obtain⟨y,aa,ab,am,ac,c,ad,ae⟩:=a0;unfold gJi at h;refine SpI Tryz.func25 fun A _=>?_;refine goL ?_;obtain⟨x1,bo,h⟩:=gM h;refine jI (gF (hNu _ bo)) ?_;refine gAp ?_;refine goL ?_;refine noB ?_;refine wJ 0 4 (fun z5=>?_);refine kS (fun(y4:Nat)(y2:List jN)(v3:Nat)=>⟨[(1,.ptr 0 0),(2,.ptr 1 0),(3,.ptr 2 0),(4,.N y4)],[bSt y aa ab am ac c ad ae,.box [.I 0,.I 0,.I 0,.nilsl,.nilsl,.nilsl,.I 0,.I 0],.box [.I y,.I aa,.I ab,.L 4 (gP x1),.sl 3 v3,.L 5 (jD c),.I ad,.I ae],.arr 79 7 v3 (jM y2)],Tryz.f25.ntmps⟩) (fun y4 y2 v3=>zF (gJ.mk y aa ab am ac c ad ae) x1 (ac.drop y4) y2=some r) (fun y4 y2 v3=>ac.length - y4) 0 [] 0 eJ h ?_;rintro y4 y2 v3 h;refine goL ?_;refine kX (fun c6=>?_) (fun c6=>?_)
 ·have ai:=uR c6;obtain⟨x7,bg,bj⟩:=drop_at ai;rw [bj,zF.eq_2] at h;obtain⟨⟨a3,a4,a5⟩,⟨a6,a7,a8⟩,bb⟩:=x7;refine noS ?_;refine jY (jA ?_);refine uM (P:=Tryz.prog) Mix.h [(0,true),(1,true),(2,true),(3,true),(4,true),(5,true),(6,true),(7,true),(8,true),(9,true),(10,true),(11,true),(12,true),(13,true),(14,true),(15,true),(16,true),(17,true),(18,true),(19,true),(20,true),(21,true),(22,true),(23,false),(24,false),(25,true),(26,false)] (by kernel_rfl) ?_;refine goY ?_;refine jF rfl (jJ y4 (gOj bg)) ?_;refine goY ?_;obtain⟨g8,h⟩:=mY h;obtain⟨⟨bc,bd,be⟩,bq,h⟩:=qA h;have sx9:=(zT (gB.mk a3 a4 a5) g8).p;rw [bq] at sx9;refine jF rfl (gF (sx9)) ?_;refine goY ?_;refine jF rfl (jJ y4 (gOj bg)) ?_;refine goY ?_;obtain⟨br,h⟩:=mY h;obtain⟨⟨aq,ar,au⟩,bk,h⟩:=qA h;have sx11:=(zT (gB.mk a6 a7 a8) br).p;rw [bk] at sx11;refine jF rfl (gF (sx11)) ?_;refine goY ?_;refine jF rfl (jJ y4 (gOj bg)) ?_;refine goY ?_;refine qE (T:=29) (us:=jM [(jN.mk (gB.mk bc bd be) (gB.mk aq ar au) bb)]) ?_;obtain⟨bt,h⟩:=mY h;refine pW (T:=29) bt ?_;refine goY ?_;refine kQ ?_;refine goL ?_;refine jI (jW y4 (by omega)) ?_;exact⟨(y4+1),(y2++[(jN.mk (gB.mk bc bd be) (gB.mk aq ar au) bb)]),(v3+1),h,by omega,eJ⟩
 ·have ai:=uS c6;rw [jC ai,zF.eq_1] at h;refine goX ?_;refine gAp ?_;refine goL ?_;refine noB ?_;refine wJ 0 5 (fun b0=>?_);refine kS (fun(f:Nat)(an:List jP)(ao:Nat)=>⟨[(1,.ptr 0 0),(2,.ptr 1 0),(3,.ptr 2 0),(5,.N f)],[bSt y aa ab am ac c ad ae,.box [.I 0,.I 0,.I 0,.nilsl,.nilsl,.nilsl,.I 0,.I 0],.box [.I y,.I aa,.I ab,.L 4 (gP x1),.sl 3 v3,.sl 4 ao,.I ad,.I ae],.arr 79 7 v3 (jM y2),.arr 81 5 ao (jD an)],Tryz.f25.ntmps⟩) (fun f an ao=>gCw (gJ.mk y aa ab am ac c ad ae) x1 y2 (c.drop f) an=some r) (fun f an ao=>c.length - f) 0 [] 0 eJ h ?_;rintro f an ao h;refine goL ?_;refine kX (fun bh=>?_) (fun bh=>?_)
  ·have ag:=uR bh;obtain⟨bu,bf,bi⟩:=drop_at ag;rw [bi,gCw.eq_2] at h;obtain⟨⟨ah,⟨aj,ak,al⟩⟩,av⟩:=bu;refine noS ?_;refine jY (jA ?_);refine goL ?_;refine qK (jJ f (gNh bf)) ?_;refine gId ?_;refine uM (P:=Tryz.prog) Mix.h [(0,true),(1,true),(2,true),(3,true),(4,true),(5,true),(6,true),(7,true),(8,true),(9,true),(10,true),(11,true),(12,true),(13,true),(14,true),(15,false),(16,false),(17,true),(18,false)] (by kernel_rfl) ?_;refine goY ?_;obtain⟨bv,h⟩:=mY h;obtain⟨⟨aw,ax,ay⟩,bl,h⟩:=qA h;have sx20:=(zT (gB.mk aj ak al) bv).p;rw [bl] at sx20;refine jF rfl (gF (sx20)) ?_;refine goY ?_;refine jF rfl (jJ f (gNh bf)) ?_;refine goY ?_;refine qE (T:=30) (us:=jD [(jP.mk (gW.mk ah (gB.mk aw ax ay)) av)]) ?_;obtain⟨bw,h⟩:=mY h;refine pW (T:=30) bw ?_;refine goY ?_;refine kQ ?_;refine goL ?_;refine jI (jW f (by omega)) ?_;exact⟨(f+1),(an++[(jP.mk (gW.mk ah (gB.mk aw ax ay)) av)]),(ao+1),h,by omega,eJ⟩
  ·have ag:=uS bh;rw [jC ag,gCw.eq_1] at h;refine goX ?_;refine kP 3 rfl rfl ?_;refine kP 4 rfl rfl ?_;refine jG ?_;cases h;exact qD
def mZ(a1:gW):List gQ→Nat→Int
 | [],c=>(-1)
 | f::xs,c=>(cnd (wU f.goal a1) (
(c:Int)) (
mZ a1 xs (c+1)))
def jZ(c:List gQ)(a1:gW):Int:=
mZ a1 c 0
theorem gPi(a0:List gQ)(a1:gW):gY Tryz.prog 190 [.L 6 (gV a0),.d (zW a1)] [.i .i64 (jZ a0 a1)]:=by
 obtain⟨r,h⟩:∃r,jZ a0 a1=r:=⟨_,rfl⟩
 rw [h];obtain⟨ae,⟨c,f,y⟩⟩:=a1;unfold jZ at h;refine SpI Tryz.func190 fun A _=>?_;refine goL ?_;refine noB ?_;refine gB0 0 (fun z2=>?_);refine mV (fun(y1:Nat)=>⟨[(0,.L 6 (gV a0)),(3,.ptr 0 0),(5,.N y1)],[bBd ae c f y],Tryz.f190.ntmps⟩) (fun y1=>mZ (gW.mk ae (gB.mk c f y)) (a0.drop y1) y1=r) (fun y1=>a0.length - y1) 0 eJ h ?_;rintro y1 h;refine goL ?_;refine kX (fun c3=>?_) (fun c3=>?_)
 ·have aa:=uR c3;obtain⟨x4,al,aj⟩:=drop_at aa;rw [aj,mZ.eq_2] at h;obtain⟨⟨ah,⟨ab,ac,ad⟩⟩,am,an⟩:=x4;refine noS ?_;refine jY (jA ?_);refine goL ?_;refine gFd (jJ y1 (gHx al)) ?_;refine goL ?_;refine gFd (gF (gXm (gW.mk ah (gB.mk ab ac ad)) (gW.mk ae (gB.mk c f y)))) ?_;refine goC h ?_ ?_<;>intro c5 h
  ·refine goL ?_;refine jG ?_;subst h;exact qD
  ·refine goS ?_;refine jI (jW y1 (by omega)) ?_;exact⟨(y1+1),h,by omega,eJ⟩
 ·have aa:=uS c3;rw [jC aa,mZ.eq_1] at h;refine goX ?_;refine jG ?_;subst h;exact qD
def uJ:List Int→Int→Int→Int→Int→(List gN)→Option (gN)
 | [],c,f,h,y,y6=>(some (gN.mk c f (gH.mk h y) y6))
 | ab::xs,c,f,h,y,y6=>uJ xs 3 ab 0 0 [(gN.mk c f (gH.mk h y) y6)]
def qP(f:gN)(a1:List Int):Option (gN):=
bnd (gJg 5000 f) fun c=>
uJ a1 c.kind c.n c.at_.package c.at_.at_ c.args
theorem gHm(a0:gN)(a1:List Int){r:gN}(h:qP a0 a1=some r):kR Tryz.prog 191 [.d (qB a0),.L 1 (gJo a1)] [147] [qB r]:=by
 obtain⟨ad,ae,⟨f,y⟩,ag⟩:=a0;unfold qP at h;refine pR Tryz.func191 rfl (by kernel_rfl) rfl (by simp) fun A _=>?_;refine goL ?_;obtain⟨⟨ao,ap,⟨aa,ab⟩,aq⟩,aw,h⟩:=gM h;refine gE3 (hHo 5000 (gN.mk ad ae (gH.mk f y) ag) aw) ?_;refine goL ?_;refine noB ?_;refine gB0 1 (fun z9=>?_);refine hDd (fun(y8:Nat)(y2:Int)(y3:Int)(y4:Int)(y5:Int)(y6:List gN)(v7:Nat)=>⟨[(1,.L 1 (gJo a1)),(4,.ptr 1 0),(5,.ptr 3 0),(6,.N y8)],[.box [.I ad,.I ae,.I f,.I y,.L 5 (kN ag)],.box [.I 0,.I 0,.I 0,.I 0,.nilsl],.own 147 5 v7 (kN y6),.box [.I y2,.I y3,.I y4,.I y5,.sl 2 v7]],Tryz.f191.ntmps⟩) (fun y8 y2 y3 y4 y5 y6 v7=>uJ (a1.drop y8) y2 y3 y4 y5 y6=some r) (fun y8 y2 y3 y4 y5 y6 v7=>a1.length - y8) 0 ao ap aa ab aq 0 eJ h ?_;rintro y8 y2 y3 y4 y5 y6 v7 h;refine goL ?_;refine kX (fun am=>?_) (fun am=>?_)
 ·have c:=uR am;obtain⟨ax,au,an⟩:=drop_at c;rw [an,uJ.eq_2] at h;refine noS ?_;refine jY (jA ?_);refine uM (P:=Tryz.prog) Mix.h [(0,true),(1,true),(2,true),(3,true),(4,true),(5,false),(6,true),(7,false)] (by kernel_rfl) ?_;refine goY ?_;refine jF rfl (jJ y8 (jEr au)) ?_;refine goY ?_;refine gYh (T:=145) (gN.mk y2 y3 (gH.mk y4 y5) y6) ?_;refine goY ?_;refine kQ ?_;refine goL ?_;refine jI (jW y8 (by omega)) ?_;exact⟨(y8+1),3,ax,0,0,[(gN.mk y2 y3 (gH.mk y4 y5) y6)],0,h,by omega,qX 0 [0,1,4,3]⟩
 ·have c:=uS am;rw [jC c,uJ.eq_1] at h;refine goX ?_;refine jG ?_;obtain rfl:=Option.some.inj h;exact gQd
def gGw(c:gK→LB→LB→Int→Option (List Int × Bool))(a0:gK)(a2:LB)(h:Int)(y:uG × Int × Bool):Nat→Int→Option (List Int × Bool)
 | 0,f=>none
 | n4+1,f=>lt_ ((cnd (decide (f < (y.1.supertraits.length:Int))) ((decide (h > 0))) (false))) fun b5=>
(cnd b5 (
bnd (at? y.1.supertraits f) fun x8=>
bnd (c a0 x8 a2 (IntKind.i64.wrap (h - 1))) fun x9=>
(cnd x9.2 (
gd ([f].length+x9.1.length≤4294967296) (
(some (([f]++x9.1),true)))) (
gGw c a0 a2 h y n4 (IntKind.i64.wrap (f+1))))) (
(some ([],false))))
def gPj(c:gK→LB→LB→Int→Option (List Int × Bool))(f:gK)(a1:LB)(a2:LB)(h:Int)(y:Nat):Option (List Int × Bool):=
(cnd (a1==a2) (
(some ([],true))) (
lt_ (wV f a1) fun x2=>
gGw c f a2 h x2 y 0))
theorem hFd{c:gK→LB→LB→Int→Option (List Int × Bool)}(f:∀(x0:gK)(x1:LB)(x2:LB)(x3:Int){r:List Int × Bool},c x0 x1 x2 x3=some r→gY Tryz.prog 223 [.d (kT x0),.S x1,.S x2,.I x3] [.sl 1 (gJo r.1),.b r.2])(a0:gK)(a1:LB)(a2:LB)(a3:Int){n0:Nat}{r:List Int × Bool}(h:gPj c a0 a1 a2 a3 n0=some r):gY Tryz.prog 223 [.d (kT a0),.S a1,.S a2,.I a3] [.sl 1 (gJo r.1),.b r.2]:=by
 obtain⟨ae⟩:=a0;unfold gPj at h;refine SpI Tryz.func223 fun A _=>?_;refine goC h ?_ ?_<;>intro c1 h
 ·refine goL ?_;refine gGk ?_;refine goL ?_;refine qU 1 rfl rfl ?_;refine jG ?_;cases h;exact qD
 ·refine goS ?_;obtain⟨⟨⟨y,aa,ab,ac,ad⟩,aj,ak⟩,an,h⟩:=qA h;have sx2:=gLh (gK.mk ae) a1;rw [an] at sx2;refine jI (gF (sx2)) ?_;refine noB ?_;refine gEe (fun(n4:Nat)(y3:Int)=>⟨[(2,.S a2),(3,.I a3),(4,.ptr 0 0),(10,.ptr 1 0),(13,.I y3)],[bPr ae,bTr y aa ab ac ad],Tryz.f223.ntmps⟩) (fun n4 y3=>gGw c (gK.mk ae) a2 a3 ((uG.mk y aa ab ac ad),aj,ak) n4 y3=some r) (fun n4 y3=>n4) n0 0 eJ h ?_;rintro n4 y3 h;rcases n4 with _ | n4
  ·cases h
  rw [gGw.eq_2] at h;refine goL ?_;obtain⟨b5,hb5,h⟩:=qA h;refine jT ⟨[(2,.S a2),(3,.I a3),(4,.ptr 0 0),(10,.ptr 1 0),(13,.I y3),(35,.B b5)],[bPr ae,bTr y aa ab ac ad],Tryz.f223.ntmps⟩ ?_ ?_
  ·exact gqZ 32 hb5
  refine goC h ?_ ?_<;>intro c7 h
  ·refine noS ?_;refine jY (jA ?_);refine goL ?_;obtain⟨x8,ah,h⟩:=gM h;obtain⟨al,ah⟩:=gDy ah;refine gFd (qW al (gQr ah)) ?_;refine goL ?_;refine gFd (pU) ?_;obtain⟨⟨ax,ay⟩,ao,h⟩:=gM h;refine gFd (gF (f _ _ _ _ ao)) ?_;refine goC h ?_ ?_<;>intro a5 h
   ·refine goL ?_;refine gBc y3 ?_;refine goL ?_;obtain⟨ap,h⟩:=mY h;refine gIe ap ?_;refine goL ?_;refine qU 2 rfl rfl ?_;refine jG ?_;cases h;exact qD
   ·refine goS ?_;refine jI (pU) ?_;exact⟨n4,(IntKind.i64.wrap (y3+1)),h,Nat.lt_succ_self _,eJ⟩
  ·refine goX ?_;refine gGk ?_;refine goL ?_;refine qU 2 rfl rfl ?_;refine jG ?_;cases h;exact qD
def gPk:Nat→gK→LB→LB→Int→Option (List Int × Bool)
 | 0,_,_,_,_=>none
 | n+1,c,f,h,y=>gPj (gPk n) c f h y n
theorem hFe:∀(n:Nat)(c:gK)(f:LB)(y:LB)(x3:Int){r:List Int × Bool},gPk n c f y x3=some r→gY Tryz.prog 223 [.d (kT c),.S f,.S y,.I x3] [.sl 1 (gJo r.1),.b r.2]:=by
 intro n
 induction n with
 | zero=>intro c f y x3 r h;cases h
 | succ n ih=>intro c f y x3 r h;exact hFd ih c f y x3 h
def kW(h:gK)(a1:gW):List gH→(List gH)→Option (List gH)
 | [],c=>(some c)
 | f::xs,c=>bnd (at? h.packages f.package) fun x8=>
bnd (at? x8.instances f.at_) fun x9=>
bnd ((cnd (x9.trait==a1.trait) (bnd (gBg x9.head a1.type_) fun y=>
(some y)) ((some false)))) fun aa=>
(cnd aa (
gd (c.length+[f].length≤4294967296) (
kW h a1 xs (c++[f]))) (
kW h a1 xs c))
def vP(c:gK)(a1:gW):Option (List gH):=
bnd (gAi c) fun f=>
kW c a1 f []
theorem gLi(a0:gK)(a1:gW){r:List gH}(h:vP a0 a1=some r):gY Tryz.prog 237 [.d (kT a0),.d (zW a1)] [.sl 2 (kK r)]:=by
 obtain⟨ac⟩:=a0;obtain⟨ad,⟨c,f,y⟩⟩:=a1;unfold vP at h;refine SpI Tryz.func237 fun A _=>?_;refine goL ?_;refine gAp ?_;refine goL ?_;obtain⟨x1,ba,h⟩:=gM h;refine jI (gF (gR9 _ ba)) ?_;refine noB ?_;refine gB0 6 (fun z5=>?_);refine kS (fun(y4:Nat)(y2:List gH)(v3:Nat)=>⟨[(2,.ptr 0 0),(3,.ptr 1 0),(5,.sl 2 v3),(6,.L 2 (kK x1)),(7,.N y4)],[bPr ac,bBd ad c f y,.arr 144 2 v3 (kK y2)],Tryz.f237.ntmps⟩) (fun y4 y2 v3=>kW (gK.mk ac) (gW.mk ad (gB.mk c f y)) (x1.drop y4) y2=some r) (fun y4 y2 v3=>x1.length - y4) 0 [] 0 eJ h ?_;rintro y4 y2 v3 h;refine goL ?_;refine kX (fun c6=>?_) (fun c6=>?_)
 ·have aa:=uR c6;obtain⟨x7,ap,au⟩:=drop_at aa;rw [au,kW.eq_2] at h;obtain⟨an,ao⟩:=x7;refine noS ?_;refine jY (jA ?_);refine jK (P:=Tryz.prog) Mix.h [(0,true),(1,true),(2,true),(3,true),(4,true),(5,true),(6,true),(7,true),(8,true),(9,true),(10,true),(11,true),(12,true),(13,true),(14,true),(15,true),(16,true),(17,false),(18,false)] (by kernel_rfl) ?_;refine goY ?_;refine jF rfl (jJ y4 (wX ap)) ?_;refine goY ?_;obtain⟨x8,aq,h⟩:=gM h;obtain⟨av,aq⟩:=gDy aq;obtain⟨be,bf,bg,bh,bi,bj⟩:=x8;refine jF rfl (qW av (gBt aq)) ?_;refine goY ?_;refine jF rfl (jJ y4 (wX ap)) ?_;refine goY ?_;obtain⟨x9,ar,h⟩:=gM h;obtain⟨aw,ar⟩:=gDy ar;obtain⟨ax,ay,⟨ag,ah,ai⟩,a3,a4,a5,⟨aj,ak,al⟩,a6⟩:=x9;refine jF rfl (qW aw (gHu ar)) ?_;refine goY ?_;refine kQ ?_;refine goL ?_;obtain⟨bc,hb10,h⟩:=gM h;refine jT ⟨[(2,.ptr 0 0),(3,.ptr 1 0),(5,.sl 2 v3),(6,.L 2 (kK x1)),(7,.N y4),(46,.B bc)],[bPr ac,bBd ad c f y,.arr 144 2 v3 (kK y2),bIn ax ay ag ah ai a3 a4 a5 aj ak al a6],Tryz.f237.ntmps⟩ ?_ ?_
  ·refine gqA 40 hb10 (fun bn hb10=>?_);obtain⟨bo,a7,hb10⟩:=gM hb10;refine jI (gF (gUb _ _ a7)) ?_;cases hb10;exact eJ
  refine goC h ?_ ?_<;>intro bp h
  ·refine goL ?_;refine jI (jJ y4 (wX ap)) ?_;refine gAo (u:=(.st [.i .i64 an,.i .i64 ao])) ?_;obtain⟨bd,h⟩:=mY h;refine gBd bd ?_;refine goL ?_;refine jI (jW y4 (by omega)) ?_;exact⟨(y4+1),(y2++[(gH.mk an ao)]),(v3+1),h,by omega,eJ⟩
  ·refine goS ?_;refine jI (jW y4 (by omega)) ?_;exact⟨(y4+1),y2,v3,h,by omega,eJ⟩
 ·have aa:=uS c6;rw [jC aa,kW.eq_1] at h;refine goX ?_;refine kP 2 rfl rfl ?_;refine jG ?_;cases h;exact qD
end Go.Proofs.YtegahmhnmjnhhaaGreat
