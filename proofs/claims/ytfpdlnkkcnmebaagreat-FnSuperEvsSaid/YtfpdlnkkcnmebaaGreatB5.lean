import Derived.Test.YtfpdlnkkcnmebaaGreatVr
set_option maxHeartbeats 4000000
set_option linter.unusedVariables false
set_option linter.unusedSimpArgs false
set_option linter.unusedSectionVars false
namespace Go.Proofs.YtfpdlnkkcnmebaaGreat
open Go Go.Eng
attribute [local irreducible] V VO VQ VY Quiet QR jF mJ Rng qI qJ qB
def gBn(c:gU→gU→Option (Bool))(a1:gU):List gH0→Nat→Option (Bool)
 | [],f=>(some true)
 | h::xs,f=>bnd (bnd (at? a1.arms (f:Int)) fun q=>
(cnd (!(h.constructor==q.constructor)) ((some true)) (bnd (gNs h.vars q.vars) fun y=>
(cnd (!y) ((some true)) (bnd (c h.body q.body) fun aa=>
(some (!aa))))))) fun ab=>
(cnd ab (
(some false)) (
gBn c a1 xs (f+1)))
def gBo(c:gU→gU→Option (Bool))(a0:gU)(a1:gU):List gU→Nat→Option (Bool)
 | [],f=>gBn c a1 a0.arms 0
 | h::xs,f=>bnd (at? a1.args (f:Int)) fun q=>
bnd (c h q) fun y=>
(cnd (!y) (
(some false)) (
gBo c a0 a1 xs (f+1)))
def gJz(c:gU→gU→Option (Bool))(f:gU)(a1:gU):Option (Bool):=
lt_ ((cnd (f.kind != a1.kind) (true) ((cnd (!(f.trait==a1.trait)) (true) ((cnd (!(f.name==a1.name)) (true) ((cnd (f.n != a1.n) (true) ((cnd (!(teq f.type_ a1.type_)) (true) ((cnd ((f.args.length:Int) !=(a1.args.length:Int)) (true) (((f.arms.length:Int) !=(a1.arms.length:Int))))))))))))))) fun h=>
(cnd h (
(some false)) (
gBo c f a1 f.args 0))
theorem gT8{c:gU→gU→Option (Bool)}(f:∀(x0:gU)(x1:gU){r:Bool},c x0 x1=some r→jF Tryz.prog 244 [.d (zJ x0),.d (zJ x1)] [.b r])(a0:gU)(a1:gU){r:Bool}(h:gJz c a0 a1=some r):jF Tryz.prog 244 [.d (zJ a0),.d (zJ a1)] [.b r]:=by
 obtain⟨ap,aq,ar,au,⟨ab,ac,ad⟩,ag,ah⟩:=a0;obtain⟨ai,aj,ak,al,⟨q,y,aa⟩,am,an⟩:=a1;unfold gJz at h;refine SpI Tryz.func244 fun A _=>?_;refine goL ?_;obtain⟨b1,hb1,h⟩:=qW h;refine kC ⟨[(2,.ptr 0 0),(3,.ptr 1 0),(58,.B b1)],[bEx ap aq ar au ab ac ad ag ah,bEx ai aj ak al q y aa am an],Tryz.f244.ntmps⟩ ?_ ?_
 ·refine gqO 12 hb1 (fun c2 hb1=>?_);refine gqO 19 hb1 (fun c3 hb1=>?_);refine gqO 26 hb1 (fun c4 hb1=>?_);refine gqO 33 hb1 (fun c5 hb1=>?_);refine jK (gG (gKv (gB.mk ab ac ad) (gB.mk q y aa))) ?_;refine gqO 41 hb1 (fun c6 hb1=>?_);exact gqZ 50 hb1
 refine goC h ?_ ?_<;>intro c8 h
 ·exact goR h
 ·refine goS ?_;refine noB ?_;refine yP 0 7 (fun cu=>?_);refine qD (fun(y9:Nat)=>⟨[(2,.ptr 0 0),(3,.ptr 1 0),(5,.N y9)],[bEx ap aq ar au ab ac ad ag ah,bEx ai aj ak al q y aa am an],Tryz.f244.ntmps⟩) (fun y9=>gBo c (gU.mk ap aq ar au (gB.mk ab ac ad) ag ah) (gU.mk ai aj ak al (gB.mk q y aa) am an) (ag.drop y9) y9=some r) (fun y9=>ag.length - y9) 0 eJ h ?_;rintro y9 h;refine goL ?_;refine mQ (fun a4=>?_) (fun a4=>?_)
  ·have av:=vF a4;obtain⟨b6,bg,a5⟩:=drop_at av;rw [a5,gBo.eq_2] at h;obtain⟨b7,b8,b9,ca,⟨bh,bi,bj⟩,cb,cc⟩:=b6;refine noS ?_;refine kH (jE ?_);refine goL ?_;refine gCy (jM y9 (gUp bg)) ?_;refine goL ?_;obtain⟨cd,a3,h⟩:=gJ h;rw [gCk] at a3;obtain⟨ce,cf,cg,ch,⟨bk,bl,bm⟩,ci,cj⟩:=cd;refine gCy (jM y9 (gUp a3)) ?_;refine goL ?_;obtain⟨cv,bn,h⟩:=gJ h;refine gCy (gG (f _ _ bn)) ?_;refine goC h ?_ ?_<;>intro cw h
   ·exact goR h
   ·refine goS ?_;refine jK (kD y9 (by omega)) ?_;exact⟨(y9+1),h,by omega,eJ⟩
  ·have av:=vG a4;rw [jH av,gBo.eq_1] at h;refine goX ?_;refine noB ?_;refine yP 0 8 (fun cx=>?_);refine qD (fun(ae:Nat)=>⟨[(2,.ptr 0 0),(3,.ptr 1 0),(6,.N ae)],[bEx ap aq ar au ab ac ad ag ah,bEx ai aj ak al q y aa am an],Tryz.f244.ntmps⟩) (fun ae=>gBn c (gU.mk ai aj ak al (gB.mk q y aa) am an) (ah.drop ae) ae=some r) (fun ae=>ah.length - ae) 0 eJ h ?_;rintro ae h;refine goL ?_;refine mQ (fun a6=>?_) (fun a6=>?_)
   ·have ao:=vF a6;obtain⟨ck,ay,a7⟩:=drop_at ao;rw [a7,gBn.eq_2] at h;obtain⟨cl,cm,⟨bo,bp,bq,br,⟨a8,a9,ba⟩,bt,bu⟩⟩:=ck;refine noS ?_;refine kH (jE ?_);obtain⟨cn,hb20,h⟩:=gJ h;refine uT (P:=Tryz.prog) Mix.h ⟨[(2,.ptr 0 0),(3,.ptr 1 0),(6,.N ae),(129,.B cn)],[bEx ap aq ar au ab ac ad ag ah,bEx ai aj ak al q y aa am an],Tryz.f244.ntmps⟩ (by kernel_rfl) ?_ ?_
    ·refine goL ?_;refine gCy (jM ae (gXo ay)) ?_;refine goL ?_;obtain⟨co,aw,hb20⟩:=gJ hb20;rw [gCk] at aw;obtain⟨cp,cq,⟨bv,bw,bx,bz,⟨bb,bc,bd⟩,b0,b2⟩⟩:=co;refine gCy (jM ae (gXo aw)) ?_;refine goL ?_;refine wN 98 (fun be=>?_) (fun be=>?_)
     ·replace hb20:=kT be hb20;refine goL ?_;cases hb20;exact eJ
     ·replace hb20:=kU be hb20;refine goL ?_;refine gEa (jM ae (gXo ay)) ?_;refine goL ?_;refine gEa (jM ae (gXo aw)) ?_;refine goL ?_;obtain⟨cy,b3,hb20⟩:=gJ hb20;refine gEa (gG (gZc _ _ b3)) ?_;refine goL ?_;refine wN 114 (fun bf=>?_) (fun bf=>?_)
      ·replace hb20:=kT bf hb20;refine goL ?_;cases hb20;exact eJ
      ·replace hb20:=kU bf hb20;refine goL ?_;refine gEa (jM ae (gXo ay)) ?_;refine goL ?_;refine gEa (jM ae (gXo aw)) ?_;refine goL ?_;obtain⟨cz,b4,hb20⟩:=gJ hb20;refine gEa (gG (f _ _ b4)) ?_;refine goL ?_;cases hb20;exact eJ
    refine goC h ?_ ?_<;>intro c0 h
    ·exact goR h
    ·refine goS ?_;refine jK (kD ae (by omega)) ?_;exact⟨(ae+1),h,by omega,eJ⟩
   ·have ao:=vG a6;rw [jH ao,gBn.eq_1] at h;refine goX ?_;refine jG ?_;cases h;exact uA
def gJ0:Nat→gU→gU→Option (Bool)
 | 0,_,_=>none
 | n+1,c,f=>gJz (gJ0 n) c f
theorem gT9:∀(n:Nat)(c:gU)(f:gU){r:Bool},gJ0 n c f=some r→jF Tryz.prog 244 [.d (zJ c),.d (zJ f)] [.b r]:=by
 intro n
 induction n with
 | zero=>intro c f r h;cases h
 | succ n ih=>intro c f r h;exact gT8 ih c f h
def gFf:LS→(List gD)→Option (List gD)
 | [],c=>(some c)
 | h::xs,c=>lt_ (mP h) fun f=>
gd (c.length+[f].length≤4294967296) (
gFf xs (c++[f]))
def gL9(c:LS):Option (List gD):=
gFf c []
theorem gUa(a0:LS){r:List gD}(h:gL9 a0=some r):jF Tryz.prog 235 [.L 1 (gP a0)] [.sl 2 (jA r)]:=by
 unfold gL9 at h;refine SpI Tryz.func235 fun A _=>?_;refine goL ?_;refine zS ?_;refine goL ?_;refine noB ?_;refine gCm 0 (fun z4=>?_);refine kV (fun(f:Nat)(y1:List gD)(v2:Nat)=>⟨[(0,.L 1 (gP a0)),(3,.sl 0 v2),(4,.N f)],[.arr 223 2 v2 (jA y1)],Tryz.f235.ntmps⟩) (fun f y1 v2=>gFf (a0.drop f) y1=some r) (fun f y1 v2=>a0.length - f) 0 [] 0 eJ h ?_;rintro f y1 v2 h;refine goL ?_;refine mQ (fun c5=>?_) (fun c5=>?_)
 ·have c:=vF c5;obtain⟨x6,ag,ad⟩:=drop_at c;rw [ad,gFf.eq_2] at h;refine noS ?_;refine kH (jE ?_);refine goL ?_;refine jK (jM f (gNp ag)) ?_;obtain⟨⟨q,y⟩,ah,h⟩:=qW h;have sx7:=pF x6;rw [ah] at sx7;refine qM (gG (sx7)) ?_;refine uQ (u:=(.st [.s q,.sl 2 (jA y)])) ?_;obtain⟨g8,h⟩:=pO h;refine gAi g8 ?_;refine goL ?_;refine jK (kD f (by omega)) ?_;exact⟨(f+1),(y1++[(gD.mk q y)]),(v2+1),h,by omega,eJ⟩
 ·have c:=vG c5;rw [jH c,gFf.eq_1] at h;refine goX ?_;refine gW 0 rfl rfl ?_;refine jG ?_;cases h;exact uA
def gJ1(c:gB→Option (gD)):List gB→(List gD)→Option (gD)
 | [],f=>(some (gD.mk [] f))
 | q::xs,f=>bnd (c q) fun h=>
gd (f.length+[h].length≤4294967296) (
gJ1 c xs (f++[h]))
def gJ2(c:gB→Option (gD)):List gB→(List gD)→Option (gD)
 | [],f=>(some (gD.mk [] f))
 | q::xs,f=>bnd (c q) fun h=>
gd (f.length+[h].length≤4294967296) (
gJ2 c xs (f++[h]))
def gZ2(c:gB→Option (gD))(f:gB):Option (gD):=
(cnd (f.kind==1) (
gd (([39]:LB).length+f.name.length≤4294967296) (
lt_ (mP (([39]:LB)++f.name)) fun x3=>
(some x3))) (
(cnd (f.kind==4) (
lt_ (mP [100,121,110]) fun x5=>
lt_ (mP f.name) fun x6=>
bnd (gHu [x5,x6]) fun x7=>
(some x7)) (
lt_ ((cnd (f.kind==2) (((f.args.length:Int)==0)) (false))) fun b8=>
(cnd b8 (
lt_ (mP f.name) fun aa=>
(some aa)) (
(cnd (f.kind==3) (
lt_ (mP [97,115,115,111,99]) fun h=>
gd (([]:List gD).length+[h].length≤4294967296) (
lt_ (mP f.name) fun q=>
gd (([]++[h]).length+[q].length≤4294967296) (
gJ1 c f.args (([]++[h])++[q])))) (
lt_ (mP f.name) fun y=>
gd (([]:List gD).length+[y].length≤4294967296) (
gJ2 c f.args ([]++[y]))))))))))
theorem hK6{c:gB→Option (gD)}(q:∀(x0:gB){r:gD},c x0=some r→jF Tryz.prog 223 [.d (kZ x0)] [qC r])(a0:gB){r:gD}(h:gZ2 c a0=some r):jF Tryz.prog 223 [.d (kZ a0)] [qC r]:=by
 obtain⟨ap,f,y⟩:=a0;unfold gZ2 at h;refine SpI Tryz.func223 fun A _=>?_;refine goL ?_;refine kH (jE ?_);refine goC h ?_ ?_<;>intro c1 h
 ·refine goL ?_;obtain⟨g2,h⟩:=pO h;refine qM (yG g2) ?_;obtain⟨⟨b5,b6⟩,bo,h⟩:=qW h;have sx3:=pF (([39]:LB)++f);rw [bo] at sx3;refine qM (gG (sx3)) ?_;exact goR h
 ·refine goC h ?_ ?_<;>intro c4 h
  ·refine jL (P:=Tryz.prog) Mix.h [(1,true),(2,true),(0,false),(3,false),(4,false),(5,false),(6,false)] (by kernel_rfl) ?_;refine goY ?_;obtain⟨⟨aw,ax⟩,bp,h⟩:=qW h;have sx5:=pF [100,121,110];rw [bp] at sx5;refine qK (sx5) ?_;obtain⟨⟨ay,a3⟩,bq,h⟩:=qW h;have sx6:=pF f;rw [bq] at sx6;refine qK (sx6) ?_;refine jT (T:=221) (us:=jA [(gD.mk aw ax),(gD.mk ay a3)]) ?_;refine mG 2 rfl rfl ?_;obtain⟨⟨b7,b9⟩,br,h⟩:=gJ h;refine qK (gLc [(gD.mk aw ax),(gD.mk ay a3)] br) ?_;refine goY ?_;refine kX ?_;exact goR h
  ·refine goL ?_;obtain⟨b8,hb8,h⟩:=qW h;refine kC ⟨[(1,.ptr 0 0),(2,.ptr 1 0),(23,.B b8)],[bTy ap f y,.box [.S [],.nilsl]],Tryz.f223.ntmps⟩ ?_ ?_
   ·refine wW 27 (fun c9=>?_) (fun c9=>?_) (by first | rfl | (simp only [kE,jN];rfl))
    ·replace hb8:=kT c9 hb8;refine goL ?_;cases hb8;exact⟨rfl,⟨⟨rfl,rfl⟩,⟨rfl,rfl⟩,⟨by first | rfl | (simp only [kE,jN];rfl),rfl⟩,trivial⟩,⟨_,rfl⟩,rfl⟩
    ·replace hb8:=kU c9 hb8;refine goL ?_;cases hb8;exact⟨rfl,⟨⟨rfl,rfl⟩,⟨rfl,rfl⟩,⟨by first | rfl | (simp only [kE,jN];rfl),rfl⟩,trivial⟩,⟨_,rfl⟩,rfl⟩
   refine goC h ?_ ?_<;>intro cc h
   ·refine goL ?_;obtain⟨⟨bu,bv⟩,bf,h⟩:=qW h;have sx11:=pF f;rw [bf] at sx11;refine qM (gG (sx11)) ?_;exact goR h
   ·refine goS ?_;refine gAc (jU TBd.h TZ.h rfl (by repeat constructor)) ?_;refine mQ (fun a4=>?_) (fun a4=>?_)
    ·replace h:=kT a4 h;refine uO 223 2 2 1 rfl rfl (by repeat constructor) (by repeat constructor) (by repeat constructor) (by repeat constructor) ?_;refine vP (P:=Tryz.prog) Mix.h [(0,true),(1,true),(2,false),(3,false),(4,false),(5,true),(6,false)] (by kernel_rfl) ?_;refine goY ?_;obtain⟨⟨ae,ag⟩,bg,h⟩:=qW h;have sx13:=pF [97,115,115,111,99];rw [bg] at sx13;refine qK (sx13) ?_;refine jT (T:=221) (us:=jA [(gD.mk ae ag)]) ?_;obtain⟨bw,h⟩:=pO h;refine jR (T:=221) bw ?_;refine goY ?_;refine kX ?_;refine gHi ?_;refine jL (P:=Tryz.prog) Mix.h [(0,true),(1,true),(2,true),(3,true),(4,false),(5,false),(6,false),(7,true),(8,false)] (by kernel_rfl) ?_;refine goY ?_;obtain⟨⟨ah,ai⟩,bh,h⟩:=qW h;have sx15:=pF f;rw [bh] at sx15;refine qK (sx15) ?_;refine jT (T:=221) (us:=jA [(gD.mk ah ai)]) ?_;obtain⟨bx,h⟩:=pO h;refine jR (T:=221) bx ?_;refine goY ?_;refine kX ?_;refine goL ?_;refine noB ?_;refine yP 0 2 (fun cd=>?_);refine kV (fun(aa:Nat)(al:List gD)(am:Nat)=>⟨[(1,.ptr 0 0),(2,.ptr 1 0),(3,.ptr 2 0),(4,.N aa)],[bTy ap f y,.box [.S [],.nilsl],.box [.S [],.sl 3 am],.arr 223 2 am (jA al),.arr 223 2 0 (jA [(gD.mk ae ag)]),.arr 223 2 0 (jA [(gD.mk ah ai)])],Tryz.f223.ntmps⟩) (fun aa al am=>gJ1 c (y.drop aa) al=some r) (fun aa al am=>y.length - aa) 0 (([]++[(gD.mk ae ag)])++[(gD.mk ah ai)]) ((0+1)+1) eJ h ?_;rintro aa al am h;refine goL ?_;refine mQ (fun a5=>?_) (fun a5=>?_)
     ·have ab:=vF a5;obtain⟨bz,bi,a6⟩:=drop_at ab;rw [a6,gJ1.eq_2] at h;obtain⟨a7,a8,a9⟩:=bz;refine noS ?_;refine kH (jE ?_);refine vP (P:=Tryz.prog) Mix.h [(0,true),(1,true),(2,true),(3,true),(4,true),(5,true),(6,true),(7,false),(8,false),(9,false),(10,true),(11,false)] (by kernel_rfl) ?_;refine goY ?_;refine jO rfl (jM aa (gEk bi)) ?_;refine goY ?_;obtain⟨⟨aq,ar⟩,bj,h⟩:=gJ h;refine qK (q (gB.mk a7 a8 a9) bj) ?_;refine jT (T:=221) (us:=jA [(gD.mk aq ar)]) ?_;obtain⟨b0,h⟩:=pO h;refine jR (T:=221) b0 ?_;refine goY ?_;refine kX ?_;refine goL ?_;refine jK (kD aa (by omega)) ?_;exact⟨(aa+1),(al++[(gD.mk aq ar)]),(am+1),h,by omega,eJ⟩
     ·have ab:=vG a5;rw [jH ab,gJ1.eq_1] at h;refine goX ?_;refine gW 3 rfl rfl ?_;refine jG ?_;cases h;exact uA
    ·replace h:=kU a4 h;refine noS ?_;refine uO 223 2 2 1 rfl rfl (by repeat constructor) (by repeat constructor) (by repeat constructor) (by repeat constructor) ?_;refine jL (P:=Tryz.prog) Mix.h [(0,true),(1,true),(2,true),(3,true),(4,false),(5,false),(6,false),(7,true),(8,false)] (by kernel_rfl) ?_;refine goY ?_;obtain⟨⟨aj,ak⟩,bk,h⟩:=qW h;have sx25:=pF f;rw [bk] at sx25;refine qK (sx25) ?_;refine jT (T:=221) (us:=jA [(gD.mk aj ak)]) ?_;obtain⟨b1,h⟩:=pO h;refine jR (T:=221) b1 ?_;refine goY ?_;refine kX ?_;refine goL ?_;refine noB ?_;refine yP 0 2 (fun ce=>?_);refine kV (fun(ac:Nat)(an:List gD)(ao:Nat)=>⟨[(1,.ptr 0 0),(2,.ptr 1 0),(3,.ptr 2 0),(4,.N ac)],[bTy ap f y,.box [.S [],.nilsl],.box [.S [],.sl 3 ao],.arr 223 2 ao (jA an),.arr 223 2 0 (jA [(gD.mk aj ak)])],Tryz.f223.ntmps⟩) (fun ac an ao=>gJ2 c (y.drop ac) an=some r) (fun ac an ao=>y.length - ac) 0 ([]++[(gD.mk aj ak)]) (0+1) eJ h ?_;rintro ac an ao h;refine goL ?_;refine mQ (fun ba=>?_) (fun ba=>?_)
     ·have ad:=vF ba;obtain⟨b2,bl,bb⟩:=drop_at ad;rw [bb,gJ2.eq_2] at h;obtain⟨bc,bd,be⟩:=b2;refine noS ?_;refine kH (jE ?_);refine vP (P:=Tryz.prog) Mix.h [(0,true),(1,true),(2,true),(3,true),(4,true),(5,true),(6,true),(7,false),(8,false),(9,false),(10,true),(11,false)] (by kernel_rfl) ?_;refine goY ?_;refine jO rfl (jM ac (gEk bl)) ?_;refine goY ?_;obtain⟨⟨au,av⟩,bm,h⟩:=gJ h;refine qK (q (gB.mk bc bd be) bm) ?_;refine jT (T:=221) (us:=jA [(gD.mk au av)]) ?_;obtain⟨b3,h⟩:=pO h;refine jR (T:=221) b3 ?_;refine goY ?_;refine kX ?_;refine goL ?_;refine jK (kD ac (by omega)) ?_;exact⟨(ac+1),(an++[(gD.mk au av)]),(ao+1),h,by omega,eJ⟩
     ·have ad:=vG ba;rw [jH ad,gJ2.eq_1] at h;refine goX ?_;refine gW 3 rfl rfl ?_;refine jG ?_;cases h;exact uA
def gLi:Nat→gB→Option (gD)
 | 0,_=>none
 | n+1,c=>gZ2 (gLi n) c
theorem gJk:∀(n:Nat)(c:gB){r:gD},gLi n c=some r→jF Tryz.prog 223 [.d (kZ c)] [qC r]:=by
 intro n
 induction n with
 | zero=>intro c r h;cases h
 | succ n ih=>intro c r h;exact hK6 ih c h
def gLo(c:LB)(a1:gB):Option (Bool):=
bnd (gCu 5000 a1 c) fun f=>
(some (decide (f > 0)))
theorem gV1(f:LB)(a1:gB){r:Bool}(h:gLo f a1=some r):jF Tryz.prog 231 [.S f,.d (kZ a1)] [.b r]:=by
 obtain⟨q,y,aa⟩:=a1;unfold gLo at h;refine SpI Tryz.func231 fun A _=>?_;refine goL ?_;obtain⟨x1,c,h⟩:=gJ h;refine qM (gG (gLg _ _ _ c)) ?_;exact goR h
@[reducible] def wK:LB:=List.append [40,112,97,99,107,97,103,101,32,99,111,114,101,32,40,41,32,40,116,114,97,105,116,32,115,104,111,119,32,40,41,32,40,41,32,40,109,32,40,41,32,105,110,116,41,32,40,116,119,111,32,40,39,115,101] [108,102,41,32,105,110,116,32,40,120,32,121,41,32,40,43,32,40,109,101,116,104,111,100,32,115,104,111,119,32,109,32,120,41,32,40,109,101,116,104,111,100,32,115,104,111,119,32,109,32,121,41,41,41,41]
@[reducible] def wL:LB:=List.append (List.append [32,40,116,114,97,105,116,32,101,113,32,40,41,32,40,41,32,40,115,97,109,101,32,40,39,115,101,108,102,41,32,98,111,111,108,41,41,32,40] [116,114,97,105,116,32,111,114,100,32,40,101,113,41,32,40,41,32,40,108,101,115,115,32,40,39,115,101,108,102,41,32,98,111,111,108,41,41,32]) (List.append [40,116,114,97,105,116,32,97,100,100,32,40,41,32,40,97,115,115,111,99,41,32,40,112,108,117,115,32,40,39,115,101,108,102,41,32,40,97,115] [115,111,99,32,97,100,100,32,39,115,101,108,102,41,41,41,32,40,116,114,97,105,116,32,115,101,110,100,32,40,41,32,40,97,117,116,111,41,41])
@[reducible] def yV:LB:=List.append [32,40,100,97,116,97,32,108,105,115,116,32,40,97,41,32,40,110,105,108,41,32,40,99,111,110,115,32,39,97,32,40,108,105,115,116,32,39,97,41,41,41,32,40,100,97,116,97,32,112,97,105,114,32,40,97,32,98,41] [32,40,112,97,105,114,32,39,97,32,39,98,41,41,32,40,100,97,116,97,32,98,111,120,32,40,97,41,32,40,98,111,120,32,39,97,41,41,32,40,100,97,116,97,32,117,110,105,116,32,40,41,32,40,117,110,105,116,41,41]
@[reducible] def zQ:LB:=List.append [32,40,105,110,115,116,32,115,104,111,119,32,40,41,32,105,110,116,32,40,41,32,40,41,32,40,41,32,40,109,32,40,120,41,32,120,41,41,32,40,105,110,115] [116,32,115,104,111,119,32,40,41,32,98,111,111,108,32,40,41,32,40,41,32,40,41,32,40,109,32,40,120,41,32,40,105,102,32,120,32,49,32,48,41,41,41]
@[reducible] def gC5:LB:=List.append [32,40,105,110,115,116,32,115,104,111,119,32,40,97,41,32,40,108,105,115,116,32,39,97,41,32,40,40,115,104,111,119,32,39,97,41,41,32,40,41,32,40,41,32,40,109,32,40,120,41,32,40,99,97,115,101,32,120,32,40] [110,105,108,32,48,41,32,40,99,111,110,115,32,104,32,116,32,40,43,32,40,109,101,116,104,111,100,32,115,104,111,119,32,109,32,104,41,32,40,109,101,116,104,111,100,32,115,104,111,119,32,109,32,116,41,41,41,41,41,41]
@[reducible] def gC6:LB:=List.append (List.append [32,40,105,110,115,116,32,115,104,111,119,32,40,97,41,32,40,108,105,115,116,32,39,97,41,32,40,41,32,40,100,101,102,97,117,108] [116,41,32,40,41,32,40,109,32,40,120,41,32,55,41,41,32,40,105,110,115,116,32,115,104,111,119,32,40,41,32,40,108,105,115,116,32]) (List.append [105,110,116,41,32,40,41,32,40,41,32,40,41,32,40,109,32,40,120,41,32,40,99,97,115,101,32,120,32,40,110,105,108,32,48,41,32] [40,99,111,110,115,32,104,32,116,32,40,43,32,104,32,40,109,101,116,104,111,100,32,115,104,111,119,32,109,32,116,41,41,41,41,41,41])
@[reducible] def uW:LB:=List.append [32,40,105,110,115,116,32,115,104,111,119,32,40,97,32,98,41,32,40,112,97,105,114,32,39,97,32,39,98,41,32,40,40,115,104,111,119,32,39,97,41,32,40,115,104,111,119,32,39,98,41,41,32,40,41,32,40,41,32,40,109,32,40] [120,41,32,40,99,97,115,101,32,120,32,40,112,97,105,114,32,121,32,122,32,40,45,32,40,109,101,116,104,111,100,32,115,104,111,119,32,109,32,121,41,32,40,109,101,116,104,111,100,32,115,104,111,119,32,109,32,122,41,41,41,41,41,41]
@[reducible] def vM:LB:=List.append [32,40,105,110,115,116,32,101,113,32,40,41,32,105,110,116,32,40,41,32,40,41,32,40,41,32,40,115,97,109,101,32,40,120,32,121,41,32,40,61,32,120,32,121,41,41,41] [32,40,105,110,115,116,32,111,114,100,32,40,41,32,105,110,116,32,40,41,32,40,41,32,40,41,32,40,108,101,115,115,32,40,120,32,121,41,32,40,60,32,120,32,121,41,41,41]
@[reducible] def wM:LB:=List.append [32,40,105,110,115,116,32,101,113,32,40,97,41,32,40,98,111,120,32,39,97,41,32,40,40,101,113,32,39,97,41,41,32,40,41,32,40,41,32,40,115,97,109,101,32,40,120,32,121,41,32,40,99] [97,115,101,32,120,32,40,98,111,120,32,112,32,40,99,97,115,101,32,121,32,40,98,111,120,32,113,32,40,109,101,116,104,111,100,32,101,113,32,115,97,109,101,32,112,32,113,41,41,41,41,41,41,41]
@[reducible] def wE:LB:=[32,40,105,110,115,116,32,97,100,100,32,40,41,32,105,110,116,32,40,41,32,40,41,32,40,105,110,116,41,32,40,112,108,117,115,32,40,120,32,121,41,32,40,43,32,120,32,121,41,41,41]
@[reducible] def yA:LB:=List.append (List.append [32,40,105,110,115,116,32,97,100,100,32,40,97,41,32,40,98,111,120,32,39,97,41,32,40,40,97,100,100,32,39,97,41,41,32] [40,41,32,40,40,98,111,120,32,40,97,115,115,111,99,32,97,100,100,32,39,97,41,41,41,32,40,112,108,117,115,32,40,120,32]) (List.append [121,41,32,40,99,97,115,101,32,120,32,40,98,111,120,32,112,32,40,99,97,115,101,32,121,32,40,98,111,120,32,113,32,40,110] [101,119,32,98,111,120,32,40,109,101,116,104,111,100,32,97,100,100,32,112,108,117,115,32,112,32,113,41,41,41,41,41,41,41,41])
@[reducible] def zH:LB:=List.append [32,40,102,110,32,105,100,32,40,97,41,32,40,41,32,40,40,120,32,39,97,41,41,32,39,97,32,120,41,32,40,102,110,32,98,111,116,104,32,40,97,41,32,40,40] [115,104,111,119,32,39,97,41,41,32,40,40,120,32,39,97,41,41,32,105,110,116,32,40,109,101,116,104,111,100,32,115,104,111,119,32,116,119,111,32,120,32,120,41,41]
def gJ3(c:gN):Option (LB × gN):=
gd (wK.length+wL.length≤4294967296) (
gd ((wK++wL).length+yV.length≤4294967296) (
gd (((wK++wL)++yV).length+zQ.length≤4294967296) (
bnd (vH c 2) fun h=>
bnd ((cnd h.1 (
gd ((((wK++wL)++yV)++zQ).length+gC5.length≤4294967296) (
(some ((((wK++wL)++yV)++zQ)++gC5)))) (
gd ((((wK++wL)++yV)++zQ).length+gC6.length≤4294967296) (
(some ((((wK++wL)++yV)++zQ)++gC6)))))) fun f=>
gd (f.length+uW.length≤4294967296) (
gd ((f++uW).length+vM.length≤4294967296) (
gd (((f++uW)++vM).length+wM.length≤4294967296) (
gd ((((f++uW)++vM)++wM).length+wE.length≤4294967296) (
gd (((((f++uW)++vM)++wM)++wE).length+yA.length≤4294967296) (
gd ((((((f++uW)++vM)++wM)++wE)++yA).length+zH.length≤4294967296) (
gd (((((((f++uW)++vM)++wM)++wE)++yA)++zH).length+([41]:LB).length≤4294967296) (
(some ((((((((f++uW)++vM)++wM)++wE)++yA)++zH)++([41]:LB)),h.2))))))))))))
set_option maxRecDepth 100000 in
theorem gZ3(c:gN){r:LB × gN}(h:gJ3 c=some r):Go.Eng.Spec Tryz.prog 141 [.ptr 0 0] [bCu c.b c.i c.h] (fun sv Lo=>sv=.S r.1∧Lo=[bCu r.2.b r.2.i r.2.h]):=by
 obtain⟨aa,ab,ac⟩:=c;unfold gJ3 at h;refine kS 1 Tryz.func141 rfl (by kernel_rfl) rfl rfl fun A _=>?_;refine goL ?_;obtain⟨g1,h⟩:=pO h;refine jK (yG g1) ?_;obtain⟨g2,h⟩:=pO h;refine jK (yG g2) ?_;obtain⟨g3,h⟩:=pO h;refine jK (yG g3) ?_;obtain⟨⟨am,⟨f,q,y⟩⟩,ad,h⟩:=gJ h;refine mZ 0 (zD (gN.mk aa ab ac) 2 ad) ?_;refine goL ?_;obtain⟨b5,hb5,h⟩:=gJ h;refine gAn ⟨[(3,.S b5)],[bCu f q y],Tryz.f141.ntmps⟩ ?_ ?_
 ·refine mQ (fun c6=>?_) (fun c6=>?_)
  ·replace hb5:=kT c6 hb5;refine goL ?_;obtain⟨g7,hb5⟩:=pO hb5;refine jK (yG g7) ?_;cases hb5;exact eJ
  ·replace hb5:=kU c6 hb5;refine goL ?_;obtain⟨g8,hb5⟩:=pO hb5;refine jK (yG g8) ?_;cases hb5;exact eJ
 refine goL ?_;obtain⟨g9,h⟩:=pO h;refine jK (yG g9) ?_;obtain⟨ag,h⟩:=pO h;refine jK (yG ag) ?_;obtain⟨ah,h⟩:=pO h;refine jK (yG ah) ?_;obtain⟨ai,h⟩:=pO h;refine jK (yG ai) ?_;obtain⟨aj,h⟩:=pO h;refine jK (yG aj) ?_;obtain⟨ak,h⟩:=pO h;refine jK (yG ak) ?_;obtain⟨al,h⟩:=pO h;refine jK (yG al) ?_;refine jG ?_;obtain rfl:=Option.some.inj h;exact gBa [.d (.s (((((((b5++uW)++vM)++wM)++wE)++yA)++zH)++([41]:LB)))] _ ⟨rfl,rfl⟩
end Go.Proofs.YtfpdlnkkcnmebaaGreat
