import Derived.Test.YtegahmhnmjnhhaaGreatD3
set_option maxHeartbeats 4000000
set_option linter.unusedVariables false
set_option linter.unusedSimpArgs false
set_option linter.unusedSectionVars false
namespace Go.Proofs.YtegahmhnmjnhhaaGreat
open Go Go.Eng
attribute [local irreducible] V VO VQ VY Quiet QR jC kT Rng mU mV mI
def pI(c:kP→gB→Int→Option (gB × Int))(q:kP)(a2:Int):List gB→(List gB)→Option (List gB × Int)
 | [],f=>(some (f,0))
 | y::xs,f=>bnd (c q y a2) fun h=>
(cnd (h.2 != 0) (
(some ([],h.2))) (
gd (f.length+[h.1].length≤4294967296) (
pI c q a2 xs (f++[h.1]))))
def gBo(f:kP→(List gB)→Int→Option (List gB × Int))(c:kP→gB→Int→Option (gB × Int))(q:kP)(a1:List gB)(a2:Int):Option (List gB × Int):=
pI c q a2 a1 []
def gBp(c:kP→(List gB)→Int→Option (List gB × Int)):Prop:=∀(f:kP) (h:List gB) (y:Int) {r:List gB × Int},c f h y=some r→Go.Eng.Spec Tryz.prog 97 [.ptr 0 0,.L 3 (jJ h),.I y] [.box [.L 6 (gX f.w.packages),.L 6 (gM f.assumed)]] (fun sv Lo=>sv=.tup [.L 3 (jJ r.1),.I r.2]∧Lo=[.box [.L 6 (gX f.w.packages),.L 6 (gM f.assumed)]])
def gA4(c:kP→gB→Int→Option (gB × Int)):Prop:=∀(f:kP) (h:gB) (y:Int) {r:gB × Int},c f h y=some r→Go.Eng.Spec Tryz.prog 80 [.ptr 0 0,.d (jS h),.I y] [.box [.L 6 (gX f.w.packages),.L 6 (gM f.assumed)]] (fun sv Lo=>sv=.tup [.d (jS r.1),.I r.2]∧Lo=[.box [.L 6 (gX f.w.packages),.L 6 (gM f.assumed)]])
theorem gKx{f}{c}(ab:gBp f)(y:gA4 c)(q:kP)(a1:List gB)(a2:Int){r:List gB × Int}(h:gBo f c q a1 a2=some r):Go.Eng.Spec Tryz.prog 97 [.ptr 0 0,.L 3 (jJ a1),.I a2] [.box [.L 6 (gX q.w.packages),.L 6 (gM q.assumed)]] (fun sv Lo=>sv=.tup [.L 3 (jJ r.1),.I r.2]∧Lo=[.box [.L 6 (gX q.w.packages),.L 6 (gM q.assumed)]]):=by
 obtain⟨⟨aa⟩,ah⟩:=q;unfold gBo at h;refine kM 1 Tryz.func97 rfl (by kernel_rfl) rfl rfl fun A _=>?_;refine goL ?_;refine gAl ?_;refine goL ?_;refine noB ?_;refine gBx 14 (fun z4=>?_);refine kS (fun(y3:Nat) (y1:List gB) (v2:Nat)=>⟨[(0,.ptr 0 0),(2,.I a2),(8,.sl 1 v2),(14,.L 3 (jJ a1)),(15,.I (a1.length:Int)),(16,.N y3)],[.box [.L 6 (gX aa),.L 6 (gM ah)],.arr 35 3 v2 (jJ y1)],Tryz.f97.ntmps⟩) (fun y3 y1 v2=>pI c (kP.mk (gI.mk aa) ah) a2 (a1.drop y3) y1=some r) (fun y3 y1 v2=>a1.length - y3) 0 [] 0 eJ h ?_;rintro y3 y1 v2 h;refine goL ?_;refine jW (kX (fun c5=>?_) (fun c5=>?_))
 ·have ag:=uR c5;obtain⟨x6,ar,ap⟩:=drop_at ag;rw [ap,pI.eq_2] at h;obtain⟨ak,al,am⟩:=x6;refine noS ?_;refine jW (jE ?_);refine goL ?_;refine jL (jM y3 (zL ar)) ?_;obtain⟨⟨⟨ac,ad,ae⟩,an⟩,au,h⟩:=gP h;refine yY [0] (y (kP.mk (gI.mk aa) ah) (gB.mk ak al am) a2 au) ?_;rintro _ _ ⟨rfl,rfl⟩;show VO _ _ _ _ ⟨(_,.tup [.d (.st [.i .i64 ac,.s ad,.sl 3 (jJ ae)]),.I an])::_,[.box [.L 6 (gX aa),.L 6 (gM ah)],.arr 35 3 v2 (jJ y1),bTy ak al am],_⟩ _;refine goC h ?_ ?_<;>intro c8 h
  ·refine goL ?_;refine jK ?_;obtain rfl:=Option.some.inj h;exact zB [.L 3 [],.I an] [.box [.L 6 (gX aa),.L 6 (gM ah)]] ⟨rfl,rfl⟩
  ·refine goS ?_;refine gAk (u:=(.st [.i .i64 ac,.s ad,.sl 3 (jJ ae)])) ?_;obtain⟨g9,h⟩:=mW h;refine gBd g9 ?_;refine goL ?_;refine jL (jR y3 (by omega)) ?_;exact⟨(y3+1),(y1++[(gB.mk ac ad ae)]),(v2+1),h,by omega,eJ⟩
 ·have ag:=uS c5;rw [jF ag,pI.eq_1] at h;refine goX ?_;refine kN 1 rfl rfl ?_;refine jK ?_;obtain rfl:=Option.some.inj h;exact hLc [.L 3 (jJ y1),.I 0] [.box [.L 6 (gX aa),.L 6 (gM ah)]] ⟨rfl,rfl⟩
def gA5(c:kP→(List gB)→Int→Option (List gB × Int))(f:kP→gB→Int→Option (gB × Int))(q:kP)(a1:gB)(a2:Int):Option (gB × Int):=
bnd (c q a1.args a2) fun h=>
(cnd (h.2 != 0) (
(some ((gB.mk 0 [] []),h.2))) (
(cnd (decide ((tsz (gB.mk a1.kind a1.name h.1)) > 400)) (
(some ((gB.mk 0 [] []),2))) (
lt_ ((cnd (a1.kind != 3) (true) (((h.1.length:Int) != 1)))) fun b4=>
(cnd b4 (
(some ((gB.mk a1.kind a1.name h.1),0))) (
(cnd (decide (a2≥12)) (
(some ((gB.mk 0 [] []),2))) (
bnd (at? h.1 0) fun x8=>
bnd (qN 5000 q (gY.mk a1.name x8) 0) fun x9=>
(cnd (x9.2 != 0) (
(some ((gB.mk 0 [] []),1))) (
(cnd (x9.1.kind != 1) (
(some ((gB.mk a1.kind a1.name h.1),0))) (
bnd (yA q.w x9.1.at_ x8) fun y=>
(cnd (!y.2) (
(some ((gB.mk 0 [] []),1))) (
bnd (f q y.1 (IntKind.i64.wrap (a2+1))) fun aa=>
(some (aa.1,aa.2))))))))))))))))
theorem gNf{f}{y}(ab:gBp f)(ad:gA4 y)(q:kP)(a1:gB)(a2:Int){r:gB × Int}(h:gA5 f y q a1 a2=some r):Go.Eng.Spec Tryz.prog 80 [.ptr 0 0,.d (jS a1),.I a2] [.box [.L 6 (gX q.w.packages),.L 6 (gM q.assumed)]] (fun sv Lo=>sv=.tup [.d (jS r.1),.I r.2]∧Lo=[.box [.L 6 (gX q.w.packages),.L 6 (gM q.assumed)]]):=by
 obtain⟨⟨c⟩,ae⟩:=q;obtain⟨ac,aa,am⟩:=a1;unfold gA5 at h;refine kM 1 Tryz.func80 rfl (by kernel_rfl) rfl rfl fun A _=>?_;refine goL ?_;obtain⟨⟨ag,ay⟩,ba,h⟩:=gP h;refine yY [0] (ab (kP.mk (gI.mk c) ae) am a2 ba) ?_;rintro _ _ ⟨rfl,rfl⟩;show VO _ _ _ _ ⟨(_,.tup [.L 3 (jJ ag),.I ay])::_,[.box [.L 6 (gX c),.L 6 (gM ae)],bTy ac aa am,.box [.I 0,.S [],.nilsl]],_⟩ _;refine goC h ?_ ?_<;>intro c2 h
 ·refine goL ?_;refine gBn (jU TBd.h TZ.h rfl (by repeat constructor)) ?_;refine jK ?_;obtain rfl:=Option.some.inj h;exact zB [.d (.st [.i .i64 0,.s [],.sl 3 []]),.I ay] [.box [.L 6 (gX c),.L 6 (gM ae)]] ⟨rfl,rfl⟩
 ·refine goS ?_;refine gBn (jU TBd.h TZ.h rfl (by repeat constructor)) ?_;refine jL (gF (gKe (gB.mk ac aa ag))) ?_;refine kX (fun c3=>?_) (fun c3=>?_)
  ·replace h:=kD c3 h;refine goL ?_;refine gBn (jU TBd.h TZ.h rfl (by repeat constructor)) ?_;refine jK ?_;obtain rfl:=Option.some.inj h;exact zB [.d (.st [.i .i64 0,.s [],.sl 3 []]),.I 2] [.box [.L 6 (gX c),.L 6 (gM ae)]] ⟨rfl,rfl⟩
  ·replace h:=kE c3 h;refine goS ?_;obtain⟨b4,hb4,h⟩:=qB h;refine jT ⟨[(0,.ptr 0 0),(2,.I a2),(4,.ptr 1 0),(6,.ptr 2 0),(8,.L 3 (jJ ag)),(10,.ptr 3 0),(44,.B b4)],[.box [.L 6 (gX c),.L 6 (gM ae)],bTy ac aa am,.box [.I 0,.S [],.nilsl],bTy ac aa ag],Tryz.f80.ntmps⟩ ?_ ?_
   ·refine pX 40 (fun c5=>?_) (fun c5=>?_) (by first | rfl | (simp only [jG,gV];rfl))
    ·replace hb4:=kD c5 hb4;refine goL ?_;cases hb4;exact⟨rfl,⟨⟨rfl,rfl⟩,⟨rfl,rfl⟩,⟨rfl,rfl⟩,⟨rfl,rfl⟩,⟨rfl,rfl⟩,⟨rfl,rfl⟩,⟨by first | rfl | (simp only [jG,gV];rfl),rfl⟩,trivial⟩,⟨_,rfl⟩,rfl⟩
    ·replace hb4:=kE c5 hb4;refine goL ?_;cases hb4;exact⟨rfl,⟨⟨rfl,rfl⟩,⟨rfl,rfl⟩,⟨rfl,rfl⟩,⟨rfl,rfl⟩,⟨rfl,rfl⟩,⟨rfl,rfl⟩,⟨by first | rfl | (simp only [jG,gV];rfl),rfl⟩,trivial⟩,⟨_,rfl⟩,rfl⟩
   refine goC h ?_ ?_<;>intro c6 h
   ·refine goL ?_;refine jK ?_;obtain rfl:=Option.some.inj h;exact zB [.d (.st [.i .i64 ac,.s aa,.sl 3 (jJ ag)]),.I 0] [.box [.L 6 (gX c),.L 6 (gM ae)]] ⟨rfl,rfl⟩
   ·refine goS ?_;refine kX (fun c7=>?_) (fun c7=>?_)
    ·replace h:=kD c7 h;refine goL ?_;refine gBn (jU TBd.h TZ.h rfl (by repeat constructor)) ?_;refine jK ?_;obtain rfl:=Option.some.inj h;exact zB [.d (.st [.i .i64 0,.s [],.sl 3 []]),.I 2] [.box [.L 6 (gX c),.L 6 (gM ae)]] ⟨rfl,rfl⟩
    ·replace h:=kE c7 h;refine noS ?_;obtain⟨x8,ax,h⟩:=gP h;obtain⟨a0,ax⟩:=gEd ax;obtain⟨a3,a4,a5⟩:=x8;obtain⟨⟨⟨aj,ak,⟨ah,ai⟩,al⟩,av⟩,a7,h⟩:=gP h;refine qH (P:=Tryz.prog) Mix.h (.q 0 (.q 1 (.q 2 (.q 3 (.q 4 (.q 5 (.q 6 (.h 7 (.q 8 (.q 9 (.q 10 (.h 11 (.h 12 (.q 13 .nil) .nil) .nil)))) (.h 11 (.h 7 (.q 8 (.q 9 (.q 10 (.h 12 (.q 13 .nil) .nil)))) .nil) .nil))))))))) ⟨[(0,.ptr 0 0),(2,.I a2),(6,.ptr 2 0),(8,.L 3 (jJ ag)),(10,.ptr 3 0),(11,.ptr 4 0),(12,.I av)],[.box [.L 6 (gX c),.L 6 (gM ae)],bTy ac aa am,.box [.I 0,.S [],.nilsl],bTy ac aa ag,.box [.I aj,.I ak,.I ah,.I ai,.L 5 (jZ al)]],Tryz.f80.ntmps⟩ (by kernel_rfl) ?_ ?_
     ·refine gSu ?_;refine gAt (jI rfl (qP a0 (zL ax)) jX) ?_;refine gSu ?_;refine vW (vH (sv:=.tup [.d (.st [.i .i64 aj,.i .i64 ak,.st [.i .i64 ah,.i .i64 ai],.sl 5 (jZ al)]),.I av]) (L':=[.box [.L 6 (gX c),.L 6 (gM ae)],bTy ac aa am,.box [.I 0,.S [],.nilsl],bTy ac aa ag]) [0] (gLj 5000 (kP.mk (gI.mk c) ae) (gY.mk aa (gB.mk a3 a4 a5)) 0 a7) jX) ?_ ?_
      ·refine gSu ?_;refine jY ?_;exact uK 1 [0,1,2,3,4]
      refine gSu ?_;refine jV (vH (sv:=.tup [.d (.st [.i .i64 aj,.i .i64 ak,.st [.i .i64 ah,.i .i64 ai],.sl 5 (jZ al)]),.I av]) (L':=[.box [.L 6 (gX c),.L 6 (gM ae)],bTy ac aa am,.box [.I 0,.S [],.nilsl],bTy ac aa ag,.box [.I 0,.I 0,.I 0,.I 0,.nilsl]]) [0] (gLj 5000 (kP.mk (gI.mk c) ae) (gY.mk aa (gB.mk a3 a4 a5)) 0 a7) jX) ?_;refine gSu ?_;refine jY ?_;exact uK 1 [0,1,2,3,4]
     refine goC h ?_ ?_<;>intro bh h
     ·refine goL ?_;refine gBn (jU TBd.h TZ.h rfl (by repeat constructor)) ?_;refine jK ?_;obtain rfl:=Option.some.inj h;exact zB [.d (.st [.i .i64 0,.s [],.sl 3 []]),.I 1] [.box [.L 6 (gX c),.L 6 (gM ae)]] ⟨rfl,rfl⟩
     ·refine goS ?_;refine kX (fun a6=>?_) (fun a6=>?_)
      ·replace h:=kD a6 h;refine goL ?_;refine jK ?_;obtain rfl:=Option.some.inj h;exact zB [.d (.st [.i .i64 ac,.s aa,.sl 3 (jJ ag)]),.I 0] [.box [.L 6 (gX c),.L 6 (gM ae)]] ⟨rfl,rfl⟩
      ·replace h:=kE a6 h;refine noS ?_;refine jO (P:=Tryz.prog) Mix.h [(0,true),(1,true),(2,true),(3,true),(4,true),(5,true),(6,true),(7,true),(8,true),(9,true),(10,true),(11,true),(12,true),(13,false),(14,false),(15,true)] (by kernel_rfl) ?_;refine goY ?_;refine jI rfl (qP a0 (zL ax)) ?_;refine goY ?_;obtain⟨⟨⟨an,ao,ap⟩,be⟩,a8,h⟩:=gP h;refine jI rfl (gF (gTy _ _ _ a8)) ?_;refine goY ?_;refine kQ ?_;refine goC h ?_ ?_<;>intro bi h
       ·refine goL ?_;refine gBn (jU TBd.h TZ.h rfl (by repeat constructor)) ?_;refine jK ?_;obtain rfl:=Option.some.inj h;exact zB [.d (.st [.i .i64 0,.s [],.sl 3 []]),.I 1] [.box [.L 6 (gX c),.L 6 (gM ae)]] ⟨rfl,rfl⟩
       ·refine goS ?_;refine qI (pR) ?_;obtain⟨⟨⟨aq,ar,au⟩,aw⟩,a9,h⟩:=gP h;refine yY [0] (ad (kP.mk (gI.mk c) ae) (gB.mk an ao ap) (IntKind.i64.wrap (a2+1)) a9) ?_;rintro _ _ ⟨rfl,rfl⟩;show VO _ _ _ _ ⟨(_,.tup [.d (.st [.i .i64 aq,.s ar,.sl 3 (jJ au)]),.I aw])::_,[.box [.L 6 (gX c),.L 6 (gM ae)],bTy ac aa am,.box [.I 0,.S [],.nilsl],bTy ac aa ag,.box [.I aj,.I ak,.I ah,.I ai,.L 5 (jZ al)],bTy an ao ap],_⟩ _;refine goL ?_;refine jK ?_;obtain rfl:=Option.some.inj h;exact zB [.d (.st [.i .i64 aq,.s ar,.sl 3 (jJ au)]),.I aw] [.box [.L 6 (gX c),.L 6 (gM ae)]] ⟨rfl,rfl⟩
mutual
def vC:Nat→kP→(List gB)→Int→Option (List gB × Int)
 | 0,_,_,_=>none
 | n+1,c,f,h=>gBo (vC n) (qO n) c f h
def qO:Nat→kP→gB→Int→Option (gB × Int)
 | 0,_,_,_=>none
 | n+1,c,f,h=>gA5 (vC n) (qO n) c f h
end
theorem gJ4:∀(n:Nat),gBp (vC n)∧gA4 (qO n):=by
 intro n
 induction n with
 | zero=>exact⟨(by intro c f y r h;cases h),(by intro c f y r h;cases h)⟩
 | succ n ih=>
   obtain⟨ih0,ih1⟩:=ih;refine⟨(fun c f y r h=>gKx ih0 ih1 c f y h),(fun c f y r h=>gNf ih0 ih1 c f y h)⟩
theorem gNg:∀(n:Nat),gA4 (qO n):=fun n=>(gJ4 n).2
def EvR(x y:gQ × Int):Prop:=x.2=y.2∧(y.2=0→(x.1.kind=1↔y.1.kind=1)∧(y.1.kind=1→x.1.at_=y.1.at_))
theorem EvR.same{x:gQ × Int}:EvR x x:=⟨rfl,fun _=>⟨Iff.rfl,fun _=>rfl⟩⟩
section
variable {w:gI} {fs:List gU}
theorem gPz{t:gB}{j:Nat}(h:kH fs ⟨addN,t⟩=(j:Int))(hj:j < fs.length)(m n:Nat)(d e:Int):∃x y,qN (m+1) ⟨w,fs⟩ ⟨addN,t⟩ d=some x∧uD (n+1) w fs ⟨addN,t⟩ e=some y∧EvR x y:=by
 obtain⟨a,a1,a2⟩:=hRo 2 fs[j].from_ fs[j].steps;obtain⟨b,f,c⟩:=gOm fs[j].steps 2 fs[j].from_ 0 0 [];refine⟨(a,0),(b,0),?_,?_,rfl,fun _=>⟨⟨fun h=>?_,fun h=>?_⟩,fun h=>?_⟩⟩
 ·rw [qN];unfold gAj;rw [jQ (gWd fs _),h,show decide ((j:Int)≥0)=true from decide_eq_true (by omega),gZ,yZ,List.getElem?_eq_getElem hj];simp only [bnd,a1]
 ·rw [uD];unfold gCk;rw [h,show decide ((j:Int)≥0)=true from decide_eq_true (by omega),gZ,yZ,List.getElem?_eq_getElem hj];simp only [bnd];unfold qM;rw [gJ7 _ rfl 4998];simp only [bnd,f]
 ·exfalso;rcases a2 with g | g<;>(have h:a.kind=1:=h;rw [g] at h;cases h)
 ·exfalso;rcases c with g | g<;>(have h:b.kind=1:=h;rw [g] at h;cases h)
 ·exfalso;rcases c with g | g<;>(have h:b.kind=1:=h;rw [g] at h;cases h)
theorem hJj{k:Int}(hw:gOw w k)(hi:gYe w):∀(d m n:Nat) (t:gB),d < m→2*d+2≤n→d≤12→tok t→n4 t→∃x y,qN m ⟨w,fs⟩ ⟨addN,t⟩ (12 - (d:Int))=some x∧uD n w fs ⟨addN,t⟩ (d:Int)=some y∧EvR x y:=by
 intro d
 induction d with
 | zero=>
   intro m n t hm hn _ ht h4;obtain⟨m,rfl⟩:∃i,m=i+1:=⟨m - 1,by omega⟩
   obtain⟨n,rfl⟩:∃i,n=i+1:=⟨n - 1,by omega⟩
   rcases find_ok ⟨addN,t⟩ fs 0 with h | ⟨j,h1,h2,h3⟩
   ·have h:kH fs ⟨addN,t⟩= -1:=h;refine⟨(⟨0,0,⟨0,0⟩,[]⟩,3),_,?_,?_,.same⟩
    ·rw [qN];unfold gAj;rw [jQ (gWd fs _),h];rfl
    ·rw [uD];unfold gCk;rw [h];rfl
   ·exact gPz (by have h2:kH fs ⟨addN,t⟩=((0+j:Nat):Int):=h2;rw [h2,Nat.zero_add]) h1 m n _ _
 | succ d ih=>
   intro m n t hm hn hd ht h4;obtain⟨m,rfl⟩:∃i,m=i+1:=⟨m - 1,by omega⟩
   obtain⟨n,rfl⟩:∃i,n=i+2:=⟨n - 2,by omega⟩
   rcases find_ok ⟨addN,t⟩ fs 0 with h | ⟨j,h1,h2,h3⟩
   ·have h:kH fs ⟨addN,t⟩= -1:=h;rw [qN,uD];unfold gAj gCk;rw [jQ (gWd fs _),h,show decide ((-1:Int)≥0)=false from by decide,gK,gK,show decide (((d+1:Nat):Int)≤0)=false from decide_eq_false (by omega),gK,show decide (12 - ((d+1:Nat):Int)≥12)=false from decide_eq_false (by omega),gK];have htr:cnd (gCw w addN).2.2 (gCw w addN).1.auto false=false:=by rw [hi.tr];cases (gCw w addN).2.2<;>rfl
    simp only [lt_,hw.tr,htr,gK];have ah:(t.kind==4)=false:=beq_false_of_ne (by obtain⟨a,b,c⟩:=t;exact h4.1.1);have key:(cnd (t.kind==1) true (t.kind==3))=false→∃x y,(bnd (gHf w ⟨addN,t⟩) fun f=>cnd (f.2 != 0) (some ((⟨0,0,⟨0,0⟩,[]⟩:gQ),f.2)) (bnd (gHi w f.1) fun ac=>bnd (gAg ac.1.head t) fun ai=>uB (qN m) ⟨w,fs⟩ (12 - ((d+1:Nat):Int)) f ai ac.1.where_ []))=some x∧gG2 (n+1) w fs ⟨addN,t⟩ ((d+1:Nat):Int)=some y∧EvR x y:=by
     intro _;rw [gG2];unfold gK0;rw [jQ (hPu hw t ht),jQ (hRn hw hi t ht)];unfold hFa;obtain⟨a,ha,_,ha2,ha3,_⟩:=hw.i1;obtain⟨b,hb,_,hb2,hb3,_⟩:=hw.i2;obtain⟨p,ha4,ha5⟩:=gI3 ha;obtain⟨q,hb4,hb5⟩:=gI3 hb;cases hI:isI t with
     | true=>
       have hm1:mtT gAs t []=some []:=by rw [gP2,hI];rfl
       simp only [gZ,bne_self_eq_false,gK,ha4,ha5,bnd,gIj ha];rw [ha2,gGz gAs t (by decide) ht,hm1,show gAg gAs t=_ from gJ3 (by decide) ht hm1];simp only [ha3,zF,uB];exact⟨_,_,rfl,rfl,.same⟩
     | false=>
       simp only [gK];cases hB:gUq t with
       | true=>
         obtain⟨u,rfl⟩:=gQy hB;have hu:tok u:=hNy _ ht u (by simp [gI5]);have hm1:mtT gC4 (gI5 u) []=some [⟨[97],u⟩]:=by rw [gP3,hB];rfl
         simp only [gZ,bne_self_eq_false,gK,hb4,hb5,bnd,gIj hb];rw [hb2,gGz gC4 _ (by decide) ht,hm1,show gAg gC4 (gI5 u)=_ from gJ3 (by decide) ht hm1];simp only [hb3,zF,uB];have hg:bok [(⟨[97],u⟩:gG)]∧tok ⟨1,[97],[]⟩:=⟨fun c hc=>by simp only [List.mem_singleton] at hc;subst hc;exact hu,gH1 _ _⟩
         rw [mK hg,mK hg];simp only [lt_];rw [show IntKind.i64.wrap (((d+1:Nat):Int) - 1)=(d:Int)from by rw [qR _ (by omega) (by omega)];omega,show IntKind.i64.wrap (12 - ((d+1:Nat):Int)+1)=12 - (d:Int)from by rw [qR _ (by omega) (by omega)];omega];obtain⟨x,y,e1,e2,e3⟩:=ih m n u (by omega) (by omega) (by omega) hu (h4.2.1);have e1:qN m ⟨w,fs⟩ ⟨addN,apT [⟨[97],u⟩] ⟨1,[97],[]⟩⟩ (12 - (d:Int))=some x:=e1;have e2:uD n w fs ⟨addN,apT [⟨[97],u⟩] ⟨1,[97],[]⟩⟩ (d:Int)=some y:=e2;rw [jQ e1,jQ e2,e3.1];cases hc:(y.2 != 0)with
         | true=>exact⟨_,_,rfl,rfl,.same⟩
         | false=>
           simp only [gK];rw [mK (by simp),mK (by simp)];exact⟨_,_,rfl,rfl,rfl,fun _=>⟨⟨fun _=>rfl,fun _=>rfl⟩,fun _=>rfl⟩⟩
       | false=>exact⟨_,_,rfl,rfl,.same⟩
    cases hk:cnd (t.kind==1) true (t.kind==3)with
    | true=>
      have hk2:(cnd (t.kind==1) (some (t.kind==1)) (some (t.kind==3)))=some true:=by
       cases h1:(t.kind==1)with
       | true=>rfl
       | false=>rw [h1] at hk;exact congrArg some hk
      rw [hk2];exact⟨_,_,rfl,rfl,.same⟩
    | false=>
      have hk2:(cnd (t.kind==1) (some (t.kind==1)) (some (t.kind==3)))=some false:=by
       cases h1:(t.kind==1)with
       | true=>rw [h1] at hk;cases hk
       | false=>rw [h1] at hk;exact congrArg some hk
      rw [hk2];simp only [bnd,gK,ah];obtain⟨x,y,e1,e2,e3⟩:=key hk;refine⟨x,y,e1,?_,e3⟩;simp only [e2]
   ·exact gPz (by have h2:kH fs ⟨addN,t⟩=((0+j:Nat):Int):=h2;rw [h2,Nat.zero_add]) h1 m (n+1) _ _
end
theorem gSy{w:gI}{wh:List gY}{fs:List gU}{f:kP→gB→Int→Option (gB × Int)}{g:gI→List gY→gB→Int→Option (gB × Int)}{d e:Int}:∀(xs acc:List gB),(∀u∈xs,f ⟨w,fs⟩ u d=g w wh u e)→pI f ⟨w,fs⟩ d xs acc=yM g w wh e xs acc
 | [],_,_=>rfl
 | x::xs,acc,h=>by
   rw [pI,yM,h x (by simp)];congr 1;funext y;rw [gSy xs _ (fun u hu=>h u (by simp [hu]))]
theorem hE8{w:gI}{k:Int}(hw:gOw w k){t:gB}{e:gQ}(h:hX3 k t e)(hk:e.kind=1){o:gH}(ho:o=e.at_)(ht:tok t):∃r,yA w o t=some (r,true)∧wX w e.at_ t=some (r,true)∧(r=gAs∨∃u,t=gI5 u∧r=gI5 (gH5 u)):=by
 subst ho;rcases hDd hw h hk ht with ⟨a1,a2⟩ | ⟨u,rfl,a2⟩
 ·rcases gYf hw (h.1 hk) ht with ⟨f,c⟩ | ⟨u,rfl,c⟩
  ·exact⟨_,c,a2,.inl rfl⟩
  ·cases a1
 ·rcases gYf hw (h.1 hk) ht with ⟨f,c⟩ | ⟨u',hu,c⟩
  ·cases f
  ·cases hu;exact⟨_,c,a2,.inr ⟨u,rfl,rfl⟩⟩
theorem hNk{w:gI}{k:Int}(hw:gOw w k)(hi:gYe w){wh:List gY}{fs:List gU}(hf:pQ w wh=some fs)(hF:FV fs)(V:List (List UInt8)):∀(d m n f:Nat) (t:gB),tnd t≤m→2*m+d*1000≤n→2*m+d*1000≤f→d≤12→DT V t→tnd t≤40000→qO f ⟨w,fs⟩ t (12 - (d:Int))=mE n w wh t (d:Int):=by
 intro d
 induction d using Nat.strongRecOn with
 | ind d ihd=>
   intro m
   induction m with
   | zero=>intro n f t h;have:=gBq t;omega
   | succ m ihm=>
     intro n f t ht hn hn2 hd hD h4;obtain⟨n,rfl⟩:∃j,n=j+2:=⟨n - 2,by omega⟩
     obtain⟨f,rfl⟩:∃j,f=j+2:=⟨f - 2,by omega⟩
     have hargs:gA6 t.args+1=tnd t:=by obtain⟨a,b,c⟩:=t;simp only [tnd];omega
     obtain⟨r,r1,r2⟩:=hDg (V:=V) (fs:=fs) (e:=d) (rec:=mE n) (w:=w) (wh:=wh) (d:=(d:Int)) t.args [] (fun u hu=>gOp hw hf hF V d m n u (by have:=zC hu;omega) (by omega) hd (gHy hD u hu) (by have:=zC hu;omega)) (by have:=gMl t.args;simp;omega);have e1:gBr (n+1) w wh t.args (d:Int)=some r:=by rw [gBr];exact r1
     have e2:vC (f+1) ⟨w,fs⟩ t.args (12 - (d:Int))=some r:=by
      rw [vC];exact(gSy t.args [] (fun u hu=>ihm n f u (by have:=zC hu;omega) (by omega) (by omega) hd (gHy hD u hu) (by have:=zC hu;omega))).trans r1
     rw [qO,mE];unfold gA5 zP;rw [jQ e1,jQ e2];cases hc:(r.2 != 0)with
     | true=>rfl
     | false=>
       have hc0:r.2=0:=by simpa using hc
       obtain⟨ys,q1,q2⟩:=r2 hc0;rw [List.nil_append] at q1;rw [q1,gK,gK];cases decide (tsz ⟨t.kind,t.name,ys⟩ > 400)with
       | true=>rfl
       | false=>
         simp only [gK,lt_];by_cases hk3:t.kind=3
         ·obtain⟨hnm,hone⟩:=hAo hD hk3;have hl1:ys.length=1:=by rw [q2.len];exact hone
          rw [show (t.kind != 3)=false from by rw [hk3];rfl,show((ys.length:Int) != 1)=false from by rw [hl1];rfl];simp only [gK];rcases Nat.eq_zero_or_pos d with h0 | h0
          ·subst h0;rw [show (((0:Nat):Int)==0)=true from rfl,show decide (12 - ((0:Nat):Int)≥12)=true from by decide,gZ,gZ]
          ·obtain⟨d,rfl⟩:∃j,d=j+1:=⟨d - 1,by omega⟩
           rw [show (((d+1:Nat):Int)==0)=false from beq_false_of_ne (by omega),show decide (12 - ((d+1:Nat):Int)≥12)=false from decide_eq_false (by omega),gK,gK];obtain⟨x,hx⟩:∃x,t.args=[x]:=by
            match t.args,hone with
            | [x],_=>exact⟨x,rfl⟩
           rw [hx] at q2;obtain⟨u,rfl⟩:∃u,ys=[u]:=by
            match ys,hl1 with
            | [u],_=>exact⟨u,rfl⟩
           have hU:NQ V fs (d+1) x u:=by cases q2 with | cons h _=>exact h
           rw [show at? [u] 0=some u from rfl];simp only [bnd];obtain⟨a,b,a1,b1,ab⟩:=hJj (fs:=fs) hw hi 12 5000 5000 u (by omega) (by omega) (by omega) hU.dt.1.1 hU.dt.1.2.1;have a1:qN 5000 ⟨w,fs⟩ ⟨addN,u⟩ 0=some a:=a1;obtain⟨e,c,s1,s2⟩:=gUu hw hf hF hU.dt.1.1 hU.dt.1.2.1;have s3:=s1;have b1:uD 5000 w fs ⟨addN,u⟩ 12=some b:=b1;unfold gE4 at s3;rw [jQ hf,jQ b1] at s3;obtain⟨be,bc⟩:=b;cases s3;rw [hnm,a1,s1];obtain⟨ae,ac⟩:=a;obtain⟨ab1,ab2⟩:=ab;have ab1:ac=bc:=ab1;subst ab1;simp only;cases hc2:(ac != 0)with
           | true=>rfl
           | false=>
             have hc3:ac=0:=by simpa using hc2
             obtain⟨f1,f2⟩:=s2 hc3;obtain⟨y,g2⟩:=ab2 hc3;have y:ae.kind=1↔be.kind=1:=y;have g2:be.kind=1→ae.at_=be.at_:=g2;simp only [gK];by_cases hek:be.kind=1
             ·rw [show (be.kind != 1)=false from by rw [hek];rfl,show(ae.kind != 1)=false from by rw [y.2 hek];rfl,gK,gK];obtain⟨v,v1,v2,v3⟩:=hE8 hw f1 hek (g2 hek) hU.dt.1.1;rw [v1,v2];simp only [Bool.not_true,gK];rw [show IntKind.i64.wrap (((d+1:Nat):Int) - 1)=(d:Int)from by rw [qR _ (by omega) (by omega)];omega,show IntKind.i64.wrap (12 - ((d+1:Nat):Int)+1)=12 - (d:Int)from by rw [qR _ (by omega) (by omega)];omega];have hsz:=hU.sz;have hv:DT V v∧tnd v≤403:=by
               rcases v3 with rfl | ⟨z,rfl,rfl⟩
               ·exact⟨hJ8,by decide⟩
               ·refine⟨hPw (gHy hU.dt z (by simp [gI5])),?_⟩;simp only [gI5,gH5,tnd,gA6] at hsz ⊢;omega
              rw [ihd d (by omega) 403 (n+1) (f+1) v hv.2 (by omega) (by omega) (by omega) hv.1 (by omega)]
             ·rw [show (be.kind != 1)=true from bne_iff_ne.2 hek,show(ae.kind != 1)=true from bne_iff_ne.2 (fun h=>hek (y.1 h))];rfl
         ·rw [show (t.kind != 3)=true from bne_iff_ne.2 hk3];rfl
end Go.Proofs.YtegahmhnmjnhhaaGreat
