import Derived.Test.YtegahmhnmjnhhaaGreatD3
set_option maxHeartbeats 4000000
set_option linter.unusedVariables false
set_option linter.unusedSimpArgs false
set_option linter.unusedSectionVars false
namespace Go.Proofs.YtegahmhnmjnhhaaGreat
open Go Go.Eng
attribute [local irreducible] V VO VQ VY Quiet QR gY kR Rng mU mW mG
def pM(c:kV→gB→Int→Option (gB × Int))(q:kV)(a2:Int):List gB→(List gB)→Option (List gB × Int)
 | [],f=>(some (f,0))
 | y::xs,f=>bnd (c q y a2) fun h=>
(cnd (h.2 != 0) (some ([],h.2)) (
gd (f.length+[h.1].length≤4294967296) (
pM c q a2 xs (f++[h.1]))))
def gBq(f:kV→(List gB)→Int→Option (List gB × Int))(c:kV→gB→Int→Option (gB × Int))(q:kV)(a1:List gB)(a2:Int):Option (List gB × Int):=
pM c q a2 a1 []
def gBr(c:kV→(List gB)→Int→Option (List gB × Int)):Prop:=∀(f:kV)(h:List gB)(y:Int){r:List gB × Int},c f h y=some r→Go.Eng.Spec Tryz.prog 97 [.ptr 0 0,.L 3 (jH h),.I y] [.box [.L 6 (jQ f.w.packages),.L 6 (gV f.assumed)]] (fun sv Lo=>sv=.tup [.L 3 (jH r.1),.I r.2]∧Lo=[.box [.L 6 (jQ f.w.packages),.L 6 (gV f.assumed)]])
def gA9(c:kV→gB→Int→Option (gB × Int)):Prop:=∀(f:kV)(h:gB)(y:Int){r:gB × Int},c f h y=some r→Go.Eng.Spec Tryz.prog 80 [.ptr 0 0,.d (jS h),.I y] [.box [.L 6 (jQ f.w.packages),.L 6 (gV f.assumed)]] (fun sv Lo=>sv=.tup [.d (jS r.1),.I r.2]∧Lo=[.box [.L 6 (jQ f.w.packages),.L 6 (gV f.assumed)]])
theorem gK2{f}{c}(aa:gBr f)(y:gA9 c)(q:kV)(a1:List gB)(a2:Int){r:List gB × Int}(h:gBq f c q a1 a2=some r):Go.Eng.Spec Tryz.prog 97 [.ptr 0 0,.L 3 (jH a1),.I a2] [.box [.L 6 (jQ q.w.packages),.L 6 (gV q.assumed)]] (fun sv Lo=>sv=.tup [.L 3 (jH r.1),.I r.2]∧Lo=[.box [.L 6 (jQ q.w.packages),.L 6 (gV q.assumed)]]):=by
 obtain⟨⟨ab⟩,ah⟩:=q;unfold gBq at h;refine kF 1 Tryz.func97 rfl (by kernel_rfl) rfl rfl fun A _=>?_;refine goL ?_;refine gAp ?_;refine goL ?_;refine noB ?_;refine gB0 14 (fun z4=>?_);refine kS (fun(y3:Nat)(y1:List gB)(v2:Nat)=>⟨[(0,.ptr 0 0),(2,.I a2),(8,.sl 1 v2),(14,.L 3 (jH a1)),(15,.I (a1.length:Int)),(16,.N y3)],[.box [.L 6 (jQ ab),.L 6 (gV ah)],.arr 35 3 v2 (jH y1)],Tryz.f97.ntmps⟩) (fun y3 y1 v2=>pM c (kV.mk (gK.mk ab) ah) a2 (a1.drop y3) y1=some r) (fun y3 y1 v2=>a1.length - y3) 0 [] 0 eJ h ?_;rintro y3 y1 v2 h;refine goL ?_;refine jY (kX (fun c5=>?_) (fun c5=>?_))
 ·have ag:=uR c5;obtain⟨x6,ar,ap⟩:=drop_at ag;rw [ap,pM.eq_2] at h;obtain⟨ak,al,am⟩:=x6;refine noS ?_;refine jY (jA ?_);refine goL ?_;refine jI (jJ y3 (zJ ar)) ?_;obtain⟨⟨⟨ac,ad,ae⟩,an⟩,au,h⟩:=gM h;refine yJ [0] (y (kV.mk (gK.mk ab) ah) (gB.mk ak al am) a2 au) ?_;rintro _ _ ⟨rfl,rfl⟩;show VO _ _ _ _ ⟨(_,.tup [.d (.st [.i .i64 ac,.s ad,.sl 3 (jH ae)]),.I an])::_,[.box [.L 6 (jQ ab),.L 6 (gV ah)],.arr 35 3 v2 (jH y1),bTy ak al am],_⟩ _;refine goC h ?_ ?_<;>intro c8 h
  ·refine goL ?_;refine jG ?_;obtain rfl:=Option.some.inj h;exact yK [.L 3 [],.I an] _ ⟨rfl,rfl⟩
  ·refine goS ?_;refine gAo (u:=(.st [.i .i64 ac,.s ad,.sl 3 (jH ae)])) ?_;obtain⟨g9,h⟩:=mY h;refine gBd g9 ?_;refine goL ?_;refine jI (jW y3 (by omega)) ?_;exact⟨(y3+1),(y1++[(gB.mk ac ad ae)]),(v2+1),h,by omega,eJ⟩
 ·have ag:=uS c5;rw [jC ag,pM.eq_1] at h;refine goX ?_;refine kP 1 rfl rfl ?_;refine jG ?_;obtain rfl:=Option.some.inj h;exact hGd [.L 3 (jH y1),.I 0] [.box [.L 6 (jQ ab),.L 6 (gV ah)]] ⟨rfl,rfl⟩
def gBa(c:kV→(List gB)→Int→Option (List gB × Int))(f:kV→gB→Int→Option (gB × Int))(q:kV)(a1:gB)(a2:Int):Option (gB × Int):=
bnd (c q a1.args a2) fun h=>
(cnd (h.2 != 0) (some ((gB.mk 0 [] []),h.2)) (cnd (decide ((tsz (gB.mk a1.kind a1.name h.1)) > 400)) (some ((gB.mk 0 [] []),2)) (
lt_ (cnd (a1.kind != 3) (true) ((h.1.length:Int) != 1)) fun b4=>
(cnd b4 (some ((gB.mk a1.kind a1.name h.1),0)) (cnd (decide (a2≥12)) (some ((gB.mk 0 [] []),2)) (
bnd (at? h.1 0) fun x8=>
bnd (qQ 5000 q (gW.mk a1.name x8) 0) fun x9=>
(cnd (x9.2 != 0) (some ((gB.mk 0 [] []),1)) (cnd (x9.1.kind != 1) (some ((gB.mk a1.kind a1.name h.1),0)) (
bnd (wW q.w x9.1.at_ x8) fun y=>
(cnd (!y.2) (some ((gB.mk 0 [] []),1)) (
bnd (f q y.1 (IntKind.i64.wrap (a2+1))) fun aa=>
(some (aa.1,aa.2)))))))))))))
theorem gNo{c}{f}(y:gBr c)(aa:gA9 f)(q:kV)(a1:gB)(a2:Int){r:gB × Int}(h:gBa c f q a1 a2=some r):Go.Eng.Spec Tryz.prog 80 [.ptr 0 0,.d (jS a1),.I a2] [.box [.L 6 (jQ q.w.packages),.L 6 (gV q.assumed)]] (fun sv Lo=>sv=.tup [.d (jS r.1),.I r.2]∧Lo=[.box [.L 6 (jQ q.w.packages),.L 6 (gV q.assumed)]]):=by
 obtain⟨⟨ac⟩,al⟩:=q;obtain⟨ag,ab,am⟩:=a1;unfold gBa at h;refine kF 1 Tryz.func80 rfl (by kernel_rfl) rfl rfl fun A _=>?_;refine goL ?_;obtain⟨⟨ah,ay⟩,ba,h⟩:=gM h;refine yJ [0] (y (kV.mk (gK.mk ac) al) am a2 ba) ?_;rintro _ _ ⟨rfl,rfl⟩;show VO _ _ _ _ ⟨(_,.tup [.L 3 (jH ah),.I ay])::_,[.box [.L 6 (jQ ac),.L 6 (gV al)],bTy ag ab am,.box [.I 0,.S [],.nilsl]],_⟩ _;refine goC h ?_ ?_<;>intro c2 h
 ·refine goL ?_;refine gBn (jX TBd.h TZ.h rfl (by repeat constructor)) ?_;refine jG ?_;obtain rfl:=Option.some.inj h;exact yK [.d (.st [.i .i64 0,.s [],.sl 3 []]),.I ay] _ ⟨rfl,rfl⟩
 ·refine goS ?_;refine gBn (jX TBd.h TZ.h rfl (by repeat constructor)) ?_;refine jI (gF (gH8 (gB.mk ag ab ah))) ?_;refine kX (fun c3=>?_) (fun c3=>?_)
  ·replace h:=kD c3 h;refine goL ?_;refine gBn (jX TBd.h TZ.h rfl (by repeat constructor)) ?_;refine jG ?_;obtain rfl:=Option.some.inj h;exact yK [.d (.st [.i .i64 0,.s [],.sl 3 []]),.I 2] _ ⟨rfl,rfl⟩
  ·replace h:=kE c3 h;refine goS ?_;obtain⟨b4,hb4,h⟩:=qA h;refine jT ⟨[(0,.ptr 0 0),(2,.I a2),(4,.ptr 1 0),(6,.ptr 2 0),(8,.L 3 (jH ah)),(10,.ptr 3 0),(44,.B b4)],[.box [.L 6 (jQ ac),.L 6 (gV al)],bTy ag ab am,.box [.I 0,.S [],.nilsl],bTy ag ab ah],Tryz.f80.ntmps⟩ ?_ ?_
   ·refine uD 40 (fun c5=>?_) (fun c5=>?_) (by rfl)
    ·replace hb4:=kD c5 hb4;refine goL ?_;cases hb4;exact⟨rfl,⟨⟨rfl,rfl⟩,⟨rfl,rfl⟩,⟨rfl,rfl⟩,⟨rfl,rfl⟩,⟨rfl,rfl⟩,⟨rfl,rfl⟩,⟨by rfl,rfl⟩,trivial⟩,⟨_,rfl⟩,rfl⟩
    ·replace hb4:=kE c5 hb4;refine goL ?_;cases hb4;exact⟨rfl,⟨⟨rfl,rfl⟩,⟨rfl,rfl⟩,⟨rfl,rfl⟩,⟨rfl,rfl⟩,⟨rfl,rfl⟩,⟨rfl,rfl⟩,⟨by rfl,rfl⟩,trivial⟩,⟨_,rfl⟩,rfl⟩
   refine goC h ?_ ?_<;>intro c6 h
   ·refine goL ?_;refine jG ?_;obtain rfl:=Option.some.inj h;exact yK [.d (.st [.i .i64 ag,.s ab,.sl 3 (jH ah)]),.I 0] _ ⟨rfl,rfl⟩
   ·refine goS ?_;refine kX (fun c7=>?_) (fun c7=>?_)
    ·replace h:=kD c7 h;refine goL ?_;refine gBn (jX TBd.h TZ.h rfl (by repeat constructor)) ?_;refine jG ?_;obtain rfl:=Option.some.inj h;exact yK [.d (.st [.i .i64 0,.s [],.sl 3 []]),.I 2] _ ⟨rfl,rfl⟩
    ·replace h:=kE c7 h;refine noS ?_;obtain⟨x8,ax,h⟩:=gM h;obtain⟨a0,ax⟩:=gDy ax;obtain⟨a3,a4,a5⟩:=x8;obtain⟨⟨⟨ai,aj,⟨ad,ae⟩,ak⟩,av⟩,a7,h⟩:=gM h;refine qJ (P:=Tryz.prog) Mix.h (.q 0 (.q 1 (.q 2 (.q 3 (.q 4 (.q 5 (.q 6 (.h 7 (.q 8 (.q 9 (.q 10 (.h 11 (.h 12 (.q 13 .nil) .nil) .nil)))) (.h 11 (.h 7 (.q 8 (.q 9 (.q 10 (.h 12 (.q 13 .nil) .nil)))) .nil) .nil))))))))) ⟨[(0,.ptr 0 0),(2,.I a2),(6,.ptr 2 0),(8,.L 3 (jH ah)),(10,.ptr 3 0),(11,.ptr 4 0),(12,.I av)],[.box [.L 6 (jQ ac),.L 6 (gV al)],bTy ag ab am,.box [.I 0,.S [],.nilsl],bTy ag ab ah,.box [.I ai,.I aj,.I ad,.I ae,.L 5 (kN ak)]],Tryz.f80.ntmps⟩ (by kernel_rfl) ?_ ?_
     ·refine gS2 ?_;refine gAt (jF rfl (qW a0 (zJ ax)) jU) ?_;refine gS2 ?_;refine uV (gBu (sv:=.tup [.d (.st [.i .i64 ai,.i .i64 aj,.st [.i .i64 ad,.i .i64 ae],.sl 5 (kN ak)]),.I av]) [0] (gLk 5000 (kV.mk (gK.mk ac) al) (gW.mk ab (gB.mk a3 a4 a5)) 0 a7) jU) ?_ ?_
      ·refine gS2 ?_;refine jV ?_;exact qX 1 [0,1,2,3,4]
      refine gS2 ?_;refine jR (gBu (sv:=.tup [.d (.st [.i .i64 ai,.i .i64 aj,.st [.i .i64 ad,.i .i64 ae],.sl 5 (kN ak)]),.I av]) [0] (gLk 5000 (kV.mk (gK.mk ac) al) (gW.mk ab (gB.mk a3 a4 a5)) 0 a7) jU) ?_;refine gS2 ?_;refine jV ?_;exact qX 1 [0,1,2,3,4]
     refine goC h ?_ ?_<;>intro bh h
     ·refine goL ?_;refine gBn (jX TBd.h TZ.h rfl (by repeat constructor)) ?_;refine jG ?_;obtain rfl:=Option.some.inj h;exact yK [.d (.st [.i .i64 0,.s [],.sl 3 []]),.I 1] _ ⟨rfl,rfl⟩
     ·refine goS ?_;refine kX (fun a6=>?_) (fun a6=>?_)
      ·replace h:=kD a6 h;refine goL ?_;refine jG ?_;obtain rfl:=Option.some.inj h;exact yK [.d (.st [.i .i64 ag,.s ab,.sl 3 (jH ah)]),.I 0] _ ⟨rfl,rfl⟩
      ·replace h:=kE a6 h;refine noS ?_;refine jK (P:=Tryz.prog) Mix.h [(0,true),(1,true),(2,true),(3,true),(4,true),(5,true),(6,true),(7,true),(8,true),(9,true),(10,true),(11,true),(12,true),(13,false),(14,false),(15,true)] (by kernel_rfl) ?_;refine goY ?_;refine jF rfl (qW a0 (zJ ax)) ?_;refine goY ?_;obtain⟨⟨⟨an,ao,ap⟩,be⟩,a8,h⟩:=gM h;refine jF rfl (gF (gT0 _ _ _ a8)) ?_;refine goY ?_;refine kQ ?_;refine goC h ?_ ?_<;>intro bi h
       ·refine goL ?_;refine gBn (jX TBd.h TZ.h rfl (by repeat constructor)) ?_;refine jG ?_;obtain rfl:=Option.some.inj h;exact yK [.d (.st [.i .i64 0,.s [],.sl 3 []]),.I 1] _ ⟨rfl,rfl⟩
       ·refine goS ?_;refine qK (pU) ?_;obtain⟨⟨⟨aq,ar,au⟩,aw⟩,a9,h⟩:=gM h;refine yJ [0] (aa (kV.mk (gK.mk ac) al) (gB.mk an ao ap) (IntKind.i64.wrap (a2+1)) a9) ?_;rintro _ _ ⟨rfl,rfl⟩;show VO _ _ _ _ ⟨(_,.tup [.d (.st [.i .i64 aq,.s ar,.sl 3 (jH au)]),.I aw])::_,[.box [.L 6 (jQ ac),.L 6 (gV al)],bTy ag ab am,.box [.I 0,.S [],.nilsl],bTy ag ab ah,.box [.I ai,.I aj,.I ad,.I ae,.L 5 (kN ak)],bTy an ao ap],_⟩ _;refine goL ?_;refine jG ?_;obtain rfl:=Option.some.inj h;exact yK [.d (.st [.i .i64 aq,.s ar,.sl 3 (jH au)]),.I aw] _ ⟨rfl,rfl⟩
mutual
def vC:Nat→kV→(List gB)→Int→Option (List gB × Int)
 | 0,_,_,_=>none
 | n+1,c,f,h=>gBq (vC n) (qV n) c f h
def qV:Nat→kV→gB→Int→Option (gB × Int)
 | 0,_,_,_=>none
 | n+1,c,f,h=>gBa (vC n) (qV n) c f h
end
theorem gKc:∀(n:Nat),gBr (vC n)∧gA9 (qV n):=by
 intro n
 induction n with
 | zero=>exact⟨(by intro c f y r h;cases h),(by intro c f y r h;cases h)⟩
 | succ n ih=>
   obtain⟨ih0,ih1⟩:=ih;refine⟨(fun c f y r h=>gK2 ih0 ih1 c f y h),(fun c f y r h=>gNo ih0 ih1 c f y h)⟩
theorem gNp:∀(n:Nat),gA9 (qV n):=fun n=>(gKc n).2
def EvR(x y:gN × Int):Prop:=x.2=y.2∧(y.2=0→(x.1.kind=1↔y.1.kind=1)∧(y.1.kind=1→x.1.at_=y.1.at_))
theorem EvR.same{x:gN × Int}:EvR x x:=⟨rfl,fun _=>⟨Iff.rfl,fun _=>rfl⟩⟩
section
variable {w:gK}{fs:List gQ}
theorem gQh{t:gB}{j:Nat}(h:jZ fs ⟨addN,t⟩=(j:Int))(hj:j < fs.length)(m n:Nat)(d e:Int):∃x y,qQ (m+1) ⟨w,fs⟩ ⟨addN,t⟩ d=some x∧uI (n+1) w fs ⟨addN,t⟩ e=some y∧EvR x y:=by
 obtain⟨a,a1,a2⟩:=hSv 2 fs[j].from_ fs[j].steps;obtain⟨b,f,c⟩:=gOx fs[j].steps 2 fs[j].from_ 0 0 [];refine⟨(a,0),(b,0),?_,?_,rfl,fun _=>⟨⟨fun h=>?_,fun h=>?_⟩,fun h=>?_⟩⟩
 ·rw [qQ];unfold gAk;rw [jO (gVx fs _),h,show decide ((j:Int)≥0)=true from decide_eq_true (by omega),gT,zI,List.getElem?_eq_getElem hj];simp only [bnd,a1]
 ·rw [uI];unfold gCm;rw [h,show decide ((j:Int)≥0)=true from decide_eq_true (by omega),gT,zI,List.getElem?_eq_getElem hj];simp only [bnd];unfold qP;rw [gKe _ rfl 4998];simp only [bnd,f]
 ·exfalso;rcases a2 with g | g<;>(have h:a.kind=1:=h;rw [g] at h;cases h)
 ·exfalso;rcases c with g | g<;>(have h:b.kind=1:=h;rw [g] at h;cases h)
 ·exfalso;rcases c with g | g<;>(have h:b.kind=1:=h;rw [g] at h;cases h)
theorem hLd{k:Int}(hw:gO8 w k)(hi:gZp w):∀(d m n:Nat)(t:gB),d < m→2*d+2≤n→d≤12→tok t→n4 t→∃x y,qQ m ⟨w,fs⟩ ⟨addN,t⟩ (12 - (d:Int))=some x∧uI n w fs ⟨addN,t⟩ (d:Int)=some y∧EvR x y:=by
 intro d
 induction d with
 | zero=>
   intro m n t hm hn _ ht h4;obtain⟨m,rfl⟩:∃i,m=i+1:=⟨m - 1,by omega⟩
   obtain⟨n,rfl⟩:∃i,n=i+1:=⟨n - 1,by omega⟩
   rcases find_ok ⟨addN,t⟩ fs 0 with h | ⟨j,h1,h2,h3⟩
   ·have h:jZ fs ⟨addN,t⟩= -1:=h;refine⟨(⟨0,0,⟨0,0⟩,[]⟩,3),_,?_,?_,.same⟩
    ·rw [qQ];unfold gAk;rw [jO (gVx fs _),h];rfl
    ·rw [uI];unfold gCm;rw [h];rfl
   ·exact gQh (by have h2:jZ fs ⟨addN,t⟩=((0+j:Nat):Int):=h2;rw [h2,Nat.zero_add]) h1 m n _ _
 | succ d ih=>
   intro m n t hm hn hd ht h4;obtain⟨m,rfl⟩:∃i,m=i+1:=⟨m - 1,by omega⟩
   obtain⟨n,rfl⟩:∃i,n=i+2:=⟨n - 2,by omega⟩
   rcases find_ok ⟨addN,t⟩ fs 0 with h | ⟨j,h1,h2,h3⟩
   ·have h:jZ fs ⟨addN,t⟩= -1:=h;rw [qQ,uI];unfold gAk gCm;rw [jO (gVx fs _),h,show decide ((-1:Int)≥0)=false from by decide,gI,gI,show decide (((d+1:Nat):Int)≤0)=false from decide_eq_false (by omega),gI,show decide (12 - ((d+1:Nat):Int)≥12)=false from decide_eq_false (by omega),gI];have htr:cnd (gCx w addN).2.2 (gCx w addN).1.auto false=false:=by rw [hi.tr];cases (gCx w addN).2.2<;>rfl
    simp only [lt_,hw.tr,htr,gI];have ah:(t.kind==4)=false:=beq_false_of_ne (by obtain⟨a,b,c⟩:=t;exact h4.1.1);have key:(cnd (t.kind==1) true (t.kind==3))=false→∃x y,(bnd (gHo w ⟨addN,t⟩) fun f=>cnd (f.2 != 0) (some ((⟨0,0,⟨0,0⟩,[]⟩:gN),f.2)) (bnd (gHn w f.1) fun ac=>bnd (gAj ac.1.head t) fun ai=>uF (qQ m) ⟨w,fs⟩ (12 - ((d+1:Nat):Int)) f ai ac.1.where_ []))=some x∧gHh (n+1) w fs ⟨addN,t⟩ ((d+1:Nat):Int)=some y∧EvR x y:=by
     intro _;rw [gHh];unfold gLd;rw [jO (hQ6 hw t ht),jO (hSu hw hi t ht)];unfold hF4;obtain⟨a,ha,_,ha2,ha3,_⟩:=hw.i1;obtain⟨b,hb,_,hb2,hb3,_⟩:=hw.i2;obtain⟨p,ha4,ha5⟩:=gJb ha;obtain⟨q,hb4,hb5⟩:=gJb hb;cases hI:isI t with
     | true=>
       have hm1:mtT yP t []=some []:=by rw [gQj,hI];rfl
       simp only [gT,bne_self_eq_false,gI,ha4,ha5,bnd,gIl ha];rw [ha2,gHa yP t (by decide) ht,hm1,show gAj yP t=_ from gJ8 (by decide) ht hm1];simp only [ha3,zC,uF];exact⟨_,_,rfl,rfl,.same⟩
     | false=>
       simp only [gI];cases hB:gUz t with
       | true=>
         obtain⟨u,rfl⟩:=gRg hB;have hu:tok u:=hMz _ ht u (by simp [gGe]);have hm1:mtT gC8 (gGe u) []=some [⟨[97],u⟩]:=by rw [gQk,hB];rfl
         simp only [gT,bne_self_eq_false,gI,hb4,hb5,bnd,gIl hb];rw [hb2,gHa gC8 _ (by decide) ht,hm1,show gAj gC8 (gGe u)=_ from gJ8 (by decide) ht hm1];simp only [hb3,zC,uF];have hg:bok [(⟨[97],u⟩:gG)]∧tok ⟨1,[97],[]⟩:=⟨fun c hc=>by simp only [List.mem_singleton] at hc;subst hc;exact hu,gIb _ _⟩
         rw [mI hg,mI hg];simp only [lt_];rw [show IntKind.i64.wrap (((d+1:Nat):Int) - 1)=(d:Int)from by rw [qR _ (by omega) (by omega)];omega,show IntKind.i64.wrap (12 - ((d+1:Nat):Int)+1)=12 - (d:Int)from by rw [qR _ (by omega) (by omega)];omega];obtain⟨x,y,e1,e2,e3⟩:=ih m n u (by omega) (by omega) (by omega) hu (h4.2.1);have e1:qQ m ⟨w,fs⟩ ⟨addN,apT [⟨[97],u⟩] ⟨1,[97],[]⟩⟩ (12 - (d:Int))=some x:=e1;have e2:uI n w fs ⟨addN,apT [⟨[97],u⟩] ⟨1,[97],[]⟩⟩ (d:Int)=some y:=e2;rw [jO e1,jO e2,e3.1];cases hc:(y.2 != 0)with
         | true=>exact⟨_,_,rfl,rfl,.same⟩
         | false=>
           simp only [gI];rw [mI (by simp),mI (by simp)];exact⟨_,_,rfl,rfl,rfl,fun _=>⟨⟨fun _=>rfl,fun _=>rfl⟩,fun _=>rfl⟩⟩
       | false=>exact⟨_,_,rfl,rfl,.same⟩
    cases hk:cnd (t.kind==1) true (t.kind==3)with
    | true=>
      have hk2:(cnd (t.kind==1) (some (t.kind==1)) (some (t.kind==3)))=some true:=by
       cases h1:(t.kind==1)with
       | true=>rfl
       | false=>rw [h1] at hk;exact congrArg some hk
      rw [hk2];exact⟨_,_,rfl,rfl,.same⟩
    | false=>
      have hk2:(cnd (t.kind==1) (some (t.kind==1)) (some (t.kind==3)))=some false:=by
       cases h1:(t.kind==1)with
       | true=>rw [h1] at hk;cases hk
       | false=>rw [h1] at hk;exact congrArg some hk
      rw [hk2];simp only [bnd,gI,ah];obtain⟨x,y,e1,e2,e3⟩:=key hk;refine⟨x,y,e1,?_,e3⟩;simp only [e2]
   ·exact gQh (by have h2:jZ fs ⟨addN,t⟩=((0+j:Nat):Int):=h2;rw [h2,Nat.zero_add]) h1 m (n+1) _ _
end
theorem gTa{w:gK}{wh:List gW}{fs:List gQ}{f:kV→gB→Int→Option (gB × Int)}{g:gK→List gW→gB→Int→Option (gB × Int)}{d e:Int}:∀(xs acc:List gB),(∀u∈xs,f ⟨w,fs⟩ u d=g w wh u e)→pM f ⟨w,fs⟩ d xs acc=yO g w wh e xs acc
 | [],_,_=>rfl
 | x::xs,acc,h=>by
   rw [pM,yO,h x (by simp)];congr 1;funext y;rw [gTa xs _ (fun u hu=>h u (by simp [hu]))]
theorem hFy{w:gK}{k:Int}(hw:gO8 w k){t:gB}{e:gN}(h:hZ7 k t e)(hk:e.kind=1){o:gH}(ho:o=e.at_)(ht:tok t):∃r,wW w o t=some (r,true)∧wS w e.at_ t=some (r,true)∧(r=yP∨∃u,t=gGe u∧r=gGe (gF3 u)):=by
 subst ho;rcases hEh hw h hk ht with ⟨a1,a2⟩ | ⟨u,rfl,a2⟩
 ·rcases gXt hw (h.1 hk) ht with ⟨f,c⟩ | ⟨u,rfl,c⟩
  ·exact⟨_,c,a2,.inl rfl⟩
  ·cases a1
 ·rcases gXt hw (h.1 hk) ht with ⟨f,c⟩ | ⟨u',hu,c⟩
  ·cases f
  ·cases hu;exact⟨_,c,a2,.inr ⟨u,rfl,rfl⟩⟩
theorem hOz{w:gK}{k:Int}(hw:gO8 w k)(hi:gZp w){wh:List gW}{fs:List gQ}(hf:pK w wh=some fs)(hF:FV fs)(V:LS):∀(d m n f:Nat)(t:gB),tnd t≤m→2*m+d*1000≤n→2*m+d*1000≤f→d≤12→DT V t→tnd t≤40000→qV f ⟨w,fs⟩ t (12 - (d:Int))=mE n w wh t (d:Int):=by
 intro d
 induction d using Nat.strongRecOn with
 | ind d ihd=>
   intro m
   induction m with
   | zero=>intro n f t h;have:=gBs t;omega
   | succ m ihm=>
     intro n f t ht hn hn2 hd hD h4;obtain⟨n,rfl⟩:∃j,n=j+2:=⟨n - 2,by omega⟩
     obtain⟨f,rfl⟩:∃j,f=j+2:=⟨f - 2,by omega⟩
     have hargs:gAb t.args+1=tnd t:=by obtain⟨a,b,c⟩:=t;simp only [tnd];omega
     obtain⟨r,r1,r2⟩:=hEj (V:=V) (fs:=fs) (e:=d) (rec:=mE n) (w:=w) (wh:=wh) (d:=(d:Int)) t.args [] (fun u hu=>gLv hw hf hF V d m n u (by have:=yU hu;omega) (by omega) hd (gE7 hD u hu) (by have:=yU hu;omega)) (by have:=gMo t.args;simp;omega);have e1:gBy (n+1) w wh t.args (d:Int)=some r:=by rw [gBy];exact r1
     have e2:vC (f+1) ⟨w,fs⟩ t.args (12 - (d:Int))=some r:=by
      rw [vC];exact(gTa t.args [] (fun u hu=>ihm n f u (by have:=yU hu;omega) (by omega) (by omega) hd (gE7 hD u hu) (by have:=yU hu;omega))).trans r1
     rw [qV,mE];unfold gBa zQ;rw [jO e1,jO e2];cases hc:(r.2 != 0)with
     | true=>rfl
     | false=>
       have hc0:r.2=0:=by simpa using hc
       obtain⟨ys,q1,q2⟩:=r2 hc0;rw [List.nil_append] at q1;rw [q1,gI,gI];cases decide (tsz ⟨t.kind,t.name,ys⟩ > 400)with
       | true=>rfl
       | false=>
         simp only [gI,lt_];by_cases hk3:t.kind=3
         ·obtain⟨hnm,hone⟩:=hA8 hD hk3;have hl1:ys.length=1:=by rw [q2.len];exact hone
          rw [show (t.kind != 3)=false from by rw [hk3];rfl,show((ys.length:Int) != 1)=false from by rw [hl1];rfl];simp only [gI];rcases Nat.eq_zero_or_pos d with h0 | h0
          ·subst h0;rw [show (((0:Nat):Int)==0)=true from rfl,show decide (12 - ((0:Nat):Int)≥12)=true from by decide,gT,gT]
          ·obtain⟨d,rfl⟩:∃j,d=j+1:=⟨d - 1,by omega⟩
           rw [show (((d+1:Nat):Int)==0)=false from beq_false_of_ne (by omega),show decide (12 - ((d+1:Nat):Int)≥12)=false from decide_eq_false (by omega),gI,gI];obtain⟨x,hx⟩:∃x,t.args=[x]:=by
            match t.args,hone with
            | [x],_=>exact⟨x,rfl⟩
           rw [hx] at q2;obtain⟨u,rfl⟩:∃u,ys=[u]:=by
            match ys,hl1 with
            | [u],_=>exact⟨u,rfl⟩
           have hU:NQ V fs (d+1) x u:=by cases q2 with | cons h _=>exact h
           rw [show at? [u] 0=some u from rfl];simp only [bnd];obtain⟨a,b,a1,b1,ab⟩:=hLd (fs:=fs) hw hi 12 5000 5000 u (by omega) (by omega) (by omega) hU.dt.1.1 hU.dt.1.2.1;have a1:qQ 5000 ⟨w,fs⟩ ⟨addN,u⟩ 0=some a:=a1;obtain⟨e,c,s1,s2⟩:=gU2 hw hf hF hU.dt.1.1 hU.dt.1.2.1;have s3:=s1;have b1:uI 5000 w fs ⟨addN,u⟩ 12=some b:=b1;unfold gFh at s3;rw [jO hf,jO b1] at s3;obtain⟨be,bc⟩:=b;cases s3;rw [hnm,a1,s1];obtain⟨ae,ac⟩:=a;obtain⟨ab1,ab2⟩:=ab;have ab1:ac=bc:=ab1;subst ab1;simp only;cases hc2:(ac != 0)with
           | true=>rfl
           | false=>
             have hc3:ac=0:=by simpa using hc2
             obtain⟨f1,f2⟩:=s2 hc3;obtain⟨y,g2⟩:=ab2 hc3;have y:ae.kind=1↔be.kind=1:=y;have g2:be.kind=1→ae.at_=be.at_:=g2;simp only [gI];by_cases hek:be.kind=1
             ·rw [show (be.kind != 1)=false from by rw [hek];rfl,show(ae.kind != 1)=false from by rw [y.2 hek];rfl,gI,gI];obtain⟨v,v1,v2,v3⟩:=hFy hw f1 hek (g2 hek) hU.dt.1.1;rw [v1,v2];simp only [Bool.not_true,gI];rw [show IntKind.i64.wrap (((d+1:Nat):Int) - 1)=(d:Int)from by rw [qR _ (by omega) (by omega)];omega,show IntKind.i64.wrap (12 - ((d+1:Nat):Int)+1)=12 - (d:Int)from by rw [qR _ (by omega) (by omega)];omega];have hsz:=hU.sz;have hv:DT V v∧tnd v≤403:=by
               rcases v3 with rfl | ⟨z,rfl,rfl⟩
               ·exact⟨hQ9,by decide⟩
               ·refine⟨hQ8 (gE7 hU.dt z (by simp [gGe])),?_⟩;simp only [gGe,gF3,tnd,gAb] at hsz ⊢;omega
              rw [ihd d (by omega) 403 (n+1) (f+1) v hv.2 (by omega) (by omega) (by omega) hv.1 (by omega)]
             ·rw [show (be.kind != 1)=true from bne_iff_ne.2 hek,show(ae.kind != 1)=true from bne_iff_ne.2 (fun h=>hek (y.1 h))];rfl
         ·rw [show (t.kind != 3)=true from bne_iff_ne.2 hk3];rfl
def yM(a1:gG→Option Bool):List gG→Nat→Option (Int)
 | [],c=>(some (-1))
 | f::xs,c=>bnd (a1 f) fun h=>
(cnd h (some (c:Int)) (
yM a1 xs (c+1)))
def gIv(c:List gG)(a1:gG→Option Bool):Option (Int):=
yM a1 c 0
theorem gYy(y:List gG){a1f:Nat}{a1c:List SV}{a1:gG→Option Bool}(a1_lt:∀n,SV.lts n a1c=true)(ha1:∀(x0:gG)(r:Bool),a1 x0=some r→gY Tryz.prog a1f ([.d (gIo x0)]++a1c) [.b r]){r:Int}(h:gIv y a1=some r):gY Tryz.prog 91 [.L 4 (gP y),.fn a1f a1c] [.i .i64 r]:=by
 unfold gIv at h;refine SpI Tryz.func91 fun A _=>?_;refine goL ?_;refine noB ?_;refine gB0 0 (fun z2=>?_);refine mV (fun(f:Nat)=>⟨[(0,.L 4 (gP y)),(1,.fn a1f a1c),(7,.I (y.length:Int)),(8,.N f)],[],Tryz.f91.ntmps⟩) (fun f=>yM a1 (y.drop f) f=some r) (fun f=>y.length - f) 0 ⟨rfl,⟨⟨rfl,rfl⟩,⟨rfl,a1_lt _⟩,⟨rfl,rfl⟩,⟨rfl,rfl⟩,trivial⟩,⟨[],rfl⟩,rfl⟩ h ?_;rintro f h;refine goL ?_;refine jY (kX (fun c3=>?_) (fun c3=>?_))
 ·have c:=uR c3;obtain⟨x4,ag,aa⟩:=drop_at c;rw [aa,yM.eq_2] at h;obtain⟨ak,⟨ab,ac,ad⟩⟩:=x4;refine noS ?_;refine jY (jA ?_);refine goL ?_;refine jI (jJ f (gMi ag)) ?_;obtain⟨x5,ah,h⟩:=gM h;refine jI (gOm (ha1 _ _ ah) (a1_lt 0)) ?_;refine kX (fun c6=>?_) (fun c6=>?_)
  ·replace h:=kD c6 h;exact goR h
  ·replace h:=kE c6 h;refine goS ?_;refine jI (jW f (by omega)) ?_;exact⟨(f+1),h,by omega,⟨rfl,⟨⟨rfl,rfl⟩,⟨rfl,a1_lt _⟩,⟨rfl,rfl⟩,⟨rfl,rfl⟩,trivial⟩,⟨_,rfl⟩,rfl⟩⟩
 ·have c:=uS c3;rw [jC c,yM.eq_1] at h;refine goX ?_;refine jG ?_;cases h;exact qD
def gAq(c:List gG)(a1:gG→Option Bool):Option (Bool):=
bnd (gIv c a1) fun f=>
(some (decide (f≥0)))
theorem gLt(c:List gG){a1f:Nat}{a1c:List SV}{a1:gG→Option Bool}(a1_lt:∀n,SV.lts n a1c=true)(ha1:∀(y:gG)(r:Bool),a1 y=some r→gY Tryz.prog a1f ([.d (gIo y)]++a1c) [.b r]){r:Bool}(h:gAq c a1=some r):gY Tryz.prog 67 [.L 4 (gP c),.fn a1f a1c] [.b r]:=by
 unfold gAq at h;refine SpI Tryz.func67 fun A _=>?_;refine goL ?_;obtain⟨x1,f,h⟩:=gM h;refine qK (gF (gYy c (a1:=a1) a1_lt ha1 f)) ?_;exact goR h
def gIw(c:gG)(a1:LB):Bool:=
(c.var_==a1)
theorem hDu(c:gG)(a1:LB):gY Tryz.prog 68 [.d (gIo c),.dp (.s a1)] [.b (gIw c a1)]:=by
 obtain⟨r,h⟩:∃r,gIw c a1=r:=⟨_,rfl⟩
 rw [h];obtain⟨ab,⟨f,y,aa⟩⟩:=c;unfold gIw at h;refine SpI Tryz.func68 fun A _=>?_;refine goL ?_;refine jG ?_;subst h;exact qD
def gTb(next:Int)(count:Int)(node:Int)(bs:List gG)(es:List jN)(os:List jP)(code:Int)(att:Int)(v:LB):Option (Bool):=
bnd (wP v) fun c=>
bnd (cnd c (bnd (gAq bs (fun f=>some (gIw f v))) fun h=>
(some h)) (some false)) fun y=>
(some y)
theorem hT9(next:Int)(count:Int)(node:Int)(bs:List gG)(es:List jN)(os:List jP)(code:Int)(att:Int)(v:LB)(c:Nat)(f:Nat)(y:Nat){r:Bool}(h:gTb next count node bs es os code att v=some r):Go.Eng.Spec Tryz.prog 65 [.S v,.ptr 0 0] [.box [.ptr 1 0],.box [.I next,.I count,.I node,.sl 2 c,.sl 3 f,.sl 4 y,.I code,.I att],.arr 101 4 c (gP bs),.arr 79 7 f (jM es),.arr 81 5 y (jD os)] (fun sv Lo=>sv=.B r∧Lo=[.box [.ptr 1 0],.box [.I next,.I count,.I node,.sl 2 c,.sl 3 f,.sl 4 y,.I code,.I att],.arr 101 4 c (gP bs),.arr 79 7 f (jM es),.arr 81 5 y (jD os)]):=by
 unfold gTb at h;refine kF 5 Tryz.func65 rfl (by kernel_rfl) rfl rfl fun A _=>?_;refine goL ?_;obtain⟨x1,aa,h⟩:=gM h;refine jI (gF (gG4 _ aa)) ?_;obtain⟨b2,hb2,h⟩:=gM h;refine jT ⟨[(3,.B b2)],[.box [.ptr 1 0],.box [.I next,.I count,.I node,.sl 2 c,.sl 3 f,.sl 4 y,.I code,.I att],.arr 101 4 c (gP bs),.arr 79 7 f (jM es),.arr 81 5 y (jD os),.box [.S v]],Tryz.f65.ntmps⟩ ?_ ?_
 ·refine gqA 6 hb2 (fun c3 hb2=>?_);refine qK (gV8) ?_;refine gQq ?_;obtain⟨x4,ab,hb2⟩:=gM hb2;refine gBn (hWe (gLt bs (a1:=(fun z0=>some (gIw z0 v))) (fun _=>rfl) (fun z0 r hr=>by cases hr;exact hDu z0 v) ab)) ?_;cases hb2;exact eJ
 refine goL ?_;refine jG ?_;obtain rfl:=Option.some.inj h;exact yK [.B b2] _ ⟨rfl,rfl⟩
def zK(next:Int)(count:Int)(node:Int)(bs:List gG)(es:List jN)(os:List jP)(code:Int)(att:Int):LS→Nat→Option (Int)
 | [],c=>(some (-1))
 | f::xs,c=>bnd (gTb next count node bs es os code att f) fun h=>
(cnd h (some (c:Int)) (
zK next count node bs es os code att xs (c+1)))
def gLu(next:Int)(count:Int)(node:Int)(bs:List gG)(es:List jN)(os:List jP)(code:Int)(att:Int)(l:LS):Option (Int):=
zK next count node bs es os code att l 0
theorem hLg(next:Int)(count:Int)(node:Int)(bs:List gG)(es:List jN)(os:List jP)(code:Int)(att:Int)(l:LS)(y:Nat)(v3:Nat)(v4:Nat){r:Int}(h:gLu next count node bs es os code att l=some r):Go.Eng.Spec Tryz.prog 88 [.L 1 (jL l),.fn 65 [.ptr 0 0]] [.box [.ptr 1 0],.box [.I next,.I count,.I node,.sl 2 y,.sl 3 v3,.sl 4 v4,.I code,.I att],.arr 101 4 y (gP bs),.arr 79 7 v3 (jM es),.arr 81 5 v4 (jD os)] (fun sv Lo=>sv=.I r∧Lo=[.box [.ptr 1 0],.box [.I next,.I count,.I node,.sl 2 y,.sl 3 v3,.sl 4 v4,.I code,.I att],.arr 101 4 y (gP bs),.arr 79 7 v3 (jM es),.arr 81 5 v4 (jD os)]):=by
 unfold gLu at h;refine kF 5 Tryz.func88 rfl (by kernel_rfl) rfl rfl fun A _=>?_;refine goL ?_;refine noB ?_;refine gB0 0 (fun z2=>?_);refine mV (fun(f:Nat)=>⟨[(0,.L 1 (jL l)),(1,.fn 65 [.ptr 0 0]),(7,.I (l.length:Int)),(8,.N f)],[.box [.ptr 1 0],.box [.I next,.I count,.I node,.sl 2 y,.sl 3 v3,.sl 4 v4,.I code,.I att],.arr 101 4 y (gP bs),.arr 79 7 v3 (jM es),.arr 81 5 v4 (jD os)],Tryz.f88.ntmps⟩) (fun f=>zK next count node bs es os code att (l.drop f) f=some r) (fun f=>l.length - f) 0 eJ h ?_;rintro f h;refine goL ?_;refine jY (kX (fun c3=>?_) (fun c3=>?_))
 ·have c:=uR c3;obtain⟨x4,ae,ac⟩:=drop_at c;rw [ac,zK.eq_2] at h;refine noS ?_;refine jY (jA ?_);refine goL ?_;refine jI (jJ f (gQr ae)) ?_;obtain⟨x5,ag,h⟩:=gM h;refine yJ [0,1,2,3,4] (hT9 next count node bs es os code att x4 y v3 v4 ag) ?_;rintro _ _ ⟨rfl,rfl⟩;show VO _ _ _ _ ⟨(_,.B x5)::_,[.box [.ptr 1 0],.box [.I next,.I count,.I node,.sl 2 y,.sl 3 v3,.sl 4 v4,.I code,.I att],.arr 101 4 y (gP bs),.arr 79 7 v3 (jM es),.arr 81 5 v4 (jD os)],_⟩ _;refine goC h ?_ ?_<;>intro c6 h
  ·refine goL ?_;refine jG ?_;obtain rfl:=Option.some.inj h;exact yK [.N f] _ ⟨rfl,rfl⟩
  ·refine goS ?_;refine jI (jW f (by omega)) ?_;exact⟨(f+1),h,by omega,eJ⟩
 ·have c:=uS c3;rw [jC c,zK.eq_1] at h;refine goX ?_;refine jG ?_;obtain rfl:=Option.some.inj h;exact yK [.I (-1)] _ ⟨rfl,rfl⟩
def gCf(next:Int)(count:Int)(node:Int)(bs:List gG)(es:List jN)(os:List jP)(code:Int)(att:Int)(l:LS):Option (Bool):=
bnd (gLu next count node bs es os code att l) fun c=>
(some (decide (c≥0)))
theorem gYz(next:Int)(count:Int)(node:Int)(bs:List gG)(es:List jN)(os:List jP)(code:Int)(att:Int)(l:LS)(c:Nat)(f:Nat)(y:Nat){r:Bool}(h:gCf next count node bs es os code att l=some r):Go.Eng.Spec Tryz.prog 63 [.L 1 (jL l),.fn 65 [.ptr 0 0]] [.box [.ptr 1 0],.box [.I next,.I count,.I node,.sl 2 c,.sl 3 f,.sl 4 y,.I code,.I att],.arr 101 4 c (gP bs),.arr 79 7 f (jM es),.arr 81 5 y (jD os)] (fun sv Lo=>sv=.B r∧Lo=[.box [.ptr 1 0],.box [.I next,.I count,.I node,.sl 2 c,.sl 3 f,.sl 4 y,.I code,.I att],.arr 101 4 c (gP bs),.arr 79 7 f (jM es),.arr 81 5 y (jD os)]):=by
 unfold gCf at h;refine kF 5 Tryz.func63 rfl (by kernel_rfl) rfl rfl fun A _=>?_;refine goL ?_;obtain⟨x1,aa,h⟩:=gM h;refine yJ [0,1,2,3,4] (hLg next count node bs es os code att l c f y aa) ?_;rintro _ _ ⟨rfl,rfl⟩;show VO _ _ _ _ ⟨(_,.I x1)::_,[.box [.ptr 1 0],.box [.I next,.I count,.I node,.sl 2 c,.sl 3 f,.sl 4 y,.I code,.I att],.arr 101 4 c (gP bs),.arr 79 7 f (jM es),.arr 81 5 y (jD os)],_⟩ _;refine goL ?_;refine jG ?_;obtain rfl:=Option.some.inj h;exact yK [.d (.b (decide (x1≥0)))] _ ⟨rfl,rfl⟩
def gBo(next:Int)(count:Int)(node:Int)(bs:List gG)(es:List jN)(os:List jP)(code:Int)(att:Int):Nat→Int→LB→(List gB)→Option (gB)
 | 0,c,f,h=>(some (gB.mk c f h))
 | m9+1,c,f,h=>bnd (yS (gB.mk c f h)) fun aa=>
bnd (gCf next count node bs es os code att aa) fun ab=>
lt_ (cnd (!ab) (true) (decide ((tsz (gB.mk c f h))≥4000))) fun ac=>
(cnd ac (some (gB.mk c f h)) (
gd (bok bs∧tok (gB.mk c f h)) (lt_ (apT bs (gB.mk c f h)) fun y=>
gBo next count node bs es os code att m9 y.kind y.name y.args)))
def gNq(next:Int)(count:Int)(node:Int)(bs:List gG)(es:List jN)(os:List jP)(code:Int)(att:Int)(t:gB):Option (gB):=
gd (tok t) (lt_ (idT t) fun c=>
gBo next count node bs es os code att 60 c.kind c.name c.args)
theorem gC2(next:Int)(count:Int)(node:Int)(bs:List gG)(es:List jN)(os:List jP)(code:Int)(att:Int)(t:gB)(f:Nat)(y:Nat)(v3:Nat){r:gB}(h:gNq next count node bs es os code att t=some r):Go.Eng.Spec Tryz.prog 28 [.ptr 0 0,.d (jS t)] [.box [.I next,.I count,.I node,.sl 1 f,.sl 2 y,.sl 3 v3,.I code,.I att],.arr 101 4 f (gP bs),.arr 79 7 y (jM es),.arr 81 5 v3 (jD os)] (fun sv Lo=>sv=.d (jS r)∧Lo=[.box [.I next,.I count,.I node,.sl 1 f,.sl 2 y,.sl 3 v3,.I code,.I att],.arr 101 4 f (gP bs),.arr 79 7 y (jM es),.arr 81 5 v3 (jD os)]):=by
 obtain⟨ae,ag,ah⟩:=t;unfold gNq at h;refine kF 4 Tryz.func28 rfl (by kernel_rfl) rfl rfl fun A _=>?_;refine goL ?_;obtain⟨g1,h⟩:=mY h;obtain⟨⟨ao,ap,aq⟩,aw,h⟩:=qA h;have sx2:=zS (gB.mk ae ag ah) g1;rw [aw] at sx2;refine gE3 (sx2) ?_;refine goL ?_;refine noB ?_;refine hDc (fun(c:Nat)(y3:Int)(y4:LB)(y5:List gB)(v6:Nat)=>⟨[(2,.ptr 4 0),(4,.ptr 6 0),(5,.ptr 8 0),(9,.N c)],[.box [.I next,.I count,.I node,.sl 1 f,.sl 2 y,.sl 3 v3,.I code,.I att],.arr 101 4 f (gP bs),.arr 79 7 y (jM es),.arr 81 5 v3 (jD os),.box [.ptr 0 0],bTy ae ag ah,.box [.I 0,.S [],.nilsl],.own 35 3 v6 (jH y5),.box [.I y3,.S y4,.sl 7 v6]],Tryz.f28.ntmps⟩) (fun c y3 y4 y5 v6=>c≤60∧gBo next count node bs es os code att (60 - c) y3 y4 y5=some r) (fun c y3 y4 y5 v6=>60 - c) 0 ao ap aq 0 eJ ⟨by simp,h⟩ ?_;rintro c y3 y4 y5 v6 ⟨a4,h⟩;refine goL ?_;refine jY (kX (fun c8=>?_) (fun c8=>?_))
 ·have aj:c < 60:=by have:=of_decide_eq_true c8;omega
  obtain⟨m9,hm9⟩:∃m,60 - c=m+1:=⟨60 - c - 1,by omega⟩
  rw [hm9,gBo.eq_2] at h;refine noS ?_;refine jY (jA ?_);refine goL ?_;obtain⟨ak,ar,h⟩:=gM h;refine gE3 (gIc (gB.mk y3 y4 y5) ar) ?_;refine qK (gV8) ?_;refine gJp 9 rfl rfl ?_;obtain⟨ay,au,h⟩:=gM h;refine yJ [4,0,1,2,3] (gYz next count node bs es os code att ak f y v3 au) ?_;rintro _ _ ⟨rfl,rfl⟩;show VO _ _ _ _ ⟨(_,.B ay)::_,[.box [.I next,.I count,.I node,.sl 1 f,.sl 2 y,.sl 3 v3,.I code,.I att],.arr 101 4 f (gP bs),.arr 79 7 y (jM es),.arr 81 5 v3 (jD os),.box [.ptr 0 0],bTy ae ag ah,.box [.I 0,.S [],.nilsl],.own 35 3 v6 (jH y5),.box [.I y3,.S y4,.sl 7 v6],.frz 9 1 0 (jL ak)],_⟩ _;refine goL ?_;obtain⟨a0,hb12,h⟩:=qA h;refine jT ⟨[(2,.ptr 4 0),(4,.ptr 6 0),(5,.ptr 8 0),(9,.N c),(21,.B a0)],[.box [.I next,.I count,.I node,.sl 1 f,.sl 2 y,.sl 3 v3,.I code,.I att],.arr 101 4 f (gP bs),.arr 79 7 y (jM es),.arr 81 5 v3 (jD os),.box [.ptr 0 0],bTy ae ag ah,.box [.I 0,.S [],.nilsl],.own 35 3 v6 (jH y5),.box [.I y3,.S y4,.sl 7 v6],.frz 9 1 0 (jL ak)],Tryz.f28.ntmps⟩ ?_ ?_
  ·refine gqO 17 hb12 (fun a7 hb12=>?_);refine gBn (gV9 (gH8 (gB.mk y3 y4 y5))) ?_;cases hb12;exact eJ
  refine goC h ?_ ?_<;>intro a8 h
  ·refine goX ?_;refine qU 7 rfl rfl ?_;refine jG ?_;obtain rfl:=Option.some.inj h;exact hGd [.d (.st [.i .i64 y3,.s y4,.sl 3 (jH y5)])] [.box [.I next,.I count,.I node,.sl 1 f,.sl 2 y,.sl 3 v3,.I code,.I att],.arr 101 4 f (gP bs),.arr 79 7 y (jM es),.arr 81 5 v3 (jD os)] ⟨rfl,rfl⟩
  ·refine noS ?_;refine uM (P:=Tryz.prog) Mix.h [(0,true),(1,true),(2,true),(3,true),(4,true),(5,false),(6,false)] (by kernel_rfl) ?_;refine goY ?_;obtain⟨a3,h⟩:=mY h;obtain⟨⟨al,am,an⟩,av,h⟩:=qA h;have sx16:=gO3 bs (gB.mk y3 y4 y5) a3;rw [av] at sx16;refine gMy (sx16) ?_;refine goY ?_;refine kQ ?_;refine goL ?_;refine jI (jW c (by omega)) ?_;rw [show m9=60 - (c+1) by omega] at h;exact⟨(c+1),al,am,an,0,⟨by omega,h⟩,by omega,qX 4 [0,1,2,3,4,5,6,10,8]⟩
 ·have aj:60≤c:=by have:=of_decide_eq_false c8;omega
  rw [show 60 - c=0 by omega,gBo.eq_1] at h;refine goX ?_;refine qU 7 rfl rfl ?_;refine jG ?_;obtain rfl:=Option.some.inj h;exact hGd [.d (.st [.i .i64 y3,.s y4,.sl 3 (jH y5)])] [.box [.I next,.I count,.I node,.sl 1 f,.sl 2 y,.sl 3 v3,.I code,.I att],.arr 101 4 f (gP bs),.arr 79 7 y (jM es),.arr 81 5 v3 (jD os)] ⟨rfl,rfl⟩
def gI9(next:Int)(count:Int)(node:Int)(bs:List gG)(es:List jN)(os:List jP)(code:Int)(att:Int)(e:Int):Int × Int:=
(cnd (code==0) (e,node) (code,att))
theorem gWn(next:Int)(count:Int)(node:Int)(bs:List gG)(es:List jN)(os:List jP)(code:Int)(att:Int)(e:Int)(c:Nat)(f:Nat)(y:Nat):Go.Eng.Spec Tryz.prog 47 [.ptr 0 0,.I e] [.box [.I next,.I count,.I node,.sl 1 c,.sl 2 f,.sl 3 y,.I code,.I att],.arr 101 4 c (gP bs),.arr 79 7 f (jM es),.arr 81 5 y (jD os)] (fun sv Lo=>sv=.tup []∧Lo=[.box [.I next,.I count,.I node,.sl 1 c,.sl 2 f,.sl 3 y,.d (.i .i64 (gI9 next count node bs es os code att e).1),.d (.i .i64 (gI9 next count node bs es os code att e).2)],.arr 101 4 c (gP bs),.arr 79 7 f (jM es),.arr 81 5 y (jD os)]):=by
 obtain⟨r,h⟩:∃r,gI9 next count node bs es os code att e=r:=⟨_,rfl⟩
 rw [h];unfold gI9 at h;refine kF 4 Tryz.func47 rfl (by kernel_rfl) rfl rfl fun A _=>?_;refine goC h ?_ ?_<;>intro c1 h
 ·refine goL ?_;subst h;exact hJ8 [] _ ⟨rfl,rfl⟩
 ·refine gAn ?_;show mG _ _ _ _ _ _;subst h;exact hJ8 [] _ ⟨rfl,rfl⟩
def hDv(v:LB)(n:Int)(u:gB):Int:=
lt_ (cnd (u.kind==1) (u.name==v) (false)) fun c=>
(cnd c (IntKind.i64.wrap (n+1)) (
n))
theorem hW8(v:LB)(n:Int)(u:gB):Go.Eng.Spec Tryz.prog 116 [.d (jS u),.ptr 0 0,.ptr 1 0] [.box [.S v],.box [.I n]] (fun sv Lo=>sv=.tup []∧Lo=[.box [.S v],.box [.I (hDv v n u)]]):=by
 obtain⟨r,h⟩:∃r,hDv v n u=r:=⟨_,rfl⟩
 rw [h];obtain⟨c,f,y⟩:=u;unfold hDv at h;refine kF 2 Tryz.func116 rfl (by kernel_rfl) rfl rfl fun A _=>?_;refine goL ?_;obtain⟨b1,hb1,h⟩:=qA h;refine jT ⟨[(2,.ptr 1 0),(12,.B b1)],[.box [.S v],.box [.I n],bTy c f y],Tryz.f116.ntmps⟩ ?_ ?_
 ·exact gqZ 7 hb1
 refine goC h ?_ ?_<;>intro c3 h
 ·refine goL ?_;refine jI (pU) ?_;subst h;exact hJ8 [] _ ⟨rfl,rfl⟩
 ·refine gAn ?_;show mG _ _ _ _ _ _;subst h;exact hJ8 [] _ ⟨rfl,rfl⟩
def gDo(c:LB→Int→gB→Option (Int))(v:LB):List gB→Int→Option (Int)
 | [],f=>(some f)
 | h::xs,f=>bnd (c v f h) fun y=>
gDo c v xs y
def gRb(c:LB→Int→gB→Option (Int))(v:LB)(n:Int)(u:gB):Option (Int):=
lt_ (hDv v n u) fun f=>
gDo c v u.args f
theorem hO0{c:LB→Int→gB→Option (Int)}(f:∀(x0:LB)(x1:Int)(x2:gB){r:Int},c x0 x1 x2=some r→Go.Eng.Spec Tryz.prog 106 [.d (jS x2),.fn 116 [.ptr 0 0,.ptr 1 0]] [.box [.S x0],.box [.I x1]] (fun sv Lo=>sv=.tup []∧Lo=[.box [.S x0],.box [.I r]]))(v:LB)(n:Int)(u:gB){r:Int}(h:gRb c v n u=some r):Go.Eng.Spec Tryz.prog 106 [.d (jS u),.fn 116 [.ptr 0 0,.ptr 1 0]] [.box [.S v],.box [.I n]] (fun sv Lo=>sv=.tup []∧Lo=[.box [.S v],.box [.I r]]):=by
 obtain⟨ab,ac,y⟩:=u;unfold gRb at h;refine kF 2 Tryz.func106 rfl (by kernel_rfl) rfl rfl fun A _=>?_;refine goL ?_;obtain⟨x1,am,h⟩:=qA h;have sx1:=hW8 v n (gB.mk ab ac y);rw [am] at sx1;refine yJ [0,1] (sx1) ?_;rintro _ _ ⟨rfl,rfl⟩;show VO _ _ _ _ ⟨(_,.tup [])::_,[.box [.S v],.box [.I x1],bTy ab ac y],_⟩ _;refine goL ?_;refine noB ?_;refine gB0 10 (fun z4=>?_);refine gEe (fun(y3:Nat)(y2:Int)=>⟨[(1,.fn 116 [.ptr 0 0,.ptr 1 0]),(10,.L 3 (jH y)),(11,.I (y.length:Int)),(12,.N y3)],[.box [.S v],.box [.I y2],bTy ab ac y],Tryz.f106.ntmps⟩) (fun y3 y2=>gDo c v (y.drop y3) y2=some r) (fun y3 y2=>y.length - y3) 0 x1 eJ h ?_;rintro y3 y2 h;refine goL ?_;refine jY (kX (fun c5=>?_) (fun c5=>?_))
 ·have aa:=uR c5;obtain⟨x6,ao,ak⟩:=drop_at aa;rw [ak,gDo.eq_2] at h;obtain⟨ae,ag,ah⟩:=x6;refine noS ?_;refine jY (jA ?_);refine goL ?_;refine jI (jJ y3 (zJ ao)) ?_;obtain⟨x7,ap,h⟩:=gM h;refine yJ [0,1] (f v y2 (gB.mk ae ag ah) ap) ?_;rintro _ _ ⟨rfl,rfl⟩;show VO _ _ _ _ ⟨(_,.tup [])::_,[.box [.S v],.box [.I x7],bTy ab ac y,bTy ae ag ah],_⟩ _;refine goL ?_;refine jI (jW y3 (by omega)) ?_;exact⟨(y3+1),x7,h,by omega,eJ⟩
 ·have aa:=uS c5;rw [jC aa,gDo.eq_1] at h;refine gSy ?_;show mG _ _ _ _ _ _;obtain rfl:=Option.some.inj h;exact hJ8 [] _ ⟨rfl,rfl⟩
def gRc:Nat→LB→Int→gB→Option (Int)
 | 0,_,_,_=>none
 | n+1,c,f,h=>gRb (gRc n) c f h
theorem hO1:∀(n:Nat)(c:LB)(f:Int)(y:gB){r:Int},gRc n c f y=some r→Go.Eng.Spec Tryz.prog 106 [.d (jS y),.fn 116 [.ptr 0 0,.ptr 1 0]] [.box [.S c],.box [.I f]] (fun sv Lo=>sv=.tup []∧Lo=[.box [.S c],.box [.I r]]):=by
 intro n
 induction n with
 | zero=>intro c f y r h;cases h
 | succ n ih=>intro c f y r h;exact hO0 ih c f y h
mutual
def ctc(v:LB)(n:Int):gB→Int
 | ⟨k,s,ts⟩=>hUa v (cnd (cnd (k==1) (s==v) false) (IntKind.i64.wrap (n+1)) n) ts
def hUa(v:LB)(n:Int):List gB→Int
 | []=>n
 | a::ts=>hUa v (ctc v n a) ts
end
theorem gQi{rec:LB→Int→gB→Option Int}(v:LB):∀(xs:List gB)(y:Int),(∀x∈xs,∀n,rec v n x=some (ctc v n x))→gDo rec v xs y=some (hUa v y xs)
 | [],y,_=>rfl
 | x::xs,y,h=>by
   simp only [gDo,h x (by simp),bnd,hUa];exact gQi v xs _ (fun z hz=>h z (by simp [hz]))
theorem gY0(v:LB):∀(m:Nat)(n:Int)(t:gB),tnd t≤m→gRc m v n t=some (ctc v n t)
 | 0,n,t,h=>by have:=gBs t;omega
 | m+1,n,⟨k,s,ts⟩,h=>by
   simp only [tnd] at h;simp only [gRc,gRb,lt_,ctc];rw [gQi v ts _ (fun x hx n=>gY0 v m n x (by have:=yU hx;omega))];rfl
theorem hO5(c:LB)(h:Int)(f:gB):Go.Eng.Spec Tryz.prog 106 [.d (jS f),.fn 116 [.ptr 0 0,.ptr 1 0]] [.box [.S c],.box [.I h]] (fun sv Lo=>sv=.tup []∧Lo=[.box [.S c],.box [.I (ctc c h f)]]):=hO1 (tnd f) c h f (gY0 _ _ _ _ (Nat.le_refl _))
def gOq(c:gB)(a1:LB):Int:=
lt_ (ctc a1 0 c) fun f=>
f
theorem hO6(a0:gB)(a1:LB):gY Tryz.prog 96 [.d (jS a0),.S a1] [.i .i64 (gOq a0 a1)]:=by
 obtain⟨r,h⟩:∃r,gOq a0 a1=r:=⟨_,rfl⟩
 rw [h];obtain⟨c,f,y⟩:=a0;unfold gOq at h;refine SpI Tryz.func96 fun A _=>?_;refine goL ?_;refine qK (gV8) ?_;obtain⟨x1,ab,h⟩:=qA h;have sx1:=hO5 a1 0 (gB.mk c f y);rw [ab] at sx1;refine yJ [1,2] (sx1) ?_;rintro _ _ ⟨rfl,rfl⟩;show VO _ _ _ _ ⟨(_,.tup [])::_,[bTy c f y,.box [.S a1],.box [.I x1]],_⟩ _;refine goL ?_;refine jG ?_;subst h;exact qD
def gJr(c:LB)(a1:gB):Bool:=
(decide ((gOq a1 c) > 0))
theorem hLh(a0:LB)(a1:gB):gY Tryz.prog 79 [.S a0,.d (jS a1)] [.b (gJr a0 a1)]:=by
 obtain⟨r,h⟩:∃r,gJr a0 a1=r:=⟨_,rfl⟩
 rw [h];obtain⟨c,f,y⟩:=a1;unfold gJr at h;refine SpI Tryz.func79 fun A _=>?_;refine goL ?_;refine jI (gF (hO6 (gB.mk c f y) a0)) ?_;refine jG ?_;subst h;exact qD
def gP1(next:Int)(count:Int)(node:Int)(c:List gG)(es:List jN)(os:List jP)(code:Int)(att:Int)(v:gB)(t:gB):Option (Int × Int × List gG):=
(cnd (gJr v.name t) (
lt_ (gI9 next count node c es os code att 2) fun f=>
(some (f.1,f.2,c))) (
gd (c.length+[(gG.mk v.name t)].length≤4294967296) (some (code,att,(c++[(gG.mk v.name t)])))))
theorem hLl(next:Int)(count:Int)(node:Int)(l1:List gG)(es:List jN)(os:List jP)(code:Int)(att:Int)(v:gB)(t:gB)(c:Nat)(f:Nat)(y:Nat){r:Int × Int × List gG}(h:gP1 next count node l1 es os code att v t=some r):Go.Eng.Spec Tryz.prog 49 [.ptr 0 0,.d (jS v),.d (jS t)] [.box [.I next,.I count,.I node,.sl 1 c,.sl 2 f,.sl 3 y,.I code,.I att],.arr 101 4 c (gP l1),.arr 79 7 f (jM es),.arr 81 5 y (jD os)] (fun sv Lo=>∃v'1,sv=.tup []∧Lo=[.box [.I next,.I count,.I node,.sl 1 v'1,.sl 2 f,.sl 3 y,.I r.1,.I r.2.1],.arr 101 4 v'1 (gP r.2.2),.arr 79 7 f (jM es),.arr 81 5 y (jD os)]):=by
 obtain⟨ai,aa,aj⟩:=v;obtain⟨ab,ac,ad⟩:=t;unfold gP1 at h;refine kF 4 Tryz.func49 rfl (by kernel_rfl) rfl rfl fun A _=>?_;refine goL ?_;refine jI (gF (hLh aa (gB.mk ab ac ad))) ?_;refine kX (fun c1=>?_) (fun c1=>?_)
 ·replace h:=kD c1 h;refine goL ?_;obtain⟨⟨ae,ag⟩,al,h⟩:=qA h;have sx2:=gWn next count node l1 es os code att 2 c f y
  rw [al] at sx2;refine yJ [0,1,2,3] (sx2) ?_;rintro _ _ ⟨rfl,rfl⟩;show VO _ _ _ _ ⟨(_,.tup [])::_,[.box [.I next,.I count,.I node,.sl 1 c,.sl 2 f,.sl 3 y,.I ae,.I ag],.arr 101 4 c (gP l1),.arr 79 7 f (jM es),.arr 81 5 y (jD os),bTy ai aa aj,bTy ab ac ad],_⟩ _;refine goL ?_;refine jG ?_;obtain rfl:=Option.some.inj h;exact yK [] _ ⟨c,rfl,rfl⟩
 ·replace h:=kE c1 h;refine noS ?_;refine uM (P:=Tryz.prog) Mix.h [(0,true),(1,true),(2,true),(3,true),(4,true),(5,true),(6,true),(7,true),(8,true),(9,false),(10,false),(11,true),(12,true),(13,false)] (by kernel_rfl) ?_;refine goY ?_;refine qE (T:=28) (us:=gP [(gG.mk aa (gB.mk ab ac ad))]) ?_;obtain⟨g3,h⟩:=mY h;refine pW (T:=28) g3 ?_;refine goY ?_;refine kQ ?_;refine goL ?_;obtain rfl:=Option.some.inj h;exact hJ8 [] _ ⟨(c+1),rfl,rfl⟩
def gG9(next:Int)(count:Int)(node:Int)(bs:List gG)(es:List jN)(os:List jP)(code:Int)(att:Int)(q:kV)(t:gB):Option (gB × Bool × Int × Int):=
bnd (cnd (t.kind != 3) (some true) (bnd (gUu t) fun h=>
(some h))) fun y=>
(cnd y (some ((gB.mk 0 [] []),false,code,att)) (
bnd (qV 100000 q t 0) fun c=>
(cnd (c.2 != 0) (
lt_ (gI9 next count node bs es os code att 7) fun f=>
(some ((gB.mk 0 [] []),false,f.1,f.2))) (some (c.1,(!(teq c.1 t)),code,att)))))
theorem gUx(next:Int)(count:Int)(node:Int)(bs:List gG)(es:List jN)(os:List jP)(code:Int)(att:Int)(q:kV)(t:gB)(v1:Nat)(v2:Nat)(v3:Nat){r:gB × Bool × Int × Int}(h:gG9 next count node bs es os code att q t=some r):Go.Eng.Spec Tryz.prog 50 [.ptr 0 0,.ptr 4 0,.d (jS t)] [.box [.I next,.I count,.I node,.sl 1 v1,.sl 2 v2,.sl 3 v3,.I code,.I att],.arr 101 4 v1 (gP bs),.arr 79 7 v2 (jM es),.arr 81 5 v3 (jD os),.box [.L 6 (jQ q.w.packages),.L 6 (gV q.assumed)]] (fun sv Lo=>sv=.tup [.d (jS r.1),.B r.2.1]∧Lo=[.box [.I next,.I count,.I node,.sl 1 v1,.sl 2 v2,.sl 3 v3,.I r.2.2.1,.I r.2.2.2],.arr 101 4 v1 (gP bs),.arr 79 7 v2 (jM es),.arr 81 5 v3 (jD os),.box [.L 6 (jQ q.w.packages),.L 6 (gV q.assumed)]]):=by
 obtain⟨⟨aa⟩,ai⟩:=q;obtain⟨ab,ac,ad⟩:=t;unfold gG9 at h;refine kF 5 Tryz.func50 rfl (by kernel_rfl) rfl rfl fun A _=>?_;refine goL ?_;obtain⟨b1,hb1,h⟩:=gM h;refine jT ⟨[(0,.ptr 0 0),(1,.ptr 4 0),(5,.ptr 5 0),(6,.ptr 6 0),(16,.B b1)],[.box [.I next,.I count,.I node,.sl 1 v1,.sl 2 v2,.sl 3 v3,.I code,.I att],.arr 101 4 v1 (gP bs),.arr 79 7 v2 (jM es),.arr 81 5 v3 (jD os),.box [.L 6 (jQ aa),.L 6 (gV ai)],bTy ab ac ad,.box [.I 0,.S [],.nilsl]],Tryz.f50.ntmps⟩ ?_ ?_
 ·refine gqO 13 hb1 (fun c2 hb1=>?_);obtain⟨x3,am,hb1⟩:=gM hb1;refine jI (gF (hQy _ am)) ?_;cases hb1;exact eJ
 refine goC h ?_ ?_<;>intro c4 h
 ·refine goL ?_;refine gBn (jX TBd.h TZ.h rfl (by repeat constructor)) ?_;refine jG ?_;obtain rfl:=Option.some.inj h;exact yK [.d (.st [.i .i64 0,.s [],.sl 3 []]),.B false] _ ⟨rfl,rfl⟩
 ·refine goS ?_;obtain⟨⟨⟨c,f,y⟩,aj⟩,an,h⟩:=gM h;refine yJ [4] (gNp 100000 (kV.mk (gK.mk aa) ai) (gB.mk ab ac ad) 0 an) ?_;rintro _ _ ⟨rfl,rfl⟩;show VO _ _ _ _ ⟨(_,.tup [.d (.st [.i .i64 c,.s f,.sl 3 (jH y)]),.I aj])::_,[.box [.I next,.I count,.I node,.sl 1 v1,.sl 2 v2,.sl 3 v3,.I code,.I att],.arr 101 4 v1 (gP bs),.arr 79 7 v2 (jM es),.arr 81 5 v3 (jD os),.box [.L 6 (jQ aa),.L 6 (gV ai)],bTy ab ac ad,.box [.I 0,.S [],.nilsl]],_⟩ _;refine goC h ?_ ?_<;>intro c6 h
  ·refine goL ?_;obtain⟨⟨ak,al⟩,ao,h⟩:=qA h;have sx7:=gWn next count node bs es os code att 7 v1 v2 v3
   rw [ao] at sx7;refine yJ [0,1,2,3] (sx7) ?_;rintro _ _ ⟨rfl,rfl⟩;show VO _ _ _ _ ⟨(_,.tup [])::_,[.box [.I next,.I count,.I node,.sl 1 v1,.sl 2 v2,.sl 3 v3,.I ak,.I al],.arr 101 4 v1 (gP bs),.arr 79 7 v2 (jM es),.arr 81 5 v3 (jD os),.box [.L 6 (jQ aa),.L 6 (gV ai)],bTy ab ac ad,.box [.I 0,.S [],.nilsl],bTy c f y],_⟩ _;refine goL ?_;refine gBn (jX TBd.h TZ.h rfl (by repeat constructor)) ?_;refine jG ?_;obtain rfl:=Option.some.inj h;exact yK [.d (.st [.i .i64 0,.s [],.sl 3 []]),.B false] _ ⟨rfl,rfl⟩
  ·refine noS ?_;refine qJ (P:=Tryz.prog) Mix.h (.q 0 (.q 1 (.q 2 (.q 3 (.q 4 (.h 5 (.q 6 .nil) .nil)))))) ⟨[(6,.ptr 6 0),(7,.d (.b (!(teq (gB.mk c f y) (gB.mk ab ac ad)))))],[.box [.I next,.I count,.I node,.sl 1 v1,.sl 2 v2,.sl 3 v3,.I code,.I att],.arr 101 4 v1 (gP bs),.arr 79 7 v2 (jM es),.arr 81 5 v3 (jD os),.box [.L 6 (jQ aa),.L 6 (gV ai)],bTy ab ac ad,bTy c f y,bTy c f y],Tryz.f50.ntmps⟩ (by kernel_rfl) ?_ ?_
   ·refine gS2 ?_;refine gAt (jF rfl (gF (gI5 (gB.mk c f y) (gB.mk ab ac ad))) jU) ?_;refine hFu rfl (hKm) ?_;refine gS2 ?_;refine jV ?_;exact qX 5 [0,1,2,3,4,5,6,7]
   refine goL ?_;refine jG ?_;obtain rfl:=Option.some.inj h;exact yK [.d (.st [.i .i64 c,.s f,.sl 3 (jH y)]),.d (.b (!(teq (gB.mk c f y) (gB.mk ab ac ad))))] _ ⟨rfl,rfl⟩
def gMm(c:gB):Option (Bool):=
bnd (cnd (c.kind==1) (bnd (wP c.name) fun f=>
(some f)) (some false)) fun h=>
(some h)
theorem hDw(a0:gB){r:Bool}(h:gMm a0=some r):gY Tryz.prog 48 [.d (jS a0)] [.b r]:=by
 obtain⟨c,f,y⟩:=a0;unfold gMm at h;refine SpI Tryz.func48 fun A _=>?_;refine goL ?_;obtain⟨b1,hb1,h⟩:=gM h;refine jT ⟨[(2,.B b1)],[bTy c f y],Tryz.f48.ntmps⟩ ?_ ?_
 ·refine gqA 6 hb1 (fun c2 hb1=>?_);obtain⟨x3,ab,hb1⟩:=gM hb1;refine jI (gF (gG4 _ ab)) ?_;cases hb1;exact eJ
 exact goR h
def gTh(c:gB):Option (Bool):=
bnd (cnd (c.kind==3) (bnd (gUu c) fun f=>
(some f)) (some false)) fun h=>
(some h)
theorem hQz(a0:gB){r:Bool}(h:gTh a0=some r):gY Tryz.prog 51 [.d (jS a0)] [.b r]:=by
 obtain⟨c,f,y⟩:=a0;unfold gTh at h;refine SpI Tryz.func51 fun A _=>?_;refine goL ?_;obtain⟨b1,hb1,h⟩:=gM h;refine jT ⟨[(2,.B b1)],[bTy c f y],Tryz.f51.ntmps⟩ ?_ ?_
 ·refine gqA 6 hb1 (fun c2 hb1=>?_);obtain⟨x3,ab,hb1⟩:=gM hb1;refine jI (gF (hQy _ ab)) ?_;cases hb1;exact eJ
 exact goR h
def gDp(c:Int→Int→Int→(List gG)→(List jN)→(List jP)→Int→Int→kV→gB→gB→Int→Option (Int × Int × List gG × List jN))(next:Int)(count:Int)(node:Int)(os:List jP)(q:kV)(nested:Int)(x3:gB):List gB→Nat→Int→Int→(List gG)→(List jN)→Option (Int × Int × List gG × List jN)
 | [],h,y,aa,ab,ac=>(some (y,aa,ab,ac))
 | ad::xs,h,y,aa,ab,ac=>bnd (at? x3.args (h:Int)) fun ae=>
bnd (c next count node ab ac os y aa q ad ae (IntKind.i64.wrap (nested+1))) fun f=>
gDp c next count node os q nested x3 xs (h+1) f.1 f.2.1 f.2.2.1 f.2.2.2
def gOu(c:Int→Int→Int→(List gG)→(List jN)→(List jP)→Int→Int→kV→gB→gB→Int→Option (Int × Int × List gG × List jN))(next:Int)(count:Int)(node:Int)(l1:List gG)(h:List jN)(os:List jP)(code:Int)(att:Int)(q:kV)(x:gB)(y:gB)(nested:Int):Option (Int × Int × List gG × List jN):=
(cnd (code != 0) (some (code,att,l1,h)) (
bnd (gNq next count node l1 h os code att x) fun x2=>
bnd (gNq next count node l1 h os code att y) fun x3=>
(cnd (teq x2 x3) (some (code,att,l1,h)) (
lt_ (cnd (decide (nested > 40)) (true) (decide ((IntKind.i64.wrap ((tsz x2)+(tsz x3))) > 2000))) fun b5=>
(cnd b5 (
lt_ (gI9 next count node l1 h os code att 6) fun x8=>
(some (x8.1,x8.2,l1,h))) (
bnd (gMm x2) fun x9=>
(cnd x9 (
bnd (gP1 next count node l1 h os code att x2 x3) fun ah=>
(some (ah.1,ah.2.1,ah.2.2,h))) (
bnd (gMm x3) fun ak=>
(cnd ak (
bnd (gP1 next count node l1 h os code att x3 x2) fun ai=>
(some (ai.1,ai.2.1,ai.2.2,h))) (
bnd (gG9 next count node l1 h os code att q x2) fun aa=>
(cnd aa.2.1 (
bnd (c next count node l1 h os aa.2.2.1 aa.2.2.2 q aa.1 x3 (IntKind.i64.wrap (nested+1))) fun ae=>
(some (ae.1,ae.2.1,ae.2.2.1,ae.2.2.2))) (cnd (aa.2.2.1 != 0) (some (aa.2.2.1,aa.2.2.2,l1,h)) (
bnd (gG9 next count node l1 h os aa.2.2.1 aa.2.2.2 q x3) fun f=>
(cnd f.2.1 (
bnd (c next count node l1 h os f.2.2.1 f.2.2.2 q x2 f.1 (IntKind.i64.wrap (nested+1))) fun ag=>
(some (ag.1,ag.2.1,ag.2.2.1,ag.2.2.2))) (cnd (f.2.2.1 != 0) (some (f.2.2.1,f.2.2.2,l1,h)) (
bnd (gTh x2) fun al=>
bnd (cnd al (some true) (bnd (gTh x3) fun am=>
(some am))) fun an=>
(cnd an (
gd (h.length+[(jN.mk x2 x3 node)].length≤4294967296) (some (f.2.2.1,f.2.2.2,l1,(h++[(jN.mk x2 x3 node)])))) (
lt_ (cnd (x2.kind != x3.kind) (true) (cnd (!(x2.name==x3.name)) (true) (cnd ((x2.args.length:Int) !=(x3.args.length:Int)) (true) (x2.kind==3)))) fun ao=>
(cnd ao (
lt_ (gI9 next count node l1 h os f.2.2.1 f.2.2.2 1) fun aj=>
(some (aj.1,aj.2,l1,h))) (
gDp c next count node os q nested x3 x2.args 0 f.2.2.1 f.2.2.2 l1 h))))))))))))))))))))
theorem hO8{a3:Int→Int→Int→(List gG)→(List jN)→(List jP)→Int→Int→kV→gB→gB→Int→Option (Int × Int × List gG × List jN)}(av:∀(x0:Int)(x1:Int)(x2:Int)(x3:List gG)(x4:List jN)(x5:List jP)(x6:Int)(x7:Int)(x8:kV)(x9:gB)(cx:gB)(cy:Int)(w0:Nat)(w1:Nat)(w2:Nat){r:Int × Int × List gG × List jN},a3 x0 x1 x2 x3 x4 x5 x6 x7 x8 x9 cx cy=some r→Go.Eng.Spec Tryz.prog 23 [.ptr 0 0,.ptr 4 0,.d (jS x9),.d (jS cx),.I cy] [.box [.I x0,.I x1,.I x2,.sl 1 w0,.sl 2 w1,.sl 3 w2,.I x6,.I x7],.arr 101 4 w0 (gP x3),.arr 79 7 w1 (jM x4),.arr 81 5 w2 (jD x5),.box [.L 6 (jQ x8.w.packages),.L 6 (gV x8.assumed)]] (fun sv Lo=>∃v'1 v'2,sv=.tup []∧Lo=[.box [.I x0,.I x1,.I x2,.sl 1 v'1,.sl 2 v'2,.sl 3 w2,.I r.1,.I r.2.1],.arr 101 4 v'1 (gP r.2.2.1),.arr 79 7 v'2 (jM r.2.2.2),.arr 81 5 w2 (jD x5),.box [.L 6 (jQ x8.w.packages),.L 6 (gV x8.assumed)]]))(next:Int)(count:Int)(node:Int)(l1:List gG)(l2:List jN)(os:List jP)(code:Int)(att:Int)(q:kV)(x:gB)(y:gB)(nested:Int)(v1:Nat)(v2:Nat)(v3:Nat){r:Int × Int × List gG × List jN}(h:gOu a3 next count node l1 l2 os code att q x y nested=some r):Go.Eng.Spec Tryz.prog 23 [.ptr 0 0,.ptr 4 0,.d (jS x),.d (jS y),.I nested] [.box [.I next,.I count,.I node,.sl 1 v1,.sl 2 v2,.sl 3 v3,.I code,.I att],.arr 101 4 v1 (gP l1),.arr 79 7 v2 (jM l2),.arr 81 5 v3 (jD os),.box [.L 6 (jQ q.w.packages),.L 6 (gV q.assumed)]] (fun sv Lo=>∃v'1 v'2,sv=.tup []∧Lo=[.box [.I next,.I count,.I node,.sl 1 v'1,.sl 2 v'2,.sl 3 v3,.I r.1,.I r.2.1],.arr 101 4 v'1 (gP r.2.2.1),.arr 79 7 v'2 (jM r.2.2.2),.arr 81 5 v3 (jD os),.box [.L 6 (jQ q.w.packages),.L 6 (gV q.assumed)]]):=by
 obtain⟨⟨ac⟩,au⟩:=q;obtain⟨aw,ax,ay⟩:=x;obtain⟨ao,ap,aq⟩:=y;unfold gOu at h;refine kF 5 Tryz.func23 rfl (by kernel_rfl) rfl rfl fun A _=>?_;refine goC h ?_ ?_<;>intro c1 h
 ·refine jG ?_;obtain rfl:=Option.some.inj h;exact yK [] _ ⟨v1,v2,rfl,rfl⟩
 ·refine noS ?_;obtain⟨⟨ad,ae,ab⟩,bi,h⟩:=gM h;obtain⟨⟨c,f,aa⟩,a7,h⟩:=gM h;refine qJ (P:=Tryz.prog) Mix.h (.q 0 (.q 1 (.q 3 (.q 4 (.h 2 (.h 5 (.h 6 (.h 7 (.h 8 (.h 9 .nil .nil) .nil) .nil) (.h 7 (.h 6 (.h 8 (.h 9 .nil .nil) .nil) .nil) .nil)) (.h 6 (.h 5 (.h 7 (.h 8 (.h 9 .nil .nil) .nil) .nil) (.h 7 (.h 5 (.h 8 (.h 9 .nil .nil) .nil) .nil) .nil)) (.h 7 (.h 5 (.h 6 (.h 8 (.h 9 .nil .nil) .nil) .nil) (.h 6 (.h 5 (.h 8 (.h 9 .nil .nil) .nil) .nil) .nil)) .nil))) (.h 6 (.h 2 (.h 5 (.h 7 (.h 8 (.h 9 .nil .nil) .nil) .nil) (.h 7 (.h 5 (.h 8 (.h 9 .nil .nil) .nil) .nil) .nil)) (.h 7 (.h 2 (.h 5 (.h 8 (.h 9 .nil .nil) .nil) .nil) .nil) .nil)) (.h 7 (.h 2 (.h 5 (.h 6 (.h 8 (.h 9 .nil .nil) .nil) .nil) (.h 6 (.h 5 (.h 8 (.h 9 .nil .nil) .nil) .nil) .nil)) (.h 6 (.h 2 (.h 5 (.h 8 (.h 9 .nil .nil) .nil) .nil) .nil) .nil)) .nil))))))) ⟨[(0,.ptr 0 0),(1,.ptr 4 0),(4,.I nested),(10,.ptr 7 0),(11,.ptr 8 0)],[.box [.I next,.I count,.I node,.sl 1 v1,.sl 2 v2,.sl 3 v3,.I code,.I att],.arr 101 4 v1 (gP l1),.arr 79 7 v2 (jM l2),.arr 81 5 v3 (jD os),.box [.L 6 (jQ ac),.L 6 (gV au)],bTy aw ax ay,bTy ao ap aq,bTy ad ae ab,bTy c f aa],Tryz.f23.ntmps⟩ (by kernel_rfl) ?_ ?_
  ·refine goT ?_;refine uV (gBu (sv:=.d (.st [.i .i64 ad,.s ae,.sl 3 (jH ab)])) [0,1,2,3] (gC2 next count node l1 l2 os code att (gB.mk aw ax ay) v1 v2 v3 bi) jU) ?_ ?_
   ·refine uV (gBu (sv:=.d (.st [.i .i64 c,.s f,.sl 3 (jH aa)])) [0,1,2,3] (gC2 next count node l1 l2 os code att (gB.mk ao ap aq) v1 v2 v3 a7) jU) ?_ ?_
    ·refine uV (hUs rfl (by repeat constructor) (by repeat(first | exact uY.nil | (apply uY.keep;focus ((repeat constructor);done)) | (apply uY.dep;focus kernel_rfl))) jU) ?_ ?_
     ·refine goT ?_;refine jV ?_;exact qX 5 [0,1,2,3,4,5,6,7,8]
     refine goT ?_;refine jV ?_;exact qX 5 [0,1,2,3,4,5,6,8,7]
    refine uV (hUs rfl (by repeat constructor) (by repeat(first | exact uY.nil | (apply uY.keep;focus ((repeat constructor);done)) | (apply uY.dep;focus kernel_rfl))) jU) ?_ ?_
    ·refine uV (gBu (sv:=.d (.st [.i .i64 c,.s f,.sl 3 (jH aa)])) [0,1,2,3] (gC2 next count node l1 l2 os code att (gB.mk ao ap aq) v1 v2 v3 a7) jU) ?_ ?_
     ·refine goT ?_;refine jV ?_;exact qX 5 [0,1,2,3,4,5,6,7,8]
     refine goT ?_;refine jR (gBu (sv:=.d (.st [.i .i64 c,.s f,.sl 3 (jH aa)])) [0,1,2,3] (gC2 next count node l1 l2 os code att (gB.mk ao ap aq) v1 v2 v3 a7) jU) ?_;refine goT ?_;refine jV ?_;exact qX 5 [0,1,2,3,4,5,6,7,8]
    refine goT ?_;refine uV (gBu (sv:=.d (.st [.i .i64 c,.s f,.sl 3 (jH aa)])) [0,1,2,3] (gC2 next count node l1 l2 os code att (gB.mk ao ap aq) v1 v2 v3 a7) jU) ?_ ?_
    ·refine goT ?_;refine jV ?_;exact qX 5 [0,1,2,3,4,5,6,8,7]
    refine goT ?_;refine jR (gBu (sv:=.d (.st [.i .i64 c,.s f,.sl 3 (jH aa)])) [0,1,2,3] (gC2 next count node l1 l2 os code att (gB.mk ao ap aq) v1 v2 v3 a7) jU) ?_;refine goT ?_;refine jV ?_;exact qX 5 [0,1,2,3,4,5,6,8,7]
   refine uV (hUs rfl (by repeat constructor) (by repeat(first | exact uY.nil | (apply uY.keep;focus ((repeat constructor);done)) | (apply uY.dep;focus kernel_rfl))) jU) ?_ ?_
   ·refine uV (gBu (sv:=.d (.st [.i .i64 ad,.s ae,.sl 3 (jH ab)])) [0,1,2,3] (gC2 next count node l1 l2 os code att (gB.mk aw ax ay) v1 v2 v3 bi) jU) ?_ ?_
    ·refine uV (gBu (sv:=.d (.st [.i .i64 c,.s f,.sl 3 (jH aa)])) [0,1,2,3] (gC2 next count node l1 l2 os code att (gB.mk ao ap aq) v1 v2 v3 a7) jU) ?_ ?_
     ·refine goT ?_;refine jV ?_;exact qX 5 [0,1,2,3,4,5,6,7,8]
     refine goT ?_;refine jR (gBu (sv:=.d (.st [.i .i64 c,.s f,.sl 3 (jH aa)])) [0,1,2,3] (gC2 next count node l1 l2 os code att (gB.mk ao ap aq) v1 v2 v3 a7) jU) ?_;refine goT ?_;refine jV ?_;exact qX 5 [0,1,2,3,4,5,6,7,8]
    refine goT ?_;refine jR (gBu (sv:=.d (.st [.i .i64 ad,.s ae,.sl 3 (jH ab)])) [0,1,2,3] (gC2 next count node l1 l2 os code att (gB.mk aw ax ay) v1 v2 v3 bi) jU) ?_;refine jR (gBu (sv:=.d (.st [.i .i64 c,.s f,.sl 3 (jH aa)])) [0,1,2,3] (gC2 next count node l1 l2 os code att (gB.mk ao ap aq) v1 v2 v3 a7) jU) ?_;refine goT ?_;refine jV ?_;exact qX 5 [0,1,2,3,4,5,6,7,8]
   refine goT ?_;refine uV (gBu (sv:=.d (.st [.i .i64 ad,.s ae,.sl 3 (jH ab)])) [0,1,2,3] (gC2 next count node l1 l2 os code att (gB.mk aw ax ay) v1 v2 v3 bi) jU) ?_ ?_
   ·refine uV (gBu (sv:=.d (.st [.i .i64 c,.s f,.sl 3 (jH aa)])) [0,1,2,3] (gC2 next count node l1 l2 os code att (gB.mk ao ap aq) v1 v2 v3 a7) jU) ?_ ?_
    ·refine goT ?_;refine jV ?_;exact qX 5 [0,1,2,3,4,5,6,8,7]
    refine goT ?_;refine jR (gBu (sv:=.d (.st [.i .i64 c,.s f,.sl 3 (jH aa)])) [0,1,2,3] (gC2 next count node l1 l2 os code att (gB.mk ao ap aq) v1 v2 v3 a7) jU) ?_;refine goT ?_;refine jV ?_;exact qX 5 [0,1,2,3,4,5,6,8,7]
   refine goT ?_;refine jR (gBu (sv:=.d (.st [.i .i64 ad,.s ae,.sl 3 (jH ab)])) [0,1,2,3] (gC2 next count node l1 l2 os code att (gB.mk aw ax ay) v1 v2 v3 bi) jU) ?_;refine jR (gBu (sv:=.d (.st [.i .i64 c,.s f,.sl 3 (jH aa)])) [0,1,2,3] (gC2 next count node l1 l2 os code att (gB.mk ao ap aq) v1 v2 v3 a7) jU) ?_;refine goT ?_;refine jV ?_;exact qX 5 [0,1,2,3,4,5,6,8,7]
  refine goL ?_;refine jI (gF (gI5 (gB.mk ad ae ab) (gB.mk c f aa))) ?_;refine kX (fun c4=>?_) (fun c4=>?_)
  ·replace h:=kD c4 h;refine jG ?_;obtain rfl:=Option.some.inj h;exact yK [] _ ⟨v1,v2,rfl,rfl⟩
  ·replace h:=kE c4 h;refine noS ?_;refine gId ?_;obtain⟨b5,hb5,h⟩:=qA h;refine uE (P:=Tryz.prog) Mix.h ⟨[(0,.ptr 0 0),(1,.ptr 4 0),(4,.I nested),(10,.ptr 7 0),(11,.ptr 8 0),(41,.B b5)],[.box [.I next,.I count,.I node,.sl 1 v1,.sl 2 v2,.sl 3 v3,.I code,.I att],.arr 101 4 v1 (gP l1),.arr 79 7 v2 (jM l2),.arr 81 5 v3 (jD os),.box [.L 6 (jQ ac),.L 6 (gV au)],bTy aw ax ay,bTy ao ap aq,bTy ad ae ab,bTy c f aa],Tryz.f23.ntmps⟩ (by kernel_rfl) ?_ ?_
   ·refine goL ?_;refine vG 34 (fun c6=>?_) (fun c6=>?_)
    ·replace hb5:=kD c6 hb5;refine goL ?_;cases hb5;exact eJ
    ·replace hb5:=kE c6 hb5;refine goL ?_;refine gC1 (gF (gH8 (gB.mk ad ae ab))) ?_;refine goL ?_;refine gC1 (gF (gH8 (gB.mk c f aa))) ?_;refine gC1 (pU) ?_;refine goL ?_;cases hb5;exact eJ
   refine goC h ?_ ?_<;>intro c7 h
   ·refine goL ?_;obtain⟨⟨cz,c0⟩,dq,h⟩:=qA h;have sx8:=gWn next count node l1 l2 os code att 6 v1 v2 v3
    rw [dq] at sx8;refine yJ [0,1,2,3] (sx8) ?_;rintro _ _ ⟨rfl,rfl⟩;show VO _ _ _ _ ⟨(_,.tup [])::_,[.box [.I next,.I count,.I node,.sl 1 v1,.sl 2 v2,.sl 3 v3,.I cz,.I c0],.arr 101 4 v1 (gP l1),.arr 79 7 v2 (jM l2),.arr 81 5 v3 (jD os),.box [.L 6 (jQ ac),.L 6 (gV au)],bTy aw ax ay,bTy ao ap aq,bTy ad ae ab,bTy c f aa],_⟩ _;refine goL ?_;refine jG ?_;obtain rfl:=Option.some.inj h;exact yK [] _ ⟨v1,v2,rfl,rfl⟩
   ·refine goS ?_;obtain⟨x9,dr,h⟩:=gM h;refine jI (gF (hDw _ dr)) ?_;refine kX (fun bo=>?_) (fun bo=>?_)
    ·replace h:=kD bo h;refine goL ?_;obtain⟨⟨bp,bq,br⟩,c2,h⟩:=gM h;refine yJ [0,1,2,3] (hLl next count node l1 l2 os code att (gB.mk ad ae ab) (gB.mk c f aa) v1 v2 v3 c2) ?_;rintro _ _ ⟨bt,rfl,rfl⟩;show VO _ _ _ _ ⟨(_,.tup [])::_,[.box [.I next,.I count,.I node,.sl 1 bt,.sl 2 v2,.sl 3 v3,.I bp,.I bq],.arr 101 4 bt (gP br),.arr 79 7 v2 (jM l2),.arr 81 5 v3 (jD os),.box [.L 6 (jQ ac),.L 6 (gV au)],bTy aw ax ay,bTy ao ap aq,bTy ad ae ab,bTy c f aa],_⟩ _;refine goL ?_;refine jG ?_;obtain rfl:=Option.some.inj h;exact yK [] _ ⟨bt,v2,rfl,rfl⟩
    ·replace h:=kE bo h;refine goS ?_;obtain⟨d4,c3,h⟩:=gM h;refine jI (gF (hDw _ c3)) ?_;refine kX (fun bu=>?_) (fun bu=>?_)
     ·replace h:=kD bu h;refine goL ?_;obtain⟨⟨bv,bw,bx⟩,c5,h⟩:=gM h;refine yJ [0,1,2,3] (hLl next count node l1 l2 os code att (gB.mk c f aa) (gB.mk ad ae ab) v1 v2 v3 c5) ?_;rintro _ _ ⟨bz,rfl,rfl⟩;show VO _ _ _ _ ⟨(_,.tup [])::_,[.box [.I next,.I count,.I node,.sl 1 bz,.sl 2 v2,.sl 3 v3,.I bv,.I bw],.arr 101 4 bz (gP bx),.arr 79 7 v2 (jM l2),.arr 81 5 v3 (jD os),.box [.L 6 (jQ ac),.L 6 (gV au)],bTy aw ax ay,bTy ao ap aq,bTy ad ae ab,bTy c f aa],_⟩ _;refine goL ?_;refine jG ?_;obtain rfl:=Option.some.inj h;exact yK [] _ ⟨bz,v2,rfl,rfl⟩
     ·replace h:=kE bu h;refine goS ?_;obtain⟨⟨⟨ag,ah,ai⟩,b0,ba,bb⟩,c8,h⟩:=gM h;refine yJ [0,1,2,3,4] (gUx next count node l1 l2 os code att (kV.mk (gK.mk ac) au) (gB.mk ad ae ab) v1 v2 v3 c8) ?_;rintro _ _ ⟨rfl,rfl⟩;show VO _ _ _ _ ⟨(_,.tup [.d (.st [.i .i64 ag,.s ah,.sl 3 (jH ai)]),.B b0])::_,[.box [.I next,.I count,.I node,.sl 1 v1,.sl 2 v2,.sl 3 v3,.I ba,.I bb],.arr 101 4 v1 (gP l1),.arr 79 7 v2 (jM l2),.arr 81 5 v3 (jD os),.box [.L 6 (jQ ac),.L 6 (gV au)],bTy aw ax ay,bTy ao ap aq,bTy ad ae ab,bTy c f aa],_⟩ _;refine goC h ?_ ?_<;>intro d5 h
      ·refine goL ?_;refine qK (pU) ?_;obtain⟨⟨b1,b2,b3,b4⟩,c9,h⟩:=gM h;refine yJ [0,1,2,3,4] (av next count node l1 l2 os ba bb (kV.mk (gK.mk ac) au) (gB.mk ag ah ai) (gB.mk c f aa) (IntKind.i64.wrap (nested+1)) v1 v2 v3 c9) ?_;rintro _ _ ⟨b6,b7,rfl,rfl⟩;show VO _ _ _ _ ⟨(_,.tup [])::_,[.box [.I next,.I count,.I node,.sl 1 b6,.sl 2 b7,.sl 3 v3,.I b1,.I b2],.arr 101 4 b6 (gP b3),.arr 79 7 b7 (jM b4),.arr 81 5 v3 (jD os),.box [.L 6 (jQ ac),.L 6 (gV au)],bTy aw ax ay,bTy ao ap aq,bTy ad ae ab,bTy c f aa,bTy ag ah ai],_⟩ _;refine goL ?_;refine jG ?_;obtain rfl:=Option.some.inj h;exact yK [] _ ⟨b6,b7,rfl,rfl⟩
      ·refine goS ?_;refine kX (fun b8=>?_) (fun b8=>?_)
       ·replace h:=kD b8 h;refine jG ?_;obtain rfl:=Option.some.inj h;exact yK [] _ ⟨v1,v2,rfl,rfl⟩
       ·replace h:=kE b8 h;refine goS ?_;obtain⟨⟨⟨al,am,an⟩,b9,a5,a6⟩,da,h⟩:=gM h;refine yJ [0,1,2,3,4] (gUx next count node l1 l2 os ba bb (kV.mk (gK.mk ac) au) (gB.mk c f aa) v1 v2 v3 da) ?_;rintro _ _ ⟨rfl,rfl⟩;show VO _ _ _ _ ⟨(_,.tup [.d (.st [.i .i64 al,.s am,.sl 3 (jH an)]),.B b9])::_,[.box [.I next,.I count,.I node,.sl 1 v1,.sl 2 v2,.sl 3 v3,.I a5,.I a6],.arr 101 4 v1 (gP l1),.arr 79 7 v2 (jM l2),.arr 81 5 v3 (jD os),.box [.L 6 (jQ ac),.L 6 (gV au)],bTy aw ax ay,bTy ao ap aq,bTy ad ae ab,bTy c f aa,bTy ag ah ai],_⟩ _;refine goC h ?_ ?_<;>intro d6 h
        ·refine goL ?_;refine qK (pU) ?_;obtain⟨⟨ca,cb,cc,cd⟩,db,h⟩:=gM h;refine yJ [0,1,2,3,4] (av next count node l1 l2 os a5 a6 (kV.mk (gK.mk ac) au) (gB.mk ad ae ab) (gB.mk al am an) (IntKind.i64.wrap (nested+1)) v1 v2 v3 db) ?_;rintro _ _ ⟨ce,cf,rfl,rfl⟩;show VO _ _ _ _ ⟨(_,.tup [])::_,[.box [.I next,.I count,.I node,.sl 1 ce,.sl 2 cf,.sl 3 v3,.I ca,.I cb],.arr 101 4 ce (gP cc),.arr 79 7 cf (jM cd),.arr 81 5 v3 (jD os),.box [.L 6 (jQ ac),.L 6 (gV au)],bTy aw ax ay,bTy ao ap aq,bTy ad ae ab,bTy c f aa,bTy ag ah ai,bTy al am an],_⟩ _;refine goL ?_;refine jG ?_;obtain rfl:=Option.some.inj h;exact yK [] _ ⟨ce,cf,rfl,rfl⟩
        ·refine goS ?_;refine kX (fun cg=>?_) (fun cg=>?_)
         ·replace h:=kD cg h;refine jG ?_;obtain rfl:=Option.some.inj h;exact yK [] _ ⟨v1,v2,rfl,rfl⟩
         ·replace h:=kE cg h;refine goS ?_;obtain⟨d7,dc,h⟩:=gM h;refine jI (gF (hQz _ dc)) ?_;obtain⟨ds,hb30,h⟩:=gM h;refine jT ⟨[(0,.ptr 0 0),(1,.ptr 4 0),(4,.I nested),(10,.ptr 7 0),(11,.ptr 8 0),(103,.B ds)],[.box [.I next,.I count,.I node,.sl 1 v1,.sl 2 v2,.sl 3 v3,.I a5,.I a6],.arr 101 4 v1 (gP l1),.arr 79 7 v2 (jM l2),.arr 81 5 v3 (jD os),.box [.L 6 (jQ ac),.L 6 (gV au)],bTy aw ax ay,bTy ao ap aq,bTy ad ae ab,bTy c f aa,bTy ag ah ai,bTy al am an],Tryz.f23.ntmps⟩ ?_ ?_
          ·refine gqO 99 hb30 (fun d8 hb30=>?_);obtain⟨d9,dd,hb30⟩:=gM hb30;refine jI (gF (hQz _ dd)) ?_;cases hb30;exact eJ
          refine goC h ?_ ?_<;>intro ea h
          ·refine jK (P:=Tryz.prog) Mix.h [(0,true),(1,true),(2,true),(3,true),(4,true),(5,true),(6,true),(7,true),(8,true),(9,true),(10,true),(11,true),(12,false),(13,false),(14,true),(15,true),(16,false)] (by kernel_rfl) ?_;refine goY ?_;refine qE (T:=29) (us:=jM [(jN.mk (gB.mk ad ae ab) (gB.mk c f aa) node)]) ?_;obtain⟨dt,h⟩:=mY h;refine pW (T:=29) dt ?_;refine goY ?_;refine kQ ?_;refine goL ?_;refine jG ?_;obtain rfl:=Option.some.inj h;exact yK [] _ ⟨v1,(v2+1),rfl,rfl⟩
          ·refine goS ?_;obtain⟨du,hb35,h⟩:=qA h;refine jT ⟨[(0,.ptr 0 0),(1,.ptr 4 0),(4,.I nested),(10,.ptr 7 0),(11,.ptr 8 0),(145,.B du)],[.box [.I next,.I count,.I node,.sl 1 v1,.sl 2 v2,.sl 3 v3,.I a5,.I a6],.arr 101 4 v1 (gP l1),.arr 79 7 v2 (jM l2),.arr 81 5 v3 (jD os),.box [.L 6 (jQ ac),.L 6 (gV au)],bTy aw ax ay,bTy ao ap aq,bTy ad ae ab,bTy c f aa,bTy ag ah ai,bTy al am an],Tryz.f23.ntmps⟩ ?_ ?_
           ·refine uD 125 (fun ch=>?_) (fun ch=>?_) (by rfl)
            ·replace hb35:=kD ch hb35;refine goL ?_;cases hb35;exact⟨rfl,⟨⟨rfl,rfl⟩,⟨rfl,rfl⟩,⟨rfl,rfl⟩,⟨rfl,rfl⟩,⟨rfl,rfl⟩,⟨by rfl,rfl⟩,trivial⟩,⟨_,rfl⟩,rfl⟩
            ·replace hb35:=kE ch hb35;refine goL ?_;refine uD 132 (fun ci=>?_) (fun ci=>?_) (by rfl)
             ·replace hb35:=kD ci hb35;refine goL ?_;cases hb35;exact⟨rfl,⟨⟨rfl,rfl⟩,⟨rfl,rfl⟩,⟨rfl,rfl⟩,⟨rfl,rfl⟩,⟨rfl,rfl⟩,⟨by rfl,rfl⟩,trivial⟩,⟨_,rfl⟩,rfl⟩
             ·replace hb35:=kE ci hb35;refine goL ?_;refine uD 141 (fun cj=>?_) (fun cj=>?_) (by rfl)
              ·replace hb35:=kD cj hb35;refine goL ?_;cases hb35;exact⟨rfl,⟨⟨rfl,rfl⟩,⟨rfl,rfl⟩,⟨rfl,rfl⟩,⟨rfl,rfl⟩,⟨rfl,rfl⟩,⟨by rfl,rfl⟩,trivial⟩,⟨_,rfl⟩,rfl⟩
              ·replace hb35:=kE cj hb35;refine goL ?_;cases hb35;exact⟨rfl,⟨⟨rfl,rfl⟩,⟨rfl,rfl⟩,⟨rfl,rfl⟩,⟨rfl,rfl⟩,⟨rfl,rfl⟩,⟨by rfl,rfl⟩,trivial⟩,⟨_,rfl⟩,rfl⟩
           refine goC h ?_ ?_<;>intro eb h
           ·refine goL ?_;obtain⟨⟨ck,cl⟩,de,h⟩:=qA h;have sx40:=gWn next count node l1 l2 os a5 a6 1 v1 v2 v3
            rw [de] at sx40;refine yJ [0,1,2,3] (sx40) ?_;rintro _ _ ⟨rfl,rfl⟩;show VO _ _ _ _ ⟨(_,.tup [])::_,[.box [.I next,.I count,.I node,.sl 1 v1,.sl 2 v2,.sl 3 v3,.I ck,.I cl],.arr 101 4 v1 (gP l1),.arr 79 7 v2 (jM l2),.arr 81 5 v3 (jD os),.box [.L 6 (jQ ac),.L 6 (gV au)],bTy aw ax ay,bTy ao ap aq,bTy ad ae ab,bTy c f aa,bTy ag ah ai,bTy al am an],_⟩ _;refine goL ?_;refine jG ?_;obtain rfl:=Option.some.inj h;exact yK [] _ ⟨v1,v2,rfl,rfl⟩
           ·refine goS ?_;refine noB ?_;refine gB0 149 (fun ec=>?_);refine hJ4 (fun(a8:Nat)(be:Int)(bf:Int)(bg:List gG)(bh:List jN)(bc:Nat)(bd:Nat)=>⟨[(0,.ptr 0 0),(1,.ptr 4 0),(4,.I nested),(10,.ptr 7 0),(11,.ptr 8 0),(150,.I (ab.length:Int)),(151,.N a8)],[.box [.I next,.I count,.I node,.sl 1 bc,.sl 2 bd,.sl 3 v3,.I be,.I bf],.arr 101 4 bc (gP bg),.arr 79 7 bd (jM bh),.arr 81 5 v3 (jD os),.box [.L 6 (jQ ac),.L 6 (gV au)],bTy aw ax ay,bTy ao ap aq,bTy ad ae ab,bTy c f aa,bTy ag ah ai,bTy al am an],Tryz.f23.ntmps⟩) (fun a8 be bf bg bh bc bd=>gDp a3 next count node os (kV.mk (gK.mk ac) au) nested (gB.mk c f aa) (ab.drop a8) a8 be bf bg bh=some r) (fun a8 be bf bg bh bc bd=>ab.length - a8) 0 a5 a6 l1 l2 v1 v2 eJ h ?_;rintro a8 be bf bg bh bc bd h;refine goL ?_;refine jY (kX (fun cm=>?_) (fun cm=>?_))
            ·have a9:=uR cm;obtain⟨dv,df,cn⟩:=drop_at a9;rw [cn,gDp.eq_2] at h;obtain⟨co,cp,cq⟩:=dv;refine noS ?_;refine jY (jA ?_);refine gId ?_;refine uM (P:=Tryz.prog) Mix.h [(0,true),(1,true),(2,true),(3,true),(4,true),(5,true),(6,true),(7,true),(8,true),(9,true),(10,true),(11,true),(12,true),(13,true),(14,false)] (by kernel_rfl) ?_;refine goY ?_;refine jF rfl (jJ a8 (zJ df)) ?_;refine goY ?_;obtain⟨dw,bn,h⟩:=gM h;rw [zI] at bn;obtain⟨cr,cs,ct⟩:=dw;refine jF rfl (jJ a8 (zJ bn)) ?_;refine goY ?_;refine jF rfl (pU) ?_;obtain⟨⟨bj,bk,bl,bm⟩,dg,h⟩:=gM h;refine gS1 [0,1,2,3,4] (av next count node bg bh os be bf (kV.mk (gK.mk ac) au) (gB.mk co cp cq) (gB.mk cr cs ct) (IntKind.i64.wrap (nested+1)) bc bd v3 dg) ?_;rintro _ _ ⟨cu,cv,rfl,rfl⟩;refine gQe (sv:=.tup []) (L':=[.box [.I next,.I count,.I node,.sl 1 cu,.sl 2 cv,.sl 3 v3,.I bj,.I bk],.arr 101 4 cu (gP bl),.arr 79 7 cv (jM bm),.arr 81 5 v3 (jD os),.box [.L 6 (jQ ac),.L 6 (gV au)],bTy aw ax ay,bTy ao ap aq,bTy ad ae ab,bTy c f aa,bTy ag ah ai,bTy al am an]) (by repeat(first | exact uY.nil | (apply uY.keep;focus ((repeat constructor);done)) | (apply uY.dep;focus kernel_rfl))) ?_;refine kQ ?_;refine goL ?_;refine jI (jW a8 (by omega)) ?_;exact⟨(a8+1),bj,bk,bl,bm,cu,cv,h,by omega,eJ⟩
            ·have a9:=uS cm;rw [jC a9,gDp.eq_1] at h;refine gSy ?_;show mG _ _ _ _ _ _;obtain rfl:=Option.some.inj h;exact hJ8 [] _ ⟨bc,bd,rfl,rfl⟩
def gG0:Nat→Int→Int→Int→(List gG)→(List jN)→(List jP)→Int→Int→kV→gB→gB→Int→Option (Int × Int × List gG × List jN)
 | 0,_,_,_,_,_,_,_,_,_,_,_,_=>none
 | n+1,h,y,x2,x3,x4,x5,x6,x7,x8,x9,c,f=>gOu (gG0 n) h y x2 x3 x4 x5 x6 x7 x8 x9 c f
theorem hO9:∀(n:Nat)(x0:Int)(x1:Int)(x2:Int)(x3:List gG)(x4:List jN)(x5:List jP)(x6:Int)(x7:Int)(y:kV)(x9:gB)(c:gB)(f:Int)(w0:Nat)(w1:Nat)(w2:Nat){r:Int × Int × List gG × List jN},gG0 n x0 x1 x2 x3 x4 x5 x6 x7 y x9 c f=some r→Go.Eng.Spec Tryz.prog 23 [.ptr 0 0,.ptr 4 0,.d (jS x9),.d (jS c),.I f] [.box [.I x0,.I x1,.I x2,.sl 1 w0,.sl 2 w1,.sl 3 w2,.I x6,.I x7],.arr 101 4 w0 (gP x3),.arr 79 7 w1 (jM x4),.arr 81 5 w2 (jD x5),.box [.L 6 (jQ y.w.packages),.L 6 (gV y.assumed)]] (fun sv Lo=>∃v'1 v'2,sv=.tup []∧Lo=[.box [.I x0,.I x1,.I x2,.sl 1 v'1,.sl 2 v'2,.sl 3 w2,.I r.1,.I r.2.1],.arr 101 4 v'1 (gP r.2.2.1),.arr 79 7 v'2 (jM r.2.2.2),.arr 81 5 w2 (jD x5),.box [.L 6 (jQ y.w.packages),.L 6 (gV y.assumed)]]):=by
 intro n
 induction n with
 | zero=>intro x0 x1 x2 x3 x4 x5 x6 x7 y x9 c f w0 w1 w2 r h;cases h
 | succ n ih=>intro x0 x1 x2 x3 x4 x5 x6 x7 y x9 c f w0 w1 w2 r h;exact hO8 ih x0 x1 x2 x3 x4 x5 x6 x7 y x9 c f w0 w1 w2 h
theorem gKx{p:gG→Option Bool}{q:gG→Bool}(hp:∀x,p x=some (q x)):∀(l:List gG)(k:Nat),∃i,yM p l k=some i∧(0≤i↔l.any q=true)
 | [],k=>⟨-1,rfl,by simp⟩
 | x::l,k=>by
   obtain⟨i,c,f⟩:=gKx hp l (k+1);simp only [yM,hp,bnd];cases hq:q x with
   | true=>exact⟨k,by simp [cnd],by simp [hq]⟩
   | false=>exact⟨i,by simpa [cnd] using c,by simpa [hq] using f⟩
theorem gQt{p:gG→Option Bool}{q:gG→Bool}(hp:∀x,p x=some (q x))(l:List gG):gAq l p=some (l.any q):=by
 obtain⟨i,f,c⟩:=gKx hp l 0;unfold gAq gIv;rw [f];simp only [bnd,Option.some.injEq];cases h:l.any q with
 | true=>exact decide_eq_true (c.2 h)
 | false=>exact decide_eq_false (fun hi=>by rw [c.1 hi] at h;cases h)
section
variable (next count node:Int)(bs:List gG)(es:List jN)(os:List jP)(code att:Int)
theorem hPa(v:LB):gTb next count node bs es os code att v=some (zp bs v):=by
 unfold gTb zp;rw [gJc,gQt (q:=fun b=>gIw b v) (fun x=>rfl)];simp only [bnd];show bnd (cnd (isInf v) (some (hasB bs v)) (some false)) _=_;cases isInf v<;>rfl
theorem gOv:∀(l:LS)(k:Nat),∃i,zK next count node bs es os code att l k=some i∧(0≤i↔l.any (zp bs)=true)
 | [],k=>⟨-1,rfl,by simp⟩
 | x::l,k=>by
   obtain⟨i,c,f⟩:=gOv l (k+1);simp only [zK,hPa,bnd];cases hq:zp bs x with
   | true=>exact⟨k,by simp [cnd],by simp [hq]⟩
   | false=>exact⟨i,by simpa [cnd] using c,by simpa [hq] using f⟩
theorem gWo(l:LS):gCf next count node bs es os code att l=some (l.any (zp bs)):=by
 obtain⟨i,f,c⟩:=gOv next count node bs es os code att l 0
 unfold gCf gLu;rw [f];simp only [bnd,Option.some.injEq];cases h:l.any (zp bs)with
 | true=>exact decide_eq_true (c.2 h)
 | false=>exact decide_eq_false (fun hi=>by rw [c.1 hi] at h;cases h)
theorem gTi{M:Nat}(hM:M≤1048577)(c:bok bs)(y:gU4 M bs):∀(n:Nat)(t:gB),tok t→tnd t≤4000*M→gBo next count node bs es os code att n t.kind t.name t.args=some (zk bs n t)
 | 0,t,_,_=>by simp only [gBo,zk,gXc]
 | n+1,t,h3,h4=>by
   have hz:tsz t=tnd t:=uN t (by omega);simp only [gBo,zk,gXc];rw [gKt t (by omega)];simp only [bnd,gWo,gRr,List.any_nil,Bool.false_or,lt_];show cnd (cnd (!zbd bs t) true _) _ _=_;rw [mI ⟨c,h3⟩];cases hb:zbd bs t with
   | false=>rfl
   | true=>
     by_cases h5:tnd t < 4000
     ·have f:decide (tsz t≥4000)=false:=by rw [hz];simp;omega
      have h:decide (tsz t < 4000)=true:=by rw [hz];simp;omega
      have:=hBu y t
      have h6:M*tnd t≤M*4000:=Nat.mul_le_mul_left M (by omega);simp only [f,h,Bool.not_true,gI,Bool.and_self,gT];exact gTi hM c y n _ (hBt c t h3) (by omega)
     ·have f:decide (tsz t≥4000)=true:=by rw [hz];simp;omega
      have h:decide (tsz t < 4000)=false:=by rw [hz];simp;omega
      simp only [f,h,Bool.not_true,gI,Bool.and_false,gT]
theorem gWp{M:Nat}(hM:M≤1048577)(f:bok bs)(h:gU4 M bs){t:gB}(c:tok t)(y:tnd t≤4000*M):gNq next count node bs es os code att t=some (zk bs 60 t):=by
 unfold gNq;rw [mI c];exact gTi next count node bs es os code att hM f h 60 t c y
theorem gWq(e:Int):gI9 next count node bs es os code att e=((pG ⟨next,count,node,bs,es,os,code,att⟩ e).code,(pG ⟨next,count,node,bs,es,os,code,att⟩ e).at_):=by
 unfold gI9 pG;simp only;cases code==0<;>rfl
theorem gY2(t:gB):gMm t=some ((t.kind==1) && isInf t.name):=by
 unfold gMm;rw [gJc];cases t.kind==1<;>rfl
theorem hLr{t:gB}(h:tnd t≤4294967296):gTh t=some ((t.kind==3) && gG8 t):=by
 unfold gTh;rw [hLb t h];cases t.kind==3<;>rfl
end
mutual
theorem hQ0(v:LB):∀(t:gB)(n:Nat),n+tnd t≤4294967296→ctc v (n:Int) t=((n+(tvs t).count v:Nat):Int)
 | ⟨k,s,ts⟩,n,h=>by
   simp only [tnd] at h;simp only [ctc,tvs];by_cases hk:k=1
   ·subst hk;rw [beq_self_eq_true,gT,if_pos rfl];by_cases hs:s=v
    ·subst hs;rw [beq_self_eq_true,gT,show IntKind.i64.wrap ((n:Int)+1)=((n+1:Nat):Int)from by rw [qR _ (by omega) (by omega)];omega,gWr s ts (n+1) (by omega),List.count_append,List.count_singleton_self];congr 1;omega
    ·rw [beq_false_of_ne hs,gI,gWr v ts n (by omega),List.count_append,List.count_singleton,if_neg (by simpa using hs)];congr 1;omega
   ·rw [beq_false_of_ne hk,gI,gI,if_neg hk,List.nil_append,gWr v ts n (by omega)]
theorem gWr(v:LB):∀(ts:List gB)(n:Nat),n+gAb ts≤4294967296→hUa v (n:Int) ts=((n+(gGc ts).count v:Nat):Int)
 | [],n,_=>by simp [hUa,gGc]
 | a::ts,n,h=>by
   simp only [gAb] at h;have c:=gZr a;have f:(tvs a).count v≤(tvs a).length:=List.count_le_length;simp only [hUa,gGc];rw [hQ0 v a n (by omega),gWr v ts _ (by omega),List.count_append];congr 1;omega
end
theorem hF0{v:LB}{t:gB}(h:tnd t≤4294967295):gJr v t=decide (v∈tvs t):=by
 unfold gJr gOq;simp only [lt_]
 have:=hQ0 v t 0 (by omega)
 rw [Nat.zero_add] at this;rw [show ctc v 0 t=_ from this];by_cases hm:v∈tvs t
 ·have:=List.count_pos_iff.2 hm
  rw [decide_eq_true hm];exact decide_eq_true (by omega)
 ·rw [List.count_eq_zero_of_not_mem hm,decide_eq_false hm];rfl
theorem hDx{s s':gJ}{v t:gB}(ht:tnd t≤5000)(h:gC7 s v.name t=some s'):gP1 s.next s.count s.node s.bindings s.equations s.obligations s.code s.at_ v t=some (s'.code,s'.at_,s'.bindings)∧s'.next=s.next∧s'.count=s.count∧s'.node=s.node∧s'.equations=s.equations∧s'.obligations=s.obligations∧(s'.bindings=s.bindings∨s'.bindings=s.bindings++[⟨v.name,t⟩]):=by
 unfold gC7 at h;unfold gP1;rw [jO (hK9 (by omega))] at h;rw [hF0 (by omega)];by_cases hm:v.name∈tvs t
 ·rw [decide_eq_true hm,gT] at h ⊢;cases h;refine⟨?_,?_⟩
  ·simp only [lt_,gWq,vI]
  ·unfold pG;cases s.code==0<;>exact⟨rfl,rfl,rfl,rfl,rfl,.inl rfl⟩
 ·rw [decide_eq_false hm,gI] at h ⊢;obtain⟨_,h⟩:=mY h;obtain⟨g,h⟩:=mY h;cases h;rw [mI (by simpa using g)];exact⟨rfl,rfl,rfl,rfl,rfl,rfl,.inr rfl⟩
theorem hDy{fs:List gQ}:∀{d:Nat}{t:gB},tw fs d t→gG8 t=false
 | 0,t,h=>by
   rcases h with rfl | ⟨n,c,rfl,_⟩
   ·rfl
   ·unfold gG8;simp [gF3,gVa,gGf,c]
 | d+1,t,h=>by
   rcases h with h | ⟨u,rfl,f⟩
   ·exact hDy (d:=0) h
   ·have ih:=hDy f;unfold gG8 at ih ⊢;simp [gGe,gVa,gGf,ih]
theorem hLs{fs:List gQ}:∀{d:Nat}{t:gB},tw fs d t→t.kind≠3→∀u∈t.args,tw fs d u
 | 0,t,h,c,u,hu=>by
   rcases h with rfl | ⟨n,f,rfl,_⟩
   ·simp [yP] at hu
   ·exact absurd rfl c
 | d+1,t,h,c,u,hu=>by
   rcases h with h | ⟨v,rfl,y⟩
   ·rcases h with rfl | ⟨n,f,rfl,_⟩
    ·simp [yP] at hu
    ·exact absurd rfl c
   ·simp only [gGe,List.mem_singleton] at hu;subst hu;exact hXx y
open Classical in
noncomputable def cz(fs:List gQ)(t:gB):Nat:=if tw fs 12 t then 0 else 1
theorem hUc(fs:List gQ)(t:gB):cz fs t≤1:=by unfold cz;split<;>omega
theorem hUd{fs:List gQ}{t:gB}(h:tw fs 12 t):cz fs t=0:=by unfold cz;rw [if_pos h]
theorem hLt{fs:List gQ}{t u:gB}(h:tw fs 12 t→tw fs 12 u):cz fs u≤cz fs t:=by
 by_cases ht:tw fs 12 t
 ·rw [hUd (h ht)];omega
 ·have:=hUc fs u
  have c:cz fs t=1:=by unfold cz;rw [if_neg ht]
  omega
theorem hXb{fs:List gQ}(l:List gG)(n:Nat)(t:gB):cz fs (zk l n t)≤cz fs t:=hLt fun h=>by rw [gNm n (.inl (hAy (hDy h)))];exact h
theorem hDz(s:gJ)(c:Int):(pG s c).next=s.next∧(pG s c).count=s.count∧(pG s c).node=s.node∧(pG s c).obligations=s.obligations:=by
 unfold pG;cases s.code==0<;>exact⟨rfl,rfl,rfl,rfl⟩
structure HSt (r:LB→Nat)(s:gJ):Prop where
 hb:∀b∈s.bindings,HS 5 r b.type_
 he:∀q∈s.equations,HS 5 r q.a∧HS 5 r q.b
theorem HSt.of{r:LB→Nat}{s s':gJ}(h:HSt r s)(c:s'.bindings=s.bindings)(f:s'.equations=s.equations):HSt r s':=⟨by rw [c];exact h.hb,by rw [f];exact h.he⟩
theorem HSt.lk{r:LB→Nat}{s:gJ}(h:HSt r s):∀v,(lkp v s.bindings).2=true→HS 5 r (lkp v s.bindings).1:=fun v hv=>by
 obtain⟨c,hc,_,hc3⟩:=gL6 hv;rw [hc3];exact h.hb c hc
def Rok(r:LB→Nat):Prop:=∀v,isInf v=false→r v=0
structure Out (V:LS)(s s':gJ):Prop where
 inv:Inv V s'
 ext:∃l,s'.bindings=s.bindings++l
 nx:s'.next=s.next
 ct:s'.count=s.count
 nd:s'.node=s.node
 ob:s'.obligations=s.obligations
theorem Out.fail{V:LS}{s:gJ}(h:Inv V s)(c:Int):Out V s (pG s c):=⟨h.fail c,⟨[],by rw [(vI s c).1,List.append_nil]⟩,(hDz s c).1,(hDz s c).2.1,(hDz s c).2.2.1,(hDz s c).2.2.2⟩
theorem Out.refl{V:LS}{s:gJ}(h:Inv V s):Out V s s:=⟨h,⟨[],by simp⟩,rfl,rfl,rfl,rfl⟩
theorem Out.trans{V:LS}{s s' s'':gJ}(h:Out V s s')(h':Out V s' s''):Out V s s'':=by
 obtain⟨l,e⟩:=h.ext;obtain⟨l',e'⟩:=h'.ext;exact⟨h'.inv,⟨l++l',by rw [e',e,List.append_assoc]⟩,h'.nx.trans h.nx,h'.ct.trans h.ct,h'.nd.trans h.nd,h'.ob.trans h.ob⟩
def Imp(w:gK)(fs:List gQ)(m d:Nat)(s s':gJ)(a b:gB):Prop:=∀r,Rok r→Slv r s'.bindings→HSt r s→HS 5 r a→HS 5 r b→HSt r s'∧(hg r a+cz fs a+cz fs b+1≤d→
 gG0 m s.next s.count s.node s.bindings s.equations s.obligations s.code s.at_ ⟨w,fs⟩ a b (40 - (d:Int))=some (s'.code,s'.at_,s'.bindings,s'.equations))
section
variable {w:gK}{k:Int}(hw:gO8 w k)(hi:gZp w){wh:List gW}{fs:List gQ}(hf:pK w wh=some fs)(hF:FV fs){V:LS}
include hw hf hF
theorem hQ1{d:Nat}{x:gB}(h:tw fs d x){r:gB × Bool × Bool}(hr:pY w wh x=some r):r.2.1=false:=by
 by_cases c:x.kind=3
 ·have:∃n,isInf n=false∧x=gF3 ⟨1,n,[]⟩∧0≤jZ fs ⟨addN,⟨1,n,[]⟩⟩:=by
   match d,h with
   | 0,h=>
     rcases h with rfl | h
     ·cases c
     ·exact h
   | d+1,h=>
     rcases h with (rfl | h) | ⟨u,rfl,_⟩
     ·cases c
     ·exact h
     ·cases c
  obtain⟨n,f,rfl,y⟩:=this;rw [hS4 hf f y] at hr;cases hr;rfl
 ·unfold pY at hr;simp only [lt_] at hr;rw [show (x.kind != 3)=true from bne_iff_ne.2 c] at hr;cases hr;rfl
theorem gY3{x:gB}(hx:DT V x)(hsz:tnd x≤2000){r:gB × Bool × Bool}(hr:pY w wh x=some r)(ht:r.2.1=true):tw fs 12 r.1∧(∀rr,hg rr r.1≤hg rr x)∧DT V r.1∧tnd r.1≤400:=by
 unfold pY at hr;simp only [lt_] at hr;cases c:(x.kind != 3)with
 | true=>rw [c] at hr;cases hr;cases ht
 | false=>
   have hk:x.kind=3:=by simpa using c
   rw [c,gI] at hr;cases hh:gG8 x with
   | true=>rw [hh] at hr;cases hr;cases ht
   | false=>
     obtain⟨y,f,h⟩:=gLv hw hf hF V 12 2000 100000 x hsz (by omega) (by omega) hx (by omega);have f:mE 100000 w wh x 12=some y:=f;unfold gAu at hr;rw [hh,gI,jO f] at hr;simp only [bnd] at hr;cases hc:(y.2 != 0)with
     | true=>rw [hc] at hr;cases hr;cases ht
     | false=>
       rw [hc] at hr;cases hr;have q:=h (by simpa using hc);exact⟨q.tw hk,q.hg,q.dt,q.sz⟩
theorem hLu{x:gB}(hx:DT V x)(hsz:tnd x≤2000){r:gB × Bool × Bool}(hr:pY w wh x=some r)(ht:r.2.1=true):x.kind=3∧gG8 x=false∧pm r.1≤pm x:=by
 unfold pY at hr;simp only [lt_] at hr;cases c:(x.kind != 3)with
 | true=>rw [c] at hr;cases hr;cases ht
 | false=>
   have hk:x.kind=3:=by simpa using c
   rw [c,gI] at hr;cases hh:gG8 x with
   | true=>rw [hh] at hr;cases hr;cases ht
   | false=>
     obtain⟨y,f,h⟩:=gLv hw hf hF V 12 2000 100000 x hsz (by omega) (by omega) hx (by omega);have f:mE 100000 w wh x 12=some y:=f;unfold gAu at hr;rw [hh,gI,jO f] at hr;simp only [bnd] at hr;cases hc:(y.2 != 0)with
     | true=>rw [hc] at hr;cases hr;cases ht
     | false=>
       rw [hc] at hr;cases hr;have q:=h (by simpa using hc);exact⟨hk,rfl,q.pm⟩
include hi
theorem gTj{x:gB}(hx:DT V x)(hsz:tnd x≤2000)(next count node:Int)(bs:List gG)(es:List jN)(os:List jP)(code att:Int)(hcode:code=0){r:gB × Bool × Bool}(hr:pY w wh x=some r) :
  ∃p,gG9 next count node bs es os code att ⟨w,fs⟩ x=some p∧((r.2.2=false∧p.2=(false,7,node))∨(r.2.2=true∧p.2=(r.2.1,code,att)∧(r.2.1=true→p.1=r.1))):=by
 subst hcode;unfold pY at hr;unfold gG9;rw [hLb x (by omega)];simp only [lt_] at hr;cases f:(x.kind != 3)with
 | true=>
   rw [f] at hr;cases hr;exact⟨_,rfl,.inr ⟨rfl,rfl,fun h=>by cases h⟩⟩
 | false=>
   rw [f,gI] at hr;cases hh:gG8 x with
   | true=>
     rw [hh] at hr;cases hr;exact⟨_,rfl,.inr ⟨rfl,rfl,fun h=>by cases h⟩⟩
   | false=>
     obtain⟨y,c,y2⟩:=gLv hw hf hF V 12 2000 100000 x hsz (by omega) (by omega) hx (by omega);have c:mE 100000 w wh x 12=some y:=c;have y3:qV 100000 ⟨w,fs⟩ x 0=some y:=(hOz hw hi hf hF V 12 2000 100000 100000 x hsz (by omega) (by omega) (by omega) hx (by omega)).trans c;unfold gAu at hr;rw [hh,gI,jO c] at hr;simp only [bnd,gI] at hr ⊢;rw [y3];simp only;cases hc:(y.2 != 0)with
     | true=>
       rw [hc] at hr;cases hr;exact⟨_,rfl,.inl ⟨rfl,rfl⟩⟩
     | false=>
       rw [hc] at hr;cases hr;exact⟨_,rfl,.inr ⟨rfl,rfl,fun _=>rfl⟩⟩
end
mutual
theorem hQ2:∀(t:gB),hpT t=false→pz t=tnd t
 | ⟨k,n,ts⟩,h=>by
   simp only [hpT,Bool.or_eq_false_iff] at h;simp only [pz,tnd,h.2,gI,hD8 ts h.1]
theorem hD8:∀(ts:List gB),hFk ts=false→pzs ts=gAb ts
 | [],_=>rfl
 | a::ts,h=>by
   simp only [hFk,Bool.or_eq_false_iff] at h;simp only [pzs,gAb,hQ2 a h.1,hD8 ts h.2]
end
def q1:LB:=[63,49]
def tyA:gB:=⟨1,[97],[]⟩
def Gs(R:LB→gB)(D:List Nat)(h:Nat):Prop:=h≤1∨(∃w,h=ph (R w)+1)∨h∈D
def KP(R:LB→gB)(z:gB):Prop:=z.kind=3→∃y,z=gF3 y∧(sb R y=R q1∨sb R y=yP∨sb R y=tyA∨sb R y=gGe yP)
def HP(R:LB→gB)(D:List Nat)(t:gB):Prop:=alS (fun z=>((z.kind=1∧z.args=[])∨(z.kind≠1∧Gs R D (ph (sb R z))))∧KP R z) t
mutual
theorem hA5{R:LB→gB}{D:List Nat}{l:List gG}(hl:gXv R l)(hb:∀v,(lkp v l).2=true→HP R D (lkp v l).1):∀(t:gB),HP R D t→HP R D (apT l t)
 | ⟨k,n,ts⟩,h=>by
   have ih:=hQ3 hl hb ts h.2;have e:=hN4 hl ⟨k,n,ts⟩;simp only [apT] at e ⊢;by_cases hk:k=1
   ·subst hk;have hts:ts=[]:=by
     rcases h.1.1 with c | c
     ·exact c.2
     ·exact absurd rfl c.1
    subst hts;cases hv:(lkp n l).2 with
    | true=>simp only [beq_self_eq_true,gT];exact hb n hv
    | false=>simp only [beq_self_eq_true,gT,gI];exact⟨⟨.inl ⟨rfl,rfl⟩,fun f=>absurd (show(1:Int)=3 from f) (by decide)⟩,trivial⟩
   ·rw [beq_false_of_ne hk,gI] at e ⊢;refine⟨⟨.inr ⟨hk,?_⟩,fun f=>?_⟩,ih⟩
    ·rcases h.1.1 with c | c
     ·exact absurd c.1 hk
     ·rw [e];exact c.2
    ·obtain⟨y,y1,y2⟩:=h.1.2 f;cases y1;exact⟨apT l y,rfl,by rw [hN4 hl y];exact y2⟩
theorem hQ3{R:LB→gB}{D:List Nat}{l:List gG}(hl:gXv R l)(hb:∀v,(lkp v l).2=true→HP R D (lkp v l).1):∀(ts:List gB),gRh (fun z=>((z.kind=1∧z.args=[])∨(z.kind≠1∧Gs R D (ph (sb R z))))∧KP R z) ts→gRh (fun z=>((z.kind=1∧z.args=[])∨(z.kind≠1∧Gs R D (ph (sb R z))))∧KP R z) (gK4 l ts)
 | [],_=>trivial
 | a::ts,h=>⟨hA5 hl hb a h.1,hQ3 hl hb ts h.2⟩
end
inductive PO (R:LB→gB)(D:List Nat):gB→gB→Prop
 | hp {a b:gB} (ha:HP R D a) (hb:HP R D b):PO R D a b
 | st {a b:gB} (ha:a.kind≠1) (hb:b.kind≠1) (h3:a.kind=3→HP R D a∧∀v∈b.args,HP R D v) (g3:b.kind=3→HP R D b∧∀u∈a.args,HP R D u) (h:∀(i:Nat)(u v:gB),a.args[i]? =some u→b.args[i]? =some v→PO R D u v):PO R D a b
theorem gRd(l:List gG):∀(ts:List gB)(i:Nat)(u:gB),(gK4 l ts)[i]? =some u→∃t,ts[i]? =some t∧u=apT l t
 | [],i,u,h=>by simp [gK4] at h
 | a::ts,0,u,h=>by simp only [gK4,List.getElem?_cons_zero,Option.some.injEq] at h;exact⟨a,rfl,h.symm⟩
 | a::ts,i+1,u,h=>by simp only [gK4,List.getElem?_cons_succ] at h ⊢;exact gRd l ts i u h
theorem hLv{l:List gG}{t:gB}(h:t.kind≠1):apT l t=⟨t.kind,t.name,gK4 l t.args⟩:=by
 obtain⟨k,n,ts⟩:=t;simp only [apT];rw [beq_false_of_ne h,gI]
theorem hD9{l:List gG}{ts:List gB}{u:gB}(h:u∈gK4 l ts):∃t∈ts,u=apT l t:=by
 obtain⟨i,hi⟩:=List.mem_iff_getElem?.1 h;obtain⟨t,c,f⟩:=gRd l ts i u hi;exact⟨t,List.mem_of_getElem? c,f⟩
theorem hXc{R:LB→gB}{D:List Nat}{l:List gG}(hl:gXv R l)(hb:∀v,(lkp v l).2=true→HP R D (lkp v l).1){a b:gB}(h:PO R D a b):PO R D (apT l a) b:=by
 induction h with
 | hp c f=>exact .hp (hA5 hl hb _ c) f
 | @st a b c f h3 g3 h ih=>
   have e:=hLv (l:=l) c;refine .st (by rw [e];exact c) f (fun hk=>?_) (fun hk=>⟨(g3 hk).1,fun u hu=>?_⟩) (fun i u v hu hv=>?_)
   ·obtain⟨k1,k2⟩:=h3 (by rw [e] at hk;exact hk);exact⟨hA5 hl hb _ k1,k2⟩
   ·rw [e] at hu;obtain⟨t,y,rfl⟩:=hD9 hu;exact hA5 hl hb _ ((g3 hk).2 t y)
   ·rw [e] at hu;obtain⟨t,y,rfl⟩:=gRd l _ i u hu;exact ih i t v y hv
theorem hXd{R:LB→gB}{D:List Nat}{l:List gG}(hl:gXv R l)(hb:∀v,(lkp v l).2=true→HP R D (lkp v l).1){a b:gB}(h:PO R D a b):PO R D a (apT l b):=by
 induction h with
 | hp f c=>exact .hp f (hA5 hl hb _ c)
 | @st a b f c h3 g3 h ih=>
   have e:=hLv (l:=l) c;refine .st f (by rw [e];exact c) (fun hk=>⟨(h3 hk).1,fun u hu=>?_⟩) (fun hk=>?_) (fun i u v hu hv=>?_)
   ·rw [e] at hu;obtain⟨t,y,rfl⟩:=hD9 hu;exact hA5 hl hb _ ((h3 hk).2 t y)
   ·obtain⟨k1,k2⟩:=g3 (by rw [e] at hk;exact hk);exact⟨hA5 hl hb _ k1,k2⟩
   ·rw [e] at hv;obtain⟨t,y,rfl⟩:=gRd l _ i v hv;exact ih i u t hu y
theorem hXe{R:LB→gB}{D:List Nat}{l:List gG}(hl:gXv R l)(hb:∀v,(lkp v l).2=true→HP R D (lkp v l).1){b:gB}:∀(n:Nat){a:gB},PO R D a b→PO R D (zk l n a) b
 | 0,_,h=>h
 | n+1,a,h=>by
   rw [zk];cases zbd l a && decide (tsz a < 4000)with
   | false=>exact h
   | true=>rw [gT];exact hXe hl hb n (hXc hl hb h)
theorem hXf{R:LB→gB}{D:List Nat}{l:List gG}(hl:gXv R l)(hb:∀v,(lkp v l).2=true→HP R D (lkp v l).1){a:gB}:∀(n:Nat){b:gB},PO R D a b→PO R D a (zk l n b)
 | 0,_,h=>h
 | n+1,b,h=>by
   rw [zk];cases zbd l b && decide (tsz b < 4000)with
   | false=>exact h
   | true=>rw [gT];exact hXf hl hb n (hXd hl hb h)
def Rn(R:LB→gB):Prop:=∀v,isInf v=false→R v=⟨1,v,[]⟩
theorem hXg(v:LB):ph ⟨1,v,[]⟩=0:=rfl
theorem hEb{t:gB}(h:gG8 t=false):∀v∈tvs t,isInf v=false:=by
 intro v hv;cases hi:isInf v with
 | false=>rfl
 | true=>
   have:gG8 t=true:=(gFf t).2 ⟨v,hv,hi⟩
   rw [h] at this;cases this
theorem hUe{R:LB→gB}{D:List Nat}{t:gB}(h:HP R D t):alS va t:=gMp (fun z hz hk=>by
 rcases hz.1 with c | c
 ·exact c.2
 ·exact absurd hk c.1) t h
mutual
theorem hXh{R:LB→gB}{D:List Nat}(hR:Rn R):∀(t:gB),HP R D t→(∀v∈tvs t,isInf v=false)→∀h,h≤ph (sb R t)→Gs R D h
 | ⟨k,n,ts⟩,hp,hv,h,hh=>by
   have ih:=hQ4 hR ts hp.2 (fun v hw=>hv v (by simp [tvs,hw]));by_cases hk:k=1
   ·subst hk;simp only [sb,beq_self_eq_true,gT] at hh;rw [hR n (hv n (by simp [tvs])),hXg] at hh;exact .inl (by omega)
   ·have hg:Gs R D (ph (sb R ⟨k,n,ts⟩)):=by
     rcases hp.1.1 with c | c
     ·exact absurd c.1 hk
     ·exact c.2
    rcases Nat.lt_or_ge h (ph (sb R ⟨k,n,ts⟩))with c | c
    ·simp only [sb,beq_false_of_ne hk,gI,ph] at c;cases f:(k==3)with
     | true=>rw [f,gT] at c;omega
     | false=>rw [f,gI] at c;exact ih h c
    ·have:h=ph (sb R ⟨k,n,ts⟩):=by omega
     rw [this];exact hg
theorem hQ4{R:LB→gB}{D:List Nat}(hR:Rn R):∀(ts:List gB),gRh (fun z=>((z.kind=1∧z.args=[])∨(z.kind≠1∧Gs R D (ph (sb R z))))∧KP R z) ts→(∀v∈gGc ts,isInf v=false)→∀h,h < phl (sbs R ts)→Gs R D h
 | [],_,_,h,hh=>by simp [sbs,phl] at hh
 | a::ts,hp,hv,h,hh=>by
   simp only [sbs,phl] at hh;by_cases c:h < 1+ph (sb R a)
   ·exact hXh hR a hp.1 (fun v hw=>hv v (by simp [gGc,hw])) h (by omega)
   ·exact hQ4 hR ts hp.2 (fun v hw=>hv v (by simp [gGc,hw])) h (by omega)
end
mutual
theorem hXi:∀(t:gB),ph t≤pm t
 | ⟨k,n,ts⟩=>by
   have:=hLw ts
   simp only [ph,pm];cases k==3<;>simp only [gT,gI]<;>omega
theorem hLw:∀(ts:List gB),phl ts≤pml ts
 | []=>Nat.le_refl _
 | a::ts=>by have:=hXi a;have:=hLw ts;simp only [phl,pml];omega
end
mutual
theorem hXj:∀(t:gB),alS (fun z=>z.kind=3→pm z≤1) t→pm t≤ph t+1
 | ⟨k,n,ts⟩,h=>by
   have ih:=hLx ts h.2;by_cases hk:k=3
   ·have:=h.1 hk
    omega
   ·simp only [pm,ph];rw [beq_false_of_ne hk];simp only [gI];exact ih
theorem hLx:∀(ts:List gB),gRh (fun z=>z.kind=3→pm z≤1) ts→pml ts≤phl ts+1
 | [],_=>by simp [pml]
 | a::ts,h=>by have:=hXj a h.1;have:=hLx ts h.2;simp only [phl,pml];omega
end
mutual
theorem hXk{R:LB→gB}{D:List Nat}(hR:Rn R){M:Nat}(hM:tnd (R q1)=M):∀(t:gB),HP R D t→(∀v∈tvs t,isInf v=false)→tnd t≤M→alS (fun z=>z.kind=3→pm z≤1) t
 | ⟨k,n,ts⟩,hp,hv,hs=>by
   simp only [tnd] at hs;refine⟨fun hk=>?_,hQ5 hR hM ts hp.2 (fun v hw=>hv v (by simp [tvs,hw])) (by omega)⟩;obtain⟨y,f,c⟩:=hp.1.2 hk;cases f;have hy:HP R D y:=hp.2.1;have e:sb R y=y:=hIf y (hUe hy) (fun v hw=>hR v (hv v (by simp [tvs,gGc,hw])));rw [e] at c;have e3:∀z,pm (gF3 z)=pm z:=fun z=>by simp [gF3,pm,pmx,cnd]
   show pm (gF3 y)≤1;rw [e3];rcases c with h | h | h | h
   ·exfalso;rw [←h] at hM
    simp only [gAb] at hs;omega
   ·rw [h];decide
   ·rw [h];decide
   ·rw [h];decide
theorem hQ5{R:LB→gB}{D:List Nat}(hR:Rn R){M:Nat}(hM:tnd (R q1)=M):∀(ts:List gB),gRh (fun z=>((z.kind=1∧z.args=[])∨(z.kind≠1∧Gs R D (ph (sb R z))))∧KP R z) ts→(∀v∈gGc ts,isInf v=false)→gAb ts≤M→gRh (fun z=>z.kind=3→pm z≤1) ts
 | [],_,_,_=>trivial
 | a::ts,hp,hv,hs=>by
   simp only [gAb] at hs;exact⟨hXk hR hM a hp.1 (fun v hw=>hv v (by simp [gGc,hw])) (by omega),hQ5 hR hM ts hp.2 (fun v hw=>hv v (by simp [gGc,hw])) (by omega)⟩
end
theorem hXl{R:LB→gB}{D:List Nat}(hR:Rn R){x:gB}(hp:HP R D x)(h3:x.kind=3)(hv:gG8 x=false):∀h,h≤pm x→Gs R D h:=by
 intro h hh;have hvs:=hEb hv;obtain⟨y,rfl,f⟩:=(gP6 hp).2 h3;have hy:HP R D y:=hp.2.1;have hvy:∀v∈tvs y,isInf v=false:=fun v hw=>hvs v (by simp [gF3,tvs,gGc,hw]);have e:sb R y=y:=hIf y (hUe hy) (fun v hw=>hR v (hvy v hw));have e3:pm (gF3 y)=pm y:=by simp [gF3,pm,pmx,cnd]
 rw [e3] at hh;rw [e] at f;rcases f with c | c | c | c
 ·have h2:=hXj y (hXk hR (M:=tnd y) (by rw [c]) y hy hvy (Nat.le_refl _));rcases Nat.lt_or_ge (ph y) h with h4 | h4
  ·exact .inr (.inl ⟨q1,by rw [←c];omega⟩)
  ·exact hXh hR y hy hvy h (by rw [e];exact h4)
 ·rw [c] at hh;exact .inl (by have:pm yP=0:=rfl;omega)
 ·rw [c] at hh;exact .inl (by have:pm tyA=0:=rfl;omega)
 ·rw [c] at hh;exact .inl (by have:pm (gGe yP)=1:=rfl;omega)
theorem hXm{R:LB→gB}{D:List Nat}(hR:Rn R){fs:List gQ}:∀{d:Nat}{t:gB},tw fs d t→(∀v∈tvs t,v=[97]∨isInf v=true)→(∀h,h≤ph t→Gs R D h)→HP R D t
 | 0,t,h,hv,hg=>tw_HP0 hR h hv
 | d+1,t,h,hv,hg=>by
   rcases h with h | ⟨u,rfl,c⟩
   ·exact tw_HP0 hR h hv
   ·have y:ph (gGe u)=1+ph u:=by simp [gGe,ph,phl,cnd]
    have hn:gG8 (gGe u)=false:=hDy (d:=d+1) (fs:=fs) (.inr ⟨u,rfl,c⟩);have hu:=hXm hR c (fun v hw=>hv v (by simp [gGe,tvs,gGc,hw])) (fun h hh=>hg h (by omega));refine⟨⟨.inr ⟨show(2:Int)≠1 from by decide,?_⟩,fun h=>absurd (show(2:Int)=3 from h) (by decide)⟩,hu,trivial⟩;have e:sb R (gGe u)=gGe u:=hIf _ ⟨fun h=>absurd (show(2:Int)=1 from h) (by decide),hUe hu,trivial⟩ (fun v hw=>hR v (hEb hn v hw));show Gs R D (ph (sb R (gGe u)));rw [e];exact hg _ (Nat.le_refl _)
where
 tw_HP0 {R:LB→gB} {D:List Nat} (hR:Rn R) {fs:List gQ} {t:gB} (h:t=yP∨∃n,isInf n=false∧t=gF3 ⟨1,n,[]⟩∧0≤jZ fs ⟨addN,⟨1,n,[]⟩⟩) (hv:∀v∈tvs t,v=[97]∨isInf v=true):HP R D t:=by
  rcases h with rfl | ⟨n,f,rfl,_⟩
  ·exact⟨⟨.inr ⟨show(2:Int)≠1 from by decide,.inl (Nat.zero_le _)⟩,fun h=>absurd (show(2:Int)=3 from h) (by decide)⟩,trivial⟩
  ·have hn:n=[97]:=by
    rcases hv n (by simp [gF3,tvs,gGc])with h | h
    ·exact h
    ·rw [f] at h;cases h
   subst hn;have hs:sb R ⟨1,[97],[]⟩=tyA:=by simp only [sb,beq_self_eq_true,gT];exact hR [97] f
   exact⟨⟨.inr ⟨show(3:Int)≠1 from by decide,.inl (Nat.zero_le _)⟩,fun _=>⟨_,rfl,.inr (.inr (.inl hs))⟩⟩,⟨⟨.inl ⟨rfl,rfl⟩,fun h=>absurd (show(1:Int)=3 from h) (by decide)⟩,trivial⟩,trivial⟩
theorem hPb{t:gB}(h:t.kind=1):t.name∈tvs t:=by
 obtain⟨k,n,ts⟩:=t;simp only at h;subst h;simp [tvs]
theorem hEc{R:LB→gB}{D:List Nat}{l0:List gG}(hr:∀v,v∉dom l0→R v=⟨1,v,[]⟩):∀(l p:List gG),l0=p++l→Tri l→(∀b∈l,HP R D b.type_∧R b.var_=sb R b.type_∧∀v∈tvs b.type_,v∉dom p)→∀v∈dom l,Gs R D (ph (R v))
 | [],_,_,_,_,v,hv=>by simp [dom] at hv
 | b::l,p,e,ht,h,v,hv=>by
   obtain⟨t1,t2,t3⟩:=gQ4 ht
   have ih:=hEc hr l (p++[b]) (by rw [e];simp) t3 (fun c hc=>⟨(h c (by simp [hc])).1,(h c (by simp [hc])).2.1,fun u hu hd=>by
    simp only [dom,List.map_append,List.mem_append,List.map_cons,List.map_nil,List.mem_singleton] at hd;rcases hd with hd | hd
    ·exact(h c (by simp [hc])).2.2 u hu hd
    ·subst hd;exact(t2 c hc).2 hu⟩)
   simp only [dom,List.map_cons,List.mem_cons] at hv;rcases hv with rfl | hv
   ·obtain⟨h1,h2,h3⟩:=h b (by simp);rw [h2];rcases(gP6 h1).1 with ⟨f,y⟩ | ⟨_,y⟩
    ·rw [gHr f];have hm:b.type_.name∈tvs b.type_:=hPb f;by_cases hd:b.type_.name∈dom l
     ·exact ih _ hd
     ·rw [hr _ (fun hd0=>?_)]
      ·exact .inl (Nat.zero_le _)
      ·rw [e] at hd0;simp only [dom,List.map_append,List.mem_append,List.map_cons,List.mem_cons] at hd0;rcases hd0 with hd0 | hd0 | hd0
       ·exact h3 _ hm hd0
       ·exact t1 (by rw [←hd0];exact hm)
       ·exact hd hd0
    ·exact y
   ·exact ih v hv
theorem hXn{l:List gG}(ht:Tri l){b:gG}(hb:b∈l):slT l b.var_=sb (slT l) b.type_:=by
 obtain⟨i,hi⟩:=List.mem_iff_getElem?.1 hb;have hv:(lkp b.var_ l).2=true:=hGo (by unfold dom;exact List.mem_map.2 ⟨b,hb,rfl⟩);obtain⟨j,c,f,h,y⟩:=hDo hv;rw [←hCp ht _ hv,y];have hij:i=j:=by
  rcases Nat.lt_trichotomy i j with hlt | heq | hgt
  ·exfalso;refine(ht j c f).1 ?_
   rw [h];unfold dom;have hg:(l.take j)[i]? =some b:=by rw [List.getElem?_take,if_pos hlt];exact hi
   exact List.mem_map.2 ⟨b,List.mem_of_getElem? hg,rfl⟩
  ·exact heq
  ·exfalso;refine(ht i b hi).1 ?_
   rw [←h];unfold dom;have hg:(l.take i)[j]? =some c:=by rw [List.getElem?_take,if_pos hgt];exact f
   exact List.mem_map.2 ⟨c,List.mem_of_getElem? hg,rfl⟩
 subst hij;rw [hi] at f;cases f;rfl
theorem hXo{l:List gG}(ht:Tri l){D:List Nat}(h:∀b∈l,HP (slT l) D b.type_)(v:LB):Gs (slT l) D (ph (slT l v)):=by
 by_cases hv:v∈dom l
 ·exact hEc (l0:=l) (fun v hv=>gPq hv) l [] rfl ht (fun b hb=>⟨h b hb,hXn ht hb,fun v _ hd=>by simp [dom] at hd⟩) v hv
 ·rw [gPq hv];exact .inl (Nat.zero_le _)
section
variable {P:LB→Nat}{L:LS}{D:List Nat}(hz:∀v,v∉L→P v=0)
def rk(P:LB→Nat)(L:LS)(v:LB):Nat:=L.countP (fun u=>decide (P u < P v))
theorem hF3{v w:LB}(hw:w∈L)(h:P w < P v):rk P L w < rk P L v:=gOe (l:=L) (fun x _ hx=>by have:=of_decide_eq_true hx;exact decide_eq_true (by omega)) hw (by simp) (by simpa using h)
def Jmp(P:LB→Nat)(j:Nat)(d:Nat):Prop:=d≤j∨∃w,P w < d∧d≤P w+j
include hz
theorem jFz(hg:∀v,P v≤1∨(∃w,P v=P w+1)∨P v∈D)(hd:∀d∈D,Jmp P 2 d):∀(n:Nat)(v:LB),rk P L v≤n→P v≤2*(n+1):=by
 intro n
 induction n with
 | zero=>
   intro v hv;have low:∀w,P w < P v→P w=0:=fun w h=>by
    by_cases hw:w∈L
    ·have:=hF3 hw h;omega
    ·exact hz w hw
   rcases hg v with h | ⟨w,h⟩ | h
   ·omega
   ·have:=low w (by omega);omega
   ·rcases hd _ h with h | ⟨w,c,f⟩
    ·omega
    ·have:=low w c;omega
 | succ n ih=>
   intro v hv;have low:∀w,P w < P v→P w≤2*(n+1):=fun w h=>by
    by_cases hw:w∈L
    ·have:=hF3 hw h;exact ih w (by omega)
    ·have:=hz w hw;omega
   rcases hg v with h | ⟨w,h⟩ | h
   ·omega
   ·have:=low w (by omega);omega
   ·rcases hd _ h with h | ⟨w,c,f⟩
    ·omega
    ·have:=low w c;omega
theorem jIg(hg:∀v,P v≤1∨(∃w,P v=P w+1)∨P v∈D)(hd:∀d∈D,Jmp P 2 d):∀(n:Nat)(v:LB),rk P L v≤n→P v=2*(n+1)→∀m,m≤n→2*(m+1)∈D:=by
 intro n
 induction n with
 | zero=>
   intro v hv e m hm;have low:∀w,P w < P v→P w=0:=fun w h=>by
    by_cases hw:w∈L
    ·have:=hF3 hw h;omega
    ·exact hz w hw
   obtain rfl:m=0:=by omega
   rcases hg v with h | ⟨w,h⟩ | h
   ·omega
   ·have:=low w (by omega);omega
   ·rw [←e];exact h
 | succ n ih=>
   intro v hv e m hm;have low:∀w,P w < P v→(w∈L∧rk P L w≤n∧P w≤2*(n+1))∨P w=0:=fun w h=>by
    by_cases hw:w∈L
    ·have:=hF3 hw h;exact .inl ⟨hw,by omega,jFz hz hg hd n w (by omega)⟩
    ·exact .inr (hz w hw)
   rcases hg v with h | ⟨w,h⟩ | h
   ·omega
   ·rcases low w (by omega)with ⟨_,_,c⟩ | c<;>omega
   ·rcases Nat.lt_or_ge n m with hmn | hmn
    ·obtain rfl:m=n+1:=by omega
     rw [←e];exact h
    ·rcases hd _ h with h | ⟨w,c,h2⟩
     ·omega
     ·rcases low w c with ⟨_,f,y⟩ | y
      ·exact ih w f (by omega) m hmn
      ·omega
theorem jIh{e0:Nat}(hg:∀v,P v≤1∨(∃w,P v=P w+1)∨P v=e0∨P v∈D)(hd:∀d∈D,Jmp P 2 d)(he:Jmp P 3 e0):∀(n:Nat)(v:LB),rk P L v≤n→P v≤2*(n+1)+1∧(P v < e0→P v≤2*(n+1)):=by
 intro n
 induction n with
 | zero=>
   intro v hv;have low:∀w,P w < P v→P w=0:=fun w h=>by
    by_cases hw:w∈L
    ·have:=hF3 hw h;omega
    ·exact hz w hw
   rcases hg v with h | ⟨w,h⟩ | h | h
   ·omega
   ·have:=low w (by omega);omega
   ·rcases he with c | ⟨w,c,f⟩
    ·omega
    ·have:=low w (by omega);omega
   ·rcases hd _ h with h | ⟨w,c,f⟩
    ·omega
    ·have:=low w c;omega
 | succ n ih=>
   intro v hv;have low:∀w,P w < P v→P w≤2*(n+1)+1∧(P w < e0→P w≤2*(n+1)):=fun w h=>by
    by_cases hw:w∈L
    ·have:=hF3 hw h;exact ih w (by omega)
    ·have:=hz w hw;omega
   rcases hg v with h | ⟨w,h⟩ | h | h
   ·omega
   ·have:=low w (by omega);omega
   ·rcases he with c | ⟨w,c,f⟩
    ·omega
    ·have:=low w (by omega);omega
   ·rcases hd _ h with h | ⟨w,c,f⟩
    ·omega
    ·have:=low w c;omega
theorem jD3(hL:L.length≤4)(v:LB):rk P L v≤3:=by
 by_cases hv:v∈L
 ·have c:=gOe (l:=L) (p:=fun u=>decide (P u < P v)) (q:=fun _=>true) (fun _ _ _=>rfl) hv (by simp) rfl;rw [List.countP_true] at c;unfold rk;omega
 ·have:L.countP (fun u=>decide (P u < P v))=0:=by rw [hz v hv];simp
  unfold rk;omega
theorem hZ6(hL:L.length≤4){Ds E:List Nat}(hs:Ds.length≤3)(hg:∀v,P v≤1∨(∃w,P v=P w+1)∨P v∈Ds++E)(hd:∀d∈Ds++E,Jmp P 2 d):(∀v,P v≤8)∧((∀v,P v≤7)∨∃e∈E,2≤e∧e≤8):=by
 have hA:∀v,P v≤8:=fun v=>jFz hz hg hd 3 v (jD3 hz hL v);refine⟨hA,?_⟩;by_cases c:∀v,P v≤7
 ·exact .inl c
 ·right;obtain⟨v,hv⟩:∃v,P v=8:=by
   refine Classical.byContradiction fun hn=>c fun v=>?_;have y:=hA v;rcases Nat.lt_or_ge (P v) 8 with f | f
   ·omega
   ·exact absurd ⟨v,by omega⟩ hn
  have hB:=jIg hz hg hd 3 v (jD3 hz hL v) (by omega);refine Classical.byContradiction fun hn=>?_;have hin:∀m,m≤3→2*(m+1)∈Ds:=fun m hm=>by
   rcases List.mem_append.1 (hB m hm)with h | h
   ·exact h
   ·exact absurd ⟨_,h,by omega,by omega⟩ hn
  have:=pig [2,4,6,8] Ds (by decide) (fun x hx=>by
   simp only [List.mem_cons,List.not_mem_nil,or_false] at hx;rcases hx with rfl | rfl | rfl | rfl
   ·exact hin 0 (by omega)
   ·exact hin 1 (by omega)
   ·exact hin 2 (by omega)
   ·exact hin 3 (by omega))
  simp only [List.length_cons,List.length_nil] at this;omega
end
def Lf(t:gB):Prop:=(∃v,t=⟨1,v,[]⟩)∨(∃n,t=⟨2,n,[]⟩)∨∃y,t=gF3 y∧(y=⟨1,q1,[]⟩∨y=yP∨y=tyA∨y=gGe yP)
def Dr:Nat→gB→Prop
 | 0,t=>Lf t
 | d+1,t=>Lf t∨∃n ts,t=⟨2,n,ts⟩∧ts.length≤2∧ts≠[]∧∀u∈ts,Dr d u
theorem Dr.lf{d:Nat}{t:gB}(h:Lf t):Dr d t:=by
 cases d with
 | zero=>exact h
 | succ d=>exact .inl h
section
variable {R:LB→gB}(hR:Rn R)
theorem gW9{D:List Nat}{n:LB}{ts:List gB}(hts:∀u∈ts,HP R D u)(h:Gs R D (ph (sb R ⟨2,n,ts⟩))):HP R D ⟨2,n,ts⟩:=⟨⟨.inr ⟨show(2:Int)≠1 from by decide,h⟩,fun h=>absurd (show(2:Int)=3 from h) (by decide)⟩,gWx.2 hts⟩
theorem hZ9{D:List Nat}(v:LB):HP R D ⟨1,v,[]⟩:=⟨⟨.inl ⟨rfl,rfl⟩,fun h=>absurd (show(1:Int)=3 from h) (by decide)⟩,trivial⟩
theorem hGe{D:List Nat}(n:LB):HP R D ⟨2,n,[]⟩:=gW9 (by simp) (.inl (Nat.zero_le _))
include hR
theorem Lf.hp{D:List Nat}{t:gB}(h:Lf t):HP R D t:=by
 have hI:HP R D yP:=hGe _;have hs:sb R tyA=tyA:=by
  rw [gHr rfl];exact hR [97] (by decide)
 rcases h with ⟨v,rfl⟩ | ⟨n,rfl⟩ | ⟨y,rfl,hy⟩
 ·exact hZ9 v
 ·exact hGe n
 ·refine⟨⟨.inr ⟨show(3:Int)≠1 from by decide,.inl (Nat.zero_le _)⟩,fun _=>⟨y,rfl,?_⟩⟩,?_,trivial⟩
  ·rcases hy with rfl | rfl | rfl | rfl
   ·exact .inl (gHr rfl)
   ·exact .inr (.inl rfl)
   ·exact .inr (.inr (.inl hs))
   ·exact .inr (.inr (.inr rfl))
  ·rcases hy with rfl | rfl | rfl | rfl
   ·exact hZ9 _
   ·exact hI
   ·exact hZ9 _
   ·exact gW9 (fun u hu=>by simp only [List.mem_singleton] at hu;subst hu;exact hI) (.inl (Nat.le_refl 1))
theorem Dr.jmp:∀{d:Nat}{t:gB},Dr d t→t.kind=1∨Jmp (fun v=>ph (R v)) d (ph (sb R t))
 | 0,t,h=>by
   rcases h with ⟨v,rfl⟩ | ⟨n,rfl⟩ | ⟨y,rfl,_⟩
   ·exact .inl rfl
   ·exact .inr (.inl (Nat.zero_le _))
   ·exact .inr (.inl (Nat.zero_le _))
 | d+1,t,h=>by
   rcases h with h | ⟨n,ts,rfl,c,f,h3⟩
   ·rcases h with ⟨v,rfl⟩ | ⟨n,rfl⟩ | ⟨y,rfl,_⟩
    ·exact .inl rfl
    ·exact .inr (.inl (Nat.zero_le _))
    ·exact .inr (.inl (Nat.zero_le _))
   ·right;have e:ph (sb R ⟨2,n,ts⟩)=phl (sbs R ts):=by
     rw [gUk (x:=⟨2,n,ts⟩) (show(2:Int)≠1 from by decide)];simp [ph,cnd]
    rw [e];have key:∀(ts:List gB),(∀u∈ts,Dr d u)→ts≠[]→Jmp (fun v=>ph (R v)) (d+1) (phl (sbs R ts)):=by
     intro ts
     induction ts with
     | nil=>intro _ h;exact absurd rfl h
     | cons a ts ih=>
       intro h _;simp only [sbs,phl];have ha:Jmp (fun v=>ph (R v)) (d+1) (1+ph (sb R a)):=by
        rcases Dr.jmp (h a (by simp))with c | c | ⟨w,c,f⟩
        ·rw [gHr c];exact .inr ⟨a.name,by show ph (R a.name) < _;omega,by show _≤ph (R a.name)+(d+1);omega⟩
        ·exact .inl (by omega)
        ·exact .inr ⟨w,by omega,by omega⟩
       by_cases hts:ts=[]
       ·subst hts;simp only [sbs,phl]
        rwa [Nat.max_eq_left (Nat.zero_le _)]
       ·have hb:=ih (fun u hu=>h u (by simp [hu])) hts;rcases Nat.le_total (1+ph (sb R a)) (phl (sbs R ts))with hm | hm
        ·rwa [Nat.max_eq_right hm]
        ·rwa [Nat.max_eq_left hm]
    exact key ts h3 f
theorem Dr.hp1{D:List Nat}{t:gB}(h:Dr 1 t):HP R D t:=by
 have hj:=Dr.jmp hR h;rcases h with h | ⟨n,ts,rfl,h1,h2,y⟩
 ·exact h.hp hR
 ·refine gW9 (fun u hu=>Lf.hp hR (y u hu)) ?_;rcases hj with h | h | ⟨w,c,f⟩
  ·exact absurd (show(2:Int)=1 from h) (by decide)
  ·exact .inl h
  ·exact .inr (.inl ⟨w,by show _=ph (R w)+1;have c:ph (R w) < _:=c;have f:_≤ph (R w)+1:=f;omega⟩)
theorem Dr.hpc{D:List Nat}{t:gB}(h:Dr 2 t):∀u∈t.args,HP R D u:=by
 intro u hu;rcases h with h | ⟨n,ts,rfl,f,y,c⟩
 ·exact gAa (h.hp hR) u hu
 ·exact Dr.hp1 hR (c u hu)
theorem Dr.hp2{D:List Nat}{t:gB}(h:Dr 2 t)(hd:t.kind=1∨ph (sb R t)∈D):HP R D t:=by
 have hc:=Dr.hpc hR (D:=D) h;rcases h with h | ⟨n,ts,rfl,c,f,y⟩
 ·exact h.hp hR
 ·refine gW9 hc ?_;rcases hd with hd | hd
  ·exact absurd (show(2:Int)=1 from hd) (by decide)
  ·exact .inr (.inr hd)
theorem Dr.lf3{d:Nat}{t:gB}(h:Dr d t)(c:t.kind=3):Lf t:=by
 cases d with
 | zero=>exact h
 | succ d=>
   rcases h with h | ⟨n,ts,rfl,_⟩
   ·exact h
   ·exact absurd (show(2:Int)=3 from c) (by decide)
def dd(R:LB→gB)(p q:gB):Nat:=if p.kind=1 then(if q.kind=1 then 0 else ph (sb R q))else(if q.kind=1 then ph (sb R p)else 0)
theorem hPs{d:Nat}{p q:gB}(hp:Dr d p)(hq:Dr d q):Jmp (fun v=>ph (R v)) d (dd R p q):=by
 have y:Jmp (fun v=>ph (R v)) d 0:=.inl (Nat.zero_le _);unfold dd;by_cases f:p.kind=1
 ·rw [if_pos f];by_cases c:q.kind=1
  ·rw [if_pos c];exact y
  ·rw [if_neg c];rcases Dr.jmp hR hq with h | h
   ·exact absurd h c
   ·exact h
 ·rw [if_neg f];by_cases c:q.kind=1
  ·rw [if_pos c];rcases Dr.jmp hR hp with h | h
   ·exact absurd h f
   ·exact h
  ·rw [if_neg c];exact y
theorem hUx{D:List Nat}{p q:gB}(hp:Dr 2 p)(hq:Dr 2 q)(hd:dd R p q∈D):PO R D p q:=by
 unfold dd at hd;by_cases f:p.kind=1
 ·rw [if_pos f] at hd;refine .hp (hp.hp2 hR (.inl f)) (hq.hp2 hR ?_);by_cases c:q.kind=1
  ·exact .inl c
  ·rw [if_neg c] at hd;exact .inr hd
 ·rw [if_neg f] at hd;by_cases c:q.kind=1
  ·rw [if_pos c] at hd;exact .hp (hp.hp2 hR (.inr hd)) (hq.hp2 hR (.inl c))
  ·exact .st f c (fun h=>⟨(Dr.lf3 hR hp h).hp hR,hq.hpc hR⟩) (fun h=>⟨(Dr.lf3 hR hq h).hp hR,hp.hpc hR⟩) (fun i u v hu hv=>.hp (hp.hpc hR u (List.mem_of_getElem? hu)) (hq.hpc hR v (List.mem_of_getElem? hv)))
end
theorem Gs.up{R:LB→gB}{D D':List Nat}(hD:∀d∈D,d∈D'){h:Nat}(g:Gs R D h):Gs R D' h:=by
 rcases g with g | g | g
 ·exact .inl g
 ·exact .inr (.inl g)
 ·exact .inr (.inr (hD _ g))
theorem HP.up{R:LB→gB}{D D':List Nat}(hD:∀d∈D,d∈D'){t:gB}(h:HP R D t):HP R D' t:=gMp (fun z hz=>⟨hz.1.imp id (fun g=>⟨g.1,g.2.up hD⟩),hz.2⟩) t h
section
variable {R:LB→gB}(hR:Rn R)
theorem gGo{t:gB}(c:alS tw2 (sb R t)){m:Nat}(h:ph (sb R t)≤m)(hm:m≤10):pz (sb R t) < 4000:=by
 have f:=hS3 _ c
 have:2^(ph (sb R t)+1)≤2^11:=Nat.pow_le_pow_right (by omega) (by omega)
 omega
theorem hUy{x:gB}(h:alS tw2 x){m:Nat}(hm:ph x≤m):pz x < 2^(m+1):=by
 have c:=hS3 _ h
 have:2^(ph x+1)≤2^(m+1):=Nat.pow_le_pow_right (by omega) (by omega)
 omega
theorem hRf{n:LB}{ts:List gB}(c:alS tw2 (sb R ⟨2,n,ts⟩))(hc:∀u∈ts,ph (sb R u)≤10)(hl:∃u∈ts,ph (sb R u)≤8):pz (sb R ⟨2,n,ts⟩) < 4000:=by
 have e:sb R ⟨2,n,ts⟩=⟨2,n,sbs R ts⟩:=gUk (x:=⟨2,n,ts⟩) (show(2:Int)≠1 from by decide);rw [e] at c ⊢
 have hp:∀u∈ts,pz (sb R u) < 2^11:=fun u hu=>hUy (gAa c _ (by
  have:∀(ts:List gB),u∈ts→sb R u∈sbs R ts:=by
   intro ts
   induction ts with
   | nil=>intro h;simp at h
   | cons a ts ih=>
     intro h;simp only [sbs,List.mem_cons] at h ⊢;rcases h with rfl | h
     ·exact .inl rfl
     ·exact .inr (ih h)
  exact this ts hu)) (hc u hu)
 have hlow:∀u∈ts,ph (sb R u)≤8→pz (sb R u) < 2^9:=fun u hu h=>hUy (gAa c _ (by
  have:∀(ts:List gB),u∈ts→sb R u∈sbs R ts:=by
   intro ts
   induction ts with
   | nil=>intro h;simp at h
   | cons a ts ih=>
     intro h;simp only [sbs,List.mem_cons] at h ⊢;rcases h with rfl | h
     ·exact .inl rfl
     ·exact .inr (ih h)
  exact this ts hu)) h
 have hlen:ts.length≤2:=by
  have:=gP6 c
  unfold tw2 at this;simp only [gZ6] at this;exact this
 obtain⟨u,hu,hu8⟩:=hl;have y:(2:Nat)^9=512:=by decide
 have f:(2:Nat)^11=2048:=by decide
 match ts,hlen with
 | [],_=>simp at hu
 | [a],_=>
   have:=hp a (by simp)
   simp [pz,pzs,sbs,cnd];omega
 | [a,b],_=>
   have h1:=hp a (by simp);have h3:=hp b (by simp);simp only [List.mem_cons,List.not_mem_nil,or_false] at hu;have h4:pz (sb R a) < 512∨pz (sb R b) < 512:=by
    rcases hu with rfl | rfl
    ·exact .inl (by have:=hlow u (by simp) hu8;omega)
    ·exact .inr (by have:=hlow u (by simp) hu8;omega)
   simp [pz,pzs,sbs,cnd];omega
include hR
theorem Dr.bd{d:Nat}{t:gB}(h:Dr d t){M:Nat}(hM:∀v,ph (R v)≤M):ph (sb R t)≤M+d:=by
 rcases Dr.jmp hR h with h | h | ⟨w,_,h⟩
 ·rw [gHr h];have:=hM t.name;omega
 ·omega
 ·have h:ph (sb R t)≤ph (R w)+d:=h
  have:=hM w;omega
theorem Dr.args3{t:gB}(h:Dr 3 t):Lf t∨∃n ts,t=⟨2,n,ts⟩∧∀u∈ts,Dr 2 u:=by
 rcases h with h | ⟨n,ts,c,_,_,f⟩
 ·exact .inl h
 ·exact .inr ⟨n,ts,c,f⟩
theorem Dr.sz{t:gB}(h:Dr 3 t)(c:alS tw2 (sb R t))(f:∀v,ph (R v)≤8)(hl:(∀v,ph (R v)≤7)∨t.kind≠2∨∃u∈t.args,ph (sb R u)≤8):pz (sb R t) < 4000:=by
 rcases hl with h7 | hk | ⟨u,hu,hu8⟩
 ·exact gGo c (h.bd hR h7) (by omega)
 ·rcases Dr.args3 hR h with (⟨v,rfl⟩ | ⟨n,rfl⟩ | ⟨y,rfl,_⟩) | ⟨n,ts,rfl,_⟩
  ·exact gGo c (m:=8) (by rw [gHr rfl];exact f v) (by omega)
  ·exact absurd rfl hk
  ·exact gGo c (m:=0) (Nat.le_refl _) (by omega)
  ·exact absurd rfl hk
 ·rcases Dr.args3 hR h with (⟨v,rfl⟩ | ⟨n,rfl⟩ | ⟨y,rfl,_⟩) | ⟨n,ts,rfl,h3⟩
  ·simp at hu
  ·simp at hu
  ·exact gGo c (m:=0) (Nat.le_refl _) (by omega)
  ·exact hRf c (fun u hu=>by have:=(h3 u hu).bd hR f;omega) ⟨u,hu,hu8⟩
end
def gDr(a1:gK)(a2:List gW)(x2:Int × jB):Nat→LB→Int→Int→Int→Int→Int→(List gG)→(List jN)→(List jP)→Int→Int→Int→Option (gJ × jB)
 | 0,y3,y4,y5,y6,y7,y8,y9,ab,ac,ad,ae,y=>none
 | ag+1,y3,y4,y5,y6,y7,y8,y9,ab,ac,ad,ae,y=>(cnd (decide (y < x2.1)) (
bnd (gHi 5000 (jB.mk y3 y4 y5) 2) fun ah=>
bnd (gHi 5000 ah.2 2) fun aa=>
bnd (vJ a1 a2 (gJ.mk y6 y7 y8 y9 ab ac ad ae) ah.1 aa.1) fun c=>
(cnd (c.code==0) (
gDr a1 a2 x2 ag aa.2.b aa.2.i aa.2.h c.next c.count c.node c.bindings c.equations c.obligations c.code c.at_ (IntKind.i64.wrap (y+1))) (
bnd (gEb aa.2 12) fun f=>
(cnd f.1 (
gDr a1 a2 x2 ag f.2.b f.2.i f.2.h c.next c.count c.node c.bindings c.equations c.obligations c.code c.at_ (IntKind.i64.wrap (y+1))) (
gDr a1 a2 x2 ag f.2.b f.2.i f.2.h y6 y7 y8 y9 ab ac ad ae (IntKind.i64.wrap (y+1))))))) (some ((gJ.mk y6 y7 y8 y9 ab ac ad ae),(jB.mk y3 y4 y5))))
def gU8(c:jB)(a1:gK)(a2:List gW)(n0:Nat):Option (gJ × jB):=
bnd (gAg c 5) fun y=>
bnd (gAg y.2 4) fun f=>
gDr a1 a2 f n0 f.2.b f.2.i f.2.h 4 0 y.1 [] [] [] 0 0 0
theorem hRg(c:jB)(a1:gK)(a2:List gW){n0:Nat}{r:gJ × jB}(h:gU8 c a1 a2 n0=some r):Go.Eng.Spec Tryz.prog 20 [.ptr 0 0,.d (kT a1),.L 4 (kY a2)] [bCu c.b c.i c.h] (fun sv Lo=>sv=.d (mJ r.1)∧Lo=[bCu r.2.b r.2.i r.2.h]):=by
 obtain⟨br,bt,bu⟩:=c;obtain⟨ba⟩:=a1;unfold gU8 at h;refine kF 1 Tryz.func20 rfl (by kernel_rfl) rfl rfl fun A _=>?_;refine goL ?_;obtain⟨⟨bj,⟨bc,bd,be⟩⟩,bv,h⟩:=gM h;refine gA7 0 (gD7 (jB.mk br bt bu) 5 bv) ?_;refine gBn (jX TBd.h TZ.h rfl (by repeat constructor)) ?_;obtain⟨⟨bb,⟨a7,a8,a9⟩⟩,bw,h⟩:=gM h;refine gA7 0 (gD7 (jB.mk bc bd be) 4 bw) ?_;refine goL ?_;refine noB ?_;refine gYm 4 3 3 rfl rfl (by repeat constructor) (by repeat constructor) ?_;show V _ _ _ _ _;refine gYm 7 3 4 rfl rfl (by repeat constructor) (by repeat constructor) ?_;show V _ _ _ _ _;refine gYm 5 3 5 rfl rfl (by repeat constructor) (by repeat constructor) ?_;show V _ _ _ _ _;refine hOt (fun(ai:Nat)(y3:LB)(y4:Int)(y5:Int)(y6:Int)(y7:Int)(y8:Int)(y9:List gG)(an:List jN)(ao:List jP)(ap:Int)(aq:Int)(am:Int)=>⟨[(0,.ptr 0 0),(2,.L 4 (kY a2)),(4,.ptr 1 0),(6,.ptr 2 0),(7,.ptr 3 0),(8,.I bb),(9,.I am)],[bCu y3 y4 y5,bPr ba,.box [.I 0,.I 0,.I 0,.nilsl,.nilsl,.nilsl,.I 0,.I 0],bSt y6 y7 y8 y9 an ao ap aq],Tryz.f20.ntmps⟩) (fun ai y3 y4 y5 y6 y7 y8 y9 an ao ap aq am=>gDr (gK.mk ba) a2 (bb,(jB.mk a7 a8 a9)) ai y3 y4 y5 y6 y7 y8 y9 an ao ap aq am=some r) (fun ai y3 y4 y5 y6 y7 y8 y9 an ao ap aq am=>ai) n0 a7 a8 a9 4 0 bj [] [] [] 0 0 0 eJ h ?_;rintro ai y3 y4 y5 y6 y7 y8 y9 an ao ap aq am h;rcases ai with _ | ai
 ·cases h
 rw [gDr.eq_2] at h;refine goC h ?_ ?_<;>intro b0 h
 ·refine noS ?_;refine jY (jA ?_);obtain⟨⟨⟨bk,bl,bm⟩,⟨f,y,aa⟩⟩,ad,h⟩:=gM h;obtain⟨⟨⟨bn,bo,bp⟩,⟨ae,ag,ah⟩⟩,ac,h⟩:=gM h;obtain⟨⟨aw,ax,ay,a0,a3,a4,a5,a6⟩,ab,h⟩:=gM h;refine qJ (P:=Tryz.prog) Mix.h (.q 1 (.q 3 (.q 5 (.h 0 (.h 2 (.h 4 (.h 6 (.q 7 (.h 8 (.h 9 .nil .nil) .nil)) (.h 8 (.h 6 (.q 7 (.h 9 .nil .nil)) .nil) .nil)) (.h 8 (.h 4 (.h 6 (.q 7 (.h 9 .nil .nil)) .nil) .nil) .nil)) (.h 4 (.h 2 (.h 6 (.q 7 (.h 8 (.h 9 .nil .nil) .nil)) (.h 8 (.h 6 (.q 7 (.h 9 .nil .nil)) .nil) .nil)) (.h 6 (.h 2 (.q 7 (.h 8 (.h 9 .nil .nil) .nil)) (.h 8 (.h 2 (.q 7 (.h 9 .nil .nil)) .nil) .nil)) (.h 8 (.h 2 (.h 6 (.q 7 (.h 9 .nil .nil)) .nil) (.h 6 (.h 2 (.q 7 (.h 9 .nil .nil)) .nil) .nil)) .nil))) (.h 8 (.h 2 (.h 4 (.h 6 (.q 7 (.h 9 .nil .nil)) .nil) .nil) (.h 4 (.h 2 (.h 6 (.q 7 (.h 9 .nil .nil)) .nil) (.h 6 (.h 2 (.q 7 (.h 9 .nil .nil)) .nil) .nil)) .nil)) .nil))) (.h 2 (.h 0 (.h 4 (.h 6 (.q 7 (.h 8 (.h 9 .nil .nil) .nil)) (.h 8 (.h 6 (.q 7 (.h 9 .nil .nil)) .nil) .nil)) (.h 8 (.h 4 (.h 6 (.q 7 (.h 9 .nil .nil)) .nil) .nil) .nil)) (.h 4 (.h 0 (.h 6 (.q 7 (.h 8 (.h 9 .nil .nil) .nil)) (.h 8 (.h 6 (.q 7 (.h 9 .nil .nil)) .nil) .nil)) (.h 6 (.h 0 (.q 7 (.h 8 (.h 9 .nil .nil) .nil)) (.h 8 (.h 0 (.q 7 (.h 9 .nil .nil)) .nil) .nil)) (.h 8 (.h 0 (.h 6 (.q 7 (.h 9 .nil .nil)) .nil) (.h 6 (.h 0 (.q 7 (.h 9 .nil .nil)) .nil) .nil)) .nil))) (.h 8 (.h 0 (.h 4 (.h 6 (.q 7 (.h 9 .nil .nil)) .nil) .nil) (.h 4 (.h 0 (.h 6 (.q 7 (.h 9 .nil .nil)) .nil) (.h 6 (.h 0 (.q 7 (.h 9 .nil .nil)) .nil) .nil)) .nil)) .nil))) (.h 4 (.h 0 (.h 2 (.h 6 (.q 7 (.h 8 (.h 9 .nil .nil) .nil)) (.h 8 (.h 6 (.q 7 (.h 9 .nil .nil)) .nil) .nil)) (.h 6 (.h 2 (.q 7 (.h 8 (.h 9 .nil .nil) .nil)) (.h 8 (.h 2 (.q 7 (.h 9 .nil .nil)) .nil) .nil)) (.h 8 (.h 2 (.h 6 (.q 7 (.h 9 .nil .nil)) .nil) (.h 6 (.h 2 (.q 7 (.h 9 .nil .nil)) .nil) .nil)) .nil))) (.h 2 (.h 0 (.h 6 (.q 7 (.h 8 (.h 9 .nil .nil) .nil)) (.h 8 (.h 6 (.q 7 (.h 9 .nil .nil)) .nil) .nil)) (.h 6 (.h 0 (.q 7 (.h 8 (.h 9 .nil .nil) .nil)) (.h 8 (.h 0 (.q 7 (.h 9 .nil .nil)) .nil) .nil)) (.h 8 (.h 0 (.h 6 (.q 7 (.h 9 .nil .nil)) .nil) (.h 6 (.h 0 (.q 7 (.h 9 .nil .nil)) .nil) .nil)) .nil))) (.h 6 (.h 0 (.h 2 (.q 7 (.h 8 (.h 9 .nil .nil) .nil)) (.h 8 (.h 2 (.q 7 (.h 9 .nil .nil)) .nil) .nil)) (.h 2 (.h 0 (.q 7 (.h 8 (.h 9 .nil .nil) .nil)) (.h 8 (.h 0 (.q 7 (.h 9 .nil .nil)) .nil) .nil)) (.h 8 (.h 0 (.h 2 (.q 7 (.h 9 .nil .nil)) .nil) (.h 2 (.h 0 (.q 7 (.h 9 .nil .nil)) .nil) .nil)) .nil))) (.h 8 (.h 0 (.h 2 (.h 6 (.q 7 (.h 9 .nil .nil)) .nil) (.h 6 (.h 2 (.q 7 (.h 9 .nil .nil)) .nil) .nil)) (.h 2 (.h 0 (.h 6 (.q 7 (.h 9 .nil .nil)) .nil) (.h 6 (.h 0 (.q 7 (.h 9 .nil .nil)) .nil) .nil)) (.h 6 (.h 0 (.h 2 (.q 7 (.h 9 .nil .nil)) .nil) (.h 2 (.h 0 (.q 7 (.h 9 .nil .nil)) .nil) .nil)) .nil))) .nil)))) (.h 8 (.h 0 (.h 2 (.h 4 (.h 6 (.q 7 (.h 9 .nil .nil)) .nil) .nil) (.h 4 (.h 2 (.h 6 (.q 7 (.h 9 .nil .nil)) .nil) (.h 6 (.h 2 (.q 7 (.h 9 .nil .nil)) .nil) .nil)) .nil)) (.h 2 (.h 0 (.h 4 (.h 6 (.q 7 (.h 9 .nil .nil)) .nil) .nil) (.h 4 (.h 0 (.h 6 (.q 7 (.h 9 .nil .nil)) .nil) (.h 6 (.h 0 (.q 7 (.h 9 .nil .nil)) .nil) .nil)) .nil)) (.h 4 (.h 0 (.h 2 (.h 6 (.q 7 (.h 9 .nil .nil)) .nil) (.h 6 (.h 2 (.q 7 (.h 9 .nil .nil)) .nil) .nil)) (.h 2 (.h 0 (.h 6 (.q 7 (.h 9 .nil .nil)) .nil) (.h 6 (.h 0 (.q 7 (.h 9 .nil .nil)) .nil) .nil)) (.h 6 (.h 0 (.h 2 (.q 7 (.h 9 .nil .nil)) .nil) (.h 2 (.h 0 (.q 7 (.h 9 .nil .nil)) .nil) .nil)) .nil))) .nil))) .nil))))))) ⟨[(0,.ptr 0 0),(2,.L 4 (kY a2)),(4,.ptr 1 0),(6,.ptr 2 0),(7,.ptr 3 0),(8,.I bb),(9,.I am),(10,.ptr 4 0)],[bCu ae ag ah,bPr ba,.box [.I 0,.I 0,.I 0,.nilsl,.nilsl,.nilsl,.I 0,.I 0],bSt y6 y7 y8 y9 an ao ap aq,bSt aw ax ay a0 a3 a4 a5 a6],Tryz.f20.ntmps⟩ (by kernel_rfl) ?_ ?_
  ·refine goT ?_;refine uV (mM jU) ?_ ?_
   ·refine uV (mM jU) ?_ ?_
    ·refine uV (pO 0 (kM 5000 (jB.mk y3 y4 y5) 2 ad) jU) ?_ ?_
     ·refine uV (pO 0 (kM 5000 (jB.mk f y aa) 2 ac) jU) ?_ ?_
      ·refine gAt (jF rfl (gF (gZ _ _ _ _ _ ab)) jU) ?_;refine goT ?_;refine jV ?_;exact qX 1 [0,1,2,3,4]
      refine goT ?_;refine jR (pO 0 (kM 5000 (jB.mk f y aa) 2 ac) jU) ?_;refine gAt (jF rfl (gF (gZ _ _ _ _ _ ab)) jU) ?_;refine goT ?_;refine jV ?_;exact qX 1 [0,1,2,3,4]
     refine goT ?_;refine jR (pO 0 (kM 5000 (jB.mk y3 y4 y5) 2 ad) jU) ?_;refine jR (pO 0 (kM 5000 (jB.mk f y aa) 2 ac) jU) ?_;refine gAt (jF rfl (gF (gZ _ _ _ _ _ ab)) jU) ?_;refine goT ?_;refine jV ?_;exact qX 1 [0,1,2,3,4]
    refine uV (pO 0 (kM 5000 (jB.mk y3 y4 y5) 2 ad) jU) ?_ ?_
    ·refine uV (mM jU) ?_ ?_
     ·refine uV (pO 0 (kM 5000 (jB.mk f y aa) 2 ac) jU) ?_ ?_
      ·refine gAt (jF rfl (gF (gZ _ _ _ _ _ ab)) jU) ?_;refine goT ?_;refine jV ?_;exact qX 1 [0,1,2,3,4]
      refine goT ?_;refine jR (pO 0 (kM 5000 (jB.mk f y aa) 2 ac) jU) ?_;refine gAt (jF rfl (gF (gZ _ _ _ _ _ ab)) jU) ?_;refine goT ?_;refine jV ?_;exact qX 1 [0,1,2,3,4]
     refine uV (pO 0 (kM 5000 (jB.mk f y aa) 2 ac) jU) ?_ ?_
     ·refine uV (mM jU) ?_ ?_
      ·refine gAt (jF rfl (gF (gZ _ _ _ _ _ ab)) jU) ?_;refine goT ?_;refine jV ?_;exact qX 1 [0,1,2,3,4]
      refine goT ?_;refine jR (mM jU) ?_;refine gAt (jF rfl (gF (gZ _ _ _ _ _ ab)) jU) ?_;refine goT ?_;refine jV ?_;exact qX 1 [0,1,2,3,4]
     refine goT ?_;refine uV (mM jU) ?_ ?_
     ·refine jR (pO 0 (kM 5000 (jB.mk f y aa) 2 ac) jU) ?_;refine gAt (jF rfl (gF (gZ _ _ _ _ _ ab)) jU) ?_;refine goT ?_;refine jV ?_;exact qX 1 [0,1,2,3,4]
     refine jR (pO 0 (kM 5000 (jB.mk f y aa) 2 ac) jU) ?_;refine jR (mM jU) ?_;refine gAt (jF rfl (gF (gZ _ _ _ _ _ ab)) jU) ?_;refine goT ?_;refine jV ?_;exact qX 1 [0,1,2,3,4]
    refine goT ?_;refine uV (mM jU) ?_ ?_
    ·refine jR (pO 0 (kM 5000 (jB.mk y3 y4 y5) 2 ad) jU) ?_;refine jR (pO 0 (kM 5000 (jB.mk f y aa) 2 ac) jU) ?_;refine gAt (jF rfl (gF (gZ _ _ _ _ _ ab)) jU) ?_;refine goT ?_;refine jV ?_;exact qX 1 [0,1,2,3,4]
    refine jR (pO 0 (kM 5000 (jB.mk y3 y4 y5) 2 ad) jU) ?_;refine uV (mM jU) ?_ ?_
    ·refine jR (pO 0 (kM 5000 (jB.mk f y aa) 2 ac) jU) ?_;refine gAt (jF rfl (gF (gZ _ _ _ _ _ ab)) jU) ?_;refine goT ?_;refine jV ?_;exact qX 1 [0,1,2,3,4]
    refine jR (pO 0 (kM 5000 (jB.mk f y aa) 2 ac) jU) ?_;refine jR (mM jU) ?_;refine gAt (jF rfl (gF (gZ _ _ _ _ _ ab)) jU) ?_;refine goT ?_;refine jV ?_;exact qX 1 [0,1,2,3,4]
   refine uV (mM jU) ?_ ?_
   ·refine uV (mM jU) ?_ ?_
    ·refine uV (pO 0 (kM 5000 (jB.mk y3 y4 y5) 2 ad) jU) ?_ ?_
     ·refine uV (pO 0 (kM 5000 (jB.mk f y aa) 2 ac) jU) ?_ ?_
      ·refine gAt (jF rfl (gF (gZ _ _ _ _ _ ab)) jU) ?_;refine goT ?_;refine jV ?_;exact qX 1 [0,1,2,3,4]
      refine goT ?_;refine jR (pO 0 (kM 5000 (jB.mk f y aa) 2 ac) jU) ?_;refine gAt (jF rfl (gF (gZ _ _ _ _ _ ab)) jU) ?_;refine goT ?_;refine jV ?_;exact qX 1 [0,1,2,3,4]
     refine goT ?_;refine jR (pO 0 (kM 5000 (jB.mk y3 y4 y5) 2 ad) jU) ?_;refine jR (pO 0 (kM 5000 (jB.mk f y aa) 2 ac) jU) ?_;refine gAt (jF rfl (gF (gZ _ _ _ _ _ ab)) jU) ?_;refine goT ?_;refine jV ?_;exact qX 1 [0,1,2,3,4]
    refine uV (pO 0 (kM 5000 (jB.mk y3 y4 y5) 2 ad) jU) ?_ ?_
    ·refine uV (mM jU) ?_ ?_
     ·refine uV (pO 0 (kM 5000 (jB.mk f y aa) 2 ac) jU) ?_ ?_
      ·refine gAt (jF rfl (gF (gZ _ _ _ _ _ ab)) jU) ?_;refine goT ?_;refine jV ?_;exact qX 1 [0,1,2,3,4]
      refine goT ?_;refine jR (pO 0 (kM 5000 (jB.mk f y aa) 2 ac) jU) ?_;refine gAt (jF rfl (gF (gZ _ _ _ _ _ ab)) jU) ?_;refine goT ?_;refine jV ?_;exact qX 1 [0,1,2,3,4]
     refine uV (pO 0 (kM 5000 (jB.mk f y aa) 2 ac) jU) ?_ ?_
     ·refine uV (mM jU) ?_ ?_
      ·refine gAt (jF rfl (gF (gZ _ _ _ _ _ ab)) jU) ?_;refine goT ?_;refine jV ?_;exact qX 1 [0,1,2,3,4]
      refine goT ?_;refine jR (mM jU) ?_;refine gAt (jF rfl (gF (gZ _ _ _ _ _ ab)) jU) ?_;refine goT ?_;refine jV ?_;exact qX 1 [0,1,2,3,4]
     refine goT ?_;refine uV (mM jU) ?_ ?_
     ·refine jR (pO 0 (kM 5000 (jB.mk f y aa) 2 ac) jU) ?_;refine gAt (jF rfl (gF (gZ _ _ _ _ _ ab)) jU) ?_;refine goT ?_;refine jV ?_;exact qX 1 [0,1,2,3,4]
     refine jR (pO 0 (kM 5000 (jB.mk f y aa) 2 ac) jU) ?_;refine jR (mM jU) ?_;refine gAt (jF rfl (gF (gZ _ _ _ _ _ ab)) jU) ?_;refine goT ?_;refine jV ?_;exact qX 1 [0,1,2,3,4]
    refine goT ?_;refine uV (mM jU) ?_ ?_
    ·refine jR (pO 0 (kM 5000 (jB.mk y3 y4 y5) 2 ad) jU) ?_;refine jR (pO 0 (kM 5000 (jB.mk f y aa) 2 ac) jU) ?_;refine gAt (jF rfl (gF (gZ _ _ _ _ _ ab)) jU) ?_;refine goT ?_;refine jV ?_;exact qX 1 [0,1,2,3,4]
    refine jR (pO 0 (kM 5000 (jB.mk y3 y4 y5) 2 ad) jU) ?_;refine uV (mM jU) ?_ ?_
    ·refine jR (pO 0 (kM 5000 (jB.mk f y aa) 2 ac) jU) ?_;refine gAt (jF rfl (gF (gZ _ _ _ _ _ ab)) jU) ?_;refine goT ?_;refine jV ?_;exact qX 1 [0,1,2,3,4]
    refine jR (pO 0 (kM 5000 (jB.mk f y aa) 2 ac) jU) ?_;refine jR (mM jU) ?_;refine gAt (jF rfl (gF (gZ _ _ _ _ _ ab)) jU) ?_;refine goT ?_;refine jV ?_;exact qX 1 [0,1,2,3,4]
   refine uV (pO 0 (kM 5000 (jB.mk y3 y4 y5) 2 ad) jU) ?_ ?_
   ·refine uV (mM jU) ?_ ?_
    ·refine uV (mM jU) ?_ ?_
     ·refine uV (pO 0 (kM 5000 (jB.mk f y aa) 2 ac) jU) ?_ ?_
      ·refine gAt (jF rfl (gF (gZ _ _ _ _ _ ab)) jU) ?_;refine goT ?_;refine jV ?_;exact qX 1 [0,1,2,3,4]
      refine goT ?_;refine jR (pO 0 (kM 5000 (jB.mk f y aa) 2 ac) jU) ?_;refine gAt (jF rfl (gF (gZ _ _ _ _ _ ab)) jU) ?_;refine goT ?_;refine jV ?_;exact qX 1 [0,1,2,3,4]
     refine uV (pO 0 (kM 5000 (jB.mk f y aa) 2 ac) jU) ?_ ?_
     ·refine uV (mM jU) ?_ ?_
      ·refine gAt (jF rfl (gF (gZ _ _ _ _ _ ab)) jU) ?_;refine goT ?_;refine jV ?_;exact qX 1 [0,1,2,3,4]
      refine goT ?_;refine jR (mM jU) ?_;refine gAt (jF rfl (gF (gZ _ _ _ _ _ ab)) jU) ?_;refine goT ?_;refine jV ?_;exact qX 1 [0,1,2,3,4]
     refine goT ?_;refine uV (mM jU) ?_ ?_
     ·refine jR (pO 0 (kM 5000 (jB.mk f y aa) 2 ac) jU) ?_;refine gAt (jF rfl (gF (gZ _ _ _ _ _ ab)) jU) ?_;refine goT ?_;refine jV ?_;exact qX 1 [0,1,2,3,4]
     refine jR (pO 0 (kM 5000 (jB.mk f y aa) 2 ac) jU) ?_;refine jR (mM jU) ?_;refine gAt (jF rfl (gF (gZ _ _ _ _ _ ab)) jU) ?_;refine goT ?_;refine jV ?_;exact qX 1 [0,1,2,3,4]
    refine uV (mM jU) ?_ ?_
    ·refine uV (mM jU) ?_ ?_
     ·refine uV (pO 0 (kM 5000 (jB.mk f y aa) 2 ac) jU) ?_ ?_
      ·refine gAt (jF rfl (gF (gZ _ _ _ _ _ ab)) jU) ?_;refine goT ?_;refine jV ?_;exact qX 1 [0,1,2,3,4]
      refine goT ?_;refine jR (pO 0 (kM 5000 (jB.mk f y aa) 2 ac) jU) ?_;refine gAt (jF rfl (gF (gZ _ _ _ _ _ ab)) jU) ?_;refine goT ?_;refine jV ?_;exact qX 1 [0,1,2,3,4]
     refine uV (pO 0 (kM 5000 (jB.mk f y aa) 2 ac) jU) ?_ ?_
     ·refine uV (mM jU) ?_ ?_
      ·refine gAt (jF rfl (gF (gZ _ _ _ _ _ ab)) jU) ?_;refine goT ?_;refine jV ?_;exact qX 1 [0,1,2,3,4]
      refine goT ?_;refine jR (mM jU) ?_;refine gAt (jF rfl (gF (gZ _ _ _ _ _ ab)) jU) ?_;refine goT ?_;refine jV ?_;exact qX 1 [0,1,2,3,4]
     refine goT ?_;refine uV (mM jU) ?_ ?_
     ·refine jR (pO 0 (kM 5000 (jB.mk f y aa) 2 ac) jU) ?_;refine gAt (jF rfl (gF (gZ _ _ _ _ _ ab)) jU) ?_;refine goT ?_;refine jV ?_;exact qX 1 [0,1,2,3,4]
     refine jR (pO 0 (kM 5000 (jB.mk f y aa) 2 ac) jU) ?_;refine jR (mM jU) ?_;refine gAt (jF rfl (gF (gZ _ _ _ _ _ ab)) jU) ?_;refine goT ?_;refine jV ?_;exact qX 1 [0,1,2,3,4]
    refine uV (pO 0 (kM 5000 (jB.mk f y aa) 2 ac) jU) ?_ ?_
    ·refine uV (mM jU) ?_ ?_
     ·refine uV (mM jU) ?_ ?_
      ·refine gAt (jF rfl (gF (gZ _ _ _ _ _ ab)) jU) ?_;refine goT ?_;refine jV ?_;exact qX 1 [0,1,2,3,4]
      refine goT ?_;refine jR (mM jU) ?_;refine gAt (jF rfl (gF (gZ _ _ _ _ _ ab)) jU) ?_;refine goT ?_;refine jV ?_;exact qX 1 [0,1,2,3,4]
     refine uV (mM jU) ?_ ?_
     ·refine uV (mM jU) ?_ ?_
      ·refine gAt (jF rfl (gF (gZ _ _ _ _ _ ab)) jU) ?_;refine goT ?_;refine jV ?_;exact qX 1 [0,1,2,3,4]
      refine goT ?_;refine jR (mM jU) ?_;refine gAt (jF rfl (gF (gZ _ _ _ _ _ ab)) jU) ?_;refine goT ?_;refine jV ?_;exact qX 1 [0,1,2,3,4]
     refine goT ?_;refine uV (mM jU) ?_ ?_
     ·refine jR (mM jU) ?_;refine gAt (jF rfl (gF (gZ _ _ _ _ _ ab)) jU) ?_;refine goT ?_;refine jV ?_;exact qX 1 [0,1,2,3,4]
     refine jR (mM jU) ?_;refine jR (mM jU) ?_;refine gAt (jF rfl (gF (gZ _ _ _ _ _ ab)) jU) ?_;refine goT ?_;refine jV ?_;exact qX 1 [0,1,2,3,4]
    refine goT ?_;refine uV (mM jU) ?_ ?_
    ·refine uV (mM jU) ?_ ?_
     ·refine jR (pO 0 (kM 5000 (jB.mk f y aa) 2 ac) jU) ?_;refine gAt (jF rfl (gF (gZ _ _ _ _ _ ab)) jU) ?_;refine goT ?_;refine jV ?_;exact qX 1 [0,1,2,3,4]
     refine jR (pO 0 (kM 5000 (jB.mk f y aa) 2 ac) jU) ?_;refine jR (mM jU) ?_;refine gAt (jF rfl (gF (gZ _ _ _ _ _ ab)) jU) ?_;refine goT ?_;refine jV ?_;exact qX 1 [0,1,2,3,4]
    refine uV (mM jU) ?_ ?_
    ·refine uV (mM jU) ?_ ?_
     ·refine jR (pO 0 (kM 5000 (jB.mk f y aa) 2 ac) jU) ?_;refine gAt (jF rfl (gF (gZ _ _ _ _ _ ab)) jU) ?_;refine goT ?_;refine jV ?_;exact qX 1 [0,1,2,3,4]
     refine jR (pO 0 (kM 5000 (jB.mk f y aa) 2 ac) jU) ?_;refine jR (mM jU) ?_;refine gAt (jF rfl (gF (gZ _ _ _ _ _ ab)) jU) ?_;refine goT ?_;refine jV ?_;exact qX 1 [0,1,2,3,4]
    refine jR (pO 0 (kM 5000 (jB.mk f y aa) 2 ac) jU) ?_;refine uV (mM jU) ?_ ?_
    ·refine jR (mM jU) ?_;refine gAt (jF rfl (gF (gZ _ _ _ _ _ ab)) jU) ?_;refine goT ?_;refine jV ?_;exact qX 1 [0,1,2,3,4]
    refine jR (mM jU) ?_;refine jR (mM jU) ?_;refine gAt (jF rfl (gF (gZ _ _ _ _ _ ab)) jU) ?_;refine goT ?_;refine jV ?_;exact qX 1 [0,1,2,3,4]
   refine goT ?_;refine uV (mM jU) ?_ ?_
   ·refine uV (mM jU) ?_ ?_
    ·refine jR (pO 0 (kM 5000 (jB.mk y3 y4 y5) 2 ad) jU) ?_;refine jR (pO 0 (kM 5000 (jB.mk f y aa) 2 ac) jU) ?_;refine gAt (jF rfl (gF (gZ _ _ _ _ _ ab)) jU) ?_;refine goT ?_;refine jV ?_;exact qX 1 [0,1,2,3,4]
    refine jR (pO 0 (kM 5000 (jB.mk y3 y4 y5) 2 ad) jU) ?_;refine uV (mM jU) ?_ ?_
    ·refine jR (pO 0 (kM 5000 (jB.mk f y aa) 2 ac) jU) ?_;refine gAt (jF rfl (gF (gZ _ _ _ _ _ ab)) jU) ?_;refine goT ?_;refine jV ?_;exact qX 1 [0,1,2,3,4]
    refine jR (pO 0 (kM 5000 (jB.mk f y aa) 2 ac) jU) ?_;refine jR (mM jU) ?_;refine gAt (jF rfl (gF (gZ _ _ _ _ _ ab)) jU) ?_;refine goT ?_;refine jV ?_;exact qX 1 [0,1,2,3,4]
   refine uV (mM jU) ?_ ?_
   ·refine uV (mM jU) ?_ ?_
    ·refine jR (pO 0 (kM 5000 (jB.mk y3 y4 y5) 2 ad) jU) ?_;refine jR (pO 0 (kM 5000 (jB.mk f y aa) 2 ac) jU) ?_;refine gAt (jF rfl (gF (gZ _ _ _ _ _ ab)) jU) ?_;refine goT ?_;refine jV ?_;exact qX 1 [0,1,2,3,4]
    refine jR (pO 0 (kM 5000 (jB.mk y3 y4 y5) 2 ad) jU) ?_;refine uV (mM jU) ?_ ?_
    ·refine jR (pO 0 (kM 5000 (jB.mk f y aa) 2 ac) jU) ?_;refine gAt (jF rfl (gF (gZ _ _ _ _ _ ab)) jU) ?_;refine goT ?_;refine jV ?_;exact qX 1 [0,1,2,3,4]
    refine jR (pO 0 (kM 5000 (jB.mk f y aa) 2 ac) jU) ?_;refine jR (mM jU) ?_;refine gAt (jF rfl (gF (gZ _ _ _ _ _ ab)) jU) ?_;refine goT ?_;refine jV ?_;exact qX 1 [0,1,2,3,4]
   refine jR (pO 0 (kM 5000 (jB.mk y3 y4 y5) 2 ad) jU) ?_;refine uV (mM jU) ?_ ?_
   ·refine uV (mM jU) ?_ ?_
    ·refine jR (pO 0 (kM 5000 (jB.mk f y aa) 2 ac) jU) ?_;refine gAt (jF rfl (gF (gZ _ _ _ _ _ ab)) jU) ?_;refine goT ?_;refine jV ?_;exact qX 1 [0,1,2,3,4]
    refine jR (pO 0 (kM 5000 (jB.mk f y aa) 2 ac) jU) ?_;refine jR (mM jU) ?_;refine gAt (jF rfl (gF (gZ _ _ _ _ _ ab)) jU) ?_;refine goT ?_;refine jV ?_;exact qX 1 [0,1,2,3,4]
   refine uV (mM jU) ?_ ?_
   ·refine uV (mM jU) ?_ ?_
    ·refine jR (pO 0 (kM 5000 (jB.mk f y aa) 2 ac) jU) ?_;refine gAt (jF rfl (gF (gZ _ _ _ _ _ ab)) jU) ?_;refine goT ?_;refine jV ?_;exact qX 1 [0,1,2,3,4]
    refine jR (pO 0 (kM 5000 (jB.mk f y aa) 2 ac) jU) ?_;refine jR (mM jU) ?_;refine gAt (jF rfl (gF (gZ _ _ _ _ _ ab)) jU) ?_;refine goT ?_;refine jV ?_;exact qX 1 [0,1,2,3,4]
   refine jR (pO 0 (kM 5000 (jB.mk f y aa) 2 ac) jU) ?_;refine uV (mM jU) ?_ ?_
   ·refine jR (mM jU) ?_;refine gAt (jF rfl (gF (gZ _ _ _ _ _ ab)) jU) ?_;refine goT ?_;refine jV ?_;exact qX 1 [0,1,2,3,4]
   refine jR (mM jU) ?_;refine jR (mM jU) ?_;refine gAt (jF rfl (gF (gZ _ _ _ _ _ ab)) jU) ?_;refine goT ?_;refine jV ?_;exact qX 1 [0,1,2,3,4]
  refine goL ?_;refine gqV 32 h ?_ ?_<;>intro b1 h
  ·refine hYg ?_;refine goL ?_;refine jI (pU) ?_;exact⟨ai,ae,ag,ah,aw,ax,ay,a0,a3,a4,a5,a6,(IntKind.i64.wrap (am+1)),h,Nat.lt_succ_self _,eJ⟩
  ·obtain⟨⟨bx,⟨ar,au,av⟩⟩,bq,h⟩:=gM h;refine gA7 0 (gJ2 (jB.mk ae ag ah) 12 bq) ?_;refine goC h ?_ ?_<;>intro b2 h
   ·refine goL ?_;refine jI (pU) ?_;exact⟨ai,ar,au,av,aw,ax,ay,a0,a3,a4,a5,a6,(IntKind.i64.wrap (am+1)),h,Nat.lt_succ_self _,eJ⟩
   ·refine goS ?_;refine jI (pU) ?_;exact⟨ai,ar,au,av,y6,y7,y8,y9,an,ao,ap,aq,(IntKind.i64.wrap (am+1)),h,Nat.lt_succ_self _,eJ⟩
 ·refine goX ?_;refine jG ?_;obtain rfl:=Option.some.inj h;exact yK [.d (.st [.i .i64 y6,.i .i64 y7,.i .i64 y8,.sl 4 (gP y9),.sl 7 (jM an),.sl 5 (jD ao),.i .i64 ap,.i .i64 aq])] _ ⟨rfl,rfl⟩
def hGf(c:jB)(f:gK)(h:List gW):Option (gJ × jB):=gU8 c f h 5000
def gK5(c:jB):Option (gK × jB):=
bnd (gFg c) fun f=>
bnd (yN f.1) fun h=>
(some (h.1,f.2))
theorem hGg(c:jB){r:gK × jB}(h:gK5 c=some r):Go.Eng.Spec Tryz.prog 18 [.ptr 0 0] [bCu c.b c.i c.h] (fun sv Lo=>sv=.d (kT r.1)∧Lo=[bCu r.2.b r.2.i r.2.h]):=by
 obtain⟨ac,ad,ae⟩:=c;unfold gK5 at h;refine kF 1 Tryz.func18 rfl (by kernel_rfl) rfl rfl fun A _=>?_;refine goL ?_;obtain⟨⟨ai,⟨y,aa,ab⟩⟩,ag,h⟩:=gM h;refine gA7 0 (gT5 (jB.mk ac ad ae) ag) ?_;obtain⟨⟨⟨f⟩,aj⟩,ah,h⟩:=gM h;refine jI (gF (gTg _ ah)) ?_;refine jG ?_;obtain rfl:=Option.some.inj h;exact yK [.d (.st [.sl 6 (jQ f)])] _ ⟨rfl,rfl⟩
def zA(a0:LB):Option (gK × List gW × gJ × gB × gB):=
lt_ (gLf a0) fun x1=>
bnd (gK5 x1) fun c=>
bnd (gSa c.2) fun f=>
bnd (hGf f.2 c.1 f.1) fun h=>
bnd (gHi 5000 h.2 3) fun y=>
bnd (gHi 5000 y.2 3) fun x6=>
(some (c.1,f.1,h.1,y.1,x6.1))
theorem gNu(a0:LB){r:gK × List gW × gJ × gB × gB}(h:zA a0=some r):gY Tryz.prog 6 [.L 1 (gEr a0)] [kT r.1,.sl 4 (kY r.2.1),mJ r.2.2.1,jS r.2.2.2.1,jS r.2.2.2.2]:=by
 unfold zA at h;refine SpI Tryz.func6 fun A _=>?_;refine goL ?_;obtain⟨⟨ba,bb,bc⟩,bf,h⟩:=qA h;have sx1:=hSh a0;rw [bf] at sx1;refine yJ [] (sx1) ?_;rintro _ _ ⟨rfl,rfl⟩;show VO _ _ _ _ ⟨(_,.ptr 4 0)::_,[.box [.nilsl],.box [.I 0,.I 0,.I 0,.nilsl,.nilsl,.nilsl,.I 0,.I 0],.box [.I 0,.S [],.nilsl],.box [.I 0,.S [],.nilsl],bCu ba bb bc],_⟩ _;refine goL ?_;obtain⟨⟨⟨ae⟩,⟨ap,aq,ar⟩⟩,bg,h⟩:=gM h;refine gA7 4 (hGg (jB.mk ba bb bc) bg) ?_;refine goL ?_;obtain⟨⟨bd,⟨au,av,aw⟩⟩,bh,h⟩:=gM h;refine gA7 4 (hFb (jB.mk ap aq ar) bh) ?_;refine goL ?_;obtain⟨⟨⟨ag,ah,ai,aj,ak,al,am,an⟩,⟨aa,ab,ac⟩⟩,bi,h⟩:=gM h;refine gA7 4 (hRg (jB.mk au av aw) (gK.mk ae) bd bi) ?_;refine gId ?_;obtain⟨⟨⟨ax,ay,a3⟩,⟨c,f,y⟩⟩,ao,h⟩:=gM h;obtain⟨⟨⟨a4,a5,a6⟩,⟨a7,a8,a9⟩⟩,ad,h⟩:=gM h;refine qJ (P:=Tryz.prog) Mix.h (.q 1 (.q 3 (.q 5 (.h 0 (.h 2 (.h 4 (.h 6 (.h 7 (.q 8 (.h 9 (.h 10 (.h 11 .nil .nil) .nil) .nil)) .nil) .nil) .nil) (.h 4 (.h 2 (.h 6 (.h 7 (.q 8 (.h 9 (.h 10 (.h 11 .nil .nil) .nil) .nil)) .nil) .nil) (.h 6 (.h 2 (.h 7 (.q 8 (.h 9 (.h 10 (.h 11 .nil .nil) .nil) .nil)) .nil) (.h 7 (.q 8 (.h 2 (.h 9 (.h 10 (.h 11 .nil .nil) .nil) .nil) .nil)) .nil)) .nil)) .nil)) (.h 2 (.h 0 (.h 4 (.h 6 (.h 7 (.q 8 (.h 9 (.h 10 (.h 11 .nil .nil) .nil) .nil)) .nil) .nil) .nil) (.h 4 (.h 0 (.h 6 (.h 7 (.q 8 (.h 9 (.h 10 (.h 11 .nil .nil) .nil) .nil)) .nil) .nil) (.h 6 (.h 0 (.h 7 (.q 8 (.h 9 (.h 10 (.h 11 .nil .nil) .nil) .nil)) .nil) .nil) .nil)) .nil)) (.h 4 (.h 0 (.h 2 (.h 6 (.h 7 (.q 8 (.h 9 (.h 10 (.h 11 .nil .nil) .nil) .nil)) .nil) .nil) (.h 6 (.h 2 (.h 7 (.q 8 (.h 9 (.h 10 (.h 11 .nil .nil) .nil) .nil)) .nil) (.h 7 (.q 8 (.h 2 (.h 9 (.h 10 (.h 11 .nil .nil) .nil) .nil) .nil)) .nil)) .nil)) (.h 2 (.h 0 (.h 6 (.h 7 (.q 8 (.h 9 (.h 10 (.h 11 .nil .nil) .nil) .nil)) .nil) .nil) (.h 6 (.h 0 (.h 7 (.q 8 (.h 9 (.h 10 (.h 11 .nil .nil) .nil) .nil)) .nil) .nil) .nil)) (.h 6 (.h 0 (.h 2 (.h 7 (.q 8 (.h 9 (.h 10 (.h 11 .nil .nil) .nil) .nil)) .nil) (.h 7 (.q 8 (.h 2 (.h 9 (.h 10 (.h 11 .nil .nil) .nil) .nil) .nil)) .nil)) (.h 2 (.h 0 (.h 7 (.q 8 (.h 9 (.h 10 (.h 11 .nil .nil) .nil) .nil)) .nil) .nil) .nil)) .nil))) .nil)))))) ⟨[(2,.ptr 0 0),(3,.L 4 (kY bd)),(4,.ptr 1 0),(5,.ptr 2 0),(6,.ptr 3 0)],[bPr ae,bSt ag ah ai aj ak al am an,bTy ax ay a3,bTy a4 a5 a6,bCu a7 a8 a9,bPr ae,bSt ag ah ai aj ak al am an],Tryz.f6.ntmps⟩ (by kernel_rfl) ?_ ?_
 ·refine goT ?_;refine uV (mM jU) ?_ ?_
  ·refine uV (mM jU) ?_ ?_
   ·refine jR (pO 4 (kM 5000 (jB.mk aa ab ac) 3 ao) jU) ?_;refine jR (pO 4 (kM 5000 (jB.mk c f y) 3 ad) jU) ?_;refine goT ?_;refine jV ?_;exact qX 0 [0,1,2,3,4,5,6]
   refine jR (pO 4 (kM 5000 (jB.mk aa ab ac) 3 ao) jU) ?_;refine uV (mM jU) ?_ ?_
   ·refine jR (pO 4 (kM 5000 (jB.mk c f y) 3 ad) jU) ?_;refine goT ?_;refine jV ?_;exact qX 0 [0,1,2,3,4,5,6]
   refine jR (pO 4 (kM 5000 (jB.mk c f y) 3 ad) jU) ?_;refine uV (mM jU) ?_ ?_
   ·refine goT ?_;refine jV ?_;exact qX 0 [0,1,2,3,4,5,6]
   refine goT ?_;refine jR (mM jU) ?_;refine goT ?_;refine jV ?_;exact qX 0 [0,1,2,3,4,5,6]
  refine uV (mM jU) ?_ ?_
  ·refine uV (mM jU) ?_ ?_
   ·refine jR (pO 4 (kM 5000 (jB.mk aa ab ac) 3 ao) jU) ?_;refine jR (pO 4 (kM 5000 (jB.mk c f y) 3 ad) jU) ?_;refine goT ?_;refine jV ?_;exact qX 0 [0,1,2,3,4,5,6]
   refine jR (pO 4 (kM 5000 (jB.mk aa ab ac) 3 ao) jU) ?_;refine uV (mM jU) ?_ ?_
   ·refine jR (pO 4 (kM 5000 (jB.mk c f y) 3 ad) jU) ?_;refine goT ?_;refine jV ?_;exact qX 0 [0,1,2,3,4,5,6]
   refine jR (pO 4 (kM 5000 (jB.mk c f y) 3 ad) jU) ?_;refine jR (mM jU) ?_;refine goT ?_;refine jV ?_;exact qX 0 [0,1,2,3,4,5,6]
  refine jR (pO 4 (kM 5000 (jB.mk aa ab ac) 3 ao) jU) ?_;refine uV (mM jU) ?_ ?_
  ·refine uV (mM jU) ?_ ?_
   ·refine jR (pO 4 (kM 5000 (jB.mk c f y) 3 ad) jU) ?_;refine goT ?_;refine jV ?_;exact qX 0 [0,1,2,3,4,5,6]
   refine jR (pO 4 (kM 5000 (jB.mk c f y) 3 ad) jU) ?_;refine uV (mM jU) ?_ ?_
   ·refine goT ?_;refine jV ?_;exact qX 0 [0,1,2,3,4,5,6]
   refine goT ?_;refine jR (mM jU) ?_;refine goT ?_;refine jV ?_;exact qX 0 [0,1,2,3,4,5,6]
  refine uV (mM jU) ?_ ?_
  ·refine uV (mM jU) ?_ ?_
   ·refine jR (pO 4 (kM 5000 (jB.mk c f y) 3 ad) jU) ?_;refine goT ?_;refine jV ?_;exact qX 0 [0,1,2,3,4,5,6]
   refine jR (pO 4 (kM 5000 (jB.mk c f y) 3 ad) jU) ?_;refine jR (mM jU) ?_;refine goT ?_;refine jV ?_;exact qX 0 [0,1,2,3,4,5,6]
  refine jR (pO 4 (kM 5000 (jB.mk c f y) 3 ad) jU) ?_;refine uV (mM jU) ?_ ?_
  ·refine uV (mM jU) ?_ ?_
   ·refine goT ?_;refine jV ?_;exact qX 0 [0,1,2,3,4,5,6]
   refine goT ?_;refine jR (mM jU) ?_;refine goT ?_;refine jV ?_;exact qX 0 [0,1,2,3,4,5,6]
  refine jR (mM jU) ?_;refine jR (mM jU) ?_;refine goT ?_;refine jV ?_;exact qX 0 [0,1,2,3,4,5,6]
 exact goR h
def VZ:LS:=[[63,48],[63,49],[63,50],[63,51],[97]]
theorem hBv{V:LS}{n:LB}(h:n∈V):DT V ⟨1,n,[]⟩:=⟨⟨gIb _ _,⟨⟨by decide,by simp,fun _=>rfl⟩,trivial⟩,fun v hv=>by simp only [tvs,gGc,if_true,List.append_nil,List.mem_singleton] at hv;subst hv;exact h⟩,fun hk=>absurd hk (by decide),trivial⟩
theorem gXa{V:LS}{n:LB}{ts:List gB}(h:∀t∈ts,DT V t)(hl:ts.length≤2):DT V ⟨2,n,ts⟩:=by
 refine⟨⟨⟨by omega,gIy.2 fun u hu=>(h u hu).1.1⟩,⟨⟨by decide,hl,fun h=>absurd h (by decide)⟩,gWw.2 fun u hu=>(h u hu).1.2.1⟩,fun v hv=>?_⟩,⟨fun hk=>absurd hk (by decide),gO0.2 fun u hu=>(h u hu).2⟩⟩;have hv:v∈gGc ts:=by
  simp only [tvs] at hv;rw [if_neg (by decide),List.nil_append] at hv;exact hv
 obtain⟨u,c,f⟩:=gNv.1 hv;exact(h u c).1.2.2 v f
theorem hU0{V:LS}{u:gB}(h:DT V u):DT V (gF3 u):=⟨hQ7 h.1,fun _=>⟨rfl,rfl⟩,h.2,trivial⟩
theorem gXb(s:LB)(args:List gB)(h:args.length≤4294967296):gI7 s args=some ⟨2,s,args⟩:=by
 unfold gI7;rw [mI (by simpa using h)];rfl
theorem hGh(c:jB)(l:List gB)(h:gBp c)(h0:0 < l.length)(h1:l.length≤256):∃x c',gJh c l=some (x,c')∧gBp c'∧x∈l:=by
 obtain⟨x,c',e,f,e2,y⟩:=gGs c l.length h (by omega) (by omega);unfold gJh;have hx:at? l x=some (l[x.toNat]'(by omega)):=by unfold at?;rw [if_pos f];exact List.getElem?_eq_getElem _
 rw [jO e,jO hx];exact⟨_,_,rfl,y,List.getElem_mem _⟩
theorem hRh{x:Int}(c:0≤x)(f:x < 4):(([63]:LB)++Lib.itoa x)∈VZ∧(Lib.itoa x).length≤10:=by
 have:x=0∨x=1∨x=2∨x=3:=by omega
 rcases this with rfl | rfl | rfl | rfl
 ·have e:Lib.itoa 0=[48]:=by kernel_rfl
  rw [e];decide
 ·have e:Lib.itoa 1=[49]:=by kernel_rfl
  rw [e];decide
 ·have e:Lib.itoa 2=[50]:=by kernel_rfl
  rw [e];decide
 ·have e:Lib.itoa 3=[51]:=by kernel_rfl
  rw [e];decide
def SZ(d:Nat)(t:gB):Prop:=ed t≤d+2
theorem hU1{d:Nat}{n:LB}{t:gB}(h:SZ d t):SZ (d+1) ⟨2,n,[t]⟩:=by
 unfold SZ at *;simp only [ed,eds];omega
theorem hRi{d:Nat}{n:LB}{t u:gB}(h:SZ d t)(g:SZ d u):SZ (d+1) ⟨2,n,[t,u]⟩:=by
 unfold SZ at *;simp only [ed,eds];omega
theorem gU9{d:Nat}{t:gB}(c:ed t≤2):SZ d t:=by unfold SZ;omega
theorem jAa{rec:jB→Int→Option (gB × jB)}(d:Nat)(hd:d≤8)(hrec:∀e,d=e+1→∀c,gBp c→∃t c',rec c (e:Int)=some (t,c')∧gBp c'∧DT VZ t∧tnd t≤4^(e+1)∧SZ e t∧Dr e t)(c:jB)(hc:gBp c):∃t c',gR1 rec c (d:Int)=some (t,c')∧gBp c'∧DT VZ t∧tnd t≤4^(d+1)∧SZ d t∧Dr d t:=by
 have hpow:4≤4^(d+1):=by rw [Nat.pow_succ];have:1≤4^d:=Nat.one_le_pow _ _ (by omega);omega
 obtain⟨x,c1,e1,e2,e3,e4⟩:=gGs c 6 hc (by omega) (by omega);unfold gR1;rw [jO e1];have hb:∃b,cnd (x==0) (some (x==0)) (some (x==1))=some b:=by cases x==0<;>exact⟨_,rfl⟩
 obtain⟨b,hb⟩:=hb;rw [jO hb];cases b with
 | true=>
   simp only [gT];obtain⟨y,c2,f,h,f3,f4⟩:=gGs c1 4 e4 (by omega) (by omega);obtain⟨g1,g2⟩:=hRh h f3;rw [jO f,mI (show gGi y from⟨by omega,by omega⟩),mI (by simp only [List.length_cons,List.length_nil];omega)];exact⟨_,_,rfl,f4,hBv g1,by simp only [gDe,tnd,gAb];omega,gU9 (by simp [gDe,ed,eds]),.lf (.inl ⟨_,rfl⟩)⟩
 | false=>
   simp only [gI];cases x==2 with
   | true=>
     simp only [gT];obtain⟨s,c2,f,h,_⟩:=gVr c1 [[105,110,116],[98,111,111,108]] e4 (by simp) (by simp);rw [jO f,jO (gXb _ [] (by simp))];exact⟨_,_,rfl,h,gXa (by simp) (by simp),by simp only [tnd,gAb];omega,gU9 (by simp [ed,eds]),.lf (.inr (.inl ⟨_,rfl⟩))⟩
   | false=>
     simp only [gI];cases x==3 with
     | true=>
       simp only [gT,lt_];have hI:gPd=some ⟨2,[105,110,116],[]⟩:=by unfold gPd;rw [jO (gXb _ [] (by simp))]
       rw [jO hI,jO hI,jO (gXb _ [⟨2,[105,110,116],[]⟩] (by simp))];obtain⟨t,c2,f,h,f3⟩:=hGh c1 [gDe [63,49],⟨2,[105,110,116],[]⟩,gDe [97],⟨2,[98,111,120],[⟨2,[105,110,116],[]⟩]⟩] e4 (by simp) (by simp);rw [jO f];have ht:DT VZ t∧tnd t≤2∧ed t≤1:=by
        have hi:DT VZ ⟨2,[105,110,116],[]⟩:=gXa (by simp) (by simp);simp only [List.mem_cons,List.not_mem_nil,or_false] at f3;rcases f3 with rfl | rfl | rfl | rfl
        ·exact⟨hBv (by decide),by decide,by decide⟩
        ·exact⟨hi,by decide,by decide⟩
        ·exact⟨hBv (by decide),by decide,by decide⟩
        ·exact⟨gXa (by simpa using hi) (by simp),by decide,by decide⟩
       have hh:t=⟨1,q1,[]⟩∨t=yP∨t=tyA∨t=gGe yP:=by
        simp only [List.mem_cons,List.not_mem_nil,or_false] at f3;rcases f3 with rfl | rfl | rfl | rfl
        ·exact .inl rfl
        ·exact .inr (.inl rfl)
        ·exact .inr (.inr (.inl rfl))
        ·exact .inr (.inr (.inr rfl))
       unfold gQ2;rw [mI ht.1.1.1];exact⟨_,_,rfl,h,hU0 ht.1,by simp only [idT,tnd,gAb];omega,gU9 (by simp only [idT,ed,eds];omega),.lf (.inr (.inr ⟨t,rfl,hh⟩))⟩
     | false=>
       simp only [gI];cases d with
       | zero=>
         rw [show decide (((0:Nat):Int)≤0)=true from by decide];exact⟨_,_,rfl,e4,hBv (by decide),by simp only [gDe,tnd,gAb];omega,gU9 (by simp [gDe,ed,eds]),.lf (.inl ⟨_,rfl⟩)⟩
       | succ d=>
         rw [show decide (((d+1:Nat):Int)≤0)=false from decide_eq_false (by omega),gI,show IntKind.i64.wrap (((d+1:Nat):Int) - 1)=(d:Int)from by rw [qR _ (by omega) (by omega)];omega];have hp:4^(d+1+1)=4^(d+1)*4:=Nat.pow_succ ..;have hp1:1≤4^(d+1):=Nat.one_le_pow _ _ (by omega);obtain⟨y,c2,f,h⟩:=gM9 c1 2 e4 (by omega) (by omega);rw [jO f];obtain⟨t1,c3,g1,g2,g3,g4,g5,g6⟩:=hrec d rfl c2 h;cases y with
         | true=>
           simp only [gT];rw [jO g1,jO (gXb _ [t1] (by simp))];exact⟨_,_,rfl,g2,gXa (by simpa using g3) (by simp),by simp only [tnd,gAb];omega,hU1 g5,.inr ⟨_,[t1],rfl,by simp,by simp,by simpa using g6⟩⟩
         | false=>
           simp only [gI];obtain⟨t2,c4,k1,k2,k3,k4,k5,k6⟩:=hrec d rfl c3 g2;rw [jO g1,jO k1,jO (gXb _ [t1,t2] (by simp))];exact⟨_,_,rfl,k2,gXa (by simp [g3,k3]) (by simp),by simp only [tnd,gAb];omega,hRi g5 k5,.inr ⟨_,[t1,t2],rfl,by simp,by simp,by simp [g6,k6]⟩⟩
theorem hGj:∀(n d:Nat),d < n→d≤8→∀c,gBp c→∃t c',gHi n c (d:Int)=some (t,c')∧gBp c'∧DT VZ t∧tnd t≤4^(d+1)∧SZ d t∧Dr d t
 | 0,d,h,_=>by omega
 | n+1,d,h,f=>fun c hc=>by
   rw [gHi];exact jAa d f (fun e he c hc=>hGj n e (by omega) (by omega) c hc) c hc
theorem hPt(c:jB)(hc:gBp c):∃t c',gHi 5000 c 2=some (t,c')∧gBp c'∧DT VZ t∧tnd t≤64∧SZ 2 t∧Dr 2 t:=hGj 5000 2 (by omega) (by omega) c hc
theorem hPu(c:jB)(hc:gBp c):∃t c',gHi 5000 c 3=some (t,c')∧gBp c'∧DT VZ t∧tnd t≤256∧SZ 3 t∧Dr 3 t:=hGj 5000 3 (by omega) (by omega) c hc
theorem hU2(f:Int × jB)(h3:f.1≤3):∀(n k:Nat)(c:jB)(acc:List gW),0 < n→f.1 < k+n→gBp c→acc.length=k→k≤900→gOy acc→∃l c',gCv f n c.b c.i c.h acc (k:Int)=some (l,c')∧gBp c'∧gOy l∧l.length≤1000
 | 0,k,c,acc,h,_,_,_,_,_=>by omega
 | n+1,k,c,acc,_,h,hc,ha,hk,hw=>by
   rw [gCv];cases hd:decide ((k:Int) < f.1)with
   | false=>exact⟨_,_,rfl,hc,hw,by omega⟩
   | true=>
     have hd:=of_decide_eq_true hd;obtain⟨s,c1,y,f2,f3⟩:=gVr c [[115,104,111,119],[111,114,100],[97,100,100]] hc (by simp) (by simp);obtain⟨v,c2,g1,g2,g3⟩:=gVr c1 [[97],[98]] f2 (by simp) (by simp);have y:gGv ⟨c.b,c.i,c.h⟩ [[115,104,111,119],[111,114,100],[97,100,100]]=some (s,c1):=y;rw [gT,jO y,jO g1];simp only [lt_];rw [mI (by simp;omega),show IntKind.i64.wrap ((k:Int)+1)=((k+1:Nat):Int)from gVo (by omega)];refine hU2 f h3 n (k+1) c2 _ (by omega) (by omega) g2 (by simp [ha]) (by omega) (fun b hb=>?_);rcases List.mem_append.1 hb with hb | hb
     ·exact hw b hb
     ·simp only [List.mem_singleton] at hb;subst hb;simp only [List.mem_cons,List.not_mem_nil,or_false] at f3 g3;exact⟨f3,v,by rcases g3 with rfl | rfl<;>rfl,rfl⟩
theorem hMw(c:jB)(hc:gBp c):∃l c',gSa c=some (l,c')∧gBp c'∧gOy l∧l.length≤1000:=by
 obtain⟨x,f,h,e2,e3,y⟩:=gGs c 3 hc (by omega) (by omega);unfold gSa gMd;rw [jO h];exact hU2 (x,f) (by simp only;omega) 5000 0 f [] (by omega) (by simp only;omega) y rfl (by omega) (fun b hb=>by simp at hb)
theorem hRm(c:jB)(hc:gBp c):∃w k c',gK5 c=some (w,c')∧gBp c'∧gO8 w k∧gZp w:=by
 obtain⟨b,c1,e1,e2⟩:=hSe c hc
 have hC:okC b=true:=by cases b;· exact jD2
                        ·exact jD1
 obtain⟨p,p1,p2,_,p4,p5,p6⟩:=hLq (by omega) hC;have hp:p=pC b:=by unfold pC;rw [p2]
 subst hp;obtain⟨y,c2,f1,f2⟩:=gM9 c1 5 e2 (by omega) (by omega);unfold gK5 gFg;rw [jO e1,jO f1];cases y with
 | true=>
   have hP:yN (fmt (gVq b))=some (⟨[pC b]⟩,-1):=by
    unfold yN;rw [jO (hW9 _ p5 (by omega))];simp only [uH,p4,gI,p1,bnd,lt_,Bool.not_true];rw [show (((([]:List kH).length:Nat):Int)==5)=false from by decide,gI,mI (by simp)];rfl
   simp only [gT,bnd];rw [hP];exact⟨_,kC b,_,rfl,f2,hP0 b [] (.inl rfl),hP4 b [] (.inl rfl)⟩
 | false=>
   simp only [gI];obtain⟨hd,m,h,o2,o3,c3,g1,g2,g3,g4,g5,g6,g7⟩:=hVc c2 f2;have hA:=jAt;unfold okA at hA;have h1:=List.all_eq_true.1 hA hd g3;have h2:=List.all_eq_true.1 h1 m g4;have h3:=List.all_eq_true.1 h2 h (by rcases g5 with rfl | rfl<;>simp);have h4:=List.all_eq_true.1 h3 o2 (by rcases g6 with rfl | rfl<;>simp);have h5:=List.all_eq_true.1 h4 o3 (by rcases g7 with rfl | rfl<;>simp);obtain⟨q,q1,_,f,q4,q5,q6⟩:=hLq (by omega) h5;simp only [Bool.and_eq_true,decide_eq_true_eq] at f;rw [mI (by simp;omega),jO g1,mI (by simp;omega)];simp only [bnd];have hP:yN (fmt (gVq b)++[10]++fmt (hR9 hd m h o2 o3))=some (⟨[pC b,q]⟩,-1):=by
    unfold yN;have hs:gEv (fmt (gVq b)++[10]++fmt (hR9 hd m h o2 o3)) 10=some [fmt (gVq b),fmt (hR9 hd m h o2 o3)]:=hXa _ _ p5 q5 (by omega);rw [jO hs];simp only [uH,p4,q4,gI,p1,q1,bnd,lt_,Bool.not_true];rw [show (((([]:List kH).length:Nat):Int)==5)=false from by decide,gI,mI (by simp)];rw [show ((((([]++[pC b]):List kH).length:Nat):Int)==5)=false from by simp,gI,mI (by simp)];rfl
   rw [hP];exact⟨_,kC b,_,rfl,g2,hP0 b [q] (.inr ⟨q,rfl,f.1,f.2⟩),hP4 b [q] (.inr ⟨q,rfl,f.1,f.2⟩)⟩
theorem gT8{s:gJ}(h:s.code=0)(c:Int):(pG s c).code=c∧(pG s c).at_=s.node:=by
 unfold pG;rw [h];exact⟨rfl,rfl⟩
section
variable {w:gK}{k:Int}(hw:gO8 w k)(hi:gZp w){wh:List gW}{fs:List gQ}(hf:pK w wh=some fs)(hF:FV fs){V:LS}
theorem hPv{d n m:Nat}(hd:d+1≤40)(ih:∀(s s':gJ)(a b:gB),mD n w wh s a b (d:Int)=some s'→Inv V s→DT V a→DT V b→tnd a≤8000000→tnd b≤8000000→Out V s s'∧Imp w fs m d s s' a b)(y:gB) :
  ∀(xs ys:List gB)(j:Nat)(c s':gJ),y.args.drop j=ys→ys.length=xs.length→(∀x∈xs,DT V x∧tnd x≤2000)→(∀x∈ys,DT V x∧tnd x≤2000)→Inv V c→
  qF (mD n) w wh ((d+1:Nat):Int) y xs j c.next c.count c.node c.bindings c.equations c.obligations c.code c.at_=some s'→
  Out V c s'∧(∀r,Rok r→Slv r s'.bindings→HSt r c→(∀x∈xs,HS 5 r x)→(∀x∈ys,HS 5 r x)→HSt r s'∧∀q,(∀x∈xs,hg r x+cz fs x+q+1≤d)→(∀x∈ys,cz fs x≤q)→
   gDp (gG0 m) c.next c.count c.node c.obligations ⟨w,fs⟩ (40 - ((d+1:Nat):Int)) y xs j c.code c.at_ c.bindings c.equations=some (s'.code,s'.at_,s'.bindings,s'.equations))
 | [],ys,j,c,s',_,_,_,_,hI,h=>by
   rw [qF] at h;cases h;exact⟨.refl hI,fun r _ _ hst _ _=>⟨hst,fun _ _ _=>rfl⟩⟩
 | x::xs,[],j,c,s',_,hl,_,_,_,_=>by simp at hl
 | x::xs,f::ys,j,c,s',hdr,hl,hx,hy,hI,h=>by
   simp only [List.length_cons] at hl;have hyj:y.args[j]? =some f:=by
    have:(y.args.drop j)[0]? =some f:=by rw [hdr];rfl
    rw [List.getElem?_drop] at this;simpa using this
   have hdr2:y.args.drop (j+1)=ys:=by rw [←List.drop_drop,hdr];rfl
   obtain⟨x1,x2⟩:=hx x (by simp);obtain⟨y2,y3⟩:=hy f (by simp);rw [qF,zI,hyj] at h;obtain⟨z,hz,h⟩:=gM h;cases hz;obtain⟨s2,e1,h⟩:=gM h;rw [show IntKind.i64.wrap (((d+1:Nat):Int) - 1)=(d:Int)from by rw [qR _ (by omega) (by omega)];omega] at e1;have e1:mD n w wh c x f (d:Int)=some s2:=e1;obtain⟨o1,i1⟩:=ih c s2 x f e1 hI x1 y2 (by omega) (by omega);obtain⟨o2,i2⟩:=hPv hd ih y xs ys (j+1) s2 s' hdr2 (by omega) (fun u hu=>hx u (by simp [hu])) (fun u hu=>hy u (by simp [hu])) o1.inv h;obtain⟨l,e⟩:=o2.ext;refine⟨o1.trans o2,fun r hr hs hst hx hy=>?_⟩;have hs2:Slv r s2.bindings:=by rw [e] at hs;exact hs.pre
   obtain⟨u2,u1⟩:=i1 r hr hs2 hst (hx x (by simp)) (hy f (by simp));obtain⟨v2,v1⟩:=i2 r hr hs u2 (fun u hu=>hx u (by simp [hu])) (fun u hu=>hy u (by simp [hu]));refine⟨v2,fun q hx hy=>?_⟩;have f2:=hx x (by simp);have g2:=hy f (by simp);have v:=v1 q (fun u hu=>hx u (by simp [hu])) (fun u hu=>hy u (by simp [hu]));rw [o1.nx,o1.ct,o1.nd,o1.ob] at v;rw [gDp,zI,hyj,jO rfl,show IntKind.i64.wrap (40 - ((d+1:Nat):Int)+1)=40 - (d:Int)from by rw [qR _ (by omega) (by omega)];omega,jO (u1 (by omega))];exact v
include hw hi hf hF
set_option maxRecDepth 100000 in
theorem agree(hV:V.length≤5):∀(d n m:Nat)(s s':gJ)(a b:gB),d≤40→d < m→mD n w wh s a b (d:Int)=some s'→Inv V s→DT V a→DT V b→tnd a≤8000000→tnd b≤8000000→Out V s s'∧Imp w fs m d s s' a b:=by
 intro d
 induction d with
 | zero=>
   intro n m s s' a b _ _ h hI ha hb _ _
   suffices hO:Out V s s'∧s'.bindings=s.bindings∧s'.equations=s.equations from⟨hO.1,fun r _ _ hst _ _=>⟨hst.of hO.2.1 hO.2.2,fun hle=>by omega⟩⟩
   rcases n with _ | n
   ·rw [mD] at h;cases h
   ·rw [mD] at h;unfold gA8 at h;cases hc:(s.code != 0)with
    | true=>rw [hc] at h;cases h;exact⟨.refl hI,rfl,rfl⟩
    | false=>
      rw [hc,gI,mI ⟨hI.bok,ha.1.1⟩] at h;simp only [lt_] at h;rw [mI ⟨hI.bok,hb.1.1⟩] at h;cases ht:teq (zkF s a) (zkF s b)with
      | true=>rw [ht] at h;cases h;exact⟨.refl hI,rfl,rfl⟩
      | false=>
        rw [ht,gI,show decide (((0:Nat):Int)≤0)=true from by decide] at h;simp only [gT,Option.some.injEq] at h;subst h;exact⟨.fail hI 6,(vI s 6).1,(vI s 6).2⟩
 | succ d ih=>
   intro n m s s' a b hd hm h hI ha hb hta htb;obtain⟨m,rfl⟩:∃i,m=i+1:=⟨m - 1,by omega⟩
   rcases n with _ | n
   ·rw [mD] at h;cases h
   have hl:=hI.len;have hx:=gYt (fun c hc=>(hI.dt c hc).1) 60 a ha;have hy:=gYt (fun c hc=>(hI.dt c hc).1) 60 b hb;have tx:=gQg hI.gU4 60 a hta;have ty:=gQg hI.gU4 60 b htb;have dx:=gLr hI.tri 60 0 a (hT7 _ _) (by omega);have dy:=gLr hI.tri 60 0 b (hT7 _ _) (by omega);have cx:=hXb (fs:=fs) s.bindings 60 a;have cy:=hXb (fs:=fs) s.bindings 60 b;have sx:∀r,Slv r s.bindings→HSt r s→HS 5 r a→HS 5 r (zk s.bindings 60 a)∧hg r (zk s.bindings 60 a)=hg r a:=fun r f h2 h3=>hN3 f h2.lk 60 a h3;have sy:∀r,Slv r s.bindings→HSt r s→HS 5 r b→HS 5 r (zk s.bindings 60 b)∧hg r (zk s.bindings 60 b)=hg r b:=fun r f h2 h3=>hN3 f h2.lk 60 b h3;have z1:=gWp s.next s.count s.node s.bindings s.equations s.obligations s.code s.at_ (M:=2000) (by omega) hI.bok hI.gU4 ha.1.1 (by omega);have z2:=gWp s.next s.count s.node s.bindings s.equations s.obligations s.code s.at_ (M:=2000) (by omega) hI.bok hI.gU4 hb.1.1 (by omega);have hw1:IntKind.i64.wrap (((d+1:Nat):Int) - 1)=(d:Int):=by rw [qR _ (by omega) (by omega)];omega
   have hw2:IntKind.i64.wrap (40 - ((d+1:Nat):Int)+1)=40 - (d:Int):=by rw [qR _ (by omega) (by omega)];omega
   have hU:gG0 (m+1) s.next s.count s.node s.bindings s.equations s.obligations s.code s.at_ ⟨w,fs⟩ a b (40 - ((d+1:Nat):Int))=gOu (gG0 m) s.next s.count s.node s.bindings s.equations s.obligations s.code s.at_ ⟨w,fs⟩ a b (40 - ((d+1:Nat):Int)):=by rw [gG0]
   rw [mD] at h;unfold gA8 at h;unfold gOu at hU;unfold zkF at h;rw [jO z1,jO z2] at hU;generalize zk s.bindings 60 a=x at *;generalize zk s.bindings 60 b=y at *;clear z1 z2;unfold Imp;cases hc:(s.code != 0)with
   | true=>
     rw [hc,gT] at h hU;cases h;exact⟨.refl hI,fun r _ _ hst _ _=>⟨hst,fun _=>hU⟩⟩
   | false=>
     have hc0:s.code=0:=by simpa using hc
     rw [hc,gI,mI ⟨hI.bok,ha.1.1⟩] at h;rw [hc,gI] at hU;simp only [lt_] at h hU;rw [mI ⟨hI.bok,hb.1.1⟩] at h;cases ht:teq x y with
     | true=>
       rw [ht,gT] at h hU;cases h;exact⟨.refl hI,fun r _ _ hst _ _=>⟨hst,fun _=>hU⟩⟩
     | false=>
       rw [ht,gI] at h hU;rw [show decide (((d+1:Nat):Int)≤0)=false from decide_eq_false (by omega),gI,uN x (by omega),uN y (by omega),qR _ (by omega) (by omega)] at h;rw [show decide (40 - ((d+1:Nat):Int) > 40)=false from decide_eq_false (by omega),gI,uN x (by omega),uN y (by omega),qR _ (by omega) (by omega)] at hU;cases hsz:decide (((tnd x:Int)+(tnd y:Int)) > 2000)with
       | true=>
         rw [hsz,gT] at h hU;cases h;refine⟨.fail hI 6,fun r _ _ hst _ _=>⟨hst.of (vI s 6).1 (vI s 6).2,fun _=>hU.trans ?_⟩⟩;rw [gWq,(vI s 6).1,(vI s 6).2]
       | false=>
         rw [hsz,gI] at h hU;have hsz:=of_decide_eq_false hsz;have zx:zbd s.bindings x=false:=by
          rcases dx with h | h
          ·exact h
          ·rw [uN x (by omega)] at h;omega
         have zy:zbd s.bindings y=false:=by
          rcases dy with h | h
          ·exact h
          ·rw [uN y (by omega)] at h;omega
         have ox:=gNl hI.inf zx;have oy:=gNl hI.inf zy;rw [jO (gDx x)] at h;rw [jO (gY2 x)] at hU;cases mx:(x.kind==1 && isInf x.name)with
         | true=>
           rw [mx,gT] at h hU;obtain⟨m1,m2,m3⟩:=gP0 mx hx;obtain⟨s2,e1,h⟩:=gM h;cases h;obtain⟨s3,q1,q2,q3⟩:=bind_ok (d:=0) (p:=0) hI hV (ox _ m1) m2 m3 oy hy (by omega);obtain rfl:=Option.some.inj (q1.symm.trans e1);obtain⟨b1,b2,b3,b4,b5,b6,b7⟩:=hDx (v:=x) (t:=y) (by omega) e1;rw [jO b1] at hU;refine⟨⟨q2,q3.ext,b2,b3,b4,b6⟩,fun r _ hs hst f h2=>⟨⟨fun c hc=>?_,by rw [b5];exact hst.he⟩,fun _=>by rw [hU,b5]⟩⟩;obtain⟨l,e⟩:=q3.ext;have hs0:Slv r s.bindings:=by rw [e] at hs;exact hs.pre
           rcases b7 with b7 | b7
           ·rw [b7] at hc;exact hst.hb c hc
           ·rw [b7] at hc;rcases List.mem_append.1 hc with hc | hc
            ·exact hst.hb c hc
            ·simp only [List.mem_singleton] at hc;subst hc;exact(sy r hs0 hst h2).1
         | false=>
           rw [mx,gI] at h hU;rw [jO (gDx y)] at h;rw [jO (gY2 y)] at hU;cases my:(y.kind==1 && isInf y.name)with
           | true=>
             rw [my,gT] at h hU;obtain⟨m1,m2,m3⟩:=gP0 my hy;obtain⟨s2,e1,h⟩:=gM h;cases h;obtain⟨s3,q1,q2,q3⟩:=bind_ok (d:=0) (p:=0) hI hV (oy _ m1) m2 m3 ox hx (by omega);obtain rfl:=Option.some.inj (q1.symm.trans e1);obtain⟨b1,b2,b3,b4,b5,b6,b7⟩:=hDx (v:=y) (t:=x) (by omega) e1;rw [jO b1] at hU;refine⟨⟨q2,q3.ext,b2,b3,b4,b6⟩,fun r _ hs hst f h2=>⟨⟨fun c hc=>?_,by rw [b5];exact hst.he⟩,fun _=>by rw [hU,b5]⟩⟩;obtain⟨l,e⟩:=q3.ext;have hs0:Slv r s.bindings:=by rw [e] at hs;exact hs.pre
             rcases b7 with b7 | b7
             ·rw [b7] at hc;exact hst.hb c hc
             ·rw [b7] at hc;rcases List.mem_append.1 hc with hc | hc
              ·exact hst.hb c hc
              ·simp only [List.mem_singleton] at hc;subst hc;exact(sx r hs0 hst f).1
           | false=>
             rw [my,gI] at h hU;obtain⟨p,e1,h⟩:=gM h;obtain⟨u,u1,u2⟩:=gTj hw hi hf hF hx (by omega) s.next s.count s.node s.bindings s.equations s.obligations s.code s.at_ hc0 e1;rw [jO u1] at hU;cases hp:p.2.2 with
             | false=>
               rw [hp,Bool.not_false,gT] at h;cases h;rcases u2 with ⟨_,u2⟩ | ⟨u3,_⟩
               ·rw [u2] at hU;refine⟨.fail hI 7,fun r _ _ hst _ _=>⟨hst.of (vI s 7).1 (vI s 7).2,fun _=>hU.trans ?_⟩⟩;rw [(gT8 hc0 7).1,(gT8 hc0 7).2,(vI s 7).1,(vI s 7).2];rfl
               ·rw [hp] at u3;cases u3
             | true=>
               obtain⟨u3,u4⟩:u.2=(p.2.1,s.code,s.at_)∧(p.2.1=true→u.1=p.1):=by
                rcases u2 with ⟨u2,_⟩ | ⟨_,u2⟩
                ·rw [hp] at u2;cases u2
                ·exact u2
               rw [hp,Bool.not_true,gI] at h;rw [u3] at hU;simp only at hU;cases ht1:p.2.1 with
               | true=>
                 rw [ht1,gT] at h hU;rw [u4 ht1,hw2] at hU;obtain⟨s2,e2,h⟩:=gM h;cases h;rw [hw1] at e2;obtain⟨r1,r2,r3,r4⟩:=gY3 hw hf hF hx (by omega) e1 ht1;obtain⟨o1,i1⟩:=ih n m s s' p.1 y (by omega) (by omega) e2 hI r3 hy (by omega) (by omega);refine⟨o1,fun r hr hs hst f h2=>?_⟩;obtain⟨l,e⟩:=o1.ext;have hs0:Slv r s.bindings:=by rw [e] at hs;exact hs.pre
                 have k1:=hUd r1;have k2:=r2 r;have k3:=(sx r hs0 hst f).2;have k4:1≤cz fs x:=by
                  unfold cz;split
                  ·rename_i htw;rw [hQ1 hw hf hF htw e1] at ht1;cases ht1
                  ·omega
                 obtain⟨j2,j1⟩:=i1 r hr hs hst (hXy hr (by omega) r1) (sy r hs0 hst h2).1;exact⟨j2,fun hle=>by rw [jO (j1 (by omega))] at hU;exact hU⟩
               | false=>
                 rw [ht1,gI] at h hU;rw [hc,gI] at hU;obtain⟨p2,e2,h⟩:=gM h;obtain⟨v,v1,v2⟩:=gTj hw hi hf hF hy (by omega) s.next s.count s.node s.bindings s.equations s.obligations s.code s.at_ hc0 e2;rw [jO v1] at hU;cases hp2:p2.2.2 with
                 | false=>
                   rw [hp2,Bool.not_false,gT] at h;cases h;rcases v2 with ⟨_,v2⟩ | ⟨v3,_⟩
                   ·rw [v2] at hU;refine⟨.fail hI 7,fun r _ _ hst _ _=>⟨hst.of (vI s 7).1 (vI s 7).2,fun _=>hU.trans ?_⟩⟩;rw [(gT8 hc0 7).1,(gT8 hc0 7).2,(vI s 7).1,(vI s 7).2];rfl
                   ·rw [hp2] at v3;cases v3
                 | true=>
                   obtain⟨v3,v4⟩:v.2=(p2.2.1,s.code,s.at_)∧(p2.2.1=true→v.1=p2.1):=by
                    rcases v2 with ⟨v2,_⟩ | ⟨_,v2⟩
                    ·rw [hp2] at v2;cases v2
                    ·exact v2
                   rw [hp2,Bool.not_true,gI] at h;rw [v3] at hU;simp only at hU;cases ht2:p2.2.1 with
                   | true=>
                     rw [ht2,gT] at h hU;rw [v4 ht2,hw2] at hU;obtain⟨s2,e3,h⟩:=gM h;cases h;rw [hw1] at e3;obtain⟨r1,r2,r3,r4⟩:=gY3 hw hf hF hy (by omega) e2 ht2;obtain⟨o1,i1⟩:=ih n m s s' x p2.1 (by omega) (by omega) e3 hI hx r3 (by omega) (by omega);refine⟨o1,fun r hr hs hst f h2=>?_⟩;obtain⟨l,e⟩:=o1.ext;have hs0:Slv r s.bindings:=by rw [e] at hs;exact hs.pre
                     have k1:=hUd r1;have k3:=(sx r hs0 hst f).2;have k4:1≤cz fs y:=by
                      unfold cz;split
                      ·rename_i htw;rw [hQ1 hw hf hF htw e2] at ht2;cases ht2
                      ·omega
                     obtain⟨j2,j1⟩:=i1 r hr hs hst (sx r hs0 hst f).1 (hXy hr (by omega) r1);exact⟨j2,fun hle=>by rw [jO (j1 (by omega))] at hU;exact hU⟩
                   | false=>
                     rw [ht2,gI] at h hU;rw [hc,gI,jO (hLr (t:=x) (by omega))] at hU;have hD:(cnd ((x.kind==3) && gG8 x) (some true) (bnd (gTh y) fun z=>some z))=some (cnd (x.kind==3) (cnd (gG8 x) true (cnd (y.kind==3) (gG8 y) false)) (cnd (y.kind==3) (gG8 y) false)):=by
                      rw [hLr (t:=y) (by omega)];cases x.kind==3<;>cases gG8 x<;>cases y.kind==3<;>cases gG8 y<;>rfl
                     rw [jO hD] at hU;cases hdef:cnd (x.kind==3) (cnd (gG8 x) true (cnd (y.kind==3) (gG8 y) false)) (cnd (y.kind==3) (gG8 y) false)with
                     | true=>
                       rw [hdef,gT] at h hU;obtain⟨_,h⟩:=mY h;obtain⟨g,h⟩:=mY h;cases h;rw [mI (by simpa using g)] at hU;refine⟨⟨⟨hI.tri,hI.inf,hI.dt,hI.obl,fun q hq=>?_⟩,⟨[],by simp⟩,rfl,rfl,rfl,rfl⟩,fun r _ hs hst f h2=>⟨⟨hst.hb,fun q hq=>?_⟩,fun _=>by rw [hU];rfl⟩⟩
                       ·simp only [List.nil_append,List.mem_append,List.mem_singleton] at hq;rcases hq with hq | rfl
                        ·exact hI.eqs q hq
                        ·exact⟨⟨hx,by show tnd x≤2000;omega⟩,hy,by show tnd y≤2000;omega⟩
                       ·simp only [List.nil_append,List.mem_append,List.mem_singleton] at hq;rcases hq with hq | rfl
                        ·exact hst.he q hq
                        ·exact⟨(sx r hs hst f).1,(sy r hs hst h2).1⟩
                     | false=>
                       rw [hdef,gI] at h hU;cases hmm:cnd (x.kind != y.kind) true (cnd (!(x.name==y.name)) true (cnd ((x.args.length:Int) !=(y.args.length:Int)) true (x.kind==3)))with
                       | true=>
                         rw [hmm,gT] at h hU;cases h;refine⟨.fail hI 1,fun r _ _ hst _ _=>⟨hst.of (vI s 1).1 (vI s 1).2,fun _=>hU.trans ?_⟩⟩;rw [gWq,(vI s 1).1,(vI s 1).2]
                       | false=>
                         rw [hmm,gI] at h hU;obtain⟨hkk,hlen,hk3⟩:x.kind=y.kind∧y.args.length=x.args.length∧x.kind≠3:=by
                          cases f:(x.kind != y.kind)with
                          | true=>rw [f] at hmm;cases hmm
                          | false=>
                            rw [f,gI] at hmm;cases h2:(!(x.name==y.name))with
                            | true=>rw [h2] at hmm;cases hmm
                            | false=>
                              rw [h2,gI] at hmm;cases h3:((x.args.length:Int) !=(y.args.length:Int))with
                              | true=>rw [h3] at hmm;cases hmm
                              | false=>
                                rw [h3,gI] at hmm;have h3:(x.args.length:Int)=(y.args.length:Int):=by simpa using h3
                                exact⟨by simpa using f,by omega,by simpa using hmm⟩
                         obtain⟨o1,i1⟩:=hPv (fs:=fs) (by omega) (fun s s' a b f h2 h3 h4 h5 h6=>ih n m s s' a b (by omega) (by omega) f h2 h3 h4 h5 h6) y x.args y.args 0 s s' rfl hlen (fun u hu=>⟨gE7 hx u hu,by have:=gMk hu;omega⟩) (fun u hu=>⟨gE7 hy u hu,by have:=gMk hu;omega⟩) hI h;refine⟨o1,fun r hr hs hst f h2=>?_⟩;obtain⟨l,e⟩:=o1.ext;have hs0:Slv r s.bindings:=by rw [e] at hs;exact hs.pre
                         obtain⟨a1,a2⟩:=sx r hs0 hst f;obtain⟨c1,c2⟩:=sy r hs0 hst h2;obtain⟨j2,j1⟩:=i1 r hr hs hst (gAa a1) (gAa c1)
                         exact⟨j2,fun hle=>hU.trans (j1 (cz fs b) (fun u hu=>by
                          have g1:=hUh (r:=r) hu;have g2:cz fs u≤cz fs x:=hLt fun h=>hLs h hk3 u hu
                          omega) (fun u hu=>by
                          have g2:cz fs u≤cz fs y:=hLt fun h=>hLs h (by rw [←hkk];exact hk3) u hu
                          omega))⟩
end
structure PS (V:LS)(B:Nat)(s:gJ):Prop where
 inv:Inv V s
 len:s.equations.length≤B
 hs:∀r,Rok r→Slv r s.bindings→HSt r s
theorem hS6{V:LS}{s:gJ}(h:Inv V s):Rok (slv s.bindings):=fun v hv=>gZ5 (fun hd=>by
 obtain⟨b,c,rfl⟩:=List.mem_map.1 hd;rw [h.inf b c] at hv
 cases hv)
theorem hVn{r:LB→Nat}:∀{t:gB},t.kind=1→t.args=[]→hg r t=r t.name
 | ⟨k,n,ts⟩,c,f=>by
   simp only at c f;subst c;subst f;simp [hg,hgs]
theorem hQd{w:gK}{k:Int}(hw:gO8 w k)(hi:gZp w){wh:List gW}(hwh:gOy wh)(hwl:wh.length≤1000){fs:List gQ}(hf:pK w wh=some fs)(hF:FV fs){V:LS}(hV:V.length≤5){B:Nat}(hB:B≤4000000){s:gJ}(h:PS V B s){a b:gB}(ha:DT V a)(hb:DT V b)(hta:tnd a≤2000)(htb:tnd b≤2000)(wa:∀r,HS 5 r a)(wb:∀r,HS 5 r b):∃c,mD 5000 w wh s a b 40=some c∧Out V s c∧PS V (B+1000000) c∧∀r,Rok r→Slv r c.bindings→hg r a≤37→gG0 5000 s.next s.count s.node s.bindings s.equations s.obligations s.code s.at_ ⟨w,fs⟩ a b 0=some (c.code,c.at_,c.bindings,c.equations):=by
 have hlen:=h.len;have hk:=hOx;have y:KQ*(40+1)*(6 - s.bindings.length)≤KQ*(40+1)*6:=Nat.mul_le_mul_left _ (by omega);rw [hk] at y;obtain⟨c,f,e2,e3⟩:=hK6 hw hwh hwl hV 40 5000 (by omega) (by omega) s a b h.inv ha hb (by omega) (by omega) (by rw [hk];omega);have f:mD 5000 w wh s a b 40=some c:=f;obtain⟨o,i⟩:=agree hw hi hf hF hV 40 5000 5000 s c a b (by omega) (by omega) f h.inv ha hb (by omega) (by omega);have g6:KQ*(40+1)*(c.bindings.length - s.bindings.length)≤KQ*(40+1)*6:=Nat.mul_le_mul_left _ (by have:=e2.len;omega);have g7:=e3.le;rw [hk] at g6 g7;obtain⟨l,e⟩:=o.ext;have pre2:∀r,Slv r c.bindings→Slv r s.bindings:=fun r hs=>by rw [e] at hs;exact hs.pre
 refine⟨c,f,o,⟨o.inv,by omega,fun r hr hs=>(i r hr hs (h.hs r hr (pre2 r hs)) (wa r) (wb r)).1⟩,fun r hr hs hle=>(i r hr hs (h.hs r hr (pre2 r hs)) (wa r) (wb r)).2 ?_⟩;have c1:=hUc fs a;have c2:=hUc fs b;omega
structure Oq (V:LS)(s s':gJ):Prop where
 inv:Inv V s'
 ext:∃l,s'.bindings=s.bindings++l
 eqx:∃l,s'.equations=s.equations++l
 cd:s'.code=0→s.code=0
theorem Oq.refl{V:LS}{s:gJ}(h:Inv V s):Oq V s s:=⟨h,⟨[],by simp⟩,⟨[],by simp⟩,id⟩
theorem Oq.fail{V:LS}{s:gJ}(h:Inv V s)(hc:s.code=0)(c:Int):Oq V s (pG s c):=⟨h.fail c,⟨[],by rw [(vI s c).1,List.append_nil]⟩,⟨[],by rw [(vI s c).2,List.append_nil]⟩,fun _=>hc⟩
theorem Oq.trans{V:LS}{s s' s'':gJ}(h:Oq V s s')(h':Oq V s' s''):Oq V s s'':=by
 obtain⟨l,e⟩:=h.ext;obtain⟨l',e'⟩:=h'.ext;obtain⟨m,f⟩:=h.eqx;obtain⟨m',f'⟩:=h'.eqx;exact⟨h'.inv,⟨l++l',by rw [e',e,List.append_assoc]⟩,⟨m++m',by rw [f',f,List.append_assoc]⟩,fun hc=>h.cd (h'.cd hc)⟩
def Sd(s s':gJ)(a b:gB):Prop:=∀R,Rn R→gXv R s'.bindings→(s'.code=0→s'.equations=[]→sb R a=sb R b∨hpT (sb R a)=true∨hpT (sb R b)=true)∧∀D,(∀c∈s.bindings,HP R D c.type_)→PO R D a b→∀c∈s'.bindings,HP R D c.type_
theorem Sd.fail{s:gJ}(hc:s.code=0){c:Int}(h:c≠0){a b:gB}:Sd s (pG s c) a b:=fun R _ _=>⟨fun f=>absurd ((gT8 hc c).1.symm.trans f) h,fun D hb _ d hd=>hb d (by rw [(vI s c).1] at hd;exact hd)⟩
theorem gOf{v:LB}{t:gB}:∀{l:List gG},v∉dom l→lkp v (l++[⟨v,t⟩])=(t,true)
 | [],_=>by simp [lkp,cnd]
 | b::l,h=>by
   simp only [dom,List.map_cons,List.mem_cons,not_or] at h;simp only [List.cons_append,lkp];rw [beq_false_of_ne (fun e=>h.1 e.symm),gI];exact gOf (l:=l) h.2
theorem hVo{V:LS}{s s':gJ}(h:Inv V s)(hc:s.code=0)(hV:V.length≤5){v:LB}{t:gB}(hv:v∉dom s.bindings)(hvV:v∈V)(hi:isInf v=true)(ht:∀u∈tvs t,u∉dom s.bindings)(hD:DT V t)(hsz:tnd t≤2000)(e:gC7 s v t=some s'):Oq V s s'∧((s'.code≠0∧s'.bindings=s.bindings)∨s'.bindings=s.bindings++[⟨v,t⟩]):=by
 have hl:=h.len;obtain⟨c,f,y,e3⟩:=bind_ok (d:=0) (p:=0) h hV hv hvV hi ht hD hsz;obtain rfl:=Option.some.inj (f.symm.trans e);unfold gC7 at e;rw [jO (hK9 (by omega))] at e;by_cases ho:v∈tvs t
 ·rw [decide_eq_true ho,gT] at e;obtain rfl:pG s 2=c:=Option.some.inj e;exact⟨.fail h hc 2,.inl ⟨by rw [(gT8 hc 2).1];decide,(vI s 2).1⟩⟩
 ·rw [decide_eq_false ho,gI,mI (by simp;omega),mI (by simp;omega)] at e;obtain rfl:=Option.some.inj e;exact⟨⟨y,e3.ext,⟨[],by simp⟩,fun _=>hc⟩,.inr rfl⟩
theorem hCr{R:LB→gB}{x:gB}(h:x.kind=3):hpT (sb R x)=true:=by
 rw [gUk (by rw [h];decide)];simp [hpT,h]
theorem PO.right{R:LB→gB}{D:List Nat}{x y:gB}(h:PO R D x y)(hx:x.kind=1):HP R D y:=by
 cases h with
 | hp _ c=>exact c
 | st f=>exact absurd hx f
theorem PO.left{R:LB→gB}{D:List Nat}{x y:gB}(h:PO R D x y)(hy:y.kind=1):HP R D x:=by
 cases h with
 | hp c _=>exact c
 | st _ c=>exact absurd hy c
theorem hIm{fs:List gQ}{d:Nat}{t:gB}(h:tw fs d t):t.kind≠1:=by
 have c:(2:Int)≠1:=by decide
 have f:(3:Int)≠1:=by decide
 cases d with
 | zero=>
   rcases h with rfl | ⟨n,_,rfl,_⟩
   ·exact c
   ·exact f
 | succ d=>
   rcases h with (rfl | ⟨n,_,rfl,_⟩) | ⟨u,rfl,_⟩
   ·exact c
   ·exact f
   ·exact c
theorem PO.redl{R:LB→gB}{D:List Nat}{x y z:gB}(h:PO R D x y)(h3:x.kind=3)(hk:z.kind≠1)(hz:HP R D x→HP R D z):PO R D z y:=by
 cases h with
 | hp h1 c=>exact .hp (hz h1) c
 | st _ c h3' g3 h=>
   obtain⟨k1,k2⟩:=h3' h3;have f:=hz k1;exact .st hk c (fun _=>⟨f,k2⟩) (fun hy=>⟨(g3 hy).1,fun u hu=>gAa f u hu⟩) (fun i u v hu hv=>.hp (gAa f u (List.mem_of_getElem? hu)) (k2 v (List.mem_of_getElem? hv)))
theorem PO.redr{R:LB→gB}{D:List Nat}{x y z:gB}(h:PO R D x y)(h3:y.kind=3)(hk:z.kind≠1)(hz:HP R D y→HP R D z):PO R D x z:=by
 cases h with
 | hp c h2=>exact .hp c (hz h2)
 | st c _ h3' g3 h=>
   obtain⟨k1,k2⟩:=g3 h3;have f:=hz k1;exact .st c hk (fun hx=>⟨(h3' hx).1,fun u hu=>gAa f u hu⟩) (fun _=>⟨f,k2⟩) (fun i u v hu hv=>.hp (k2 u (List.mem_of_getElem? hu)) (gAa f v (List.mem_of_getElem? hv)))
theorem PO.args{R:LB→gB}{D:List Nat}{x y:gB}(h:PO R D x y):∀(i:Nat)(u v:gB),x.args[i]? =some u→y.args[i]? =some v→PO R D u v:=by
 intro i u v hu hv;cases h with
 | hp c f=>exact .hp (gAa c u (List.mem_of_getElem? hu)) (gAa f v (List.mem_of_getElem? hv))
 | st _ _ _ _ h=>exact h i u v hu hv
section
variable {w:gK}{k:Int}(hw:gO8 w k){wh:List gW}{fs:List gQ}(hf:pK w wh=some fs)(hF:FV fs){V:LS}(hV:V.length≤5)(hVa:∀v∈V,v=[97]∨isInf v=true)
theorem hVp{n:Nat}{left:Int}(ih:∀(s s':gJ)(a b:gB)(l:Int),mD n w wh s a b l=some s'→Inv V s→DT V a→DT V b→tnd a≤8000000→tnd b≤8000000→Oq V s s'∧Sd s s' a b)(y:gB) :
  ∀(xs ys:List gB)(j:Nat)(s1 s':gJ),y.args.drop j=ys→ys.length=xs.length→(∀x∈xs,DT V x∧tnd x≤2000)→(∀x∈ys,DT V x∧tnd x≤2000)→Inv V s1→
  qF (mD n) w wh left y xs j s1.next s1.count s1.node s1.bindings s1.equations s1.obligations s1.code s1.at_=some s'→
  Oq V s1 s'∧∀R,Rn R→gXv R s'.bindings→(s'.code=0→s'.equations=[]→sbs R xs=sbs R ys∨hFk (sbs R xs)=true∨hFk (sbs R ys)=true)∧∀D,(∀c∈s1.bindings,HP R D c.type_)→(∀(i:Nat)(u v:gB),xs[i]? =some u→ys[i]? =some v→PO R D u v)→∀c∈s'.bindings,HP R D c.type_
 | [],ys,j,s1,s',_,hl,_,_,hI,h=>by
   rw [qF] at h;cases h
   have:ys=[]:=List.eq_nil_of_length_eq_zero hl
   subst this;exact⟨.refl hI,fun R _ _=>⟨fun _ _=>.inl rfl,fun D hb _=>hb⟩⟩
 | x::xs,[],j,s1,s',_,hl,_,_,_,_=>by simp at hl
 | x::xs,y1::ys,j,s1,s',hdr,hl,hx,hy,hI,h=>by
   simp only [List.length_cons] at hl;have hyj:y.args[j]? =some y1:=by
    have:(y.args.drop j)[0]? =some y1:=by rw [hdr];rfl
    rw [List.getElem?_drop] at this;simpa using this
   have hdr2:y.args.drop (j+1)=ys:=by rw [←List.drop_drop,hdr];rfl
   obtain⟨x1,x2⟩:=hx x (by simp);obtain⟨y2,y3⟩:=hy y1 (by simp);rw [qF,zI,hyj] at h;obtain⟨z,hz,h⟩:=gM h;cases hz;obtain⟨s2,e1,h⟩:=gM h;have e1:mD n w wh s1 x y1 (IntKind.i64.wrap (left - 1))=some s2:=e1;obtain⟨o1,f1⟩:=ih s1 s2 x y1 _ e1 hI x1 y2 (by omega) (by omega);obtain⟨o2,f2⟩:=hVp ih y xs ys (j+1) s2 s' hdr2 (by omega) (fun u hu=>hx u (by simp [hu])) (fun u hu=>hy u (by simp [hu])) o1.inv h;refine⟨o1.trans o2,fun R hR hs=>?_⟩;obtain⟨l,e⟩:=o2.ext;obtain⟨m,f⟩:=o2.eqx;obtain⟨g1,g2⟩:=f1 R hR (by rw [e] at hs;exact hs.pre);obtain⟨g3,g4⟩:=f2 R hR hs;refine⟨fun hc he=>?_,fun D hb hp=>g4 D (g2 D hb (hp 0 x y1 rfl rfl)) (fun i u v hu hv=>hp (i+1) u v hu hv)⟩;have he2:s2.equations=[]:=by rw [f] at he;exact(List.append_eq_nil_iff.1 he).1
   rcases g1 (o2.cd hc) he2 with k1 | k1 | k1
   ·rcases g3 hc he with k2 | k2 | k2
    ·left;simp only [sbs,k1,k2]
    ·right;left;simp only [sbs,hFk,k2,Bool.or_true]
    ·right;right;simp only [sbs,hFk,k2,Bool.or_true]
   ·right;left;simp only [sbs,hFk,k1,Bool.true_or]
   ·right;right;simp only [sbs,hFk,k1,Bool.true_or]
include hw hf hF hV hVa
set_option maxRecDepth 100000 in
theorem hIo:∀(n:Nat)(s s':gJ)(a b:gB)(left:Int),mD n w wh s a b left=some s'→Inv V s→DT V a→DT V b→tnd a≤8000000→tnd b≤8000000→Oq V s s'∧Sd s s' a b
 | 0,s,s',a,b,left,h,_,_,_,_,_=>by rw [mD] at h;cases h
 | n+1,s,s',a,b,left,h,hI,ha,hb,hta,htb=>by
   have hl:=hI.len;have hx:=gYt (fun c hc=>(hI.dt c hc).1) 60 a ha;have hy:=gYt (fun c hc=>(hI.dt c hc).1) 60 b hb;have tx:=gQg hI.gU4 60 a hta;have ty:=gQg hI.gU4 60 b htb;have dx:=gLr hI.tri 60 0 a (hT7 _ _) (by omega);have dy:=gLr hI.tri 60 0 b (hT7 _ _) (by omega)
   suffices key:Oq V s s'∧Sd s s' (zk s.bindings 60 a) (zk s.bindings 60 b) by
    refine⟨key.1,fun R hR hs=>?_⟩;obtain⟨l,e⟩:=key.1.ext;have hs0:gXv R s.bindings:=by rw [e] at hs;exact hs.pre
    obtain⟨k1,k2⟩:=key.2 R hR hs;rw [hN5 hs0,hN5 hs0] at k1;refine⟨k1,fun D hb hp=>k2 D hb ?_⟩;have lk:∀v,(lkp v s.bindings).2=true→HP R D (lkp v s.bindings).1:=fun v hv=>by
     obtain⟨c,hc,_,hc3⟩:=gL6 hv;rw [hc3];exact hb c hc
    exact hXf hs0 lk 60 (hXe hs0 lk 60 hp)
   rw [mD] at h;unfold gA8 at h;unfold zkF at h;generalize zk s.bindings 60 a=x at *;generalize zk s.bindings 60 b=y at *;cases hc:(s.code != 0)with
   | true=>
     rw [hc,gT] at h;cases h;exact⟨.refl hI,fun R _ _=>⟨fun h0=>(by rw [h0] at hc;cases hc),fun D hb _=>hb⟩⟩
   | false=>
     have hc0:s.code=0:=by simpa using hc
     rw [hc,gI,mI ⟨hI.bok,ha.1.1⟩] at h;simp only [lt_] at h;rw [mI ⟨hI.bok,hb.1.1⟩] at h;cases ht:teq x y with
     | true=>
       rw [ht,gT] at h;cases h
       have:x=y:=(gL3 x y).1 ht
       subst this;exact⟨.refl hI,fun R _ _=>⟨fun _ _=>.inl rfl,fun D hb _=>hb⟩⟩
     | false=>
       rw [ht,gI] at h;rw [uN x (by omega),uN y (by omega),qR _ (by omega) (by omega)] at h;cases hsz:cnd (decide (left≤0)) true (decide (((tnd x:Int)+(tnd y:Int)) > 2000))with
       | true=>
         rw [hsz,gT] at h;cases h;exact⟨.fail hI hc0 6,.fail hc0 (by decide)⟩
       | false=>
         rw [hsz,gI] at h;have hsz:¬ ((tnd x:Int)+(tnd y:Int)) > 2000:=by
          cases hd:decide (left≤0)with
          | true=>rw [hd] at hsz;cases hsz
          | false=>rw [hd,gI] at hsz;exact of_decide_eq_false hsz
         have zx:zbd s.bindings x=false:=by
          rcases dx with h | h
          ·exact h
          ·rw [uN x (by omega)] at h;omega
         have zy:zbd s.bindings y=false:=by
          rcases dy with h | h
          ·exact h
          ·rw [uN y (by omega)] at h;omega
         have ox:=gNl hI.inf zx;have oy:=gNl hI.inf zy;rw [jO (gDx x)] at h;cases mx:(x.kind==1 && isInf x.name)with
         | true=>
           rw [mx,gT] at h;obtain⟨m1,m2,m3⟩:=gP0 mx hx;obtain⟨s2,e1,h⟩:=gM h;cases h;have hk:x.kind=1:=by simp only [Bool.and_eq_true,beq_iff_eq] at mx;exact mx.1
           obtain⟨o,b1⟩:=hVo hI hc0 hV (ox _ m1) m2 m3 oy hy (by omega) e1;refine⟨o,fun R hR hs=>⟨fun h0 _=>.inl ?_,fun D hb hp c hcb=>?_⟩⟩
           ·rcases b1 with ⟨b1,_⟩ | b1
            ·exact absurd h0 b1
            ·have:=hs x.name (by rw [b1,gOf (ox _ m1)])
             rw [b1,gOf (ox _ m1)] at this;rw [gHr hk];exact this.symm
           ·rcases b1 with ⟨_,b1⟩ | b1
            ·rw [b1] at hcb;exact hb c hcb
            ·rw [b1] at hcb;rcases List.mem_append.1 hcb with hcb | hcb
             ·exact hb c hcb
             ·simp only [List.mem_singleton] at hcb;subst hcb;exact hp.right hk
         | false=>
           rw [mx,gI] at h;rw [jO (gDx y)] at h;cases my:(y.kind==1 && isInf y.name)with
           | true=>
             rw [my,gT] at h;obtain⟨m1,m2,m3⟩:=gP0 my hy;obtain⟨s2,e1,h⟩:=gM h;cases h;have hk:y.kind=1:=by simp only [Bool.and_eq_true,beq_iff_eq] at my;exact my.1
             obtain⟨o,b1⟩:=hVo hI hc0 hV (oy _ m1) m2 m3 ox hx (by omega) e1;refine⟨o,fun R hR hs=>⟨fun h0 _=>.inl ?_,fun D hb hp c hcb=>?_⟩⟩
             ·rcases b1 with ⟨b1,_⟩ | b1
              ·exact absurd h0 b1
              ·have:=hs y.name (by rw [b1,gOf (oy _ m1)])
               rw [b1,gOf (oy _ m1)] at this;rw [gHr hk];exact this
             ·rcases b1 with ⟨_,b1⟩ | b1
              ·rw [b1] at hcb;exact hb c hcb
              ·rw [b1] at hcb;rcases List.mem_append.1 hcb with hcb | hcb
               ·exact hb c hcb
               ·simp only [List.mem_singleton] at hcb;subst hcb;exact hp.left hk
           | false=>
             rw [my,gI] at h;obtain⟨p,e1,h⟩:=gM h;cases hp:p.2.2 with
             | false=>
               rw [hp,Bool.not_false,gT] at h;cases h;exact⟨.fail hI hc0 7,.fail hc0 (by decide)⟩
             | true=>
               rw [hp,Bool.not_true,gI] at h;have done:∀(R:LB→gB)(D:List Nat){x:gB}{p:gB × Bool × Bool},Rn R→DT V x→tnd x≤2000→pY w wh x=some p→p.2.1=true→HP R D x→HP R D p.1:=fun R D {x p} hR hx hs e1 ht1 hpx=>by
                obtain⟨r1,_,r3,_⟩:=gY3 hw hf hF hx hs e1 ht1;obtain⟨r6,r7,r8⟩:=hLu hw hf hF hx hs e1 ht1;exact hXm hR r1 (fun v hv=>hVa v (r3.1.2.2 v hv)) (fun h hh=>hXl hR hpx r6 r7 h (Nat.le_trans hh (Nat.le_trans (hXi _) r8)))
               cases ht1:p.2.1 with
               | true=>
                 rw [ht1,gT] at h;obtain⟨s2,e2,h⟩:=gM h;cases h;obtain⟨r1,r2,r3,r4⟩:=gY3 hw hf hF hx (by omega) e1 ht1;obtain⟨r6,r7,r8⟩:=hLu hw hf hF hx (by omega) e1 ht1;obtain⟨o,f⟩:=hIo n s s' p.1 y _ e2 hI r3 hy (by omega) (by omega);exact⟨o,fun R hR hs=>⟨fun _ _=>.inr (.inl (hCr r6)),fun D hb hp=>(f R hR hs).2 D hb (hp.redl r6 (hIm r1) (done R D hR hx (by omega) e1 ht1))⟩⟩
               | false=>
                 rw [ht1,gI] at h;obtain⟨p2,e2,h⟩:=gM h;cases hp2:p2.2.2 with
                 | false=>
                   rw [hp2,Bool.not_false,gT] at h;cases h;exact⟨.fail hI hc0 7,.fail hc0 (by decide)⟩
                 | true=>
                   rw [hp2,Bool.not_true,gI] at h;cases ht2:p2.2.1 with
                   | true=>
                     rw [ht2,gT] at h;obtain⟨s2,e3,h⟩:=gM h;cases h;obtain⟨r1,r2,r3,r4⟩:=gY3 hw hf hF hy (by omega) e2 ht2;obtain⟨r6,r7,r8⟩:=hLu hw hf hF hy (by omega) e2 ht2;obtain⟨o,f⟩:=hIo n s s' x p2.1 _ e3 hI hx r3 (by omega) (by omega);exact⟨o,fun R hR hs=>⟨fun _ _=>.inr (.inr (hCr r6)),fun D hb hp=>(f R hR hs).2 D hb (hp.redr r6 (hIm r1) (done R D hR hy (by omega) e2 ht2))⟩⟩
                   | false=>
                     rw [ht2,gI] at h;cases hdef:cnd (x.kind==3) (cnd (gG8 x) true (cnd (y.kind==3) (gG8 y) false)) (cnd (y.kind==3) (gG8 y) false)with
                     | true=>
                       rw [hdef,gT] at h;obtain⟨_,h⟩:=mY h;obtain⟨g,h⟩:=mY h;cases h;refine⟨⟨⟨hI.tri,hI.inf,hI.dt,hI.obl,fun q hq=>?_⟩,⟨[],by simp⟩,⟨_,rfl⟩,fun _=>hc0⟩,fun R _ hs=>⟨fun _ he=>?_,fun D hb _=>hb⟩⟩
                       ·simp only [List.nil_append,List.mem_append,List.mem_singleton] at hq;rcases hq with hq | rfl
                        ·exact hI.eqs q hq
                        ·exact⟨⟨hx,by show tnd x≤2000;omega⟩,hy,by show tnd y≤2000;omega⟩
                       ·simp at he
                     | false=>
                       rw [hdef,gI] at h;cases hmm:cnd (x.kind != y.kind) true (cnd (!(x.name==y.name)) true (cnd ((x.args.length:Int) !=(y.args.length:Int)) true (x.kind==3)))with
                       | true=>
                         rw [hmm,gT] at h;cases h;exact⟨.fail hI hc0 1,.fail hc0 (by decide)⟩
                       | false=>
                         rw [hmm,gI] at h;obtain⟨hkk,hnn,hlen⟩:x.kind=y.kind∧x.name=y.name∧y.args.length=x.args.length:=by
                          cases h1:(x.kind != y.kind)with
                          | true=>rw [h1] at hmm;cases hmm
                          | false=>
                            rw [h1,gI] at hmm;cases h2:(!(x.name==y.name))with
                            | true=>rw [h2] at hmm;cases hmm
                            | false=>
                              rw [h2,gI] at hmm;cases h3:((x.args.length:Int) !=(y.args.length:Int))with
                              | true=>rw [h3] at hmm;cases hmm
                              | false=>
                                have h3:(x.args.length:Int)=(y.args.length:Int):=by simpa using h3
                                exact⟨by simpa using h1,by simpa using h2,by omega⟩
                         obtain⟨o,f⟩:=hVp (fun s s' a b l h1 h2 h3 h4 h5 h6=>hIo n s s' a b l h1 h2 h3 h4 h5 h6) y x.args y.args 0 s s' rfl hlen (fun u hu=>⟨gE7 hx u hu,by have:=gMk hu;omega⟩) (fun u hu=>⟨gE7 hy u hu,by have:=gMk hu;omega⟩) hI h;refine⟨o,fun R hR hs=>?_⟩;obtain⟨f1,f2⟩:=f R hR hs;refine⟨fun h0 he=>?_,fun D hb hp=>f2 D hb hp.args⟩;by_cases hk1:x.kind=1
                         ·rw [gHr hk1,gHr (by rw [←hkk];exact hk1),hnn];exact .inl rfl
                         ·rw [gUk hk1,gUk (x:=y) (by rw [←hkk];exact hk1)];rcases f1 h0 he with k1 | k1 | k1
                          ·left;rw [hkk,hnn,k1]
                          ·right;left;simp only [hpT,k1,Bool.true_or]
                          ·right;right;simp only [hpT,k1,Bool.true_or]
end
theorem Dr.ch{t:gB}(h:Dr 3 t)(hk:t.kind=2):∀u∈t.args,Dr 2 u:=by
 intro u hu;rcases h with (⟨v,rfl⟩ | ⟨n,rfl⟩ | ⟨y,rfl,_⟩) | ⟨n,ts,rfl,_,_,c⟩
 ·exact absurd hk (show(1:Int)≠2 from by decide)
 ·simp at hu
 ·exact absurd hk (show(3:Int)≠2 from by decide)
 ·exact c u hu
theorem Dr.kinds{d:Nat}{t:gB}(h:Dr d t):t.kind=1∨t.kind=2∨t.kind=3:=by
 have hl:Lf t→t.kind=1∨t.kind=2∨t.kind=3:=fun h=>by
  rcases h with ⟨v,rfl⟩ | ⟨n,rfl⟩ | ⟨y,rfl,_⟩
  ·exact .inl rfl
  ·exact .inr (.inl rfl)
  ·exact .inr (.inr rfl)
 cases d with
 | zero=>exact hl h
 | succ d=>
   rcases h with h | ⟨n,ts,rfl,_⟩
   ·exact hl h
   ·exact .inr (.inl rfl)
def hts(R:LB→gB)(t:gB):List Nat:=(t.args.filter (fun u=>u.kind != 1)).map (fun u=>ph (sb R u))
theorem hS7{R:LB→gB}{t u:gB}(hu:u∈t.args)(hk:u.kind≠1):ph (sb R u)∈hts R t:=List.mem_map.2 ⟨u,List.mem_filter.2 ⟨hu,by simpa using hk⟩,rfl⟩
theorem hIp{R:LB→gB}{t:gB}{e:Nat}(h:e∈hts R t):∃u∈t.args,u.kind≠1∧ph (sb R u)=e:=by
 obtain⟨u,c,f⟩:=List.mem_map.1 h;obtain⟨y,h4⟩:=List.mem_filter.1 c;exact⟨u,y,by simpa using h4,f⟩
section
variable {R:LB→gB}(hR:Rn R){L:LS}(hz:∀v,v∉L→ph (R v)=0)(hL:L.length≤4){Ds:List Nat}(hs:Ds.length≤3)(hds:∀d∈Ds,Jmp (fun v=>ph (R v)) 2 d)
include hR
theorem hIq{t:gB}(h:Dr 3 t)(hk:t.kind=2):∀e∈hts R t,Jmp (fun v=>ph (R v)) 2 e:=fun e he=>by
 obtain⟨u,c,f,rfl⟩:=hIp he;rcases Dr.jmp hR (h.ch hk u c)with h | h
 ·exact absurd h f
 ·exact h
theorem hIr{D:List Nat}{t:gB}(h:Dr 3 t)(hD:t.kind=2→∀e∈hts R t,e∈D):∀u∈t.args,HP R D u:=fun u hu=>by
 rcases h.kinds with hk | hk | hk
 ·rcases Dr.args3 hR h with h | ⟨n,ts,rfl,_⟩
  ·exact gAa (h.hp hR) u hu
  ·exact absurd (show(2:Int)=1 from hk) (by decide)
 ·refine(h.ch hk u hu).hp2 hR ?_;by_cases c:u.kind=1
  ·exact .inl c
  ·exact .inr (hD hk _ (hS7 hu c))
 ·exact gAa ((Dr.lf3 hR h hk).hp hR) u hu
include hz hL hs hds
theorem hCt{a b:gB}(ka:a.kind=1)(kb:b.kind≠1)(hb:Dr 3 b)(h2b:alS tw2 (sb R b))(h2a:alS tw2 (sb R a))(run:∀D,(∀d∈Ds,d∈D)→HP R D b→∀v,Gs R D (ph (R v))):pz (sb R a) < 4000∧pz (sb R b) < 4000:=by
 have hk2:∀e∈(if b.kind=2 then hts R b else []),Jmp (fun v=>ph (R v)) 2 e:=fun e he=>by
  by_cases hk:b.kind=2
  ·rw [if_pos hk] at he;exact hIq hR hb hk e he
  ·rw [if_neg hk] at he;simp at he
 have he0:Jmp (fun v=>ph (R v)) 3 (ph (sb R b)):=by
  rcases Dr.jmp hR hb with h | h
  ·exact absurd h kb
  ·exact h
 have hall:∀d∈Ds++(if b.kind=2 then hts R b else []),Jmp (fun v=>ph (R v)) 2 d:=fun d hd=>by
  rcases List.mem_append.1 hd with h | h
  ·exact hds d h
  ·exact hk2 d h
 have hHP:HP R (ph (sb R b)::(Ds++(if b.kind=2 then hts R b else []))) b:=by
  have hc:=hIr hR (D:=ph (sb R b)::(Ds++(if b.kind=2 then hts R b else []))) hb (fun hk e he=>by rw [if_pos hk];simp [he]);rcases Dr.args3 hR hb with h | ⟨n,ts,rfl,_⟩
  ·exact h.hp hR
  ·exact gW9 hc (.inr (.inr (by simp)))
 have hg:=run _ (fun d hd=>by simp [hd]) hHP;have hg1:∀v,ph (R v)≤1∨(∃w,ph (R v)=ph (R w)+1)∨ph (R v)=ph (sb R b)∨ph (R v)∈Ds++(if b.kind=2 then hts R b else []):=fun v=>by
  rcases hg v with h | h | h
  ·exact .inl h
  ·exact .inr (.inl h)
  ·rcases List.mem_cons.1 h with h | h
   ·exact .inr (.inr (.inl h))
   ·exact .inr (.inr (.inr h))
 have hC:∀v,ph (R v)≤9∧(ph (R v) < ph (sb R b)→ph (R v)≤8):=fun v=>by
  have:=jIh (P:=fun v=>ph (R v)) (L:=L) hz (e0:=ph (sb R b)) hg1 hall he0 3 v (jD3 hz hL v)
  exact⟨this.1,this.2⟩
 have ea:ph (sb R a)=ph (R a.name):=by rw [gHr ka]
 refine⟨gGo h2a (m:=9) (by rw [ea];exact(hC _).1) (by omega),?_⟩;by_cases hv:∃v,ph (sb R b)≤ph (R v)
 ·obtain⟨v,hv⟩:=hv;exact gGo h2b (m:=9) (by have:=(hC v).1;omega) (by omega)
 ·have hlt:∀v,ph (R v) < ph (sb R b):=fun v=>by
   rcases Nat.lt_or_ge (ph (R v)) (ph (sb R b))with h | h
   ·exact h
   ·exact absurd ⟨v,h⟩ hv
  obtain⟨y,c⟩:=hZ6 (P:=fun v=>ph (R v)) (L:=L) hz hL hs (E:=if b.kind=2 then hts R b else []) (fun v=>by
   rcases hg1 v with h | h | h | h
   ·exact .inl h
   ·exact .inr (.inl h)
   ·have:=hlt v;omega
   ·exact .inr (.inr h)) hall
  refine hb.sz hR h2b y ?_;rcases c with c | ⟨e,f,_,h3⟩
  ·exact .inl c
  ·by_cases hk:b.kind=2
   ·rw [if_pos hk] at f;obtain⟨u,u1,u2,rfl⟩:=hIp f;exact .inr (.inr ⟨u,u1,h3⟩)
   ·exact .inr (.inl hk)
theorem gXx{a b:gB}(ka:a.kind=3)(hb:Dr 3 b)(h2b:alS tw2 (sb R b))(h2a:alS tw2 (sb R a))(run:∀D,(∀d∈Ds,d∈D)→(∀u∈b.args,HP R D u)→∀v,Gs R D (ph (R v))):pz (sb R a) < 4000∧pz (sb R b) < 4000:=by
 have hk2:∀e∈(if b.kind=2 then hts R b else []),Jmp (fun v=>ph (R v)) 2 e:=fun e he=>by
  by_cases hk:b.kind=2
  ·rw [if_pos hk] at he;exact hIq hR hb hk e he
  ·rw [if_neg hk] at he;simp at he
 have hall:∀d∈Ds++(if b.kind=2 then hts R b else []),Jmp (fun v=>ph (R v)) 2 d:=fun d hd=>by
  rcases List.mem_append.1 hd with h | h
  ·exact hds d h
  ·exact hk2 d h
 have hg:=run (Ds++(if b.kind=2 then hts R b else [])) (fun d hd=>by simp [hd]) (hIr hR hb (fun hk e he=>by rw [if_pos hk];simp [he]));obtain⟨y,c⟩:=hZ6 (P:=fun v=>ph (R v)) (L:=L) hz hL hs (E:=if b.kind=2 then hts R b else []) hg hall;have ea:ph (sb R a)=0:=by rw [gUk (by rw [ka];decide)];simp [ph,ka,cnd]
 refine⟨gGo h2a (m:=0) (by omega) (by omega),hb.sz hR h2b y ?_⟩;rcases c with c | ⟨e,f,_,h3⟩
 ·exact .inl c
 ·by_cases hk:b.kind=2
  ·rw [if_pos hk] at f;obtain⟨u,u1,u2,rfl⟩:=hIp f;exact .inr (.inr ⟨u,u1,h3⟩)
  ·exact .inr (.inl hk)
theorem hS8{a b:gB}(ha:Dr 3 a)(hb:Dr 3 b)(h2a:alS tw2 (sb R a))(h2b:alS tw2 (sb R b))(run:∀D,(∀d∈Ds,d∈D)→PO R D a b→∀v,Gs R D (ph (R v))):pz (sb R a) < 4000∧pz (sb R b) < 4000:=by
 have hLf:∀{t:gB},Dr 3 t→t.kind≠2→Lf t:=fun{t} h hk=>by
  rcases Dr.args3 hR h with h | ⟨n,ts,rfl,_⟩
  ·exact h
  ·exact absurd rfl hk
 by_cases ka:a.kind=1
 ·by_cases kb:b.kind=1
  ·have hg:=run Ds (fun d hd=>hd) (.hp ((hLf ha (by rw [ka];decide)).hp hR) ((hLf hb (by rw [kb];decide)).hp hR));obtain⟨c,_⟩:=hZ6 (P:=fun v=>ph (R v)) (L:=L) hz hL hs (E:=[]) (fun v=>by rw [List.append_nil];exact hg v) (fun d hd=>hds d (by simpa using hd));exact⟨gGo h2a (m:=8) (by rw [gHr ka];exact c _) (by omega),gGo h2b (m:=8) (by rw [gHr kb];exact c _) (by omega)⟩
  ·exact hCt hR hz hL hs hds ka kb hb h2b h2a (fun D hD hp=>run D hD (.hp ((hLf ha (by rw [ka];decide)).hp hR) hp))
 ·by_cases kb:b.kind=1
  ·exact(hCt hR hz hL hs hds kb ka ha h2a h2b (fun D hD hp=>run D hD (.hp hp ((hLf hb (by rw [kb];decide)).hp hR)))).symm
  ·by_cases ka3:a.kind=3
   ·have hpa:∀D,HP R D a:=fun D=>(hLf ha (by rw [ka3];decide)).hp hR;exact gXx hR hz hL hs hds ka3 hb h2b h2a (fun D hD hp=>run D hD (.st ka kb (fun _=>⟨hpa D,hp⟩) (fun h=>⟨(hLf hb (by rw [h];decide)).hp hR,fun u hu=>gAa (hpa D) u hu⟩) (fun i u v hu hv=>.hp (gAa (hpa D) u (List.mem_of_getElem? hu)) (hp v (List.mem_of_getElem? hv)))))
   ·by_cases kb3:b.kind=3
    ·have hpb:∀D,HP R D b:=fun D=>(hLf hb (by rw [kb3];decide)).hp hR;exact(gXx hR hz hL hs hds kb3 ha h2a h2b (fun D hD hp=>run D hD (.st ka kb (fun h=>absurd h ka3) (fun _=>⟨hpb D,hp⟩) (fun i u v hu hv=>.hp (hp u (List.mem_of_getElem? hu)) (gAa (hpb D) v (List.mem_of_getElem? hv)))))).symm
    ·have ka2:a.kind=2:=by rcases ha.kinds with h | h | h;exact absurd h ka;exact h;exact absurd h ka3
     have kb2:b.kind=2:=by rcases hb.kinds with h | h | h;exact absurd h kb;exact h;exact absurd h kb3
     have hzip:∀(l l':List gB)(i:Nat)(u v:gB),l[i]? =some u→l'[i]? =some v→(u,v)∈List.zip l l':=fun l l' i u v hu hv=>List.mem_of_getElem? (i:=i) (by rw [List.getElem?_zip_eq_some];exact⟨hu,hv⟩);have hall:∀d∈Ds++(List.zip a.args b.args).map (fun p:gB × gB=>dd R p.1 p.2),Jmp (fun v=>ph (R v)) 2 d:=fun d hd=>by
      rcases List.mem_append.1 hd with h | h
      ·exact hds d h
      ·obtain⟨⟨u,v⟩,h1,rfl⟩:=List.mem_map.1 h;obtain⟨y,f⟩:=List.of_mem_zip h1;exact hPs hR (ha.ch ka2 u y) (hb.ch kb2 v f)
     have hg:=run (Ds++(List.zip a.args b.args).map (fun p:gB × gB=>dd R p.1 p.2)) (fun d hd=>by simp only [List.mem_append];exact .inl hd) (.st ka kb (fun h=>absurd h ka3) (fun h=>absurd h kb3) (fun i u v hu hv=>hUx hR (ha.ch ka2 u (List.mem_of_getElem? hu)) (hb.ch kb2 v (List.mem_of_getElem? hv)) (List.mem_append.2 (.inr (List.mem_map.2 ⟨(u,v),hzip _ _ i u v hu hv,rfl⟩)))));obtain⟨c,h7⟩:=hZ6 (P:=fun v=>ph (R v)) (L:=L) hz hL hs (E:=(List.zip a.args b.args).map (fun p:gB × gB=>dd R p.1 p.2)) hg hall;rcases h7 with h7 | ⟨e,h1,y,f⟩
     ·exact⟨ha.sz hR h2a c (.inl h7),hb.sz hR h2b c (.inl h7)⟩
     ·obtain⟨⟨u,v⟩,h4,rfl⟩:=List.mem_map.1 h1;obtain⟨h5,h6⟩:=List.of_mem_zip h4;have huv:ph (sb R u)≤8∧ph (sb R v)≤8:=by
       unfold dd at y f;by_cases k1:u.kind=1
       ·rw [if_pos k1] at y f
        have:ph (sb R u)≤8:=by rw [gHr k1];exact c _
        by_cases k2:v.kind=1
        ·rw [if_pos k2] at y;omega
        ·rw [if_neg k2] at f;exact⟨this,f⟩
       ·rw [if_neg k1] at y f;by_cases k2:v.kind=1
        ·rw [if_pos k2] at f;exact⟨f,by rw [gHr k2];exact c _⟩
        ·rw [if_neg k2] at y;omega
      exact⟨ha.sz hR h2a c (.inr (.inr ⟨u,h5,huv.1⟩)),hb.sz hR h2b c (.inr (.inr ⟨v,h6,huv.2⟩))⟩
end
theorem hQe{V:LS}{l:List gG}(ht:Tri l)(hi:jD0 l)(hl:l.length≤60)(hb:gU4 2000 l)(hD:∀b∈l,DT V b.type_){t:gB}(h:DT V t)(hn:tnd t≤8000000)(hp:pz (sb (slT l) t) < 4000):hpT (zk l 60 t)=true∨zk l 60 t=sb (slT l) t:=by
 have hx:=gYt hD 60 t h;have hva:=hSy _ hx.1.2.1;have hsb:=hN5 (hCp ht) 60 t;rcases gLr ht 60 0 t (hT7 _ _) (by omega)with hz | hz
 ·right;have ho:=gNl hi hz
  rw [←hsb];exact(hIf _ hva (fun v hv=>gPq (ho v hv))).symm
 ·left;cases hh:hpT (zk l 60 t)with
  | true=>rfl
  | false=>
    exfalso;have f:=hQ2 _ hh
    have c:=hVk (R:=slT l) _ hva;rw [hsb] at c;have y:=gQg hb 60 t hn;rw [uN _ (by omega)] at hz;omega
theorem gP9:∀(xs y:List gG),(∀b∈xs,tok b.type_)→y.length+xs.length≤4294967296→gB3 xs y=some (y++xs)
 | [],y,_,_=>by simp [gB3]
 | x::xs,y,h,hl=>by
   simp only [List.length_cons] at hl;rw [gB3,mI (h x (by simp))];simp only [lt_,idT];rw [mI (by simp;omega),gP9 xs _ (fun b hb=>h b (by simp [hb])) (by simp;omega)];simp
theorem gSj(s:gJ)(ho:s.obligations=[])(b:List gG):∀(xs y:List jN),(∀q∈xs,tok q.a∧tok q.b)→y.length+xs.length≤4294967296→zF s b xs y=some ⟨s.next,s.count,s.node,b,y++xs,[],s.code,s.at_⟩
 | [],y,_,_=>by simp [zF,ho,gCw]
 | x::xs,y,h,hl=>by
   simp only [List.length_cons] at hl;rw [zF,mI (h x (by simp)).1];simp only [lt_,idT];rw [mI (h x (by simp)).2,mI (by simp;omega),gSj s ho b xs _ (fun q hq=>h q (by simp [hq])) (by simp;omega)];simp
theorem hCu{V:LS}{s:gJ}(h:Inv V s)(hV:V.length≤5)(he:s.equations.length≤4294967296):gJi s=some s:=by
 have hl:=h.len;unfold gJi gQ1;rw [jO (gP9 s.bindings [] h.bok (by simp;omega)),gSj s h.obl.1 _ s.equations [] (fun q hq=>⟨(h.eqs q hq).1.1.1.1,(h.eqs q hq).2.1.1.1⟩) (by simp;omega)];obtain⟨a,b,c,d,e,f,g,i⟩:=s
 have:=h.obl.1
 simp only at this;subst this;simp
theorem gUl{w:gK}{k:Int}(hw:gO8 w k)(hi:gZp w):∀(l:List gW)(y:Nat)(acc:List gQ),gOy l→uP w l y acc=pQ w l y acc
 | [],y,acc,_=>rfl
 | b::l,y,acc,h=>by
   obtain⟨f,n,h0,h2⟩:=h b (by simp);have ht:tok b.type_:=by rw [h2];exact gIb _ _
   have ih:=fun y acc=>gUl hw hi l y acc (fun c hc=>h c (by simp [hc]));rw [uP,pQ,mI ht,mI ht];simp only [lt_];congr 1;rcases f with f | f | f
   ·rw [f,jO hi.sh,jO hw.sh,qZ,qC];exact ih _ _
   ·rw [f,jO hi.od,jO hw.od,qZ,qC,f,jO hi.pa,jO hw.pa,mI ht,mI ht];simp only [lt_,qZ,qC];congr 1;exact ih _ _
   ·rw [f,jO hi.ad,jO hw.ad,qZ,qC];exact ih _ _
theorem gZ8{w:gK}{k:Int}(hw:gO8 w k)(hi:gZp w){wh:List gW}(h:gOy wh):gFc w wh=pK w wh:=gUl hw hi wh 0 [] h
def hYc(l:List gG):Prop:=l.length≤4294967296∧∀b∈l,tok b.type_
instance (l:List gG):Decidable (hYc l):=inferInstanceAs (Decidable (_∧_))
def jA0(l:List gG):List gG:=l
theorem hS9(l:List gG)(hl:l.length≤4294967296):Go.Eng.Spec Tryz.prog 76 [.L 4 (gP l)] [] (fun sv Lo=>∃v,sv=.sl 0 v∧Lo=[.mix 101 4 v [] (gP l)]):=by
 refine kF 0 Tryz.func76 rfl (by kernel_rfl) rfl rfl fun A _=>?_;refine goL ?_;refine hOr (fun b hb=>?_);refine goL ?_;cases b with
 | true=>
   have c:l=[]:=by
    cases l with
    | nil=>rfl
    | cons a l=>cases hb rfl
   subst c;refine hYg ?_;refine goL ?_;refine jDy 101 4 2 ?_;refine hOs 0 ?_;refine jG ?_;exact yK [.sl 0 0] _ ⟨0,rfl,rfl⟩
 | false=>
   refine jA8 ?_;refine gAn ?_;refine goL ?_;refine gAp ?_;refine goL ?_;refine gBd (l:=[]) (r:=l) (by simpa using hl) ?_;refine goL ?_;refine hTu 0 ?_;refine jG ?_;exact yK [.sl 0 (0+1)] _ ⟨_,rfl,rfl⟩
theorem hTa(a b:List gG):gP (a++b)=gP a++gP b:=by
 induction a with
 | nil=>rfl
 | cons x a ih=>simp only [List.cons_append,gP,ih]
theorem gXy(l:List gG)(h:hYc l):kR Tryz.prog 43 [.L 4 (gP l)] [101] [.sl 4 (gP (jA0 l))]:=by
 have hlen:∀l:List gG,(gP l).length=l.length:=fun l=>Enc.len l;refine pR Tryz.func43 rfl (by kernel_rfl) rfl (by simp) fun A _=>?_;refine goL ?_;refine yJ [] (hS9 l h.1) ?_;rintro _ _ ⟨v,rfl,rfl⟩;show VO _ _ _ _ ⟨(_,.sl 0 v)::_,[.mix 101 4 v [] (gP l)],_⟩ _;refine goL ?_;refine hUt (hKh rfl rfl) rfl ?_;refine goL ?_;refine noB ?_;refine mV (fun(k:Nat)=>⟨[(3,.sl 0 v),(8,.I (l.length:Int)),(9,.N k)],[.mix 101 4 v (gP (l.take k)) (gP (l.drop k))],Tryz.f43.ntmps⟩) (fun k=>k≤l.length) (fun k=>l.length - k) 0 ⟨rfl,⟨⟨rfl,rfl⟩,⟨by simp only [List.nil_append,hlen];rfl,rfl⟩,⟨rfl,rfl⟩,trivial⟩,⟨[],rfl⟩,rfl⟩ (Nat.zero_le _) ?_;rintro k hk;refine goL ?_;refine jY (kX (fun c6=>?_) (fun c6=>?_))
 ·have hk2:k < l.length:=by have:=of_decide_eq_true c6;omega
  obtain⟨x,hx,hdx⟩:=drop_at hk2;rw [hdx];obtain⟨x0,c,f,y⟩:=x;have hok:tok (gB.mk c f y):=h.2 _ (List.mem_of_getElem? hx);have hc:=zS (gB.mk c f y) hok;change kR _ _ _ _ [jS (gB.mk c f y)] at hc;have hkl:(gP (l.take k)).length=k:=by rw [hlen,List.length_take];omega
  have hin:k < (gP (l.take k)++gP (gG.mk x0 (gB.mk c f y)::l.drop (k+1))).length:=by rw [List.length_append,hkl,hlen];simp
  have e1:gP (l.take (k+1))=gP (l.take k)++[.st ([.s x0]++[jS (gB.mk c f y)])]:=by
   rw [List.take_add_one,hx,hTa];rfl
  refine noS ?_;refine jY (jA ?_);refine goL ?_;refine zZ (hWm k hin) ?_;refine zZ (gS0 rfl rfl TF.h) ?_;refine zZ (hFt (pre:=[.s x0]) (u:=jS (gB.mk c f y)) rfl rfl hkl rfl TI.h rfl rfl) ?_;refine gE3 hc ?_;refine zZ (hWm k hin) ?_;refine zZ (gS0 rfl rfl TF.h) ?_;refine hKi (pre:=[.s x0]) (old:=jS (gB.mk c f y)) (u:=jS (gB.mk c f y)) (js:=[1]) (L':=[.mix 101 4 v (gP (l.take (k+1))) (gP (l.drop (k+1))),.dead 1]) rfl rfl hkl rfl rfl (by(repeat constructor);first | done | fail) rfl TI.h rfl rfl (by rw [e1];rfl) ?_;refine goL ?_;refine jI (jW k (by have:=h.1;omega)) ?_;exact⟨(k+1),by omega,by omega,eJ⟩
 ·have hk3:l.length≤k:=by have:=of_decide_eq_false c6;omega
  rw [List.drop_of_length_le hk3,List.take_of_length_le hk3];refine goX ?_;refine hTv 0 ?_;refine jG ?_;exact gQd
def vQ(y:gJ)(x2:List gG)(y4:List jN):List jP→Nat→(List jP)→Option (gJ)
 | [],c,f=>(some (gJ.mk y.next y.count y.node x2 y4 f y.code y.at_))
 | h::xs,c,f=>gd (tok h.goal.type_) (lt_ (idT h.goal.type_) fun aa=>
gd (c < f.length) (
vQ y x2 y4 xs (c+1) (f.set c (jP.mk (gW.mk h.goal.trait aa) h.node))))
def vR(c:gJ)(x2:List gG):List jN→Nat→(List jN)→Option (gJ)
 | [],h,y=>gd (c.obligations.length≤4294967296) (
vQ c x2 y c.obligations 0 (List.replicate c.obligations.length (jP.mk (gW.mk [] (gB.mk 0 [] [])) 0)))
 | f::xs,h,y=>gd (tok f.a) (lt_ (idT f.a) fun aa=>
gd (tok f.b) (lt_ (idT f.b) fun ab=>
gd (h < y.length) (
vR c x2 xs (h+1) (y.set h (jN.mk aa ab f.node)))))
def gIm(c:gJ):Option (gJ):=
gd (hYc c.bindings) (lt_ (jA0 c.bindings) fun f=>
gd (c.equations.length≤4294967296) (
vR c f c.equations 0 (List.replicate c.equations.length (jN.mk (gB.mk 0 [] []) (gB.mk 0 [] []) 0))))
theorem gXz(a0:gJ){r:gJ}(h:gIm a0=some r):kR Tryz.prog 22 [.d (mJ a0)] [101,79,81] [mJ r]:=by
 obtain⟨ah,ai,aj,ap,f,c,ak,al⟩:=a0;unfold gIm at h;refine pR Tryz.func22 rfl (by kernel_rfl) rfl (by simp) fun A _=>?_;refine goL ?_;obtain⟨g1,h⟩:=mY h;obtain⟨x2,bq,h⟩:=qA h;have sx2:=gXy ap g1;rw [bq] at sx2;refine gE3 (sx2) ?_;refine goL ?_;obtain⟨g3,h⟩:=mY h;refine hJ6 (jN.mk (gB.mk 0 [] []) (gB.mk 0 [] []) 0) g3 ?_;refine goL ?_;refine noB ?_;refine gB0 18 (fun z7=>?_);refine kS (fun(y6:Nat)(y4:List jN)(v5:Nat)=>⟨[(1,.ptr 0 0),(2,.ptr 1 0),(3,.sl 3 v5),(18,.L 7 (jM f)),(19,.I (f.length:Int)),(20,.N y6)],[.box [.I ah,.I ai,.I aj,.sl 2 0,.L 7 (jM f),.L 5 (jD c),.I ak,.I al],.box [.I 0,.I 0,.I 0,.nilsl,.nilsl,.nilsl,.I 0,.I 0],.own 101 4 0 (gP x2),.own 79 7 v5 (jM y4)],Tryz.f22.ntmps⟩) (fun y6 y4 v5=>vR (gJ.mk ah ai aj ap f c ak al) x2 (f.drop y6) y6 y4=some r) (fun y6 y4 v5=>f.length - y6) 0 (List.replicate f.length (jN.mk (gB.mk 0 [] []) (gB.mk 0 [] []) 0)) 0 eJ h ?_;rintro y6 y4 v5 h;refine goL ?_;refine jY (kX (fun c8=>?_) (fun c8=>?_))
 ·have ac:=uR c8;obtain⟨x9,bt,bh⟩:=drop_at ac;rw [bh,vR.eq_2] at h;obtain⟨⟨a6,a7,a8⟩,⟨a9,ba,bb⟩,be⟩:=x9;refine noS ?_;refine jY (jA ?_);refine goL ?_;refine qK (jJ y6 (gOj bt)) ?_;refine gId ?_;refine uM (P:=Tryz.prog) Mix.h [(0,true),(1,true),(2,true),(3,true),(5,true),(6,true),(8,true),(9,true),(4,false),(7,false),(10,true),(11,false),(12,false)] (by kernel_rfl) ?_;refine goY ?_;obtain⟨bu,h⟩:=mY h;obtain⟨⟨aq,ar,au⟩,bi,h⟩:=qA h;have sx11:=zS (gB.mk a6 a7 a8) bu;rw [bi] at sx11;refine gMy (sx11) ?_;obtain⟨bv,h⟩:=mY h;obtain⟨⟨av,aw,ax⟩,bj,h⟩:=qA h;have sx13:=zS (gB.mk a9 ba bb) bv;rw [bj] at sx13;refine gMy (sx13) ?_;refine goY ?_;obtain⟨bk,h⟩:=mY h;refine hQm y6 bk ?_;refine hWn (jN.mk (gB.mk aq ar au) (gB.mk av aw ax) be) bk ?_;refine kQ ?_;refine goL ?_;refine jI (jW y6 (by omega)) ?_;exact⟨(y6+1),(y4.set y6 (jN.mk (gB.mk aq ar au) (gB.mk av aw ax) be)),v5,h,by omega,eJ⟩
 ·have ac:=uS c8;rw [jC ac,vR.eq_1] at h;refine goX ?_;obtain⟨bw,h⟩:=mY h;refine hJ6 (jP.mk (gW.mk [] (gB.mk 0 [] [])) 0) bw ?_;refine goL ?_;refine noB ?_;refine gB0 45 (fun b3=>?_);refine kS (fun(y:Nat)(am:List jP)(an:Nat)=>⟨[(1,.ptr 0 0),(2,.ptr 1 0),(6,.sl 4 an),(45,.L 5 (jD c)),(46,.I (c.length:Int)),(47,.N y)],[.box [.I ah,.I ai,.I aj,.sl 2 0,.sl 3 v5,.L 5 (jD c),.I ak,.I al],.box [.I 0,.I 0,.I 0,.nilsl,.nilsl,.nilsl,.I 0,.I 0],.own 101 4 0 (gP x2),.own 79 7 v5 (jM y4),.own 81 5 an (jD am)],Tryz.f22.ntmps⟩) (fun y am an=>vQ (gJ.mk ah ai aj ap f c ak al) x2 y4 (c.drop y) y am=some r) (fun y am an=>c.length - y) 0 (List.replicate c.length (jP.mk (gW.mk [] (gB.mk 0 [] [])) 0)) 0 eJ h ?_;rintro y am an h;refine goL ?_;refine jY (kX (fun bf=>?_) (fun bf=>?_))
  ·have aa:=uR bf;obtain⟨bx,bl,bg⟩:=drop_at aa;rw [bg,vQ.eq_2] at h;obtain⟨⟨ab,⟨ad,ae,ag⟩⟩,ay⟩:=bx;refine noS ?_;refine jY (jA ?_);refine goL ?_;refine qK (jJ y (gNh bl)) ?_;refine gId ?_;refine uM (P:=Tryz.prog) Mix.h [(0,true),(1,true),(2,true),(3,true),(4,true),(5,true),(6,true),(7,true),(10,true),(11,true),(8,false),(9,true),(12,true),(13,false),(14,false)] (by kernel_rfl) ?_;refine goY ?_;obtain⟨bz,h⟩:=mY h;obtain⟨⟨a3,a4,a5⟩,bm,h⟩:=qA h;have sx23:=zS (gB.mk ad ae ag) bz;rw [bm] at sx23;refine gMy (sx23) ?_;refine goY ?_;obtain⟨bn,h⟩:=mY h;refine hQm y bn ?_;refine hWn (jP.mk (gW.mk ab (gB.mk a3 a4 a5)) ay) bn ?_;refine kQ ?_;refine goL ?_;refine jI (jW y (by omega)) ?_;exact⟨(y+1),(am.set y (jP.mk (gW.mk ab (gB.mk a3 a4 a5)) ay)),an,h,by omega,eJ⟩
  ·have aa:=uS bf;rw [jC aa,vQ.eq_1] at h;refine goX ?_;refine jG ?_;obtain rfl:=Option.some.inj h;exact gQd
def hVq(s:gJ):Prop:=hYc s.bindings∧(s.equations.length≤4294967296∧∀q∈s.equations,tok q.a∧tok q.b)∧s.obligations.length≤4294967296∧∀o∈s.obligations,tok o.goal.type_
instance (s:gJ):Decidable (hVq s):=inferInstanceAs (Decidable (_∧_))
def idS(s:gJ):gJ:=s
theorem hVr(s:gJ)(c:List gG)(f:List jN):∀(xs:List jP)(k:Nat)(y:List jP),(∀o∈xs,tok o.goal.type_)→y.length=k+xs.length→vQ s c f xs k y=some (gJ.mk s.next s.count s.node c f (y.take k++xs) s.code s.at_)
 | [],k,y,_,h=>by
   simp only [vQ,List.append_nil];rw [List.take_of_length_le (by simp at h;omega)]
 | x::xs,k,y,h1,h2=>by
   simp only [List.length_cons] at h2;simp only [vQ,lt_,idT];rw [mI (h1 x (by simp)),mI (by omega),hVr s c f xs (k+1) _ (fun z hz=>h1 z (by simp [hz])) (by simp;omega),gG1 (by omega)];simp
theorem hVs(s:gJ)(c:List gG)(ho:s.obligations.length≤4294967296∧∀o∈s.obligations,tok o.goal.type_):∀(xs:List jN)(k:Nat)(y:List jN),(∀q∈xs,tok q.a∧tok q.b)→y.length=k+xs.length→vR s c xs k y=some (gJ.mk s.next s.count s.node c (y.take k++xs) s.obligations s.code s.at_)
 | [],k,y,_,h=>by
   simp only [vR,List.append_nil];rw [List.take_of_length_le (by simp at h;omega),mI ho.1,hVr s c y s.obligations 0 _ ho.2 (by simp)];simp
 | x::xs,k,y,f,h2=>by
   simp only [List.length_cons] at h2;simp only [vR,lt_,idT];rw [mI (f x (by simp)).1,mI (f x (by simp)).2,mI (by omega),hVs s c ho xs (k+1) _ (fun z hz=>f z (by simp [hz])) (by simp;omega),gG1 (by omega)];simp
theorem gV0(s:gJ)(h:hVq s):gIm s=some (idS s):=by
 simp only [gIm,lt_,jA0,idS];rw [mI h.1,mI h.2.1.1,hVs s s.bindings h.2.2 s.equations 0 _ h.2.1.2 (by simp)];simp
theorem gX0(s:gJ)(h:hVq s):kR Tryz.prog 22 [.d (mJ s)] [101,79,81] [mJ (idS s)]:=gXz s (gV0 s h)
def gHs(w:gK)(wh:List gW):Option (kV):=
bnd (gFc w wh) fun c=>
(some (kV.mk w c))
theorem gZ9(w:gK)(wh:List gW){r:kV}(h:gHs w wh=some r):Go.Eng.Spec Tryz.prog 24 [.d (kT w),.L 4 (kY wh)] [] (fun sv Lo=>sv=.ptr 0 0∧Lo=[.box [.L 6 (jQ r.w.packages),.L 6 (gV r.assumed)]]):=by
 obtain⟨c⟩:=w;unfold gHs at h;refine kF 0 Tryz.func24 rfl (by kernel_rfl) rfl rfl fun A _=>?_;refine goL ?_;refine qK (hKd) ?_;refine gId ?_;refine jK (P:=Tryz.prog) Mix.h [(0,true),(1,true),(2,true),(3,true),(4,true),(5,false),(6,true)] (by kernel_rfl) ?_;refine goY ?_;obtain⟨y,f,h⟩:=gM h;refine jF rfl (gF (gTz _ _ f)) ?_;refine goY ?_;refine kQ ?_;refine goL ?_;refine jDx (fr':=[(4,.ptr 0 0)]) (Lc:=[.box [.L 6 (jQ c),.L 6 (gV y)]]) 0 [1] ?_;refine jG ?_;obtain rfl:=Option.some.inj h;exact yK [.ptr 0 0] _ ⟨rfl,rfl⟩
def gLl(h:gK)(a1:List gW)(a2:gJ)(y:gB)(a4:gB):Option (gJ):=
gd (hVq a2) (lt_ (idS a2) fun c=>
bnd (gHs h a1) fun x3=>
bnd (gG0 5000 c.next c.count c.node c.bindings c.equations c.obligations c.code c.at_ x3 y a4 0) fun f=>
(some (gJ.mk c.next c.count c.node f.2.2.1 f.2.2.2 c.obligations f.1 f.2.1)))
theorem hIt(a0:gK)(a1:List gW)(a2:gJ)(a3:gB)(a4:gB){r:gJ}(h:gLl a0 a1 a2 a3 a4=some r):gY Tryz.prog 7 [.d (kT a0),.L 4 (kY a1),.d (mJ a2),.d (jS a3),.d (jS a4)] [mJ r]:=by
 obtain⟨f⟩:=a0;obtain⟨y,aa,ab,ac,ad,ae,ag,ah⟩:=a2;obtain⟨ai,aj,ak⟩:=a3;obtain⟨al,am,an⟩:=a4;unfold gLl at h;refine SpI Tryz.func7 fun A _=>?_;refine goL ?_;obtain⟨g1,h⟩:=mY h;obtain⟨⟨ao,ap,aq,av,aw,ar,ax,ay⟩,bc,h⟩:=qA h;have sx2:=gX0 (gJ.mk y aa ab ac ad ae ag ah) g1;rw [bc] at sx2;refine gE3 (sx2) ?_;refine gId ?_
 first | refine hFv 5 ?_ | refine hAj 5 ?_
 first | refine hFv 6 ?_ | refine hAj 6 ?_
 first | refine hFv 7 ?_ | refine hAj 7 ?_
 refine jK (P:=Tryz.prog) Mix.h [(0,true),(1,true),(3,true),(4,true),(2,false),(5,false)] (by kernel_rfl) ?_;refine goY ?_;obtain⟨⟨⟨c⟩,au⟩,bd,h⟩:=gM h;refine gC5 (sv:=.ptr 9 0) (L':=[bPr f,bSt y aa ab ac ad ae ag ah,bTy ai aj ak,bTy al am an,.box [.I 0,.I 0,.I 0,.nilsl,.nilsl,.nilsl,.I 0,.I 0],.arr 101 4 0 (gP av),.arr 79 7 0 (jM aw),.arr 81 5 0 (jD ar),.box [.I ao,.I ap,.I aq,.sl 5 0,.sl 6 0,.sl 7 0,.I ax,.I ay],.box [.L 6 (jQ c),.L 6 (gV au)]]) [] (gZ9 (gK.mk f) a1 bd) ?_;obtain⟨⟨a5,a6,a7,a8⟩,be,h⟩:=gM h;refine gS1 [8,5,6,7,9] (hO9 5000 ao ap aq av aw ar ax ay (kV.mk (gK.mk c) au) (gB.mk ai aj ak) (gB.mk al am an) 0 0 0 0 be) ?_;rintro _ _ ⟨v5,v6,rfl,rfl⟩;refine gQe (sv:=.tup []) (L':=[bPr f,bSt y aa ab ac ad ae ag ah,bTy ai aj ak,bTy al am an,.box [.I 0,.I 0,.I 0,.nilsl,.nilsl,.nilsl,.I 0,.I 0],.arr 101 4 v5 (gP a7),.arr 79 7 v6 (jM a8),.arr 81 5 0 (jD ar),.box [.I ao,.I ap,.I aq,.sl 5 v5,.sl 6 v6,.sl 7 0,.I a5,.I a6],.box [.L 6 (jQ c),.L 6 (gV au)]]) (by repeat(first | exact uY.nil | (apply uY.keep;focus ((repeat constructor);done)) | (apply uY.dep;focus kernel_rfl))) ?_;refine kQ ?_;refine goL ?_;refine kP 5 rfl rfl ?_;refine kP 6 rfl rfl ?_;refine kP 7 rfl rfl ?_;refine jG ?_;cases h;exact qD
def gV1(s:gJ)(v:LB):Option (Bool):=
bnd (wP v) fun c=>
bnd (cnd c (bnd (gAq s.bindings (fun f=>some (gIw f v))) fun h=>
(some h)) (some false)) fun y=>
(some y)
theorem hN6(s:gJ)(v:LB){r:Bool}(h:gV1 s v=some r):Go.Eng.Spec Tryz.prog 65 [.S v,.ptr 0 0] [.box [.ptr 1 0],bSt s.next s.count s.node s.bindings s.equations s.obligations s.code s.at_] (fun sv Lo=>sv=.B r∧Lo=[.box [.ptr 1 0],bSt s.next s.count s.node s.bindings s.equations s.obligations s.code s.at_]):=by
 obtain⟨f,y,aa,c,ab,ac,ad,ae⟩:=s;unfold gV1 at h;refine kF 2 Tryz.func65 rfl (by kernel_rfl) rfl rfl fun A _=>?_;refine goL ?_;obtain⟨x1,ag,h⟩:=gM h;refine jI (gF (gG4 _ ag)) ?_;obtain⟨b2,hb2,h⟩:=gM h;refine jT ⟨[(3,.B b2)],[.box [.ptr 1 0],bSt f y aa c ab ac ad ae,.box [.S v]],Tryz.f65.ntmps⟩ ?_ ?_
 ·refine gqA 6 hb2 (fun c3 hb2=>?_);refine qK (gV8) ?_;refine gQq ?_;obtain⟨x4,ah,hb2⟩:=gM hb2;refine gBn (hWe (gLt c (a1:=(fun z0=>some (gIw z0 v))) (fun _=>rfl) (fun z0 r hr=>by cases hr;exact hDu z0 v) ah)) ?_;cases hb2;exact eJ
 refine goL ?_;refine jG ?_;obtain rfl:=Option.some.inj h;exact yK [.B b2] _ ⟨rfl,rfl⟩
def gB8(s:gJ):LS→Nat→Option (Int)
 | [],c=>(some (-1))
 | f::xs,c=>bnd (gV1 s f) fun h=>
(cnd h (some (c:Int)) (
gB8 s xs (c+1)))
def gOg(s:gJ)(l:LS):Option (Int):=
gB8 s l 0
theorem hIu(s:gJ)(l:LS){r:Int}(h:gOg s l=some r):Go.Eng.Spec Tryz.prog 88 [.L 1 (jL l),.fn 65 [.ptr 0 0]] [.box [.ptr 1 0],bSt s.next s.count s.node s.bindings s.equations s.obligations s.code s.at_] (fun sv Lo=>sv=.I r∧Lo=[.box [.ptr 1 0],bSt s.next s.count s.node s.bindings s.equations s.obligations s.code s.at_]):=by
 obtain⟨y,aa,ab,ac,ad,ae,ag,ah⟩:=s;unfold gOg at h;refine kF 2 Tryz.func88 rfl (by kernel_rfl) rfl rfl fun A _=>?_;refine goL ?_;refine noB ?_;refine gB0 0 (fun z2=>?_);refine mV (fun(f:Nat)=>⟨[(0,.L 1 (jL l)),(1,.fn 65 [.ptr 0 0]),(7,.I (l.length:Int)),(8,.N f)],[.box [.ptr 1 0],bSt y aa ab ac ad ae ag ah],Tryz.f88.ntmps⟩) (fun f=>gB8 (gJ.mk y aa ab ac ad ae ag ah) (l.drop f) f=some r) (fun f=>l.length - f) 0 eJ h ?_;rintro f h;refine goL ?_;refine jY (kX (fun c3=>?_) (fun c3=>?_))
 ·have c:=uR c3;obtain⟨x4,ak,ai⟩:=drop_at c;rw [ai,gB8.eq_2] at h;refine noS ?_;refine jY (jA ?_);refine goL ?_;refine jI (jJ f (gQr ak)) ?_;obtain⟨x5,al,h⟩:=gM h;refine yJ [0,1] (hN6 (gJ.mk y aa ab ac ad ae ag ah) x4 al) ?_;rintro _ _ ⟨rfl,rfl⟩;show VO _ _ _ _ ⟨(_,.B x5)::_,[.box [.ptr 1 0],bSt y aa ab ac ad ae ag ah],_⟩ _;refine goC h ?_ ?_<;>intro c6 h
  ·refine goL ?_;refine jG ?_;obtain rfl:=Option.some.inj h;exact yK [.N f] _ ⟨rfl,rfl⟩
  ·refine goS ?_;refine jI (jW f (by omega)) ?_;exact⟨(f+1),h,by omega,eJ⟩
 ·have c:=uS c3;rw [jC c,gB8.eq_1] at h;refine goX ?_;refine jG ?_;obtain rfl:=Option.some.inj h;exact yK [.I (-1)] _ ⟨rfl,rfl⟩
def gFr(s:gJ)(l:LS):Option (Bool):=
bnd (gOg s l) fun c=>
(some (decide (c≥0)))
theorem gX1(s:gJ)(l:LS){r:Bool}(h:gFr s l=some r):Go.Eng.Spec Tryz.prog 63 [.L 1 (jL l),.fn 65 [.ptr 0 0]] [.box [.ptr 1 0],bSt s.next s.count s.node s.bindings s.equations s.obligations s.code s.at_] (fun sv Lo=>sv=.B r∧Lo=[.box [.ptr 1 0],bSt s.next s.count s.node s.bindings s.equations s.obligations s.code s.at_]):=by
 obtain⟨c,f,y,aa,ab,ac,ad,ae⟩:=s;unfold gFr at h;refine kF 2 Tryz.func63 rfl (by kernel_rfl) rfl rfl fun A _=>?_;refine goL ?_;obtain⟨x1,ag,h⟩:=gM h;refine yJ [0,1] (hIu (gJ.mk c f y aa ab ac ad ae) l ag) ?_;rintro _ _ ⟨rfl,rfl⟩;show VO _ _ _ _ ⟨(_,.I x1)::_,[.box [.ptr 1 0],bSt c f y aa ab ac ad ae],_⟩ _;refine goL ?_;refine jG ?_;obtain rfl:=Option.some.inj h;exact yK [.d (.b (decide (x1≥0)))] _ ⟨rfl,rfl⟩
def gDj(s:gJ):Nat→Int→LB→(List gB)→Option (gB)
 | 0,c,f,h=>(some (gB.mk c f h))
 | m9+1,c,f,h=>bnd (yS (gB.mk c f h)) fun aa=>
bnd (gFr s aa) fun ab=>
lt_ (cnd (!ab) (true) (decide ((tsz (gB.mk c f h))≥4000))) fun ac=>
(cnd ac (some (gB.mk c f h)) (
gd (bok s.bindings∧tok (gB.mk c f h)) (lt_ (apT s.bindings (gB.mk c f h)) fun y=>
gDj s m9 y.kind y.name y.args)))
def gQ5(s:gJ)(t:gB):Option (gB):=
gd (tok t) (lt_ (idT t) fun c=>
gDj s 60 c.kind c.name c.args)
theorem hN7(s:gJ)(t:gB){r:gB}(h:gQ5 s t=some r):Go.Eng.Spec Tryz.prog 28 [.ptr 0 0,.d (jS t)] [bSt s.next s.count s.node s.bindings s.equations s.obligations s.code s.at_] (fun sv Lo=>sv=.d (jS r)∧Lo=[bSt s.next s.count s.node s.bindings s.equations s.obligations s.code s.at_]):=by
 obtain⟨y,aa,ab,c,ac,ad,ae,ag⟩:=s;obtain⟨ak,al,am⟩:=t;unfold gQ5 at h;refine kF 1 Tryz.func28 rfl (by kernel_rfl) rfl rfl fun A _=>?_;refine goL ?_;obtain⟨g1,h⟩:=mY h;obtain⟨⟨av,aw,ax⟩,a4,h⟩:=qA h;have sx2:=zS (gB.mk ak al am) g1;rw [a4] at sx2;refine gE3 (sx2) ?_;refine goL ?_;refine noB ?_;refine hDc (fun(f:Nat)(y3:Int)(y4:LB)(y5:List gB)(v6:Nat)=>⟨[(2,.ptr 1 0),(4,.ptr 3 0),(5,.ptr 5 0),(9,.N f)],[bSt y aa ab c ac ad ae ag,.box [.ptr 0 0],bTy ak al am,.box [.I 0,.S [],.nilsl],.own 35 3 v6 (jH y5),.box [.I y3,.S y4,.sl 4 v6]],Tryz.f28.ntmps⟩) (fun f y3 y4 y5 v6=>f≤60∧gDj (gJ.mk y aa ab c ac ad ae ag) (60 - f) y3 y4 y5=some r) (fun f y3 y4 y5 v6=>60 - f) 0 av aw ax 0 eJ ⟨by simp,h⟩ ?_;rintro f y3 y4 y5 v6 ⟨a9,h⟩;refine goL ?_;refine jY (kX (fun c8=>?_) (fun c8=>?_))
 ·have ao:f < 60:=by have:=of_decide_eq_true c8;omega
  obtain⟨m9,hm9⟩:∃m,60 - f=m+1:=⟨60 - f - 1,by omega⟩
  rw [hm9,gDj.eq_2] at h;refine noS ?_;refine jY (jA ?_);refine goL ?_;obtain⟨ap,ay,h⟩:=gM h;refine gE3 (gIc (gB.mk y3 y4 y5) ay) ?_;refine qK (gV8) ?_;refine gJp 6 rfl rfl ?_;obtain⟨a6,a0,h⟩:=gM h;refine yJ [1,0] (gX1 (gJ.mk y aa ab c ac ad ae ag) ap a0) ?_;rintro _ _ ⟨rfl,rfl⟩;show VO _ _ _ _ ⟨(_,.B a6)::_,[bSt y aa ab c ac ad ae ag,.box [.ptr 0 0],bTy ak al am,.box [.I 0,.S [],.nilsl],.own 35 3 v6 (jH y5),.box [.I y3,.S y4,.sl 4 v6],.frz 9 1 0 (jL ap)],_⟩ _;refine goL ?_;obtain⟨a7,hb12,h⟩:=qA h;refine jT ⟨[(2,.ptr 1 0),(4,.ptr 3 0),(5,.ptr 5 0),(9,.N f),(21,.B a7)],[bSt y aa ab c ac ad ae ag,.box [.ptr 0 0],bTy ak al am,.box [.I 0,.S [],.nilsl],.own 35 3 v6 (jH y5),.box [.I y3,.S y4,.sl 4 v6],.frz 9 1 0 (jL ap)],Tryz.f28.ntmps⟩ ?_ ?_
  ·refine gqO 17 hb12 (fun bc hb12=>?_);refine gBn (gV9 (gH8 (gB.mk y3 y4 y5))) ?_;cases hb12;exact eJ
  refine goC h ?_ ?_<;>intro bd h
  ·refine goX ?_;refine qU 4 rfl rfl ?_;refine jG ?_;obtain rfl:=Option.some.inj h;exact hGd [.d (.st [.i .i64 y3,.s y4,.sl 3 (jH y5)])] [bSt y aa ab c ac ad ae ag] ⟨rfl,rfl⟩
  ·refine noS ?_;refine uM (P:=Tryz.prog) Mix.h [(0,true),(1,true),(2,true),(3,true),(4,true),(5,false),(6,false)] (by kernel_rfl) ?_;refine goY ?_;obtain⟨a8,h⟩:=mY h;obtain⟨⟨aq,ar,au⟩,a3,h⟩:=qA h;have sx16:=gO3 c (gB.mk y3 y4 y5) a8;rw [a3] at sx16;refine gMy (sx16) ?_;refine goY ?_;refine kQ ?_;refine goL ?_;refine jI (jW f (by omega)) ?_;rw [show m9=60 - (f+1) by omega] at h;exact⟨(f+1),aq,ar,au,0,⟨by omega,h⟩,by omega,qX 1 [0,1,2,3,7,5]⟩
 ·have ao:60≤f:=by have:=of_decide_eq_false c8;omega
  rw [show 60 - f=0 by omega,gDj.eq_1] at h;refine goX ?_;refine qU 4 rfl rfl ?_;refine jG ?_;obtain rfl:=Option.some.inj h;exact hGd [.d (.st [.i .i64 y3,.s y4,.sl 3 (jH y5)])] [bSt y aa ab c ac ad ae ag] ⟨rfl,rfl⟩
def gMg(c:gJ)(a1:gB):Option (gB):=
bnd (gQ5 c a1) fun f=>
(some f)
theorem hCv(a0:gJ)(a1:gB){r:gB}(h:gMg a0 a1=some r):gY Tryz.prog 11 [.d (mJ a0),.d (jS a1)] [jS r]:=by
 obtain⟨c,f,y,aa,ab,ac,ad,ae⟩:=a0;obtain⟨ag,ah,ai⟩:=a1;unfold gMg at h;refine SpI Tryz.func11 fun A _=>?_;refine goL ?_;obtain⟨⟨aj,ak,al⟩,an,h⟩:=gM h;refine yJ [0] (hN7 (gJ.mk c f y aa ab ac ad ae) (gB.mk ag ah ai) an) ?_;rintro _ _ ⟨rfl,rfl⟩;show VO _ _ _ _ ⟨(_,.d (.st [.i .i64 aj,.s ak,.sl 3 (jH al)]))::_,[bSt c f y aa ab ac ad ae,bTy ag ah ai,.box [.I 0,.S [],.nilsl]],_⟩ _;exact goR h
theorem hN8{d:Nat}(hd:d≤3){t:gB}(hD:DT VZ t)(h:SZ d t)(r:LB→Nat):HS 5 r t:=hXw (by omega) t (hSy t hD.1.2.1) (by unfold SZ at h;omega)
theorem PS.up{V:LS}{B B':Nat}{s:gJ}(h:PS V B s)(hB:B≤B'):PS V B' s:=⟨h.inv,Nat.le_trans h.len hB,h.hs⟩
def H3(j:Nat)(s:gJ):Prop:=∀R,Rn R→gXv R s.bindings→∃Ds:List Nat,Ds.length≤j∧(∀d∈Ds,Jmp (fun v=>ph (R v)) 2 d)∧∀c∈s.bindings,HP R Ds c.type_
theorem H3.up{j k:Nat}{s:gJ}(h:H3 j s)(hk:j≤k):H3 k s:=fun R hR hs=>by
 obtain⟨Ds,y,c,f⟩:=h R hR hs;exact⟨Ds,by omega,c,f⟩
theorem jEj:∀v∈VZ,v=[97]∨isInf v=true:=by decide
theorem hN9{w:gK}{k:Int}(hw:gO8 w k)(hi:gZp w){wh:List gW}(hwh:gOy wh)(hwl:wh.length≤1000){s:gJ}{j:Nat}(hj:j < 4)(h:PS VZ (1000000*j) s)(h3:H3 j s){a b:gB}(ha:DT VZ a)(hb:DT VZ b)(hta:tnd a≤64)(htb:tnd b≤64)(sa:SZ 2 a)(sb':SZ 2 b)(da:Dr 2 a)(db:Dr 2 b):∃s',vJ w wh s a b=some s'∧PS VZ (1000000*(j+1)) s'∧H3 (j+1) s':=by
 have hV:VZ.length≤5:=by decide
 obtain⟨fs,hf,hF,_⟩:=gOz hw wh 0 [] hwh (fun a ha=>by simp at ha) (by simp;omega);obtain⟨s2,e1,_,y,_⟩:=hQd hw hi hwh hwl hf hF hV (by omega) h ha hb (by omega) (by omega) (hN8 (by omega) ha sa) (hN8 (by omega) hb sb');have hl:=y.len;obtain⟨o,f⟩:=hIo hw hf hF hV jEj 5000 s s2 a b 40 e1 h.inv ha hb (by omega) (by omega);unfold vJ;rw [jO e1,jO (hCu y.inv hV (by omega))];refine⟨s2,rfl,y.up (by omega),fun R hR hs=>?_⟩;obtain⟨l,e⟩:=o.ext;obtain⟨Ds,k1,k2,k3⟩:=h3 R hR (by rw [e] at hs;exact hs.pre);refine⟨dd R a b::Ds,by simp only [List.length_cons];omega,fun d hd=>?_,(f R hR hs).2 _ (fun c hc=>(k3 c hc).up (fun d hd=>by simp [hd])) (hUx hR da db (by simp))⟩;rcases List.mem_cons.1 hd with rfl | hd
 ·exact hPs hR da db
 ·exact k2 d hd
theorem hOa{w:gK}{k:Int}(hw:gO8 w k)(hi:gZp w){wh:List gW}(hwh:gOy wh)(hwl:wh.length≤1000)(f:Int × jB)(h3:f.1≤3):∀(n j:Nat)(c:jB)(s:gJ),0 < n→f.1 < j+n→j≤3→gBp c→PS VZ (1000000*j) s→H3 j s→
  ∃s' c',gDr w wh f n c.b c.i c.h s.next s.count s.node s.bindings s.equations s.obligations s.code s.at_ (j:Int)=some (s',c')∧gBp c'∧PS VZ (1000000*3) s'∧H3 3 s'
 | 0,j,c,s,h,_,_,_,_,_=>by omega
 | n+1,j,c,s,_,h,hj,hc,he,hh=>by
   rw [gDr];cases hd:decide ((j:Int) < f.1)with
   | false=>exact⟨s,c,rfl,hc,he.up (by omega),hh.up hj⟩
   | true=>
     have hd:=of_decide_eq_true hd;obtain⟨a,c1,a1,a2,a3,a4,a5,a6⟩:=hPt c hc;obtain⟨b,c2,b1,b2,b3,b4,b5,b6⟩:=hPt c1 a2;have a1:gHi 5000 ⟨c.b,c.i,c.h⟩ 2=some (a,c1):=a1;obtain⟨s',e1,e3,e4⟩:=hN9 hw hi hwh hwl (by omega) he hh a3 b3 a4 b4 a5 b5 a6 b6;have e1:vJ w wh ⟨s.next,s.count,s.node,s.bindings,s.equations,s.obligations,s.code,s.at_⟩ a b=some s':=e1;rw [gT,jO a1,jO b1];simp only;rw [jO e1,show IntKind.i64.wrap ((j:Int)+1)=((j+1:Nat):Int)from gVo (by omega)];cases s'.code==0 with
     | true=>exact hOa hw hi hwh hwl f h3 n (j+1) c2 s' (by omega) (by omega) (by omega) b2 e3 e4
     | false=>
       obtain⟨y,c3,f1,f2⟩:=gM9 c2 12 b2 (by omega) (by omega);rw [gI,jO f1];cases y with
       | true=>exact hOa hw hi hwh hwl f h3 n (j+1) c3 s' (by omega) (by omega) (by omega) f2 e3 e4
       | false=>exact hOa hw hi hwh hwl f h3 n (j+1) c3 s (by omega) (by omega) (by omega) f2 (he.up (by omega)) (hh.up (by omega))
theorem Inv.start(V:LS)(x:Int):Inv V ⟨4,0,x,[],[],[],0,0⟩:=⟨fun i b h=>by simp at h,fun b h=>by simp at h,fun b h=>by simp at h,⟨rfl,rfl⟩,fun q h=>by simp at h⟩
theorem jA1{w:gK}{k:Int}(hw:gO8 w k)(hi:gZp w){wh:List gW}(hwh:gOy wh)(hwl:wh.length≤1000)(c:jB)(hc:gBp c):∃s c',hGf c w wh=some (s,c')∧gBp c'∧PS VZ (1000000*3) s∧H3 3 s:=by
 obtain⟨x,c1,e1,_,_,e4⟩:=gGs c 5 hc (by omega) (by omega);obtain⟨y,f,f1,f2,f3,f4⟩:=gGs c1 4 e4 (by omega) (by omega);unfold hGf gU8;rw [jO e1,jO f1]
 exact hOa hw hi hwh hwl (y,f) (by simp only;omega) 5000 0 f ⟨4,0,x,[],[],[],0,0⟩ (by omega) (by simp only;omega) (by omega) f4
  ⟨.start _ _,Nat.zero_le _,fun r _ _=>⟨fun b h=>by simp at h,fun b h=>by simp at h⟩⟩ (fun R _ _=>⟨[],by simp,by simp,fun c h=>by simp at h⟩)
def gX2(c:LB):Bool:=
(decide ((c.length:Int) > 1048576))
theorem hVt(c:LB):gY Tryz.prog 5 [.L 1 (gEr c)] [.b (gX2 c)]:=by
 obtain⟨r,h⟩:∃r,gX2 c=r:=⟨_,rfl⟩
 rw [h];unfold gX2 at h;refine SpI Tryz.func5 fun A _=>?_;refine goL ?_;refine jG ?_;subst h;exact qD
@[reducible] def zL1:LS:=[[111,107],[116,121,112,101,45,109,105,115,109,97,116,99,104],[111,99,99,117,114,115,45,99,104,101,99,107],[110,111,45,105,110,115,116,97,110,99,101],[115,112,101,99,105,97,108,105,122,97,98,108,101],[97,109,98,105,103,117,111,117,115],[116,111,111,45,100,101,101,112],[112,114,111,106,101,99,116,105,111,110],[117,110,107,110,111,119,110,45,110,97,109,101],[105,110,118,97,108,105,100,45,112,114,111,103,114,97,109]]
def gAl(c:Int):Option LB:=
lt_ (cnd (decide (c < 0)) (true) (decide (c≥(zL1.length:Int)))) fun f=>
(cnd f (some [63]) (
bnd (at? zL1 c) fun h=>
(some h)))
theorem gPr(y:Int){r:LB}(h:gAl y=some r):gY Tryz.prog 9 [.I y] [.s r]:=by
 unfold gAl at h;refine SpI Tryz.func9 fun A _=>?_;refine goL ?_;refine gPz (us:=jL zL1) ?_;refine goL ?_;obtain⟨b1,hb1,h⟩:=qA h;refine jT ⟨[(0,.I y),(3,.sl 0 0),(12,.B b1)],[.arr 9 1 0 (jL zL1)],Tryz.f9.ntmps⟩ ?_ ?_
 ·exact gqZ 7 hb1
 refine goC h ?_ ?_<;>intro c3 h
 ·exact goR h
 ·refine goS ?_;obtain⟨x4,c,h⟩:=gM h;obtain⟨f,c⟩:=gDy c;refine zZ (gYl f (List.getElem?_eq_some_iff.1 c).1) ?_;refine zZ (hOp c) ?_;exact goR h
def gAm(c:Int):Option LB:=
(cnd (!(gFl c 0 9)) (some [63]) (
bnd (at? zL1 c) fun f=>
(some f)))
theorem gPs(y:Int){r:LB}(h:gAm y=some r):gY Tryz.prog 10 [.I y] [.s r]:=by
 unfold gAm at h;refine SpI Tryz.func10 fun A _=>?_;refine goL ?_;refine jI (gF (gNz y 0 9)) ?_;refine kX (fun c1=>?_) (fun c1=>?_)
 ·replace h:=kD c1 h;exact goR h
 ·replace h:=kE c1 h;refine goS ?_;refine gPz (us:=jL zL1) ?_;refine goL ?_;obtain⟨x2,c,h⟩:=gM h;obtain⟨f,c⟩:=gDy c;refine zZ (gYl f (List.getElem?_eq_some_iff.1 c).1) ?_;refine zZ (hOp c) ?_;exact goR h
def gJ3(a0:LB):Option (Bool):=
(cnd (gX2 a0) (some true) (
bnd (zA a0) fun c=>
bnd (gLl c.1 c.2.1 c.2.2.1 c.2.2.2.1 c.2.2.2.2) fun f=>
bnd (vJ c.1 c.2.1 c.2.2.1 c.2.2.2.1 c.2.2.2.2) fun x4=>
bnd (cnd (f.code != x4.code) (some true) (cnd (f.at_ != x4.at_) (some true) (cnd ((f.bindings.length:Int) !=(x4.bindings.length:Int)) (some true) (cnd ((f.equations.length:Int) !=(x4.equations.length:Int)) (some true) (bnd (gAl f.code) fun ab=>
bnd (gAm f.code) fun ac=>
(some (!(ab==ac)))))))) fun b5=>
(cnd b5 (some false) (cnd (c.2.2.1.code != 0) (
lt_ (cnd (f.code==c.2.2.1.code) ((f.bindings.length:Int)==(c.2.2.1.bindings.length:Int)) (false)) fun ad=>
(some ad)) (
lt_ (cnd (f.code != 0) (true) (cnd (decide ((f.equations.length:Int) > 0)) (true) (decide ((c.2.2.1.equations.length:Int) > 0)))) fun ae=>
(cnd ae (some true) (
bnd (gMg f c.2.2.2.1) fun h=>
bnd (gMg f c.2.2.2.2) fun y=>
bnd (cnd (teq h y) (some true) (bnd (uL 5000 h) fun ag=>
(cnd ag (some true) (bnd (uL 5000 y) fun ah=>
(some ah))))) fun ai=>
(some ai))))))))
theorem gZz(a0:LB){r:Bool}(h:gJ3 a0=some r):gY Tryz.prog 3 [.L 1 (gEr a0)] [.b r]:=by
 unfold gJ3 at h;refine SpI Tryz.func3 fun A _=>?_;refine goL ?_;refine jI (gF (hVt a0)) ?_;refine kX (fun c1=>?_) (fun c1=>?_)
 ·replace h:=kD c1 h;exact goR h
 ·replace h:=kE c1 h;refine goS ?_;obtain⟨⟨⟨c⟩,b1,⟨f,y,aa,ab,ac,ad,ae,ag⟩,⟨ah,ai,aj⟩,⟨ak,al,am⟩⟩,bp,h⟩:=gM h;refine jI (gF (gNu _ bp)) ?_;obtain⟨⟨an,ao,ap,aq,ar,au,av,aw⟩,bq,h⟩:=gM h;refine jI (gF (hIt _ _ _ _ _ bq)) ?_;obtain⟨⟨ax,ay,a3,a4,a5,a6,a7,a8⟩,br,h⟩:=gM h;refine qK (gF (gZ _ _ _ _ _ br)) ?_;refine gId ?_;obtain⟨b5,hb5,h⟩:=gM h;refine uE (P:=Tryz.prog) Mix.h ⟨[(5,.ptr 1 0),(6,.ptr 2 0),(7,.ptr 3 0),(8,.ptr 4 0),(72,.B b5)],[bPr c,bSt f y aa ab ac ad ae ag,bTy ah ai aj,bTy ak al am,bSt an ao ap aq ar au av aw,bSt ax ay a3 a4 a5 a6 a7 a8],Tryz.f3.ntmps⟩ (by kernel_rfl) ?_ ?_
  ·refine goL ?_;refine vG 39 (fun c6=>?_) (fun c6=>?_) (by rfl)
   ·replace hb5:=kD c6 hb5;refine goL ?_;cases hb5;exact⟨rfl,⟨⟨rfl,rfl⟩,⟨rfl,rfl⟩,⟨rfl,rfl⟩,⟨rfl,rfl⟩,⟨by rfl,rfl⟩,trivial⟩,⟨_,rfl⟩,rfl⟩
   ·replace hb5:=kE c6 hb5;refine goL ?_;refine vG 46 (fun c7=>?_) (fun c7=>?_) (by rfl)
    ·replace hb5:=kD c7 hb5;refine goL ?_;cases hb5;exact⟨rfl,⟨⟨rfl,rfl⟩,⟨rfl,rfl⟩,⟨rfl,rfl⟩,⟨rfl,rfl⟩,⟨by rfl,rfl⟩,trivial⟩,⟨_,rfl⟩,rfl⟩
    ·replace hb5:=kE c7 hb5;refine goL ?_;refine vG 55 (fun c8=>?_) (fun c8=>?_) (by rfl)
     ·replace hb5:=kD c8 hb5;refine goL ?_;cases hb5;exact⟨rfl,⟨⟨rfl,rfl⟩,⟨rfl,rfl⟩,⟨rfl,rfl⟩,⟨rfl,rfl⟩,⟨by rfl,rfl⟩,trivial⟩,⟨_,rfl⟩,rfl⟩
     ·replace hb5:=kE c8 hb5;refine goL ?_;refine vG 64 (fun c9=>?_) (fun c9=>?_) (by rfl)
      ·replace hb5:=kD c9 hb5;refine goL ?_;cases hb5;exact⟨rfl,⟨⟨rfl,rfl⟩,⟨rfl,rfl⟩,⟨rfl,rfl⟩,⟨rfl,rfl⟩,⟨by rfl,rfl⟩,trivial⟩,⟨_,rfl⟩,rfl⟩
      ·replace hb5:=kE c9 hb5;refine goL ?_;obtain⟨b3,bh,hb5⟩:=gM hb5;refine gC1 (gF (gPr _ bh)) ?_;refine goL ?_;obtain⟨b4,bi,hb5⟩:=gM hb5;refine gC1 (gF (gPs _ bi)) ?_;refine goL ?_;cases hb5;exact⟨rfl,⟨⟨rfl,rfl⟩,⟨rfl,rfl⟩,⟨rfl,rfl⟩,⟨rfl,rfl⟩,⟨by rfl,rfl⟩,trivial⟩,⟨_,rfl⟩,rfl⟩
  refine goC h ?_ ?_<;>intro b6 h
  ·exact goR h
  ·refine goS ?_;refine kX (fun bf=>?_) (fun bf=>?_)
   ·replace h:=kD bf h;refine goL ?_;obtain⟨bx,hb14,h⟩:=qA h;refine jT ⟨[(2,.B bx)],[bPr c,bSt f y aa ab ac ad ae ag,bTy ah ai aj,bTy ak al am,bSt an ao ap aq ar au av aw,bSt ax ay a3 a4 a5 a6 a7 a8],Tryz.f3.ntmps⟩ ?_ ?_
    ·refine uD 81 (fun bg=>?_) (fun bg=>?_) (by rfl)
     ·replace hb14:=kD bg hb14;refine goL ?_;cases hb14;exact⟨rfl,⟨⟨by rfl,rfl⟩,trivial⟩,⟨_,rfl⟩,rfl⟩
     ·replace hb14:=kE bg hb14;refine goL ?_;cases hb14;exact⟨rfl,⟨⟨by rfl,rfl⟩,trivial⟩,⟨_,rfl⟩,rfl⟩
    exact goR h
   ·replace h:=kE bf h;refine goS ?_;obtain⟨bz,hb16,h⟩:=qA h;refine jT ⟨[(6,.ptr 2 0),(7,.ptr 3 0),(8,.ptr 4 0),(104,.B bz)],[bPr c,bSt f y aa ab ac ad ae ag,bTy ah ai aj,bTy ak al am,bSt an ao ap aq ar au av aw,bSt ax ay a3 a4 a5 a6 a7 a8],Tryz.f3.ntmps⟩ ?_ ?_
    ·refine gqO 93 hb16 (fun b7 hb16=>?_);exact gqZ 99 hb16
    refine goC h ?_ ?_<;>intro b8 h
    ·exact goR h
    ·refine goS ?_;obtain⟨⟨a9,ba,bb⟩,bj,h⟩:=gM h;refine jI (gF (hCv _ _ bj)) ?_;obtain⟨⟨bc,bd,be⟩,bk,h⟩:=gM h;refine jI (gF (hCv _ _ bk)) ?_;refine jI (gF (gDw (gB.mk a9 ba bb) (gB.mk bc bd be))) ?_;obtain⟨b0,hb22,h⟩:=gM h;refine jT ⟨[(2,.B b0)],[bPr c,bSt f y aa ab ac ad ae ag,bTy ah ai aj,bTy ak al am,bSt an ao ap aq ar au av aw,bSt ax ay a3 a4 a5 a6 a7 a8,bTy a9 ba bb,bTy bc bd be],Tryz.f3.ntmps⟩ ?_ ?_
     ·refine gqO 114 hb22 (fun b9 hb22=>?_);obtain⟨ca,bl,hb22⟩:=gM hb22;refine jI (gF (gDa _ _ bl)) ?_;refine gqO 118 hb22 (fun cb hb22=>?_);obtain⟨cc,bm,hb22⟩:=gM hb22;refine jI (gF (gDa _ _ bm)) ?_;cases hb22;exact eJ
     exact goR h
theorem hSi{V:LS}{B:Nat}(hV:V.length≤5)(hB:B≤4294967296){s:gJ}(h:PS V B s):hVq s:=by
 have hl:=h.inv.len;have hp:=h.len;exact⟨⟨by omega,h.inv.bok⟩,⟨by omega,fun q hq=>⟨(h.inv.eqs q hq).1.1.1.1,(h.inv.eqs q hq).2.1.1.1⟩⟩,by rw [h.inv.obl.1];simp,fun o ho=>by rw [h.inv.obl.1] at ho;simp at ho⟩
theorem hSk(code:LB)(h:gBp (gLf code)):∃w k wh s a b,zA code=some (w,wh,s,a,b)∧gO8 w k∧gZp w∧gOy wh∧wh.length≤1000∧PS VZ (1000000*3) s∧H3 3 s∧(DT VZ a∧tnd a≤256∧SZ 3 a∧Dr 3 a)∧DT VZ b∧tnd b≤256∧SZ 3 b∧Dr 3 b:=by
 obtain⟨w,k,c1,a1,a2,c,f⟩:=hRm _ h;obtain⟨wh,c2,b1,b2,y,b4⟩:=hMw c1 a2;obtain⟨s,c3,d1,d2,d3,d4⟩:=jA1 c f y b4 c2 b2;obtain⟨a,c4,e1,e2,e3⟩:=hPu c3 d2;obtain⟨b,c5,f1,f2,f3⟩:=hPu c4 e2;unfold zA;simp only [lt_];rw [jO a1,jO b1,jO d1,jO e1,jO f1];exact⟨w,k,wh,s,a,b,rfl,c,f,y,b4,d3,d4,e3,f3⟩
theorem Inv.len4{s:gJ}(h:Inv VZ s):s.bindings.length≤4:=by
 have key:∀v∈VZ,isInf v=true→v∈([[63,48],[63,49],[63,50],[63,51]]:LS):=by decide
 have:=pig (dom s.bindings) [[63,48],[63,49],[63,50],[63,51]] (hQu h.tri) (fun v hv=>by
  obtain⟨b,c,rfl⟩:=List.mem_map.1 hv
  exact key _ (h.dt b c).2.2 (h.inf b c))
 simpa [dom] using this
theorem gZ0{n:Nat}{w:gK}{wh:List gW}{s s':gJ}{a b:gB}{d:Int}(h:mD (n+1) w wh s a b d=some s')(hc:(s.code != 0)=true):s'=s:=by
 rw [mD] at h;unfold gA8 at h;rw [hc,gT] at h;exact(Option.some.inj h).symm
theorem hSl{w:gK}{k:Int}(hw:gO8 w k)(hi:gZp w){wh:List gW}(hwh:gOy wh)(hwl:wh.length≤1000){s:gJ}(h:PS VZ (1000000*3) s){a b:gB}(ha:DT VZ a)(hb:DT VZ b)(hta:tnd a≤256)(htb:tnd b≤256)(sa:SZ 3 a)(sb':SZ 3 b):∃fs c,pK w wh=some fs∧FV fs∧mD 5000 w wh s a b 40=some c∧Inv VZ c∧vJ w wh s a b=some c∧gLl w wh s a b=some c∧ed (zk c.bindings 60 a) < 5000∧ed (zk c.bindings 60 b) < 5000:=by
 have hV:VZ.length≤5:=by decide
 obtain⟨fs,hf,hF,_⟩:=gOz hw wh 0 [] hwh (fun a ha=>by simp at ha) (by simp;omega);have wa:=hN8 (by omega) ha sa;have wb:=hN8 (by omega) hb sb';obtain⟨c,y,o,f,i⟩:=hQd hw hi hwh hwl hf hF hV (by omega) h ha hb (by omega) (by omega) wa wb;have hlen:=f.len;have hr:=hS6 f.inv;have hs:=hIb f.inv.tri;have i1:=f.hs _ hr hs;have hl4:=f.inv.len4;have hb29:∀v,slv c.bindings v≤29:=fun v=>hId (E:=5) (by omega) f.inv.tri i1.hb (n:=3) (by omega) v;have hgl:∀t,HS 5 (slv c.bindings) t→hg (slv c.bindings) t≤34:=fun t ht=>by
  rcases gP6 ht with ⟨k1,k2⟩ | ⟨_,k2 | ⟨v,_,k2⟩⟩
  ·have y:=hVn (r:=slv c.bindings) k1 k2
   have:=hb29 t.name
   omega
  ·omega
  ·have:=hb29 v
   omega
 have i3:=i _ hr hs (by have:=hgl a (wa _);omega);have hz:∀t,HS 5 (slv c.bindings) t→ed (zk c.bindings 60 t) < 5000:=fun t ht=>by
  have h1:=(hN3 hs i1.lk 60 t ht).2;have h2:=hVl (r:=slv c.bindings) (zk c.bindings 60 t);have h3:=hgl t ht;omega
 refine⟨fs,c,hf,hF,y,f.inv,?_,?_,hz a (wa _),hz b (wb _)⟩
 ·unfold vJ;rw [jO y,jO (hCu f.inv hV (by omega))]
 ·unfold gLl;have f1:gHs w wh=some ⟨w,fs⟩:=by
   unfold gHs;rw [gZ8 hw hi hwh,show pK w wh=some fs from hf];rfl
  rw [mI (hSi hV (by omega) h)];simp only [lt_,idS];rw [jO f1,jO i3,←o.nx,←o.ct,←o.nd,←o.ob]
theorem ien(c:Int):∃nm,gAl c=some nm∧gAm c=some nm:=by
 by_cases h:0≤c∧c≤9
 ·have:c=0∨c=1∨c=2∨c=3∨c=4∨c=5∨c=6∨c=7∨c=8∨c=9:=by omega
  rcases this with rfl | rfl | rfl | rfl | rfl | rfl | rfl | rfl | rfl | rfl<;>exact⟨_,rfl,rfl⟩
 ·have y:(cnd (decide (c < 0)) true (decide (c≥10)))=true:=by
   rcases Int.lt_or_le c 0 with f | f
   ·rw [decide_eq_true f];rfl
   ·rw [decide_eq_true (show c≥10 by omega)];cases decide (c < 0)<;>rfl
  have h2:(cnd (decide (c≥0)) (decide (c≤9)) false)=false:=by
   rcases Int.lt_or_le c 0 with f | f
   ·rw [decide_eq_false (show ¬c≥0 by omega)];rfl
   ·rw [decide_eq_false (show ¬c≤9 by omega)];cases decide (c≥0)<;>rfl
  refine⟨[63],?_,?_⟩
  ·unfold gAl;simp only [lt_];exact congrArg (fun b=>cnd b (some ([63]:LB)) _) y
  ·unfold gAm gFl;simp only [lt_];exact congrArg (fun b=>cnd (!b) (some ([63]:LB)) _) h2
theorem hVd(s:gJ):∀(l:LS)(k:Nat),gB8 s l k=zK s.next s.count s.node s.bindings s.equations s.obligations s.code s.at_ l k
 | [],_=>rfl
 | x::l,k=>by
   simp only [gB8,zK,hVd s l];rfl
theorem hVe(s:gJ):∀(n:Nat)(k:Int)(m:LB)(ts:List gB),gDj s n k m ts=gBo s.next s.count s.node s.bindings s.equations s.obligations s.code s.at_ n k m ts
 | 0,_,_,_=>rfl
 | n+1,k,m,ts=>by
   have hc:∀l,gFr s l=gCf s.next s.count s.node s.bindings s.equations s.obligations s.code s.at_ l:=fun l=>by
    unfold gFr gOg gCf gLu;rw [hVd]
   simp only [gDj,gBo,hc,hVe s n]
theorem hCh{s:gJ}(h:Inv VZ s){t:gB}(ht:DT VZ t)(hn:tnd t≤8000000):gMg s t=some (zk s.bindings 60 t):=by
 have:=gWp s.next s.count s.node s.bindings s.equations s.obligations s.code s.at_ (M:=2000) (by omega) h.bok h.gU4 ht.1.1 (by omega)
 unfold gNq at this;unfold gMg gQ5;simp only [hVe];rw [this];rfl
theorem gZ1(code:LB)(h:code.length≤1048576→gBp (gLf code)):gJ3 code=some true:=by
 unfold gJ3 gX2;cases hb:decide ((code.length:Int) > 1048576)with
 | true=>rfl
 | false=>
   have hb:=of_decide_eq_false hb;have hV:VZ.length≤5:=by decide
   simp only [gI];obtain⟨w,k,wh,s,a,b,e1,a1,a2,a3,a4,hp,h3,⟨ha,hta,sa,da⟩,hb2,htb,sb',db⟩:=hSk code (h (by omega));obtain⟨fs,t,hf,hF,t1,y,t3,t4,t5,t6⟩:=hSl a1 a2 a3 a4 hp ha hb2 hta htb sa sb';obtain⟨nm,n1,n2⟩:=ien t.code;rw [jO e1];simp only;rw [jO t4,jO t3];simp only [bne_self_eq_false,gI];rw [jO n1,jO n2];simp only [beq_self_eq_true,Bool.not_true,bnd,gI];cases hc:(s.code != 0)with
   | true=>
     have:t=s:=gZ0 (n:=4999) t1 hc
     subst this;simp only [lt_,gT,beq_self_eq_true]
   | false=>
     rw [gI];simp only [lt_];cases aa:cnd (t.code != 0) true (cnd (decide ((t.equations.length:Int) > 0)) true (decide ((s.equations.length:Int) > 0)))with
     | true=>rfl
     | false=>
       rw [gI,hCh y ha (by omega)];simp only;rw [hCh y hb2 (by omega)];simp only;have hc0:t.code=0:=by
        cases h1:(t.code != 0)with
        | true=>rw [h1] at aa;cases aa
        | false=>simpa using h1
       have he0:t.equations=[]:=by
        rw [show (t.code != 0)=false from by rw [hc0];rfl,gI] at aa;cases h1:decide ((t.equations.length:Int) > 0)with
        | true=>rw [h1] at aa;cases aa
        | false=>have:=of_decide_eq_false h1;exact List.eq_nil_of_length_eq_zero (by omega)
       obtain⟨o,f⟩:=hIo a1 hf hF hV jEj 5000 s t a b 40 t1 hp.inv ha hb2 (by omega) (by omega)
       have hR:Rn (slT t.bindings):=fun v hv=>gPq (fun hd=>by
        obtain⟨c,h1,rfl⟩:=List.mem_map.1 hd;rw [y.inf c h1] at hv
        cases hv)
       have hS:=hCp y.tri;obtain⟨f1,f2⟩:=f _ hR hS;obtain⟨l,e⟩:=o.ext;obtain⟨Ds,k1,k2,k3⟩:=h3 _ hR (by rw [e] at hS ⊢;exact hS.pre);have htw:=hIi (l:=t.bindings) (fun c hc=>(y.dt c hc).1.1.2.1);have hl4:=y.len4
       obtain⟨z1,z2⟩:=hS8 hR (L:=dom t.bindings) (fun v hv=>by rw [gPq hv];rfl) (by simpa [dom] using hl4) k1 k2 da db (hCq htw a ha.1.2.1) (hCq htw b hb2.1.2.1)
        (fun D hD hpo v=>hXo y.tri (f2 D (fun c hc=>(k3 c hc).up hD) hpo) v)
       have x1:=hQe y.tri y.inf (by omega) y.gU4 (fun c hc=>(y.dt c hc).1) ha (by omega) z1;have x2:=hQe y.tri y.inf (by omega) y.gU4 (fun c hc=>(y.dt c hc).1) hb2 (by omega) z2;rw [hIk 5000 _ t5,hIk 5000 _ t6];have key:teq (zk t.bindings 60 a) (zk t.bindings 60 b)=true∨hpT (zk t.bindings 60 a)=true∨hpT (zk t.bindings 60 b)=true:=by
        rcases x1 with x1 | x1
        ·exact .inr (.inl x1)
        ·rcases x2 with x2 | x2
         ·exact .inr (.inr x2)
         ·rcases f1 hc0 he0 with g | g | g
          ·exact .inl ((gL3 _ _).2 (by rw [x1,x2,g]))
          ·exact .inr (.inl (by rw [x1];exact g))
          ·exact .inr (.inr (by rw [x2];exact g))
       rcases key with g | g | g
       ·rw [g];rfl
       ·rw [g];cases teq (zk t.bindings 60 a) (zk t.bindings 60 b)<;>rfl
       ·rw [g];cases teq (zk t.bindings 60 a) (zk t.bindings 60 b)with
        | true=>rfl
        | false=>cases hpT (zk t.bindings 60 a)<;>rfl
end Go.Proofs.YtegahmhnmjnhhaaGreat
namespace Go.Proofs.YtegahmhnmjnhhaaGreat
open Go Go.Eng Go.RowKit
theorem hSm {H:Type}{enc:TypeId × Value→H}{P:Program}{w:World}{sp:Nat→Bool}{held:Bool}{T e:TypeId}{v:Value}{d:DataW H}{ps:List MemPlace}(hund:P.underlying T=some (.slice e))(he:P.underlying e=some (.int .u8))(hce:P.cellsOf e=1)(hbe:0 < P.bytesOf e)
  (h:DataW.Trod enc P w 0 sp held T v d ps) (hw:∀x∈d.weights P T,x≤reachBytes) (hna:∀cs,v≠.agg cs):∃code:LB,SVr (fun b=>b < w.heap.size) [] [] w (.d (.sl 1 (gEr code))) v:=by
 obtain⟨fuel,h⟩:=h;have hc:v.cells=#[v]:=by cases v<;>first | rfl | (exact absurd rfl (hna _))
 rw [hc] at h
 suffices hs:∃code:LB,Rd (fun b=>b < w.heap.size) w (.sl 1 (gEr code)) [v] by
  obtain⟨code,c⟩:=hs;refine⟨code,?_⟩;simp only [SVr];exact⟨[v],by simp [val,U.isSt],c⟩
 have hlenB:∀l:LB,(gEr l).length=l.length:=fun l=>Enc.len l;cases fuel with
 | zero=>simp [DataW.trod] at h
 | succ fuel=>
   rcases DataW.trod_slice hund h with ⟨f,hx⟩ | ⟨a,len,cap,elems,rest,n,hn,f,hx,_,hlc,_,hel,hget,_,_⟩
   ·simp at f;subst f;exact⟨[],by simp only [Rd,gEr];exact⟨by simp [yI],none,0,rfl,.inl trivial⟩⟩
   ·obtain rfl:fuel=n:=by omega
    simp at f;subst f;simp only [Prod.mk.injEq] at hx;obtain⟨rfl,rfl⟩:=hx;simp only [DataW.weights,hund] at hw;have hlen:len≤big:=by
     have c:=hw _ (List.mem_cons_self);simp only [List.length_map] at c;refine hIz (Nat.le_trans ?_ c);rw [hel]
     calc len≤len*P.bytesOf e:=Nat.le_mul_of_pos_right _ hbe
      _≤(len+rest.length)*P.bytesOf e:=Nat.mul_le_mul_right _ (by omega)
    have each:∀i,i < len→∃x:UInt8,(a.spot=none→At w a.block (a.off+i*1) [.int .u8 (x.toNat:Int)])∧(i=0→a.spot=none)∧a.block < w.heap.size:=by
     intro i hi;have c:=hget i hi;rw [List.getElem?_eq_getElem (by omega)] at c;cases hc:w.cells? 0 (a.add (i*P.cellsOf e)) (P.cellsOf e)with
     | none=>rw [hc] at c;simp at c
     | some cs=>
       rw [hc] at c;simp only [Option.bind_some] at c;rw [hce] at hc;obtain⟨k1,k2,y⟩:=hOc (by omega) hc;obtain⟨m,rfl,_,hwf⟩:=DataW.trod_int he c;simp [Lit.wf,IntKind.min,IntKind.max,IntKind.bits,IntKind.signed] at hwf;have hblk:(a.add (i*1)).block=a.block:=by unfold Addr.add;split<;>rfl
       refine⟨UInt8.ofNat m.toNat,fun hsp=>?_,fun f=>?_,?_⟩
       ·have hoff:(a.add (i*1)).off=a.off+i*1:=by unfold Addr.add;split<;>simp_all
        rw [hblk,hoff] at y;have e1:((UInt8.ofNat m.toNat).toNat:Int)=m:=by
         rw [UInt8.toNat_ofNat'];omega
        rw [e1];exact y
       ·subst f;rw [Nat.zero_mul] at k2;exact k2
       ·rw [←hblk];exact y.lt
    obtain⟨us,hul,hus⟩:=gSp len each;refine⟨us,?_⟩;simp only [Rd];refine⟨by rw [hlenB,hul];exact hlen,some a,cap - len,by rw [hlenB,hul,Nat.add_sub_cancel' hlc],?_⟩;by_cases f:us=[]
    ·subst f;exact .inl rfl
    ·have hpos:0 < len:=by rw [←hul];exact List.length_pos_iff.2 f
     obtain⟨u0,_,hsp,hblt⟩:=each 0 hpos;have hsp:=hsp rfl;refine .inr ⟨a.block,a.off,?_,hblt,RdE.mk (gEr us) a.off (fun k u hk=>?_)⟩
     ·obtain⟨b,o,sp⟩:=a;simp only at hsp;subst hsp;rfl
     ·have hk2:k < us.length:=by rw [←hlenB];exact(List.getElem?_eq_some_iff.1 hk).1
      have hk3:=hTq (List.getElem?_eq_getElem hk2);rw [hk] at hk3;obtain rfl:=Option.some.inj hk3;obtain⟨k1,_,_⟩:=hus k _ (List.getElem?_eq_getElem hk2);exact⟨_,rfl,k1 hsp,by simp only [Rd]⟩
end Go.Proofs.YtegahmhnmjnhhaaGreat
