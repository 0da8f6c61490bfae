import Derived.Test.YtfpdlnkkcnmebaaGreatP1
set_option maxHeartbeats 4000000
set_option linter.unusedVariables false
set_option linter.unusedSimpArgs false
set_option linter.unusedSectionVars false
namespace Go.Proofs.YtfpdlnkkcnmebaaGreat
open Go Go.Eng
attribute [local irreducible] V VO VQ VY Quiet QR jF mJ Rng qI qJ qB
def uJ(c:gM→(List gT)→gI→gT→Option (Bool))(a0:gM)(a1:List gT)(a2:gI)(f:List gV × Bool):List gT→Nat→Option (Bool)
 | [],h=>(some true)
 | q::xs,h=>bnd (at? a2.args (h:Int)) fun y=>
gd (bok f.1∧tok q.type_) (lt_ (apT f.1 q.type_) fun aa=>
bnd (c a0 a1 y (gT.mk q.trait aa)) fun ab=>
(cnd (!ab) (
(some false)) (
uJ c a0 a1 a2 f xs (h+1))))
def gB8(c:gM→(List gT)→gI→gT→Option (Bool))(q:gM)(a1:List gT)(a2:gI)(f:gT):Option (Bool):=
(cnd (a2.kind==2) (
bnd ((cnd (decide (a2.n < (a1.length:Int))) (bnd (at? a1 a2.n) fun x4=>
(some (gFj x4 f))) ((some false)))) fun b2=>
(some b2)) (
(cnd (a2.kind==5) (
lt_ (zA q f.trait) fun x6=>
bnd ((cnd x6.2.2 ((cnd x6.1.auto (bnd (gKb q a1 f) fun ad=>
(some (ad==0))) ((some false)))) ((some false)))) fun b7=>
(some b7)) (
(cnd (a2.kind==4) (
lt_ ((cnd (f.type_.kind==4) ((f.type_.name==f.trait)) (false))) fun ae=>
(some ae)) (
(cnd (a2.kind==3) (
bnd (at? a2.args 0) fun ab=>
bnd (gEr 5000 q a1 ab f.type_) fun y=>
(cnd (!y.2) (
(some false)) (
bnd (zI q y.1 a2.n) fun ac=>
bnd ((cnd ac.2 ((cnd (ac.1==f.trait) (bnd (c q a1 ab (gT.mk y.1 f.type_)) fun ag=>
(some ag)) ((some false)))) ((some false)))) fun ah=>
(some ah)))) (
bnd (gFs q f) fun h=>
bnd (gC9 q h.1) fun aa=>
lt_ ((cnd (h.2 != 0) (true) ((cnd (!(h.1.package==a2.at_.package && h.1.at_==a2.at_.at_)) (true) (((a2.args.length:Int) !=(aa.1.where_.length:Int))))))) fun ai=>
(cnd ai (
(some false)) (
bnd (gC1 aa.1.head f.type_) fun aj=>
uJ c q a1 a2 aj aa.1.where_ 0))))))))))
theorem gNl{c:gM→(List gT)→gI→gT→Option (Bool)}(f:∀(x0:gM)(x1:List gT)(x2:gI)(x3:gT){r:Bool},c x0 x1 x2 x3=some r→jF Tryz.prog 30 [.d (kW x0),.L 4 (jQ x1),.d (mF x2),.d (wU x3)] [.b r])(a0:gM)(a1:List gT)(a2:gI)(a3:gT){r:Bool}(h:gB8 c a0 a1 a2 a3=some r):jF Tryz.prog 30 [.d (kW a0),.L 4 (jQ a1),.d (mF a2),.d (wU a3)] [.b r]:=by
 obtain⟨ae⟩:=a0;obtain⟨ah,ai,⟨y,aa⟩,aj⟩:=a2;obtain⟨ag,⟨ab,ac,ad⟩⟩:=a3;unfold gB8 at h;refine SpI Tryz.func30 fun A _=>?_;refine goL ?_;refine jE ?_;refine goC h ?_ ?_<;>intro c1 h
 ·obtain⟨b2,hb2,h⟩:=gJ h;refine uT (P:=Tryz.prog) Mix.h ⟨[(8,.B b2)],[bPr ae,.box [.I ah,.I ai,.I y,.I aa,.L 5 (jP aj)],bBd ag ab ac ad],Tryz.f30.ntmps⟩ (by kernel_rfl) ?_ ?_
  ·refine goL ?_;refine wN 33 (fun c3=>?_) (fun c3=>?_)
   ·replace hb2:=kT c3 hb2;refine goL ?_;obtain⟨x4,bl,hb2⟩:=gJ hb2;obtain⟨br,bl⟩:=gAz bl;obtain⟨bt,⟨bc,bd,be⟩⟩:=x4;refine gEa (qY br (gDi bl)) ?_;refine goL ?_;refine gEa (gG (gN3 (gT.mk bt (gB.mk bc bd be)) (gT.mk ag (gB.mk ab ac ad)))) ?_;refine goL ?_;cases hb2;exact eJ
   ·replace hb2:=kU c3 hb2;refine goL ?_;cases hb2;exact eJ
  exact goR h
 ·refine goC h ?_ ?_<;>intro c5 h
  ·refine goL ?_;obtain⟨⟨⟨bf,bg,bh,bi,bj⟩,db,dc⟩,ce,h⟩:=qW h;have sx6:=gK8 (gM.mk ae) ag;rw [ce] at sx6;refine jK (gG (sx6)) ?_;obtain⟨b7,hb7,h⟩:=gJ h;refine kC ⟨[(8,.B b7)],[bPr ae,.box [.I ah,.I ai,.I y,.I aa,.L 5 (jP aj)],bBd ag ab ac ad,bTr bf bg bh bi bj],Tryz.f30.ntmps⟩ ?_ ?_
   ·refine gqA 53 hb7 (fun c8 hb7=>?_);refine gqA 57 hb7 (fun c9 hb7=>?_);obtain⟨dg,bu,hb7⟩:=gJ hb7;refine jK (gG (gUj _ _ _ bu)) ?_;cases hb7;exact eJ
   exact goR h
  ·refine goC h ?_ ?_<;>intro dh h
   ·refine goL ?_;obtain⟨cf,hb12,h⟩:=qW h;refine kC ⟨[(8,.B cf)],[bPr ae,.box [.I ah,.I ai,.I y,.I aa,.L 5 (jP aj)],bBd ag ab ac ad],Tryz.f30.ntmps⟩ ?_ ?_
    ·exact gqZ 70 hb12
    exact goR h
   ·refine goC h ?_ ?_<;>intro di h
    ·refine goL ?_;obtain⟨cg,a7,h⟩:=gJ h;obtain⟨a8,a7⟩:=gAz a7;obtain⟨ch,ci,⟨bv,bw⟩,cj⟩:=cg;refine gCy (qY a8 (gD9 a7)) ?_;refine goL ?_;obtain⟨⟨ck,cl⟩,bx,h⟩:=gJ h;refine gCy (gG (gNk _ _ _ _ _ bx)) ?_;refine goC h ?_ ?_<;>intro dj h
     ·exact goR h
     ·refine goS ?_;obtain⟨⟨cm,cn⟩,bz,h⟩:=gJ h;refine qM (gG (gFl _ _ _ bz)) ?_;refine gHi ?_;obtain⟨co,hb19,h⟩:=gJ h;refine uT (P:=Tryz.prog) Mix.h ⟨[(8,.B co)],[bPr ae,.box [.I ah,.I ai,.I y,.I aa,.L 5 (jP aj)],bBd ag ab ac ad],Tryz.f30.ntmps⟩ (by kernel_rfl) ?_ ?_
      ·refine goL ?_;refine wN 103 (fun bm=>?_) (fun bm=>?_)
       ·replace hb19:=kT bm hb19;refine goL ?_;refine wN 109 (fun bn=>?_) (fun bn=>?_)
        ·replace hb19:=kT bn hb19;refine goL ?_;refine gEa (qY a8 (gD9 a7)) ?_;refine goL ?_;refine hBo (jU TBd.h TZ.h rfl (by repeat constructor)) ?_;obtain⟨dk,b0,hb19⟩:=gJ hb19;refine gEa (gG (f _ _ _ _ b0)) ?_;refine goL ?_;cases hb19;exact eJ
        ·replace hb19:=kU bn hb19;refine goL ?_;cases hb19;exact eJ
       ·replace hb19:=kU bm hb19;refine goL ?_;cases hb19;exact eJ
      exact goR h
    ·refine goS ?_;obtain⟨⟨⟨au,av⟩,cp⟩,b1,h⟩:=gJ h;refine jK (gG (gQv _ _ b1)) ?_;obtain⟨⟨⟨aw,ax,⟨ak,al,am⟩,q,ay,a4,⟨an,ao,ap⟩,a5⟩,cq⟩,b3,h⟩:=gJ h;refine jK (gG (gKo _ _ b3)) ?_;obtain⟨cr,hb25,h⟩:=qW h;refine kC ⟨[(1,.L 4 (jQ a1)),(4,.ptr 0 0),(6,.ptr 1 0),(7,.ptr 2 0),(18,.ptr 4 0),(150,.B cr)],[bPr ae,.box [.I ah,.I ai,.I y,.I aa,.L 5 (jP aj)],bBd ag ab ac ad,.box [.I au,.I av],bIn aw ax ak al am q ay a4 an ao ap a5],Tryz.f30.ntmps⟩ ?_ ?_
     ·refine gqO 136 hb25 (fun dl hb25=>?_);refine goL ?_;exact gqZ 142 hb25
     refine goC h ?_ ?_<;>intro dm h
     ·exact goR h
     ·refine goS ?_;obtain⟨⟨a6,bo⟩,b4,h⟩:=gJ h;refine jK (gG (gMz _ _ b4)) ?_;refine noB ?_;refine gCm 160 (fun dn=>?_);refine qD (fun(aq:Nat)=>⟨[(1,.L 4 (jQ a1)),(4,.ptr 0 0),(6,.ptr 1 0),(20,.L 4 (jY a6)),(160,.L 4 (jQ q)),(161,.I (q.length:Int)),(162,.N aq)],[bPr ae,.box [.I ah,.I ai,.I y,.I aa,.L 5 (jP aj)],bBd ag ab ac ad,.box [.I au,.I av],bIn aw ax ak al am q ay a4 an ao ap a5],Tryz.f30.ntmps⟩) (fun aq=>uJ c (gM.mk ae) a1 (gI.mk ah ai (gF.mk y aa) aj) (a6,bo) (q.drop aq) aq=some r) (fun aq=>q.length - aq) 0 eJ h ?_;rintro aq h;refine goL ?_;refine kH (mQ (fun bp=>?_) (fun bp=>?_))
      ·have ar:=vF bp;obtain⟨cs,b5,bq⟩:=drop_at ar;rw [bq,uJ.eq_2] at h;obtain⟨ct,⟨a9,ba,bb⟩⟩:=cs;refine noS ?_;refine kH (jE ?_);refine goL ?_;refine jK (jM aq (gDi b5)) ?_;obtain⟨cu,bk,h⟩:=gJ h;rw [gCk] at bk;obtain⟨cv,cw,⟨b6,b8⟩,cx⟩:=cu;refine gCy (jM aq (gD9 bk)) ?_;refine goL ?_;obtain⟨cy,h⟩:=pO h;obtain⟨⟨cz,c0,c2⟩,b9,h⟩:=qW h;have sx36:=(gTy a6 (gB.mk a9 ba bb) cy).p;rw [b9] at sx36;refine gCy (gG (sx36)) ?_;refine hPi (jU TBd.h TZ.h rfl (by repeat constructor)) ?_;obtain⟨dp,ca,h⟩:=gJ h;refine gCy (gG (f _ _ _ _ ca)) ?_;refine goC h ?_ ?_<;>intro dq h
       ·exact goR h
       ·refine goS ?_;refine jK (kD aq (by omega)) ?_;exact⟨(aq+1),h,by omega,eJ⟩
      ·have ar:=vG bp;rw [jH ar,uJ.eq_1] at h;refine goX ?_;refine jG ?_;cases h;exact uA
def vO:Nat→gM→(List gT)→gI→gT→Option (Bool)
 | 0,_,_,_,_=>none
 | n+1,c,f,h,q=>gB8 (vO n) c f h q
theorem gNm:∀(n:Nat)(c:gM)(f:List gT)(q:gI)(y:gT){r:Bool},vO n c f q y=some r→jF Tryz.prog 30 [.d (kW c),.L 4 (jQ f),.d (mF q),.d (wU y)] [.b r]:=by
 intro n
 induction n with
 | zero=>intro c f q y r h;cases h
 | succ n ih=>intro c f q y r h;exact gNl ih c f q y h
def gBx(c:gM→(List jI)→gT→Int→Option (gI × Int))(a0:gM)(a1:List jI)(a3:Int)(x1:gF × Int)(y:List gV × Bool):List gT→(List gI)→Option (gI × Int)
 | [],q=>(some ((gI.mk 1 0 x1.1 q),0))
 | h::xs,q=>gd (bok y.1∧tok h.type_) (lt_ (apT y.1 h.type_) fun aa=>
bnd (c a0 a1 (gT.mk h.trait aa) (IntKind.i64.wrap (a3 - 1))) fun f=>
(cnd (f.2 != 0) (
(some ((gI.mk 0 0 (gF.mk 0 0) []),f.2))) (
gd (q.length+[f.1].length≤4294967296) (
gBx c a0 a1 a3 x1 y xs (q++[f.1])))))
def gMg(f:gM→(List jI)→gT→Int→Option (gI × Int))(c:gM→(List jI)→gT→Int→Option (gI × Int))(q:gM)(a1:List jI)(a2:gT)(a3:Int):Option (gI × Int):=
bnd (gAf q a2) fun h=>
(cnd (h.2 != 0) (
(some ((gI.mk 0 0 (gF.mk 0 0) []),h.2))) (
bnd (at? q.packages h.1.package) fun x3=>
bnd (at? x3.instances h.1.at_) fun y=>
bnd (gIi y.head a2.type_) fun x5=>
gBx c q a1 a3 h x5 y.where_ []))
def gP0(c:gM→(List jI)→gT→Int→Option (gI × Int)):Prop:=∀(f:gM)(h:List jI)(q:gT)(y:Int){r:gI × Int},c f h q y=some r→jF Tryz.prog 79 [.d (kW f),.L 6 (jW h),.d (wU q),.I y] [mF r.1,.i .i64 r.2]
def gK2(c:gM→(List jI)→gT→Int→Option (gI × Int)):Prop:=∀(f:gM)(h:List jI)(q:gT)(y:Int){r:gI × Int},c f h q y=some r→jF Tryz.prog 45 [.d (kW f),.L 6 (jW h),.d (wU q),.I y] [mF r.1,.i .i64 r.2]
theorem hAe{f}{c}(an:gP0 f)(q:gK2 c)(a0:gM)(a1:List jI)(a2:gT)(a3:Int){r:gI × Int}(h:gMg f c a0 a1 a2 a3=some r):jF Tryz.prog 79 [.d (kW a0),.L 6 (jW a1),.d (wU a2),.I a3] [mF r.1,.i .i64 r.2]:=by
 obtain⟨a5⟩:=a0;obtain⟨bd,⟨ap,aq,ar⟩⟩:=a2;unfold gMg at h;refine SpI Tryz.func79 fun A _=>?_;refine goL ?_;obtain⟨⟨⟨ab,ac⟩,be⟩,br,h⟩:=gJ h;refine jK (gG (gNu _ _ br)) ?_;refine mQ (fun c2=>?_) (fun c2=>?_)
 ·replace h:=kT c2 h;refine goL ?_;refine yS (jU TBd.h TZ.h rfl (by repeat constructor)) ?_;exact goR h
 ·replace h:=kU c2 h;refine noS ?_;refine jL (P:=Tryz.prog) Mix.h [(0,true),(1,true),(2,true),(3,true),(4,true),(5,true),(6,true),(7,true),(8,true),(9,true),(10,true),(11,false),(12,false)] (by kernel_rfl) ?_;refine goY ?_;obtain⟨x3,a7,h⟩:=gJ h;obtain⟨bf,a7⟩:=gAz a7;obtain⟨b4,b5,b6,b7,b8,b9⟩:=x3;refine jO rfl (qY bf (gBh a7)) ?_;refine goY ?_;obtain⟨x4,a8,h⟩:=gJ h;obtain⟨bg,a8⟩:=gAz a8;obtain⟨bh,bi,⟨au,av,aw⟩,ai,bj,bk,⟨ax,ay,a4⟩,bl⟩:=x4;refine jO rfl (qY bg (gGz a8)) ?_;refine goY ?_;refine kX ?_;refine goL ?_;obtain⟨⟨aj,bm⟩,bu,h⟩:=gJ h;refine jK (gG (gVa _ _ bu)) ?_;refine gAc (jU TBd.h TZ.h rfl (by repeat constructor)) ?_;refine noB ?_;refine uO 51 5 5 4 rfl rfl (by repeat constructor) (by repeat constructor) (by repeat constructor) (by repeat constructor) ?_;show V _ _ _ _ _;refine yP 4 5 (fun z9=>?_);refine kV (fun(y8:Nat)(y6:List gI)(v7:Nat)=>⟨[(1,.L 6 (jW a1)),(3,.I a3),(4,.ptr 0 0),(8,.ptr 2 0),(12,.ptr 4 0),(13,.L 4 (jY aj)),(15,.ptr 5 0),(16,.N y8)],[bPr a5,bBd bd ap aq ar,.box [.I 0,.I 0,.I 0,.I 0,.nilsl],.box [.I ab,.I ac],bIn bh bi au av aw ai bj bk ax ay a4 bl,.box [.I 1,.I 0,.I ab,.I ac,.sl 6 v7],.arr 51 5 v7 (jP y6)],Tryz.f79.ntmps⟩) (fun y8 y6 v7=>gBx c (gM.mk a5) a1 a3 ((gF.mk ab ac),be) (aj,bm) (ai.drop y8) y6=some r) (fun y8 y6 v7=>ai.length - y8) 0 [] 0 eJ h ?_;rintro y8 y6 v7 h;refine goL ?_;refine mQ (fun a9=>?_) (fun a9=>?_)
  ·have ah:=vF a9;obtain⟨bv,a6,ba⟩:=drop_at ah;rw [ba,gBx.eq_2] at h;obtain⟨bw,⟨ak,al,am⟩⟩:=bv;refine noS ?_;refine kH (jE ?_);refine jL (P:=Tryz.prog) Mix.h [(0,true),(1,true),(2,true),(3,true),(4,true),(5,true),(6,true),(7,true),(8,true),(9,true),(10,true),(11,true),(12,true),(13,true),(14,true),(15,true),(16,true),(17,true),(18,true),(19,true),(20,true),(21,true),(22,true),(23,false),(24,false),(25,true)] (by kernel_rfl) ?_;refine goY ?_;refine jO rfl (jM y8 (gDi a6)) ?_;refine goY ?_;refine jO rfl (jM y8 (gDi a6)) ?_;refine goY ?_;obtain⟨bx,h⟩:=pO h;obtain⟨⟨bz,b0,b1⟩,bn,h⟩:=qW h;have sx13:=(hGg aj (gB.mk ak al am) bx).p;rw [bn] at sx13;refine jO rfl (gG (sx13)) ?_;refine goY ?_;refine jO rfl (pV) ?_;obtain⟨⟨⟨ad,ae,⟨y,aa⟩,ag⟩,b2⟩,bo,h⟩:=gJ h;refine jO rfl (gG (q _ _ _ _ bo)) ?_;refine goY ?_;refine kX ?_;refine goC h ?_ ?_<;>intro cc h
   ·refine goL ?_;refine yS (jU TBd.h TZ.h rfl (by repeat constructor)) ?_;exact goR h
   ·refine goS ?_;refine uQ (u:=(.st [.i .i64 ad,.i .i64 ae,.st [.i .i64 y,.i .i64 aa],.sl 5 (jP ag)])) ?_;obtain⟨b3,h⟩:=pO h;refine gAi b3 ?_;refine goL ?_;refine jK (kD y8 (by omega)) ?_;exact⟨(y8+1),(y6++[(gI.mk ad ae (gF.mk y aa) ag)]),(v7+1),h,by omega,eJ⟩
  ·have ah:=vG a9;rw [jH ah,gBx.eq_1] at h;refine goX ?_;refine gW 6 rfl rfl ?_;refine jG ?_;cases h;exact uA
def gIb(c:gM→(List jI)→gT→Int→Option (gI × Int))(f:gM→(List jI)→gT→Int→Option (gI × Int))(a0:gM)(a1:List jI)(a2:gT)(a3:Int):Option (gI × Int):=
(cnd (decide ((yN a1 a2)≥0)) (
bnd (at? a1 (yN a1 a2)) fun x2=>
bnd (gAl (gI.mk 2 x2.from_ (gF.mk 0 0) []) x2.steps) fun x3=>
(some (x3,0))) (
(cnd (decide (a3≤0)) (
(some ((gI.mk 0 0 (gF.mk 0 0) []),3))) (
lt_ (uD a0 a2.trait) fun x5=>
(cnd x5.1.auto (
none) (
lt_ ((cnd (a2.type_.kind==1) (true) ((a2.type_.kind==3)))) fun b7=>
(cnd b7 (
(some ((gI.mk 0 0 (gF.mk 0 0) []),1))) (
(cnd (a2.type_.kind==4) (
bnd (vS a0 a2.type_.name a2.trait) fun h=>
(cnd h.2 (
bnd (gAl (gI.mk 4 0 (gF.mk 0 0) []) h.1) fun ac=>
(some (ac,0))) (
bnd (c a0 a1 a2 a3) fun q=>
(some (q.1,q.2))))) (
bnd (c a0 a1 a2 a3) fun y=>
(some (y.1,y.2))))))))))))
theorem gYy{q}{c}(f:gP0 q)(ac:gK2 c)(a0:gM)(a1:List jI)(a2:gT)(a3:Int){r:gI × Int}(h:gIb q c a0 a1 a2 a3=some r):jF Tryz.prog 45 [.d (kW a0),.L 6 (jW a1),.d (wU a2),.I a3] [mF r.1,.i .i64 r.2]:=by
 obtain⟨al⟩:=a0;obtain⟨ad,⟨y,aa,ab⟩⟩:=a2;unfold gIb at h;refine SpI Tryz.func45 fun A _=>?_;refine goL ?_;refine jK (gG (gNg a1 (gT.mk ad (gB.mk y aa ab)))) ?_;refine mQ (fun c1=>?_) (fun c1=>?_)
 ·replace h:=kT c1 h;refine jL (P:=Tryz.prog) Mix.h [(0,true),(1,true),(2,true),(3,true),(4,true),(5,true),(6,true),(7,true),(8,true),(9,true),(10,true),(11,true),(12,false),(13,true)] (by kernel_rfl) ?_;refine goY ?_;obtain⟨x2,ae,h⟩:=gJ h;obtain⟨am,ae⟩:=gAz ae;obtain⟨⟨bi,⟨aw,ax,ay⟩⟩,a4,a5⟩:=x2;refine jO rfl (qY am (gG0 ae)) ?_;refine goY ?_;refine jO rfl (qY am (gG0 ae)) ?_;refine goY ?_;obtain⟨⟨b0,b1,⟨bj,bk⟩,b2⟩,bo,h⟩:=gJ h;refine jO rfl (gG ((gGx (gI.mk 2 a4 (gF.mk 0 0) []) a5 bo).p)) ?_;refine goY ?_;refine kX ?_;exact goR h
 ·replace h:=kU c1 h;refine goS ?_;refine mQ (fun c4=>?_) (fun c4=>?_)
  ·replace h:=kT c4 h;refine goL ?_;refine yS (jU TBd.h TZ.h rfl (by repeat constructor)) ?_;exact goR h
  ·replace h:=kU c4 h;refine goS ?_;obtain⟨⟨⟨ag,ah,ai,aj,ak⟩,b3,b4⟩,bq,h⟩:=qW h;have sx5:=gFk (gM.mk al) ad;rw [bq] at sx5;refine jK (gG (sx5)) ?_;refine mQ (fun c6=>?_) (fun c6=>?_)
   ·replace h:=kT c6 h;refine goL ?_;refine zS ?_;cases h
   ·replace h:=kU c6 h;refine goS ?_;obtain⟨b7,hb7,h⟩:=qW h;refine kC ⟨[(1,.L 6 (jW a1)),(3,.I a3),(4,.ptr 0 0),(6,.ptr 1 0),(8,.ptr 2 0),(66,.B b7)],[bPr al,bBd ad y aa ab,.box [.I 0,.I 0,.I 0,.I 0,.nilsl],bTr ag ah ai aj ak],Tryz.f45.ntmps⟩ ?_ ?_
    ·exact gqZ 61 hb7
    refine goC h ?_ ?_<;>intro c9 h
    ·refine goL ?_;refine yS (jU TBd.h TZ.h rfl (by repeat constructor)) ?_;exact goR h
    ·refine goS ?_;refine mQ (fun an=>?_) (fun an=>?_)
     ·replace h:=kT an h;refine goL ?_;obtain⟨⟨ao,bt⟩,a6,h⟩:=gJ h;refine jK (gG (gIg _ _ _ a6)) ?_;refine mQ (fun ap=>?_) (fun ap=>?_)
      ·replace h:=kT ap h;refine goL ?_;refine gAc (jU TBd.h TZ.h rfl (by repeat constructor)) ?_;obtain⟨⟨bu,bv,⟨a7,a8⟩,bw⟩,a9,h⟩:=gJ h;refine qM (gG ((gGx (gI.mk 4 0 (gF.mk 0 0) []) ao a9).p)) ?_;exact goR h
      ·replace h:=kU ap h;refine goS ?_;obtain⟨⟨⟨ba,bb,⟨aq,ar⟩,bc⟩,bx⟩,bd,h⟩:=gJ h;refine qM (gG (f _ _ _ _ bd)) ?_;exact goR h
     ·replace h:=kU an h;refine goS ?_;obtain⟨⟨⟨be,bf,⟨au,av⟩,bg⟩,bz⟩,bh,h⟩:=gJ h;refine qM (gG (f _ _ _ _ bh)) ?_;exact goR h
mutual
def gKe:Nat→gM→(List jI)→gT→Int→Option (gI × Int)
 | 0,_,_,_,_=>none
 | n+1,c,f,h,q=>gMg (gKe n) (zZ n) c f h q
def zZ:Nat→gM→(List jI)→gT→Int→Option (gI × Int)
 | 0,_,_,_,_=>none
 | n+1,c,f,h,q=>gIb (gKe n) (zZ n) c f h q
end
theorem gYz:∀(n:Nat),gP0 (gKe n)∧gK2 (zZ n):=by
 intro n
 induction n with
 | zero=>exact⟨(by intro c f q y r h;cases h),(by intro c f q y r h;cases h)⟩
 | succ n ih=>
   obtain⟨ih0,ih1⟩:=ih;refine⟨(fun c f q y r h=>hAe ih0 ih1 c f q y h),(fun c f q y r h=>gYy ih0 ih1 c f q y h)⟩
theorem gY0:∀(n:Nat),gK2 (zZ n):=fun n=>(gYz n).2
def gAa(a0:gM)(y3:Nat)(x6:gT)(f:(List jI)→Option (List jI)):LS→(List jI)→Option (List jI)
 | [],c=>(f c)
 | h::xs,c=>bnd (vS a0 x6.trait h) fun q=>
gd (tok x6.type_) (lt_ (idT x6.type_) fun y=>
gd (c.length+[(jI.mk (gT.mk h y) (y3:Int) q.1)].length≤4294967296) (
gAa a0 y3 x6 f xs (c++[(jI.mk (gT.mk h y) (y3:Int) q.1)])))
def yO(q:gM):List gT→Nat→(List jI)→Option (List jI)
 | [],f,h=>(some h)
 | c::xs,f,h=>gd (tok c.type_) (lt_ (idT c.type_) fun x8=>
gd (h.length+[(jI.mk (gT.mk c.trait x8) (f:Int) [])].length≤4294967296) (
bnd (gEv q c.trait) fun y=>
gAa q f c (fun aa=>yO q xs (f+1) aa) y (h++[(jI.mk (gT.mk c.trait x8) (f:Int) [])])))
def gE7(c:gM)(a1:List gT):Option (List jI):=
yO c a1 0 []
theorem gRf(a0:gM)(a1:List gT){r:List jI}(h:gE7 a0 a1=some r):jF Tryz.prog 46 [.d (kW a0),.L 4 (jQ a1)] [.sl 6 (jW r)]:=by
 obtain⟨ad⟩:=a0;unfold gE7 at h;refine SpI Tryz.func46 fun A _=>?_;refine goL ?_;refine zS ?_;refine goL ?_;refine noB ?_;refine gCm 1 (fun z4=>?_);refine kV (fun(c:Nat)(y1:List jI)(v2:Nat)=>⟨[(1,.L 4 (jQ a1)),(2,.ptr 0 0),(5,.sl 1 v2),(6,.N c)],[bPr ad,.arr 139 6 v2 (jW y1)],Tryz.f46.ntmps⟩) (fun c y1 v2=>yO (gM.mk ad) (a1.drop c) c y1=some r) (fun c y1 v2=>a1.length - c) 0 [] 0 eJ h ?_;rintro c y1 v2 h;refine goL ?_;refine mQ (fun c5=>?_) (fun c5=>?_)
 ·have ae:=vF c5;obtain⟨x6,ai,ay⟩:=drop_at ae;rw [ay,yO.eq_2] at h;obtain⟨ah,⟨q,y,aa⟩⟩:=x6;refine noS ?_;refine kH (jE ?_);refine jL (P:=Tryz.prog) Mix.h [(0,true),(1,true),(2,true),(3,true),(4,true),(5,true),(6,true),(7,true),(8,true),(9,true),(10,true),(11,true),(12,true),(13,true),(14,true),(15,false),(16,false),(17,true)] (by kernel_rfl) ?_;refine goY ?_;refine jO rfl (jM c (gDi ai)) ?_;refine goY ?_;refine jO rfl (jM c (gDi ai)) ?_;refine goY ?_;obtain⟨g7,h⟩:=pO h;obtain⟨⟨aj,ak,al⟩,a9,h⟩:=qW h;have sx8:=(gAp (gB.mk q y aa) g7).p;rw [a9] at sx8;refine jO rfl (gG (sx8)) ?_;refine goY ?_;refine jT (T:=96) (us:=jW [(jI.mk (gT.mk ah (gB.mk aj ak al)) (c:Int) [])]) ?_;obtain⟨g9,h⟩:=pO h;refine jR (T:=96) g9 ?_;refine goY ?_;refine kX ?_;refine goL ?_;refine gCy (jM c (gDi ai)) ?_;refine goL ?_;obtain⟨ar,a3,h⟩:=gJ h;refine gCy (gG (gNv _ _ a3)) ?_;refine goL ?_;refine noB ?_;refine gCm 7 (fun bg=>?_);refine kV (fun(f:Nat)(ab:List jI)(ag:Nat)=>⟨[(1,.L 4 (jQ a1)),(2,.ptr 0 0),(5,.sl 1 ag),(6,.N c),(7,.L 1 (gP ar)),(8,.N f)],[bPr ad,.arr 139 6 ag (jW ab),.arr 139 6 0 (jW [(jI.mk (gT.mk ah (gB.mk aj ak al)) (c:Int) [])])],Tryz.f46.ntmps⟩) (fun f ab ag=>gAa (gM.mk ad) c (gT.mk ah (gB.mk q y aa)) (fun ab=>yO (gM.mk ad) (a1.drop (c+1)) (c+1) ab) (ar.drop f) ab=some r) (fun f ab ag=>ar.length - f) 0 (y1++[(jI.mk (gT.mk ah (gB.mk aj ak al)) (c:Int) [])]) (v2+1) eJ h ?_;rintro f ab ag h;refine goL ?_;refine mQ (fun au=>?_) (fun au=>?_)
  ·have ac:=vF au;obtain⟨a4,aq,av⟩:=drop_at ac;rw [av,gAa.eq_2] at h;refine noS ?_;refine kH (jE ?_);refine goL ?_;refine gCy (jM c (gDi ai)) ?_;refine goL ?_;refine gCy (jM f (gNp aq)) ?_;refine goL ?_;obtain⟨⟨am,ba⟩,a5,h⟩:=gJ h;refine gCy (gG (gIg _ _ _ a5)) ?_;refine gHi ?_;refine vP (P:=Tryz.prog) Mix.h [(0,true),(1,true),(2,true),(3,true),(4,true),(5,true),(6,true),(7,true),(8,true),(9,true),(10,true),(11,true),(12,true),(13,true),(14,true),(15,false),(16,false),(17,true)] (by kernel_rfl) ?_;refine goY ?_;refine jO rfl (jM f (gNp aq)) ?_;refine goY ?_;refine jO rfl (jM c (gDi ai)) ?_;refine goY ?_;obtain⟨bb,h⟩:=pO h;obtain⟨⟨an,ao,ap⟩,a6,h⟩:=qW h;have sx19:=(gAp (gB.mk q y aa) bb).p;rw [a6] at sx19;refine jO rfl (gG (sx19)) ?_;refine goY ?_;refine jT (T:=96) (us:=jW [(jI.mk (gT.mk a4 (gB.mk an ao ap)) (c:Int) am)]) ?_;obtain⟨bc,h⟩:=pO h;refine jR (T:=96) bc ?_;refine goY ?_;refine kX ?_;refine goL ?_;refine jK (kD f (by omega)) ?_;exact⟨(f+1),(ab++[(jI.mk (gT.mk a4 (gB.mk an ao ap)) (c:Int) am)]),(ag+1),h,by omega,eJ⟩
  ·have ac:=vG au;rw [jH ac,gAa.eq_1] at h;refine goX ?_;refine jK (kD c (by omega)) ?_;exact⟨(c+1),ab,ag,h,by omega,eJ⟩
 ·have ae:=vG c5;rw [jH ae,yO.eq_1] at h;refine goX ?_;refine gW 1 rfl rfl ?_;refine jG ?_;cases h;exact uA
def gDf(f:gM)(a1:LB):Option (mE × Int × Bool):=
lt_ (uD f a1) fun c=>
bnd (gNw c.1) fun h=>
(some (h,c.2.1,c.2.2))
theorem gUk(a0:gM)(a1:LB){r:mE × Int × Bool}(h:gDf a0 a1=some r):jF Tryz.prog 10 [.d (kW a0),.S a1] [gHg r.1,.i .i64 r.2.1,.b r.2.2]:=by
 obtain⟨c⟩:=a0;unfold gDf at h;refine SpI Tryz.func10 fun A _=>?_;refine goL ?_;obtain⟨⟨⟨f,q,y,aa,ab⟩,ag,ah⟩,ad,h⟩:=qW h;have sx1:=gFk (gM.mk c) a1;rw [ad] at sx1;refine jK (gG (sx1)) ?_;obtain⟨⟨ai,aj,ak,al,am⟩,ae,h⟩:=gJ h;refine qM (gG (gZe _ ae)) ?_;exact goR h
def gA3(c:gM)(a1:List gT)(a2:gI)(f:gT):Option (Bool):=
bnd (vB 5000 a2) fun h=>
bnd ((cnd h (bnd (gA2 5000 a2) fun q=>
(cnd (decide (q≤24)) (bnd (vO 5000 c a1 a2 f) fun y=>
(some y)) ((some false)))) ((some false)))) fun b2=>
(some b2)
theorem gOf(a0:gM)(a1:List gT)(a2:gI)(a3:gT){r:Bool}(h:gA3 a0 a1 a2 a3=some r):jF Tryz.prog 11 [.d (kW a0),.L 4 (jQ a1),.d (mF a2),.d (wU a3)] [.b r]:=by
 obtain⟨ab⟩:=a0;obtain⟨ac,ad,⟨c,f⟩,ae⟩:=a2;obtain⟨ag,⟨q,y,aa⟩⟩:=a3;unfold gA3 at h;refine SpI Tryz.func11 fun A _=>?_;refine goL ?_;obtain⟨x1,aj,h⟩:=gJ h;refine jK (gG (gMu _ _ aj)) ?_;obtain⟨b2,hb2,h⟩:=gJ h;refine kC ⟨[(8,.B b2)],[bPr ab,.box [.I ac,.I ad,.I c,.I f,.L 5 (jP ae)],bBd ag q y aa],Tryz.f11.ntmps⟩ ?_ ?_
 ·refine gqA 11 hb2 (fun c3 hb2=>?_);obtain⟨x4,ak,hb2⟩:=gJ hb2;refine jK (gG (gOe _ _ ak)) ?_;refine gqA 16 hb2 (fun c5 hb2=>?_);obtain⟨x6,al,hb2⟩:=gJ hb2;refine jK (gG (gNm _ _ _ _ _ al)) ?_;cases hb2;exact eJ
 exact goR h
def gMh(c:gM)(a1:List gT)(a2:gT):Option (gI × Int):=
bnd (gE7 c a1) fun h=>
bnd (zZ 5000 c h a2 12) fun f=>
(some (f.1,f.2))
theorem hEw(a0:gM)(a1:List gT)(a2:gT){r:gI × Int}(h:gMh a0 a1 a2=some r):jF Tryz.prog 25 [.d (kW a0),.L 4 (jQ a1),.d (wU a2)] [mF r.1,.i .i64 r.2]:=by
 obtain⟨ai⟩:=a0;obtain⟨aj,⟨q,y,aa⟩⟩:=a2;unfold gMh at h;refine SpI Tryz.func25 fun A _=>?_;refine gHi ?_;refine jL (P:=Tryz.prog) Mix.h [(0,true),(1,true),(2,true),(3,true),(4,true),(5,true),(6,true),(7,true),(8,false),(9,true)] (by kernel_rfl) ?_;refine goY ?_;obtain⟨x1,ag,h⟩:=gJ h;refine jO rfl (gG (gRf _ _ ag)) ?_;refine goY ?_;obtain⟨⟨⟨ab,ac,⟨c,f⟩,ad⟩,ak⟩,ah,h⟩:=gJ h;refine jO rfl (gG (gY0 _ _ _ _ _ ah)) ?_;refine goY ?_;refine kX ?_;exact goR h
end Go.Proofs.YtfpdlnkkcnmebaaGreat
