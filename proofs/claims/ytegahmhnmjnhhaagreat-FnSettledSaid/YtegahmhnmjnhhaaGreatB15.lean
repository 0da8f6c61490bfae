import Derived.Test.YtegahmhnmjnhhaaGreatB7
set_option maxHeartbeats 4000000
set_option linter.unusedVariables false
set_option linter.unusedSimpArgs false
set_option linter.unusedSectionVars false
namespace Go.Proofs.YtegahmhnmjnhhaaGreat
open Go Go.Eng
attribute [local irreducible] V VO VQ VY Quiet QR jC kT Rng mU mV mI
def gBg(c:List (List UInt8)):Option (gD):=
bnd (gNz c) fun f=>
(some (gD.mk [] f))
theorem uL(f:List (List UInt8)){r:gD}(h:gBg f=some r):jC Tryz.prog 206 [.L 1 (jP f)] [pF r]:=by
 unfold gBg at h;refine SpI Tryz.func206 fun A _=>?_;refine goL ?_;obtain⟨y,c,h⟩:=gP h;refine qI (gF (gXc _ c)) ?_;refine gAq (jU TBd.h TZ.h rfl (by repeat constructor)) ?_;exact goR h
def gDy:List gB→(List gD)→Option (List gD)
 | [],c=>(some c)
 | h::xs,c=>bnd (gMt 5000 h) fun f=>
gd (c.length+[f].length≤4294967296) (
gDy xs (c++[f]))
def gL6(c:List gB):Option (List gD):=
gDy c []
theorem gT0(a0:List gB){r:List gD}(h:gL6 a0=some r):jC Tryz.prog 207 [.L 3 (jJ a0)] [.sl 2 (jA r)]:=by
 unfold gL6 at h;refine SpI Tryz.func207 fun A _=>?_;refine goL ?_;refine gAl ?_;refine goL ?_;refine noB ?_;refine gBx 0 (fun z4=>?_);refine kS (fun(f:Nat) (y1:List gD) (v2:Nat)=>⟨[(0,.L 3 (jJ a0)),(3,.sl 0 v2),(4,.N f)],[.arr 135 2 v2 (jA y1)],Tryz.f207.ntmps⟩) (fun f y1 v2=>gDy (a0.drop f) y1=some r) (fun f y1 v2=>a0.length - f) 0 [] 0 eJ h ?_;rintro f y1 v2 h;refine goL ?_;refine kX (fun c5=>?_) (fun c5=>?_)
 ·have c:=uR c5;obtain⟨x6,ah,ae⟩:=drop_at c;rw [ae,gDy.eq_2] at h;obtain⟨aj,ak,al⟩:=x6;refine noS ?_;refine jW (jE ?_);refine goL ?_;refine jL (jM f (zL ah)) ?_;obtain⟨⟨y,aa⟩,ai,h⟩:=gP h;refine qI (gF (gKo _ _ ai)) ?_;refine gAk (u:=(.st [.s y,.sl 2 (jA aa)])) ?_;obtain⟨g8,h⟩:=mW h;refine gBd g8 ?_;refine goL ?_;refine jL (jR f (by omega)) ?_;exact⟨(f+1),(y1++[(gD.mk y aa)]),(v2+1),h,by omega,eJ⟩
 ·have c:=uS c5;rw [jF c,gDy.eq_1] at h;refine goX ?_;refine kN 0 rfl rfl ?_;refine jK ?_;cases h;exact qA
def gFd(c:kJ→Option (gD)):List kJ→(List gD)→Option (List UInt8 × List gD)
 | [],f=>(some ([],f))
 | y::xs,f=>bnd (c y) fun h=>
gd (f.length+[h].length≤4294967296) (
gFd c xs (f++[h]))
def gRh(f:(List gD)→(List kJ)→Option (List UInt8 × List gD))(c:kJ→Option (gD))(h:List gD)(list:List kJ):Option (List UInt8 × List gD):=
gFd c list h
def gRi(c:(List gD)→(List kJ)→Option (List UInt8 × List gD)):Prop:=∀(h:List gD) (y:List kJ) (f:Nat) {r:List UInt8 × List gD},c h y=some r→Go.Eng.Spec Tryz.prog 229 [.sl 0 f,.L 9 (gB8 y)] [.arr 135 2 f (jA h)] (fun sv Lo=>sv=.ag [.S r.1,.sl 0 (f+1)]∧Lo=[.arr 135 2 (f+1) (jA r.2)])
def gVb(c:kJ→Option (gD)):Prop:=∀(f:kJ) {r:gD},c f=some r→jC Tryz.prog 209 [.d (gCx f)] [pF r]
theorem hF8{f}{c}(ab:gRi f)(y:gVb c)(l0:List gD)(list:List kJ)(v0:Nat){r:List UInt8 × List gD}(h:gRh f c l0 list=some r):Go.Eng.Spec Tryz.prog 229 [.sl 0 v0,.L 9 (gB8 list)] [.arr 135 2 v0 (jA l0)] (fun sv Lo=>sv=.ag [.S r.1,.sl 0 (v0+1)]∧Lo=[.arr 135 2 (v0+1) (jA r.2)]):=by
 unfold gRh at h;refine Spec.verF (g:=fun v'=>.ag [.S r.1,.sl 0 v']) ?_ (fun _ _ _ _ _ hh=>hUy hh);refine kM 1 Tryz.func229 rfl (by kernel_rfl) rfl rfl fun A _=>?_;refine goL ?_;refine gBn (jU TBd.h TZ.h rfl (by repeat constructor)) ?_;refine noB ?_;refine gBx 1 (fun z4=>?_);refine kS (fun(y3:Nat) (y1:List gD) (v2:Nat)=>⟨[(1,.L 9 (gB8 list)),(4,.ptr 1 0),(5,.ptr 2 0),(6,.N y3)],[.arr 135 2 v2 (jA y1),.box [.S [],.nilsl],.box [.S [],.sl 0 v2]],Tryz.f229.ntmps⟩) (fun y3 y1 v2=>gFd c (list.drop y3) y1=some r) (fun y3 y1 v2=>list.length - y3) 0 l0 v0 eJ h ?_;rintro y3 y1 v2 h;refine goL ?_;refine kX (fun c5=>?_) (fun c5=>?_)
 ·have aa:=uR c5;obtain⟨x6,aq,ak⟩:=drop_at aa;rw [ak,gFd.eq_2] at h;obtain⟨au,av,aw,ax,⟨al,am,an⟩,ay,a0⟩:=x6;refine noS ?_;refine jW (jE ?_);refine uF (P:=Tryz.prog) Mix.h [(0,true),(1,true),(2,true),(3,true),(4,true),(5,true),(6,true),(7,false),(8,false),(9,true),(10,false)] (by kernel_rfl) ?_;refine goY ?_;refine jI rfl (jM y3 (gZ3 aq)) ?_;refine goY ?_;obtain⟨⟨ae,ah⟩,ar,h⟩:=gP h;refine jI rfl (gF (y _ ar)) ?_;refine qE (T:=133) (us:=jA [(gD.mk ae ah)]) ?_;obtain⟨g8,h⟩:=mW h;refine pV (T:=133) g8 ?_;refine goY ?_;refine kQ ?_;refine goL ?_;refine jL (jR y3 (by omega)) ?_;exact⟨(y3+1),(y1++[(gD.mk ae ah)]),(v2+1),h,by omega,eJ⟩
 ·have aa:=uS c5;rw [jF aa,gFd.eq_1] at h;refine goX ?_;refine jK ?_;obtain rfl:=Option.some.inj h;exact zB [.ag [.S [],.sl 0 v2]] [.arr 135 2 v2 (jA y1)] ⟨v2,rfl,rfl⟩
def gI6(c:kJ→Option (gD))(ac:List UInt8 × List gD):List gOv→(List gD)→Option (gD)
 | [],f=>(some (gD.mk ac.1 f))
 | aa::xs,f=>lt_ (mG aa.constructor) fun h=>
bnd (gNz aa.vars) fun y=>
gd ([h].length+y.length≤4294967296) (
bnd (c aa.body) fun ab=>
gd (([h]++y).length+[ab].length≤4294967296) (
gd (f.length+[(gD.mk [] (([h]++y)++[ab]))].length≤4294967296) (
gI6 c ac xs (f++[(gD.mk [] (([h]++y)++[ab]))]))))
def gZl(c:(List gD)→(List kJ)→Option (List UInt8 × List gD))(h:kJ→Option (gD))(f:kJ):Option (gD):=
(cnd (f.kind==1) (
gd (gF7 f.n) (lt_ (mG (Lib.itoa f.n)) fun x3=>
(some x3))) (
(cnd (f.kind==2) (
bnd (at? [[102,97,108,115,101],[116,114,117,101]] f.n) fun x5=>
lt_ (mG x5) fun x6=>
(some x6)) (
(cnd (f.kind==3) (
lt_ (mG f.name) fun x8=>
(some x8)) (
(cnd (f.kind==4) (
lt_ (mG [99,97,108,108]) fun aj=>
lt_ (mG f.name) fun ak=>
bnd (c [aj,ak] f.args) fun y=>
(some (gD.mk y.1 y.2))) (
(cnd (f.kind==5) (
lt_ (mG [109,101,116,104,111,100]) fun al=>
lt_ (mG f.trait) fun am=>
lt_ (mG f.name) fun an=>
bnd (c [al,am,an] f.args) fun aa=>
(some (gD.mk aa.1 aa.2))) (
(cnd (f.kind==6) (
lt_ (mG [110,101,119]) fun ao=>
lt_ (mG f.name) fun ap=>
bnd (c [ao,ap] f.args) fun ab=>
(some (gD.mk ab.1 ab.2))) (
(cnd (f.kind==8) (
lt_ (mG [108,101,116]) fun aq=>
lt_ (mG f.name) fun ar=>
bnd (c [aq,ar] f.args) fun ac=>
(some (gD.mk ac.1 ac.2))) (
(cnd (f.kind==9) (
lt_ (mG [105,102]) fun au=>
bnd (c [au] f.args) fun ad=>
(some (gD.mk ad.1 ad.2))) (
(cnd (f.kind==10) (
lt_ (mG f.name) fun av=>
bnd (c [av] f.args) fun ae=>
(some (gD.mk ae.1 ae.2))) (
(cnd (f.kind==11) (
lt_ (mG [112,97,99,107]) fun aw=>
lt_ (mG f.trait) fun ax=>
bnd (c [aw,ax] f.args) fun ag=>
(some (gD.mk ag.1 ag.2))) (
(cnd (f.kind==12) (
lt_ (mG [116,104,101]) fun ay=>
bnd (gMt 5000 f.type_) fun a3=>
bnd (c [ay,a3] f.args) fun ah=>
(some (gD.mk ah.1 ah.2))) (
lt_ (mG [99,97,115,101]) fun a4=>
bnd (c [a4] f.args) fun ai=>
gI6 h ai f.arms ai.2))))))))))))))))))))))
theorem hQc{ak}{aj}(c:gRi ak)(ar:gVb aj)(a0:kJ){r:gD}(h:gZl ak aj a0=some r):jC Tryz.prog 209 [.d (gCx a0)] [pF r]:=by
 obtain⟨ai,ad,ac,ae,⟨y,aa,ab⟩,f,ah⟩:=a0;unfold gZl at h;refine SpI Tryz.func209 fun A _=>?_;refine goL ?_;refine jE ?_;refine goC h ?_ ?_<;>intro c1 h
 ·refine goL ?_;obtain⟨g2,h⟩:=mW h;refine qI (gF (gLu ae g2)) ?_;obtain⟨⟨d2,d3⟩,du,h⟩:=qB h;have sx3:=mM (Lib.itoa ae);rw [du] at sx3;refine qI (gF (sx3)) ?_;exact goR h
 ·refine goC h ?_ ?_<;>intro c4 h
  ·refine goL ?_;refine gSp (us:=jP [[102,97,108,115,101],[116,114,117,101]]) ?_;refine goL ?_;obtain⟨x5,b1,h⟩:=gP h;obtain⟨co,b1⟩:=gEd b1;refine gAq (hI5 co (List.getElem?_eq_some_iff.1 b1).1) ?_;refine gAq (hQ6 b1) ?_;obtain⟨⟨d4,d5⟩,dv,h⟩:=qB h;have sx6:=mM x5;rw [dv] at sx6;refine qI (gF (sx6)) ?_;exact goR h
  ·refine goC h ?_ ?_<;>intro c7 h
   ·refine goL ?_;obtain⟨⟨d6,d7⟩,dw,h⟩:=qB h;have sx8:=mM ac;rw [dw] at sx8;refine qI (gF (sx8)) ?_;exact goR h
   ·refine goC h ?_ ?_<;>intro c9 h
    ·refine jO (P:=Tryz.prog) Mix.h [(0,true),(1,true),(2,true),(3,true),(5,true),(6,true),(4,false),(7,false),(8,false)] (by kernel_rfl) ?_;obtain⟨⟨a4,a5⟩,cp,h⟩:=qB h;have sx10:=mM [99,97,108,108];rw [cp] at sx10;refine jI rfl (gF (sx10)) ?_;refine goY ?_;obtain⟨⟨a6,a7⟩,cq,h⟩:=qB h;have sx11:=mM ac;rw [cq] at sx11;refine jI rfl (gF (sx11)) ?_;refine goY ?_;refine qE (T:=133) (us:=jA [(gD.mk a4 a5),(gD.mk a6 a7)]) ?_;obtain⟨⟨b2,b3⟩,cr,h⟩:=gP h;refine vH (sv:=.ag [.S b2,.sl 2 (0+1)]) (L':=[bEx ai ad ac ae y aa ab f ah,.box [.S [],.nilsl],.arr 135 2 (0+1) (jA b3)]) [2] (c [(gD.mk a4 a5),(gD.mk a6 a7)] f 0 cr) ?_;refine goY ?_;refine kQ ?_;refine goL ?_;refine kN 2 rfl rfl ?_;refine jK ?_;cases h;exact qA
    ·refine goC h ?_ ?_<;>intro ea h
     ·refine jO (P:=Tryz.prog) Mix.h [(0,true),(1,true),(2,true),(3,true),(4,true),(5,true),(6,true),(8,true),(9,true),(7,false),(10,false),(11,false)] (by kernel_rfl) ?_;obtain⟨⟨a8,a9⟩,cs,h⟩:=qB h;have sx14:=mM [109,101,116,104,111,100];rw [cs] at sx14;refine jI rfl (gF (sx14)) ?_;refine goY ?_;obtain⟨⟨ba,bb⟩,ct,h⟩:=qB h;have sx15:=mM ad;rw [ct] at sx15;refine jI rfl (gF (sx15)) ?_;refine goY ?_;obtain⟨⟨bc,bd⟩,cu,h⟩:=qB h;have sx16:=mM ac;rw [cu] at sx16;refine jI rfl (gF (sx16)) ?_;refine goY ?_;refine qE (T:=133) (us:=jA [(gD.mk a8 a9),(gD.mk ba bb),(gD.mk bc bd)]) ?_;obtain⟨⟨b4,b5⟩,cv,h⟩:=gP h;refine vH (sv:=.ag [.S b4,.sl 2 (0+1)]) (L':=[bEx ai ad ac ae y aa ab f ah,.box [.S [],.nilsl],.arr 135 2 (0+1) (jA b5)]) [2] (c [(gD.mk a8 a9),(gD.mk ba bb),(gD.mk bc bd)] f 0 cv) ?_;refine goY ?_;refine kQ ?_;refine goL ?_;refine kN 2 rfl rfl ?_;refine jK ?_;cases h;exact qA
     ·refine goC h ?_ ?_<;>intro eb h
      ·refine jO (P:=Tryz.prog) Mix.h [(0,true),(1,true),(2,true),(3,true),(5,true),(6,true),(4,false),(7,false),(8,false)] (by kernel_rfl) ?_;obtain⟨⟨be,bf⟩,cw,h⟩:=qB h;have sx19:=mM [110,101,119];rw [cw] at sx19;refine jI rfl (gF (sx19)) ?_;refine goY ?_;obtain⟨⟨bg,bh⟩,cx,h⟩:=qB h;have sx20:=mM ac;rw [cx] at sx20;refine jI rfl (gF (sx20)) ?_;refine goY ?_;refine qE (T:=133) (us:=jA [(gD.mk be bf),(gD.mk bg bh)]) ?_;obtain⟨⟨b6,b7⟩,cy,h⟩:=gP h;refine vH (sv:=.ag [.S b6,.sl 2 (0+1)]) (L':=[bEx ai ad ac ae y aa ab f ah,.box [.S [],.nilsl],.arr 135 2 (0+1) (jA b7)]) [2] (c [(gD.mk be bf),(gD.mk bg bh)] f 0 cy) ?_;refine goY ?_;refine kQ ?_;refine goL ?_;refine kN 2 rfl rfl ?_;refine jK ?_;cases h;exact qA
      ·refine goC h ?_ ?_<;>intro ec h
       ·refine jO (P:=Tryz.prog) Mix.h [(0,true),(1,true),(2,true),(3,true),(5,true),(6,true),(4,false),(7,false),(8,false)] (by kernel_rfl) ?_;obtain⟨⟨bi,bj⟩,cz,h⟩:=qB h;have sx23:=mM [108,101,116];rw [cz] at sx23;refine jI rfl (gF (sx23)) ?_;refine goY ?_;obtain⟨⟨bk,bl⟩,c0,h⟩:=qB h;have sx24:=mM ac;rw [c0] at sx24;refine jI rfl (gF (sx24)) ?_;refine goY ?_;refine qE (T:=133) (us:=jA [(gD.mk bi bj),(gD.mk bk bl)]) ?_;obtain⟨⟨b8,b9⟩,c2,h⟩:=gP h;refine vH (sv:=.ag [.S b8,.sl 2 (0+1)]) (L':=[bEx ai ad ac ae y aa ab f ah,.box [.S [],.nilsl],.arr 135 2 (0+1) (jA b9)]) [2] (c [(gD.mk bi bj),(gD.mk bk bl)] f 0 c2) ?_;refine goY ?_;refine kQ ?_;refine goL ?_;refine kN 2 rfl rfl ?_;refine jK ?_;cases h;exact qA
       ·refine goC h ?_ ?_<;>intro ed h
        ·refine jO (P:=Tryz.prog) Mix.h [(0,true),(2,true),(3,true),(1,false),(4,false),(5,false)] (by kernel_rfl) ?_;obtain⟨⟨bm,bn⟩,c3,h⟩:=qB h;have sx27:=mM [105,102];rw [c3] at sx27;refine jI rfl (gF (sx27)) ?_;refine goY ?_;refine qE (T:=133) (us:=jA [(gD.mk bm bn)]) ?_;obtain⟨⟨ca,cb⟩,c5,h⟩:=gP h;refine vH (sv:=.ag [.S ca,.sl 2 (0+1)]) (L':=[bEx ai ad ac ae y aa ab f ah,.box [.S [],.nilsl],.arr 135 2 (0+1) (jA cb)]) [2] (c [(gD.mk bm bn)] f 0 c5) ?_;refine goY ?_;refine kQ ?_;refine goL ?_;refine kN 2 rfl rfl ?_;refine jK ?_;cases h;exact qA
        ·refine goC h ?_ ?_<;>intro ee h
         ·refine jO (P:=Tryz.prog) Mix.h [(0,true),(1,true),(2,true),(4,true),(5,true),(3,false),(6,false),(7,false)] (by kernel_rfl) ?_;refine goY ?_;obtain⟨⟨bo,bp⟩,c6,h⟩:=qB h;have sx30:=mM ac;rw [c6] at sx30;refine jI rfl (gF (sx30)) ?_;refine goY ?_;refine qE (T:=133) (us:=jA [(gD.mk bo bp)]) ?_;obtain⟨⟨cc,cd⟩,c8,h⟩:=gP h;refine vH (sv:=.ag [.S cc,.sl 2 (0+1)]) (L':=[bEx ai ad ac ae y aa ab f ah,.box [.S [],.nilsl],.arr 135 2 (0+1) (jA cd)]) [2] (c [(gD.mk bo bp)] f 0 c8) ?_;refine goY ?_;refine kQ ?_;refine goL ?_;refine kN 2 rfl rfl ?_;refine jK ?_;cases h;exact qA
         ·refine goC h ?_ ?_<;>intro ef h
          ·refine jO (P:=Tryz.prog) Mix.h [(0,true),(1,true),(2,true),(3,true),(5,true),(6,true),(4,false),(7,false),(8,false)] (by kernel_rfl) ?_;obtain⟨⟨bq,br⟩,da,h⟩:=qB h;have sx33:=mM [112,97,99,107];rw [da] at sx33;refine jI rfl (gF (sx33)) ?_;refine goY ?_;obtain⟨⟨bt,bu⟩,db,h⟩:=qB h;have sx34:=mM ad;rw [db] at sx34;refine jI rfl (gF (sx34)) ?_;refine goY ?_;refine qE (T:=133) (us:=jA [(gD.mk bq br),(gD.mk bt bu)]) ?_;obtain⟨⟨ce,cf⟩,dc,h⟩:=gP h;refine vH (sv:=.ag [.S ce,.sl 2 (0+1)]) (L':=[bEx ai ad ac ae y aa ab f ah,.box [.S [],.nilsl],.arr 135 2 (0+1) (jA cf)]) [2] (c [(gD.mk bq br),(gD.mk bt bu)] f 0 dc) ?_;refine goY ?_;refine kQ ?_;refine goL ?_;refine kN 2 rfl rfl ?_;refine jK ?_;cases h;exact qA
          ·refine goC h ?_ ?_<;>intro eg h
           ·refine jO (P:=Tryz.prog) Mix.h [(0,true),(1,true),(2,true),(3,true),(5,true),(6,true),(4,false),(7,false),(8,false)] (by kernel_rfl) ?_;obtain⟨⟨bv,bw⟩,dd,h⟩:=qB h;have sx37:=mM [116,104,101];rw [dd] at sx37;refine jI rfl (gF (sx37)) ?_;refine goY ?_;obtain⟨⟨bx,bz⟩,de,h⟩:=gP h;refine jI rfl (gF (gKo _ _ de)) ?_;refine goY ?_;refine qE (T:=133) (us:=jA [(gD.mk bv bw),(gD.mk bx bz)]) ?_;obtain⟨⟨cg,ch⟩,df,h⟩:=gP h;refine vH (sv:=.ag [.S cg,.sl 2 (0+1)]) (L':=[bEx ai ad ac ae y aa ab f ah,.box [.S [],.nilsl],.arr 135 2 (0+1) (jA ch)]) [2] (c [(gD.mk bv bw),(gD.mk bx bz)] f 0 df) ?_;refine goY ?_;refine kQ ?_;refine goL ?_;refine kN 2 rfl rfl ?_;refine jK ?_;cases h;exact qA
           ·refine noS ?_;obtain⟨⟨an,ao⟩,dg,h⟩:=qB h;have sx40:=mM [99,97,115,101];rw [dg] at sx40;obtain⟨⟨al,am⟩,b0,h⟩:=gP h;refine qH (P:=Tryz.prog) Mix.h (.q 0 (.q 2 (.q 3 (.h 1 (.h 4 (.h 5 (.h 6 .nil .nil) .nil) (.h 5 (.h 4 (.h 6 .nil .nil) .nil) .nil)) (.h 5 (.h 1 (.h 4 (.h 6 .nil .nil) .nil) .nil) .nil))))) ⟨[(1,.ptr 0 0),(2,.ptr 1 0),(3,.ptr 3 0)],[bEx ai ad ac ae y aa ab f ah,.box [.S [],.nilsl],.arr 135 2 (0+1) (jA am),.box [.S al,.sl 2 (0+1)]],Tryz.f209.ntmps⟩ (by kernel_rfl) ?_ ?_
            ·refine gAt (jI rfl (gF (sx40)) jX) ?_;refine goT ?_;refine vW (qE (T:=133) (us:=jA [(gD.mk an ao)]) jX) ?_ ?_
             ·refine vW (vH (sv:=.ag [.S al,.sl 2 (0+1)]) (L':=[bEx ai ad ac ae y aa ab f ah,.box [.S [],.nilsl],.arr 135 2 (0+1) (jA am)]) [2] (c [(gD.mk an ao)] f 0 b0) jX) ?_ ?_
              ·refine goT ?_;refine jY ?_;exact uK 0 [0,1,2,3]
              refine goT ?_;refine jV (vH (sv:=.ag [.S al,.sl 2 (0+1)]) (L':=[bEx ai ad ac ae y aa ab f ah,.box [.S [],.nilsl],.arr 135 2 (0+1) (jA am),.box [.S [],.nilsl]]) [2] (c [(gD.mk an ao)] f 0 b0) jX) ?_;refine goT ?_;refine jY ?_;exact uK 0 [0,1,2,3]
             refine goT ?_;refine jV (qE (T:=133) (us:=jA [(gD.mk an ao)]) jX) ?_;refine jV (vH (sv:=.ag [.S al,.sl 3 (0+1)]) (L':=[bEx ai ad ac ae y aa ab f ah,.box [.S [],.nilsl],.box [.S [],.nilsl],.arr 135 2 (0+1) (jA am)]) [3] (c [(gD.mk an ao)] f 0 b0) jX) ?_;refine goT ?_;refine jY ?_;exact uK 0 [0,1,3,2]
            refine goL ?_;refine noB ?_;refine wN 0 8 (fun eh=>?_);refine kS (fun(ap:Nat) (ay:List gD) (a3:Nat)=>⟨[(1,.ptr 0 0),(2,.ptr 1 0),(3,.ptr 3 0),(4,.N ap)],[bEx ai ad ac ae y aa ab f ah,.box [.S [],.nilsl],.arr 135 2 a3 (jA ay),.box [.S al,.sl 2 a3]],Tryz.f209.ntmps⟩) (fun ap ay a3=>gI6 aj (al,am) (ah.drop ap) ay=some r) (fun ap ay a3=>ah.length - ap) 0 am (0+1) eJ h ?_;rintro ap ay a3 h;refine goL ?_;refine kX (fun ci=>?_) (fun ci=>?_)
            ·have aq:=uR ci;obtain⟨dx,dh,cj⟩:=drop_at aq;rw [cj,gI6.eq_2] at h;obtain⟨ck,dy,⟨di,dj,dk,dl,⟨cl,cm,cn⟩,dm,dn⟩⟩:=dx;refine noS ?_;refine jW (jE ?_);refine goL ?_;refine qI (jM ap (hH4 dh)) ?_;refine gH2 ?_;refine jO (P:=Tryz.prog) Mix.h [(0,true),(1,true),(2,true),(4,true),(5,true),(6,true),(3,false),(7,false),(8,true)] (by kernel_rfl) ?_;refine goY ?_;obtain⟨⟨au,av⟩,dp,h⟩:=qB h;have sx48:=mM ck;rw [dp] at sx48;refine jI rfl (gF (sx48)) ?_;refine goY ?_;obtain⟨dq,dr,h⟩:=gP h;refine jI rfl (gF (gXc _ dr)) ?_;refine qE (T:=133) (us:=jA [(gD.mk au av)]) ?_;obtain⟨dz,h⟩:=mW h;refine pV (T:=133) dz ?_;refine goY ?_;refine kQ ?_;refine gH2 ?_;refine uF (P:=Tryz.prog) Mix.h [(0,true),(1,true),(2,true),(3,true),(4,true),(5,true),(6,false),(7,false),(8,true),(9,false),(10,false),(11,true),(12,false)] (by kernel_rfl) ?_;refine goY ?_;obtain⟨⟨aw,ax⟩,ds,h⟩:=gP h;refine jI rfl (gF (ar _ ds)) ?_;refine qE (T:=133) (us:=jA [(gD.mk aw ax)]) ?_;obtain⟨d0,h⟩:=mW h;refine pV (T:=133) d0 ?_;refine goY ?_;refine gBe 5 rfl rfl ?_;refine qE (T:=133) (us:=jA [(gD.mk [] (([(gD.mk au av)]++dq)++[(gD.mk aw ax)]))]) ?_;obtain⟨d1,h⟩:=mW h;refine pV (T:=133) d1 ?_;refine goY ?_;refine kQ ?_;refine goL ?_;refine jL (jR ap (by omega)) ?_;exact⟨(ap+1),(ay++[(gD.mk [] (([(gD.mk au av)]++dq)++[(gD.mk aw ax)]))]),(a3+1),h,by omega,eJ⟩
            ·have aq:=uS ci;rw [jF aq,gI6.eq_1] at h;refine goX ?_;refine kN 2 rfl rfl ?_;refine jK ?_;cases h;exact qA
mutual
def gRj:Nat→(List gD)→(List kJ)→Option (List UInt8 × List gD)
 | 0,_,_=>none
 | n+1,c,f=>gRh (gRj n) (gM0 n) c f
def gM0:Nat→kJ→Option (gD)
 | 0,_=>none
 | n+1,c=>gZl (gRj n) (gM0 n) c
end
theorem hEf:∀(n:Nat),gRi (gRj n)∧gVb (gM0 n):=by
 intro n
 induction n with
 | zero=>exact⟨(by intro c f y r h;cases h),(by intro c r h;cases h)⟩
 | succ n ih=>
   obtain⟨ih0,ih1⟩:=ih;refine⟨(fun c f y r h=>hF8 ih0 ih1 c f y h),(fun c r h=>hQc ih0 ih1 c h)⟩
theorem gZm:∀(n:Nat),gVb (gM0 n):=fun n=>(hEf n).2
def gC2:List gD→(List gY)→Option (List gY)
 | [],c=>(some c)
 | f::xs,c=>bnd (qL f 0) fun h=>
bnd (qL f 1) fun x8=>
bnd (gMs 5000 x8) fun y=>
gd (c.length+[(gY.mk h.atom y)].length≤4294967296) (
gC2 xs (c++[(gY.mk h.atom y)]))
def gJo(c:gD):Option (List gY):=
gC2 c.list []
theorem gRk(a0:gD){r:List gY}(h:gJo a0=some r):jC Tryz.prog 172 [.d (pF a0)] [.sl 4 (kV r)]:=by
 obtain⟨ah,f⟩:=a0;unfold gJo at h;refine SpI Tryz.func172 fun A _=>?_;refine goL ?_;refine gAl ?_;refine goL ?_;refine noB ?_;refine wN 0 1 (fun z4=>?_);refine kS (fun(y:Nat) (y1:List gY) (v2:Nat)=>⟨[(1,.ptr 0 0),(3,.sl 1 v2),(4,.N y)],[bSx ah f,.arr 73 4 v2 (kV y1)],Tryz.f172.ntmps⟩) (fun y y1 v2=>gC2 (f.drop y) y1=some r) (fun y y1 v2=>f.length - y) 0 [] 0 eJ h ?_;rintro y y1 v2 h;refine goL ?_;refine kX (fun c5=>?_) (fun c5=>?_)
 ·have c:=uR c5;obtain⟨x6,ai,aj⟩:=drop_at c;rw [aj,gC2.eq_2] at h;obtain⟨aq,ar⟩:=x6;refine noS ?_;refine jW (jE ?_);refine uF (P:=Tryz.prog) Mix.h [(0,true),(1,true),(2,true),(3,true),(4,true),(5,true),(6,true),(7,true),(8,true),(9,true),(10,true),(11,true),(12,true),(13,true),(14,true),(15,true),(16,false),(17,false),(18,true)] (by kernel_rfl) ?_;refine goY ?_;refine jI rfl (jM y (uG ai)) ?_;refine goY ?_;obtain⟨⟨aa,au⟩,am,h⟩:=gP h;refine jI rfl (gF (qY _ _ am)) ?_;refine jI rfl (gIi) ?_;refine goY ?_;refine jI rfl (jM y (uG ai)) ?_;refine goY ?_;obtain⟨⟨av,aw⟩,an,h⟩:=gP h;refine jI rfl (gF (qY _ _ an)) ?_;obtain⟨⟨ab,ac,ad⟩,ao,h⟩:=gP h;refine jI rfl (gF (gPs _ _ ao)) ?_;refine goY ?_;refine qE (T:=27) (us:=kV [(gY.mk aa (gB.mk ab ac ad))]) ?_;obtain⟨ap,h⟩:=mW h;refine pV (T:=27) ap ?_;refine goY ?_;refine kQ ?_;refine goL ?_;refine jL (jR y (by omega)) ?_;exact⟨(y+1),(y1++[(gY.mk aa (gB.mk ab ac ad))]),(v2+1),h,by omega,eJ⟩
 ·have c:=uS c5;rw [jF c,gC2.eq_1] at h;refine goX ?_;refine kN 1 rfl rfl ?_;refine jK ?_;cases h;exact qA
def gDz:List gY→(List gD)→Option (gD)
 | [],c=>(some (gD.mk [] c))
 | f::xs,c=>lt_ (mG f.trait) fun y=>
bnd (gMt 5000 f.type_) fun x8=>
bnd (gIe [y,x8]) fun h=>
gd (c.length+[h].length≤4294967296) (
gDz xs (c++[h]))
def gL7(c:List gY):Option (gD):=
gDz c []
theorem gEo(a0:List gY){r:gD}(h:gL7 a0=some r):jC Tryz.prog 211 [.L 4 (kV a0)] [pF r]:=by
 unfold gL7 at h;refine SpI Tryz.func211 fun A _=>?_;refine goL ?_;refine gBn (jU TBd.h TZ.h rfl (by repeat constructor)) ?_;refine noB ?_;refine wT 135 2 1 1 rfl rfl (by repeat constructor) (by repeat constructor) (by repeat constructor) (by repeat constructor) ?_;show V _ _ _ _ _;refine gBx 0 (fun z4=>?_);refine kS (fun(f:Nat) (y1:List gD) (v2:Nat)=>⟨[(0,.L 4 (kV a0)),(2,.ptr 0 0),(3,.ptr 1 0),(4,.N f)],[.box [.S [],.nilsl],.box [.S [],.sl 2 v2],.arr 135 2 v2 (jA y1)],Tryz.f211.ntmps⟩) (fun f y1 v2=>gDz (a0.drop f) y1=some r) (fun f y1 v2=>a0.length - f) 0 [] 0 eJ h ?_;rintro f y1 v2 h;refine goL ?_;refine kX (fun c5=>?_) (fun c5=>?_)
 ·have c:=uR c5;obtain⟨x6,am,an⟩:=drop_at c;rw [an,gDz.eq_2] at h;obtain⟨ao,⟨y,aa,ab⟩⟩:=x6;refine noS ?_;refine jW (jE ?_);refine uF (P:=Tryz.prog) Mix.h [(0,true),(1,true),(2,true),(3,true),(4,true),(5,true),(6,true),(8,true),(9,true),(10,true),(11,true),(12,true),(7,false),(13,false),(14,false),(15,false),(16,false),(17,false),(18,true),(19,false)] (by kernel_rfl) ?_;refine goY ?_;refine jI rfl (jM f (gHm am)) ?_;refine goY ?_;refine jI rfl (jM f (gHm am)) ?_;refine goY ?_;obtain⟨⟨ac,ad⟩,aq,h⟩:=qB h;have sx7:=mM ao;rw [aq] at sx7;refine pW (sx7) ?_;obtain⟨⟨ae,ag⟩,ar,h⟩:=gP h;refine pW (gKo 5000 (gB.mk y aa ab) ar) ?_;refine qE (T:=133) (us:=jA [(gD.mk ac ad),(gD.mk ae ag)]) ?_;refine gBe 3 rfl rfl ?_;obtain⟨⟨ah,ai⟩,au,h⟩:=gP h;refine pW (gMd [(gD.mk ac ad),(gD.mk ae ag)] au) ?_;refine qE (T:=133) (us:=jA [(gD.mk ah ai)]) ?_;obtain⟨av,h⟩:=mW h;refine pV (T:=133) av ?_;refine goY ?_;refine kQ ?_;refine goL ?_;refine jL (jR f (by omega)) ?_;exact⟨(f+1),(y1++[(gD.mk ah ai)]),(v2+1),h,by omega,eJ⟩
 ·have c:=uS c5;rw [jF c,gDz.eq_1] at h;refine goX ?_;refine kN 2 rfl rfl ?_;refine jK ?_;cases h;exact qA
def gE5(c:jH):Option (List UInt8 × jH):=
bnd (gLe c) fun f=>
bnd (gC8 f.2 5) fun h=>
(cnd h.1 (
(some (f.1,h.2))) (
gd (f.1.length+([10]:List UInt8).length≤4294967296) (
bnd (gN0 h.2) fun y=>
gd ((f.1++([10]:List UInt8)).length+y.1.length≤4294967296) (
(some (((f.1++([10]:List UInt8))++y.1),y.2))))))
theorem gTo(c:jH){r:List UInt8 × jH}(h:gE5 c=some r):Go.Eng.Spec Tryz.prog 36 [.ptr 0 0] [bCu c.b c.i c.h] (fun sv Lo=>sv=.S r.1∧Lo=[bCu r.2.b r.2.i r.2.h]):=by
 obtain⟨ak,al,am⟩:=c;unfold gE5 at h;refine kM 1 Tryz.func36 rfl (by kernel_rfl) rfl rfl fun A _=>?_;refine goL ?_;obtain⟨⟨ai,⟨ab,ac,ad⟩⟩,an,h⟩:=gP h;refine gAr 0 (hGk (jH.mk ak al am) an) ?_;refine goL ?_;obtain⟨⟨aq,⟨f,y,aa⟩⟩,ao,h⟩:=gP h;refine gAr 0 (gIw (jH.mk ab ac ad) 5 ao) ?_;refine goC h ?_ ?_<;>intro c3 h
 ·refine goL ?_;refine jK ?_;obtain rfl:=Option.some.inj h;exact zB [.S ai] [bCu f y aa] ⟨rfl,rfl⟩
 ·refine goS ?_;obtain⟨g4,h⟩:=mW h;refine jL (wO g4) ?_;obtain⟨⟨aj,⟨ae,ag,ah⟩⟩,ap,h⟩:=gP h;refine gAr 0 (hMf (jH.mk f y aa) ap) ?_;obtain⟨g6,h⟩:=mW h;refine jL (wO g6) ?_;refine jK ?_;obtain rfl:=Option.some.inj h;exact zB [.d (.s ((ai++([10]:List UInt8))++aj))] [bCu ae ag ah] ⟨rfl,rfl⟩
def gBy(f:gI)(a1:List gY)(a2:gB):Option (gB × Int):=
bnd (mE 100000 f a1 a2 12) fun c=>
(some (c.1,c.2))
theorem gW5(a0:gI)(a1:List gY)(a2:gB){r:gB × Int}(h:gBy a0 a1 a2=some r):jC Tryz.prog 87 [.d (kR a0),.L 4 (kV a1),.d (jS a2)] [jS r.1,.i .i64 r.2]:=by
 obtain⟨ac⟩:=a0;obtain⟨ad,ae,ag⟩:=a2;unfold gBy at h;refine SpI Tryz.func87 fun A _=>?_;refine goL ?_;obtain⟨⟨⟨c,f,y⟩,ah⟩,ab,h⟩:=gP h;refine qI (gF (gZk _ _ _ _ _ ab)) ?_;exact goR h
def gFe(c:kJ)(a1:List (List UInt8)):List (List UInt8)→Option (Bool)
 | []=>bnd (gIz c) fun f=>
(some f)
 | h::xs=>(cnd (!(wQ a1 h)) (
(some false)) (
gFe c a1 xs ))
def gK1(c:kJ)(a1:List (List UInt8)):Option (Bool):=
bnd (gF6 c) fun f=>
gFe c a1 f
theorem gRl(a0:kJ)(a1:List (List UInt8)){r:Bool}(h:gK1 a0 a1=some r):jC Tryz.prog 217 [.d (gCx a0),.L 1 (jP a1)] [.b r]:=by
 obtain⟨ac,ad,ae,ag,⟨f,y,aa⟩,ah,ai⟩:=a0;unfold gK1 at h;refine SpI Tryz.func217 fun A _=>?_;refine goL ?_;obtain⟨x1,am,h⟩:=gP h;refine jL (gF (gP9 _ am)) ?_;refine noB ?_;refine gBx 5 (fun z3=>?_);refine mQ (fun(y2:Nat)=>⟨[(1,.L 1 (jP a1)),(2,.ptr 0 0),(5,.L 1 (jP x1)),(6,.N y2)],[bEx ac ad ae ag f y aa ah ai],Tryz.f217.ntmps⟩) (fun y2=>gFe (kJ.mk ac ad ae ag (gB.mk f y aa) ah ai) a1 (x1.drop y2)  =some r) (fun y2=>x1.length - y2) 0 eJ h ?_;rintro y2 h;refine goL ?_;refine kX (fun c4=>?_) (fun c4=>?_)
 ·have c:=uR c4;obtain⟨x5,ao,aj⟩:=drop_at c;rw [aj,gFe.eq_2] at h;refine noS ?_;refine jW (jE ?_);refine goL ?_;refine jL (jM y2 (gQq ao)) ?_;refine jL (gF (gF4 a1 x5)) ?_;refine kX (fun c6=>?_) (fun c6=>?_)
  ·replace h:=kD c6 h;exact goR h
  ·replace h:=kE c6 h;refine goS ?_;refine jL (jR y2 (by omega)) ?_;exact⟨(y2+1),h,by omega,eJ⟩
 ·have c:=uS c4;rw [jF c,gFe.eq_1] at h;refine goX ?_;obtain⟨x7,aq,h⟩:=gP h;refine qI (gF (gTn _ aq)) ?_;exact goR h
def vI(f:mJ):List pU→(List (List UInt8))→Option (Bool)
 | [],c=>bnd ((cnd (mF f.name) (bnd (yG f.vars 3) fun y=>
(cnd y ((cnd (decide ((c.length:Int) > 0)) (bnd (yG c 5) fun aa=>
(some aa)) ((some false)))) ((some false)))) ((some false)))) fun ab=>
(some ab)
 | h::xs,c=>bnd ((cnd (decide ((h.fields.length:Int) > 4)) ((some true)) (bnd (gQc h.fields f.vars) fun x9=>
(some (!x9))))) fun b7=>
(cnd b7 (
(some false)) (
gd (c.length+[h.name].length≤4294967296) (
vI f xs (c++[h.name]))))
def gBs(c:mJ):Option (Bool):=
vI c c.constructors []
theorem gH6(a0:mJ){r:Bool}(h:gBs a0=some r):jC Tryz.prog 178 [.d (gFr a0)] [.b r]:=by
 obtain⟨f,aa,c⟩:=a0;unfold gBs at h;refine SpI Tryz.func178 fun A _=>?_;refine goL ?_;refine gF9 ?_;refine goL ?_;refine noB ?_;refine wN 0 2 (fun z4=>?_);refine kS (fun(y3:Nat) (y1:List (List UInt8)) (v2:Nat)=>⟨[(1,.ptr 0 0),(3,.sl 1 v2),(4,.N y3)],[bDa f aa c,.own 9 1 v2 (jP y1)],Tryz.f178.ntmps⟩) (fun y3 y1 v2=>vI (mJ.mk f aa c) (c.drop y3) y1=some r) (fun y3 y1 v2=>c.length - y3) 0 [] 0 eJ h ?_;rintro y3 y1 v2 h;refine goL ?_;refine kX (fun c5=>?_) (fun c5=>?_)
 ·have y:=uR c5;obtain⟨x6,ag,ah⟩:=drop_at y;rw [ah,vI.eq_2] at h;obtain⟨ae,aq⟩:=x6;refine noS ?_;refine jW (jE ?_);refine gH2 ?_;obtain⟨b7,hb7,h⟩:=gP h;refine uJ (P:=Tryz.prog) Mix.h ⟨[(1,.ptr 0 0),(3,.sl 1 v2),(4,.N y3),(32,.B b7)],[bDa f aa c,.own 9 1 v2 (jP y1)],Tryz.f178.ntmps⟩ (by kernel_rfl) ?_ ?_
  ·refine goL ?_;refine gE7 (jM y3 (gDr ag)) ?_;refine goL ?_;refine yQ 21 (fun c8=>?_) (fun c8=>?_)
   ·replace hb7:=kD c8 hb7;refine goL ?_;cases hb7;exact eJ
   ·replace hb7:=kE c8 hb7;refine goL ?_;refine gDf (jM y3 (gDr ag)) ?_;refine goL ?_;obtain⟨x9,an,hb7⟩:=gP hb7;refine gDf (gF (hBo _ _ an)) ?_;refine goL ?_;cases hb7;exact eJ
  refine goC h ?_ ?_<;>intro av h
  ·exact goR h
  ·refine goS ?_;refine jL (jM y3 (gDr ag)) ?_;refine gBc ae ?_;obtain⟨ao,h⟩:=mW h;refine gH3 ao ?_;refine goL ?_;refine jL (jR y3 (by omega)) ?_;exact⟨(y3+1),(y1++[ae]),(v2+1),h,by omega,eJ⟩
 ·have y:=uS c5;rw [jF y,vI.eq_1] at h;refine goX ?_;refine jL (gF (qD f)) ?_;obtain⟨ap,hb12,h⟩:=gP h;refine jT ⟨[(2,.B ap)],[bDa f aa c,.own 9 1 v2 (jP y1)],Tryz.f178.ntmps⟩ ?_ ?_
  ·refine gqA 45 hb12 (fun aw hb12=>?_);obtain⟨ax,ai,hb12⟩:=gP hb12;refine jL (gF (gAb _ _ ai)) ?_;refine gqA 50 hb12 (fun ay hb12=>?_);refine gqA 55 hb12 (fun a3 hb12=>?_);obtain⟨a4,aj,hb12⟩:=gP hb12;refine gBn (gW2 (gAb y1 5 aj)) ?_;cases hb12;exact eJ
  exact goR h
end Go.Proofs.YtegahmhnmjnhhaaGreat
