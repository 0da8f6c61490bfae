import Derived.Test.YtfpdlnkkcnmebaaGreatWd
set_option maxHeartbeats 4000000
set_option linter.unusedVariables false
set_option linter.unusedSimpArgs false
set_option linter.unusedSectionVars false
namespace Go.Proofs.YtfpdlnkkcnmebaaGreat
open Go Go.Eng
attribute [local irreducible] V VO VQ VY Quiet QR jF mJ Rng qI qJ qB
def gFw(c:gU→Option (gD)):List gU→(List gD)→Option (LB × List gD)
 | [],f=>(some ([],f))
 | q::xs,f=>bnd (c q) fun h=>
gd (f.length+[h].length≤4294967296) (
gFw c xs (f++[h]))
def gQ7(f:(List gD)→(List gU)→Option (LB × List gD))(c:gU→Option (gD))(h:List gD)(list:List gU):Option (LB × List gD):=
gFw c list h
def gQ8(c:(List gD)→(List gU)→Option (LB × List gD)):Prop:=∀(h:List gD)(q:List gU)(f:Nat){r:LB × List gD},c h q=some r→Go.Eng.Spec Tryz.prog 237 [.sl 0 f,.L 9 (jS q)] [.arr 223 2 f (jA h)] (fun sv Lo=>sv=.ag [.S r.1,.sl 0 (f+1)]∧Lo=[.arr 223 2 (f+1) (jA r.2)])
def gT1(c:gU→Option (gD)):Prop:=∀(f:gU){r:gD},c f=some r→jF Tryz.prog 224 [.d (zJ f)] [qC r]
theorem hDt{f}{c}(aa:gQ8 f)(q:gT1 c)(l0:List gD)(list:List gU)(v0:Nat){r:LB × List gD}(h:gQ7 f c l0 list=some r):Go.Eng.Spec Tryz.prog 237 [.sl 0 v0,.L 9 (jS list)] [.arr 223 2 v0 (jA l0)] (fun sv Lo=>sv=.ag [.S r.1,.sl 0 (v0+1)]∧Lo=[.arr 223 2 (v0+1) (jA r.2)]):=by
 unfold gQ7 at h;refine Spec.verF (g:=fun v'=>.ag [.S r.1,.sl 0 v']) ?_ (fun _ _ _ _ _ hh=>hMi hh);refine kS 1 Tryz.func237 rfl (by kernel_rfl) rfl rfl fun A _=>?_;refine goL ?_;refine gAc (jU TBd.h TZ.h rfl (by repeat constructor)) ?_;refine noB ?_;refine gCm 1 (fun z4=>?_);refine kV (fun(y3:Nat)(y1:List gD)(v2:Nat)=>⟨[(1,.L 9 (jS list)),(4,.ptr 1 0),(5,.ptr 2 0),(6,.N y3)],[.arr 223 2 v2 (jA y1),.box [.S [],.nilsl],.box [.S [],.sl 0 v2]],Tryz.f237.ntmps⟩) (fun y3 y1 v2=>gFw c (list.drop y3) y1=some r) (fun y3 y1 v2=>list.length - y3) 0 l0 v0 eJ h ?_;rintro y3 y1 v2 h;refine goL ?_;refine mQ (fun c5=>?_) (fun c5=>?_)
 ·have y:=vF c5;obtain⟨x6,ap,aj⟩:=drop_at y;rw [aj,gFw.eq_2] at h;obtain⟨ar,au,av,aw,⟨ak,al,am⟩,ax,ay⟩:=x6;refine noS ?_;refine kH (jE ?_);refine vP (P:=Tryz.prog) Mix.h [(0,true),(1,true),(2,true),(3,true),(4,true),(5,true),(6,true),(7,false),(8,false),(9,true),(10,false)] (by kernel_rfl) ?_;refine goY ?_;refine jO rfl (jM y3 (gUp ap)) ?_;refine goY ?_;obtain⟨⟨ad,ae⟩,aq,h⟩:=gJ h;refine jO rfl (gG (q _ aq)) ?_;refine jT (T:=221) (us:=jA [(gD.mk ad ae)]) ?_;obtain⟨g8,h⟩:=pO h;refine jR (T:=221) g8 ?_;refine goY ?_;refine kX ?_;refine goL ?_;refine jK (kD y3 (by omega)) ?_;exact⟨(y3+1),(y1++[(gD.mk ad ae)]),(v2+1),h,by omega,eJ⟩
 ·have y:=vG c5;rw [jH y,gFw.eq_1] at h;refine goX ?_;refine jG ?_;obtain rfl:=Option.some.inj h;exact gBa [.ag [.S [],.sl 0 v2]] _ ⟨v2,rfl,rfl⟩
def gIm(c:gU→Option (gD))(ab:LB × List gD):List gH0→(List gD)→Option (gD)
 | [],f=>(some (gD.mk ab.1 f))
 | y::xs,f=>lt_ (mP y.constructor) fun h=>
bnd (gL9 y.vars) fun q=>
gd ([h].length+q.length≤4294967296) (
bnd (c y.body) fun aa=>
gd (([h]++q).length+[aa].length≤4294967296) (
gd (f.length+[(gD.mk [] (([h]++q)++[aa]))].length≤4294967296) (
gIm c ab xs (f++[(gD.mk [] (([h]++q)++[aa]))]))))
def gW6(c:(List gD)→(List gU)→Option (LB × List gD))(h:gU→Option (gD))(f:gU):Option (gD):=
(cnd (f.kind==1) (
gd (gHz f.n) (lt_ (mP (Lib.itoa f.n)) fun x3=>
(some x3))) (
(cnd (f.kind==2) (
bnd (at? [[102,97,108,115,101],[116,114,117,101]] f.n) fun x5=>
lt_ (mP x5) fun x6=>
(some x6)) (
(cnd (f.kind==3) (
lt_ (mP f.name) fun x8=>
(some x8)) (
(cnd (f.kind==4) (
lt_ (mP [99,97,108,108]) fun ai=>
lt_ (mP f.name) fun aj=>
bnd (c [ai,aj] f.args) fun q=>
(some (gD.mk q.1 q.2))) (
(cnd (f.kind==5) (
lt_ (mP [109,101,116,104,111,100]) fun ak=>
lt_ (mP f.trait) fun al=>
lt_ (mP f.name) fun am=>
bnd (c [ak,al,am] f.args) fun y=>
(some (gD.mk y.1 y.2))) (
(cnd (f.kind==6) (
lt_ (mP [110,101,119]) fun an=>
lt_ (mP f.name) fun ao=>
bnd (c [an,ao] f.args) fun aa=>
(some (gD.mk aa.1 aa.2))) (
(cnd (f.kind==8) (
lt_ (mP [108,101,116]) fun ap=>
lt_ (mP f.name) fun aq=>
bnd (c [ap,aq] f.args) fun ab=>
(some (gD.mk ab.1 ab.2))) (
(cnd (f.kind==9) (
lt_ (mP [105,102]) fun ar=>
bnd (c [ar] f.args) fun ac=>
(some (gD.mk ac.1 ac.2))) (
(cnd (f.kind==10) (
lt_ (mP f.name) fun au=>
bnd (c [au] f.args) fun ad=>
(some (gD.mk ad.1 ad.2))) (
(cnd (f.kind==11) (
lt_ (mP [112,97,99,107]) fun av=>
lt_ (mP f.trait) fun aw=>
bnd (c [av,aw] f.args) fun ae=>
(some (gD.mk ae.1 ae.2))) (
(cnd (f.kind==12) (
lt_ (mP [116,104,101]) fun ax=>
bnd (gLi 5000 f.type_) fun ay=>
bnd (c [ax,ay] f.args) fun ag=>
(some (gD.mk ag.1 ag.2))) (
lt_ (mP [99,97,115,101]) fun a3=>
bnd (c [a3] f.args) fun ah=>
gIm h ah f.arms ah.2))))))))))))))))))))))
theorem hKe{ak}{aj}(c:gQ8 ak)(ar:gT1 aj)(a0:gU){r:gD}(h:gW6 ak aj a0=some r):jF Tryz.prog 224 [.d (zJ a0)] [qC r]:=by
 obtain⟨ai,ad,ac,ae,⟨y,aa,ab⟩,f,ah⟩:=a0;unfold gW6 at h;refine SpI Tryz.func224 fun A _=>?_;refine goL ?_;refine jE ?_;refine goC h ?_ ?_<;>intro c1 h
 ·refine goL ?_;obtain⟨g2,h⟩:=pO h;refine qM (gG (gN7 ae g2)) ?_;obtain⟨⟨d2,d3⟩,du,h⟩:=qW h;have sx3:=pF (Lib.itoa ae);rw [du] at sx3;refine qM (gG (sx3)) ?_;exact goR h
 ·refine goC h ?_ ?_<;>intro c4 h
  ·refine goL ?_;refine gAg (us:=gP [[102,97,108,115,101],[116,114,117,101]]) ?_;refine goL ?_;obtain⟨x5,b1,h⟩:=gJ h;obtain⟨co,b1⟩:=gAz b1;refine yS (gXx co (List.getElem?_eq_some_iff.1 b1).1) ?_;refine yS (hFd b1) ?_;obtain⟨⟨d4,d5⟩,dv,h⟩:=qW h;have sx6:=pF x5;rw [dv] at sx6;refine qM (gG (sx6)) ?_;exact goR h
  ·refine goC h ?_ ?_<;>intro c7 h
   ·refine goL ?_;obtain⟨⟨d6,d7⟩,dw,h⟩:=qW h;have sx8:=pF ac;rw [dw] at sx8;refine qM (gG (sx8)) ?_;exact goR h
   ·refine goC h ?_ ?_<;>intro c9 h
    ·refine jL (P:=Tryz.prog) Mix.h [(0,true),(1,true),(2,true),(3,true),(5,true),(6,true),(4,false),(7,false),(8,false)] (by kernel_rfl) ?_;obtain⟨⟨a4,a5⟩,cp,h⟩:=qW h;have sx10:=pF [99,97,108,108];rw [cp] at sx10;refine jO rfl (gG (sx10)) ?_;refine goY ?_;obtain⟨⟨a6,a7⟩,cq,h⟩:=qW h;have sx11:=pF ac;rw [cq] at sx11;refine jO rfl (gG (sx11)) ?_;refine goY ?_;refine jT (T:=221) (us:=jA [(gD.mk a4 a5),(gD.mk a6 a7)]) ?_;obtain⟨⟨b2,b3⟩,cr,h⟩:=gJ h;refine gCn (sv:=.ag [.S b2,.sl 2 (0+1)]) (L':=[bEx ai ad ac ae y aa ab f ah,.box [.S [],.nilsl],.arr 223 2 (0+1) (jA b3)]) [2] (c [(gD.mk a4 a5),(gD.mk a6 a7)] f 0 cr) ?_;refine goY ?_;refine kX ?_;refine goL ?_;refine gW 2 rfl rfl ?_;refine jG ?_;cases h;exact uA
    ·refine goC h ?_ ?_<;>intro ea h
     ·refine jL (P:=Tryz.prog) Mix.h [(0,true),(1,true),(2,true),(3,true),(4,true),(5,true),(6,true),(8,true),(9,true),(7,false),(10,false),(11,false)] (by kernel_rfl) ?_;obtain⟨⟨a8,a9⟩,cs,h⟩:=qW h;have sx14:=pF [109,101,116,104,111,100];rw [cs] at sx14;refine jO rfl (gG (sx14)) ?_;refine goY ?_;obtain⟨⟨ba,bb⟩,ct,h⟩:=qW h;have sx15:=pF ad;rw [ct] at sx15;refine jO rfl (gG (sx15)) ?_;refine goY ?_;obtain⟨⟨bc,bd⟩,cu,h⟩:=qW h;have sx16:=pF ac;rw [cu] at sx16;refine jO rfl (gG (sx16)) ?_;refine goY ?_;refine jT (T:=221) (us:=jA [(gD.mk a8 a9),(gD.mk ba bb),(gD.mk bc bd)]) ?_;obtain⟨⟨b4,b5⟩,cv,h⟩:=gJ h;refine gCn (sv:=.ag [.S b4,.sl 2 (0+1)]) (L':=[bEx ai ad ac ae y aa ab f ah,.box [.S [],.nilsl],.arr 223 2 (0+1) (jA b5)]) [2] (c [(gD.mk a8 a9),(gD.mk ba bb),(gD.mk bc bd)] f 0 cv) ?_;refine goY ?_;refine kX ?_;refine goL ?_;refine gW 2 rfl rfl ?_;refine jG ?_;cases h;exact uA
     ·refine goC h ?_ ?_<;>intro eb h
      ·refine jL (P:=Tryz.prog) Mix.h [(0,true),(1,true),(2,true),(3,true),(5,true),(6,true),(4,false),(7,false),(8,false)] (by kernel_rfl) ?_;obtain⟨⟨be,bf⟩,cw,h⟩:=qW h;have sx19:=pF [110,101,119];rw [cw] at sx19;refine jO rfl (gG (sx19)) ?_;refine goY ?_;obtain⟨⟨bg,bh⟩,cx,h⟩:=qW h;have sx20:=pF ac;rw [cx] at sx20;refine jO rfl (gG (sx20)) ?_;refine goY ?_;refine jT (T:=221) (us:=jA [(gD.mk be bf),(gD.mk bg bh)]) ?_;obtain⟨⟨b6,b7⟩,cy,h⟩:=gJ h;refine gCn (sv:=.ag [.S b6,.sl 2 (0+1)]) (L':=[bEx ai ad ac ae y aa ab f ah,.box [.S [],.nilsl],.arr 223 2 (0+1) (jA b7)]) [2] (c [(gD.mk be bf),(gD.mk bg bh)] f 0 cy) ?_;refine goY ?_;refine kX ?_;refine goL ?_;refine gW 2 rfl rfl ?_;refine jG ?_;cases h;exact uA
      ·refine goC h ?_ ?_<;>intro ec h
       ·refine jL (P:=Tryz.prog) Mix.h [(0,true),(1,true),(2,true),(3,true),(5,true),(6,true),(4,false),(7,false),(8,false)] (by kernel_rfl) ?_;obtain⟨⟨bi,bj⟩,cz,h⟩:=qW h;have sx23:=pF [108,101,116];rw [cz] at sx23;refine jO rfl (gG (sx23)) ?_;refine goY ?_;obtain⟨⟨bk,bl⟩,c0,h⟩:=qW h;have sx24:=pF ac;rw [c0] at sx24;refine jO rfl (gG (sx24)) ?_;refine goY ?_;refine jT (T:=221) (us:=jA [(gD.mk bi bj),(gD.mk bk bl)]) ?_;obtain⟨⟨b8,b9⟩,c2,h⟩:=gJ h;refine gCn (sv:=.ag [.S b8,.sl 2 (0+1)]) (L':=[bEx ai ad ac ae y aa ab f ah,.box [.S [],.nilsl],.arr 223 2 (0+1) (jA b9)]) [2] (c [(gD.mk bi bj),(gD.mk bk bl)] f 0 c2) ?_;refine goY ?_;refine kX ?_;refine goL ?_;refine gW 2 rfl rfl ?_;refine jG ?_;cases h;exact uA
       ·refine goC h ?_ ?_<;>intro ed h
        ·refine jL (P:=Tryz.prog) Mix.h [(0,true),(2,true),(3,true),(1,false),(4,false),(5,false)] (by kernel_rfl) ?_;obtain⟨⟨bm,bn⟩,c3,h⟩:=qW h;have sx27:=pF [105,102];rw [c3] at sx27;refine jO rfl (gG (sx27)) ?_;refine goY ?_;refine jT (T:=221) (us:=jA [(gD.mk bm bn)]) ?_;obtain⟨⟨ca,cb⟩,c5,h⟩:=gJ h;refine gCn (sv:=.ag [.S ca,.sl 2 (0+1)]) (L':=[bEx ai ad ac ae y aa ab f ah,.box [.S [],.nilsl],.arr 223 2 (0+1) (jA cb)]) [2] (c [(gD.mk bm bn)] f 0 c5) ?_;refine goY ?_;refine kX ?_;refine goL ?_;refine gW 2 rfl rfl ?_;refine jG ?_;cases h;exact uA
        ·refine goC h ?_ ?_<;>intro ee h
         ·refine jL (P:=Tryz.prog) Mix.h [(0,true),(1,true),(2,true),(4,true),(5,true),(3,false),(6,false),(7,false)] (by kernel_rfl) ?_;refine goY ?_;obtain⟨⟨bo,bp⟩,c6,h⟩:=qW h;have sx30:=pF ac;rw [c6] at sx30;refine jO rfl (gG (sx30)) ?_;refine goY ?_;refine jT (T:=221) (us:=jA [(gD.mk bo bp)]) ?_;obtain⟨⟨cc,cd⟩,c8,h⟩:=gJ h;refine gCn (sv:=.ag [.S cc,.sl 2 (0+1)]) (L':=[bEx ai ad ac ae y aa ab f ah,.box [.S [],.nilsl],.arr 223 2 (0+1) (jA cd)]) [2] (c [(gD.mk bo bp)] f 0 c8) ?_;refine goY ?_;refine kX ?_;refine goL ?_;refine gW 2 rfl rfl ?_;refine jG ?_;cases h;exact uA
         ·refine goC h ?_ ?_<;>intro ef h
          ·refine jL (P:=Tryz.prog) Mix.h [(0,true),(1,true),(2,true),(3,true),(5,true),(6,true),(4,false),(7,false),(8,false)] (by kernel_rfl) ?_;obtain⟨⟨bq,br⟩,da,h⟩:=qW h;have sx33:=pF [112,97,99,107];rw [da] at sx33;refine jO rfl (gG (sx33)) ?_;refine goY ?_;obtain⟨⟨bt,bu⟩,db,h⟩:=qW h;have sx34:=pF ad;rw [db] at sx34;refine jO rfl (gG (sx34)) ?_;refine goY ?_;refine jT (T:=221) (us:=jA [(gD.mk bq br),(gD.mk bt bu)]) ?_;obtain⟨⟨ce,cf⟩,dc,h⟩:=gJ h;refine gCn (sv:=.ag [.S ce,.sl 2 (0+1)]) (L':=[bEx ai ad ac ae y aa ab f ah,.box [.S [],.nilsl],.arr 223 2 (0+1) (jA cf)]) [2] (c [(gD.mk bq br),(gD.mk bt bu)] f 0 dc) ?_;refine goY ?_;refine kX ?_;refine goL ?_;refine gW 2 rfl rfl ?_;refine jG ?_;cases h;exact uA
          ·refine goC h ?_ ?_<;>intro eg h
           ·refine jL (P:=Tryz.prog) Mix.h [(0,true),(1,true),(2,true),(3,true),(5,true),(6,true),(4,false),(7,false),(8,false)] (by kernel_rfl) ?_;obtain⟨⟨bv,bw⟩,dd,h⟩:=qW h;have sx37:=pF [116,104,101];rw [dd] at sx37;refine jO rfl (gG (sx37)) ?_;refine goY ?_;obtain⟨⟨bx,bz⟩,de,h⟩:=gJ h;refine jO rfl (gG (gJk _ _ de)) ?_;refine goY ?_;refine jT (T:=221) (us:=jA [(gD.mk bv bw),(gD.mk bx bz)]) ?_;obtain⟨⟨cg,ch⟩,df,h⟩:=gJ h;refine gCn (sv:=.ag [.S cg,.sl 2 (0+1)]) (L':=[bEx ai ad ac ae y aa ab f ah,.box [.S [],.nilsl],.arr 223 2 (0+1) (jA ch)]) [2] (c [(gD.mk bv bw),(gD.mk bx bz)] f 0 df) ?_;refine goY ?_;refine kX ?_;refine goL ?_;refine gW 2 rfl rfl ?_;refine jG ?_;cases h;exact uA
           ·refine noS ?_;obtain⟨⟨an,ao⟩,dg,h⟩:=qW h;have sx40:=pF [99,97,115,101];rw [dg] at sx40;obtain⟨⟨al,am⟩,b0,h⟩:=gJ h;refine zK (P:=Tryz.prog) Mix.h (.q 0 (.q 2 (.q 3 (.h 1 (.h 4 (.h 5 (.h 6 .nil .nil) .nil) (.h 5 (.h 4 (.h 6 .nil .nil) .nil) .nil)) (.h 5 (.h 1 (.h 4 (.h 6 .nil .nil) .nil) .nil) .nil))))) ⟨[(1,.ptr 0 0),(2,.ptr 1 0),(3,.ptr 3 0)],[bEx ai ad ac ae y aa ab f ah,.box [.S [],.nilsl],.arr 223 2 (0+1) (jA am),.box [.S al,.sl 2 (0+1)]],Tryz.f224.ntmps⟩ (by kernel_rfl) ?_ ?_
            ·refine gFx (jO rfl (gG (sx40)) gQ) ?_;refine goT ?_;refine pR (jT (T:=221) (us:=jA [(gD.mk an ao)]) gQ) ?_ ?_
             ·refine pR (gCn (sv:=.ag [.S al,.sl 2 (0+1)]) (L':=[bEx ai ad ac ae y aa ab f ah,.box [.S [],.nilsl],.arr 223 2 (0+1) (jA am)]) [2] (c [(gD.mk an ao)] f 0 b0) gQ) ?_ ?_
              ·refine goT ?_;refine jB ?_;exact mK 0 [0,1,2,3]
              refine goT ?_;refine gH (gCn (sv:=.ag [.S al,.sl 2 (0+1)]) (L':=[bEx ai ad ac ae y aa ab f ah,.box [.S [],.nilsl],.arr 223 2 (0+1) (jA am),.box [.S [],.nilsl]]) [2] (c [(gD.mk an ao)] f 0 b0) gQ) ?_;refine goT ?_;refine jB ?_;exact mK 0 [0,1,2,3]
             refine goT ?_;refine gH (jT (T:=221) (us:=jA [(gD.mk an ao)]) gQ) ?_;refine gH (gCn (sv:=.ag [.S al,.sl 3 (0+1)]) (L':=[bEx ai ad ac ae y aa ab f ah,.box [.S [],.nilsl],.box [.S [],.nilsl],.arr 223 2 (0+1) (jA am)]) [3] (c [(gD.mk an ao)] f 0 b0) gQ) ?_;refine goT ?_;refine jB ?_;exact mK 0 [0,1,3,2]
            refine goL ?_;refine noB ?_;refine yP 0 8 (fun eh=>?_);refine kV (fun(ap:Nat)(ay:List gD)(a3:Nat)=>⟨[(1,.ptr 0 0),(2,.ptr 1 0),(3,.ptr 3 0),(4,.N ap)],[bEx ai ad ac ae y aa ab f ah,.box [.S [],.nilsl],.arr 223 2 a3 (jA ay),.box [.S al,.sl 2 a3]],Tryz.f224.ntmps⟩) (fun ap ay a3=>gIm aj (al,am) (ah.drop ap) ay=some r) (fun ap ay a3=>ah.length - ap) 0 am (0+1) eJ h ?_;rintro ap ay a3 h;refine goL ?_;refine mQ (fun ci=>?_) (fun ci=>?_)
            ·have aq:=vF ci;obtain⟨dx,dh,cj⟩:=drop_at aq;rw [cj,gIm.eq_2] at h;obtain⟨ck,dy,⟨di,dj,dk,dl,⟨cl,cm,cn⟩,dm,dn⟩⟩:=dx;refine noS ?_;refine kH (jE ?_);refine goL ?_;refine qM (jM ap (gXo dh)) ?_;refine gHi ?_;refine jL (P:=Tryz.prog) Mix.h [(0,true),(1,true),(2,true),(4,true),(5,true),(6,true),(3,false),(7,false),(8,true)] (by kernel_rfl) ?_;refine goY ?_;obtain⟨⟨au,av⟩,dp,h⟩:=qW h;have sx48:=pF ck;rw [dp] at sx48;refine jO rfl (gG (sx48)) ?_;refine goY ?_;obtain⟨dq,dr,h⟩:=gJ h;refine jO rfl (gG (gUa _ dr)) ?_;refine jT (T:=221) (us:=jA [(gD.mk au av)]) ?_;obtain⟨dz,h⟩:=pO h;refine jR (T:=221) dz ?_;refine goY ?_;refine kX ?_;refine gHi ?_;refine vP (P:=Tryz.prog) Mix.h [(0,true),(1,true),(2,true),(3,true),(4,true),(5,true),(6,false),(7,false),(8,true),(9,false),(10,false),(11,true),(12,false)] (by kernel_rfl) ?_;refine goY ?_;obtain⟨⟨aw,ax⟩,ds,h⟩:=gJ h;refine jO rfl (gG (ar _ ds)) ?_;refine jT (T:=221) (us:=jA [(gD.mk aw ax)]) ?_;obtain⟨d0,h⟩:=pO h;refine jR (T:=221) d0 ?_;refine goY ?_;refine mG 5 rfl rfl ?_;refine jT (T:=221) (us:=jA [(gD.mk [] (([(gD.mk au av)]++dq)++[(gD.mk aw ax)]))]) ?_;obtain⟨d1,h⟩:=pO h;refine jR (T:=221) d1 ?_;refine goY ?_;refine kX ?_;refine goL ?_;refine jK (kD ap (by omega)) ?_;exact⟨(ap+1),(ay++[(gD.mk [] (([(gD.mk au av)]++dq)++[(gD.mk aw ax)]))]),(a3+1),h,by omega,eJ⟩
            ·have aq:=vG ci;rw [jH aq,gIm.eq_1] at h;refine goX ?_;refine gW 2 rfl rfl ?_;refine jG ?_;cases h;exact uA
mutual
def gQ9:Nat→(List gD)→(List gU)→Option (LB × List gD)
 | 0,_,_=>none
 | n+1,c,f=>gQ7 (gQ9 n) (gLz n) c f
def gLz:Nat→gU→Option (gD)
 | 0,_=>none
 | n+1,c=>gW6 (gQ9 n) (gLz n) c
end
theorem gZq:∀(n:Nat),gQ8 (gQ9 n)∧gT1 (gLz n):=by
 intro n
 induction n with
 | zero=>exact⟨(by intro c f q r h;cases h),(by intro c r h;cases h)⟩
 | succ n ih=>
   obtain⟨ih0,ih1⟩:=ih;refine⟨(fun c f q r h=>hDt ih0 ih1 c f q h),(fun c r h=>hKe ih0 ih1 c h)⟩
theorem gW7:∀(n:Nat),gT1 (gLz n):=fun n=>(gZq n).2
def gC2:List gD→(List gT)→Option (List gT)
 | [],c=>(some c)
 | f::xs,c=>bnd (uB f 0) fun h=>
bnd (uB f 1) fun y=>
bnd (gLh 5000 y) fun q=>
gd (c.length+[(gT.mk h.atom q)].length≤4294967296) (
gC2 xs (c++[(gT.mk h.atom q)]))
def gJj(c:gD):Option (List gT):=
gC2 c.list []
theorem gRa(a0:gD){r:List gT}(h:gJj a0=some r):jF Tryz.prog 206 [.d (qC a0)] [.sl 4 (jQ r)]:=by
 obtain⟨ag,f⟩:=a0;unfold gJj at h;refine SpI Tryz.func206 fun A _=>?_;refine goL ?_;refine zS ?_;refine goL ?_;refine noB ?_;refine yP 0 1 (fun z4=>?_);refine kV (fun(q:Nat)(y1:List gT)(v2:Nat)=>⟨[(1,.ptr 0 0),(3,.sl 1 v2),(4,.N q)],[bSx ag f,.arr 53 4 v2 (jQ y1)],Tryz.f206.ntmps⟩) (fun q y1 v2=>gC2 (f.drop q) y1=some r) (fun q y1 v2=>f.length - q) 0 [] 0 eJ h ?_;rintro q y1 v2 h;refine goL ?_;refine mQ (fun c5=>?_) (fun c5=>?_)
 ·have c:=vF c5;obtain⟨x6,ah,ai⟩:=drop_at c;rw [ai,gC2.eq_2] at h;obtain⟨ap,aq⟩:=x6;refine noS ?_;refine kH (jE ?_);refine vP (P:=Tryz.prog) Mix.h [(0,true),(1,true),(2,true),(3,true),(4,true),(5,true),(6,true),(7,true),(8,true),(9,true),(10,true),(11,true),(12,true),(13,true),(14,true),(15,true),(16,false),(17,false),(18,true)] (by kernel_rfl) ?_;refine goY ?_;refine jO rfl (jM q (uM ah)) ?_;refine goY ?_;obtain⟨⟨y,ar⟩,al,h⟩:=gJ h;refine jO rfl (gG (uI _ _ al)) ?_;refine jO rfl (gHj) ?_;refine goY ?_;refine jO rfl (jM q (uM ah)) ?_;refine goY ?_;obtain⟨⟨au,av⟩,am,h⟩:=gJ h;refine jO rfl (gG (uI _ _ am)) ?_;obtain⟨⟨aa,ab,ac⟩,an,h⟩:=gJ h;refine jO rfl (gG (gN2 _ _ an)) ?_;refine goY ?_;refine jT (T:=38) (us:=jQ [(gT.mk y (gB.mk aa ab ac))]) ?_;obtain⟨ao,h⟩:=pO h;refine jR (T:=38) ao ?_;refine goY ?_;refine kX ?_;refine goL ?_;refine jK (kD q (by omega)) ?_;exact⟨(q+1),(y1++[(gT.mk y (gB.mk aa ab ac))]),(v2+1),h,by omega,eJ⟩
 ·have c:=vG c5;rw [jH c,gC2.eq_1] at h;refine goX ?_;refine gW 1 rfl rfl ?_;refine jG ?_;cases h;exact uA
def gEj:List gT→(List gD)→Option (gD)
 | [],c=>(some (gD.mk [] c))
 | f::xs,c=>lt_ (mP f.trait) fun q=>
bnd (gLi 5000 f.type_) fun y=>
bnd (gHu [q,y]) fun h=>
gd (c.length+[h].length≤4294967296) (
gEj xs (c++[h]))
def gLd(c:List gT):Option (gD):=
gEj c []
theorem gE4(a0:List gT){r:gD}(h:gLd a0=some r):jF Tryz.prog 226 [.L 4 (jQ a0)] [qC r]:=by
 unfold gLd at h;refine SpI Tryz.func226 fun A _=>?_;refine goL ?_;refine gAc (jU TBd.h TZ.h rfl (by repeat constructor)) ?_;refine noB ?_;refine uO 223 2 1 1 rfl rfl (by repeat constructor) (by repeat constructor) (by repeat constructor) (by repeat constructor) ?_;show V _ _ _ _ _;refine gCm 0 (fun z4=>?_);refine kV (fun(f:Nat)(y1:List gD)(v2:Nat)=>⟨[(0,.L 4 (jQ a0)),(2,.ptr 0 0),(3,.ptr 1 0),(4,.N f)],[.box [.S [],.nilsl],.box [.S [],.sl 2 v2],.arr 223 2 v2 (jA y1)],Tryz.f226.ntmps⟩) (fun f y1 v2=>gEj (a0.drop f) y1=some r) (fun f y1 v2=>a0.length - f) 0 [] 0 eJ h ?_;rintro f y1 v2 h;refine goL ?_;refine mQ (fun c5=>?_) (fun c5=>?_)
 ·have c:=vF c5;obtain⟨x6,al,am⟩:=drop_at c;rw [am,gEj.eq_2] at h;obtain⟨an,⟨q,y,aa⟩⟩:=x6;refine noS ?_;refine kH (jE ?_);refine vP (P:=Tryz.prog) Mix.h [(0,true),(1,true),(2,true),(3,true),(4,true),(5,true),(6,true),(8,true),(9,true),(10,true),(11,true),(12,true),(7,false),(13,false),(14,false),(15,false),(16,false),(17,false),(18,true),(19,false)] (by kernel_rfl) ?_;refine goY ?_;refine jO rfl (jM f (gDi al)) ?_;refine goY ?_;refine jO rfl (jM f (gDi al)) ?_;refine goY ?_;obtain⟨⟨ab,ac⟩,ap,h⟩:=qW h;have sx7:=pF an;rw [ap] at sx7;refine qK (sx7) ?_;obtain⟨⟨ad,ae⟩,aq,h⟩:=gJ h;refine qK (gJk 5000 (gB.mk q y aa) aq) ?_;refine jT (T:=221) (us:=jA [(gD.mk ab ac),(gD.mk ad ae)]) ?_;refine mG 3 rfl rfl ?_;obtain⟨⟨ag,ah⟩,ar,h⟩:=gJ h;refine qK (gLc [(gD.mk ab ac),(gD.mk ad ae)] ar) ?_;refine jT (T:=221) (us:=jA [(gD.mk ag ah)]) ?_;obtain⟨au,h⟩:=pO h;refine jR (T:=221) au ?_;refine goY ?_;refine kX ?_;refine goL ?_;refine jK (kD f (by omega)) ?_;exact⟨(f+1),(y1++[(gD.mk ag ah)]),(v2+1),h,by omega,eJ⟩
 ·have c:=vG c5;rw [jH c,gEj.eq_1] at h;refine goX ?_;refine gW 2 rfl rfl ?_;refine jG ?_;cases h;exact uA
def gE8(c:gN):Option (LB × gN):=
bnd (gJ3 c) fun f=>
bnd (vH f.2 5) fun h=>
(cnd h.1 (
(some (f.1,h.2))) (
gd (f.1.length+([10]:LB).length≤4294967296) (
bnd (gM3 h.2) fun q=>
gd ((f.1++([10]:LB)).length+q.1.length≤4294967296) (
(some (((f.1++([10]:LB))++q.1),q.2))))))
theorem gRn(c:gN){r:LB × gN}(h:gE8 c=some r):Go.Eng.Spec Tryz.prog 99 [.ptr 0 0] [bCu c.b c.i c.h] (fun sv Lo=>sv=.S r.1∧Lo=[bCu r.2.b r.2.i r.2.h]):=by
 obtain⟨aj,ak,al⟩:=c;unfold gE8 at h;refine kS 1 Tryz.func99 rfl (by kernel_rfl) rfl rfl fun A _=>?_;refine goL ?_;obtain⟨⟨ad,⟨f,q,y⟩⟩,am,h⟩:=gJ h;refine mZ 0 (gZ3 (gN.mk aj ak al) am) ?_;refine goL ?_;obtain⟨⟨ap,⟨aa,ab,ac⟩⟩,an,h⟩:=gJ h;refine mZ 0 (zD (gN.mk f q y) 5 an) ?_;refine goC h ?_ ?_<;>intro c3 h
 ·refine goL ?_;refine jG ?_;obtain rfl:=Option.some.inj h;exact gBa [.S ad] _ ⟨rfl,rfl⟩
 ·refine goS ?_;obtain⟨g4,h⟩:=pO h;refine jK (yG g4) ?_;obtain⟨⟨ae,⟨ag,ah,ai⟩⟩,ao,h⟩:=gJ h;refine mZ 0 (hGk (gN.mk aa ab ac) ao) ?_;obtain⟨g6,h⟩:=pO h;refine jK (yG g6) ?_;refine jG ?_;obtain rfl:=Option.some.inj h;exact gBa [.d (.s ((ad++([10]:LB))++ae))] _ ⟨rfl,rfl⟩
def gBc(c:gN):Prop:=0≤c.i∧c.b.length≤1048576
theorem hKg(c:gN)(h:gBc c):∃x c',gF8 c=some (x,c')∧0≤x∧x≤255∧gBc c':=by
 obtain⟨f,q⟩:=h;unfold gF8;cases hc:decide (c.i < (c.b.length:Int))with
 | true=>
   have y:=of_decide_eq_true hc;have hx:at? c.b c.i=some (c.b[c.i.toNat]'(by omega)):=by unfold at?;rw [if_pos f];exact List.getElem?_eq_getElem _
   simp only [jV];rw [kF hx];refine⟨_,_,rfl,(gOv _).1,(gOv _).2,?_,q⟩;simp only;rw [gAb _ (by omega) (by omega)];omega
 | false=>exact⟨_,_,rfl,(gOv _).1,(gOv _).2,f,q⟩
theorem gO7(c:gN)(n:Int)(h:gBc c)(f:0 < n)(q:n≤256):∃x c',mX c n=some (x,c')∧0≤x∧x < n∧gBc c':=by
 obtain⟨x,c',e,y,e2,e3⟩:=hKg c h;unfold mX;rw [show decide (n≤0)=false from decide_eq_false (by omega),show decide (n≤256)=true from decide_eq_true q];simp only [jV,jC];rw [kF e,uF (by omega)];exact⟨_,_,rfl,Int.tmod_nonneg _ y,Int.tmod_lt_of_pos _ f,e3⟩
theorem hDu(c:gN)(l:LS)(h:gBc c)(y:0 < l.length)(h1:l.length≤256):∃x c',qE c l=some (x,c')∧gBc c'∧x∈l:=by
 obtain⟨x,c',e,f,e2,q⟩:=gO7 c l.length h (by omega) (by omega);unfold qE;have hx:at? l x=some (l[x.toNat]'(by omega)):=by unfold at?;rw [if_pos f];exact List.getElem?_eq_getElem _
 rw [kF e,kF hx];exact⟨_,_,rfl,q,List.getElem_mem _⟩
theorem gN0(c:gN)(n:Int)(h:gBc c)(f:0 < n)(q:n≤256):∃x c',vH c n=some (x,c')∧gBc c':=by
 obtain⟨x,c',e,_,_,y⟩:=gO7 c n h f q;unfold vH;rw [kF e];exact⟨_,_,rfl,y⟩
theorem hGq(b:Bool):fmt (gT0 b)=(40::(gSc gVt++gDe hDo))++gDe (gYq b)++gDe hDp++[41]:=by
 have h:gVt≠[]:=by simp [gVt]
 simp only [gT0,kL,fmt,gYr _ h,gHv,List.cons_append,List.append_assoc]
theorem hKh(h:List gD)(m:gD)(c f q:List gD):fmt (hKd h m c f q)=(40::(gSc gVu++gDe hJ6))++gDe h++gDe [gVv m]++gDe c++gDe f++gDe q++[41]:=by
 have y:gVu≠[]:=by simp [gVu]
 have h1:∀l:List gD,gDe (gVv m::l)=gDe [gVv m]++gDe l:=fun l=>gHv [gVv m] l;simp only [hKd,kL,fmt];rw [gYr _ y,gHv,gHv,h1,gHv,gHv];simp only [List.cons_append,List.append_assoc]
theorem hTd:([wK,wL,yV,zQ,gC5,gC6,uW,vM,wM,wE,yA,zH].all fun l=>decide (l.length≤1000))=true:=by kernel_rfl
theorem hTf:(([kY,yQ,gG6,gG7,gG8]++hDq.map gDe++hDr.map fmt).all fun l=>decide (l.length≤1000))=true:=by kernel_rfl
set_option maxRecDepth 100000 in
theorem hKi(c:gN)(h:gBc c):∃b c',gJ3 c=some (fmt (gT0 b),c')∧gBc c':=by
 have hl:∀l∈[wK,wL,yV,zQ,gC5,gC6,uW,vM,wM,wE,yA,zH],l.length≤1000:=fun l hm=>of_decide_eq_true (List.all_eq_true.1 hTd l hm);have l1:=hl wK (.head _);have l2:=hl wL (.tail _ (.head _));have l3:=hl yV (.tail _ (.tail _ (.head _)));have l4:=hl zQ (.tail _ (.tail _ (.tail _ (.head _))));have l5:=hl gC5 (.tail _ (.tail _ (.tail _ (.tail _ (.head _)))));have l6:=hl gC6 (.tail _ (.tail _ (.tail _ (.tail _ (.tail _ (.head _))))));have l7:=hl uW (.tail _ (.tail _ (.tail _ (.tail _ (.tail _ (.tail _ (.head _)))))));have l8:=hl vM (.tail _ (.tail _ (.tail _ (.tail _ (.tail _ (.tail _ (.tail _ (.head _))))))));have l9:=hl wM (.tail _ (.tail _ (.tail _ (.tail _ (.tail _ (.tail _ (.tail _ (.tail _ (.head _)))))))));have ad:=hl wE (.tail _ (.tail _ (.tail _ (.tail _ (.tail _ (.tail _ (.tail _ (.tail _ (.tail _ (.head _))))))))));have ae:=hl yA (.tail _ (.tail _ (.tail _ (.tail _ (.tail _ (.tail _ (.tail _ (.tail _ (.tail _ (.tail _ (.head _)))))))))));have ag:=hl zH (.tail _ (.tail _ (.tail _ (.tail _ (.tail _ (.tail _ (.tail _ (.tail _ (.tail _ (.tail _ (.tail _ (.head _))))))))))));clear hl;obtain⟨x,c',e,q⟩:=gN0 c 2 h (by omega) (by omega);have y:=hSx;have t1:=hSy;have t2:=hS3;have t3:=hS4;have f:=hGq;rw [←y,←t3] at f;have ft:=f true;have ff:=f false;rw [←t1] at ft;rw [←t2] at ff;clear f y t1 t2 t3;unfold gJ3;generalize wK=a1 at *;generalize wL=a2 at *;generalize yV=a3 at *;generalize zQ=a4 at *;generalize gC5=a5 at *;generalize gC6=a6 at *;generalize uW=a7 at *;generalize vM=a8 at *;generalize wM=a9 at *;generalize wE=ah at *;generalize yA=ai at *;generalize zH=aj at *;rw [uF (by omega),uF (by simp only [List.length_append];omega),uF (by simp only [List.length_append];omega),kF e];cases x with
 | true=>
   simp only [jV];rw [uF (by simp only [List.length_append];omega)];simp only [bnd]
   iterate 7 rw [uF (by simp only [List.length_append,List.length_cons,List.length_nil];omega)]
   refine⟨true,c',?_,q⟩;rw [ft];simp only [List.append_assoc]
 | false=>
   simp only [jC];rw [uF (by simp only [List.length_append];omega)];simp only [bnd]
   iterate 7 rw [uF (by simp only [List.length_append,List.length_cons,List.length_nil];omega)]
   refine⟨false,c',?_,q⟩;rw [ff];simp only [List.append_assoc]
theorem hDv{x:Bool × gN}{b s:LB}{o:List gD}(hs:s=gDe o)(hl:b.length+s.length≤4294967296):∃o',(o'=[]∨o'=o)∧(cnd x.1 (gd (b.length+s.length≤4294967296) (some (b++s))) (some b))=some (b++gDe o'):=by
 cases x.1 with
 | true=>exact⟨o,.inr rfl,by simp only [jV];rw [uF hl,hs]⟩
 | false=>exact⟨[],.inl rfl,by simp [jC,gDe]⟩
set_option maxRecDepth 100000 in
theorem hM9(c:gN)(h:gBc c):∃hd m f q y c',gM3 c=some (fmt (hKd hd m f q y),c')∧gBc c'∧hd∈hDq∧m∈hDr∧(f=[]∨f=hJ7)∧(q=[]∨q=hJ8)∧(y=[]∨y=hJ9):=by
 have hl:=hTf;have k1:=hS6;have k2:=hS7;have k3:=hS8;have k4:=hS9;have k5:=hTa;have k6:=hTb;have k7:=hTc;rw [←k2,←k3] at hl;have hh:∀l∈[gCd,gCe,gCf,gCg,gCh,gCi,gCj],∃hd∈hDq,l=gDe hd:=fun l hm=>by
  rw [k2] at hm;obtain⟨a,h1,h2⟩:=List.mem_map.1 hm;exact⟨a,h1,h2.symm⟩
 have hm:∀l∈[[40,99,97,108,108,32,98,111,116,104,32,53,41],gAq,gAr,gAs,gAt,gAu,gAv,gAw,gAx,gAy],∃m∈hDr,l=fmt m:=fun l hm=>by
  rw [k3] at hm;obtain⟨a,h1,h2⟩:=List.mem_map.1 hm;exact⟨a,h1,h2.symm⟩
 rw [List.all_append,List.all_append] at hl;simp only [Bool.and_eq_true,List.all_eq_true,decide_eq_true_eq] at hl;obtain⟨⟨hl1,hl2⟩,hl3⟩:=hl;have l1:=hl1 kY (by simp);have l9:=hl1 yQ (by simp);have ac:=hl1 gG6 (by simp);have ad:=hl1 gG7 (by simp);have ae:=hl1 gG8 (by simp);obtain⟨x,c1,e1,e2,e3,e4⟩:=gO7 c 8 h (by omega) (by omega);unfold gM3;rw [kF e1];have hb:∃l∈[gCd,gCe,gCf,gCg,gCh,gCi,gCj],(cnd (x==0) (gd (kY.length+gCd.length≤4294967296) (some (kY++gCd))) (cnd (x==1) (gd (kY.length+gCe.length≤4294967296) (some (kY++gCe))) (cnd (x==2) (gd (kY.length+gCf.length≤4294967296) (some (kY++gCf))) (cnd (x==3) (gd (kY.length+gCg.length≤4294967296) (some (kY++gCg))) (cnd (x==4) (gd (kY.length+gCh.length≤4294967296) (some (kY++gCh))) (cnd (x==5) (gd (kY.length+gCi.length≤4294967296) (some (kY++gCi))) (gd (kY.length+gCj.length≤4294967296) (some (kY++gCj)))))))))=some (kY++l):=by
  have g:∀l∈[gCd,gCe,gCf,gCg,gCh,gCi,gCj],gd (kY.length+l.length≤4294967296) (some (kY++l))=some (kY++l):=fun l hm=>uF (by have:=hl2 l hm;omega);cases x==0 with
  | true=>exact⟨gCd,by simp,by rw [jV];exact g _ (by simp)⟩
  | false=>
  cases x==1 with
  | true=>exact⟨gCe,by simp,by rw [jC,jV];exact g _ (by simp)⟩
  | false=>
  cases x==2 with
  | true=>exact⟨gCf,by simp,by rw [jC,jC,jV];exact g _ (by simp)⟩
  | false=>
  cases x==3 with
  | true=>exact⟨gCg,by simp,by rw [jC,jC,jC,jV];exact g _ (by simp)⟩
  | false=>
  cases x==4 with
  | true=>exact⟨gCh,by simp,by rw [jC,jC,jC,jC,jV];exact g _ (by simp)⟩
  | false=>
  cases x==5 with
  | true=>exact⟨gCi,by simp,by rw [jC,jC,jC,jC,jC,jV];exact g _ (by simp)⟩
  | false=>exact⟨gCj,by simp,by rw [jC,jC,jC,jC,jC,jC];exact g _ (by simp)⟩
 obtain⟨l,hlm,hb⟩:=hb;rw [kF hb];have ll:=hl2 l hlm;obtain⟨hd,q1,rfl⟩:=hh l hlm;rw [uF (by simp only [List.length_append];omega)];obtain⟨t,c2,f1,f2,f3⟩:=hDu c1 [[40,99,97,108,108,32,98,111,116,104,32,53,41],gAq,gAr,gAs,gAt,gAu,gAv,gAw,gAx,gAy] e4 (by simp) (by simp);rw [kF f1];have lt:=hl3 t f3;obtain⟨m,q2,rfl⟩:=hm t f3;rw [uF (by simp only [List.length_append];omega),uF (by simp only [List.length_append,List.length_cons,List.length_nil];omega)];obtain⟨y1,c3,g1,g2⟩:=gN0 c2 2 f2 (by omega) (by omega);rw [kF g1];obtain⟨f,q3,r1⟩:=hDv (x:=(y1,c3)) (b:=kY++gDe hd++yQ++fmt m++[41]) k5 (by simp only [List.length_append,List.length_cons,List.length_nil];omega)
 have lo1:(gDe f).length≤1000:=by rcases q3 with rfl | rfl;· simp [gDe]
                                  ·rw [←k5];exact ac
 rw [kF r1];obtain⟨y2,c4,g3,g4⟩:=gN0 c3 3 g2 (by omega) (by omega);rw [kF g3];obtain⟨q,q4,r2⟩:=hDv (x:=(y2,c4)) (b:=kY++gDe hd++yQ++fmt m++[41]++gDe f) k6 (by simp only [List.length_append,List.length_cons,List.length_nil];omega)
 have lo2:(gDe q).length≤1000:=by rcases q4 with rfl | rfl;· simp [gDe]
                                  ·rw [←k6];exact ad
 rw [kF r2];obtain⟨y3,c5,g5,g6⟩:=gN0 c4 4 g4 (by omega) (by omega);rw [kF g5];obtain⟨y,q5,r3⟩:=hDv (x:=(y3,c5)) (b:=kY++gDe hd++yQ++fmt m++[41]++gDe f++gDe q) k7 (by simp only [List.length_append,List.length_cons,List.length_nil];omega)
 have lo3:(gDe y).length≤1000:=by rcases q5 with rfl | rfl;· simp [gDe]
                                  ·rw [←k7];exact ae
 rw [kF r3,uF (by simp only [List.length_append,List.length_cons,List.length_nil];omega)];refine⟨hd,m,f,q,y,c5,?_,g6,q1,q2,q3,q4,q5⟩;rw [hKh,←k1,←k4 m];simp only [List.append_assoc]
end Go.Proofs.YtfpdlnkkcnmebaaGreat
