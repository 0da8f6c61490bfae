import Derived.Test.YtfpdlnkkcnmebaaGreatWd
set_option maxHeartbeats 4000000
set_option linter.unusedVariables false
set_option linter.unusedSimpArgs false
set_option linter.unusedSectionVars false
namespace Go.Proofs.YtfpdlnkkcnmebaaGreat
open Go Go.Eng
attribute [local irreducible] V VO VQ VY Quiet QR jI mK Rng qE qA pX
def gGf(f:gY→Option (gF)):List gY→(List gF)→Option (LB × List gF)
 | [],h=>(some ([],h))
 | y::xs,h=>bnd (f y) fun q=>
gd (h.length+[q].length≤4294967296) (
gGf f xs (h++[q]))
def gSd(h:(List gF)→(List gY)→Option (LB × List gF))(f:gY→Option (gF))(q:List gF)(list:List gY):Option (LB × List gF):=
gGf f list q
def gSe(f:(List gF)→(List gY)→Option (LB × List gF)):Prop:=∀(q:List gF)(y:List gY)(h:Nat){r:LB × List gF},f q y=some r→Go.Eng.Spec Tryz.prog 237 [.sl 0 h,.L 9 (kQ y)] [.arr 223 2 h (jB q)] (fun sv Lo=>sv=.ag [.S r.1,.sl 0 (h+1)]∧Lo=[.arr 223 2 (h+1) (jB r.2)])
def gU0(f:gY→Option (gF)):Prop:=∀(h:gY){r:gF},f h=some r→jI Tryz.prog 224 [.d (gBp h)] [qJ r]
theorem hGs{q}{f}(ab:gSe q)(y:gU0 f)(l0:List gF)(list:List gY)(v0:Nat){r:LB × List gF}(h:gSd q f l0 list=some r):Go.Eng.Spec Tryz.prog 237 [.sl 0 v0,.L 9 (kQ list)] [.arr 223 2 v0 (jB l0)] (fun sv Lo=>sv=.ag [.S r.1,.sl 0 (v0+1)]∧Lo=[.arr 223 2 (v0+1) (jB r.2)]):=by
 unfold gSd at h;refine Spec.verF (g:=fun v'=>.ag [.S r.1,.sl 0 v']) ?_ (fun _ _ _ _ _ hh=>hPk hh);refine kJ 1 Tryz.func237 rfl (by kernel_rfl) rfl rfl fun A _=>?_;refine goL ?_;refine yT (jN TBd.h TZ.h rfl (by repeat constructor)) ?_;refine noB ?_;refine gCw 1 (fun z4=>?_);refine mG (fun(y3:Nat)(y1:List gF)(v2:Nat)=>⟨[(1,.L 9 (kQ list)),(4,.ptr 1 0),(5,.ptr 2 0),(6,.N y3)],[.arr 223 2 v2 (jB y1),.box [.S [],.nilsl],.box [.S [],.sl 0 v2]],Tryz.f237.ntmps⟩) (fun y3 y1 v2=>gGf f (list.drop y3) y1=some r) (fun y3 y1 v2=>list.length - y3) 0 l0 v0 eJ h ?_;rintro y3 y1 v2 h;refine goL ?_;refine mR (fun c5=>?_) (fun c5=>?_)
 ·have aa:=vR c5;obtain⟨x6,aq,ak⟩:=drop_at aa;rw [ak,gGf.eq_2] at h;obtain⟨au,av,aw,ax,⟨al,am,an⟩,ay,a0⟩:=x6;refine noS ?_;refine kI (jA ?_);refine yL (P:=Tryz.prog) Mix.h [(0,true),(1,true),(2,true),(3,true),(4,true),(5,true),(6,true),(7,false),(8,false),(9,true),(10,false)] (by kernel_rfl) ?_;refine goY ?_;refine jW rfl (jR y3 (gXd aq)) ?_;refine goY ?_;obtain⟨⟨ae,ah⟩,ar,h⟩:=gJ h;refine jW rfl (gI (y _ ar)) ?_;refine kT (T:=221) (us:=jB [(gF.mk ae ah)]) ?_;obtain⟨g8,h⟩:=pU h;refine kN (T:=221) g8 ?_;refine goY ?_;refine mJ ?_;refine goL ?_;refine jP (kD y3 (by omega)) ?_;exact⟨(y3+1),(y1++[(gF.mk ae ah)]),(v2+1),h,by omega,eJ⟩
 ·have aa:=vS c5;rw [jK aa,gGf.eq_1] at h;refine goX ?_;refine jF ?_;obtain rfl:=Option.some.inj h;exact gAg [.ag [.S [],.sl 0 v2]] _ ⟨v2,rfl,rfl⟩
def gJk(f:gY→Option (gF))(ac:LB × List gF):List gL8→(List gF)→Option (gF)
 | [],h=>(some (gF.mk ac.1 h))
 | aa::xs,h=>lt_ (pG aa.constructor) fun q=>
bnd (gNk aa.vars) fun y=>
gd ([q].length+y.length≤4294967296) (
bnd (f aa.body) fun ab=>
gd (([q]++y).length+[ab].length≤4294967296) (
gd (h.length+[(gF.mk [] (([q]++y)++[ab]))].length≤4294967296) (
gJk f ac xs (h++[(gF.mk [] (([q]++y)++[ab]))]))))
def gYk(f:(List gF)→(List gY)→Option (LB × List gF))(q:gY→Option (gF))(h:gY):Option (gF):=
(cnd (h.kind==1) (
gd (gIw h.n) (lt_ (pG (Lib.itoa h.n)) fun x3=>
(some x3))) (
(cnd (h.kind==2) (
bnd (at? [[102,97,108,115,101],[116,114,117,101]] h.n) fun x5=>
lt_ (pG x5) fun x6=>
(some x6)) (
(cnd (h.kind==3) (
lt_ (pG h.name) fun x8=>
(some x8)) (
(cnd (h.kind==4) (
lt_ (pG [99,97,108,108]) fun aj=>
lt_ (pG h.name) fun ak=>
bnd (f [aj,ak] h.args) fun y=>
(some (gF.mk y.1 y.2))) (
(cnd (h.kind==5) (
lt_ (pG [109,101,116,104,111,100]) fun al=>
lt_ (pG h.trait) fun am=>
lt_ (pG h.name) fun an=>
bnd (f [al,am,an] h.args) fun aa=>
(some (gF.mk aa.1 aa.2))) (
(cnd (h.kind==6) (
lt_ (pG [110,101,119]) fun ao=>
lt_ (pG h.name) fun ap=>
bnd (f [ao,ap] h.args) fun ab=>
(some (gF.mk ab.1 ab.2))) (
(cnd (h.kind==8) (
lt_ (pG [108,101,116]) fun aq=>
lt_ (pG h.name) fun ar=>
bnd (f [aq,ar] h.args) fun ac=>
(some (gF.mk ac.1 ac.2))) (
(cnd (h.kind==9) (
lt_ (pG [105,102]) fun au=>
bnd (f [au] h.args) fun ad=>
(some (gF.mk ad.1 ad.2))) (
(cnd (h.kind==10) (
lt_ (pG h.name) fun av=>
bnd (f [av] h.args) fun ae=>
(some (gF.mk ae.1 ae.2))) (
(cnd (h.kind==11) (
lt_ (pG [112,97,99,107]) fun aw=>
lt_ (pG h.trait) fun ax=>
bnd (f [aw,ax] h.args) fun ag=>
(some (gF.mk ag.1 ag.2))) (
(cnd (h.kind==12) (
lt_ (pG [116,104,101]) fun ay=>
bnd (gMo 5000 h.type_) fun a3=>
bnd (f [ay,a3] h.args) fun ah=>
(some (gF.mk ah.1 ah.2))) (
lt_ (pG [99,97,115,101]) fun a4=>
bnd (f [a4] h.args) fun ai=>
gJk q ai h.arms ai.2))))))))))))))))))))))
theorem hN5{al}{ak}(f:gSe al)(au:gU0 ak)(a0:gY){r:gF}(h:gYk al ak a0=some r):jI Tryz.prog 224 [.d (gBp a0)] [qJ r]:=by
 obtain⟨aj,ae,ad,ah,⟨aa,ab,ac⟩,y,ai⟩:=a0;unfold gYk at h;refine SpI Tryz.func224 fun A _=>?_;refine goL ?_;refine jA ?_;refine goC h ?_ ?_<;>intro c1 h
 ·refine goL ?_;obtain⟨g2,h⟩:=pU h;refine uN (gI (gO9 ah g2)) ?_;obtain⟨⟨d4,d5⟩,dw,h⟩:=uK h;have sx3:=pR (Lib.itoa ah);rw [dw] at sx3;refine uN (gI (sx3)) ?_;exact goR h
 ·refine goC h ?_ ?_<;>intro c4 h
  ·refine goL ?_;refine yQ (us:=gT [[102,97,108,115,101],[116,114,117,101]]) ?_;refine goL ?_;obtain⟨x5,b2,h⟩:=gJ h;obtain⟨cp,b2⟩:=gBm b2;refine vP (gZb cp (List.getElem?_eq_some_iff.1 b2).1) ?_;refine vP (hIl b2) ?_;obtain⟨⟨d6,d7⟩,dx,h⟩:=uK h;have sx6:=pR x5;rw [dx] at sx6;refine uN (gI (sx6)) ?_;exact goR h
  ·refine goC h ?_ ?_<;>intro c7 h
   ·refine goL ?_;obtain⟨⟨d8,d9⟩,dy,h⟩:=uK h;have sx8:=pR ad;rw [dy] at sx8;refine uN (gI (sx8)) ?_;exact goR h
   ·refine goC h ?_ ?_<;>intro c9 h
    ·refine jS (P:=Tryz.prog) Mix.h [(0,true),(1,true),(2,true),(3,true),(5,true),(6,true),(4,false),(7,false),(8,false)] (by kernel_rfl) ?_;obtain⟨⟨a5,a6⟩,cq,h⟩:=uK h;have sx10:=pR [99,97,108,108];rw [cq] at sx10;refine jW rfl (gI (sx10)) ?_;refine goY ?_;obtain⟨⟨a7,a8⟩,cr,h⟩:=uK h;have sx11:=pR ad;rw [cr] at sx11;refine jW rfl (gI (sx11)) ?_;refine goY ?_;refine kT (T:=221) (us:=jB [(gF.mk a5 a6),(gF.mk a7 a8)]) ?_;obtain⟨⟨b3,b4⟩,cs,h⟩:=gJ h;refine gDm (sv:=.ag [.S b3,.sl 2 (0+1)]) (L':=[bEx aj ae ad ah aa ab ac y ai,.box [.S [],.nilsl],.arr 223 2 (0+1) (jB b4)]) [2] (f [(gF.mk a5 a6),(gF.mk a7 a8)] y 0 cs) ?_;refine goY ?_;refine mJ ?_;refine goL ?_;refine gV 2 rfl rfl ?_;refine jF ?_;cases h;exact uM
    ·refine goC h ?_ ?_<;>intro ec h
     ·refine jS (P:=Tryz.prog) Mix.h [(0,true),(1,true),(2,true),(3,true),(4,true),(5,true),(6,true),(8,true),(9,true),(7,false),(10,false),(11,false)] (by kernel_rfl) ?_;obtain⟨⟨a9,ba⟩,ct,h⟩:=uK h;have sx14:=pR [109,101,116,104,111,100];rw [ct] at sx14;refine jW rfl (gI (sx14)) ?_;refine goY ?_;obtain⟨⟨bb,bc⟩,cu,h⟩:=uK h;have sx15:=pR ae;rw [cu] at sx15;refine jW rfl (gI (sx15)) ?_;refine goY ?_;obtain⟨⟨bd,be⟩,cv,h⟩:=uK h;have sx16:=pR ad;rw [cv] at sx16;refine jW rfl (gI (sx16)) ?_;refine goY ?_;refine kT (T:=221) (us:=jB [(gF.mk a9 ba),(gF.mk bb bc),(gF.mk bd be)]) ?_;obtain⟨⟨b5,b6⟩,cw,h⟩:=gJ h;refine gDm (sv:=.ag [.S b5,.sl 2 (0+1)]) (L':=[bEx aj ae ad ah aa ab ac y ai,.box [.S [],.nilsl],.arr 223 2 (0+1) (jB b6)]) [2] (f [(gF.mk a9 ba),(gF.mk bb bc),(gF.mk bd be)] y 0 cw) ?_;refine goY ?_;refine mJ ?_;refine goL ?_;refine gV 2 rfl rfl ?_;refine jF ?_;cases h;exact uM
     ·refine goC h ?_ ?_<;>intro ed h
      ·refine jS (P:=Tryz.prog) Mix.h [(0,true),(1,true),(2,true),(3,true),(5,true),(6,true),(4,false),(7,false),(8,false)] (by kernel_rfl) ?_;obtain⟨⟨bf,bg⟩,cx,h⟩:=uK h;have sx19:=pR [110,101,119];rw [cx] at sx19;refine jW rfl (gI (sx19)) ?_;refine goY ?_;obtain⟨⟨bh,bi⟩,cy,h⟩:=uK h;have sx20:=pR ad;rw [cy] at sx20;refine jW rfl (gI (sx20)) ?_;refine goY ?_;refine kT (T:=221) (us:=jB [(gF.mk bf bg),(gF.mk bh bi)]) ?_;obtain⟨⟨b7,b8⟩,cz,h⟩:=gJ h;refine gDm (sv:=.ag [.S b7,.sl 2 (0+1)]) (L':=[bEx aj ae ad ah aa ab ac y ai,.box [.S [],.nilsl],.arr 223 2 (0+1) (jB b8)]) [2] (f [(gF.mk bf bg),(gF.mk bh bi)] y 0 cz) ?_;refine goY ?_;refine mJ ?_;refine goL ?_;refine gV 2 rfl rfl ?_;refine jF ?_;cases h;exact uM
      ·refine goC h ?_ ?_<;>intro ee h
       ·refine jS (P:=Tryz.prog) Mix.h [(0,true),(1,true),(2,true),(3,true),(5,true),(6,true),(4,false),(7,false),(8,false)] (by kernel_rfl) ?_;obtain⟨⟨bj,bk⟩,c0,h⟩:=uK h;have sx23:=pR [108,101,116];rw [c0] at sx23;refine jW rfl (gI (sx23)) ?_;refine goY ?_;obtain⟨⟨bl,bm⟩,c2,h⟩:=uK h;have sx24:=pR ad;rw [c2] at sx24;refine jW rfl (gI (sx24)) ?_;refine goY ?_;refine kT (T:=221) (us:=jB [(gF.mk bj bk),(gF.mk bl bm)]) ?_;obtain⟨⟨b9,ca⟩,c3,h⟩:=gJ h;refine gDm (sv:=.ag [.S b9,.sl 2 (0+1)]) (L':=[bEx aj ae ad ah aa ab ac y ai,.box [.S [],.nilsl],.arr 223 2 (0+1) (jB ca)]) [2] (f [(gF.mk bj bk),(gF.mk bl bm)] y 0 c3) ?_;refine goY ?_;refine mJ ?_;refine goL ?_;refine gV 2 rfl rfl ?_;refine jF ?_;cases h;exact uM
       ·refine goC h ?_ ?_<;>intro ef h
        ·refine jS (P:=Tryz.prog) Mix.h [(0,true),(2,true),(3,true),(1,false),(4,false),(5,false)] (by kernel_rfl) ?_;obtain⟨⟨bn,bo⟩,c5,h⟩:=uK h;have sx27:=pR [105,102];rw [c5] at sx27;refine jW rfl (gI (sx27)) ?_;refine goY ?_;refine kT (T:=221) (us:=jB [(gF.mk bn bo)]) ?_;obtain⟨⟨cb,cc⟩,c6,h⟩:=gJ h;refine gDm (sv:=.ag [.S cb,.sl 2 (0+1)]) (L':=[bEx aj ae ad ah aa ab ac y ai,.box [.S [],.nilsl],.arr 223 2 (0+1) (jB cc)]) [2] (f [(gF.mk bn bo)] y 0 c6) ?_;refine goY ?_;refine mJ ?_;refine goL ?_;refine gV 2 rfl rfl ?_;refine jF ?_;cases h;exact uM
        ·refine goC h ?_ ?_<;>intro eg h
         ·refine jS (P:=Tryz.prog) Mix.h [(0,true),(1,true),(2,true),(4,true),(5,true),(3,false),(6,false),(7,false)] (by kernel_rfl) ?_;refine goY ?_;obtain⟨⟨bp,bq⟩,c8,h⟩:=uK h;have sx30:=pR ad;rw [c8] at sx30;refine jW rfl (gI (sx30)) ?_;refine goY ?_;refine kT (T:=221) (us:=jB [(gF.mk bp bq)]) ?_;obtain⟨⟨cd,ce⟩,da,h⟩:=gJ h;refine gDm (sv:=.ag [.S cd,.sl 2 (0+1)]) (L':=[bEx aj ae ad ah aa ab ac y ai,.box [.S [],.nilsl],.arr 223 2 (0+1) (jB ce)]) [2] (f [(gF.mk bp bq)] y 0 da) ?_;refine goY ?_;refine mJ ?_;refine goL ?_;refine gV 2 rfl rfl ?_;refine jF ?_;cases h;exact uM
         ·refine goC h ?_ ?_<;>intro eh h
          ·refine jS (P:=Tryz.prog) Mix.h [(0,true),(1,true),(2,true),(3,true),(5,true),(6,true),(4,false),(7,false),(8,false)] (by kernel_rfl) ?_;obtain⟨⟨br,bt⟩,db,h⟩:=uK h;have sx33:=pR [112,97,99,107];rw [db] at sx33;refine jW rfl (gI (sx33)) ?_;refine goY ?_;obtain⟨⟨bu,bv⟩,dc,h⟩:=uK h;have sx34:=pR ae;rw [dc] at sx34;refine jW rfl (gI (sx34)) ?_;refine goY ?_;refine kT (T:=221) (us:=jB [(gF.mk br bt),(gF.mk bu bv)]) ?_;obtain⟨⟨cf,cg⟩,dd,h⟩:=gJ h;refine gDm (sv:=.ag [.S cf,.sl 2 (0+1)]) (L':=[bEx aj ae ad ah aa ab ac y ai,.box [.S [],.nilsl],.arr 223 2 (0+1) (jB cg)]) [2] (f [(gF.mk br bt),(gF.mk bu bv)] y 0 dd) ?_;refine goY ?_;refine mJ ?_;refine goL ?_;refine gV 2 rfl rfl ?_;refine jF ?_;cases h;exact uM
          ·refine goC h ?_ ?_<;>intro ei h
           ·refine jS (P:=Tryz.prog) Mix.h [(0,true),(1,true),(2,true),(3,true),(5,true),(6,true),(4,false),(7,false),(8,false)] (by kernel_rfl) ?_;obtain⟨⟨bw,bx⟩,de,h⟩:=uK h;have sx37:=pR [116,104,101];rw [de] at sx37;refine jW rfl (gI (sx37)) ?_;refine goY ?_;obtain⟨⟨bz,b0⟩,df,h⟩:=gJ h;refine jW rfl (gI (gKk _ _ df)) ?_;refine goY ?_;refine kT (T:=221) (us:=jB [(gF.mk bw bx),(gF.mk bz b0)]) ?_;obtain⟨⟨ch,ci⟩,dg,h⟩:=gJ h;refine gDm (sv:=.ag [.S ch,.sl 2 (0+1)]) (L':=[bEx aj ae ad ah aa ab ac y ai,.box [.S [],.nilsl],.arr 223 2 (0+1) (jB ci)]) [2] (f [(gF.mk bw bx),(gF.mk bz b0)] y 0 dg) ?_;refine goY ?_;refine mJ ?_;refine goL ?_;refine gV 2 rfl rfl ?_;refine jF ?_;cases h;exact uM
           ·refine noS ?_;obtain⟨⟨ao,ap⟩,dh,h⟩:=uK h;have sx40:=pR [99,97,115,101];rw [dh] at sx40;obtain⟨⟨am,an⟩,b1,h⟩:=gJ h;refine uC (P:=Tryz.prog) Mix.h (.q 0 (.q 2 (.q 3 (.h 1 (.h 4 (hcT 5 (hzT 6)) (hcT 5 (hcT 4 (hzT 6)))) (hcT 5 (hcT 1 (hcT 4 (hzT 6)))))))) ⟨[(1,.ptr 0 0),(2,.ptr 1 0),(3,.ptr 3 0)],[bEx aj ae ad ah aa ab ac y ai,.box [.S [],.nilsl],.arr 223 2 (0+1) (jB an),.box [.S am,.sl 2 (0+1)]],Tryz.f224.ntmps⟩ (by kernel_rfl) ?_ ?_
            ·refine gGt (jW rfl (gI (sx40)) gZ) ?_;refine goT ?_;refine uD (kT (T:=221) (us:=jB [(gF.mk ao ap)]) gZ) ?_ ?_
             ·refine uD (gDm (sv:=.ag [.S am,.sl 2 (0+1)]) (L':=[bEx aj ae ad ah aa ab ac y ai,.box [.S [],.nilsl],.arr 223 2 (0+1) (jB an)]) [2] (f [(gF.mk ao ap)] y 0 b1) gZ) ?_ ?_
              ·refine goT ?_;refine jL ?_;exact pQ 0 [0,1,2,3]
              refine goT ?_;refine gQ (gDm (sv:=.ag [.S am,.sl 2 (0+1)]) (L':=[bEx aj ae ad ah aa ab ac y ai,.box [.S [],.nilsl],.arr 223 2 (0+1) (jB an),.box [.S [],.nilsl]]) [2] (f [(gF.mk ao ap)] y 0 b1) gZ) ?_;refine goT ?_;refine jL ?_;exact pQ 0 [0,1,2,3]
             refine goT ?_;refine gQ (kT (T:=221) (us:=jB [(gF.mk ao ap)]) gZ) ?_;refine gQ (gDm (sv:=.ag [.S am,.sl 3 (0+1)]) (L':=[bEx aj ae ad ah aa ab ac y ai,.box [.S [],.nilsl],.box [.S [],.nilsl],.arr 223 2 (0+1) (jB an)]) [3] (f [(gF.mk ao ap)] y 0 b1) gZ) ?_;refine goT ?_;refine jL ?_;exact pQ 0 [0,1,3,2]
            refine goL ?_;refine noB ?_;refine yC 0 8 (fun ej=>?_);refine mG (fun(aq:Nat)(a3:List gF)(a4:Nat)=>⟨[(1,.ptr 0 0),(2,.ptr 1 0),(3,.ptr 3 0),(4,.N aq)],[bEx aj ae ad ah aa ab ac y ai,.box [.S [],.nilsl],.arr 223 2 a4 (jB a3),.box [.S am,.sl 2 a4]],Tryz.f224.ntmps⟩) (fun aq a3 a4=>gJk ak (am,an) (ai.drop aq) a3=some r) (fun aq a3 a4=>ai.length - aq) 0 an (0+1) eJ h ?_;rintro aq a3 a4 h;refine goL ?_;refine mR (fun cj=>?_) (fun cj=>?_)
            ·have ar:=vR cj;obtain⟨dz,di,ck⟩:=drop_at ar;rw [ck,gJk.eq_2] at h;obtain⟨cl,d0,⟨dj,dk,dl,dm,⟨cm,cn,co⟩,dn,dp⟩⟩:=dz;refine noS ?_;refine kI (jA ?_);refine goL ?_;refine uN (jR aq (hDv di)) ?_;refine gIb ?_;refine jS (P:=Tryz.prog) Mix.h [(0,true),(1,true),(2,true),(4,true),(5,true),(6,true),(3,false),(7,false),(8,true)] (by kernel_rfl) ?_;refine goY ?_;obtain⟨⟨av,aw⟩,dq,h⟩:=uK h;have sx48:=pR cl;rw [dq] at sx48;refine jW rfl (gI (sx48)) ?_;refine goY ?_;obtain⟨dr,dt,h⟩:=gJ h;refine jW rfl (gI (gU9 _ dt)) ?_;refine kT (T:=221) (us:=jB [(gF.mk av aw)]) ?_;obtain⟨d1,h⟩:=pU h;refine kN (T:=221) d1 ?_;refine goY ?_;refine mJ ?_;refine gIb ?_;refine yL (P:=Tryz.prog) Mix.h [(0,true),(1,true),(2,true),(3,true),(4,true),(5,true),(6,false),(7,false),(8,true),(9,false),(10,false),(11,true),(12,false)] (by kernel_rfl) ?_;refine goY ?_;obtain⟨⟨ax,ay⟩,du,h⟩:=gJ h;refine jW rfl (gI (au _ du)) ?_;refine kT (T:=221) (us:=jB [(gF.mk ax ay)]) ?_;obtain⟨d2,h⟩:=pU h;refine kN (T:=221) d2 ?_;refine goY ?_;refine qC 5 rfl rfl ?_;refine kT (T:=221) (us:=jB [(gF.mk [] (([(gF.mk av aw)]++dr)++[(gF.mk ax ay)]))]) ?_;obtain⟨d3,h⟩:=pU h;refine kN (T:=221) d3 ?_;refine goY ?_;refine mJ ?_;refine goL ?_;refine jP (kD aq (by omega)) ?_;exact⟨(aq+1),(a3++[(gF.mk [] (([(gF.mk av aw)]++dr)++[(gF.mk ax ay)]))]),(a4+1),h,by omega,eJ⟩
            ·have ar:=vS cj;rw [jK ar,gJk.eq_1] at h;refine goX ?_;refine gV 2 rfl rfl ?_;refine jF ?_;cases h;exact uM
mutual
def gSf:Nat→(List gF)→(List gY)→Option (LB × List gF)
 | 0,_,_=>none
 | n+1,f,h=>gSd (gSf n) (gM7 n) f h
def gM7:Nat→gY→Option (gF)
 | 0,_=>none
 | n+1,f=>gYk (gSf n) (gM7 n) f
end
theorem hBp:∀(n:Nat),gSe (gSf n)∧gU0 (gM7 n):=by
 intro n
 induction n with
 | zero=>exact⟨(by intro f q y r h;cases h),(by intro f r h;cases h)⟩
 | succ n ih=>
   obtain⟨ih0,ih1⟩:=ih;refine⟨(fun f q y r h=>hGs ih0 ih1 f q y h),(fun f r h=>hN5 ih0 ih1 f h)⟩
theorem gYl:∀(n:Nat),gU0 (gM7 n):=fun n=>(hBp n).2
def gDq:List gF→(List gP)→Option (List gP)
 | [],f=>(some f)
 | h::xs,f=>bnd (uT h 0) fun q=>
bnd (uT h 1) fun x8=>
bnd (gMn 5000 x8) fun y=>
gd (f.length+[(gP.mk q.atom y)].length≤4294967296) (
gDq xs (f++[(gP.mk q.atom y)]))
def gKj(f:gF):Option (List gP):=
gDq f.list []
theorem gSg(a0:gF){r:List gP}(h:gKj a0=some r):jI Tryz.prog 206 [.d (qJ a0)] [.sl 4 (kC r)]:=by
 obtain⟨ah,q⟩:=a0;unfold gKj at h;refine SpI Tryz.func206 fun A _=>?_;refine goL ?_;refine gAu ?_;refine goL ?_;refine noB ?_;refine yC 0 1 (fun z4=>?_);refine mG (fun(y:Nat)(y1:List gP)(v2:Nat)=>⟨[(1,.ptr 0 0),(3,.sl 1 v2),(4,.N y)],[bSx ah q,.arr 53 4 v2 (kC y1)],Tryz.f206.ntmps⟩) (fun y y1 v2=>gDq (q.drop y) y1=some r) (fun y y1 v2=>q.length - y) 0 [] 0 eJ h ?_;rintro y y1 v2 h;refine goL ?_;refine mR (fun c5=>?_) (fun c5=>?_)
 ·have f:=vR c5;obtain⟨x6,ai,aj⟩:=drop_at f;rw [aj,gDq.eq_2] at h;obtain⟨aq,ar⟩:=x6;refine noS ?_;refine kI (jA ?_);refine yL (P:=Tryz.prog) Mix.h [(0,true),(1,true),(2,true),(3,true),(4,true),(5,true),(6,true),(7,true),(8,true),(9,true),(10,true),(11,true),(12,true),(13,true),(14,true),(15,true),(16,false),(17,false),(18,true)] (by kernel_rfl) ?_;refine goY ?_;refine jW rfl (jR y (vH ai)) ?_;refine goY ?_;obtain⟨⟨aa,au⟩,am,h⟩:=gJ h;refine jW rfl (gI (vE _ _ am)) ?_;refine jW rfl (gIc) ?_;refine goY ?_;refine jW rfl (jR y (vH ai)) ?_;refine goY ?_;obtain⟨⟨av,aw⟩,an,h⟩:=gJ h;refine jW rfl (gI (vE _ _ an)) ?_;obtain⟨⟨ab,ac,ad⟩,ao,h⟩:=gJ h;refine jW rfl (gI (gO3 _ _ ao)) ?_;refine goY ?_;refine kT (T:=38) (us:=kC [(gP.mk aa (gB.mk ab ac ad))]) ?_;obtain⟨ap,h⟩:=pU h;refine kN (T:=38) ap ?_;refine goY ?_;refine mJ ?_;refine goL ?_;refine jP (kD y (by omega)) ?_;exact⟨(y+1),(y1++[(gP.mk aa (gB.mk ab ac ad))]),(v2+1),h,by omega,eJ⟩
 ·have f:=vS c5;rw [jK f,gDq.eq_1] at h;refine goX ?_;refine gV 1 rfl rfl ?_;refine jF ?_;cases h;exact uM
def gE2:List gP→(List gF)→Option (gF)
 | [],f=>(some (gF.mk [] f))
 | h::xs,f=>lt_ (pG h.trait) fun y=>
bnd (gMo 5000 h.type_) fun x8=>
bnd (gIh [y,x8]) fun q=>
gd (f.length+[q].length≤4294967296) (
gE2 xs (f++[q]))
def gMk(f:List gP):Option (gF):=
gE2 f []
theorem gFq(a0:List gP){r:gF}(h:gMk a0=some r):jI Tryz.prog 226 [.L 4 (kC a0)] [qJ r]:=by
 unfold gMk at h;refine SpI Tryz.func226 fun A _=>?_;refine goL ?_;refine yT (jN TBd.h TZ.h rfl (by repeat constructor)) ?_;refine noB ?_;refine qZ 223 2 1 1 rfl rfl (by repeat constructor) (by repeat constructor) (by repeat constructor) (by repeat constructor) ?_;show V _ _ _ _ _;refine gCw 0 (fun z4=>?_);refine mG (fun(q:Nat)(y1:List gF)(v2:Nat)=>⟨[(0,.L 4 (kC a0)),(2,.ptr 0 0),(3,.ptr 1 0),(4,.N q)],[.box [.S [],.nilsl],.box [.S [],.sl 2 v2],.arr 223 2 v2 (jB y1)],Tryz.f226.ntmps⟩) (fun q y1 v2=>gE2 (a0.drop q) y1=some r) (fun q y1 v2=>a0.length - q) 0 [] 0 eJ h ?_;rintro q y1 v2 h;refine goL ?_;refine mR (fun c5=>?_) (fun c5=>?_)
 ·have f:=vR c5;obtain⟨x6,am,an⟩:=drop_at f;rw [an,gE2.eq_2] at h;obtain⟨ao,⟨y,aa,ab⟩⟩:=x6;refine noS ?_;refine kI (jA ?_);refine yL (P:=Tryz.prog) Mix.h [(0,true),(1,true),(2,true),(3,true),(4,true),(5,true),(6,true),(8,true),(9,true),(10,true),(11,true),(12,true),(7,false),(13,false),(14,false),(15,false),(16,false),(17,false),(18,true),(19,false)] (by kernel_rfl) ?_;refine goY ?_;refine jW rfl (jR q (gHi am)) ?_;refine goY ?_;refine jW rfl (jR q (gHi am)) ?_;refine goY ?_;obtain⟨⟨ac,ad⟩,aq,h⟩:=uK h;have sx7:=pR ao;rw [aq] at sx7;refine qD (sx7) ?_;obtain⟨⟨ae,ag⟩,ar,h⟩:=gJ h;refine qD (gKk 5000 (gB.mk y aa ab) ar) ?_;refine kT (T:=221) (us:=jB [(gF.mk ac ad),(gF.mk ae ag)]) ?_;refine qC 3 rfl rfl ?_;obtain⟨⟨ah,ai⟩,au,h⟩:=gJ h;refine qD (gMf [(gF.mk ac ad),(gF.mk ae ag)] au) ?_;refine kT (T:=221) (us:=jB [(gF.mk ah ai)]) ?_;obtain⟨av,h⟩:=pU h;refine kN (T:=221) av ?_;refine goY ?_;refine mJ ?_;refine goL ?_;refine jP (kD q (by omega)) ?_;exact⟨(q+1),(y1++[(gF.mk ah ai)]),(v2+1),h,by omega,eJ⟩
 ·have f:=vS c5;rw [jK f,gE2.eq_1] at h;refine goX ?_;refine gV 2 rfl rfl ?_;refine jF ?_;cases h;exact uM
def gFt(c:gK):Option (LB × gK):=
bnd (gK5 c) fun f=>
bnd (uS f.2 5) fun h=>
(cnd h.1 (
(some (f.1,h.2))) (
gd (f.1.length+([10]:LB).length≤4294967296) (
bnd (gOc h.2) fun q=>
gd ((f.1++([10]:LB)).length+q.1.length≤4294967296) (
(some (((f.1++([10]:LB))++q.1),q.2))))))
theorem gSr(c:gK){r:LB × gK}(h:gFt c=some r):Go.Eng.Spec Tryz.prog 99 [.ptr 0 0] [bCu c.b c.i c.h] (fun sv Lo=>sv=.S r.1∧Lo=[bCu r.2.b r.2.i r.2.h]):=by
 obtain⟨aj,ak,al⟩:=c;unfold gFt at h;refine kJ 1 Tryz.func99 rfl (by kernel_rfl) rfl rfl fun A _=>?_;refine goL ?_;obtain⟨⟨ad,⟨f,q,y⟩⟩,am,h⟩:=gJ h;refine mI 0 (hCw (gK.mk aj ak al) am) ?_;refine goL ?_;obtain⟨⟨ap,⟨aa,ab,ac⟩⟩,an,h⟩:=gJ h;refine mI 0 (wB (gK.mk f q y) 5 an) ?_;refine goC h ?_ ?_<;>intro c3 h
 ·refine goL ?_;refine jF ?_;obtain rfl:=Option.some.inj h;exact gAg [.S ad] _ ⟨rfl,rfl⟩
 ·refine goS ?_;obtain⟨g4,h⟩:=pU h;refine jP (zB g4) ?_;obtain⟨⟨ae,⟨ag,ah,ai⟩⟩,ao,h⟩:=gJ h;refine mI 0 (hJw (gK.mk aa ab ac) ao) ?_;obtain⟨g6,h⟩:=pU h;refine jP (zB g6) ?_;refine jF ?_;obtain rfl:=Option.some.inj h;exact gAg [.d (.s ((ad++([10]:LB))++ae))] _ ⟨rfl,rfl⟩
def vX(c:gK):Prop:=0≤c.i∧c.b.length≤1048576
theorem hN6(c:gK)(h:vX c):∃x c',gGs c=some (x,c')∧0≤x∧x≤255∧vX c':=by
 obtain⟨f,q⟩:=h;unfold gGs;cases hc:decide (c.i < (c.b.length:Int))with
 | true=>
   have y:=of_decide_eq_true hc;have hx:at? c.b c.i=some (c.b[c.i.toNat]'(by omega)):=by unfold at?;rw [if_pos f];exact List.getElem?_eq_getElem _
   simp only [jQ];rw [jV hx];refine⟨_,_,rfl,(gPx _).1,(gPx _).2,?_,q⟩;simp only;rw [zV _ (by omega) (by omega)];omega
 | false=>exact⟨_,_,rfl,(gPx _).1,(gPx _).2,f,q⟩
theorem gOd(c:gK)(n:Int)(h:vX c)(f:0 < n)(q:n≤256):∃x c',kW c n=some (x,c')∧0≤x∧x < n∧vX c':=by
 obtain⟨x,c',e,y,e2,e3⟩:=hN6 c h;unfold kW;rw [show decide (n≤0)=false from decide_eq_false (by omega),show decide (n≤256)=true from decide_eq_true q];simp only [jQ,gW];rw [jV e,qN (by omega)];exact⟨_,_,rfl,Int.tmod_nonneg _ y,Int.tmod_lt_of_pos _ f,e3⟩
theorem hGt(c:gK)(l:LS)(h:vX c)(y:0 < l.length)(h1:l.length≤256):∃x c',pK c l=some (x,c')∧vX c'∧x∈l:=by
 obtain⟨x,c',e,f,e2,q⟩:=gOd c l.length h (by omega) (by omega);unfold pK;have hx:at? l x=some (l[x.toNat]'(by omega)):=by unfold at?;rw [if_pos f];exact List.getElem?_eq_getElem _
 rw [jV e,jV hx];exact⟨_,_,rfl,q,List.getElem_mem _⟩
theorem gO2(c:gK)(n:Int)(h:vX c)(f:0 < n)(q:n≤256):∃x c',uS c n=some (x,c')∧vX c':=by
 obtain⟨x,c',e,_,_,y⟩:=gOd c n h f q;unfold uS;rw [jV e];exact⟨_,_,rfl,y⟩
theorem hJ6(b:Bool):fmt (gUz b)=(40::(gTb gWt++gD0 hGo))++gD0 (gZ7 b)++gD0 hGp++[41]:=by
 have h:gWt≠[]:=by simp [gWt]
 simp only [gUz,kL,fmt,gZ8 _ h,gIs,List.cons_append,List.append_assoc]
theorem hN7(h:List gF)(m:gF)(f q y:List gF):fmt (hN4 h m f q y)=(40::(gTb gWu++gD0 hNy))++gD0 h++gD0 [gWv m]++gD0 f++gD0 q++gD0 y++[41]:=by
 have h0:gWu≠[]:=by simp [gWu]
 have h1:∀l:List gF,gD0 (gWv m::l)=gD0 [gWv m]++gD0 l:=fun l=>gIs [gWv m] l;simp only [hN4,kL,fmt];rw [gZ8 _ h0,gIs,gIs,h1,gIs,gIs];simp only [List.cons_append,List.append_assoc]
theorem hW7:([yH,yI,zM,gAj,gDs,gDt,vT,wF,yJ,wU,yX,gAa].all fun l=>decide (l.length≤1000))=true:=by kernel_rfl
theorem hW8:(([mO,zK,gHx,gHy,gHz]++hGq.map gD0++hGr.map fmt).all fun l=>decide (l.length≤1000))=true:=by kernel_rfl
set_option maxRecDepth 100000 in
theorem hN8(c:gK)(h:vX c):∃b c',gK5 c=some (fmt (gUz b),c')∧vX c':=by
 have hl:∀l∈[yH,yI,zM,gAj,gDs,gDt,vT,wF,yJ,wU,yX,gAa],l.length≤1000:=fun l hm=>of_decide_eq_true (List.all_eq_true.1 hW7 l hm);have l1:=hl yH (.head _);have l2:=hl yI (.tail _ (.head _));have l3:=hl zM (.tail _ (.tail _ (.head _)));have l4:=hl gAj (.tail _ (.tail _ (.tail _ (.head _))));have l5:=hl gDs (.tail _ (.tail _ (.tail _ (.tail _ (.head _)))));have l6:=hl gDt (.tail _ (.tail _ (.tail _ (.tail _ (.tail _ (.head _))))));have l7:=hl vT (.tail _ (.tail _ (.tail _ (.tail _ (.tail _ (.tail _ (.head _)))))));have l8:=hl wF (.tail _ (.tail _ (.tail _ (.tail _ (.tail _ (.tail _ (.tail _ (.head _))))))));have l9:=hl yJ (.tail _ (.tail _ (.tail _ (.tail _ (.tail _ (.tail _ (.tail _ (.tail _ (.head _)))))))));have ad:=hl wU (.tail _ (.tail _ (.tail _ (.tail _ (.tail _ (.tail _ (.tail _ (.tail _ (.tail _ (.head _))))))))));have ae:=hl yX (.tail _ (.tail _ (.tail _ (.tail _ (.tail _ (.tail _ (.tail _ (.tail _ (.tail _ (.tail _ (.head _)))))))))));have ag:=hl gAa (.tail _ (.tail _ (.tail _ (.tail _ (.tail _ (.tail _ (.tail _ (.tail _ (.tail _ (.tail _ (.tail _ (.head _))))))))))));clear hl;obtain⟨x,c',e,q⟩:=gO2 c 2 h (by omega) (by omega);have y:=hWq;have t1:=hWr;have t2:=hWt;have t3:=hWu;have f:=hJ6;rw [←y,←t3] at f;have ft:=f true;have ff:=f false;rw [←t1] at ft;rw [←t2] at ff;clear f y t1 t2 t3;unfold gK5;generalize yH=a1 at *;generalize yI=a2 at *;generalize zM=a3 at *;generalize gAj=a4 at *;generalize gDs=a5 at *;generalize gDt=a6 at *;generalize vT=a7 at *;generalize wF=a8 at *;generalize yJ=a9 at *;generalize wU=ah at *;generalize yX=ai at *;generalize gAa=aj at *;rw [qN (by omega),qN (by simp only [List.length_append];omega),qN (by simp only [List.length_append];omega),jV e];cases x with
 | true=>
   simp only [jQ];rw [qN (by simp only [List.length_append];omega)];simp only [bnd]
   iterate 7 rw [qN (by simp only [List.length_append,List.length_cons,List.length_nil];omega)]
   refine⟨true,c',?_,q⟩;rw [ft];simp only [List.append_assoc]
 | false=>
   simp only [gW];rw [qN (by simp only [List.length_append];omega)];simp only [bnd]
   iterate 7 rw [qN (by simp only [List.length_append,List.length_cons,List.length_nil];omega)]
   refine⟨false,c',?_,q⟩;rw [ff];simp only [List.append_assoc]
theorem hGu{x:Bool × gK}{b s:LB}{o:List gF}(hs:s=gD0 o)(hl:b.length+s.length≤4294967296):∃o',(o'=[]∨o'=o)∧(cnd x.1 (gd (b.length+s.length≤4294967296) (some (b++s))) (some b))=some (b++gD0 o'):=by
 cases x.1 with
 | true=>exact⟨o,.inr rfl,by simp only [jQ];rw [qN hl,hs]⟩
 | false=>exact⟨[],.inl rfl,by simp [gW,gD0]⟩
set_option maxRecDepth 100000 in
theorem hQg(c:gK)(h:vX c):∃hd m f q y c',gOc c=some (fmt (hN4 hd m f q y),c')∧vX c'∧hd∈hGq∧m∈hGr∧(f=[]∨f=hNz)∧(q=[]∨q=hN2)∧(y=[]∨y=hN3):=by
 have hl:=hW8;have k1:=hWv;have k2:=hWx;have k3:=hWy;have k4:=hWz;have k5:=hW4;have k6:=hW5;have k7:=hW6;rw [←k2,←k3] at hl;have hh:∀l∈[gC3,gC4,gC5,gC6,gC7,gC8,gC9],∃hd∈hGq,l=gD0 hd:=fun l hm=>by
  rw [k2] at hm;obtain⟨a,h1,h2⟩:=List.mem_map.1 hm;exact⟨a,h1,h2.symm⟩
 have hm:∀l∈[[40,99,97,108,108,32,98,111,116,104,32,53,41],gBd,gBe,gBf,gBg,gBh,gBi,gBj,gBk,gBl],∃m∈hGr,l=fmt m:=fun l hm=>by
  rw [k3] at hm;obtain⟨a,h1,h2⟩:=List.mem_map.1 hm;exact⟨a,h1,h2.symm⟩
 rw [List.all_append,List.all_append] at hl;simp only [Bool.and_eq_true,List.all_eq_true,decide_eq_true_eq] at hl;obtain⟨⟨hl1,hl2⟩,hl3⟩:=hl;have l1:=hl1 mO (by simp);have l9:=hl1 zK (by simp);have ac:=hl1 gHx (by simp);have ad:=hl1 gHy (by simp);have ae:=hl1 gHz (by simp);obtain⟨x,c1,e1,e2,e3,e4⟩:=gOd c 8 h (by omega) (by omega);unfold gOc;rw [jV e1];have hb:∃l∈[gC3,gC4,gC5,gC6,gC7,gC8,gC9],(cnd (x==0) (gd (mO.length+gC3.length≤4294967296) (some (mO++gC3))) (cnd (x==1) (gd (mO.length+gC4.length≤4294967296) (some (mO++gC4))) (cnd (x==2) (gd (mO.length+gC5.length≤4294967296) (some (mO++gC5))) (cnd (x==3) (gd (mO.length+gC6.length≤4294967296) (some (mO++gC6))) (cnd (x==4) (gd (mO.length+gC7.length≤4294967296) (some (mO++gC7))) (cnd (x==5) (gd (mO.length+gC8.length≤4294967296) (some (mO++gC8))) (gd (mO.length+gC9.length≤4294967296) (some (mO++gC9)))))))))=some (mO++l):=by
  have g:∀l∈[gC3,gC4,gC5,gC6,gC7,gC8,gC9],gd (mO.length+l.length≤4294967296) (some (mO++l))=some (mO++l):=fun l hm=>qN (by have:=hl2 l hm;omega);cases x==0 with
  | true=>exact⟨gC3,by simp,by rw [jQ];exact g _ (by simp)⟩
  | false=>
  cases x==1 with
  | true=>exact⟨gC4,by simp,by rw [gW,jQ];exact g _ (by simp)⟩
  | false=>
  cases x==2 with
  | true=>exact⟨gC5,by simp,by rw [gW,gW,jQ];exact g _ (by simp)⟩
  | false=>
  cases x==3 with
  | true=>exact⟨gC6,by simp,by rw [gW,gW,gW,jQ];exact g _ (by simp)⟩
  | false=>
  cases x==4 with
  | true=>exact⟨gC7,by simp,by rw [gW,gW,gW,gW,jQ];exact g _ (by simp)⟩
  | false=>
  cases x==5 with
  | true=>exact⟨gC8,by simp,by rw [gW,gW,gW,gW,gW,jQ];exact g _ (by simp)⟩
  | false=>exact⟨gC9,by simp,by rw [gW,gW,gW,gW,gW,gW];exact g _ (by simp)⟩
 obtain⟨l,hlm,hb⟩:=hb;rw [jV hb];have ll:=hl2 l hlm;obtain⟨hd,q1,rfl⟩:=hh l hlm;rw [qN (by simp only [List.length_append];omega)];obtain⟨t,c2,f1,f2,f3⟩:=hGt c1 [[40,99,97,108,108,32,98,111,116,104,32,53,41],gBd,gBe,gBf,gBg,gBh,gBi,gBj,gBk,gBl] e4 (by simp) (by simp);rw [jV f1];have lt:=hl3 t f3;obtain⟨m,q2,rfl⟩:=hm t f3;rw [qN (by simp only [List.length_append];omega),qN (by simp only [List.length_append,List.length_cons,List.length_nil];omega)];obtain⟨y1,c3,g1,g2⟩:=gO2 c2 2 f2 (by omega) (by omega);rw [jV g1];obtain⟨f,q3,r1⟩:=hGu (x:=(y1,c3)) (b:=mO++gD0 hd++zK++fmt m++[41]) k5 (by simp only [List.length_append,List.length_cons,List.length_nil];omega)
 have lo1:(gD0 f).length≤1000:=by rcases q3 with rfl | rfl;· simp [gD0]
                                  ·rw [←k5];exact ac
 rw [jV r1];obtain⟨y2,c4,g3,g4⟩:=gO2 c3 3 g2 (by omega) (by omega);rw [jV g3];obtain⟨q,q4,r2⟩:=hGu (x:=(y2,c4)) (b:=mO++gD0 hd++zK++fmt m++[41]++gD0 f) k6 (by simp only [List.length_append,List.length_cons,List.length_nil];omega)
 have lo2:(gD0 q).length≤1000:=by rcases q4 with rfl | rfl;· simp [gD0]
                                  ·rw [←k6];exact ad
 rw [jV r2];obtain⟨y3,c5,g5,g6⟩:=gO2 c4 4 g4 (by omega) (by omega);rw [jV g5];obtain⟨y,q5,r3⟩:=hGu (x:=(y3,c5)) (b:=mO++gD0 hd++zK++fmt m++[41]++gD0 f++gD0 q) k7 (by simp only [List.length_append,List.length_cons,List.length_nil];omega)
 have lo3:(gD0 y).length≤1000:=by rcases q5 with rfl | rfl;· simp [gD0]
                                  ·rw [←k7];exact ae
 rw [jV r3,qN (by simp only [List.length_append,List.length_cons,List.length_nil];omega)];refine⟨hd,m,f,q,y,c5,?_,g6,q1,q2,q3,q4,q5⟩;rw [hN7,←k1,←k4 m];simp only [List.append_assoc]
end Go.Proofs.YtfpdlnkkcnmebaaGreat
