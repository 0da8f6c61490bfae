import Derived.Test.YtfpdlnkkcnmebaaGreatFa
set_option maxHeartbeats 4000000
set_option linter.unusedVariables false
set_option linter.unusedSimpArgs false
set_option linter.unusedSectionVars false
namespace Go.Proofs.YtfpdlnkkcnmebaaGreat
open Go Go.Eng
attribute [local irreducible] V VO VQ VY Quiet QR jI mK Rng qE qA pX
def uA(f:yO→gP→Int→Option (gH × Int))(q:yO)(a2:Int)(ac:gD × Int)(aa:List gU × Bool):List gP→(List gH)→Option (gH × Int)
 | [],h=>(some ((gH.mk 1 0 ac.1 h),0))
 | ab::xs,h=>gd (bok aa.1∧tok ab.type_) (lt_ (apT aa.1 ab.type_) fun ad=>
bnd (f q (gP.mk ab.trait ad) (IntKind.i64.wrap (a2+1))) fun y=>
(cnd (y.2 != 0) (
(some ((gH.mk 0 0 (gD.mk 0 0) []),y.2))) (
gd (h.length+[y.1].length≤4294967296) (
uA f q a2 ac aa xs (h++[y.1])))))
def vV(f:yO→gP→Int→Option (gH × Int))(q:yO)(a2:Int)(ac:gD × Int)(aa:List gU × Bool):List gP→(List gH)→Option (gH × Int)
 | [],h=>(some ((gH.mk 1 0 ac.1 h),0))
 | ab::xs,h=>gd (bok aa.1∧tok ab.type_) (lt_ (apT aa.1 ab.type_) fun ad=>
bnd (f q (gP.mk ab.trait ad) (IntKind.i64.wrap (a2+1))) fun y=>
(cnd (y.2 != 0) (
(some ((gH.mk 0 0 (gD.mk 0 0) []),y.2))) (
gd (h.length+[y.1].length≤4294967296) (
vV f q a2 ac aa xs (h++[y.1])))))
def gCo(f:yO→gP→Int→Option (gH × Int))(q:yO)(a1:gP)(a2:Int):Option (gH × Int):=
bnd (gP2 q.assumed a1) fun x1=>
(cnd (decide (x1≥0)) (
bnd (at? q.assumed x1) fun x3=>
bnd (gDz (gH.mk 2 x3.from_ (gD.mk 0 0) []) x3.steps) fun x4=>
(some (x4,0))) (
(cnd (decide (a2≥12)) (
(some ((gH.mk 0 0 (gD.mk 0 0) []),3))) (
lt_ (gAp q.w a1.trait) fun x6=>
lt_ ((cnd x6.2.2 (x6.1.auto) (false))) fun b7=>
(cnd b7 (
none) (
bnd ((cnd (a1.type_.kind==1) (
(some (a1.type_.kind==1))) (
(some (a1.type_.kind==3))))) fun ad=>
(cnd ad (
(some ((gH.mk 0 0 (gD.mk 0 0) []),1))) (
(cnd (a1.type_.kind==4) (
bnd (wH q.w a1.type_.name a1.trait) fun aa=>
(cnd aa.2 (
bnd (gDz (gH.mk 4 0 (gD.mk 0 0) []) aa.1) fun ae=>
(some (ae,0))) (
bnd (gHn q.w a1) fun h=>
(cnd (h.2 != 0) (
(some ((gH.mk 0 0 (gD.mk 0 0) []),h.2))) (
bnd (gFb q.w h.1) fun ab=>
bnd (gEr ab.1.head a1.type_) fun ag=>
uA f q a2 h ag ab.1.where_ []))))) (
bnd (gHn q.w a1) fun y=>
(cnd (y.2 != 0) (
(some ((gH.mk 0 0 (gD.mk 0 0) []),y.2))) (
bnd (gFb q.w y.1) fun ac=>
bnd (gEr ac.1.head a1.type_) fun ah=>
vV f q a2 y ah ac.1.where_ []))))))))))))
theorem gRy{y:yO→gP→Int→Option (gH × Int)}(f:∀(x0:yO)(x1:gP)(x2:Int){r:gH × Int},y x0 x1 x2=some r→Go.Eng.Spec Tryz.prog 44 [.ptr 0 0,.d (yF x1),.I x2] [.box [.L 6 (mE x0.w.packages),.L 6 (jU x0.assumed)]] (fun sv Lo=>sv=.tup [.d (mZ r.1),.I r.2]∧Lo=[.box [.L 6 (mE x0.w.packages),.L 6 (jU x0.assumed)]]))(q:yO)(a1:gP)(a2:Int){r:gH × Int}(h:gCo y q a1 a2=some r):Go.Eng.Spec Tryz.prog 44 [.ptr 0 0,.d (yF a1),.I a2] [.box [.L 6 (mE q.w.packages),.L 6 (jU q.assumed)]] (fun sv Lo=>sv=.tup [.d (mZ r.1),.I r.2]∧Lo=[.box [.L 6 (mE q.w.packages),.L 6 (jU q.assumed)]]):=by
 obtain⟨⟨aa⟩,av⟩:=q;obtain⟨a6,⟨au,aw,ax⟩⟩:=a1;unfold gCo at h;refine kJ 1 Tryz.func44 rfl (by kernel_rfl) rfl rfl fun A _=>?_;refine goL ?_;obtain⟨x1,dz,h⟩:=gJ h;refine gDi (gI (hI6 _ _ dz)) ?_;refine goC h ?_ ?_<;>intro c2 h
 ·refine goL ?_;obtain⟨x3,cu,h⟩:=gJ h;obtain⟨dd,cu⟩:=gBm cu;obtain⟨⟨dx,⟨c8,da,db⟩⟩,de,df⟩:=x3;refine jP (uL dd (gHl cu)) ?_;refine yT (jN TBd.h TZ.h rfl (by repeat constructor)) ?_;obtain⟨⟨dg,dh,⟨cs,ct⟩,di⟩,d0,h⟩:=gJ h;refine gE3 (gHr (gH.mk 2 de (gD.mk 0 0) []) df d0) ?_;refine goL ?_;refine mP 4 rfl rfl ?_;refine jF ?_;obtain rfl:=Option.some.inj h;exact gB5 [.d (.st [.i .i64 dg,.i .i64 dh,.st [.i .i64 cs,.i .i64 ct],.sl 5 (jE di)]),.I 0] [.box [.L 6 (mE aa),.L 6 (jU av)]] ⟨rfl,rfl⟩
 ·refine goS ?_;refine mR (fun c5=>?_) (fun c5=>?_)
  ·replace h:=kU c5 h;refine goL ?_;refine yT (jN TBd.h TZ.h rfl (by repeat constructor)) ?_;refine jF ?_;obtain rfl:=Option.some.inj h;exact gAg [.d (.st [.i .i64 0,.i .i64 0,.st [.i .i64 0,.i .i64 0],.sl 5 []]),.I 3] _ ⟨rfl,rfl⟩
  ·replace h:=kV c5 h;refine noS ?_;refine gIb ?_;refine jS (P:=Tryz.prog) Mix.h [(0,true),(1,true),(2,true),(3,true),(4,true),(5,true),(6,true),(7,true),(8,true),(9,true),(10,true),(11,false),(12,false),(13,true),(14,true)] (by kernel_rfl) ?_;refine goY ?_;obtain⟨⟨⟨ay,a0,a3,a4,a5⟩,ee,ef⟩,d2,h⟩:=uK h;have sx6:=gP1 (gM.mk aa) a6;rw [d2] at sx6;refine jW rfl (gI (sx6)) ?_;refine goY ?_;refine mJ ?_;refine goL ?_;obtain⟨b7,hb7,h⟩:=uK h;refine kH ⟨[(0,.ptr 0 0),(2,.I a2),(4,.ptr 1 0),(6,.ptr 2 0),(66,.B b7)],[.box [.L 6 (mE aa),.L 6 (jU av)],bBd a6 au aw ax,.box [.I 0,.I 0,.I 0,.I 0,.nilsl],bTr ay a0 a3 a4 a5],Tryz.f44.ntmps⟩ ?_ ?_
   ·exact gqZ 63 hb7
   refine goC h ?_ ?_<;>intro c9 h
   ·cases h
   ·refine goS ?_;refine jA ?_;refine goL ?_;obtain⟨d3,hb10,h⟩:=gJ h;refine wY ⟨[(0,.ptr 0 0),(2,.I a2),(4,.ptr 1 0),(6,.ptr 2 0),(80,.I au),(81,.B d3)],[.box [.L 6 (mE aa),.L 6 (jU av)],bBd a6 au aw ax,.box [.I 0,.I 0,.I 0,.I 0,.nilsl],bTr ay a0 a3 a4 a5],Tryz.f44.ntmps⟩ ?_ ?_
    ·refine mR (fun cv=>?_) (fun cv=>?_)
     ·replace hb10:=kU cv hb10;refine vN ?_;cases hb10;exact eJ
     ·replace hb10:=kV cv hb10;refine goL ?_;cases hb10;exact eJ
    refine goC h ?_ ?_<;>intro ei h
    ·refine goL ?_;refine yT (jN TBd.h TZ.h rfl (by repeat constructor)) ?_;refine jF ?_;obtain rfl:=Option.some.inj h;exact gAg [.d (.st [.i .i64 0,.i .i64 0,.st [.i .i64 0,.i .i64 0],.sl 5 []]),.I 1] _ ⟨rfl,rfl⟩
    ·refine goC h ?_ ?_<;>intro ej h
     ·refine goL ?_;obtain⟨⟨cw,d4⟩,dj,h⟩:=gJ h;refine gDi (gI (gJb _ _ _ dj)) ?_;refine goC h ?_ ?_<;>intro ek h
      ·refine goL ?_;refine yT (jN TBd.h TZ.h rfl (by repeat constructor)) ?_;obtain⟨⟨cx,cy,⟨cm,cn⟩,cz⟩,dk,h⟩:=gJ h;refine gE3 (gHr (gH.mk 4 0 (gD.mk 0 0) []) cw dk) ?_;refine goL ?_;refine mP 4 rfl rfl ?_;refine jF ?_;obtain rfl:=Option.some.inj h;exact gB5 [.d (.st [.i .i64 cx,.i .i64 cy,.st [.i .i64 cm,.i .i64 cn],.sl 5 (jE cz)]),.I 0] [.box [.L 6 (mE aa),.L 6 (jU av)]] ⟨rfl,rfl⟩
      ·refine noS ?_;refine jS (P:=Tryz.prog) Mix.h [(0,true),(1,true),(2,true),(3,true),(4,true),(5,true),(6,true),(7,true),(8,true),(9,false),(10,false),(11,true)] (by kernel_rfl) ?_;refine goY ?_;obtain⟨⟨⟨ai,aj⟩,co⟩,dl,h⟩:=gJ h;refine jW rfl (gI (gVy _ _ dl)) ?_;refine goY ?_;refine mJ ?_;refine goC h ?_ ?_<;>intro el h
       ·refine goL ?_;refine yT (jN TBd.h TZ.h rfl (by repeat constructor)) ?_;refine jF ?_;obtain rfl:=Option.some.inj h;exact gAg [.d (.st [.i .i64 0,.i .i64 0,.st [.i .i64 0,.i .i64 0],.sl 5 []]),.I co] _ ⟨rfl,rfl⟩
       ·refine noS ?_;refine jS (P:=Tryz.prog) Mix.h [(0,true),(1,true),(2,true),(3,true),(4,true),(5,true),(6,true),(7,true),(8,true),(9,false),(10,false),(11,true)] (by kernel_rfl) ?_;refine goY ?_;obtain⟨⟨⟨bw,bx,⟨a7,a8,a9⟩,ag,bz,b0,⟨ba,bb,bc⟩,b1⟩,d5⟩,dm,h⟩:=gJ h;refine jW rfl (gI (gOn _ _ dm)) ?_;refine goY ?_;refine mJ ?_;refine goL ?_;obtain⟨⟨bn,c0⟩,dn,h⟩:=gJ h;refine jP (gI (gQt _ _ dn)) ?_;refine yT (jN TBd.h TZ.h rfl (by repeat constructor)) ?_;refine noB ?_;refine qZ 51 5 6 4 rfl rfl (by repeat constructor) (by repeat constructor) (by repeat constructor) (by repeat constructor) ?_;show V _ _ _ _ _;refine gCw 137 (fun em=>?_);refine mG (fun(bl:Nat)(b2:List gH)(b3:Nat)=>⟨[(0,.ptr 0 0),(2,.I a2),(6,.ptr 2 0),(20,.L 4 (jY bn)),(22,.ptr 6 0),(137,.L 4 (kC ag)),(138,.I (ag.length:Int)),(139,.N bl)],[.box [.L 6 (mE aa),.L 6 (jU av)],bBd a6 au aw ax,.box [.I 0,.I 0,.I 0,.I 0,.nilsl],bTr ay a0 a3 a4 a5,.box [.I ai,.I aj],bIn bw bx a7 a8 a9 ag bz b0 ba bb bc b1,.box [.I 1,.I 0,.I ai,.I aj,.sl 7 b3],.arr 51 5 b3 (jE b2)],Tryz.f44.ntmps⟩) (fun bl b2 b3=>uA y (yO.mk (gM.mk aa) av) a2 ((gD.mk ai aj),co) (bn,c0) (ag.drop bl) b2=some r) (fun bl b2 b3=>ag.length - bl) 0 [] 0 eJ h ?_;rintro bl b2 b3 h;refine goL ?_;refine kI (mR (fun c1=>?_) (fun c1=>?_))
        ·have bo:=vR c1;obtain⟨d6,dp,c3⟩:=drop_at bo;rw [c3,uA.eq_2] at h;obtain⟨bp,⟨b4,b5,b6⟩⟩:=d6;refine noS ?_;refine kI (jA ?_);refine goL ?_;refine uN (jR bl (gHi dp)) ?_;refine gIb ?_;obtain⟨d7,h⟩:=pU h;obtain⟨⟨ci,cj,bq⟩,dq,h⟩:=uK h;have sx28:=gZ3 bn (gB.mk b4 b5 b6) d7;rw [dq] at sx28;obtain⟨⟨⟨ak,al,⟨ab,ac⟩,am⟩,bd⟩,cp,h⟩:=gJ h;refine uC (P:=Tryz.prog) Mix.h (q3T 0 (q3T 3 (.q 8 (.q 9 (.h 6 (.q 7 (.h 10 (q3T 11 (hcT 14 (hcT 15 (.q 16 .nil)))) (hcT 14 (hcT 10 (q3T 11 (hcT 15 (.q 16 .nil))))))) (hcT 14 (hcT 6 (.q 7 (hcT 10 (q3T 11 (hcT 15 (.q 16 .nil)))))))))))) ⟨[(0,.ptr 0 0),(2,.I a2),(6,.ptr 2 0),(20,.L 4 (jY bn)),(22,.ptr 6 0),(25,.ptr 10 0),(26,.I bd),(137,.L 4 (kC ag)),(138,.I (ag.length:Int)),(139,.N bl)],[.box [.L 6 (mE aa),.L 6 (jU av)],bBd a6 au aw ax,.box [.I 0,.I 0,.I 0,.I 0,.nilsl],bTr ay a0 a3 a4 a5,.box [.I ai,.I aj],bIn bw bx a7 a8 a9 ag bz b0 ba bb bc b1,.box [.I 1,.I 0,.I ai,.I aj,.sl 7 b3],.arr 51 5 b3 (jE b2),bBd bp b4 b5 b6,.frz 37 3 0 (gN bq),.box [.I ak,.I al,.I ab,.I ac,.L 5 (jE am)]],Tryz.f44.ntmps⟩ (by kernel_rfl) ?_ ?_
         ·refine mU ?_;refine gXn rfl (pV) ?_;refine uD (gRi (sx28) gZ) ?_ ?_
          ·refine mU ?_;refine uD (gGi 9 rfl rfl (gRm (sv:=.tup [.d (.st [.i .i64 ak,.i .i64 al,.st [.i .i64 ab,.i .i64 ac],.sl 5 (jE am)]),.I bd]) [0] (f (yO.mk (gM.mk aa) av) (gP.mk bp (gB.mk ci cj bq)) (IntKind.i64.wrap (a2+1)) cp) gZ)) ?_ ?_
           ·refine mU ?_;refine jL ?_;exact pQ 1 [0,1,2,3,4,5,6,7,8,9,10]
           refine mU ?_;refine gQ (gGi 9 rfl rfl (gRm (sv:=.tup [.d (.st [.i .i64 ak,.i .i64 al,.st [.i .i64 ab,.i .i64 ac],.sl 5 (jE am)]),.I bd]) [0] (f (yO.mk (gM.mk aa) av) (gP.mk bp (gB.mk ci cj bq)) (IntKind.i64.wrap (a2+1)) cp) gZ)) ?_;refine mU ?_;refine jL ?_;exact pQ 1 [0,1,2,3,4,5,6,7,8,9,10]
          refine mU ?_;refine gQ (gRi (sx28) gZ) ?_;refine mU ?_;refine gQ (gGi 10 rfl rfl (gRm (sv:=.tup [.d (.st [.i .i64 ak,.i .i64 al,.st [.i .i64 ab,.i .i64 ac],.sl 5 (jE am)]),.I bd]) [0] (f (yO.mk (gM.mk aa) av) (gP.mk bp (gB.mk ci cj bq)) (IntKind.i64.wrap (a2+1)) cp) gZ)) ?_;refine mU ?_;refine jL ?_;exact pQ 1 [0,1,2,3,4,5,6,7,8,10,9]
         refine goC h ?_ ?_<;>intro en h
         ·refine goL ?_;refine yT (jN TBd.h TZ.h rfl (by repeat constructor)) ?_;refine jF ?_;obtain rfl:=Option.some.inj h;exact gAg [.d (.st [.i .i64 0,.i .i64 0,.st [.i .i64 0,.i .i64 0],.sl 5 []]),.I bd] _ ⟨rfl,rfl⟩
         ·refine goS ?_;refine uO (u:=(.st [.i .i64 ak,.i .i64 al,.st [.i .i64 ab,.i .i64 ac],.sl 5 (jE am)])) ?_;obtain⟨d8,h⟩:=pU h;refine gAd d8 ?_;refine goL ?_;refine jP (kD bl (by omega)) ?_;exact⟨(bl+1),(b2++[(gH.mk ak al (gD.mk ab ac) am)]),(b3+1),h,by omega,eJ⟩
        ·have bo:=vS c1;rw [jK bo,uA.eq_1] at h;refine goX ?_;refine gV 7 rfl rfl ?_;refine jF ?_;obtain rfl:=Option.some.inj h;exact gB5 [.d (.st [.i .i64 1,.i .i64 0,.st [.i .i64 ai,.i .i64 aj],.sl 5 (jE b2)]),.I 0] [.box [.L 6 (mE aa),.L 6 (jU av)]] ⟨rfl,rfl⟩
     ·refine noS ?_;refine jS (P:=Tryz.prog) Mix.h [(0,true),(1,true),(2,true),(3,true),(4,true),(5,true),(6,true),(7,true),(8,true),(9,false),(10,false),(11,true)] (by kernel_rfl) ?_;refine goY ?_;obtain⟨⟨⟨an,ao⟩,cq⟩,dr,h⟩:=gJ h;refine jW rfl (gI (gVy _ _ dr)) ?_;refine goY ?_;refine mJ ?_;refine goC h ?_ ?_<;>intro eo h
      ·refine goL ?_;refine yT (jN TBd.h TZ.h rfl (by repeat constructor)) ?_;refine jF ?_;obtain rfl:=Option.some.inj h;exact gAg [.d (.st [.i .i64 0,.i .i64 0,.st [.i .i64 0,.i .i64 0],.sl 5 []]),.I cq] _ ⟨rfl,rfl⟩
      ·refine noS ?_;refine jS (P:=Tryz.prog) Mix.h [(0,true),(1,true),(2,true),(3,true),(4,true),(5,true),(6,true),(7,true),(8,true),(9,false),(10,false),(11,true)] (by kernel_rfl) ?_;refine goY ?_;obtain⟨⟨⟨b8,b9,⟨be,bf,bg⟩,ah,ca,cb,⟨bh,bi,bj⟩,cc⟩,d9⟩,dt,h⟩:=gJ h;refine jW rfl (gI (gOn _ _ dt)) ?_;refine goY ?_;refine mJ ?_;refine goL ?_;obtain⟨⟨br,c4⟩,du,h⟩:=gJ h;refine jP (gI (gQt _ _ du)) ?_;refine yT (jN TBd.h TZ.h rfl (by repeat constructor)) ?_;refine noB ?_;refine qZ 51 5 6 4 rfl rfl (by repeat constructor) (by repeat constructor) (by repeat constructor) (by repeat constructor) ?_;show V _ _ _ _ _;refine gCw 137 (fun ep=>?_);refine mG (fun(bm:Nat)(cd:List gH)(ce:Nat)=>⟨[(0,.ptr 0 0),(2,.I a2),(6,.ptr 2 0),(20,.L 4 (jY br)),(22,.ptr 6 0),(137,.L 4 (kC ah)),(138,.I (ah.length:Int)),(139,.N bm)],[.box [.L 6 (mE aa),.L 6 (jU av)],bBd a6 au aw ax,.box [.I 0,.I 0,.I 0,.I 0,.nilsl],bTr ay a0 a3 a4 a5,.box [.I an,.I ao],bIn b8 b9 be bf bg ah ca cb bh bi bj cc,.box [.I 1,.I 0,.I an,.I ao,.sl 7 ce],.arr 51 5 ce (jE cd)],Tryz.f44.ntmps⟩) (fun bm cd ce=>vV y (yO.mk (gM.mk aa) av) a2 ((gD.mk an ao),cq) (br,c4) (ah.drop bm) cd=some r) (fun bm cd ce=>ah.length - bm) 0 [] 0 eJ h ?_;rintro bm cd ce h;refine goL ?_;refine kI (mR (fun c6=>?_) (fun c6=>?_))
       ·have bt:=vR c6;obtain⟨ea,dv,c7⟩:=drop_at bt;rw [c7,vV.eq_2] at h;obtain⟨bu,⟨cf,cg,ch⟩⟩:=ea;refine noS ?_;refine kI (jA ?_);refine goL ?_;refine uN (jR bm (gHi dv)) ?_;refine gIb ?_;obtain⟨eb,h⟩:=pU h;obtain⟨⟨ck,cl,bv⟩,dw,h⟩:=uK h;have sx43:=gZ3 br (gB.mk cf cg ch) eb;rw [dw] at sx43;obtain⟨⟨⟨ap,aq,⟨ad,ae⟩,ar⟩,bk⟩,cr,h⟩:=gJ h;refine uC (P:=Tryz.prog) Mix.h (q3T 0 (q3T 3 (.q 8 (.q 9 (.h 6 (.q 7 (.h 10 (q3T 11 (hcT 14 (hcT 15 (.q 16 .nil)))) (hcT 14 (hcT 10 (q3T 11 (hcT 15 (.q 16 .nil))))))) (hcT 14 (hcT 6 (.q 7 (hcT 10 (q3T 11 (hcT 15 (.q 16 .nil)))))))))))) ⟨[(0,.ptr 0 0),(2,.I a2),(6,.ptr 2 0),(20,.L 4 (jY br)),(22,.ptr 6 0),(25,.ptr 10 0),(26,.I bk),(137,.L 4 (kC ah)),(138,.I (ah.length:Int)),(139,.N bm)],[.box [.L 6 (mE aa),.L 6 (jU av)],bBd a6 au aw ax,.box [.I 0,.I 0,.I 0,.I 0,.nilsl],bTr ay a0 a3 a4 a5,.box [.I an,.I ao],bIn b8 b9 be bf bg ah ca cb bh bi bj cc,.box [.I 1,.I 0,.I an,.I ao,.sl 7 ce],.arr 51 5 ce (jE cd),bBd bu cf cg ch,.frz 37 3 0 (gN bv),.box [.I ap,.I aq,.I ad,.I ae,.L 5 (jE ar)]],Tryz.f44.ntmps⟩ (by kernel_rfl) ?_ ?_
        ·refine mU ?_;refine gXn rfl (pV) ?_;refine uD (gRi (sx43) gZ) ?_ ?_
         ·refine mU ?_;refine uD (gGi 9 rfl rfl (gRm (sv:=.tup [.d (.st [.i .i64 ap,.i .i64 aq,.st [.i .i64 ad,.i .i64 ae],.sl 5 (jE ar)]),.I bk]) [0] (f (yO.mk (gM.mk aa) av) (gP.mk bu (gB.mk ck cl bv)) (IntKind.i64.wrap (a2+1)) cr) gZ)) ?_ ?_
          ·refine mU ?_;refine jL ?_;exact pQ 1 [0,1,2,3,4,5,6,7,8,9,10]
          refine mU ?_;refine gQ (gGi 9 rfl rfl (gRm (sv:=.tup [.d (.st [.i .i64 ap,.i .i64 aq,.st [.i .i64 ad,.i .i64 ae],.sl 5 (jE ar)]),.I bk]) [0] (f (yO.mk (gM.mk aa) av) (gP.mk bu (gB.mk ck cl bv)) (IntKind.i64.wrap (a2+1)) cr) gZ)) ?_;refine mU ?_;refine jL ?_;exact pQ 1 [0,1,2,3,4,5,6,7,8,9,10]
         refine mU ?_;refine gQ (gRi (sx43) gZ) ?_;refine mU ?_;refine gQ (gGi 10 rfl rfl (gRm (sv:=.tup [.d (.st [.i .i64 ap,.i .i64 aq,.st [.i .i64 ad,.i .i64 ae],.sl 5 (jE ar)]),.I bk]) [0] (f (yO.mk (gM.mk aa) av) (gP.mk bu (gB.mk ck cl bv)) (IntKind.i64.wrap (a2+1)) cr) gZ)) ?_;refine mU ?_;refine jL ?_;exact pQ 1 [0,1,2,3,4,5,6,7,8,10,9]
        refine goC h ?_ ?_<;>intro er h
        ·refine goL ?_;refine yT (jN TBd.h TZ.h rfl (by repeat constructor)) ?_;refine jF ?_;obtain rfl:=Option.some.inj h;exact gAg [.d (.st [.i .i64 0,.i .i64 0,.st [.i .i64 0,.i .i64 0],.sl 5 []]),.I bk] _ ⟨rfl,rfl⟩
        ·refine goS ?_;refine uO (u:=(.st [.i .i64 ap,.i .i64 aq,.st [.i .i64 ad,.i .i64 ae],.sl 5 (jE ar)])) ?_;obtain⟨ec,h⟩:=pU h;refine gAd ec ?_;refine goL ?_;refine jP (kD bm (by omega)) ?_;exact⟨(bm+1),(cd++[(gH.mk ap aq (gD.mk ad ae) ar)]),(ce+1),h,by omega,eJ⟩
       ·have bt:=vS c6;rw [jK bt,vV.eq_1] at h;refine goX ?_;refine gV 7 rfl rfl ?_;refine jF ?_;obtain rfl:=Option.some.inj h;exact gB5 [.d (.st [.i .i64 1,.i .i64 0,.st [.i .i64 an,.i .i64 ao],.sl 5 (jE cd)]),.I 0] [.box [.L 6 (mE aa),.L 6 (jU av)]] ⟨rfl,rfl⟩
def vI:Nat→yO→gP→Int→Option (gH × Int)
 | 0,_,_,_=>none
 | n+1,f,h,q=>gCo (vI n) f h q
theorem gRz:∀(n:Nat)(f:yO)(q:gP)(y:Int){r:gH × Int},vI n f q y=some r→Go.Eng.Spec Tryz.prog 44 [.ptr 0 0,.d (yF q),.I y] [.box [.L 6 (mE f.w.packages),.L 6 (jU f.assumed)]] (fun sv Lo=>sv=.tup [.d (mZ r.1),.I r.2]∧Lo=[.box [.L 6 (mE f.w.packages),.L 6 (jU f.assumed)]]):=by
 intro n
 induction n with
 | zero=>intro f q y r h;cases h
 | succ n ih=>intro f q y r h;exact gRy ih f q y h
def gAx(a0:gM)(y3:Nat)(x6:gP)(h:(List gX)→Option (List gX)):LS→(List gX)→Option (List gX)
 | [],f=>(h f)
 | q::xs,f=>bnd (wH a0 x6.trait q) fun y=>
gd (tok x6.type_) (lt_ (idT x6.type_) fun aa=>
gd (f.length+[(gX.mk (gP.mk q aa) (y3:Int) y.1)].length≤4294967296) (
gAx a0 y3 x6 h xs (f++[(gX.mk (gP.mk q aa) (y3:Int) y.1)])))
def zI(y:gM):List gP→Nat→(List gX)→Option (List gX)
 | [],h,q=>(some q)
 | f::xs,h,q=>gd (tok f.type_) (lt_ (idT f.type_) fun x8=>
gd (q.length+[(gX.mk (gP.mk f.trait x8) (h:Int) [])].length≤4294967296) (
bnd (gRw y f.trait) fun aa=>
gAx y h f (fun ab=>zI y xs (h+1) ab) aa (q++[(gX.mk (gP.mk f.trait x8) (h:Int) [])])))
def gIy(f:gM)(a1:List gP):Option (List gX):=
zI f a1 0 []
theorem gSq(a0:gM)(a1:List gP){r:List gX}(h:gIy a0 a1=some r):jI Tryz.prog 71 [.d (mD a0),.L 4 (kC a1)] [.sl 6 (jU r)]:=by
 obtain⟨ae⟩:=a0;unfold gIy at h;refine SpI Tryz.func71 fun A _=>?_;refine goL ?_;refine gAu ?_;refine goL ?_;refine noB ?_;refine gCw 13 (fun z4=>?_);refine mG (fun(y3:Nat)(y1:List gX)(v2:Nat)=>⟨[(2,.ptr 0 0),(5,.sl 1 v2),(13,.L 4 (kC a1)),(14,.I (a1.length:Int)),(15,.N y3)],[bPr ae,.arr 139 6 v2 (jU y1)],Tryz.f71.ntmps⟩) (fun y3 y1 v2=>zI (gM.mk ae) (a1.drop y3) y3 y1=some r) (fun y3 y1 v2=>a1.length - y3) 0 [] 0 eJ h ?_;rintro y3 y1 v2 h;refine goL ?_;refine kI (mR (fun c5=>?_) (fun c5=>?_))
 ·have ah:=vR c5;obtain⟨x6,a9,ax⟩:=drop_at ah;rw [ax,zI.eq_2] at h;obtain⟨ag,⟨f,q,y⟩⟩:=x6;refine noS ?_;refine kI (jA ?_);refine goL ?_;refine uN (jR y3 (gHi a9)) ?_;refine gIb ?_;refine jS (P:=Tryz.prog) Mix.h [(0,true),(1,true),(2,true),(3,true),(4,true),(5,true),(6,true),(7,true),(8,true),(9,false),(10,false),(11,true)] (by kernel_rfl) ?_;refine goY ?_;obtain⟨g7,h⟩:=pU h;obtain⟨⟨aj,ak,al⟩,ba,h⟩:=uK h;have sx8:=(gKc (gB.mk f q y) g7).p;rw [ba] at sx8;refine jW rfl (gI (sx8)) ?_;refine goY ?_;refine kT (T:=96) (us:=jU [(gX.mk (gP.mk ag (gB.mk aj ak al)) (y3:Int) [])]) ?_;obtain⟨g9,h⟩:=pU h;refine kN (T:=96) g9 ?_;refine goY ?_;refine mJ ?_;refine goL ?_;obtain⟨aq,ay,h⟩:=gJ h;refine jP (gI (hFh _ _ ay)) ?_;refine noB ?_;refine gCw 34 (fun bh=>?_);refine mG (fun(ab:Nat)(ac:List gX)(ai:Nat)=>⟨[(2,.ptr 0 0),(5,.sl 1 ai),(6,.N y3),(7,.ptr 2 0),(13,.L 4 (kC a1)),(14,.I (a1.length:Int)),(15,.N y3),(34,.L 1 (gT aq)),(35,.I (aq.length:Int)),(36,.N ab)],[bPr ae,.arr 139 6 ai (jU ac),bBd ag f q y,.arr 139 6 0 (jU [(gX.mk (gP.mk ag (gB.mk aj ak al)) (y3:Int) [])])],Tryz.f71.ntmps⟩) (fun ab ac ai=>gAx (gM.mk ae) y3 (gP.mk ag (gB.mk f q y)) (fun ac=>zI (gM.mk ae) (a1.drop (y3+1)) (y3+1) ac) (aq.drop ab) ac=some r) (fun ab ac ai=>aq.length - ab) 0 (y1++[(gX.mk (gP.mk ag (gB.mk aj ak al)) (y3:Int) [])]) (v2+1) eJ h ?_;rintro ab ac ai h;refine goL ?_;refine kI (mR (fun ar=>?_) (fun ar=>?_))
  ·have ad:=vR ar;obtain⟨a3,a4,au⟩:=drop_at ad;rw [au,gAx.eq_2] at h;refine noS ?_;refine kI (jA ?_);refine goL ?_;refine jP (jR ab (gO7 a4)) ?_;obtain⟨⟨am,bb⟩,a5,h⟩:=gJ h;refine jP (gI (gJb _ _ _ a5)) ?_;obtain⟨bc,h⟩:=pU h;obtain⟨⟨an,ao,ap⟩,a6,h⟩:=uK h;have sx19:=(gKc (gB.mk f q y) bc).p;rw [a6] at sx19;refine uN (gI (sx19)) ?_;refine yT (jN TBd.h TZ.h rfl (by repeat constructor)) ?_;refine vP (jN TBd.h TZ.h rfl (by repeat constructor)) ?_;refine uO (u:=(.st [.st [.s a3,.st [.i .i64 an,.s ao,.sl 3 (gN ap)]],.i .i64 (y3:Int),.sl 1 (vM am)])) ?_;obtain⟨bd,h⟩:=pU h;refine gAd bd ?_;refine goL ?_;refine jP (kD ab (by omega)) ?_;exact⟨(ab+1),(ac++[(gX.mk (gP.mk a3 (gB.mk an ao ap)) (y3:Int) am)]),(ai+1),h,by omega,eJ⟩
  ·have ad:=vS ar;rw [jK ad,gAx.eq_1] at h;refine goX ?_;refine jP (kD y3 (by omega)) ?_;exact⟨(y3+1),ac,ai,h,by omega,eJ⟩
 ·have ah:=vS c5;rw [jK ah,zI.eq_1] at h;refine goX ?_;refine gV 1 rfl rfl ?_;refine jF ?_;cases h;exact uM
def gJ2(w:gM)(wh:List gP):Option (yO):=
bnd (gIy w wh) fun f=>
(some (yO.mk w f))
theorem gXv(w:gM)(wh:List gP){r:yO}(h:gJ2 w wh=some r):Go.Eng.Spec Tryz.prog 43 [.d (mD w),.L 4 (kC wh)] [] (fun sv Lo=>sv=.ptr 0 0∧Lo=[.box [.L 6 (mE r.w.packages),.L 6 (jU r.assumed)]]):=by
 obtain⟨f⟩:=w;unfold gJ2 at h;refine kJ 0 Tryz.func43 rfl (by kernel_rfl) rfl rfl fun A _=>?_;refine goL ?_;refine uN (hEh) ?_;refine gIb ?_;refine jS (P:=Tryz.prog) Mix.h [(0,true),(1,true),(2,true),(3,true),(4,true),(5,false),(6,true)] (by kernel_rfl) ?_;refine goY ?_;obtain⟨y,q,h⟩:=gJ h;refine jW rfl (gI (gSq _ _ q)) ?_;refine goY ?_;refine mJ ?_;refine goL ?_;refine hEf (fr':=[(4,.ptr 0 0)]) (Lc:=[.box [.L 6 (mE f),.L 6 (jU y)]]) 0 [1] ?_;refine jF ?_;obtain rfl:=Option.some.inj h;exact gAg [.ptr 0 0] _ ⟨rfl,rfl⟩
def gN4(h:gM)(a1:List gP)(a2:gP):Option (gH × Int):=
bnd (gJ2 h a1) fun q=>
bnd (vI 5000 q a2 0) fun f=>
(some (f.1,f.2))
theorem hI7(a0:gM)(a1:List gP)(a2:gP){r:gH × Int}(h:gN4 a0 a1 a2=some r):jI Tryz.prog 22 [.d (mD a0),.L 4 (kC a1),.d (yF a2)] [mZ r.1,.i .i64 r.2]:=by
 obtain⟨ah⟩:=a0;obtain⟨ai,⟨f,q,y⟩⟩:=a2;unfold gN4 at h;refine SpI Tryz.func22 fun A _=>?_;refine gIb ?_;refine jS (P:=Tryz.prog) Mix.h [(0,true),(1,true),(3,true),(2,false),(4,false),(5,true),(6,true),(7,false),(8,true)] (by kernel_rfl) ?_;refine goY ?_;obtain⟨⟨⟨aa⟩,aj⟩,am,h⟩:=gJ h;refine gDm (sv:=.ptr 3 0) (L':=[bPr ah,bBd ai f q y,.box [.I 0,.I 0,.I 0,.I 0,.nilsl],.box [.L 6 (mE aa),.L 6 (jU aj)]]) [] (gXv (gM.mk ah) a1 am) ?_;obtain⟨⟨⟨ad,ae,⟨ab,ac⟩,ag⟩,ak⟩,an,h⟩:=gJ h;refine gRm (sv:=.tup [.d (.st [.i .i64 ad,.i .i64 ae,.st [.i .i64 ab,.i .i64 ac],.sl 5 (jE ag)]),.I ak]) [3] (gRz 5000 (yO.mk (gM.mk aa) aj) (gP.mk ai (gB.mk f q y)) 0 an) ?_;refine goY ?_;refine mJ ?_;exact goR h
end Go.Proofs.YtfpdlnkkcnmebaaGreat
