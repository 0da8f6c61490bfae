import Derived.Test.YtfpdlnkkcnmebaaGreatSv
set_option maxHeartbeats 4000000
set_option linter.unusedVariables false
set_option linter.unusedSimpArgs false
set_option linter.unusedSectionVars false
namespace Go.Proofs.YtfpdlnkkcnmebaaGreat
open Go Go.Eng
attribute [local irreducible] V VO VQ VY Quiet QR jI mK Rng qE qA pX
def gAv(h:LS):LS→Nat→Option (Bool)
 | [],f=>(some true)
 | q::xs,f=>gd (0≤(f:Int)∧(f:Int)≤(h.length:Int)) (
(cnd (yV (h.take (Int.toNat (f:Int))) q) (
(some false)) (
gAv h xs (f+1))))
def zC(f:LS):Option (Bool):=
gAv f f 0
theorem gBx(y:LS){r:Bool}(h:zC y=some r):jI Tryz.prog 194 [.L 1 (gT y)] [.b r]:=by
 unfold zC at h;refine SpI Tryz.func194 fun A _=>?_;refine goL ?_;refine noB ?_;refine gCw 0 (fun z2=>?_);refine pY (fun(q:Nat)=>⟨[(0,.L 1 (gT y)),(3,.N q)],[],Tryz.f194.ntmps⟩) (fun q=>gAv y (y.drop q) q=some r) (fun q=>y.length - q) 0 eJ h ?_;rintro q h;refine goL ?_;refine mR (fun c3=>?_) (fun c3=>?_)
 ·have f:=vR c3;obtain⟨x4,ac,aa⟩:=drop_at f;rw [aa,gAv.eq_2] at h;refine noS ?_;refine kI (jA ?_);refine goL ?_;obtain⟨g5,h⟩:=pU h;refine gDi (hPg g5) ?_;refine goL ?_;refine gDi (jR q (gO7 ac)) ?_;refine goL ?_;refine gDi (gI (gGl (y.take (Int.toNat (q:Int))) x4)) ?_;refine goC h ?_ ?_<;>intro c6 h
  ·exact goR h
  ·refine goS ?_;refine jP (kD q (by omega)) ?_;exact⟨(q+1),h,by omega,eJ⟩
 ·have f:=vS c3;rw [jK f,gAv.eq_1] at h;refine goX ?_;refine jF ?_;cases h;exact uM
def gJ0(f:gB→Int→Option (Int))(y:gB):Nat→Int→Int→Option (Int)
 | 0,h,q=>none
 | n3+1,h,q=>lt_ ((cnd (decide (q < (y.args.length:Int))) ((decide (h≥0))) (false))) fun b4=>
(cnd b4 (
bnd (at? y.args q) fun x7=>
bnd (f x7 h) fun x8=>
gJ0 f y n3 x8 (IntKind.i64.wrap (q+1))) (
(some h)))
def gUk(f:gB→Int→Option (Int))(h:gB)(a1:Int)(q:Nat):Option (Int):=
gJ0 f h q (IntKind.i64.wrap (a1 - 1)) 0
theorem hIv{f:gB→Int→Option (Int)}(q:∀(x0:gB)(x1:Int){r:Int},f x0 x1=some r→jI Tryz.prog 245 [.d (mM x0),.I x1] [.i .i64 r])(a0:gB)(a1:Int){n0:Nat}{r:Int}(h:gUk f a0 a1 n0=some r):jI Tryz.prog 245 [.d (mM a0),.I a1] [.i .i64 r]:=by
 obtain⟨y,aa,ab⟩:=a0;unfold gUk at h;refine SpI Tryz.func245 fun A _=>?_;refine goL ?_;refine jP (pV) ?_;refine noB ?_;refine mG (fun(n3:Nat)(y1:Int)(y2:Int)=>⟨[(1,.I y1),(2,.ptr 0 0),(5,.I y2)],[bTy y aa ab],Tryz.f245.ntmps⟩) (fun n3 y1 y2=>gJ0 f (gB.mk y aa ab) n3 y1 y2=some r) (fun n3 y1 y2=>n3) n0 (IntKind.i64.wrap (a1 - 1)) 0 eJ h ?_;rintro n3 y1 y2 h;rcases n3 with _ | n3
 ·cases h
 rw [gJ0.eq_2] at h;refine goL ?_;obtain⟨b4,hb4,h⟩:=uK h;refine kH ⟨[(1,.I y1),(2,.ptr 0 0),(5,.I y2),(16,.B b4)],[bTy y aa ab],Tryz.f245.ntmps⟩ ?_ ?_
 ·exact gqZ 13 hb4
 refine goC h ?_ ?_<;>intro c6 h
 ·refine noS ?_;refine kI (jA ?_);refine goL ?_;obtain⟨x7,ae,h⟩:=gJ h;obtain⟨ah,ae⟩:=gBm ae;obtain⟨an,ao,ap⟩:=x7;refine jP (uL ah (gDj ae)) ?_;obtain⟨x8,aj,h⟩:=gJ h;refine jP (gI (q _ _ aj)) ?_;refine jP (pV) ?_;exact⟨n3,x8,(IntKind.i64.wrap (y2+1)),h,Nat.lt_succ_self _,eJ⟩
 ·refine goX ?_;refine jF ?_;cases h;exact uM
def gUl:Nat→gB→Int→Option (Int)
 | 0,_,_=>none
 | n+1,f,h=>gUk (gUl n) f h n
theorem hIw:∀(n:Nat)(f:gB)(q:Int){r:Int},gUl n f q=some r→jI Tryz.prog 245 [.d (mM f),.I q] [.i .i64 r]:=by
 intro n
 induction n with
 | zero=>intro f q r h;cases h
 | succ n ih=>intro f q r h;exact hIv ih f q h
def gJ1(f:LB):Bool:=
lt_ ((cnd (f==[105,110,116]) (true) ((f==[98,111,111,108])))) fun h=>
h
theorem gUm(f:LB):jI Tryz.prog 118 [.S f] [.b (gJ1 f)]:=by
 obtain⟨r,h⟩:∃r,gJ1 f=r:=⟨_,rfl⟩
 rw [h];unfold gJ1 at h;refine SpI Tryz.func118 fun A _=>?_;refine goL ?_;obtain⟨q,hb1,h⟩:=uK h;refine kH ⟨[(2,.B q)],[],Tryz.f118.ntmps⟩ ?_ ?_
 ·exact gqZ 5 hb1
 refine goL ?_;refine jF ?_;subst h;exact uM
def gF8(f:gY→LS→LS→Option LS)(bound:LS):List gL8→LS→Option LS
 | [],h=>(some h)
 | q::xs,h=>gd (([]:LS).length+bound.length≤4294967296) (
gd (([]++bound).length+q.vars.length≤4294967296) (
bnd (f q.body (([]++bound)++q.vars) h) fun y=>
gF8 f bound xs y))
def gF9(f:gY→LS→LS→Option LS)(e:gY)(bound:LS):List gY→Nat→LS→Option LS
 | [],h,y=>gF8 f bound e.arms y
 | q::xs,h,y=>bnd (lt_ ((cnd (e.kind==8) (((h:Int)==1)) (false))) fun aa=>
(cnd aa (
gd (([]:LS).length+bound.length≤4294967296) (
gd (([]++bound).length+[e.name].length≤4294967296) (
bnd (f q (([]++bound)++[e.name]) y) fun ab=>
(some ab)))) (
bnd (f q bound y) fun ac=>
(some ac)))) fun ad=>
gF9 f e bound xs (h+1) ad
def gRp(f:gY→LS→LS→Option LS)(e:gY)(bound:LS)(h:LS):Option LS:=
lt_ ((cnd (e.kind==3) ((cnd (!(yV bound e.name)) ((!(yV h e.name))) (false))) (false))) fun q=>
bnd ((cnd q (
gd (h.length+[e.name].length≤4294967296) (
(some (h++[e.name])))) (
(some h)))) fun y=>
gF9 f e bound e.args 0 y
theorem hEy{f:gY→LS→LS→Option LS}(ac:∀(x0:gY)(x1:LS)(x2:LS)(w0:Nat){r:LS},f x0 x1 x2=some r→Go.Eng.Spec Tryz.prog 248 [.d (gBp x0),.L 1 (gT x1),.sl 0 w0] [.own 9 1 w0 (gT x2)] (fun sv Lo=>∃v'0,sv=.sl 0 v'0∧Lo=[.own 9 1 v'0 (gT r)]))(e:gY)(bound:LS)(l0:LS)(v0:Nat){r:LS}(h:gRp f e bound l0=some r):Go.Eng.Spec Tryz.prog 248 [.d (gBp e),.L 1 (gT bound),.sl 0 v0] [.own 9 1 v0 (gT l0)] (fun sv Lo=>∃v'0,sv=.sl 0 v'0∧Lo=[.own 9 1 v'0 (gT r)]):=by
 obtain⟨ai,aj,ad,ak,⟨y,aa,ab⟩,ag,ah⟩:=e;unfold gRp at h;refine kJ 1 Tryz.func248 rfl (by kernel_rfl) rfl rfl fun A _=>?_;refine goL ?_;obtain⟨b1,hb1,h⟩:=uK h;refine kH ⟨[(1,.L 1 (gT bound)),(2,.sl 0 v0),(3,.ptr 1 0),(26,.B b1)],[.own 9 1 v0 (gT l0),bEx ai aj ad ak y aa ab ag ah],Tryz.f248.ntmps⟩ ?_ ?_
 ·refine gqA 13 hb1 (fun c2 hb1=>?_);refine jP (gI (gGl bound ad)) ?_;refine gqA 20 hb1 (fun c3 hb1=>?_);refine yT (gUa (gGl l0 ad)) ?_;cases hb1;exact eJ
 refine goL ?_;obtain⟨b4,hb4,h⟩:=gJ h;refine gIx (fun v5=>⟨[(1,.L 1 (gT bound)),(2,.sl 0 v5),(3,.ptr 1 0)],[.own 9 1 v5 (gT b4),bEx ai aj ad ak y aa ab ag ah],Tryz.f248.ntmps⟩) ?_ (fun v5=>?_)
 ·refine mR (fun c6=>?_) (fun c6=>?_)
  ·replace hb4:=kU c6 hb4;refine goL ?_;refine wX ad ?_;obtain⟨g7,hb4⟩:=pU hb4;refine gDl g7 ?_;refine goL ?_;cases hb4;exact⟨(v0+1),eJ⟩
  ·replace hb4:=kV c6 hb4;refine vN ?_;cases hb4;exact⟨v0,eJ⟩
 refine goL ?_;refine noB ?_;refine yC 1 7 (fun cl=>?_);refine mG (fun(ae:Nat)(y8:LS)(v9:Nat)=>⟨[(1,.L 1 (gT bound)),(2,.sl 0 v9),(3,.ptr 1 0),(7,.N ae)],[.own 9 1 v9 (gT y8),bEx ai aj ad ak y aa ab ag ah],Tryz.f248.ntmps⟩) (fun ae y8 v9=>gF9 f (gY.mk ai aj ad ak (gB.mk y aa ab) ag ah) bound (ag.drop ae) ae y8=some r) (fun ae y8 v9=>ag.length - ae) 0 b4 v5 eJ h ?_;rintro ae y8 v9 h;refine goL ?_;refine mR (fun bj=>?_) (fun bj=>?_)
 ·have am:=vR bj;obtain⟨b6,bh,bk⟩:=drop_at am;rw [bk,gF9.eq_2] at h;obtain⟨a0,a3,a4,a5,⟨ao,ap,aq⟩,a6,a7⟩:=b6;refine noS ?_;refine kI ?_;obtain⟨bv,hb14,h⟩:=gJ h;refine gIx (fun bg=>⟨[(1,.L 1 (gT bound)),(2,.sl 0 bg),(3,.ptr 1 0),(7,.N ae)],[.own 9 1 bg (gT bv),bEx ai aj ad ak y aa ab ag ah],Tryz.f248.ntmps⟩) ?_ (fun bg=>?_)
  ·refine jA ?_;refine goL ?_;obtain⟨b7,hb16,hb14⟩:=uK hb14;refine kH ⟨[(1,.L 1 (gT bound)),(2,.sl 0 v9),(3,.ptr 1 0),(7,.N ae),(8,.L 1 (gT bound)),(46,.B b7)],[.own 9 1 v9 (gT y8),bEx ai aj ad ak y aa ab ag ah],Tryz.f248.ntmps⟩ ?_ ?_
   ·exact gqZ 43 hb16
   refine goL ?_;refine mR (fun bl=>?_) (fun bl=>?_)
   ·replace hb14:=kU bl hb14;obtain⟨bm,hb14⟩:=pU hb14;obtain⟨bn,hb14⟩:=pU hb14;refine qY (P:=Tryz.prog) Mix.h (.q 1 (.q 3 (.q 4 (.h 0 (.h 2 (hcT 5 (hcT 6 (.q 7 .nil))) (hcT 5 (hcT 2 (hcT 6 (.q 7 .nil))))) (hcT 5 (hcT 0 (hcT 2 (hcT 6 (.q 7 .nil))))))))) ⟨[(1,.L 1 (gT bound)),(2,.sl 0 v9),(3,.ptr 1 0),(7,.N ae),(8,.sl 2 ((0+1)+1))],[.own 9 1 v9 (gT y8),bEx ai aj ad ak y aa ab ag ah,.own 9 1 ((0+1)+1) (gT (([]++bound)++[ad])),.dead 1],Tryz.f248.ntmps⟩ (by kernel_rfl) ?_ ?_
    ·refine goT ?_;refine uD (hMn gZ) ?_ ?_
     ·refine uD (gOs (T:=34) bm gZ) ?_ ?_
      ·refine gQ (gLf (T:=34) (ad:LB) gZ) ?_;refine gQ (gOs (T:=34) bn gZ) ?_;refine goT ?_;refine jL ?_;exact pQ 1 [0,1,2,3]
      refine gQ (gLf (T:=34) (ad:LB) gZ) ?_;refine gQ (gOs (T:=34) bm gZ) ?_;refine gQ (gOs (T:=34) bn gZ) ?_;refine goT ?_;refine jL ?_;exact pQ 1 [0,1,2,3]
     refine gQ (gLf (T:=34) (ad:LB) gZ) ?_;refine gQ (hMn gZ) ?_;refine gQ (gOs (T:=34) bm gZ) ?_;refine gQ (gOs (T:=34) bn gZ) ?_;refine goT ?_;refine jL ?_;exact pQ 1 [0,1,3,2]
    refine goL ?_;refine jP (jR ae (gXd bh)) ?_;refine gBv 2 rfl rfl ?_;obtain⟨b8,bw,hb14⟩:=gJ hb14;refine gBz [0] (ac (gY.mk a0 a3 a4 a5 (gB.mk ao ap aq) a6 a7) (([]++bound)++[ad]) y8 v9 bw) ?_;rintro _ _ ⟨bo,rfl,rfl⟩;show VO _ _ _ _ ⟨(_,.sl 0 bo)::_,[.own 9 1 bo (gT b8),bEx ai aj ad ak y aa ab ag ah,.frz 9 1 ((0+1)+1) (gT (([]++bound)++[ad])),.dead 1],_⟩ _;refine goL ?_;cases hb14;exact⟨bo,eJ⟩
   ·replace hb14:=kV bl hb14;refine goS ?_;refine jP (jR ae (gXd bh)) ?_;obtain⟨b9,bx,hb14⟩:=gJ hb14;refine gBz [0] (ac (gY.mk a0 a3 a4 a5 (gB.mk ao ap aq) a6 a7) bound y8 v9 bx) ?_;rintro _ _ ⟨bp,rfl,rfl⟩;show VO _ _ _ _ ⟨(_,.sl 0 bp)::_,[.own 9 1 bp (gT b9),bEx ai aj ad ak y aa ab ag ah],_⟩ _;refine goL ?_;cases hb14;exact⟨bp,eJ⟩
  refine goL ?_;refine jP (kD ae (by omega)) ?_;exact⟨(ae+1),bv,bg,h,by omega,eJ⟩
 ·have am:=vS bj;rw [jK am,gF9.eq_1] at h;refine goX ?_;refine noB ?_;refine yC 1 8 (fun cm=>?_);refine mG (fun(al:Nat)(ax:LS)(ar:Nat)=>⟨[(1,.L 1 (gT bound)),(2,.sl 0 ar),(3,.ptr 1 0),(9,.N al)],[.own 9 1 ar (gT ax),bEx ai aj ad ak y aa ab ag ah],Tryz.f248.ntmps⟩) (fun al ax ar=>gF8 f bound (ah.drop al) ax=some r) (fun al ax ar=>ah.length - al) 0 y8 v9 eJ h ?_;rintro al ax ar h;refine goL ?_;refine mR (fun bq=>?_) (fun bq=>?_)
  ·have an:=vR bq;obtain⟨ca,bi,br⟩:=drop_at an;rw [br,gF8.eq_2] at h;obtain⟨cb,a8,⟨a9,ba,bb,bc,⟨au,av,aw⟩,bd,be⟩⟩:=ca;refine noS ?_;refine kI (jA ?_);refine yL (P:=Tryz.prog) Mix.h [(0,true),(1,true),(2,true),(3,true),(4,true),(5,true),(7,true),(9,true),(10,true),(11,true),(12,true),(13,true),(14,true),(16,true),(6,false),(8,false),(15,false),(17,false),(18,true)] (by kernel_rfl) ?_;refine goY ?_;refine jW rfl (jR al (hDv bi)) ?_;refine goY ?_;refine jW rfl (jR al (hDv bi)) ?_;refine goY ?_;refine hMn ?_;obtain⟨cc,h⟩:=pU h;refine gOs (T:=34) cc ?_;obtain⟨cd,h⟩:=pU h;refine gOs (T:=34) cd ?_;refine gGi 2 rfl rfl ?_;obtain⟨bz,b0,h⟩:=gJ h;refine gVq [0] (ac (gY.mk a9 ba bb bc (gB.mk au av aw) bd be) (([]++bound)++a8) ax ar b0) ?_;rintro _ _ ⟨bt,rfl,rfl⟩;refine gS6 (sv:=.sl 0 bt) (L':=[.own 9 1 bt (gT bz),bEx ai aj ad ak y aa ab ag ah,.frz 9 1 ((0+1)+1) (gT (([]++bound)++a8))]) (by repeat(first | exact vU.nil | (apply vU.keep;focus ((repeat constructor);done)) | (apply vU.dep;focus kernel_rfl))) ?_;refine goY ?_;refine mJ ?_;refine goL ?_;refine jP (kD al (by omega)) ?_;exact⟨(al+1),bz,bt,h,by omega,eJ⟩
  ·have an:=vS bq;rw [jK an,gF8.eq_1] at h;refine goX ?_;refine jF ?_;obtain rfl:=Option.some.inj h;exact gAg [.sl 0 ar] _ ⟨ar,rfl,rfl⟩
def gRq:Nat→gY→LS→LS→Option LS
 | 0,_,_,_=>none
 | n+1,f,h,q=>gRp (gRq n) f h q
theorem hEz:∀(n:Nat)(f:gY)(q:LS)(y:LS)(w0:Nat){r:LS},gRq n f q y=some r→Go.Eng.Spec Tryz.prog 248 [.d (gBp f),.L 1 (gT q),.sl 0 w0] [.own 9 1 w0 (gT y)] (fun sv Lo=>∃v'0,sv=.sl 0 v'0∧Lo=[.own 9 1 v'0 (gT r)]):=by
 intro n
 induction n with
 | zero=>intro f q y w0 r h;cases h
 | succ n ih=>intro f q y w0 r h;exact hEy ih f q y w0 h
def gId(f:gY→Int→Option (Int))(y:gY):Nat→Int→Int→Option (Int)
 | 0,q,h=>none
 | aa+1,q,h=>lt_ ((cnd (decide (h < (y.arms.length:Int))) ((decide (q≥0))) (false))) fun ab=>
(cnd ab (
bnd (at? y.arms h) fun ac=>
bnd (f ac.body q) fun ad=>
gId f y aa ad (IntKind.i64.wrap (h+1))) (
(some q)))
def gIe(f:gY→Int→Option (Int))(h:gY)(n0:Nat):Nat→Int→Int→Option (Int)
 | 0,q,y=>none
 | n3+1,q,y=>lt_ ((cnd (decide (y < (h.args.length:Int))) ((decide (q≥0))) (false))) fun b4=>
(cnd b4 (
bnd (at? h.args y) fun x7=>
bnd (f x7 q) fun x8=>
gIe f h n0 n3 x8 (IntKind.i64.wrap (y+1))) (
gId f h n0 q 0))
def gRr(f:gY→Int→Option (Int))(q:gY)(a1:Int)(h:Nat):Option (Int):=
gIe f q h h (IntKind.i64.wrap (a1 - 1)) 0
theorem hE3{f:gY→Int→Option (Int)}(ab:∀(x0:gY)(x1:Int){r:Int},f x0 x1=some r→jI Tryz.prog 249 [.d (gBp x0),.I x1] [.i .i64 r])(a0:gY)(a1:Int){n0:Nat}{r:Int}(h:gRr f a0 a1 n0=some r):jI Tryz.prog 249 [.d (gBp a0),.I a1] [.i .i64 r]:=by
 obtain⟨ac,ad,ae,ag,⟨q,y,aa⟩,ah,ai⟩:=a0;unfold gRr at h;refine SpI Tryz.func249 fun A _=>?_;refine goL ?_;refine jP (pV) ?_;refine noB ?_;refine mG (fun(n3:Nat)(y1:Int)(y2:Int)=>⟨[(1,.I y1),(2,.ptr 0 0),(5,.I y2)],[bEx ac ad ae ag q y aa ah ai],Tryz.f249.ntmps⟩) (fun n3 y1 y2=>gIe f (gY.mk ac ad ae ag (gB.mk q y aa) ah ai) n0 n3 y1 y2=some r) (fun n3 y1 y2=>n3) n0 (IntKind.i64.wrap (a1 - 1)) 0 eJ h ?_;rintro n3 y1 y2 h;rcases n3 with _ | n3
 ·cases h
 rw [gIe.eq_2] at h;refine goL ?_;obtain⟨b4,hb4,h⟩:=uK h;refine kH ⟨[(1,.I y1),(2,.ptr 0 0),(5,.I y2),(17,.B b4)],[bEx ac ad ae ag q y aa ah ai],Tryz.f249.ntmps⟩ ?_ ?_
 ·exact gqZ 14 hb4
 refine goC h ?_ ?_<;>intro c6 h
 ·refine noS ?_;refine kI (jA ?_);refine goL ?_;obtain⟨x7,ap,h⟩:=gJ h;obtain⟨ax,ap⟩:=gBm ap;obtain⟨bm,bn,bo,bp,⟨ba,bb,bc⟩,bq,br⟩:=x7;refine jP (uL ax (gXd ap)) ?_;obtain⟨x8,be,h⟩:=gJ h;refine jP (gI (ab _ _ be)) ?_;refine jP (pV) ?_;exact⟨n3,x8,(IntKind.i64.wrap (y2+1)),h,Nat.lt_succ_self _,eJ⟩
 ·refine goX ?_;refine noB ?_;refine mG (fun(aj:Nat)(y9:Int)(ak:Int)=>⟨[(1,.I y9),(2,.ptr 0 0),(6,.I ak)],[bEx ac ad ae ag q y aa ah ai],Tryz.f249.ntmps⟩) (fun aj y9 ak=>gId f (gY.mk ac ad ae ag (gB.mk q y aa) ah ai) aj y9 ak=some r) (fun aj y9 ak=>aj) n0 y1 0 eJ h ?_;rintro aj y9 ak h;rcases aj with _ | aj
  ·cases h
  rw [gId.eq_2] at h;refine goL ?_;obtain⟨bf,hb12,h⟩:=uK h;refine kH ⟨[(1,.I y9),(2,.ptr 0 0),(6,.I ak),(35,.B bf)],[bEx ac ad ae ag q y aa ah ai],Tryz.f249.ntmps⟩ ?_ ?_
  ·exact gqZ 32 hb12
  refine goC h ?_ ?_<;>intro bw h
  ·refine noS ?_;refine kI (jA ?_);refine goL ?_;obtain⟨bg,al,h⟩:=gJ h;obtain⟨aq,al⟩:=gBm al;obtain⟨bh,bi,⟨ay,a3,a4,a5,⟨ar,au,av⟩,a6,a7⟩⟩:=bg;refine jP (uL aq (hDv al)) ?_;obtain⟨bj,a8,h⟩:=gJ h;refine jP (gI (ab _ _ a8)) ?_;refine jP (pV) ?_;exact⟨aj,bj,(IntKind.i64.wrap (ak+1)),h,Nat.lt_succ_self _,eJ⟩
  ·refine goX ?_;refine jF ?_;cases h;exact uM
def gRs:Nat→gY→Int→Option (Int)
 | 0,_,_=>none
 | n+1,f,h=>gRr (gRs n) f h n
theorem hE4:∀(n:Nat)(f:gY)(q:Int){r:Int},gRs n f q=some r→jI Tryz.prog 249 [.d (gBp f),.I q] [.i .i64 r]:=by
 intro n
 induction n with
 | zero=>intro f q r h;cases h
 | succ n ih=>intro f q r h;exact hE3 ih f q h
def gAw(f:gB):Bool:=
lt_ ((cnd (f.kind==0) ((cnd (f.name==[]) (((f.args.length:Int)==0)) (false))) (false))) fun h=>
h
theorem gDn(a0:gB):jI Tryz.prog 232 [.d (mM a0)] [.b (gAw a0)]:=by
 obtain⟨r,h⟩:∃r,gAw a0=r:=⟨_,rfl⟩
 rw [h];obtain⟨f,q,y⟩:=a0;unfold gAw at h;refine SpI Tryz.func232 fun A _=>?_;refine goL ?_;obtain⟨b1,hb1,h⟩:=uK h;refine kH ⟨[(2,.B b1)],[bTy f q y],Tryz.f232.ntmps⟩ ?_ ?_
 ·refine wW 6 (fun c2=>?_) (fun c2=>?_) (by first | rfl | (simp only [kE,jO];rfl))
  ·replace hb1:=kU c2 hb1;refine goL ?_;refine wW 11 (fun c3=>?_) (fun c3=>?_) (by first | rfl | (simp only [kE,jO];rfl))
   ·replace hb1:=kU c3 hb1;refine goL ?_;cases hb1;exact⟨rfl,⟨⟨by first | rfl | (simp only [kE,jO];rfl),rfl⟩,trivial⟩,⟨_,rfl⟩,rfl⟩
   ·replace hb1:=kV c3 hb1;refine goL ?_;cases hb1;exact⟨rfl,⟨⟨by first | rfl | (simp only [kE,jO];rfl),rfl⟩,trivial⟩,⟨_,rfl⟩,rfl⟩
  ·replace hb1:=kV c2 hb1;refine goL ?_;cases hb1;exact⟨rfl,⟨⟨by first | rfl | (simp only [kE,jO];rfl),rfl⟩,trivial⟩,⟨_,rfl⟩,rfl⟩
 refine goL ?_;refine jF ?_;subst h;exact uM
def gGu(f:Int):Bool × Bool × Bool × Bool × Int × Bool:=
(cnd (f==1) (
(false,false,true,false,0,false)) (
(cnd (f==2) (
(false,false,true,false,0,false)) (
(cnd (f==3) (
(false,true,false,false,0,false)) (
(cnd (f==4) (
(false,true,false,false,(-1),false)) (
(cnd (f==6) (
(false,true,false,false,(-1),false)) (
(cnd (f==5) (
(true,true,false,false,(-1),false)) (
(cnd (f==7) (
(false,false,false,false,1,true)) (
(cnd (f==8) (
(false,true,false,false,2,false)) (
(cnd (f==10) (
(false,true,false,false,2,false)) (
(cnd (f==9) (
(false,false,false,false,3,false)) (
(cnd (f==11) (
(true,false,false,false,1,false)) (
(false,false,false,true,1,false)))))))))))))))))))))))
theorem hIy(f:Int):jI Tryz.prog 252 [.I f] [.b (gGu f).1,.b (gGu f).2.1,.b (gGu f).2.2.1,.b (gGu f).2.2.2.1,.i .i64 (gGu f).2.2.2.2.1,.b (gGu f).2.2.2.2.2]:=by
 obtain⟨r,h⟩:∃r,gGu f=r:=⟨_,rfl⟩
 rw [h];unfold gGu at h;refine SpI Tryz.func252 fun A _=>?_;refine goL ?_;refine jA ?_;refine goC h ?_ ?_<;>intro c1 h
 ·refine noS ?_;refine mR (fun c2=>?_) (fun c2=>?_)
  ·refine goL ?_;refine jF ?_;subst h;exact uM
  ·exact absurd (c1.symm.trans c2) (by decide)
 ·refine goC h ?_ ?_<;>intro c3 h
  ·refine goL ?_;refine jF ?_;subst h;exact uM
  ·refine goC h ?_ ?_<;>intro c4 h
   ·refine goL ?_;refine jF ?_;subst h;exact uM
   ·refine goC h ?_ ?_<;>intro c5 h
    ·refine noS ?_;refine mR (fun c6=>?_) (fun c6=>?_)
     ·refine goL ?_;refine jF ?_;subst h;exact uM
     ·exact absurd (c5.symm.trans c6) (by decide)
    ·refine goC h ?_ ?_<;>intro c7 h
     ·refine goL ?_;refine jF ?_;subst h;exact uM
     ·refine goC h ?_ ?_<;>intro c8 h
      ·refine goL ?_;refine jF ?_;subst h;exact uM
      ·refine goC h ?_ ?_<;>intro c9 h
       ·refine goL ?_;refine jF ?_;subst h;exact uM
       ·refine goC h ?_ ?_<;>intro y h
        ·refine noS ?_;refine mR (fun q=>?_) (fun q=>?_)
         ·refine goL ?_;refine jF ?_;subst h;exact uM
         ·exact absurd (y.symm.trans q) (by decide)
        ·refine goC h ?_ ?_<;>intro ae h
         ·refine goL ?_;refine jF ?_;subst h;exact uM
         ·refine goC h ?_ ?_<;>intro ag h
          ·refine goL ?_;refine jF ?_;subst h;exact uM
          ·refine goC h ?_ ?_<;>intro ah h
           ·refine goL ?_;refine jF ?_;subst h;exact uM
           ·refine goS ?_;refine jF ?_;subst h;exact uM
def gNz(f:LB):Bool:=
(yV [[43],[45],[42],[60],[61]] f)
theorem hE5(f:LB):jI Tryz.prog 253 [.S f] [.b (gNz f)]:=by
 obtain⟨r,h⟩:∃r,gNz f=r:=⟨_,rfl⟩
 rw [h];unfold gNz at h;refine SpI Tryz.func253 fun A _=>?_;refine goL ?_;refine yQ (us:=gT [[43],[45],[42],[60],[61]]) ?_;refine goL ?_;refine yT (gUa (gGl [[43],[45],[42],[60],[61]] f)) ?_;refine jF ?_;subst h;exact uM
def gEw(a1:LS):LS→Nat→Option (Bool)
 | [],f=>(some true)
 | h::xs,f=>bnd (at? a1 (f:Int)) fun q=>
(cnd (!(h==q)) (
(some false)) (
gEw a1 xs (f+1)))
def gOu(f:LS)(a1:LS):Option (Bool):=
(cnd ((f.length:Int) !=(a1.length:Int)) (
(some false)) (
gEw a1 f 0))
theorem hAy(y:LS)(a1:LS){r:Bool}(h:gOu y a1=some r):jI Tryz.prog 251 [.L 1 (gT y),.L 1 (gT a1)] [.b r]:=by
 unfold gOu at h;refine SpI Tryz.func251 fun A _=>?_;refine goC h ?_ ?_<;>intro c1 h
 ·exact goR h
 ·refine goS ?_;refine noB ?_;refine gCw 0 (fun z3=>?_);refine pY (fun(q:Nat)=>⟨[(0,.L 1 (gT y)),(1,.L 1 (gT a1)),(5,.N q)],[],Tryz.f251.ntmps⟩) (fun q=>gEw a1 (y.drop q) q=some r) (fun q=>y.length - q) 0 eJ h ?_;rintro q h;refine goL ?_;refine mR (fun c4=>?_) (fun c4=>?_)
  ·have f:=vR c4;obtain⟨x5,ad,aa⟩:=drop_at f;rw [aa,gEw.eq_2] at h;refine noS ?_;refine kI (jA ?_);refine goL ?_;refine gDi (jR q (gO7 ad)) ?_;refine goL ?_;obtain⟨x6,ab,h⟩:=gJ h;rw [gA4] at ab;refine gDi (jR q (gO7 ab)) ?_;refine goC h ?_ ?_<;>intro c7 h
   ·exact goR h
   ·refine goS ?_;refine jP (kD q (by omega)) ?_;exact⟨(q+1),h,by omega,eJ⟩
  ·have f:=vS c4;rw [jK f,gEw.eq_1] at h;refine goX ?_;refine jF ?_;cases h;exact uM
def pG(f:LB):gF:=
(gF.mk f [])
theorem pR(f:LB):jI Tryz.prog 220 [.S f] [qJ (pG f)]:=by
 obtain⟨r,h⟩:∃r,pG f=r:=⟨_,rfl⟩
 rw [h];unfold pG at h;refine SpI Tryz.func220 fun A _=>?_;refine goL ?_;refine yT (jN TBd.h TZ.h rfl (by repeat constructor)) ?_;refine jF ?_;subst h;exact uM
def uV(f:gB→Option (Bool))(h:gB):List gB→Option (Bool)
 | []=>(some (h.kind==3))
 | q::xs=>bnd (f q) fun y=>
(cnd y (
(some true)) (
uV f h xs ))
def gDr(f:gB→Option (Bool))(h:gB):Option (Bool):=
uV f h h.args
theorem gPe{f:gB→Option (Bool)}(q:∀(x0:gB){r:Bool},f x0=some r→jI Tryz.prog 170 [.d (mM x0)] [.b r])(a0:gB){r:Bool}(h:gDr f a0=some r):jI Tryz.prog 170 [.d (mM a0)] [.b r]:=by
 obtain⟨ac,ad,aa⟩:=a0;unfold gDr at h;refine SpI Tryz.func170 fun A _=>?_;refine goL ?_;refine noB ?_;refine yC 0 2 (fun z2=>?_);refine pY (fun(y1:Nat)=>⟨[(1,.ptr 0 0),(3,.N y1)],[bTy ac ad aa],Tryz.f170.ntmps⟩) (fun y1=>uV f (gB.mk ac ad aa) (aa.drop y1)  =some r) (fun y1=>aa.length - y1) 0 eJ h ?_;rintro y1 h;refine goL ?_;refine mR (fun c3=>?_) (fun c3=>?_)
 ·have y:=vR c3;obtain⟨x4,ai,ae⟩:=drop_at y;rw [ae,uV.eq_2] at h;obtain⟨am,an,ao⟩:=x4;refine noS ?_;refine kI (jA ?_);refine goL ?_;refine jP (jR y1 (gDj ai)) ?_;obtain⟨x5,aj,h⟩:=gJ h;refine jP (gI (q _ aj)) ?_;refine mR (fun c6=>?_) (fun c6=>?_)
  ·replace h:=kU c6 h;exact goR h
  ·replace h:=kV c6 h;refine goS ?_;refine jP (kD y1 (by omega)) ?_;exact⟨(y1+1),h,by omega,eJ⟩
 ·have y:=vS c3;rw [jK y,uV.eq_1] at h;refine goX ?_;refine jF ?_;cases h;exact uM
def vY:Nat→gB→Option (Bool)
 | 0,_=>none
 | n+1,f=>gDr (vY n) f
theorem gGk:∀(n:Nat)(f:gB){r:Bool},vY n f=some r→jI Tryz.prog 170 [.d (mM f)] [.b r]:=by
 intro n
 induction n with
 | zero=>intro f r h;cases h
 | succ n ih=>intro f r h;exact gPe ih f h
def gBa(f:LB)(a1:List gB):Option (gB):=
gd (([]:List gB).length+a1.length≤4294967296) (
(some (gB.mk 2 f ([]++a1))))
theorem gDy(f:LB)(a1:List gB){r:gB}(h:gBa f a1=some r):jI Tryz.prog 97 [.S f,.L 3 (gN a1)] [mM r]:=by
 unfold gBa at h;refine SpI Tryz.func97 fun A _=>?_;refine goL ?_;refine gAu ?_;refine goL ?_;obtain⟨q,h⟩:=pU h;refine gAd q ?_;refine yT (jN TBd.h TZ.h rfl (by repeat constructor)) ?_;refine gV 1 rfl rfl ?_;refine jF ?_;cases h;exact uM
def vZ(f:LB):gB:=
(gB.mk 1 f [])
theorem gCl(f:LB):jI Tryz.prog 136 [.S f] [mM (vZ f)]:=by
 obtain⟨r,h⟩:∃r,vZ f=r:=⟨_,rfl⟩
 rw [h];unfold vZ at h;refine SpI Tryz.func136 fun A _=>?_;refine goL ?_;refine yT (jN TBd.h TZ.h rfl (by repeat constructor)) ?_;refine jF ?_;subst h;exact uM
def gMc(f:LB)(a1:gB):Option (gB):=
gd (tok a1) (lt_ (idT a1) fun h=>
(some (gB.mk 3 f [h])))
theorem gP0(a0:LB)(a1:gB){r:gB}(h:gMc a0 a1=some r):jI Tryz.prog 137 [.S a0,.d (mM a1)] [mM r]:=by
 obtain⟨f,q,y⟩:=a1;unfold gMc at h;refine SpI Tryz.func137 fun A _=>?_;refine goL ?_;obtain⟨g1,h⟩:=pU h;obtain⟨⟨aa,ab,ac⟩,ad,h⟩:=uK h;have sx2:=(gHu (gB.mk f q y) g1).p;rw [ad] at sx2;refine uN (gI (sx2)) ?_;refine uO (u:=(.st [.i .i64 aa,.s ab,.sl 3 (gN ac)])) ?_;refine yT (jN TBd.h TZ.h rfl (by repeat constructor)) ?_;refine gV 2 rfl rfl ?_;refine jF ?_;cases h;exact uM
end Go.Proofs.YtfpdlnkkcnmebaaGreat
