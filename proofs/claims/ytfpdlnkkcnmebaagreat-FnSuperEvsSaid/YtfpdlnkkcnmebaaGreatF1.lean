import Derived.Test.YtfpdlnkkcnmebaaGreatSv
set_option maxHeartbeats 4000000
set_option linter.unusedVariables false
set_option linter.unusedSimpArgs false
set_option linter.unusedSectionVars false
namespace Go.Proofs.YtfpdlnkkcnmebaaGreat
open Go Go.Eng
attribute [local irreducible] V VO VQ VY Quiet QR jF mJ Rng qI qJ qB
def gAd(f:LS):LS→Nat→Option (Bool)
 | [],c=>(some true)
 | h::xs,c=>gd (0≤(c:Int)∧(c:Int)≤(f.length:Int)) (
(cnd (wY (f.take (Int.toNat (c:Int))) h) (
(some false)) (
gAd f xs (c+1))))
def yH(c:LS):Option (Bool):=
gAd c c 0
theorem gBb(q:LS){r:Bool}(h:yH q=some r):jF Tryz.prog 194 [.L 1 (gP q)] [.b r]:=by
 unfold yH at h;refine SpI Tryz.func194 fun A _=>?_;refine goL ?_;refine noB ?_;refine gCm 0 (fun z2=>?_);refine qD (fun(f:Nat)=>⟨[(0,.L 1 (gP q)),(3,.N f)],[],Tryz.f194.ntmps⟩) (fun f=>gAd q (q.drop f) f=some r) (fun f=>q.length - f) 0 eJ h ?_;rintro f h;refine goL ?_;refine mQ (fun c3=>?_) (fun c3=>?_)
 ·have c:=vF c3;obtain⟨x4,ab,y⟩:=drop_at c;rw [y,gAd.eq_2] at h;refine noS ?_;refine kH (jE ?_);refine goL ?_;obtain⟨g5,h⟩:=pO h;refine gCy (hMc g5) ?_;refine goL ?_;refine gCy (jM f (gNp ab)) ?_;refine goL ?_;refine gCy (gG (gF2 (q.take (Int.toNat (f:Int))) x4)) ?_;refine goC h ?_ ?_<;>intro c6 h
  ·exact goR h
  ·refine goS ?_;refine jK (kD f (by omega)) ?_;exact⟨(f+1),h,by omega,eJ⟩
 ·have c:=vG c3;rw [jH c,gAd.eq_1] at h;refine goX ?_;refine jG ?_;cases h;exact uA
def gIz(c:gB→Int→Option (Int))(q:gB):Nat→Int→Int→Option (Int)
 | 0,f,h=>none
 | y+1,f,h=>lt_ ((cnd (decide (h < (q.args.length:Int))) ((decide (f≥0))) (false))) fun b4=>
(cnd b4 (
bnd (at? q.args h) fun x7=>
bnd (c x7 f) fun x8=>
gIz c q y x8 (IntKind.i64.wrap (h+1))) (
(some f)))
def gTd(c:gB→Int→Option (Int))(f:gB)(a1:Int)(h:Nat):Option (Int):=
gIz c f h (IntKind.i64.wrap (a1 - 1)) 0
theorem hFj{c:gB→Int→Option (Int)}(f:∀(x0:gB)(x1:Int){r:Int},c x0 x1=some r→jF Tryz.prog 245 [.d (kZ x0),.I x1] [.i .i64 r])(a0:gB)(a1:Int){n0:Nat}{r:Int}(h:gTd c a0 a1 n0=some r):jF Tryz.prog 245 [.d (kZ a0),.I a1] [.i .i64 r]:=by
 obtain⟨q,y,aa⟩:=a0;unfold gTd at h;refine SpI Tryz.func245 fun A _=>?_;refine goL ?_;refine jK (pV) ?_;refine noB ?_;refine kV (fun(n3:Nat)(y1:Int)(y2:Int)=>⟨[(1,.I y1),(2,.ptr 0 0),(5,.I y2)],[bTy q y aa],Tryz.f245.ntmps⟩) (fun n3 y1 y2=>gIz c (gB.mk q y aa) n3 y1 y2=some r) (fun n3 y1 y2=>n3) n0 (IntKind.i64.wrap (a1 - 1)) 0 eJ h ?_;rintro n3 y1 y2 h;rcases n3 with _ | n3
 ·cases h
 rw [gIz.eq_2] at h;refine goL ?_;obtain⟨b4,hb4,h⟩:=qW h;refine kC ⟨[(1,.I y1),(2,.ptr 0 0),(5,.I y2),(16,.B b4)],[bTy q y aa],Tryz.f245.ntmps⟩ ?_ ?_
 ·exact gqZ 13 hb4
 refine goC h ?_ ?_<;>intro c6 h
 ·refine noS ?_;refine kH (jE ?_);refine goL ?_;obtain⟨x7,ad,h⟩:=gJ h;obtain⟨ag,ad⟩:=gAz ad;obtain⟨am,an,ao⟩:=x7;refine jK (qY ag (gEk ad)) ?_;obtain⟨x8,ai,h⟩:=gJ h;refine jK (gG (f _ _ ai)) ?_;refine jK (pV) ?_;exact⟨n3,x8,(IntKind.i64.wrap (y2+1)),h,Nat.lt_succ_self _,eJ⟩
 ·refine goX ?_;refine jG ?_;cases h;exact uA
def gTe:Nat→gB→Int→Option (Int)
 | 0,_,_=>none
 | n+1,c,f=>gTd (gTe n) c f n
theorem hFk:∀(n:Nat)(c:gB)(f:Int){r:Int},gTe n c f=some r→jF Tryz.prog 245 [.d (kZ c),.I f] [.i .i64 r]:=by
 intro n
 induction n with
 | zero=>intro c f r h;cases h
 | succ n ih=>intro c f r h;exact hFj ih c f h
def gMq(c:LB):Bool:=
lt_ ((cnd (c==[105,110,116]) (true) ((c==[98,111,111,108])))) fun f=>
f
theorem gXy(c:LB):jF Tryz.prog 118 [.S c] [.b (gMq c)]:=by
 obtain⟨r,h⟩:∃r,gMq c=r:=⟨_,rfl⟩
 rw [h];unfold gMq at h;refine SpI Tryz.func118 fun A _=>?_;refine goL ?_;obtain⟨f,hb1,h⟩:=qW h;refine kC ⟨[(2,.B f)],[],Tryz.f118.ntmps⟩ ?_ ?_
 ·exact gqZ 5 hb1
 refine goL ?_;refine jG ?_;subst h;exact uA
def gFq(c:gU→LS→LS→Option LS)(bound:LS):List gH0→LS→Option LS
 | [],f=>(some f)
 | h::xs,f=>gd (([]:LS).length+bound.length≤4294967296) (
gd (([]++bound).length+h.vars.length≤4294967296) (
bnd (c h.body (([]++bound)++h.vars) f) fun q=>
gFq c bound xs q))
def gFr(c:gU→LS→LS→Option LS)(e:gU)(bound:LS):List gU→Nat→LS→Option LS
 | [],f,q=>gFq c bound e.arms q
 | h::xs,f,q=>bnd (lt_ ((cnd (e.kind==8) (((f:Int)==1)) (false))) fun y=>
(cnd y (
gd (([]:LS).length+bound.length≤4294967296) (
gd (([]++bound).length+[e.name].length≤4294967296) (
bnd (c h (([]++bound)++[e.name]) q) fun aa=>
(some aa)))) (
bnd (c h bound q) fun ab=>
(some ab)))) fun ac=>
gFr c e bound xs (f+1) ac
def gQl(c:gU→LS→LS→Option LS)(e:gU)(bound:LS)(f:LS):Option LS:=
lt_ ((cnd (e.kind==3) ((cnd (!(wY bound e.name)) ((!(wY f e.name))) (false))) (false))) fun h=>
bnd ((cnd h (
gd (f.length+[e.name].length≤4294967296) (
(some (f++[e.name])))) (
(some f)))) fun q=>
gFr c e bound e.args 0 q
theorem hB8{c:gU→LS→LS→Option LS}(ab:∀(x0:gU)(x1:LS)(x2:LS)(w0:Nat){r:LS},c x0 x1 x2=some r→Go.Eng.Spec Tryz.prog 248 [.d (zJ x0),.L 1 (gP x1),.sl 0 w0] [.own 9 1 w0 (gP x2)] (fun sv Lo=>∃v'0,sv=.sl 0 v'0∧Lo=[.own 9 1 v'0 (gP r)]))(e:gU)(bound:LS)(l0:LS)(v0:Nat){r:LS}(h:gQl c e bound l0=some r):Go.Eng.Spec Tryz.prog 248 [.d (zJ e),.L 1 (gP bound),.sl 0 v0] [.own 9 1 v0 (gP l0)] (fun sv Lo=>∃v'0,sv=.sl 0 v'0∧Lo=[.own 9 1 v'0 (gP r)]):=by
 obtain⟨ah,ai,ac,aj,⟨f,y,aa⟩,ae,ag⟩:=e;unfold gQl at h;refine kS 1 Tryz.func248 rfl (by kernel_rfl) rfl rfl fun A _=>?_;refine goL ?_;obtain⟨b1,hb1,h⟩:=qW h;refine kC ⟨[(1,.L 1 (gP bound)),(2,.sl 0 v0),(3,.ptr 1 0),(26,.B b1)],[.own 9 1 v0 (gP l0),bEx ah ai ac aj f y aa ae ag],Tryz.f248.ntmps⟩ ?_ ?_
 ·refine gqA 13 hb1 (fun c2 hb1=>?_);refine jK (gG (gF2 bound ac)) ?_;refine gqA 20 hb1 (fun c3 hb1=>?_);refine gAc (gUo (gF2 l0 ac)) ?_;cases hb1;exact eJ
 refine goL ?_;obtain⟨b4,hb4,h⟩:=gJ h;refine gIx (fun v5=>⟨[(1,.L 1 (gP bound)),(2,.sl 0 v5),(3,.ptr 1 0)],[.own 9 1 v5 (gP b4),bEx ah ai ac aj f y aa ae ag],Tryz.f248.ntmps⟩) ?_ (fun v5=>?_)
 ·refine mQ (fun c6=>?_) (fun c6=>?_)
  ·replace hb4:=kT c6 hb4;refine goL ?_;refine yF ac ?_;obtain⟨g7,hb4⟩:=pO hb4;refine gDn g7 ?_;refine goL ?_;cases hb4;exact⟨(v0+1),eJ⟩
  ·replace hb4:=kU c6 hb4;refine yE ?_;cases hb4;exact⟨v0,eJ⟩
 refine goL ?_;refine noB ?_;refine yP 1 7 (fun ck=>?_);refine kV (fun(ad:Nat)(y8:LS)(v9:Nat)=>⟨[(1,.L 1 (gP bound)),(2,.sl 0 v9),(3,.ptr 1 0),(7,.N ad)],[.own 9 1 v9 (gP y8),bEx ah ai ac aj f y aa ae ag],Tryz.f248.ntmps⟩) (fun ad y8 v9=>gFr c (gU.mk ah ai ac aj (gB.mk f y aa) ae ag) bound (ae.drop ad) ad y8=some r) (fun ad y8 v9=>ae.length - ad) 0 b4 v5 eJ h ?_;rintro ad y8 v9 h;refine goL ?_;refine mQ (fun bi=>?_) (fun bi=>?_)
 ·have al:=vF bi;obtain⟨b5,bg,bj⟩:=drop_at al;rw [bj,gFr.eq_2] at h;obtain⟨ay,a0,a3,a4,⟨an,ao,ap⟩,a5,a6⟩:=b5;refine noS ?_;refine kH ?_;obtain⟨bu,hb14,h⟩:=gJ h;refine gIx (fun bf=>⟨[(1,.L 1 (gP bound)),(2,.sl 0 bf),(3,.ptr 1 0),(7,.N ad)],[.own 9 1 bf (gP bu),bEx ah ai ac aj f y aa ae ag],Tryz.f248.ntmps⟩) ?_ (fun bf=>?_)
  ·refine jE ?_;refine goL ?_;obtain⟨b6,hb16,hb14⟩:=qW hb14;refine kC ⟨[(1,.L 1 (gP bound)),(2,.sl 0 v9),(3,.ptr 1 0),(7,.N ad),(8,.L 1 (gP bound)),(46,.B b6)],[.own 9 1 v9 (gP y8),bEx ah ai ac aj f y aa ae ag],Tryz.f248.ntmps⟩ ?_ ?_
   ·exact gqZ 43 hb16
   refine goL ?_;refine mQ (fun bk=>?_) (fun bk=>?_)
   ·replace hb14:=kT bk hb14;obtain⟨bl,hb14⟩:=pO hb14;obtain⟨bm,hb14⟩:=pO hb14;refine qQ (P:=Tryz.prog) Mix.h (.q 1 (.q 3 (.q 4 (.h 0 (.h 2 (.h 5 (.h 6 (.q 7 .nil) .nil) .nil) (.h 5 (.h 2 (.h 6 (.q 7 .nil) .nil) .nil) .nil)) (.h 5 (.h 0 (.h 2 (.h 6 (.q 7 .nil) .nil) .nil) .nil) .nil))))) ⟨[(1,.L 1 (gP bound)),(2,.sl 0 v9),(3,.ptr 1 0),(7,.N ad),(8,.sl 2 ((0+1)+1))],[.own 9 1 v9 (gP y8),bEx ah ai ac aj f y aa ae ag,.own 9 1 ((0+1)+1) (gP (([]++bound)++[ac])),.dead 1],Tryz.f248.ntmps⟩ (by kernel_rfl) ?_ ?_
    ·refine goT ?_;refine pR (hBn gQ) ?_ ?_
     ·refine pR (gH1 (T:=34) bl gQ) ?_ ?_
      ·refine gH (gG1 (T:=34) (ac:LB) gQ) ?_;refine gH (gH1 (T:=34) bm gQ) ?_;refine goT ?_;refine jB ?_;exact mK 1 [0,1,2,3]
      refine gH (gG1 (T:=34) (ac:LB) gQ) ?_;refine gH (gH1 (T:=34) bl gQ) ?_;refine gH (gH1 (T:=34) bm gQ) ?_;refine goT ?_;refine jB ?_;exact mK 1 [0,1,2,3]
     refine gH (gG1 (T:=34) (ac:LB) gQ) ?_;refine gH (hBn gQ) ?_;refine gH (gH1 (T:=34) bl gQ) ?_;refine gH (gH1 (T:=34) bm gQ) ?_;refine goT ?_;refine jB ?_;exact mK 1 [0,1,3,2]
    refine goL ?_;refine jK (jM ad (gUp bg)) ?_;refine gA8 2 rfl rfl ?_;obtain⟨b7,bv,hb14⟩:=gJ hb14;refine gCl [0] (ab (gU.mk ay a0 a3 a4 (gB.mk an ao ap) a5 a6) (([]++bound)++[ac]) y8 v9 bv) ?_;rintro _ _ ⟨bn,rfl,rfl⟩;show VO _ _ _ _ ⟨(_,.sl 0 bn)::_,[.own 9 1 bn (gP b7),bEx ah ai ac aj f y aa ae ag,.frz 9 1 ((0+1)+1) (gP (([]++bound)++[ac])),.dead 1],_⟩ _;refine goL ?_;cases hb14;exact⟨bn,eJ⟩
   ·replace hb14:=kU bk hb14;refine goS ?_;refine jK (jM ad (gUp bg)) ?_;obtain⟨b8,bw,hb14⟩:=gJ hb14;refine gCl [0] (ab (gU.mk ay a0 a3 a4 (gB.mk an ao ap) a5 a6) bound y8 v9 bw) ?_;rintro _ _ ⟨bo,rfl,rfl⟩;show VO _ _ _ _ ⟨(_,.sl 0 bo)::_,[.own 9 1 bo (gP b8),bEx ah ai ac aj f y aa ae ag],_⟩ _;refine goL ?_;cases hb14;exact⟨bo,eJ⟩
  refine goL ?_;refine jK (kD ad (by omega)) ?_;exact⟨(ad+1),bu,bf,h,by omega,eJ⟩
 ·have al:=vG bi;rw [jH al,gFr.eq_1] at h;refine goX ?_;refine noB ?_;refine yP 1 8 (fun cl=>?_);refine kV (fun(ak:Nat)(aw:LS)(aq:Nat)=>⟨[(1,.L 1 (gP bound)),(2,.sl 0 aq),(3,.ptr 1 0),(9,.N ak)],[.own 9 1 aq (gP aw),bEx ah ai ac aj f y aa ae ag],Tryz.f248.ntmps⟩) (fun ak aw aq=>gFq c bound (ag.drop ak) aw=some r) (fun ak aw aq=>ag.length - ak) 0 y8 v9 eJ h ?_;rintro ak aw aq h;refine goL ?_;refine mQ (fun bp=>?_) (fun bp=>?_)
  ·have am:=vF bp;obtain⟨b9,bh,bq⟩:=drop_at am;rw [bq,gFq.eq_2] at h;obtain⟨ca,a7,⟨a8,a9,ba,bb,⟨ar,au,av⟩,bc,bd⟩⟩:=b9;refine noS ?_;refine kH (jE ?_);refine vP (P:=Tryz.prog) Mix.h [(0,true),(1,true),(2,true),(3,true),(4,true),(5,true),(7,true),(9,true),(10,true),(11,true),(12,true),(13,true),(14,true),(16,true),(6,false),(8,false),(15,false),(17,false),(18,true)] (by kernel_rfl) ?_;refine goY ?_;refine jO rfl (jM ak (gXo bh)) ?_;refine goY ?_;refine jO rfl (jM ak (gXo bh)) ?_;refine goY ?_;refine hBn ?_;obtain⟨cb,h⟩:=pO h;refine gH1 (T:=34) cb ?_;obtain⟨cc,h⟩:=pO h;refine gH1 (T:=34) cc ?_;refine gG2 2 rfl rfl ?_;obtain⟨bx,bz,h⟩:=gJ h;refine gU2 [0] (ab (gU.mk a8 a9 ba bb (gB.mk ar au av) bc bd) (([]++bound)++a7) aw aq bz) ?_;rintro _ _ ⟨br,rfl,rfl⟩;refine gRz (sv:=.sl 0 br) (L':=[.own 9 1 br (gP bx),bEx ah ai ac aj f y aa ae ag,.frz 9 1 ((0+1)+1) (gP (([]++bound)++a7))]) (by repeat(first | exact vE.nil | (apply vE.keep;focus ((repeat constructor);done)) | (apply vE.dep;focus kernel_rfl))) ?_;refine goY ?_;refine kX ?_;refine goL ?_;refine jK (kD ak (by omega)) ?_;exact⟨(ak+1),bx,br,h,by omega,eJ⟩
  ·have am:=vG bp;rw [jH am,gFq.eq_1] at h;refine goX ?_;refine jG ?_;obtain rfl:=Option.some.inj h;exact gBa [.sl 0 aq] _ ⟨aq,rfl,rfl⟩
def gQm:Nat→gU→LS→LS→Option LS
 | 0,_,_,_=>none
 | n+1,c,f,h=>gQl (gQm n) c f h
theorem hB9:∀(n:Nat)(c:gU)(f:LS)(q:LS)(y:Nat){r:LS},gQm n c f q=some r→Go.Eng.Spec Tryz.prog 248 [.d (zJ c),.L 1 (gP f),.sl 0 y] [.own 9 1 y (gP q)] (fun sv Lo=>∃v'0,sv=.sl 0 v'0∧Lo=[.own 9 1 v'0 (gP r)]):=by
 intro n
 induction n with
 | zero=>intro c f q y r h;cases h
 | succ n ih=>intro c f q y r h;exact hB8 ih c f q y h
def gHk(c:gU→Int→Option (Int))(q:gU):Nat→Int→Int→Option (Int)
 | 0,h,f=>none
 | y+1,h,f=>lt_ ((cnd (decide (f < (q.arms.length:Int))) ((decide (h≥0))) (false))) fun aa=>
(cnd aa (
bnd (at? q.arms f) fun ab=>
bnd (c ab.body h) fun ac=>
gHk c q y ac (IntKind.i64.wrap (f+1))) (
(some h)))
def gHl(c:gU→Int→Option (Int))(f:gU)(y:Nat):Nat→Int→Int→Option (Int)
 | 0,h,q=>none
 | n3+1,h,q=>lt_ ((cnd (decide (q < (f.args.length:Int))) ((decide (h≥0))) (false))) fun b4=>
(cnd b4 (
bnd (at? f.args q) fun x7=>
bnd (c x7 h) fun x8=>
gHl c f y n3 x8 (IntKind.i64.wrap (q+1))) (
gHk c f y h 0))
def gQn(c:gU→Int→Option (Int))(h:gU)(a1:Int)(f:Nat):Option (Int):=
gHl c h f f (IntKind.i64.wrap (a1 - 1)) 0
theorem hCa{c:gU→Int→Option (Int)}(aa:∀(x0:gU)(x1:Int){r:Int},c x0 x1=some r→jF Tryz.prog 249 [.d (zJ x0),.I x1] [.i .i64 r])(a0:gU)(a1:Int){n0:Nat}{r:Int}(h:gQn c a0 a1 n0=some r):jF Tryz.prog 249 [.d (zJ a0),.I a1] [.i .i64 r]:=by
 obtain⟨ab,ac,ad,ae,⟨f,q,y⟩,ag,ah⟩:=a0;unfold gQn at h;refine SpI Tryz.func249 fun A _=>?_;refine goL ?_;refine jK (pV) ?_;refine noB ?_;refine kV (fun(n3:Nat)(y1:Int)(y2:Int)=>⟨[(1,.I y1),(2,.ptr 0 0),(5,.I y2)],[bEx ab ac ad ae f q y ag ah],Tryz.f249.ntmps⟩) (fun n3 y1 y2=>gHl c (gU.mk ab ac ad ae (gB.mk f q y) ag ah) n0 n3 y1 y2=some r) (fun n3 y1 y2=>n3) n0 (IntKind.i64.wrap (a1 - 1)) 0 eJ h ?_;rintro n3 y1 y2 h;rcases n3 with _ | n3
 ·cases h
 rw [gHl.eq_2] at h;refine goL ?_;obtain⟨b4,hb4,h⟩:=qW h;refine kC ⟨[(1,.I y1),(2,.ptr 0 0),(5,.I y2),(17,.B b4)],[bEx ab ac ad ae f q y ag ah],Tryz.f249.ntmps⟩ ?_ ?_
 ·exact gqZ 14 hb4
 refine goC h ?_ ?_<;>intro c6 h
 ·refine noS ?_;refine kH (jE ?_);refine goL ?_;obtain⟨x7,ao,h⟩:=gJ h;obtain⟨aw,ao⟩:=gAz ao;obtain⟨bl,bm,bn,bo,⟨a9,ba,bb⟩,bp,bq⟩:=x7;refine jK (qY aw (gUp ao)) ?_;obtain⟨x8,bd,h⟩:=gJ h;refine jK (gG (aa _ _ bd)) ?_;refine jK (pV) ?_;exact⟨n3,x8,(IntKind.i64.wrap (y2+1)),h,Nat.lt_succ_self _,eJ⟩
 ·refine goX ?_;refine noB ?_;refine kV (fun(ai:Nat)(y9:Int)(aj:Int)=>⟨[(1,.I y9),(2,.ptr 0 0),(6,.I aj)],[bEx ab ac ad ae f q y ag ah],Tryz.f249.ntmps⟩) (fun ai y9 aj=>gHk c (gU.mk ab ac ad ae (gB.mk f q y) ag ah) ai y9 aj=some r) (fun ai y9 aj=>ai) n0 y1 0 eJ h ?_;rintro ai y9 aj h;rcases ai with _ | ai
  ·cases h
  rw [gHk.eq_2] at h;refine goL ?_;obtain⟨be,hb12,h⟩:=qW h;refine kC ⟨[(1,.I y9),(2,.ptr 0 0),(6,.I aj),(35,.B be)],[bEx ab ac ad ae f q y ag ah],Tryz.f249.ntmps⟩ ?_ ?_
  ·exact gqZ 32 hb12
  refine goC h ?_ ?_<;>intro bv h
  ·refine noS ?_;refine kH (jE ?_);refine goL ?_;obtain⟨bf,ak,h⟩:=gJ h;obtain⟨ap,ak⟩:=gAz ak;obtain⟨bg,bh,⟨ax,ay,a3,a4,⟨aq,ar,au⟩,a5,a6⟩⟩:=bf;refine jK (qY ap (gXo ak)) ?_;obtain⟨bi,a7,h⟩:=gJ h;refine jK (gG (aa _ _ a7)) ?_;refine jK (pV) ?_;exact⟨ai,bi,(IntKind.i64.wrap (aj+1)),h,Nat.lt_succ_self _,eJ⟩
  ·refine goX ?_;refine jG ?_;cases h;exact uA
def gQo:Nat→gU→Int→Option (Int)
 | 0,_,_=>none
 | n+1,c,f=>gQn (gQo n) c f n
theorem hCb:∀(n:Nat)(c:gU)(f:Int){r:Int},gQo n c f=some r→jF Tryz.prog 249 [.d (zJ c),.I f] [.i .i64 r]:=by
 intro n
 induction n with
 | zero=>intro c f r h;cases h
 | succ n ih=>intro c f r h;exact hCa ih c f h
def gAe(c:gB):Bool:=
lt_ ((cnd (c.kind==0) ((cnd (c.name==[]) (((c.args.length:Int)==0)) (false))) (false))) fun f=>
f
theorem gC0(y:gB):jF Tryz.prog 232 [.d (kZ y)] [.b (gAe y)]:=by
 obtain⟨r,h⟩:∃r,gAe y=r:=⟨_,rfl⟩
 rw [h];obtain⟨c,f,q⟩:=y;unfold gAe at h;refine SpI Tryz.func232 fun A _=>?_;refine goL ?_;obtain⟨b1,hb1,h⟩:=qW h;refine kC ⟨[(2,.B b1)],[bTy c f q],Tryz.f232.ntmps⟩ ?_ ?_
 ·refine wW 6 (fun c2=>?_) (fun c2=>?_) (by first | rfl | (simp only [kE,jN];rfl))
  ·replace hb1:=kT c2 hb1;refine goL ?_;refine wW 11 (fun c3=>?_) (fun c3=>?_) (by first | rfl | (simp only [kE,jN];rfl))
   ·replace hb1:=kT c3 hb1;refine goL ?_;cases hb1;exact⟨rfl,⟨⟨by first | rfl | (simp only [kE,jN];rfl),rfl⟩,trivial⟩,⟨_,rfl⟩,rfl⟩
   ·replace hb1:=kU c3 hb1;refine goL ?_;cases hb1;exact⟨rfl,⟨⟨by first | rfl | (simp only [kE,jN];rfl),rfl⟩,trivial⟩,⟨_,rfl⟩,rfl⟩
  ·replace hb1:=kU c2 hb1;refine goL ?_;cases hb1;exact⟨rfl,⟨⟨by first | rfl | (simp only [kE,jN];rfl),rfl⟩,trivial⟩,⟨_,rfl⟩,rfl⟩
 refine goL ?_;refine jG ?_;subst h;exact uA
def gGa(c:Int):Bool × Bool × Bool × Bool × Int × Bool:=
(cnd (c==1) (
(false,false,true,false,0,false)) (
(cnd (c==2) (
(false,false,true,false,0,false)) (
(cnd (c==3) (
(false,true,false,false,0,false)) (
(cnd (c==4) (
(false,true,false,false,(-1),false)) (
(cnd (c==6) (
(false,true,false,false,(-1),false)) (
(cnd (c==5) (
(true,true,false,false,(-1),false)) (
(cnd (c==7) (
(false,false,false,false,1,true)) (
(cnd (c==8) (
(false,true,false,false,2,false)) (
(cnd (c==10) (
(false,true,false,false,2,false)) (
(cnd (c==9) (
(false,false,false,false,3,false)) (
(cnd (c==11) (
(true,false,false,false,1,false)) (
(false,false,false,true,1,false)))))))))))))))))))))))
theorem hFl(c:Int):jF Tryz.prog 252 [.I c] [.b (gGa c).1,.b (gGa c).2.1,.b (gGa c).2.2.1,.b (gGa c).2.2.2.1,.i .i64 (gGa c).2.2.2.2.1,.b (gGa c).2.2.2.2.2]:=by
 obtain⟨r,h⟩:∃r,gGa c=r:=⟨_,rfl⟩
 rw [h];unfold gGa at h;refine SpI Tryz.func252 fun A _=>?_;refine goL ?_;refine jE ?_;refine goC h ?_ ?_<;>intro c1 h
 ·refine noS ?_;refine mQ (fun y=>?_) (fun y=>?_)
  ·refine goL ?_;refine jG ?_;subst h;exact uA
  ·exact absurd (c1.symm.trans y) (by decide)
 ·refine goC h ?_ ?_<;>intro c3 h
  ·refine goL ?_;refine jG ?_;subst h;exact uA
  ·refine goC h ?_ ?_<;>intro c4 h
   ·refine goL ?_;refine jG ?_;subst h;exact uA
   ·refine goC h ?_ ?_<;>intro c5 h
    ·refine noS ?_;refine mQ (fun c6=>?_) (fun c6=>?_)
     ·refine goL ?_;refine jG ?_;subst h;exact uA
     ·exact absurd (c5.symm.trans c6) (by decide)
    ·refine goC h ?_ ?_<;>intro c7 h
     ·refine goL ?_;refine jG ?_;subst h;exact uA
     ·refine goC h ?_ ?_<;>intro c8 h
      ·refine goL ?_;refine jG ?_;subst h;exact uA
      ·refine goC h ?_ ?_<;>intro c9 h
       ·refine goL ?_;refine jG ?_;subst h;exact uA
       ·refine goC h ?_ ?_<;>intro q h
        ·refine noS ?_;refine mQ (fun f=>?_) (fun f=>?_)
         ·refine goL ?_;refine jG ?_;subst h;exact uA
         ·exact absurd (q.symm.trans f) (by decide)
        ·refine goC h ?_ ?_<;>intro ad h
         ·refine goL ?_;refine jG ?_;subst h;exact uA
         ·refine goC h ?_ ?_<;>intro ae h
          ·refine goL ?_;refine jG ?_;subst h;exact uA
          ·refine goC h ?_ ?_<;>intro ag h
           ·refine goL ?_;refine jG ?_;subst h;exact uA
           ·refine goS ?_;refine jG ?_;subst h;exact uA
def gMr(c:LB):Bool:=
(wY [[43],[45],[42],[60],[61]] c)
theorem hCc(c:LB):jF Tryz.prog 253 [.S c] [.b (gMr c)]:=by
 obtain⟨r,h⟩:∃r,gMr c=r:=⟨_,rfl⟩
 rw [h];unfold gMr at h;refine SpI Tryz.func253 fun A _=>?_;refine goL ?_;refine gAg (us:=gP [[43],[45],[42],[60],[61]]) ?_;refine goL ?_;refine gAc (gUo (gF2 [[43],[45],[42],[60],[61]] c)) ?_;refine jG ?_;subst h;exact uA
def gEc(a1:LS):LS→Nat→Option (Bool)
 | [],c=>(some true)
 | f::xs,c=>bnd (at? a1 (c:Int)) fun h=>
(cnd (!(f==h)) (
(some false)) (
gEc a1 xs (c+1)))
def gNs(c:LS)(a1:LS):Option (Bool):=
(cnd ((c.length:Int) !=(a1.length:Int)) (
(some false)) (
gEc a1 c 0))
theorem gZc(q:LS)(a1:LS){r:Bool}(h:gNs q a1=some r):jF Tryz.prog 251 [.L 1 (gP q),.L 1 (gP a1)] [.b r]:=by
 unfold gNs at h;refine SpI Tryz.func251 fun A _=>?_;refine goC h ?_ ?_<;>intro c1 h
 ·exact goR h
 ·refine goS ?_;refine noB ?_;refine gCm 0 (fun z3=>?_);refine qD (fun(f:Nat)=>⟨[(0,.L 1 (gP q)),(1,.L 1 (gP a1)),(5,.N f)],[],Tryz.f251.ntmps⟩) (fun f=>gEc a1 (q.drop f) f=some r) (fun f=>q.length - f) 0 eJ h ?_;rintro f h;refine goL ?_;refine mQ (fun c4=>?_) (fun c4=>?_)
  ·have c:=vF c4;obtain⟨x5,ac,y⟩:=drop_at c;rw [y,gEc.eq_2] at h;refine noS ?_;refine kH (jE ?_);refine goL ?_;refine gCy (jM f (gNp ac)) ?_;refine goL ?_;obtain⟨x6,aa,h⟩:=gJ h;rw [gCk] at aa;refine gCy (jM f (gNp aa)) ?_;refine goC h ?_ ?_<;>intro c7 h
   ·exact goR h
   ·refine goS ?_;refine jK (kD f (by omega)) ?_;exact⟨(f+1),h,by omega,eJ⟩
  ·have c:=vG c4;rw [jH c,gEc.eq_1] at h;refine goX ?_;refine jG ?_;cases h;exact uA
def mP(c:LB):gD:=
(gD.mk c [])
theorem pF(c:LB):jF Tryz.prog 220 [.S c] [qC (mP c)]:=by
 obtain⟨r,h⟩:∃r,mP c=r:=⟨_,rfl⟩
 rw [h];unfold mP at h;refine SpI Tryz.func220 fun A _=>?_;refine goL ?_;refine gAc (jU TBd.h TZ.h rfl (by repeat constructor)) ?_;refine jG ?_;subst h;exact uA
def uE(c:gB→Option (Bool))(f:gB):List gB→Option (Bool)
 | []=>(some (f.kind==3))
 | h::xs=>bnd (c h) fun q=>
(cnd q (
(some true)) (
uE c f xs ))
def gC4(c:gB→Option (Bool))(f:gB):Option (Bool):=
uE c f f.args
theorem gOg{c:gB→Option (Bool)}(f:∀(x0:gB){r:Bool},c x0=some r→jF Tryz.prog 170 [.d (kZ x0)] [.b r])(a0:gB){r:Bool}(h:gC4 c a0=some r):jF Tryz.prog 170 [.d (kZ a0)] [.b r]:=by
 obtain⟨ab,ac,y⟩:=a0;unfold gC4 at h;refine SpI Tryz.func170 fun A _=>?_;refine goL ?_;refine noB ?_;refine yP 0 2 (fun z2=>?_);refine qD (fun(y1:Nat)=>⟨[(1,.ptr 0 0),(3,.N y1)],[bTy ab ac y],Tryz.f170.ntmps⟩) (fun y1=>uE c (gB.mk ab ac y) (y.drop y1)  =some r) (fun y1=>y.length - y1) 0 eJ h ?_;rintro y1 h;refine goL ?_;refine mQ (fun c3=>?_) (fun c3=>?_)
 ·have q:=vF c3;obtain⟨x4,ah,ad⟩:=drop_at q;rw [ad,uE.eq_2] at h;obtain⟨al,am,an⟩:=x4;refine noS ?_;refine kH (jE ?_);refine goL ?_;refine jK (jM y1 (gEk ah)) ?_;obtain⟨x5,ai,h⟩:=gJ h;refine jK (gG (f _ ai)) ?_;refine mQ (fun c6=>?_) (fun c6=>?_)
  ·replace h:=kT c6 h;exact goR h
  ·replace h:=kU c6 h;refine goS ?_;refine jK (kD y1 (by omega)) ?_;exact⟨(y1+1),h,by omega,eJ⟩
 ·have q:=vG c3;rw [jH q,uE.eq_1] at h;refine goX ?_;refine jG ?_;cases h;exact uA
def vD:Nat→gB→Option (Bool)
 | 0,_=>none
 | n+1,c=>gC4 (vD n) c
theorem gFz:∀(n:Nat)(c:gB){r:Bool},vD n c=some r→jF Tryz.prog 170 [.d (kZ c)] [.b r]:=by
 intro n
 induction n with
 | zero=>intro c r h;cases h
 | succ n ih=>intro c r h;exact gOg ih c h
def gCq(c:LB)(a1:List gB):Option (gB):=
gd (([]:List gB).length+a1.length≤4294967296) (
(some (gB.mk 2 c ([]++a1))))
theorem gF0(c:LB)(a1:List gB){r:gB}(h:gCq c a1=some r):jF Tryz.prog 97 [.S c,.L 3 (gK a1)] [kZ r]:=by
 unfold gCq at h;refine SpI Tryz.func97 fun A _=>?_;refine goL ?_;refine zS ?_;refine goL ?_;obtain⟨f,h⟩:=pO h;refine gAi f ?_;refine gAc (jU TBd.h TZ.h rfl (by repeat constructor)) ?_;refine gW 1 rfl rfl ?_;refine jG ?_;cases h;exact uA
def wX(c:LB):gB:=
(gB.mk 1 c [])
theorem gCr(c:LB):jF Tryz.prog 136 [.S c] [kZ (wX c)]:=by
 obtain⟨r,h⟩:∃r,wX c=r:=⟨_,rfl⟩
 rw [h];unfold wX at h;refine SpI Tryz.func136 fun A _=>?_;refine goL ?_;refine gAc (jU TBd.h TZ.h rfl (by repeat constructor)) ?_;refine jG ?_;subst h;exact uA
def gK5(c:LB)(a1:gB):Option (gB):=
gd (tok a1) (lt_ (idT a1) fun f=>
(some (gB.mk 3 c [f])))
theorem gOw(a0:LB)(a1:gB){r:gB}(h:gK5 a0 a1=some r):jF Tryz.prog 137 [.S a0,.d (kZ a1)] [kZ r]:=by
 obtain⟨c,f,q⟩:=a1;unfold gK5 at h;refine SpI Tryz.func137 fun A _=>?_;refine goL ?_;obtain⟨g1,h⟩:=pO h;obtain⟨⟨y,aa,ab⟩,ac,h⟩:=qW h;have sx2:=(gAp (gB.mk c f q) g1).p;rw [ac] at sx2;refine qM (gG (sx2)) ?_;refine uQ (u:=(.st [.i .i64 y,.s aa,.sl 3 (gK ab)])) ?_;refine gAc (jU TBd.h TZ.h rfl (by repeat constructor)) ?_;refine gW 2 rfl rfl ?_;refine jG ?_;cases h;exact uA
end Go.Proofs.YtfpdlnkkcnmebaaGreat
