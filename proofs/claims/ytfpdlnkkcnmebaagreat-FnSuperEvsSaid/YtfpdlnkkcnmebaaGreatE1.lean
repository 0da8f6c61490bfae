import Derived.Test.YtfpdlnkkcnmebaaGreatD1
set_option maxHeartbeats 4000000
set_option linter.unusedVariables false
set_option linter.unusedSimpArgs false
set_option linter.unusedSectionVars false
namespace Go.Proofs.YtfpdlnkkcnmebaaGreat
open Go Go.Eng
attribute [local irreducible] V VO VQ VY Quiet QR jF mJ Rng qI qJ qB
def zX(a0:gM)(y3:Nat)(x6:gT)(f:(List jI)→Option (List jI)):LS→(List jI)→Option (List jI)
 | [],c=>(f c)
 | h::xs,c=>bnd (vN a0 x6.trait h) fun q=>
gd (tok x6.type_) (lt_ (idT x6.type_) fun y=>
gd (c.length+[(jI.mk (gT.mk h y) (y3:Int) q.1)].length≤4294967296) (
zX a0 y3 x6 f xs (c++[(jI.mk (gT.mk h y) (y3:Int) q.1)])))
def yM(q:gM):List gT→Nat→(List jI)→Option (List jI)
 | [],f,h=>(some h)
 | c::xs,f,h=>gd (tok c.type_) (lt_ (idT c.type_) fun x8=>
gd (h.length+[(jI.mk (gT.mk c.trait x8) (f:Int) [])].length≤4294967296) (
bnd (gQy q c.trait) fun y=>
zX q f c (fun aa=>yM q xs (f+1) aa) y (h++[(jI.mk (gT.mk c.trait x8) (f:Int) [])])))
def gHx(c:gM)(a1:List gT):Option (List jI):=
yM c a1 0 []
theorem gRe(a0:gM)(a1:List gT){r:List jI}(h:gHx a0 a1=some r):jF Tryz.prog 71 [.d (kW a0),.L 4 (jQ a1)] [.sl 6 (jW r)]:=by
 obtain⟨ad⟩:=a0;unfold gHx at h;refine SpI Tryz.func71 fun A _=>?_;refine goL ?_;refine zS ?_;refine goL ?_;refine noB ?_;refine gCm 13 (fun z4=>?_);refine kV (fun(y:Nat)(y1:List jI)(v2:Nat)=>⟨[(2,.ptr 0 0),(5,.sl 1 v2),(13,.L 4 (jQ a1)),(14,.I (a1.length:Int)),(15,.N y)],[bPr ad,.arr 139 6 v2 (jW y1)],Tryz.f71.ntmps⟩) (fun y y1 v2=>yM (gM.mk ad) (a1.drop y) y y1=some r) (fun y y1 v2=>a1.length - y) 0 [] 0 eJ h ?_;rintro y y1 v2 h;refine goL ?_;refine kH (mQ (fun c5=>?_) (fun c5=>?_))
 ·have ag:=vF c5;obtain⟨x6,a8,aw⟩:=drop_at ag;rw [aw,yM.eq_2] at h;obtain⟨ae,⟨c,f,q⟩⟩:=x6;refine noS ?_;refine kH (jE ?_);refine goL ?_;refine qM (jM y (gDi a8)) ?_;refine gHi ?_;refine jL (P:=Tryz.prog) Mix.h [(0,true),(1,true),(2,true),(3,true),(4,true),(5,true),(6,true),(7,true),(8,true),(9,false),(10,false),(11,true)] (by kernel_rfl) ?_;refine goY ?_;obtain⟨g7,h⟩:=pO h;obtain⟨⟨ai,aj,ak⟩,a9,h⟩:=qW h;have sx8:=(gJe (gB.mk c f q) g7).p;rw [a9] at sx8;refine jO rfl (gG (sx8)) ?_;refine goY ?_;refine jT (T:=96) (us:=jW [(jI.mk (gT.mk ae (gB.mk ai aj ak)) (y:Int) [])]) ?_;obtain⟨g9,h⟩:=pO h;refine jR (T:=96) g9 ?_;refine goY ?_;refine kX ?_;refine goL ?_;obtain⟨ap,ax,h⟩:=gJ h;refine jK (gG (hCu _ _ ax)) ?_;refine noB ?_;refine gCm 34 (fun bg=>?_);refine kV (fun(aa:Nat)(ab:List jI)(ah:Nat)=>⟨[(2,.ptr 0 0),(5,.sl 1 ah),(6,.N y),(7,.ptr 2 0),(13,.L 4 (jQ a1)),(14,.I (a1.length:Int)),(15,.N y),(34,.L 1 (gP ap)),(35,.I (ap.length:Int)),(36,.N aa)],[bPr ad,.arr 139 6 ah (jW ab),bBd ae c f q,.arr 139 6 0 (jW [(jI.mk (gT.mk ae (gB.mk ai aj ak)) (y:Int) [])])],Tryz.f71.ntmps⟩) (fun aa ab ah=>zX (gM.mk ad) y (gT.mk ae (gB.mk c f q)) (fun ab=>yM (gM.mk ad) (a1.drop (y+1)) (y+1) ab) (ap.drop aa) ab=some r) (fun aa ab ah=>ap.length - aa) 0 (y1++[(jI.mk (gT.mk ae (gB.mk ai aj ak)) (y:Int) [])]) (v2+1) eJ h ?_;rintro aa ab ah h;refine goL ?_;refine kH (mQ (fun aq=>?_) (fun aq=>?_))
  ·have ac:=vF aq;obtain⟨ay,a3,ar⟩:=drop_at ac;rw [ar,zX.eq_2] at h;refine noS ?_;refine kH (jE ?_);refine goL ?_;refine jK (jM aa (gNp a3)) ?_;obtain⟨⟨al,ba⟩,a4,h⟩:=gJ h;refine jK (gG (gH9 _ _ _ a4)) ?_;obtain⟨bb,h⟩:=pO h;obtain⟨⟨am,an,ao⟩,a5,h⟩:=qW h;have sx19:=(gJe (gB.mk c f q) bb).p;rw [a5] at sx19;refine qM (gG (sx19)) ?_;refine gAc (jU TBd.h TZ.h rfl (by repeat constructor)) ?_;refine yS (jU TBd.h TZ.h rfl (by repeat constructor)) ?_;refine uQ (u:=(.st [.st [.s ay,.st [.i .i64 am,.s an,.sl 3 (gK ao)]],.i .i64 (y:Int),.sl 1 (gId al)])) ?_;obtain⟨bc,h⟩:=pO h;refine gAi bc ?_;refine goL ?_;refine jK (kD aa (by omega)) ?_;exact⟨(aa+1),(ab++[(jI.mk (gT.mk ay (gB.mk am an ao)) (y:Int) al)]),(ah+1),h,by omega,eJ⟩
  ·have ac:=vG aq;rw [jH ac,zX.eq_1] at h;refine goX ?_;refine jK (kD y (by omega)) ?_;exact⟨(y+1),ab,ah,h,by omega,eJ⟩
 ·have ag:=vG c5;rw [jH ag,yM.eq_1] at h;refine goX ?_;refine gW 1 rfl rfl ?_;refine jG ?_;cases h;exact uA
def gGw(w:gM)(wh:List gT):Option (wO):=
bnd (gHx w wh) fun c=>
(some (wO.mk w c))
theorem gPv(w:gM)(wh:List gT){r:wO}(h:gGw w wh=some r):Go.Eng.Spec Tryz.prog 43 [.d (kW w),.L 4 (jQ wh)] [] (fun sv Lo=>sv=.ptr 0 0∧Lo=[.box [.L 6 (kQ r.w.packages),.L 6 (jW r.assumed)]]):=by
 obtain⟨c⟩:=w;unfold gGw at h;refine kS 0 Tryz.func43 rfl (by kernel_rfl) rfl rfl fun A _=>?_;refine goL ?_;refine qM (hBq) ?_;refine gHi ?_;refine jL (P:=Tryz.prog) Mix.h [(0,true),(1,true),(2,true),(3,true),(4,true),(5,false),(6,true)] (by kernel_rfl) ?_;refine goY ?_;obtain⟨q,f,h⟩:=gJ h;refine jO rfl (gG (gRe _ _ f)) ?_;refine goY ?_;refine kX ?_;refine goL ?_;refine hKk (fr':=[(4,.ptr 0 0)]) (Lc:=[.box [.L 6 (kQ c),.L 6 (jW q)]]) 0 [1] ?_;refine jG ?_;obtain rfl:=Option.some.inj h;exact gBa [.ptr 0 0] _ ⟨rfl,rfl⟩
def gMd(f:gM)(a1:List gT)(a2:gT):Option (gI × Int):=
bnd (gGw f a1) fun h=>
bnd (uL 5000 h a2 0) fun c=>
(some (c.1,c.2))
theorem hEu(a0:gM)(a1:List gT)(a2:gT){r:gI × Int}(h:gMd a0 a1 a2=some r):jF Tryz.prog 22 [.d (kW a0),.L 4 (jQ a1),.d (wU a2)] [mF r.1,.i .i64 r.2]:=by
 obtain⟨ag⟩:=a0;obtain⟨ah,⟨c,f,q⟩⟩:=a2;unfold gMd at h;refine SpI Tryz.func22 fun A _=>?_;refine gHi ?_;refine jL (P:=Tryz.prog) Mix.h [(0,true),(1,true),(3,true),(2,false),(4,false),(5,true),(6,true),(7,false),(8,true)] (by kernel_rfl) ?_;refine goY ?_;obtain⟨⟨⟨y⟩,ai⟩,al,h⟩:=gJ h;refine gCn (sv:=.ptr 3 0) (L':=[bPr ag,bBd ah c f q,.box [.I 0,.I 0,.I 0,.I 0,.nilsl],.box [.L 6 (kQ y),.L 6 (jW ai)]]) [] (gPv (gM.mk ag) a1 al) ?_;obtain⟨⟨⟨ac,ad,⟨aa,ab⟩,ae⟩,aj⟩,am,h⟩:=gJ h;refine gPo (sv:=.tup [.d (.st [.i .i64 ac,.i .i64 ad,.st [.i .i64 aa,.i .i64 ab],.sl 5 (jP ae)]),.I aj]) [3] (gPu 5000 (wO.mk (gM.mk y) ai) (gT.mk ah (gB.mk c f q)) 0 am) ?_;refine goY ?_;refine kX ?_;exact goR h
def gUf(c:LB):Bool:=
(decide ((c.length:Int) > 1048576))
theorem hK9(c:LB):jF Tryz.prog 5 [.L 1 (gEb c)] [.b (gUf c)]:=by
 obtain⟨r,h⟩:∃r,gUf c=r:=⟨_,rfl⟩
 rw [h];unfold gUf at h;refine SpI Tryz.func5 fun A _=>?_;refine goL ?_;refine jG ?_;subst h;exact uA
def qX(q:gM)(h:gY × Bool):LS→(List gI)→Option (List gI × Int)
 | [],f=>(some (f,0))
 | y::xs,f=>bnd (gMd q h.1.where_ (gT.mk y h.1.head)) fun c=>
(cnd (c.2 != 0) (
(some ([],c.2))) (
gd (f.length+[c.1].length≤4294967296) (
qX q h xs (f++[c.1]))))
def mR(c:gM)(a1:gF):Option (List gI × Int):=
bnd (gC9 c a1) fun f=>
(cnd (!f.2) (
(some ([],1))) (
lt_ (zA c f.1.trait) fun h=>
qX c f h.1.supertraits []))
theorem gJ9(a0:gM)(a1:gF){r:List gI × Int}(h:mR a0 a1=some r):jF Tryz.prog 7 [.d (kW a0),.d (qA a1)] [.sl 5 (jP r.1),.i .i64 r.2]:=by
 obtain⟨aq⟩:=a0;obtain⟨a5,a6⟩:=a1;unfold mR at h;refine SpI Tryz.func7 fun A _=>?_;refine goL ?_;obtain⟨⟨⟨ag,al,⟨y,aa,ab⟩,am,an,ao,⟨ac,ad,ae⟩,ap⟩,a7⟩,bb,h⟩:=gJ h;refine jK (gG (gKo _ _ bb)) ?_;refine mQ (fun c2=>?_) (fun c2=>?_)
 ·replace h:=kT c2 h;exact goR h
 ·replace h:=kU c2 h;refine goS ?_;obtain⟨⟨⟨ar,c,au,av,aw⟩,bi,bj⟩,bd,h⟩:=qW h;have sx3:=gK8 (gM.mk aq) ag;rw [bd] at sx3;refine jK (gG (sx3)) ?_;refine zS ?_;refine goL ?_;refine noB ?_;refine gCm 34 (fun z7=>?_);refine kV (fun(y6:Nat)(y4:List gI)(v5:Nat)=>⟨[(2,.ptr 0 0),(6,.ptr 2 0),(11,.sl 4 v5),(34,.L 1 (gP c)),(35,.I (c.length:Int)),(36,.N y6)],[bPr aq,.box [.I a5,.I a6],bIn ag al y aa ab am an ao ac ad ae ap,bTr ar c au av aw,.arr 51 5 v5 (jP y4)],Tryz.f7.ntmps⟩) (fun y6 y4 v5=>qX (gM.mk aq) ((gY.mk ag al (gB.mk y aa ab) am an ao (gB.mk ac ad ae) ap),a7) (c.drop y6) y4=some r) (fun y6 y4 v5=>c.length - y6) 0 [] 0 eJ h ?_;rintro y6 y4 v5 h;refine goL ?_;refine kH (mQ (fun c8=>?_) (fun c8=>?_))
  ·have ak:=vF c8;obtain⟨x9,bf,a8⟩:=drop_at ak;rw [a8,qX.eq_2] at h;refine noS ?_;refine kH (jE ?_);refine goL ?_;refine jK (jM y6 (gNp bf)) ?_;refine yS (jU TBd.h TZ.h rfl (by repeat constructor)) ?_;obtain⟨⟨⟨ah,ai,⟨f,q⟩,aj⟩,bg⟩,a9,h⟩:=gJ h;refine jK (gG (hEu _ _ _ a9)) ?_;refine mQ (fun ay=>?_) (fun ay=>?_)
   ·replace h:=kT ay h;exact goR h
   ·replace h:=kU ay h;refine goS ?_;refine uQ (u:=(.st [.i .i64 ah,.i .i64 ai,.st [.i .i64 f,.i .i64 q],.sl 5 (jP aj)])) ?_;obtain⟨bh,h⟩:=pO h;refine gAi bh ?_;refine goL ?_;refine jK (kD y6 (by omega)) ?_;exact⟨(y6+1),(y4++[(gI.mk ah ai (gF.mk f q) aj)]),(v5+1),h,by omega,eJ⟩
  ·have ak:=vG c8;rw [jH ak,qX.eq_1] at h;refine goX ?_;refine gW 4 rfl rfl ?_;refine jG ?_;cases h;exact uA
def gBr(a1:LB)(f:Nat)(c:mE × Int × Bool):List mE→mE × Int × Bool
 | []=>c
 | h::xs=>(cnd (h.name==a1) (
(h,(f:Int),true)) (
gBr a1 f c xs ))
def zY(a1:LB):List jX→Nat→mE × Int × Bool
 | [],c=>((mE.mk [] [] false false []),0,false)
 | f::xs,c=>gBr a1 c (zY a1 xs (c+1)) f.traits
def uD(c:gM)(a1:LB):mE × Int × Bool:=
zY a1 c.packages 0
theorem gFk(a0:gM)(a1:LB):jF Tryz.prog 24 [.d (kW a0),.S a1] [gHg (uD a0 a1).1,.i .i64 (uD a0 a1).2.1,.b (uD a0 a1).2.2]:=by
 obtain⟨r,h⟩:∃r,uD a0 a1=r:=⟨_,rfl⟩
 rw [h];obtain⟨c⟩:=a0;unfold uD at h;refine SpI Tryz.func24 fun A _=>?_;refine goL ?_;refine noB ?_;refine yP 0 0 (fun z2=>?_);refine qD (fun(f:Nat)=>⟨[(1,.S a1),(2,.ptr 0 0),(4,.ptr 1 0),(7,.N f)],[bPr c,.box [.S [],.nilsl,.B false,.B false,.nilsl]],Tryz.f24.ntmps⟩) (fun f=>zY a1 (c.drop f) f=r) (fun f=>c.length - f) 0 eJ h ?_;rintro f h;refine goL ?_;refine mQ (fun c3=>?_) (fun c3=>?_)
 ·have q:=vF c3;obtain⟨x4,ac,ae⟩:=drop_at q;rw [ae,zY.eq_2] at h;obtain⟨al,am,ab,an,ao,ap⟩:=x4;refine noS ?_;refine kH (jE ?_);refine goL ?_;refine noB ?_;refine qD (fun(y5:Nat)=>⟨[(1,.S a1),(2,.ptr 0 0),(4,.ptr 1 0),(7,.N f),(8,.N y5)],[bPr c,.box [.S [],.nilsl,.B false,.B false,.nilsl]],Tryz.f24.ntmps⟩) (fun y5=>gBr a1 f (zY a1 (c.drop (f+1)) (f+1)) (ab.drop y5)  =r) (fun y5=>ab.length - y5) 0 eJ h ?_;rintro y5 h;refine goL ?_;refine jK (jM f (gBh ac)) ?_;refine mQ (fun c6=>?_) (fun c6=>?_)
  ·have y:=vF c6;refine gCm 22 (fun z7=>?_);obtain⟨x8,ag,ah⟩:=drop_at y;rw [ah,gBr.eq_2] at h;obtain⟨aq,ar,au,av,aw⟩:=x8;refine noS ?_;refine kH (jE ?_);refine goL ?_;refine jK (jM f (gBh ac)) ?_;refine jK (jM y5 (gUq ag)) ?_;refine mQ (fun c9=>?_) (fun c9=>?_)
   ·replace h:=kT c9 h;refine goL ?_;refine jK (jM f (gBh ac)) ?_;refine jK (jM y5 (gUq ag)) ?_;refine jG ?_;subst h;exact uA
   ·replace h:=kU c9 h;refine goS ?_;refine jK (kD y5 (by omega)) ?_;exact⟨(y5+1),h,by omega,eJ⟩
  ·have y:=vG c6;rw [jH y,gBr.eq_1] at h;refine goX ?_;refine jK (kD f (by omega)) ?_;exact⟨(f+1),h,by omega,eJ⟩
 ·have q:=vG c3;rw [jH q,zY.eq_1] at h;refine goX ?_;refine gAc (jU TBd.h TZ.h rfl (by repeat constructor)) ?_;refine jG ?_;subst h;exact uA
def gHd(c:gT)(a1:gT):Bool:=
lt_ ((cnd (c.trait==a1.trait) ((teq c.type_ a1.type_)) (false))) fun f=>
f
theorem gUg(a0:gT)(a1:gT):jF Tryz.prog 116 [.d (wU a0),.d (wU a1)] [.b (gHd a0 a1)]:=by
 obtain⟨r,h⟩:∃r,gHd a0 a1=r:=⟨_,rfl⟩
 rw [h];obtain⟨ac,⟨c,f,q⟩⟩:=a0;obtain⟨ad,⟨y,aa,ab⟩⟩:=a1;unfold gHd at h;refine SpI Tryz.func116 fun A _=>?_;refine goL ?_;obtain⟨b1,hb1,h⟩:=qW h;refine kC ⟨[(4,.B b1)],[bBd ac c f q,bBd ad y aa ab],Tryz.f116.ntmps⟩ ?_ ?_
 ·refine gqA 10 hb1 (fun c2 hb1=>?_);refine jK (gG (gKv (gB.mk c f q) (gB.mk y aa ab))) ?_;cases hb1;exact eJ
 refine goL ?_;refine jG ?_;subst h;exact uA
def gCx(c:gI→Option (gI)):List gI→(List gI)→Option (List gI)
 | [],f=>(some f)
 | q::xs,f=>bnd (c q) fun h=>
gd (f.length+[h].length≤4294967296) (
gCx c xs (f++[h]))
def gLp(f:(List gI)→Option (List gI))(c:gI→Option (gI))(h:List gI):Option (List gI):=
gCx c h []
def gLq(c:(List gI)→Option (List gI)):Prop:=∀(f:List gI){r:List gI},c f=some r→mJ Tryz.prog 151 [.L 5 (jP f)] [51] [.sl 5 (jP r)]
def gMe(c:gI→Option (gI)):Prop:=∀(f:gI){r:gI},c f=some r→mJ Tryz.prog 117 [.d (mF f)] [51] [mF r]
theorem gV3{f}{c}(ac:gLq f)(q:gMe c)(a0:List gI){r:List gI}(h:gLp f c a0=some r):mJ Tryz.prog 151 [.L 5 (jP a0)] [51] [.sl 5 (jP r)]:=by
 unfold gLp at h;refine qV Tryz.func151 rfl (by kernel_rfl) rfl (by simp) fun A _=>?_;refine goL ?_;refine gB9 ?_;refine goL ?_;refine noB ?_;refine gCm 0 (fun z4=>?_);refine kV (fun(y3:Nat)(y1:List gI)(v2:Nat)=>⟨[(0,.L 5 (jP a0)),(3,.sl 0 v2),(4,.N y3)],[.own 51 5 v2 (jP y1)],Tryz.f151.ntmps⟩) (fun y3 y1 v2=>gCx c (a0.drop y3) y1=some r) (fun y3 y1 v2=>a0.length - y3) 0 [] 0 eJ h ?_;rintro y3 y1 v2 h;refine goL ?_;refine mQ (fun c5=>?_) (fun c5=>?_)
 ·have y:=vF c5;obtain⟨x6,au,an⟩:=drop_at y;rw [an,gCx.eq_2] at h;obtain⟨ao,ap,⟨ae,ag⟩,aq⟩:=x6;refine noS ?_;refine kH (jE ?_);refine goL ?_;refine jK (jM y3 (gD9 au)) ?_;obtain⟨⟨ah,ai,⟨aa,ab⟩,aj⟩,av,h⟩:=gJ h;refine gIe (q (gI.mk ao ap (gF.mk ae ag) aq) av) ?_;refine yF (gI.mk ah ai (gF.mk aa ab) aj) ?_;obtain⟨g8,h⟩:=pO h;refine gDn g8 ?_;refine goL ?_;refine jK (kD y3 (by omega)) ?_;exact⟨(y3+1),(y1++[(gI.mk ah ai (gF.mk aa ab) aj)]),(v2+1),h,by omega,eJ⟩
 ·have y:=vG c5;rw [jH y,gCx.eq_1] at h;refine goX ?_;refine jG ?_;obtain rfl:=Option.some.inj h;exact gOs
def gPw(c:(List gI)→Option (List gI))(f:gI→Option (gI))(h:gI):Option (gI):=
bnd (c h.args) fun q=>
(some (gI.mk h.kind h.n h.at_ q))
theorem hAa{c}{f}(q:gLq c)(y:gMe f)(a0:gI){r:gI}(h:gPw c f a0=some r):mJ Tryz.prog 117 [.d (mF a0)] [51] [mF r]:=by
 obtain⟨ag,ah,⟨ab,ac⟩,aa⟩:=a0;unfold gPw at h;refine qV Tryz.func117 rfl (by kernel_rfl) rfl (by simp) fun A _=>?_;refine goL ?_;obtain⟨x1,ae,h⟩:=gJ h;refine gIe (q aa ae) ?_;refine goL ?_;refine jG ?_;obtain rfl:=Option.some.inj h;exact gOs
mutual
def gLr:Nat→(List gI)→Option (List gI)
 | 0,_=>none
 | n+1,c=>gLp (gLr n) (gKa n) c
def gKa:Nat→gI→Option (gI)
 | 0,_=>none
 | n+1,c=>gPw (gLr n) (gKa n) c
end
theorem gUh:∀(n:Nat),gLq (gLr n)∧gMe (gKa n):=by
 intro n
 induction n with
 | zero=>exact⟨(by intro c r h;cases h),(by intro c r h;cases h)⟩
 | succ n ih=>
   obtain⟨ih0,ih1⟩:=ih;refine⟨(fun c r h=>gV3 ih0 ih1 c h),(fun c r h=>hAa ih0 ih1 c h)⟩
theorem hAb:∀(n:Nat),gMe (gKa n):=fun n=>(gUh n).2
def qH(q:Nat)(c:(List gF)→Option (List gF)):List gY→Nat→(List gF)→Option (List gF)
 | [],f,h=>(c h)
 | y::xs,f,h=>gd (h.length+[(gF.mk (q:Int) (f:Int))].length≤4294967296) (
qH q c xs (f+1) (h++[(gF.mk (q:Int) (f:Int))]))
def pY:List jX→Nat→(List gF)→Option (List gF)
 | [],c,f=>(some f)
 | h::xs,c,f=>qH c (fun q=>pY xs (c+1) q) h.instances 0 f
def gBs(c:gM):Option (List gF):=
pY c.packages 0 []
theorem gPx(a0:gM){r:List gF}(h:gBs a0=some r):jF Tryz.prog 166 [.d (kW a0)] [.sl 2 (kJ r)]:=by
 obtain⟨c⟩:=a0;unfold gBs at h;refine SpI Tryz.func166 fun A _=>?_;refine goL ?_;refine zS ?_;refine goL ?_;refine noB ?_;refine yP 0 0 (fun z4=>?_);refine kV (fun(f:Nat)(y1:List gF)(v2:Nat)=>⟨[(1,.ptr 0 0),(3,.sl 1 v2),(4,.N f)],[bPr c,.arr 28 2 v2 (kJ y1)],Tryz.f166.ntmps⟩) (fun f y1 v2=>pY (c.drop f) f y1=some r) (fun f y1 v2=>c.length - f) 0 [] 0 eJ h ?_;rintro f y1 v2 h;refine goL ?_;refine mQ (fun c5=>?_) (fun c5=>?_)
 ·have q:=vF c5;obtain⟨x6,au,aj⟩:=drop_at q;rw [aj,pY.eq_2] at h;obtain⟨a7,a8,a9,ba,ac,bb⟩:=x6;refine noS ?_;refine kH (jE ?_);refine goL ?_;refine noB ?_;refine kV (fun(y9:Nat)(y7:List gF)(v8:Nat)=>⟨[(1,.ptr 0 0),(3,.sl 1 v8),(4,.N f),(5,.N y9)],[bPr c,.arr 28 2 v8 (kJ y7)],Tryz.f166.ntmps⟩) (fun y9 y7 v8=>qH f (fun y7=>pY (c.drop (f+1)) (f+1) y7) (ac.drop y9) y9 y7=some r) (fun y9 y7 v8=>ac.length - y9) 0 y1 v2 eJ h ?_;rintro y9 y7 v8 h;refine goL ?_;refine jK (jM f (gBh au)) ?_;refine mQ (fun ae=>?_) (fun ae=>?_)
  ·have y:=vF ae;refine gCm 20 (fun be=>?_);obtain⟨av,bc,ag⟩:=drop_at y;rw [ag,qH.eq_2] at h;obtain⟨aw,ax,⟨ak,al,am⟩,ay,a3,a4,⟨an,ao,ap⟩,a5⟩:=av;refine noS ?_;refine kH (jE ?_);refine goL ?_;refine yS (jU TBd.h TZ.h rfl (by repeat constructor)) ?_;refine uQ (u:=(.st [.i .i64 (f:Int),.i .i64 (y9:Int)])) ?_;obtain⟨a6,h⟩:=pO h;refine gAi a6 ?_;refine goL ?_;refine jK (kD y9 (by omega)) ?_;exact⟨(y9+1),(y7++[(gF.mk (f:Int) (y9:Int))]),(v8+1),h,by omega,eJ⟩
  ·have y:=vG ae;rw [jH y,qH.eq_1] at h;refine goX ?_;refine jK (kD f (by omega)) ?_;exact⟨(f+1),y7,v8,h,by omega,eJ⟩
 ·have q:=vG c5;rw [jH q,pY.eq_1] at h;refine goX ?_;refine gW 1 rfl rfl ?_;refine jG ?_;cases h;exact uA
def wS(c:gB)(a1:gB):Option (Bool):=
bnd (gGi a1 c) fun f=>
(some f)
theorem gF3(c:gB)(a1:gB){r:Bool}(h:wS c a1=some r):jF Tryz.prog 168 [.d (kZ c),.d (kZ a1)] [.b r]:=by
 obtain⟨q,y,aa⟩:=c;obtain⟨ab,ac,ad⟩:=a1;unfold wS at h;refine SpI Tryz.func168 fun A _=>?_;refine goL ?_;obtain⟨x1,f,h⟩:=gJ h;refine qM (gG (gR7 _ _ f)) ?_;exact goR h
def gBt(c:gU→Option (gU))(q:gU)(y2:List gU):List gH0→(List gH0)→Option (gU)
 | [],h=>(some (gU.mk q.kind q.trait q.name q.n (gB.mk q.type_.kind q.type_.name (hGa q.type_.args)) y2 h))
 | f::xs,h=>gd (([]:LS).length+f.vars.length≤4294967296) (
bnd (c f.body) fun y=>
gd (h.length+[(gH0.mk f.constructor ([]++f.vars) y)].length≤4294967296) (
gBt c q y2 xs (h++[(gH0.mk f.constructor ([]++f.vars) y)])))
def gBu(c:gU→Option (gU))(h:gU):List gU→(List gU)→Option (gU)
 | [],f=>gBt c h f h.arms []
 | y::xs,f=>bnd (c y) fun q=>
gd (f.length+[q].length≤4294967296) (
gBu c h xs (f++[q]))
def gMf(c:gU→Option (gU))(f:gU):Option (gU):=
gd (gZn f.type_.args) (gBu c f f.args [])
theorem hAc{c:gU→Option (gU)}(f:∀(x0:gU){r:gU},c x0=some r→jF Tryz.prog 47 [.d (zJ x0)] [zJ r])(a0:gU){r:gU}(h:gMf c a0=some r):jF Tryz.prog 47 [.d (zJ a0)] [zJ r]:=by
 obtain⟨ak,al,am,an,⟨y,aa,q⟩,ac,ad⟩:=a0;unfold gMf at h;refine SpI Tryz.func47 fun A _=>?_;refine gHi ?_;refine jL (P:=Tryz.prog) Mix.h [(0,true),(1,true),(2,true),(3,true),(4,true),(5,true),(6,true),(7,true),(8,true),(9,true),(10,true),(11,true),(12,false)] (by kernel_rfl) ?_;refine goY ?_;obtain⟨g1,h⟩:=pO h;refine jO rfl (gG ((gOa q g1).p)) ?_;refine goY ?_;refine kX ?_;refine goL ?_;refine zS ?_;refine goL ?_;refine noB ?_;refine yP 0 7 (fun z5=>?_);refine kV (fun(y4:Nat)(y2:List gU)(v3:Nat)=>⟨[(1,.ptr 0 0),(2,.ptr 1 0),(3,.sl 2 v3),(4,.N y4)],[.box [.I ak,.S al,.S am,.I an,.I y,.S aa,.d (.sl 3 (gK (hGa q))),.L 9 (jS ac),.L 11 (mW ad)],.box [.I 0,.S [],.S [],.I 0,.I 0,.S [],.nilsl,.nilsl,.nilsl],.arr 101 9 v3 (jS y2)],Tryz.f47.ntmps⟩) (fun y4 y2 v3=>gBu c (gU.mk ak al am an (gB.mk y aa q) ac ad) (ac.drop y4) y2=some r) (fun y4 y2 v3=>ac.length - y4) 0 [] 0 eJ h ?_;rintro y4 y2 v3 h;refine goL ?_;refine mQ (fun c6=>?_) (fun c6=>?_)
 ·have aj:=vF c6;obtain⟨x7,b1,bm⟩:=drop_at aj;rw [bm,gBu.eq_2] at h;obtain⟨b7,b8,b9,ca,⟨bv,bw,bx⟩,cb,cc⟩:=x7;refine noS ?_;refine kH (jE ?_);refine goL ?_;refine jK (jM y4 (gUp b1)) ?_;obtain⟨⟨bb,bc,bd,be,⟨ao,ap,aq⟩,bf,bg⟩,b2,h⟩:=gJ h;refine qM (gG (f _ b2)) ?_;refine uQ (u:=(.st [.i .i64 bb,.s bc,.s bd,.i .i64 be,.st [.i .i64 ao,.s ap,.sl 3 (gK aq)],.sl 9 (jS bf),.sl 11 (mW bg)])) ?_;obtain⟨g9,h⟩:=pO h;refine gAi g9 ?_;refine goL ?_;refine jK (kD y4 (by omega)) ?_;exact⟨(y4+1),(y2++[(gU.mk bb bc bd be (gB.mk ao ap aq) bf bg)]),(v3+1),h,by omega,eJ⟩
 ·have aj:=vG c6;rw [jH aj,gBu.eq_1] at h;refine goX ?_;refine zS ?_;refine goL ?_;refine noB ?_;refine yP 0 8 (fun cg=>?_);refine kV (fun(ab:Nat)(ar:List gH0)(au:Nat)=>⟨[(1,.ptr 0 0),(2,.ptr 1 0),(3,.sl 2 v3),(5,.sl 3 au),(6,.N ab)],[.box [.I ak,.S al,.S am,.I an,.I y,.S aa,.d (.sl 3 (gK (hGa q))),.L 9 (jS ac),.L 11 (mW ad)],.box [.I 0,.S [],.S [],.I 0,.I 0,.S [],.nilsl,.nilsl,.nilsl],.arr 101 9 v3 (jS y2),.arr 147 11 au (mW ar)],Tryz.f47.ntmps⟩) (fun ab ar au=>gBt c (gU.mk ak al am an (gB.mk y aa q) ac ad) y2 (ad.drop ab) ar=some r) (fun ab ar au=>ad.length - ab) 0 [] 0 eJ h ?_;rintro ab ar au h;refine goL ?_;refine mQ (fun bh=>?_) (fun bh=>?_)
  ·have ae:=vF bh;obtain⟨b3,av,bi⟩:=drop_at ae;rw [bi,gBt.eq_2] at h;obtain⟨aw,ax,⟨bn,bo,bp,bq,⟨bj,bk,bl⟩,br,bt⟩⟩:=b3;refine noS ?_;refine kH (jE ?_);refine vP (P:=Tryz.prog) Mix.h [(0,true),(1,true),(2,true),(3,true),(4,true),(5,true),(6,true),(8,true),(9,true),(10,true),(11,true),(12,true),(13,true),(15,true),(16,true),(17,true),(18,true),(19,true),(20,true),(7,false),(14,false),(21,true),(22,true),(23,false),(24,false),(25,true)] (by kernel_rfl) ?_;refine goY ?_;refine jO rfl (jM ab (gXo av)) ?_;refine goY ?_;refine jO rfl (jM ab (gXo av)) ?_;refine goY ?_;refine jO rfl (jM ab (gXo av)) ?_;refine goY ?_;refine hBn ?_;obtain⟨b4,h⟩:=pO h;refine gH1 (T:=34) b4 ?_;obtain⟨⟨ay,a3,a4,a5,⟨ag,ah,ai⟩,a6,a7⟩,bu,h⟩:=gJ h;refine jO rfl (gG (f _ bu)) ?_;refine goY ?_;refine gG2 4 rfl rfl ?_;refine jT (T:=99) (us:=mW [(gH0.mk aw ([]++ax) (gU.mk ay a3 a4 a5 (gB.mk ag ah ai) a6 a7))]) ?_;obtain⟨b5,h⟩:=pO h;refine jR (T:=99) b5 ?_;refine goY ?_;refine kX ?_;refine goL ?_;refine jK (kD ab (by omega)) ?_;exact⟨(ab+1),(ar++[(gH0.mk aw ([]++ax) (gU.mk ay a3 a4 a5 (gB.mk ag ah ai) a6 a7))]),(au+1),h,by omega,eJ⟩
  ·have ae:=vG bh;rw [jH ae,gBt.eq_1] at h;refine goX ?_;refine gW 2 rfl rfl ?_;refine gW 3 rfl rfl ?_;refine jG ?_;cases h;exact uA
def gIa:Nat→gU→Option (gU)
 | 0,_=>none
 | n+1,c=>gMf (gIa n) c
theorem gUi:∀(n:Nat)(c:gU){r:gU},gIa n c=some r→jF Tryz.prog 47 [.d (zJ c)] [zJ r]:=by
 intro n
 induction n with
 | zero=>intro c r h;cases h
 | succ n ih=>intro c r h;exact hAc ih c h
def yB:List gT→(List gT)→Option (List gT)
 | [],c=>(some c)
 | f::xs,c=>gd (tok f.type_) (lt_ (idT f.type_) fun h=>
gd (c.length+[(gT.mk f.trait h)].length≤4294967296) (
yB xs (c++[(gT.mk f.trait h)])))
def gIu(c:List gT):Option (List gT):=
yB c []
theorem gV4(a0:List gT){r:List gT}(h:gIu a0=some r):jF Tryz.prog 49 [.L 4 (jQ a0)] [.sl 4 (jQ r)]:=by
 unfold gIu at h;refine SpI Tryz.func49 fun A _=>?_;refine goL ?_;refine zS ?_;refine goL ?_;refine noB ?_;refine gCm 0 (fun z4=>?_);refine kV (fun(f:Nat)(y1:List gT)(v2:Nat)=>⟨[(0,.L 4 (jQ a0)),(3,.sl 0 v2),(4,.N f)],[.arr 53 4 v2 (jQ y1)],Tryz.f49.ntmps⟩) (fun f y1 v2=>yB (a0.drop f) y1=some r) (fun f y1 v2=>a0.length - f) 0 [] 0 eJ h ?_;rintro f y1 v2 h;refine goL ?_;refine mQ (fun c5=>?_) (fun c5=>?_)
 ·have c:=vF c5;obtain⟨x6,aj,ak⟩:=drop_at c;rw [ak,yB.eq_2] at h;obtain⟨ab,⟨q,y,aa⟩⟩:=x6;refine noS ?_;refine kH (jE ?_);refine vP (P:=Tryz.prog) Mix.h [(0,true),(1,true),(2,true),(3,true),(4,true),(5,true),(6,true),(7,true),(8,true),(9,true),(10,true),(11,true),(12,true),(13,false),(14,false),(15,true)] (by kernel_rfl) ?_;refine goY ?_;refine jO rfl (jM f (gDi aj)) ?_;refine goY ?_;refine jO rfl (jM f (gDi aj)) ?_;refine goY ?_;obtain⟨g7,h⟩:=pO h;obtain⟨⟨ac,ad,ae⟩,am,h⟩:=qW h;have sx8:=(gAp (gB.mk q y aa) g7).p;rw [am] at sx8;refine jO rfl (gG (sx8)) ?_;refine goY ?_;refine jT (T:=38) (us:=jQ [(gT.mk ab (gB.mk ac ad ae))]) ?_;obtain⟨g9,h⟩:=pO h;refine jR (T:=38) g9 ?_;refine goY ?_;refine kX ?_;refine goL ?_;refine jK (kD f (by omega)) ?_;exact⟨(f+1),(y1++[(gT.mk ab (gB.mk ac ad ae))]),(v2+1),h,by omega,eJ⟩
 ·have c:=vG c5;rw [jH c,yB.eq_1] at h;refine goX ?_;refine gW 0 rfl rfl ?_;refine jG ?_;cases h;exact uA
def kM(a1:gI→Option Bool):List gI→Nat→Option (Int)
 | [],c=>(some (-1))
 | f::xs,c=>bnd (a1 f) fun h=>
(cnd h (
(some (c:Int))) (
kM a1 xs (c+1)))
def pW(c:List gI)(a1:gI→Option Bool):Option (Int):=
kM a1 c 0
theorem gBk(q:List gI){a1f:Nat}{a1c:List SV}{a1:gI→Option Bool}(a1_lt:∀n,SV.lts n a1c=true)(ha1:∀(x0:gI)(r:Bool),a1 x0=some r→jF Tryz.prog a1f ([.d (mF x0)]++a1c) [.b r]){r:Int}(h:pW q a1=some r):jF Tryz.prog 82 [.L 5 (jP q),.fn a1f a1c] [.i .i64 r]:=by
 unfold pW at h;refine SpI Tryz.func82 fun A _=>?_;refine goL ?_;refine noB ?_;refine gCm 0 (fun z2=>?_);refine qD (fun(f:Nat)=>⟨[(0,.L 5 (jP q)),(1,.fn a1f a1c),(7,.I (q.length:Int)),(8,.N f)],[],Tryz.f82.ntmps⟩) (fun f=>kM a1 (q.drop f) f=some r) (fun f=>q.length - f) 0 ⟨rfl,⟨⟨rfl,rfl⟩,⟨rfl,a1_lt _⟩,⟨rfl,rfl⟩,⟨rfl,rfl⟩,trivial⟩,⟨[],rfl⟩,rfl⟩ h ?_;rintro f h;refine goL ?_;refine kH (mQ (fun c3=>?_) (fun c3=>?_))
 ·have c:=vF c3;obtain⟨x4,ad,y⟩:=drop_at c;rw [y,kM.eq_2] at h;obtain⟨ai,aj,⟨aa,ab⟩,ak⟩:=x4;refine noS ?_;refine kH (jE ?_);refine goL ?_;refine jK (jM f (gD9 ad)) ?_;obtain⟨x5,ae,h⟩:=gJ h;refine jK (gOt (ha1 _ _ ae) (a1_lt 0)) ?_;refine mQ (fun c6=>?_) (fun c6=>?_)
  ·replace h:=kT c6 h;exact goR h
  ·replace h:=kU c6 h;refine goS ?_;refine jK (kD f (by omega)) ?_;exact⟨(f+1),h,by omega,⟨rfl,⟨⟨rfl,rfl⟩,⟨rfl,a1_lt _⟩,⟨rfl,rfl⟩,⟨rfl,rfl⟩,trivial⟩,⟨_,rfl⟩,rfl⟩⟩
 ·have c:=vG c3;rw [jH c,kM.eq_1] at h;refine goX ?_;refine jG ?_;cases h;exact uA
def uR(c:gI→Option (Int)):List gI→Int→Option (Int)
 | [],f=>(some f)
 | q::xs,f=>bnd (c q) fun h=>
uR c xs (if f < (IntKind.i64.wrap (h+1))then(IntKind.i64.wrap (h+1))else f)
def gC3(c:gI→Option (Int))(f:gI):Option (Int):=
uR c f.args 0
theorem gOd{c:gI→Option (Int)}(f:∀(x0:gI){r:Int},c x0=some r→jF Tryz.prog 29 [.d (mF x0)] [.i .i64 r])(a0:gI){r:Int}(h:gC3 c a0=some r):jF Tryz.prog 29 [.d (mF a0)] [.i .i64 r]:=by
 obtain⟨ae,ag,⟨aa,ab⟩,q⟩:=a0;unfold gC3 at h;refine SpI Tryz.func29 fun A _=>?_;refine goL ?_;refine noB ?_;refine gCm 7 (fun z3=>?_);refine gEt (fun(y2:Nat)(y1:Int)=>⟨[(3,.I y1),(7,.L 5 (jP q)),(8,.I (q.length:Int)),(9,.N y2)],[.box [.I ae,.I ag,.I aa,.I ab,.L 5 (jP q)]],Tryz.f29.ntmps⟩) (fun y2 y1=>uR c (q.drop y2) y1=some r) (fun y2 y1=>q.length - y2) 0 0 eJ h ?_;rintro y2 y1 h;refine goL ?_;refine kH (mQ (fun c4=>?_) (fun c4=>?_))
 ·have y:=vF c4;obtain⟨x5,am,ah⟩:=drop_at y;rw [ah,uR.eq_2] at h;obtain⟨ap,aq,⟨ai,aj⟩,ar⟩:=x5;refine noS ?_;refine kH (jE ?_);refine goL ?_;refine jK (jM y2 (gD9 am)) ?_;obtain⟨x6,an,h⟩:=gJ h;refine qM (gG (f _ an)) ?_;refine qM (pV) ?_;refine jK (hLv) ?_;refine jK (kD y2 (by omega)) ?_;exact⟨(y2+1),(if y1 < (IntKind.i64.wrap (x6+1))then(IntKind.i64.wrap (x6+1))else y1),h,by omega,eJ⟩
 ·have y:=vG c4;rw [jH y,uR.eq_1] at h;refine goX ?_;refine jG ?_;cases h;exact uA
def gA2:Nat→gI→Option (Int)
 | 0,_=>none
 | n+1,c=>gC3 (gA2 n) c
theorem gOe:∀(n:Nat)(c:gI){r:Int},gA2 n c=some r→jF Tryz.prog 29 [.d (mF c)] [.i .i64 r]:=by
 intro n
 induction n with
 | zero=>intro c r h;cases h
 | succ n ih=>intro c r h;exact gOd ih c h
def gKb(c:gM)(a1:List gT)(a2:gT):Option (Int):=
bnd (gGw c a1) fun f=>
none
theorem gUj(a0:gM)(a1:List gT)(a2:gT){r:Int}(h:gKb a0 a1 a2=some r):jF Tryz.prog 54 [.d (kW a0),.L 4 (jQ a1),.d (wU a2)] [.i .i64 r]:=by
 obtain⟨aa⟩:=a0;obtain⟨ab,⟨c,f,q⟩⟩:=a2;unfold gKb at h;refine SpI Tryz.func54 fun A _=>?_;refine gHi ?_;refine jL (P:=Tryz.prog) Mix.h [(0,true),(1,true),(3,true),(4,true),(5,true),(6,true),(2,false),(7,false),(8,true)] (by kernel_rfl) ?_;refine goY ?_;obtain⟨⟨⟨y⟩,ac⟩,ae,h⟩:=gJ h;refine gCn (sv:=.ptr 2 0) (L':=[bPr aa,bBd ab c f q,.box [.L 6 (kQ y),.L 6 (jW ac)]]) [] (gPv (gM.mk aa) a1 ae) ?_;cases h
def zI(f:gM)(a1:LB)(a2:Int):Option (LB × Bool):=
lt_ (zA f a1) fun c=>
lt_ ((cnd (!c.2.2) (true) ((cnd (decide (a2 < 0)) (true) ((decide (a2≥(c.1.supertraits.length:Int)))))))) fun h=>
(cnd h (
(some ([],false))) (
bnd (at? c.1.supertraits a2) fun q=>
(some (q,true))))
theorem gFl(a0:gM)(a1:LB)(a2:Int){r:LB × Bool}(h:zI a0 a1 a2=some r):jF Tryz.prog 56 [.d (kW a0),.S a1,.I a2] [.s r.1,.b r.2]:=by
 obtain⟨ab⟩:=a0;unfold zI at h;refine SpI Tryz.func56 fun A _=>?_;refine goL ?_;obtain⟨⟨⟨c,f,q,y,aa⟩,ah,ai⟩,ag,h⟩:=qW h;have sx1:=gK8 (gM.mk ab) a1;rw [ag] at sx1;refine jK (gG (sx1)) ?_;obtain⟨b2,hb2,h⟩:=qW h;refine kC ⟨[(2,.I a2),(8,.ptr 1 0),(30,.B b2)],[bPr ab,bTr c f q y aa],Tryz.f56.ntmps⟩ ?_ ?_
 ·refine gqO 20 hb2 (fun c3 hb2=>?_);exact gqZ 24 hb2
 refine goC h ?_ ?_<;>intro c5 h
 ·exact goR h
 ·refine goS ?_;obtain⟨x6,ac,h⟩:=gJ h;obtain⟨ad,ac⟩:=gAz ac;refine qM (qY ad (gNp ac)) ?_;exact goR h
end Go.Proofs.YtfpdlnkkcnmebaaGreat
