import Derived.Test.YtfjncckelekpiaaGreatB7
set_option maxHeartbeats 4000000
set_option linter.unusedVariables false
set_option linter.unusedSimpArgs false
set_option linter.unusedSectionVars false
namespace Go.Proofs.YtfjncckelekpiaaGreat
open Go Go.Eng
attribute [local irreducible] V VO VQ VY Quiet QR gW pJ Rng vF uW uI
def gKk(f:gH→Option (Bool)):List gH→Option (Bool)
 | []=>(some true)
 | q::xs=>bnd (f q) fun y=>
(cnd (!y) (some false) (
gKk f xs ))
def gYm(f:gH→Option (Bool))(q:gH):Option (Bool):=
(cnd (!(q.atom==[])) (
lt_ (cnd (gIo q.atom) ((q.list.length:Int)==0) (false)) fun y=>
some y) (
gKk f q.list ))
theorem hOs{f:gH→Option (Bool)}(q:∀(x0:gH){r:Bool},f x0=some r→gW Tryz.prog 142 [.d (qL x0)] [.b r])(a0:gH){r:Bool}(h:gYm f a0=some r):gW Tryz.prog 142 [.d (qL a0)] [.b r]:=by
 obtain⟨ab,aa⟩:=a0;unfold gYm at h;refine SpI Tryz.func142 fun A _=>?_;refine goC h ?_ ?_<;>intro c1 h
 ·refine goL ?_;refine gX (gD (gXu ab)) ?_;obtain⟨b2,hb2,h⟩:=pI h;refine kG ⟨[(2,.B b2)],[bSx ab aa],Tryz.f142.ntmps⟩ ?_ ?_
  ·exact gqZ 10 hb2
  exact goR h
 ·refine goS ?_;refine noB ?_;refine pG 0 1 (fun z5=>?_);refine kZ (fun(y4:Nat)=>⟨[(1,.ptr 0 0),(3,.N y4)],[bSx ab aa],Tryz.f142.ntmps⟩) (fun y4=>gKk f (aa.drop y4)  =some r) (fun y4=>aa.length - y4) 0 eJ h ?_;rintro y4 h;refine goL ?_;refine kN (fun c6=>?_) (fun c6=>?_)
  ·have y:=qB c6;obtain⟨x7,ah,ad⟩:=drop_at y;rw [ad,gKk.eq_2] at h;obtain⟨al,am⟩:=x7;refine noS ?_;refine kC (gP ?_);refine goL ?_;refine gX (gV y4 (vW ah)) ?_;obtain⟨x8,ai,h⟩:=gK h;refine gX (gD (q _ ai)) ?_;refine kN (fun c9=>?_) (fun c9=>?_)
   ·replace h:=jU c9 h;exact goR h
   ·replace h:=jV c9 h;refine goS ?_;refine gX (jK y4 (by omega)) ?_;exact⟨(y4+1),h,by omega,eJ⟩
  ·have y:=qC c6;rw [gT y,gKk.eq_1] at h;refine goX ?_;refine jH ?_;cases h;exact mM
def gYn:Nat→gH→Option (Bool)
 | 0,_=>none
 | n+1,f=>gYm (gYn n) f
theorem hOt:∀(n:Nat)(f:gH){r:Bool},gYn n f=some r→gW Tryz.prog 142 [.d (qL f)] [.b r]:=by
 intro n
 induction n with
 | zero=>intro f r h;cases h
 | succ n ih=>intro f r h;exact hOs ih f h
def gKl:List gH→(List gF)→Option (List gF)
 | [],f=>(some f)
 | y::xs,f=>bnd (gQc 5000 y) fun q=>
gd (f.length+[q].length≤4294967296) (
gKl xs (f++[q]))
def gT9(f:List gH):Option (List gF):=
gKl f []
theorem hFb(a0:List gH){r:List gF}(h:gT9 a0=some r):gW Tryz.prog 197 [.L 2 (kE a0)] [.sl 3 (jJ r)]:=by
 unfold gT9 at h;refine SpI Tryz.func197 fun A _=>?_;refine goL ?_;refine qO ?_;refine goL ?_;refine noB ?_;refine gB0 0 (fun z4=>?_);refine kQ (fun(q:Nat)(y1:List gF)(v2:Nat)=>⟨[(0,.L 2 (kE a0)),(3,.sl 0 v2),(4,.N q)],[.arr 43 3 v2 (jJ y1)],Tryz.f197.ntmps⟩) (fun q y1 v2=>gKl (a0.drop q) y1=some r) (fun q y1 v2=>a0.length - q) 0 [] 0 eJ h ?_;rintro q y1 v2 h;refine goL ?_;refine kN (fun c5=>?_) (fun c5=>?_)
 ·have f:=qB c5;obtain⟨x6,ai,ag⟩:=drop_at f;rw [ag,gKl.eq_2] at h;obtain⟨ak,al⟩:=x6;refine noS ?_;refine kC (gP ?_);refine goL ?_;refine gX (gV q (vW ai)) ?_;obtain⟨⟨y,aa,ab⟩,aj,h⟩:=gK h;refine pX (gD (gTn _ _ aj)) ?_;refine uN (u:=(.st [.i .i64 y,.s aa,.sl 3 (jJ ab)])) ?_;obtain⟨g8,h⟩:=mI h;refine vR g8 ?_;refine goL ?_;refine gX (jK q (by omega)) ?_;exact⟨(q+1),(y1++[(gF.mk y aa ab)]),(v2+1),h,by omega,eJ⟩
 ·have f:=qC c5;rw [gT f,gKl.eq_1] at h;refine goX ?_;refine jS 0 rfl rfl ?_;refine jH ?_;cases h;exact mM
def gYo(aa:gH→Option (gJs))(q:(List gH)→Option (List gY))(f:gH→Option (gY))(y:gH):Option (gJs):=
(cnd (decide ((y.list.length:Int) < 2)) (some (gJs.mk [] [] (gY.mk 0 [] [] 0 (gF.mk 0 [] []) [] []))) (
gd (0≤(1:Int)∧(1:Int)≤(IntKind.i64.wrap ((y.list.length:Int) - 1))∧(IntKind.i64.wrap ((y.list.length:Int) - 1))≤(y.list.length:Int)) (
bnd (gOb ((y.list.drop (Int.toNat 1)).take (Int.toNat (IntKind.i64.wrap ((y.list.length:Int) - 1)) - Int.toNat 1))) fun x3=>
bnd (at? y.list 0) fun x4=>
bnd (at? y.list (IntKind.i64.wrap ((y.list.length:Int) - 1))) fun x5=>
bnd (f x5) fun x6=>
some (gJs.mk x4.atom x3.1 x6))))
def gUa(f:gH→Option (gJs)):Prop:=∀(q:gH){r:gJs},f q=some r→gW Tryz.prog 249 [.d (qL q)] [hT9 r]
def gPk(f:(List gH)→Option (List gY)):Prop:=∀(q:List gH){r:List gY},f q=some r→gW Tryz.prog 248 [.L 2 (kE q)] [.sl 9 (vP r)]
def gN6(f:gH→Option (gY)):Prop:=∀(q:gH){r:gY},f q=some r→gW Tryz.prog 199 [.d (qL q)] [vX r]
theorem hOu{y}{f}{q}(ac:gUa y)(ab:gPk f)(aa:gN6 q)(a0:gH){r:gJs}(h:gYo y f q a0=some r):gW Tryz.prog 249 [.d (qL a0)] [hT9 r]:=by
 obtain⟨ap,ad⟩:=a0;unfold gYo at h;refine SpI Tryz.func249 fun A _=>?_;refine goC h ?_ ?_<;>intro c1 h
 ·refine goL ?_;refine uX (jI TBd.h TZ.h rfl (by repeat constructor)) ?_;exact goR h
 ·refine goS ?_;refine pX (pR) ?_;obtain⟨g2,h⟩:=mI h;refine pX (hSk g2) ?_;obtain⟨⟨aq,ar⟩,an,h⟩:=gK h;refine pX (gD (gVh ((ad.drop (Int.toNat 1)).take (Int.toNat (IntKind.i64.wrap ((ad.length:Int) - 1)) - Int.toNat 1)) an)) ?_;refine gCj ?_;refine sZ 0 ?_;refine goW ?_;obtain⟨x4,ae,h⟩:=gK h;obtain⟨ah,ae⟩:=yY ae;obtain⟨au,av⟩:=x4;refine kR (fun _=>kY ah (vW ae)) ?_;refine goW ?_;refine kR (fun _=>pR) ?_;obtain⟨x5,ag,h⟩:=gK h;obtain⟨ai,ag⟩:=yY ag;obtain⟨aw,ax⟩:=x5;refine kR (fun _=>kY ai (vW ag)) ?_;refine goW ?_;obtain⟨⟨ay,a2,a3,a4,⟨aj,ak,al⟩,a5,a6⟩,ao,h⟩:=gK h;refine kR (fun _=>gD (aa _ ao)) ?_;refine goW ?_;refine jY ?_;exact goR h
def gGa(f:gH→Option (gY)):List gH→(List gY)→Option (List gY)
 | [],q=>(some q)
 | x6::xs,q=>bnd (f x6) fun y=>
gd (q.length+[y].length≤4294967296) (
gGa f xs (q++[y]))
def gSl(y:gH→Option (gJs))(q:(List gH)→Option (List gY))(f:gH→Option (gY))(a0:List gH):Option (List gY):=
gGa f a0 []
theorem hHa{y}{q}{f}(ah:gUa y)(ag:gPk q)(aa:gN6 f)(a0:List gH){r:List gY}(h:gSl y q f a0=some r):gW Tryz.prog 248 [.L 2 (kE a0)] [.sl 9 (vP r)]:=by
 unfold gSl at h;refine SpI Tryz.func248 fun A _=>?_;refine goL ?_;refine qO ?_;refine goL ?_;refine noB ?_;refine gB0 0 (fun z4=>?_);refine kQ (fun(y3:Nat)(y1:List gY)(v2:Nat)=>⟨[(0,.L 2 (kE a0)),(3,.sl 0 v2),(4,.N y3)],[.arr 76 9 v2 (vP y1)],Tryz.f248.ntmps⟩) (fun y3 y1 v2=>gGa f (a0.drop y3) y1=some r) (fun y3 y1 v2=>a0.length - y3) 0 [] 0 eJ h ?_;rintro y3 y1 v2 h;refine goL ?_;refine kN (fun c5=>?_) (fun c5=>?_)
 ·have ab:=qB c5;obtain⟨x6,aw,au⟩:=drop_at ab;rw [au,gGa.eq_2] at h;obtain⟨ay,a2⟩:=x6;refine noS ?_;refine kC (gP ?_);refine goL ?_;refine gX (gV y3 (vW aw)) ?_;obtain⟨⟨aj,ak,al,am,⟨ac,ad,ae⟩,an,ao⟩,ax,h⟩:=gK h;refine pX (gD (aa _ ax)) ?_;refine uN (u:=(.st [.i .i64 aj,.s ak,.s al,.i .i64 am,.st [.i .i64 ac,.s ad,.sl 3 (jJ ae)],.sl 9 (vP an),.sl 11 (gBv ao)])) ?_;obtain⟨g8,h⟩:=mI h;refine vR g8 ?_;refine goL ?_;refine gX (jK y3 (by omega)) ?_;exact⟨(y3+1),(y1++[(gY.mk aj ak al am (gF.mk ac ad ae) an ao)]),(v2+1),h,by omega,eJ⟩
 ·have ab:=qC c5;rw [gT ab,gGa.eq_1] at h;refine goX ?_;refine jS 0 rfl rfl ?_;refine jH ?_;cases h;exact mM
def gIq(f:gH→Option (gJs))(y:List gY):List gH→(List gJs)→Option (gY)
 | [],q=>(some (gY.mk 7 [] [] 0 (gF.mk 0 [] []) y q))
 | ab::xs,q=>bnd (f ab) fun aa=>
gd (q.length+[aa].length≤4294967296) (
gIq f y xs (q++[aa]))
def gU6(aa:gH→Option (gJs))(f:(List gH)→Option (List gY))(ac:gH→Option (gY))(q:gH):Option (gY):=
(cnd (!(q.atom==[])) (
bnd (gQx q.atom) fun x2=>
(cnd x2.2 (
lt_ (gUc x2.1) fun x4=>
some x4) (cnd (q.atom==[116,114,117,101]) (some (gY.mk 2 [] [] 1 (gF.mk 0 [] []) [] [])) (cnd (q.atom==[102,97,108,115,101]) (some (gY.mk 2 [] [] 0 (gF.mk 0 [] []) [] [])) (
lt_ (gUd q.atom) fun x7=>
some x7))))) (
gd (([]:List gH).length+q.list.length≤4294967296) (
gd (([]++q.list).length+[(gH.mk [] []),(gH.mk [] []),(gH.mk [] [])].length≤4294967296) (
bnd (at? (([]++q.list)++[(gH.mk [] []),(gH.mk [] []),(gH.mk [] [])]) 1) fun ab=>
bnd (at? (([]++q.list)++[(gH.mk [] []),(gH.mk [] []),(gH.mk [] [])]) 0) fun y=>
(cnd (y.atom==[99,97,108,108]) (
gd (0≤(wL 2 (q.list.length:Int))∧(wL 2 (q.list.length:Int))≤(q.list.length:Int)) (
bnd (f (q.list.drop (Int.toNat (wL 2 (q.list.length:Int))))) fun ad=>
some (gY.mk 4 [] ab.atom 0 (gF.mk 0 [] []) ad []))) (cnd (y.atom==[109,101,116,104,111,100]) (
bnd (at? (([]++q.list)++[(gH.mk [] []),(gH.mk [] []),(gH.mk [] [])]) 2) fun ae=>
gd (0≤(wL 3 (q.list.length:Int))∧(wL 3 (q.list.length:Int))≤(q.list.length:Int)) (
bnd (f (q.list.drop (Int.toNat (wL 3 (q.list.length:Int))))) fun ag=>
some (gY.mk 5 ab.atom ae.atom 0 (gF.mk 0 [] []) ag []))) (cnd (y.atom==[110,101,119]) (
gd (0≤(wL 2 (q.list.length:Int))∧(wL 2 (q.list.length:Int))≤(q.list.length:Int)) (
bnd (f (q.list.drop (Int.toNat (wL 2 (q.list.length:Int))))) fun ah=>
some (gY.mk 6 [] ab.atom 0 (gF.mk 0 [] []) ah []))) (cnd (y.atom==[108,101,116]) (
gd (0≤(wL 2 (q.list.length:Int))∧(wL 2 (q.list.length:Int))≤(q.list.length:Int)) (
bnd (f (q.list.drop (Int.toNat (wL 2 (q.list.length:Int))))) fun ai=>
some (gY.mk 8 [] ab.atom 0 (gF.mk 0 [] []) ai []))) (cnd (y.atom==[105,102]) (
gd (0≤(1:Int)∧1≤(q.list.length:Int)) (
bnd (f (q.list.drop (Int.toNat 1))) fun aj=>
some (gY.mk 9 [] [] 0 (gF.mk 0 [] []) aj []))) (cnd (y.atom==[112,97,99,107]) (
gd (0≤(wL 2 (q.list.length:Int))∧(wL 2 (q.list.length:Int))≤(q.list.length:Int)) (
bnd (f (q.list.drop (Int.toNat (wL 2 (q.list.length:Int))))) fun ak=>
some (gY.mk 11 ab.atom [] 0 (gF.mk 0 [] []) ak []))) (cnd (y.atom==[116,104,101]) (
bnd (gQc 5000 ab) fun al=>
gd (0≤(wL 2 (q.list.length:Int))∧(wL 2 (q.list.length:Int))≤(q.list.length:Int)) (
bnd (f (q.list.drop (Int.toNat (wL 2 (q.list.length:Int))))) fun am=>
some (gY.mk 12 [] [] 0 al am []))) (cnd (y.atom==[99,97,115,101]) (
gd (0≤(1:Int)∧(1:Int)≤(wL 2 (q.list.length:Int))∧(wL 2 (q.list.length:Int))≤(q.list.length:Int)) (
bnd (f ((q.list.drop (Int.toNat 1)).take (Int.toNat (wL 2 (q.list.length:Int)) - Int.toNat 1))) fun an=>
gIq aa an (q.list.drop 2) [])) (
gd (0≤(wL 1 (q.list.length:Int))∧(wL 1 (q.list.length:Int))≤(q.list.length:Int)) (
bnd (f (q.list.drop (Int.toNat (wL 1 (q.list.length:Int))))) fun ao=>
some (gY.mk 10 [] y.atom 0 (gF.mk 0 [] []) ao [])))))))))))))))
theorem hIz{y}{aa}{ab}(ag:gUa y)(f:gPk aa)(a3:gN6 ab)(a0:gH){r:gY}(h:gU6 y aa ab a0=some r):gW Tryz.prog 199 [.d (qL a0)] [vX r]:=by
 obtain⟨a4,q⟩:=a0;unfold gU6 at h;refine SpI Tryz.func199 fun A _=>?_;refine goC h ?_ ?_<;>intro c1 h
 ·refine goL ?_;obtain⟨⟨a8,cn⟩,bu,h⟩:=gK h;refine gX (gD (hDz _ bu)) ?_;refine kC (gP ?_);refine goC h ?_ ?_<;>intro c3 h
  ·refine goL ?_;obtain⟨⟨co,cp,cq,cr,⟨bm,bn,bo⟩,cs,ct⟩,bv,h⟩:=pI h;have sx4:=hO7 a8;rw [bv] at sx4;refine pX (gD (sx4)) ?_;exact goR h
  ·refine goC h ?_ ?_<;>intro c5 h
   ·refine goL ?_;refine uX (jI TBd.h TZ.h rfl (by repeat constructor)) ?_;exact goR h
   ·refine goC h ?_ ?_<;>intro c6 h
    ·refine goL ?_;refine uX (jI TBd.h TZ.h rfl (by repeat constructor)) ?_;exact goR h
    ·refine goS ?_;obtain⟨⟨cu,cv,cw,cx,⟨bp,bq,br⟩,cy,cz⟩,bw,h⟩:=pI h;have sx7:=hO8 a4;rw [bw] at sx7;refine pX (gD (sx7)) ?_;exact goR h
 ·refine goS ?_;refine qO ?_;refine goL ?_;obtain⟨g8,h⟩:=mI h;refine vR g8 ?_;refine uX (jI TBd.h TZ.h rfl (by repeat constructor)) ?_;refine uX (jI TBd.h TZ.h rfl (by repeat constructor)) ?_;refine uX (jI TBd.h TZ.h rfl (by repeat constructor)) ?_;refine gPb (us:=kE [(gH.mk [] []),(gH.mk [] []),(gH.mk [] [])]) ?_;obtain⟨g9,h⟩:=mI h;refine vR g9 ?_;refine goL ?_;refine qV 2 rfl rfl ?_;refine hEn ?_;obtain⟨bx,ap,h⟩:=gK h;obtain⟨av,ap⟩:=yY ap;obtain⟨bz,b0⟩:=bx;refine gX (kY av (vW ap)) ?_;obtain⟨b1,aq,h⟩:=gK h;obtain⟨aw,aq⟩:=yY aq;obtain⟨b2,b3⟩:=b1;refine gX (kY aw (vW aq)) ?_;refine gP ?_;refine goC h ?_ ?_<;>intro c4 h
  ·refine sZ 0 ?_;refine goW ?_;refine kR (fun _=>gD (gM3 2 (q.length:Int))) ?_;obtain⟨b4,h⟩:=mI h;refine kR (fun _=>gQi b4) ?_;obtain⟨c7,a9,h⟩:=gK h;refine kR (fun _=>gD (f _ a9)) ?_;refine goW ?_;refine jY ?_;exact goR h
  ·refine goC h ?_ ?_<;>intro c8 h
   ·refine sZ 0 ?_;refine goW ?_;obtain⟨b5,ax,h⟩:=gK h;obtain⟨a5,ax⟩:=yY ax;obtain⟨b6,b7⟩:=b5;refine kR (fun _=>kY a5 (vW ax)) ?_;refine goW ?_;refine kR (fun _=>gD (gM3 3 (q.length:Int))) ?_;obtain⟨b8,h⟩:=mI h;refine kR (fun _=>gQi b8) ?_;obtain⟨c9,ba,h⟩:=gK h;refine kR (fun _=>gD (f _ ba)) ?_;refine goW ?_;refine jY ?_;exact goR h
   ·refine goC h ?_ ?_<;>intro da h
    ·refine sZ 0 ?_;refine goW ?_;refine kR (fun _=>gD (gM3 2 (q.length:Int))) ?_;obtain⟨b9,h⟩:=mI h;refine kR (fun _=>gQi b9) ?_;obtain⟨db,bb,h⟩:=gK h;refine kR (fun _=>gD (f _ bb)) ?_;refine goW ?_;refine jY ?_;exact goR h
    ·refine goC h ?_ ?_<;>intro dc h
     ·refine sZ 0 ?_;refine goW ?_;refine kR (fun _=>gD (gM3 2 (q.length:Int))) ?_;obtain⟨ca,h⟩:=mI h;refine kR (fun _=>gQi ca) ?_;obtain⟨dd,bc,h⟩:=gK h;refine kR (fun _=>gD (f _ bc)) ?_;refine goW ?_;refine jY ?_;exact goR h
     ·refine goC h ?_ ?_<;>intro de h
      ·refine goL ?_;obtain⟨cb,h⟩:=mI h;refine pX (gQi cb) ?_;obtain⟨df,bd,h⟩:=gK h;refine pX (gD (f _ bd)) ?_;refine uX (jI TBd.h TZ.h rfl (by repeat constructor)) ?_;exact goR h
      ·refine goC h ?_ ?_<;>intro dg h
       ·refine sZ 0 ?_;refine goW ?_;refine kR (fun _=>gD (gM3 2 (q.length:Int))) ?_;obtain⟨cc,h⟩:=mI h;refine kR (fun _=>gQi cc) ?_;obtain⟨dh,be,h⟩:=gK h;refine kR (fun _=>gD (f _ be)) ?_;refine goW ?_;refine jY ?_;exact goR h
       ·refine goC h ?_ ?_<;>intro di h
        ·refine sZ 0 ?_;refine goW ?_;refine kR (fun _=>kY av (vW ap)) ?_;refine goW ?_;obtain⟨⟨cd,ce,cf⟩,bf,h⟩:=gK h;refine kR (fun _=>gD (gTn _ _ bf)) ?_;refine goW ?_;refine kR (fun _=>gD (gM3 2 (q.length:Int))) ?_;obtain⟨cg,h⟩:=mI h;refine kR (fun _=>gQi cg) ?_;obtain⟨dj,bg,h⟩:=gK h;refine kR (fun _=>gD (f _ bg)) ?_;refine goW ?_;refine jY ?_;exact goR h
        ·refine goC h ?_ ?_<;>intro dk h
         ·refine sZ 1 ?_;refine goW ?_;refine kR (fun _=>gD (gM3 2 (q.length:Int))) ?_;obtain⟨ch,h⟩:=mI h;refine kR (fun _=>hSk ch) ?_;obtain⟨bh,bi,h⟩:=gK h;refine kR (fun _=>gD (f _ bi)) ?_;refine goW ?_;refine jY ?_;refine goL ?_;refine noB ?_;refine uA 230 11 4 8 rfl rfl (by repeat constructor) (by repeat constructor) (by repeat constructor) (by repeat constructor) ?_;show V _ _ _ _ _;refine gB0 38 (fun dl=>?_);refine kQ (fun(ah:Nat)(ar:List gJs)(au:Nat)=>⟨[(1,.ptr 0 0),(2,.ptr 1 0),(6,.I (q.length:Int)),(8,.ptr 4 0),(9,.N ah)],[bSx a4 q,.box [.I 0,.S [],.S [],.I 0,.I 0,.S [],.nilsl,.nilsl,.nilsl],.frz 148 2 ((0+1)+1) (kE (([]++q)++[(gH.mk [] []),(gH.mk [] []),(gH.mk [] [])])),.arr 148 2 0 (kE [(gH.mk [] []),(gH.mk [] []),(gH.mk [] [])]),.box [.I 7,.S [],.S [],.I 0,.I 0,.S [],.nilsl,.L 9 (vP bh),.sl 5 au],.arr 230 11 au (gBv ar)],Tryz.f199.ntmps⟩) (fun ah ar au=>gIq y bh (q.drop ah) ar=some r) (fun ah ar au=>q.length - ah) 2 [] 0 eJ h ?_;rintro ah ar au h;refine goL ?_;refine kN (fun a6=>?_) (fun a6=>?_)
          ·have ai:=qB a6;obtain⟨ci,bj,a7⟩:=drop_at ai;rw [a7,gIq.eq_2] at h;obtain⟨cj,ck⟩:=ci;refine noS ?_;refine kC (gP ?_);refine dZ 0 ?_;refine goW ?_;refine kR (fun _=>gV ah (vW bj)) ?_;refine goW ?_;obtain⟨⟨ay,a2,⟨aj,ak,al,am,⟨ac,ad,ae⟩,an,ao⟩⟩,bk,h⟩:=gK h;refine kR (fun _=>gD (ag _ bk)) ?_;refine uK (us:=gBv [(gJs.mk ay a2 (gY.mk aj ak al am (gF.mk ac ad ae) an ao))]) ?_;obtain⟨cl,h⟩:=mI h;refine uL cl ?_;refine goW ?_;refine jY ?_;refine goL ?_;refine gX (jK ah (by omega)) ?_;exact⟨(ah+1),(ar++[(gJs.mk ay a2 (gY.mk aj ak al am (gF.mk ac ad ae) an ao))]),(au+1),h,by omega,eJ⟩
          ·have ai:=qC a6;rw [gT ai,gIq.eq_1] at h;refine goX ?_;refine jS 5 rfl rfl ?_;refine jH ?_;cases h;exact mM
         ·refine noS ?_;refine sZ 0 ?_;refine goW ?_;refine kR (fun _=>kY aw (vW aq)) ?_;refine goW ?_;refine kR (fun _=>gD (gM3 1 (q.length:Int))) ?_;obtain⟨cm,h⟩:=mI h;refine kR (fun _=>gQi cm) ?_;obtain⟨dm,bl,h⟩:=gK h;refine kR (fun _=>gD (f _ bl)) ?_;refine goW ?_;refine jY ?_;exact goR h
mutual
def gUb:Nat→gH→Option (gJs)
 | 0,_=>none
 | n+1,f=>gYo (gUb n) (gPl n) (gIr n) f
def gPl:Nat→(List gH)→Option (List gY)
 | 0,_=>none
 | n+1,f=>gSl (gUb n) (gPl n) (gIr n) f
def gIr:Nat→gH→Option (gY)
 | 0,_=>none
 | n+1,f=>gU6 (gUb n) (gPl n) (gIr n) f
end
theorem hI3:∀(n:Nat),gUa (gUb n)∧gPk (gPl n)∧gN6 (gIr n):=by
 intro n
 induction n with
 | zero=>exact⟨(by intro f r h;cases h),(by intro f r h;cases h),(by intro f r h;cases h)⟩
 | succ n ih=>
   obtain⟨ih0,ih1,ih2⟩:=ih;refine⟨(fun f r h=>hOu ih0 ih1 ih2 f h),(fun f r h=>hHa ih0 ih1 ih2 f h),(fun f r h=>hIz ih0 ih1 ih2 f h)⟩
theorem gU7:∀(n:Nat),gN6 (gIr n):=fun n=>(hI3 n).2.2
def gIs:LS→Bool
 | []=>true
 | f::xs=>(cnd (!(pF f)) (
false) (
gIs xs ))
def gN7(f:LS):Bool:=
gIs f
theorem hA5(y:LS):gW Tryz.prog 170 [.L 1 (kD y)] [.b (gN7 y)]:=by
 obtain⟨r,h⟩:∃r,gN7 y=r:=⟨_,rfl⟩
 rw [h];unfold gN7 at h;refine SpI Tryz.func170 fun A _=>?_;refine goL ?_;refine noB ?_;refine gB0 0 (fun z2=>?_);refine kZ (fun(q:Nat)=>⟨[(0,.L 1 (kD y)),(3,.N q)],[],Tryz.f170.ntmps⟩) (fun q=>gIs (y.drop q)  =r) (fun q=>y.length - q) 0 eJ h ?_;rintro q h;refine goL ?_;refine kN (fun c3=>?_) (fun c3=>?_)
 ·have f:=qB c3;obtain⟨x4,ac,aa⟩:=drop_at f;rw [aa,gIs.eq_2] at h;refine noS ?_;refine kC (gP ?_);refine goL ?_;refine gX (gV q (gN4 ac)) ?_;refine gX (gD (uB x4)) ?_;refine kN (fun c5=>?_) (fun c5=>?_)
  ·replace h:=jU c5 h;refine goL ?_;refine jH ?_;subst h;exact mM
  ·replace h:=jV c5 h;refine goS ?_;refine gX (jK q (by omega)) ?_;exact⟨(q+1),h,by omega,eJ⟩
 ·have f:=qC c3;rw [gT f,gIs.eq_1] at h;refine goX ?_;refine jH ?_;subst h;exact mM
def gDk(f:Option (Bool)):List gF→Option (Bool)
 | []=>f
 | q::xs=>bnd (gD3 [115,101,108,102] q) fun y=>
(cnd y (some false) (
gDk f xs ))
def gBe(f:mE):List kW→Option (Bool)
 | []=>(some (!f.assoc))
 | q::xs=>bnd (gD3 [115,101,108,102] q.result) fun y=>
(cnd y (some false) (
gDk (gBe f xs ) q.params ))
def gN8(f:mE):Option (Bool):=
gBe f f.signatures
theorem hA6(a0:mE){r:Bool}(h:gN8 a0=some r):gW Tryz.prog 225 [.d (gF2 a0)] [.b r]:=by
 obtain⟨aa,ab,ac,ad,f⟩:=a0;unfold gN8 at h;refine SpI Tryz.func225 fun A _=>?_;refine goL ?_;refine noB ?_;refine pG 0 4 (fun z2=>?_);refine kZ (fun(y1:Nat)=>⟨[(1,.ptr 0 0),(3,.N y1)],[bTr aa ab ac ad f],Tryz.f225.ntmps⟩) (fun y1=>gBe (mE.mk aa ab ac ad f) (f.drop y1)  =some r) (fun y1=>f.length - y1) 0 eJ h ?_;rintro y1 h;refine goL ?_;refine kN (fun c3=>?_) (fun c3=>?_)
 ·have q:=qB c3;obtain⟨x4,ai,ao⟩:=drop_at q;rw [ao,gBe.eq_2] at h;obtain⟨be,ah,⟨ar,au,av⟩,bf,bg,⟨aw,ax,ay,a2,⟨al,am,an⟩,a3,a4⟩⟩:=x4;refine noS ?_;refine kC (gP ?_);refine goL ?_;refine gX (gV y1 (vU ai)) ?_;obtain⟨x5,a7,h⟩:=gK h;refine gX (gD (gH7 _ _ a7)) ?_;refine kN (fun c6=>?_) (fun c6=>?_)
  ·replace h:=jU c6 h;exact goR h
  ·replace h:=jV c6 h;refine goS ?_;refine noB ?_;refine kZ (fun(y7:Nat)=>⟨[(1,.ptr 0 0),(3,.N y1),(4,.N y7)],[bTr aa ab ac ad f],Tryz.f225.ntmps⟩) (fun y7=>gDk (gBe (mE.mk aa ab ac ad f) (f.drop (y1+1)) ) (ah.drop y7)  =some r) (fun y7=>ah.length - y7) 0 eJ h ?_;rintro y7 h;refine goL ?_;refine gX (gV y1 (vU ai)) ?_;refine kN (fun c8=>?_) (fun c8=>?_)
   ·have y:=qB c8;refine gB0 25 (fun z9=>?_);obtain⟨ba,ap,aj⟩:=drop_at y;rw [aj,gDk.eq_2] at h;obtain⟨bb,bc,bd⟩:=ba;refine noS ?_;refine kC (gP ?_);refine goL ?_;refine gX (gV y1 (vU ai)) ?_;refine gX (gV y7 (gAw ap)) ?_;obtain⟨bi,aq,h⟩:=gK h;refine gX (gD (gH7 _ _ aq)) ?_;refine kN (fun ak=>?_) (fun ak=>?_)
    ·replace h:=jU ak h;exact goR h
    ·replace h:=jV ak h;refine goS ?_;refine gX (jK y7 (by omega)) ?_;exact⟨(y7+1),h,by omega,eJ⟩
   ·have y:=qC c8;rw [gT y,gDk.eq_1] at h;refine goX ?_;refine gX (jK y1 (by omega)) ?_;exact⟨(y1+1),h,by omega,eJ⟩
 ·have q:=qC c3;rw [gT q,gBe.eq_1] at h;refine goX ?_;refine jH ?_;cases h;exact mM
def gEf(f:gG)(a1:LB):Option LS:=
bnd (gQu 5000 f a1 []) fun q=>
(some q)
theorem gMl(q:gG)(a1:LB){r:LS}(h:gEf q a1=some r):gW Tryz.prog 86 [.d (jX q),.S a1] [.sl 1 (kD r)]:=by
 obtain⟨f⟩:=q;unfold gEf at h;refine SpI Tryz.func86 fun A _=>?_;refine goL ?_;refine gFh ?_;obtain⟨x1,y,h⟩:=gK h;refine gLg [1] (hDw 5000 (gG.mk f) a1 [] 0 y) ?_;rintro _ _ ⟨v2,rfl,rfl⟩;show VO _ _ _ _ ⟨(_,.sl 1 v2)::_,[bPr f,.own 9 1 v2 (kD x1)],_⟩ _;refine goL ?_;refine qW 1 rfl rfl ?_;refine jH ?_;cases h;exact mM
def gU8(ab:gF→gF→(List gM)→Option (List gM × Bool))(f:(List gF)→(List gF)→(List gM)→Option (List gM × Bool))(a0:gF)(a1:gF)(a2:List gM):Option (List gM × Bool):=
gd (bok a2∧tok a0) (lt_ (apT a2 a0) fun q=>
gd (bok a2∧tok a1) (lt_ (apT a2 a1) fun y=>
(cnd (teq q y) (some (a2,true)) (cnd (decide ((IntKind.i64.wrap ((tsz q)+(tsz y))) > 4000)) (some (a2,false)) (cnd (q.kind==1) (
bnd (gRm a2 q.name y) fun x8=>
bnd (gD3 q.name y) fun x9=>
some (x8,(!x9))) (cnd (y.kind==1) (
bnd (gRm a2 y.name q) fun ad=>
bnd (gD3 y.name q) fun ae=>
some (ad,(!ae))) (
lt_ (cnd (q.kind != y.kind) (true) (cnd (!(q.name==y.name)) (true) ((q.args.length:Int) !=(y.args.length:Int)))) fun ag=>
(cnd ag (some (a2,false)) (
bnd (f q.args y.args a2) fun ac=>
some (ac.1,ac.2))))))))))
def gU9(f:gF→gF→(List gM)→Option (List gM × Bool)):Prop:=∀(q:gF)(y:gF)(x2:List gM){r:List gM × Bool},f q y x2=some r→gW Tryz.prog 284 [.d (kT q),.d (kT y),.L 4 (jM x2)] [.sl 4 (jM r.1),.b r.2]
def gYp(f:(List gF)→(List gF)→(List gM)→Option (List gM × Bool)):Prop:=∀(q:List gF)(y:List gF)(x2:List gM){r:List gM × Bool},f q y x2=some r→gW Tryz.prog 280 [.L 3 (jJ q),.L 3 (jJ y),.L 4 (jM x2)] [.sl 4 (jM r.1),.b r.2]
theorem hI4{f}{q}(ah:gU9 f)(y:gYp q)(a0:gF)(a1:gF)(a2:List gM){r:List gM × Bool}(h:gU8 f q a0 a1 a2=some r):gW Tryz.prog 284 [.d (kT a0),.d (kT a1),.L 4 (jM a2)] [.sl 4 (jM r.1),.b r.2]:=by
 obtain⟨al,am,an⟩:=a0;obtain⟨ao,ap,aq⟩:=a1;unfold gU8 at h;refine SpI Tryz.func284 fun A _=>?_;refine goL ?_;obtain⟨g1,h⟩:=mI h;obtain⟨⟨aa,ab,ac⟩,ax,h⟩:=pI h;have sx2:=(gDi a2 (gF.mk al am an) g1).p;rw [ax] at sx2;refine gX (gD (sx2)) ?_;obtain⟨g3,h⟩:=mI h;obtain⟨⟨ad,ae,ag⟩,ay,h⟩:=pI h;have sx4:=(gDi a2 (gF.mk ao ap aq) g3).p;rw [ay] at sx4;refine gX (gD (sx4)) ?_;refine kC (gP ?_);refine goL ?_;refine gX (gD (gEd (gF.mk aa ab ac) (gF.mk ad ae ag))) ?_;refine kN (fun c5=>?_) (fun c5=>?_)
 ·replace h:=jU c5 h;exact goR h
 ·replace h:=jV c5 h;refine goL ?_;refine wC (gD (gCi (gF.mk aa ab ac))) ?_;refine goL ?_;refine wC (gD (gCi (gF.mk ad ae ag))) ?_;refine wC (pR) ?_;refine goC h ?_ ?_<;>intro c6 h
  ·exact goR h
  ·refine goC h ?_ ?_<;>intro c7 h
   ·refine goL ?_;obtain⟨x8,a4,h⟩:=gK h;refine wC (gD (hBq _ _ _ a4)) ?_;refine goL ?_;obtain⟨x9,a5,h⟩:=gK h;refine wC (gD (gH7 _ _ a5)) ?_;exact goR h
   ·refine goC h ?_ ?_<;>intro bb h
    ·refine goL ?_;obtain⟨bc,ar,h⟩:=gK h;refine wC (gD (hBq _ _ _ ar)) ?_;refine goL ?_;obtain⟨bd,au,h⟩:=gK h;refine wC (gD (gH7 _ _ au)) ?_;exact goR h
    ·refine goL ?_;obtain⟨a6,hb13,h⟩:=pI h;refine kG ⟨[(2,.L 4 (jM a2)),(3,.ptr 0 0),(4,.ptr 1 0),(55,.B a6)],[bTy aa ab ac,bTy ad ae ag],Tryz.f284.ntmps⟩ ?_ ?_
     ·refine uJ 61 (fun ai=>?_) (fun ai=>?_) (by first | rfl | (simp only [jG,gQ];rfl))
      ·replace hb13:=jU ai hb13;refine goL ?_;cases hb13;exact⟨rfl,⟨⟨rfl,rfl⟩,⟨rfl,rfl⟩,⟨rfl,rfl⟩,⟨by first | rfl | (simp only [jG,gQ];rfl),rfl⟩,trivial⟩,⟨_,rfl⟩,rfl⟩
      ·replace hb13:=jV ai hb13;refine goL ?_;refine uJ 68 (fun aj=>?_) (fun aj=>?_) (by first | rfl | (simp only [jG,gQ];rfl))
       ·replace hb13:=jU aj hb13;refine goL ?_;cases hb13;exact⟨rfl,⟨⟨rfl,rfl⟩,⟨rfl,rfl⟩,⟨rfl,rfl⟩,⟨by first | rfl | (simp only [jG,gQ];rfl),rfl⟩,trivial⟩,⟨_,rfl⟩,rfl⟩
       ·replace hb13:=jV aj hb13;refine goL ?_;cases hb13;exact⟨rfl,⟨⟨rfl,rfl⟩,⟨rfl,rfl⟩,⟨rfl,rfl⟩,⟨by first | rfl | (simp only [jG,gQ];rfl),rfl⟩,trivial⟩,⟨_,rfl⟩,rfl⟩
     refine goC h ?_ ?_<;>intro be h
     ·exact goR h
     ·refine goS ?_;obtain⟨⟨a7,a8⟩,av,h⟩:=gK h;refine pX (gD (y _ _ _ av)) ?_;exact goR h
def gMm(f:gF→gF→(List gM)→Option (List gM × Bool))(a1:List gF):List gF→Nat→(List gM)→Option (List gM × Bool)
 | [],y,q=>(some (q,true))
 | x5::xs,y,q=>bnd (at? a1 (y:Int)) fun x6=>
bnd (f x5 x6 q) fun x7=>
(cnd (!x7.2) (some (q,false)) (
gMm f a1 xs (y+1) x7.1))
def hDf(f:gF→gF→(List gM)→Option (List gM × Bool))(q:(List gF)→(List gF)→(List gM)→Option (List gM × Bool))(y:List gF)(a1:List gF)(a2:List gM):Option (List gM × Bool):=
gMm f a1 y 0 a2
theorem hS7{f}{q}(y:gU9 f)(ac:gYp q)(a0:List gF)(a1:List gF)(a2:List gM){r:List gM × Bool}(h:hDf f q a0 a1 a2=some r):gW Tryz.prog 280 [.L 3 (jJ a0),.L 3 (jJ a1),.L 4 (jM a2)] [.sl 4 (jM r.1),.b r.2]:=by
 unfold hDf at h;refine SpI Tryz.func280 fun A _=>?_;refine goL ?_;refine noB ?_;refine gB0 0 (fun z3=>?_);refine gAg (fun(y2:Nat)(y1:List gM)=>⟨[(0,.L 3 (jJ a0)),(1,.L 3 (jJ a1)),(2,.L 4 (jM y1)),(8,.N y2)],[],Tryz.f280.ntmps⟩) (fun y2 y1=>gMm f a1 (a0.drop y2) y2 y1=some r) (fun y2 y1=>a0.length - y2) 0 a2 eJ h ?_;rintro y2 y1 h;refine goL ?_;refine kN (fun c4=>?_) (fun c4=>?_)
 ·have aa:=qB c4;obtain⟨x5,al,ag⟩:=drop_at aa;rw [ag,gMm.eq_2] at h;obtain⟨an,ao,ap⟩:=x5;refine noS ?_;refine kC (gP ?_);refine goL ?_;refine wC (gV y2 (gAw al)) ?_;refine goL ?_;obtain⟨x6,ah,h⟩:=gK h;rw [gBb] at ah;obtain⟨aq,ar,au⟩:=x6;refine wC (gV y2 (gAw ah)) ?_;refine goL ?_;obtain⟨⟨ai,av⟩,am,h⟩:=gK h;refine wC (gD (y _ _ _ am)) ?_;refine goC h ?_ ?_<;>intro c8 h
  ·exact goR h
  ·refine goS ?_;refine gX (jK y2 (by omega)) ?_;exact⟨(y2+1),ai,h,by omega,eJ⟩
 ·have aa:=qC c4;rw [gT aa,gMm.eq_1] at h;refine goX ?_;refine jH ?_;cases h;exact mM
mutual
def gVa:Nat→gF→gF→(List gM)→Option (List gM × Bool)
 | 0,_,_,_=>none
 | n+1,f,q,y=>gU8 (gVa n) (gVb n) f q y
def gVb:Nat→(List gF)→(List gF)→(List gM)→Option (List gM × Bool)
 | 0,_,_,_=>none
 | n+1,f,q,y=>hDf (gVa n) (gVb n) f q y
end
theorem hHb:∀(n:Nat),gU9 (gVa n)∧gYp (gVb n):=by
 intro n
 induction n with
 | zero=>exact⟨(by intro f q y r h;cases h),(by intro f q y r h;cases h)⟩
 | succ n ih=>
   obtain⟨ih0,ih1⟩:=ih;refine⟨(fun f q y r h=>hI4 ih0 ih1 f q y h),(fun f q y r h=>hS7 ih0 ih1 f q y h)⟩
theorem hS8:∀(n:Nat),gYp (gVb n):=fun n=>(hHb n).2
def gDl(f:gG→(List jO)→gU→(List gF)→Option (Int))(a0:gG)(a1:List jO)(a2:gU)(a3:List gF)(y:List gM)(q:Option (Int)):List gF→Option (Int)
 | []=>q
 | aa::xs=>gd (bok y∧tok aa) (lt_ (apT y aa) fun ad=>
bnd (f a0 a1 (gU.mk a2.trait ad) (([]++a3)++[a2.type_])) fun ab=>
cnd (ab != 0) (some ab) (
gDl f a0 a1 a2 a3 y q xs ))
def gBw(f:gG→(List jO)→gU→(List gF)→Option (Int))(a0:gG)(a1:List jO)(a2:gU)(a3:List gF)(q:List gM):List mJ→Option (Int)
 | []=>(some 0)
 | y::xs=>gDl f a0 a1 a2 a3 q (gBw f a0 a1 a2 a3 q xs ) y.fields
def gBx(f:gG→(List jO)→gU→(List gF)→Option (Int))(a0:gG)(a1:List jO)(a2:gU)(a3:List gF)(aa:jW × Int × Bool):LS→Nat→(List gM)→Option (Int)
 | [],y,q=>gd (([]:List gF).length+a3.length≤4294967296) (
gd (([]++a3).length+[a2.type_].length≤4294967296) (
gBw f a0 a1 a2 a3 q aa.1.constructors ))
 | ab::xs,y,q=>bnd (at? a2.type_.args (y:Int)) fun ac=>
gd (q.length+[(gM.mk ab ac)].length≤4294967296) (
gBx f a0 a1 a2 a3 aa xs (y+1) (q++[(gM.mk ab ac)]))
def gBy(f:gG→(List jO)→gU→(List gF)→Option (Int))(a0:gG)(a1:List jO)(y:gU)(a3:List gF):List gF→Option (Int)
 | []=>lt_ (wQ a0 y.type_.name) fun q=>
lt_ (cnd (y.type_.kind != 2) (true) (cnd (!q.2.2) (true) ((q.1.vars.length:Int) !=(y.type_.args.length:Int)))) fun ac=>
(cnd ac (some 1) (
lt_ (cnd (decide ((a3.length:Int) > 30)) (true) (decide ((tsz y.type_) > 400))) fun ad=>
cnd ad (some 3) (
gBx f a0 a1 y a3 q q.1.vars 0 [])))
 | x8::xs=>(cnd (teq x8 y.type_) (some 0) (
gBy f a0 a1 y a3 xs ))
def gQ8(f:gG→(List jO)→gU→(List gF)→Option (Int))(a0:gG)(a1:List jO)(q:gU)(y:List gF):Option (Int):=
lt_ (cnd (q.type_.kind==2) (cnd (gKa q.type_.name) (true) (decide ((mQ a1 q)≥0))) (decide ((mQ a1 q)≥0))) fun b1=>
(cnd b1 (some 0) (
gBy f a0 a1 q y y ))
theorem hI5{aa:gG→(List jO)→gU→(List gF)→Option (Int)}(ak:∀(x0:gG)(x1:List jO)(x2:gU)(x3:List gF){r:Int},aa x0 x1 x2 x3=some r→gW Tryz.prog 82 [.d (jX x0),.L 6 (mO x1),.d (gCq x2),.L 3 (jJ x3)] [.i .i64 r])(a0:gG)(a1:List jO)(a2:gU)(a3:List gF){r:Int}(h:gQ8 aa a0 a1 a2 a3=some r):gW Tryz.prog 82 [.d (jX a0),.L 6 (mO a1),.d (gCq a2),.L 3 (jJ a3)] [.i .i64 r]:=by
 obtain⟨ae⟩:=a0;obtain⟨ad,⟨q,f,y⟩⟩:=a2;unfold gQ8 at h;refine SpI Tryz.func82 fun A _=>?_;refine goL ?_;obtain⟨b1,hb1,h⟩:=pI h;refine kG ⟨[(1,.L 6 (mO a1)),(3,.L 3 (jJ a3)),(4,.ptr 0 0),(6,.ptr 1 0),(34,.B b1)],[bPr ae,bBd ad q f y],Tryz.f82.ntmps⟩ ?_ ?_
 ·refine gqV 23 hb1 ?_ ?_<;>intro c2 hb1
  ·refine gX (gD (gRc f)) ?_;refine gqO 29 hb1 (fun c3 hb1=>?_);refine gX (gD (gH1 a1 (gU.mk ad (gF.mk q f y)))) ?_;cases hb1;exact eJ
  ·refine gX (gD (gH1 a1 (gU.mk ad (gF.mk q f y)))) ?_;cases hb1;exact eJ
 refine goC h ?_ ?_<;>intro c4 h
 ·exact goR h
 ·refine goS ?_;refine noB ?_;refine gB0 3 (fun z6=>?_);refine kZ (fun(y5:Nat)=>⟨[(1,.L 6 (mO a1)),(3,.L 3 (jJ a3)),(4,.ptr 0 0),(6,.ptr 1 0),(9,.N y5)],[bPr ae,bBd ad q f y],Tryz.f82.ntmps⟩) (fun y5=>gBy aa (gG.mk ae) a1 (gU.mk ad (gF.mk q f y)) a3 (a3.drop y5)  =some r) (fun y5=>a3.length - y5) 0 eJ h ?_;rintro y5 h;refine goL ?_;refine kN (fun c7=>?_) (fun c7=>?_)
  ·have ar:=qB c7;obtain⟨x8,b2,bm⟩:=drop_at ar;rw [bm,gBy.eq_2] at h;obtain⟨bn,bo,bp⟩:=x8;refine noS ?_;refine kC (gP ?_);refine goL ?_;refine wC (gV y5 (gAw b2)) ?_;refine goL ?_;refine wC (gD (gEd (gF.mk bn bo bp) (gF.mk q f y))) ?_;refine goC h ?_ ?_<;>intro c9 h
   ·exact goR h
   ·refine goS ?_;refine gX (jK y5 (by omega)) ?_;exact⟨(y5+1),h,by omega,eJ⟩
  ·have ar:=qC c7;rw [gT ar,gBy.eq_1] at h;refine goX ?_;obtain⟨⟨⟨ag,ac,ab⟩,a6,a7⟩,bq,h⟩:=pI h;have sx10:=gNd (gG.mk ae) f;rw [bq] at sx10;refine gX (gD (sx10)) ?_;obtain⟨b3,hb11,h⟩:=pI h;refine kG ⟨[(1,.L 6 (mO a1)),(3,.L 3 (jJ a3)),(4,.ptr 0 0),(6,.ptr 1 0),(10,.ptr 2 0),(74,.B b3)],[bPr ae,bBd ad q f y,bDa ag ac ab],Tryz.f82.ntmps⟩ ?_ ?_
   ·refine uJ 61 (fun a8=>?_) (fun a8=>?_) (by first | rfl | (simp only [jG,gQ];rfl))
    ·replace hb11:=jU a8 hb11;refine goL ?_;cases hb11;exact⟨rfl,⟨⟨rfl,rfl⟩,⟨rfl,rfl⟩,⟨rfl,rfl⟩,⟨rfl,rfl⟩,⟨rfl,rfl⟩,⟨by first | rfl | (simp only [jG,gQ];rfl),rfl⟩,trivial⟩,⟨_,rfl⟩,rfl⟩
    ·replace hb11:=jV a8 hb11;refine goL ?_;refine uJ 65 (fun a9=>?_) (fun a9=>?_) (by first | rfl | (simp only [jG,gQ];rfl))
     ·replace hb11:=jU a9 hb11;refine goL ?_;cases hb11;exact⟨rfl,⟨⟨rfl,rfl⟩,⟨rfl,rfl⟩,⟨rfl,rfl⟩,⟨rfl,rfl⟩,⟨rfl,rfl⟩,⟨by first | rfl | (simp only [jG,gQ];rfl),rfl⟩,trivial⟩,⟨_,rfl⟩,rfl⟩
     ·replace hb11:=jV a9 hb11;refine goL ?_;cases hb11;exact⟨rfl,⟨⟨rfl,rfl⟩,⟨rfl,rfl⟩,⟨rfl,rfl⟩,⟨rfl,rfl⟩,⟨rfl,rfl⟩,⟨by first | rfl | (simp only [jG,gQ];rfl),rfl⟩,trivial⟩,⟨_,rfl⟩,rfl⟩
   refine goC h ?_ ?_<;>intro cj h
   ·exact goR h
   ·refine goS ?_;obtain⟨b4,hb15,h⟩:=pI h;refine kG ⟨[(1,.L 6 (mO a1)),(3,.L 3 (jJ a3)),(4,.ptr 0 0),(6,.ptr 1 0),(10,.ptr 2 0),(83,.B b4)],[bPr ae,bBd ad q f y,bDa ag ac ab],Tryz.f82.ntmps⟩ ?_ ?_
    ·refine gqO 78 hb15 (fun ck hb15=>?_);refine gX (gD (gCi (gF.mk q f y))) ?_;cases hb15;exact eJ
    refine goC h ?_ ?_<;>intro cl h
    ·exact goR h
    ·refine goS ?_;refine qO ?_;refine goL ?_;refine noB ?_;refine pG 2 1 (fun cm=>?_);refine kQ (fun(aj:Nat)(ah:List gM)(al:Nat)=>⟨[(1,.L 6 (mO a1)),(3,.L 3 (jJ a3)),(4,.ptr 0 0),(6,.ptr 1 0),(10,.ptr 2 0),(13,.sl 3 al),(14,.N aj)],[bPr ae,bBd ad q f y,bDa ag ac ab,.arr 253 4 al (jM ah)],Tryz.f82.ntmps⟩) (fun aj ah al=>gBx aa (gG.mk ae) a1 (gU.mk ad (gF.mk q f y)) a3 ((jW.mk ag ac ab),a6,a7) (ac.drop aj) aj ah=some r) (fun aj ah al=>ac.length - aj) 0 [] 0 eJ h ?_;rintro aj ah al h;refine goL ?_;refine kN (fun ba=>?_) (fun ba=>?_)
     ·have am:=qB ba;obtain⟨br,bt,bb⟩:=drop_at am;rw [bb,gBx.eq_2] at h;refine noS ?_;refine kC (gP ?_);refine dZ 0 ?_;refine goW ?_;refine kR (fun _=>gV aj (gN4 bt)) ?_;refine goW ?_;obtain⟨b5,a4,h⟩:=gK h;rw [gBb] at a4;obtain⟨au,av,aw⟩:=b5;refine kR (fun _=>gV aj (gAw a4)) ?_;refine goW ?_;refine uK (us:=jM [(gM.mk br (gF.mk au av aw))]) ?_;obtain⟨b6,h⟩:=mI h;refine uL b6 ?_;refine goW ?_;refine jY ?_;refine goL ?_;refine gX (jK aj (by omega)) ?_;exact⟨(aj+1),(ah++[(gM.mk br (gF.mk au av aw))]),(al+1),h,by omega,eJ⟩
     ·have am:=qC ba;rw [gT am,gBx.eq_1] at h;refine noX ?_;refine sZ 1 ?_;refine goW ?_;refine gTb ?_;refine goW ?_;obtain⟨b7,h⟩:=mI h;refine uL b7 ?_;refine goW ?_;refine uK (us:=jJ [(gF.mk q f y)]) ?_;obtain⟨b8,h⟩:=mI h;refine uL b8 ?_;refine goW ?_;refine jY ?_;refine goL ?_;refine noB ?_;refine jS 3 rfl rfl ?_;show V _ _ _ _ _;refine pG 2 2 (fun cn=>?_);refine kZ (fun(ai:Nat)=>⟨[(1,.L 6 (mO a1)),(4,.ptr 0 0),(6,.ptr 1 0),(10,.ptr 2 0),(13,.sl 3 al),(15,.sl 4 ((1+1)+1)),(16,.N ai)],[bPr ae,bBd ad q f y,bDa ag ac ab,.frz 253 4 al (jM ah),.arr 43 3 ((1+1)+1) (jJ (([]++a3)++[(gF.mk q f y)]))],Tryz.f82.ntmps⟩) (fun ai=>gBw aa (gG.mk ae) a1 (gU.mk ad (gF.mk q f y)) a3 ah (ab.drop ai)  =some r) (fun ai=>ab.length - ai) 0 eJ h ?_;rintro ai h;refine goL ?_;refine kN (fun bc=>?_) (fun bc=>?_)
      ·have an:=qB bc;obtain⟨b9,a5,bd⟩:=drop_at an;rw [bd,gBw.eq_2] at h;obtain⟨ca,ax⟩:=b9;refine noS ?_;refine kC (gP ?_);refine goL ?_;refine noB ?_;refine kZ (fun(ao:Nat)=>⟨[(1,.L 6 (mO a1)),(4,.ptr 0 0),(6,.ptr 1 0),(10,.ptr 2 0),(13,.sl 3 al),(15,.sl 4 ((1+1)+1)),(16,.N ai),(17,.N ao)],[bPr ae,bBd ad q f y,bDa ag ac ab,.frz 253 4 al (jM ah),.arr 43 3 ((1+1)+1) (jJ (([]++a3)++[(gF.mk q f y)]))],Tryz.f82.ntmps⟩) (fun ao=>gDl aa (gG.mk ae) a1 (gU.mk ad (gF.mk q f y)) a3 ah (gBw aa (gG.mk ae) a1 (gU.mk ad (gF.mk q f y)) a3 ah (ab.drop (ai+1)) ) (ax.drop ao)  =some r) (fun ao=>ax.length - ao) 0 eJ h ?_;rintro ao h;refine goL ?_;refine gX (gV ai (qA a5)) ?_;refine kN (fun be=>?_) (fun be=>?_)
       ·have ap:=qB be;refine gB0 127 (fun co=>?_);obtain⟨cb,bu,bf⟩:=drop_at ap;rw [bf,gDl.eq_2] at h;obtain⟨bg,bh,bi⟩:=cb;refine noS ?_;refine kC (gP ?_);refine goL ?_;refine wC (gV ai (qA a5)) ?_;refine goL ?_;refine wC (gV ao (gAw bu)) ?_;refine goL ?_;obtain⟨cc,h⟩:=mI h;obtain⟨⟨bj,bk,bl⟩,bv,h⟩:=pI h;have sx37:=(gDi ah (gF.mk bg bh bi) cc).p;rw [bv] at sx37;refine jA4 (hDc (sx37)) ?_;refine jA4 (jI TBd.h TZ.h rfl (by repeat constructor)) ?_;refine goL ?_;obtain⟨cp,bw,h⟩:=gK h;refine jA4 (gUn (ak (gG.mk ae) a1 (gU.mk ad (gF.mk bj bk bl)) (([]++a3)++[(gF.mk q f y)]) bw)) ?_;refine goC h ?_ ?_<;>intro cq h
        ·exact goR h
        ·refine goS ?_;refine gX (jK ao (by omega)) ?_;exact⟨(ao+1),h,by omega,eJ⟩
       ·have ap:=qC be;rw [gT ap,gDl.eq_1] at h;refine goX ?_;refine gX (jK ai (by omega)) ?_;exact⟨(ai+1),h,by omega,eJ⟩
      ·have an:=qC bc;rw [gT an,gBw.eq_1] at h;refine goX ?_;refine jH ?_;cases h;exact mM
def gN9:Nat→gG→(List jO)→gU→(List gF)→Option (Int)
 | 0,_,_,_,_=>none
 | n+1,f,q,y,x3=>gQ8 (gN9 n) f q y x3
theorem hI6:∀(n:Nat)(f:gG)(q:List jO)(y:gU)(x3:List gF){r:Int},gN9 n f q y x3=some r→gW Tryz.prog 82 [.d (jX f),.L 6 (mO q),.d (gCq y),.L 3 (jJ x3)] [.i .i64 r]:=by
 intro n
 induction n with
 | zero=>intro f q y x3 r h;cases h
 | succ n ih=>intro f q y x3 r h;exact hI5 ih f q y x3 h
def zU(q:gG)(a1:LB)(y:LB):Option (List Int × Bool):=
bnd (gKg 5000 q a1 y 8) fun f=>
(some (f.1,f.2))
theorem gMn(f:gG)(a1:LB)(y:LB){r:List Int × Bool}(h:zU f a1 y=some r):gW Tryz.prog 83 [.d (jX f),.S a1,.S y] [.sl 1 (yC r.1),.b r.2]:=by
 obtain⟨aa⟩:=f;unfold zU at h;refine SpI Tryz.func83 fun A _=>?_;refine goL ?_;obtain⟨⟨ab,ac⟩,q,h⟩:=gK h;refine pX (gD (hHo _ _ _ _ _ q)) ?_;exact goR h
def gKm(f:gF→Option (Bool)):List gF→Bool→Option (Bool)
 | [],q=>(some q)
 | y::xs,q=>bnd (cnd q (bnd (f y) fun aa=>
some aa) (some false)) fun ab=>
gKm f xs ab
def gKn(f:gF→Option (Bool)):List gF→Bool→Option (Bool)
 | [],q=>(some q)
 | y::xs,q=>bnd (cnd q (bnd (f y) fun aa=>
some aa) (some false)) fun ab=>
gKn f xs ab
def gKo(f:gF→Option (Bool)):List gF→Bool→Option (Bool)
 | [],q=>(some q)
 | y::xs,q=>bnd (cnd q (bnd (f y) fun aa=>
some aa) (some false)) fun ab=>
gKo f xs ab
def gYq(f:gF→Option (Bool))(q:gF):Option (Bool):=
bnd (cnd (q.kind==1) (some (q.kind==1)) (some (q.kind==4))) fun b1=>
(cnd b1 (
lt_ (cnd (pF q.name) ((q.args.length:Int)==0) (false)) fun b4=>
gKm f q.args b4) (cnd (q.kind==3) (
lt_ (cnd (pF q.name) ((q.args.length:Int)==1) (false)) fun y=>
gKn f q.args y) (cnd (q.kind==2) (
lt_ (cnd (pF q.name) (cnd (decide ((q.args.length:Int)≤3)) (true) (cnd (gKa q.name) ((q.args.length:Int)==0) (false))) (cnd (gKa q.name) ((q.args.length:Int)==0) (false))) fun aa=>
gKo f q.args aa) (some false))))
theorem hOw{f:gF→Option (Bool)}(aa:∀(x0:gF){r:Bool},f x0=some r→gW Tryz.prog 221 [.d (kT x0)] [.b r])(a0:gF){r:Bool}(h:gYq f a0=some r):gW Tryz.prog 221 [.d (kT a0)] [.b r]:=by
 obtain⟨ab,y,q⟩:=a0;unfold gYq at h;refine SpI Tryz.func221 fun A _=>?_;refine goL ?_;refine gX (gD (uB y)) ?_;refine gP ?_;refine goL ?_;obtain⟨b1,hb1,h⟩:=gK h;refine gHf ⟨[(1,.ptr 0 0),(3,.B (pF y)),(9,.I ab),(10,.B b1)],[bTy ab y q],Tryz.f221.ntmps⟩ ?_ ?_
 ·refine kN (fun c2=>?_) (fun c2=>?_)
  ·replace hb1:=jU c2 hb1;refine gCs ?_;cases hb1;exact eJ
  ·replace hb1:=jV c2 hb1;refine goL ?_;cases hb1;exact eJ
 refine goC h ?_ ?_<;>intro c3 h
 ·refine goL ?_;obtain⟨b4,hb4,h⟩:=pI h;refine kG ⟨[(1,.ptr 0 0),(3,.B b4)],[bTy ab y q],Tryz.f221.ntmps⟩ ?_ ?_
  ·refine uJ 14 (fun c5=>?_) (fun c5=>?_) (by first | rfl | (simp only [jG,gQ];rfl))
   ·replace hb4:=jU c5 hb4;refine goL ?_;cases hb4;exact⟨rfl,⟨⟨rfl,rfl⟩,⟨by first | rfl | (simp only [jG,gQ];rfl),rfl⟩,trivial⟩,⟨_,rfl⟩,rfl⟩
   ·replace hb4:=jV c5 hb4;refine goL ?_;cases hb4;exact⟨rfl,⟨⟨rfl,rfl⟩,⟨by first | rfl | (simp only [jG,gQ];rfl),rfl⟩,trivial⟩,⟨_,rfl⟩,rfl⟩
  refine goL ?_;refine noB ?_;refine pG 0 2 (fun z8=>?_);refine gAg (fun(y7:Nat)(y6:Bool)=>⟨[(1,.ptr 0 0),(3,.B y6),(4,.N y7)],[bTy ab y q],Tryz.f221.ntmps⟩) (fun y7 y6=>gKm f (q.drop y7) y6=some r) (fun y7 y6=>q.length - y7) 0 b4 eJ h ?_;rintro y7 y6 h;refine goL ?_;refine kN (fun c9=>?_) (fun c9=>?_)
  ·have ah:=qB c9;obtain⟨bg,ay,al⟩:=drop_at ah;rw [al,gKm.eq_2] at h;obtain⟨bh,bi,bj⟩:=bg;refine noS ?_;refine kC (gP ?_);refine goL ?_;obtain⟨a2,hb11,h⟩:=gK h;refine kG ⟨[(1,.ptr 0 0),(4,.N y7),(3,.B a2)],[bTy ab y q],Tryz.f221.ntmps⟩ ?_ ?_
   ·refine gqA 57 hb11 (fun bw hb11=>?_);refine gX (gV y7 (gAw ay)) ?_;refine gRx ?_;obtain⟨bx,a3,hb11⟩:=gK hb11;refine gX (gD (aa _ a3)) ?_;cases hb11;exact eJ
   refine goL ?_;refine gX (jK y7 (by omega)) ?_;exact⟨(y7+1),a2,h,by omega,eJ⟩
  ·have ah:=qC c9;rw [gT ah,gKm.eq_1] at h;refine goX ?_;refine jH ?_;cases h;exact mM
 ·refine goC h ?_ ?_<;>intro bz h
  ·refine goL ?_;obtain⟨a4,hb15,h⟩:=pI h;refine kG ⟨[(1,.ptr 0 0),(3,.B a4)],[bTy ab y q],Tryz.f221.ntmps⟩ ?_ ?_
   ·refine uJ 23 (fun am=>?_) (fun am=>?_) (by first | rfl | (simp only [jG,gQ];rfl))
    ·replace hb15:=jU am hb15;refine goL ?_;cases hb15;exact⟨rfl,⟨⟨rfl,rfl⟩,⟨by first | rfl | (simp only [jG,gQ];rfl),rfl⟩,trivial⟩,⟨_,rfl⟩,rfl⟩
    ·replace hb15:=jV am hb15;refine goL ?_;cases hb15;exact⟨rfl,⟨⟨rfl,rfl⟩,⟨by first | rfl | (simp only [jG,gQ];rfl),rfl⟩,trivial⟩,⟨_,rfl⟩,rfl⟩
   refine goL ?_;refine noB ?_;refine pG 0 2 (fun b0=>?_);refine gAg (fun(ac:Nat)(ai:Bool)=>⟨[(1,.ptr 0 0),(3,.B ai),(4,.N ac)],[bTy ab y q],Tryz.f221.ntmps⟩) (fun ac ai=>gKn f (q.drop ac) ai=some r) (fun ac ai=>q.length - ac) 0 a4 eJ h ?_;rintro ac ai h;refine goL ?_;refine kN (fun an=>?_) (fun an=>?_)
   ·have ae:=qB an;obtain⟨bk,a5,ao⟩:=drop_at ae;rw [ao,gKn.eq_2] at h;obtain⟨bl,bm,bn⟩:=bk;refine noS ?_;refine kC (gP ?_);refine goL ?_;obtain⟨a6,hb22,h⟩:=gK h;refine kG ⟨[(1,.ptr 0 0),(4,.N ac),(3,.B a6)],[bTy ab y q],Tryz.f221.ntmps⟩ ?_ ?_
    ·refine gqA 57 hb22 (fun b2 hb22=>?_);refine gX (gV ac (gAw a5)) ?_;refine gRx ?_;obtain⟨b3,a7,hb22⟩:=gK hb22;refine gX (gD (aa _ a7)) ?_;cases hb22;exact eJ
    refine goL ?_;refine gX (jK ac (by omega)) ?_;exact⟨(ac+1),a6,h,by omega,eJ⟩
   ·have ae:=qC an;rw [gT ae,gKn.eq_1] at h;refine goX ?_;refine jH ?_;cases h;exact mM
  ·refine goC h ?_ ?_<;>intro b5 h
   ·refine goL ?_;obtain⟨a8,hb26,h⟩:=pI h;refine kG ⟨[(1,.ptr 0 0),(3,.B a8)],[bTy ab y q],Tryz.f221.ntmps⟩ ?_ ?_
    ·refine uJ 32 (fun ap=>?_) (fun ap=>?_) (by first | rfl | (simp only [jG,gQ];rfl))
     ·replace hb26:=jU ap hb26;refine goL ?_;refine uJ 38 (fun aq=>?_) (fun aq=>?_) (by first | rfl | (simp only [jG,gQ];rfl))
      ·replace hb26:=jU aq hb26;refine goL ?_;cases hb26;exact⟨rfl,⟨⟨rfl,rfl⟩,⟨by first | rfl | (simp only [jG,gQ];rfl),rfl⟩,trivial⟩,⟨_,rfl⟩,rfl⟩
      ·replace hb26:=jV aq hb26;refine goL ?_;refine gRx ?_;refine gX (gD (gRc y)) ?_;refine uJ 42 (fun ar=>?_) (fun ar=>?_) (by first | rfl | (simp only [jG,gQ];rfl))
       ·replace hb26:=jU ar hb26;refine goL ?_;cases hb26;exact⟨rfl,⟨⟨rfl,rfl⟩,⟨by first | rfl | (simp only [jG,gQ];rfl),rfl⟩,trivial⟩,⟨_,rfl⟩,rfl⟩
       ·replace hb26:=jV ar hb26;refine goL ?_;cases hb26;exact⟨rfl,⟨⟨rfl,rfl⟩,⟨by first | rfl | (simp only [jG,gQ];rfl),rfl⟩,trivial⟩,⟨_,rfl⟩,rfl⟩
     ·replace hb26:=jV ap hb26;refine goL ?_;refine gRx ?_;refine gX (gD (gRc y)) ?_;refine uJ 42 (fun au=>?_) (fun au=>?_) (by first | rfl | (simp only [jG,gQ];rfl))
      ·replace hb26:=jU au hb26;refine goL ?_;cases hb26;exact⟨rfl,⟨⟨rfl,rfl⟩,⟨by first | rfl | (simp only [jG,gQ];rfl),rfl⟩,trivial⟩,⟨_,rfl⟩,rfl⟩
      ·replace hb26:=jV au hb26;refine goL ?_;cases hb26;exact⟨rfl,⟨⟨rfl,rfl⟩,⟨by first | rfl | (simp only [jG,gQ];rfl),rfl⟩,trivial⟩,⟨_,rfl⟩,rfl⟩
    refine goL ?_;refine noB ?_;refine pG 0 2 (fun b6=>?_);refine gAg (fun(ad:Nat)(aj:Bool)=>⟨[(1,.ptr 0 0),(3,.B aj),(4,.N ad)],[bTy ab y q],Tryz.f221.ntmps⟩) (fun ad aj=>gKo f (q.drop ad) aj=some r) (fun ad aj=>q.length - ad) 0 a8 eJ h ?_;rintro ad aj h;refine goL ?_;refine kN (fun av=>?_) (fun av=>?_)
    ·have ag:=qB av;obtain⟨bo,a9,aw⟩:=drop_at ag;rw [aw,gKo.eq_2] at h;obtain⟨bp,bq,br⟩:=bo;refine noS ?_;refine kC (gP ?_);refine goL ?_;obtain⟨ba,hb36,h⟩:=gK h;refine kG ⟨[(1,.ptr 0 0),(4,.N ad),(3,.B ba)],[bTy ab y q],Tryz.f221.ntmps⟩ ?_ ?_
     ·refine gqA 57 hb36 (fun b7 hb36=>?_);refine gX (gV ad (gAw a9)) ?_;refine gRx ?_;obtain⟨b8,bb,hb36⟩:=gK hb36;refine gX (gD (aa _ bb)) ?_;cases hb36;exact eJ
     refine goL ?_;refine gX (jK ad (by omega)) ?_;exact⟨(ad+1),ba,h,by omega,eJ⟩
    ·have ag:=qC av;rw [gT ag,gKo.eq_1] at h;refine goX ?_;refine jH ?_;cases h;exact mM
   ·exact goR h
def gYr:Nat→gF→Option (Bool)
 | 0,_=>none
 | n+1,f=>gYq (gYr n) f
theorem hOx:∀(n:Nat)(f:gF){r:Bool},gYr n f=some r→gW Tryz.prog 221 [.d (kT f)] [.b r]:=by
 intro n
 induction n with
 | zero=>intro f r h;cases h
 | succ n ih=>intro f r h;exact hOw ih f h
def gVc(f:gY):Option (Bool):=
bnd (gOx 5000 f (gY.mk 0 [] [] 0 (gF.mk 0 [] []) [] [])) fun q=>
(some q)
theorem hI7(a0:gY){r:Bool}(h:gVc a0=some r):gW Tryz.prog 277 [.d (vX a0)] [.b r]:=by
 obtain⟨ac,ad,ae,ag,⟨f,q,y⟩,ah,ai⟩:=a0;unfold gVc at h;refine SpI Tryz.func277 fun A _=>?_;refine goL ?_;refine uX (jI TBd.h TZ.h rfl (by repeat constructor)) ?_;obtain⟨x1,ab,h⟩:=gK h;refine pX (gD (hB5 _ _ _ ab)) ?_;exact goR h
def gCx(f:LS):Option (gH):=
bnd (gRv f) fun q=>
(some (gH.mk [] q))
theorem gFw(q:LS){r:gH}(h:gCx q=some r):gW Tryz.prog 252 [.L 1 (kD q)] [qL r]:=by
 unfold gCx at h;refine SpI Tryz.func252 fun A _=>?_;refine goL ?_;obtain⟨y,f,h⟩:=gK h;refine pX (gD (hB6 _ f)) ?_;refine uX (jI TBd.h TZ.h rfl (by repeat constructor)) ?_;exact goR h
def gGb:List gF→(List gH)→Option (List gH)
 | [],f=>(some f)
 | y::xs,f=>bnd (gQd 5000 y) fun q=>
gd (f.length+[q].length≤4294967296) (
gGb xs (f++[q]))
def gPm(f:List gF):Option (List gH):=
gGb f []
theorem gX1(a0:List gF){r:List gH}(h:gPm a0=some r):gW Tryz.prog 253 [.L 3 (jJ a0)] [.sl 2 (kE r)]:=by
 unfold gPm at h;refine SpI Tryz.func253 fun A _=>?_;refine goL ?_;refine qO ?_;refine goL ?_;refine noB ?_;refine gB0 0 (fun z4=>?_);refine kQ (fun(q:Nat)(y1:List gH)(v2:Nat)=>⟨[(0,.L 3 (jJ a0)),(3,.sl 0 v2),(4,.N q)],[.arr 148 2 v2 (kE y1)],Tryz.f253.ntmps⟩) (fun q y1 v2=>gGb (a0.drop q) y1=some r) (fun q y1 v2=>a0.length - q) 0 [] 0 eJ h ?_;rintro q y1 v2 h;refine goL ?_;refine kN (fun c5=>?_) (fun c5=>?_)
 ·have f:=qB c5;obtain⟨x6,ah,ae⟩:=drop_at f;rw [ae,gGb.eq_2] at h;obtain⟨aj,ak,al⟩:=x6;refine noS ?_;refine kC (gP ?_);refine goL ?_;refine gX (gV q (gAw ah)) ?_;obtain⟨⟨y,aa⟩,ai,h⟩:=gK h;refine pX (gD (gTo _ _ ai)) ?_;refine uN (u:=(.st [.s y,.sl 2 (kE aa)])) ?_;obtain⟨g8,h⟩:=mI h;refine vR g8 ?_;refine goL ?_;refine gX (jK q (by omega)) ?_;exact⟨(q+1),(y1++[(gH.mk y aa)]),(v2+1),h,by omega,eJ⟩
 ·have f:=qC c5;rw [gT f,gGb.eq_1] at h;refine goX ?_;refine jS 0 rfl rfl ?_;refine jH ?_;cases h;exact mM
end Go.Proofs.YtfjncckelekpiaaGreat
