import Derived.Test.YtfpdlnkkcnmebaaGreatB31
set_option maxHeartbeats 4000000
set_option linter.unusedVariables false
set_option linter.unusedSimpArgs false
set_option linter.unusedSectionVars false
namespace Go.Proofs.YtfpdlnkkcnmebaaGreat
open Go Go.Eng
attribute [local irreducible] V VO VQ VY Quiet QR jI mK Rng qE qA pX
def gJd(c:gK):Option (gM × gK):=
bnd (gKv c) fun y=>
bnd (uS y.2 5) fun f=>
bnd ((cnd f.1 (
bnd (gXz f.2) fun q=>
gd (y.1.packages.length+[q.1].length≤4294967296) (
(some (q.2.b,q.2.i,q.2.h,(y.1.packages++[q.1]))))) (
(some (f.2.b,f.2.i,f.2.h,y.1.packages))))) fun b3=>
(some ((gM.mk b3.2.2.2),(gK.mk b3.1 b3.2.1 b3.2.2.1)))
theorem hA6(c:gK){r:gM × gK}(h:gJd c=some r):Go.Eng.Spec Tryz.prog 41 [.ptr 0 0] [bCu c.b c.i c.h] (fun sv Lo=>sv=.d (mD r.1)∧Lo=[bCu r.2.b r.2.i r.2.h]):=by
 obtain⟨ax,ay,a0⟩:=c;unfold gJd at h;refine kJ 1 Tryz.func41 rfl (by kernel_rfl) rfl rfl fun A _=>?_;refine goL ?_;obtain⟨⟨⟨ae⟩,⟨ah,ai,aj⟩⟩,a3,h⟩:=gJ h;refine gBz [0] (hCd (gK.mk ax ay a0) a3) ?_;rintro _ _ ⟨rfl,rfl⟩;show VO _ _ _ _ ⟨(_,.ag [.sl 2 0])::_,[bCu ah ai aj,.box [.nilsl],.arr 91 6 0 (mE ae)],_⟩ _;refine goL ?_;obtain⟨⟨a8,⟨ak,al,am⟩⟩,a4,h⟩:=gJ h;refine mI 0 (wB (gK.mk ah ai aj) 5 a4) ?_;refine goL ?_;obtain⟨⟨aq,ar,au,av⟩,hb3,h⟩:=gJ h;refine gIx (fun v4=>⟨[(2,.ptr 1 0),(3,.ptr 3 0)],[bCu aq ar au,.box [.nilsl],.arr 91 6 v4 (mE av),.box [.sl 2 v4]],Tryz.f41.ntmps⟩) ?_ (fun v4=>?_)
 ·refine mR (fun c5=>?_) (fun c5=>?_)
  ·replace hb3:=kU c5 hb3;obtain⟨⟨⟨f,y,aa,ab,ac,ad⟩,⟨an,ao,ap⟩⟩,aw,hb3⟩:=gJ hb3;obtain⟨g7,hb3⟩:=pU hb3;refine qY (P:=Tryz.prog) Mix.h (.q 0 (.q 2 (.h 1 (hcT 3 (hcT 4 (hcT 5 (.q 6 (hzT 7))))) (hcT 3 (.h 1 (hcT 4 (hcT 5 (.q 6 (hzT 7)))) (hcT 4 (hcT 1 (hcT 5 (.q 6 (hzT 7)))))))))) ⟨[(2,.ptr 1 0),(3,.ptr 3 0)],[bCu an ao ap,.box [.nilsl],.arr 91 6 (0+1) (mE (ae++[(jZ.mk f y aa ab ac ad)])),.box [.sl 2 (0+1)],.arr 91 6 0 (mE [(jZ.mk f y aa ab ac ad)])],Tryz.f41.ntmps⟩ (by kernel_rfl) ?_ ?_
   ·refine mU ?_;refine uD (kF gZ) ?_ ?_
    ·refine gQ (qU 0 (gZr (gK.mk ak al am) aw) gZ) ?_;refine gQ (kT (T:=24) (us:=mE [(jZ.mk f y aa ab ac ad)]) gZ) ?_;refine gQ (kN (T:=24) g7 gZ) ?_;refine mU ?_;refine jL ?_;exact pQ 1 [0,1,2,3,4]
    refine gQ (qU 0 (gZr (gK.mk ak al am) aw) gZ) ?_;refine uD (kF gZ) ?_ ?_
    ·refine gQ (kT (T:=24) (us:=mE [(jZ.mk f y aa ab ac ad)]) gZ) ?_;refine gQ (kN (T:=24) g7 gZ) ?_;refine mU ?_;refine jL ?_;exact pQ 1 [0,1,2,3,4]
    refine gQ (kT (T:=24) (us:=mE [(jZ.mk f y aa ab ac ad)]) gZ) ?_;refine gQ (kF gZ) ?_;refine gQ (kN (T:=24) g7 gZ) ?_;refine mU ?_;refine jL ?_;exact pQ 1 [0,1,2,3,4]
   refine goL ?_;cases hb3;exact⟨(0+1),eJ⟩
  ·replace hb3:=kV c5 hb3;refine vN ?_;cases hb3;exact⟨0,eJ⟩
 refine goL ?_;refine gV 2 rfl rfl ?_;refine jF ?_;obtain rfl:=Option.some.inj h;exact gB5 [.d (.st [.sl 6 (mE av)])] [bCu aq ar au] ⟨rfl,rfl⟩
theorem hV6:okA=true:=by kernel_rfl
def pC(b:Bool):jZ:=match zH (gUz b)with
 | some (p,_)=>p
 | none=>⟨[],[],[],[],[],[]⟩
def trB(w:gM)(n:LB)(l:LS):Bool:=((gAp w n).1.supertraits==l) && (((uJ w n).1.supertraits==l) && (!(gAp w n).1.auto && !(uJ w n).1.auto))
def noP(o:Option (List Int × Bool)):Bool:=match o with | some q=> !q.2 | none=>false
theorem hFk(b:Bool)(rest:List jZ):trB ⟨pC b::rest⟩ gFj []=true:=by cases b<;>kernel_rfl
theorem hPr(b:Bool)(rest:List jZ):trB ⟨pC b::rest⟩ eqN []=true:=by cases b<;>kernel_rfl
theorem hPs(b:Bool)(rest:List jZ):trB ⟨pC b::rest⟩ hLm []=true:=by cases b<;>kernel_rfl
theorem hK6(b:Bool)(rest:List jZ):trB ⟨pC b::rest⟩ hBt [eqN]=true:=by cases b<;>kernel_rfl
theorem hV7(b:Bool)(rest:List jZ):(noP (qW ⟨pC b::rest⟩ gFj eqN) && noP (wH ⟨pC b::rest⟩ gFj eqN))=true:=by cases b<;>kernel_rfl
theorem hPt(b:Bool)(rest:List jZ):(noP (qW ⟨pC b::rest⟩ gFj hBt) && noP (wH ⟨pC b::rest⟩ gFj hBt))=true:=by cases b<;>kernel_rfl
theorem gZi{o:Option (List Int × Bool)}(h:noP o=true):∃p,o=some (p,false):=by
 match o,h with
 | some (p,false),_=>exact⟨p,rfl⟩
structure TrB (w:gM)(n:LB)(l:LS):Prop where
 i:(gAp w n).1.supertraits=l
 s:(uJ w n).1.supertraits=l
 a:(uJ w n).1.auto=false∧(gAp w n).1.auto=false
theorem gRx{w:gM}{n:LB}{l:LS}(h:trB w n l=true):TrB w n l:=by
 unfold trB at h;simp only [Bool.and_eq_true,beq_iff_eq,Bool.not_eq_true'] at h;obtain⟨f,q,y,h5⟩:=h;exact⟨f,q,h5,y⟩
def hGx(n:Nat):List jD→Nat→List gD
 | [],_=>[]
 | _::l,k=>⟨(n:Int),(k:Int)⟩::hGx n l (k+1)
theorem gP3(n:Nat):∀(l:List jD)(k:Nat),(hGx n l k).length=l.length
 | [],_=>rfl
 | _::l,k=>by simp [hGx,gP3 n l (k+1)]
theorem hK7(n:Nat)(f:List gD→Option (List gD)):∀(l:List jD)(k:Nat)(acc:List gD),acc.length+l.length≤4294967296→uB n f l k acc=f (acc++hGx n l k)
 | [],k,acc,_=>by simp [uB,hGx]
 | x::l,k,acc,h=>by
   simp only [List.length_cons] at h;rw [uB,qN (by simp;omega),hK7 n f l (k+1) _ (by simp;omega)];simp [hGx]
theorem gZj{n:Nat}{o:gD}:∀{l:List jD}{k:Nat},o∈hGx n l k→∃j:Nat,o=⟨(n:Int),((k+j:Nat):Int)⟩∧j < l.length
 | [],k,h=>by simp [hGx] at h
 | x::l,k,h=>by
   simp only [hGx,List.mem_cons] at h;rcases h with rfl | h
   ·exact⟨0,rfl,by simp⟩
   ·obtain⟨j,f,q⟩:=gZj h;exact⟨j+1,by rw [f];congr 2;omega,by simp;omega⟩
def gZk:List jZ→Nat→List gD
 | [],_=>[]
 | p::ps,n=>hGx n p.instances 0++gZk ps (n+1)
theorem gZl:∀(ps:List jZ)(n:Nat),(∀p∈ps,PK p)→(gZk ps n).length≤100*ps.length
 | [],n,_=>by simp [gZk]
 | p::ps,n,h=>by
   have f:=(h p (by simp)).1.1;have y:=gZl ps (n+1) fun q hq=>h q (by simp [hq]);simp only [gZk,List.length_append,gP3,List.length_cons];omega
theorem hK8:∀(ps:List jZ)(n:Nat)(acc:List gD),acc.length+(gZk ps n).length≤4294967296→qI ps n acc=some (acc++gZk ps n)
 | [],n,acc,_=>by simp [qI,gZk]
 | p::ps,n,acc,h=>by
   simp only [gZk,List.length_append,gP3] at h;rw [qI,hK7 n _ p.instances 0 acc (by omega)];rw [hK8 ps (n+1) _ (by simp [gP3];omega)];simp [gZk]
theorem gZm{o:gD}:∀{ps:List jZ}{n:Nat},o∈gZk ps n→∃(j m:Nat)(p:jZ)(i:jD),o=⟨((n+j:Nat):Int),(m:Int)⟩∧ps[j]? =some p∧p.instances[m]? =some i
 | [],n,h=>by simp [gZk] at h
 | p::ps,n,h=>by
   simp only [gZk,List.mem_append] at h;rcases h with h | h
   ·obtain⟨m,f,y⟩:=gZj h;exact⟨0,m,p,p.instances[m],by rw [f];simp,rfl,List.getElem?_eq_getElem y⟩
   ·obtain⟨j,m,q,i,f,y,h3⟩:=gZm h;exact⟨j+1,m,q,i,by rw [f];congr 2;omega,y,h3⟩
structure WD (w:gM):Prop where
 core:∃b rest,w=⟨pC b::rest⟩
 len:w.packages.length≤3
 pk:∀p∈w.packages,PK p
theorem WD.look{w:gM}(h:WD w){o:gD}{i:jD}(hi:gHo w o=some i):IK i:=by
 obtain⟨p,f,q⟩:=gLk hi;exact(h.pk p (List.mem_of_getElem? (gBm f).2)).1.2 i (List.mem_of_getElem? (gBm q).2)
theorem WD.sw{w:gM}(h:WD w):∃all,SW w all:=by
 have hl:=h.len;have hn:=gZl w.packages 0 h.pk;have hlook:∀o∈gZk w.packages 0,∃i,gHo w o=some i:=fun o ho=>by
  obtain⟨j,m,p,i,rfl,f,q⟩:=gZm ho;refine⟨i,?_⟩;unfold gHo;simp only [Nat.zero_add];rw [gA4,f];simp only [bnd];rw [gA4,q]
 obtain⟨b,rest,rfl⟩:=h.core;dsimp only at hl hn;refine⟨gZk (pC b::rest) 0,⟨by unfold gCt;rw [hK8 _ 0 [] (by simp only [List.length_nil];omega)];rfl,by omega,fun o ho=>?_⟩,fun n hN=>?_,fun n hN=>?_,fun o ho i hi he=>(h.look hi).whr he⟩
 ·obtain⟨i,hi⟩:=hlook o ho;exact⟨i,hi,(h.look hi).hd,(h.look hi).hs⟩
 ·rcases hN with rfl | rfl
  ·exact(gRx (hPr b rest)).a
  ·exact(gRx (hK6 b rest)).a
 ·rcases hN with rfl | rfl
  ·have:=hV7 b rest
   rw [Bool.and_eq_true] at this;exact⟨gZi this.1,gZi this.2⟩
  ·have:=hPt b rest
   rw [Bool.and_eq_true] at this;exact⟨gZi this.1,gZi this.2⟩
theorem hV8{c:gK}(hc:vX c):Dk (fun w=>WD w∧w.packages.length≤2) (gKv c):=by
 obtain⟨b,c1,e1,e2⟩:=hN8 c hc
 have hC:okC b=true:=by cases b;· exact hSn
                        ·exact hSm
 obtain⟨p,p1,p2,p3,p4,p5,p6⟩:=hCc (by omega) hC;have hp:p=pC b:=by unfold pC;rw [p2]
 subst hp;have hk:=hJ8 p3;obtain⟨y,c2,f1,f2⟩:=gO2 c1 5 e2 (by omega) (by omega);unfold gKv gFt;rw [jV e1,jV f1];cases y with
 | true=>
   have hP:zL (fmt (gUz b))=some (⟨[pC b]⟩,-1):=by
    unfold zL;rw [jV (hOg _ p5 (by omega))];simp only [vF,p4,gW,p1,bnd,lt_,Bool.not_true];rw [show (((([]:List jZ).length:Nat):Int)==5)=false from by decide,gW,qN (by simp)];rfl
   simp only [jQ,bnd];rw [hP];exact dkS f2 ⟨⟨⟨b,[],rfl⟩,by simp,fun p hp=>by obtain rfl:=List.mem_singleton.1 hp;exact hk⟩,by simp⟩
 | false=>
   simp only [gW];obtain⟨hd,m,f,h,o3,c3,g1,g2,g3,g4,g5,g6,g7⟩:=hQg c2 f2;have hA:=hV6;unfold okA at hA;have h1:=List.all_eq_true.1 hA hd g3;have h2:=List.all_eq_true.1 h1 m g4;have h3:=List.all_eq_true.1 h2 f (by rcases g5 with rfl | rfl<;>simp);have h4:=List.all_eq_true.1 h3 h (by rcases g6 with rfl | rfl<;>simp);have h5:=List.all_eq_true.1 h4 o3 (by rcases g7 with rfl | rfl<;>simp);obtain⟨q,q1,_,q3,q4,q5,q6⟩:=hCc (by omega) h5;have hq:=hJ8 q3;rw [qN (by simp;omega),jV g1,qN (by simp;omega)];simp only [bnd];have hP:zL (fmt (gUz b)++[10]++fmt (hN4 hd m f h o3))=some (⟨[pC b,q]⟩,-1):=by
    unfold zL;have hs:gE6 (fmt (gUz b)++[10]++fmt (hN4 hd m f h o3)) 10=some [fmt (gUz b),fmt (hN4 hd m f h o3)]:=hOh _ _ p5 q5 (by omega);rw [jV hs];simp only [vF,p4,q4,gW,p1,q1,bnd,lt_,Bool.not_true];rw [show (((([]:List jZ).length:Nat):Int)==5)=false from by decide,gW,qN (by simp)];rw [show ((((([]++[pC b]):List jZ).length:Nat):Int)==5)=false from by simp,gW,qN (by simp)];rfl
   rw [hP];refine dkS g2 ⟨⟨⟨b,[q],rfl⟩,by simp,fun p hp=>?_⟩,by simp⟩;simp only [List.mem_cons,List.not_mem_nil,or_false] at hp;rcases hp with rfl | rfl
   ·exact hk
   ·exact hq
theorem hPu{c:gK}(hc:vX c):Dk WD (gJd c):=by
 unfold gJd;refine dkB (hV8 hc) fun w c1 k1 hw=>dkB (gX1 k1 (by omega) (by omega)) fun x f k2 _=>?_;cases x with
 | true=>
   obtain⟨p,y,e,k3,hp⟩:=jAs k2;refine dkO (x:=(y.b,y.i,y.h,w.packages++[p])) ?_ (dkS k3 ?_)
   ·show cnd true _ _=_;rw [jQ];exact(jV e).trans (qN (by have:=hw.2;simp;omega))
   ·obtain⟨⟨⟨b,rest,rfl⟩,h1,h2⟩,h3⟩:=hw;dsimp only at h1 h2 h3;refine⟨⟨b,rest++[p],rfl⟩,by simp only [List.length_append,List.length_singleton];omega,fun q hq=>?_⟩;rcases List.mem_append.1 hq with hq | hq
    ·exact h2 q hq
    ·obtain rfl:=List.mem_singleton.1 hq;exact hp
 | false=>exact dkO (x:=(f.b,f.i,f.h,w.packages)) rfl (dkS k2 hw.1)
def gV2(f:LB):Bool:=
(decide ((f.length:Int) > 1048576))
theorem hPv(f:LB):jI Tryz.prog 5 [.L 1 (gD6 f)] [.b (gV2 f)]:=by
 obtain⟨r,h⟩:∃r,gV2 f=r:=⟨_,rfl⟩
 rw [h];unfold gV2 at h;refine SpI Tryz.func5 fun A _=>?_;refine goL ?_;refine jF ?_;subst h;exact uM
def uP(y:gM)(q:jD × Bool):LS→(List gH)→Option (List gH × Int)
 | [],h=>(some (h,0))
 | x9::xs,h=>bnd (gN4 y q.1.where_ (gP.mk x9 q.1.head)) fun f=>
(cnd (f.2 != 0) (
(some ([],f.2))) (
gd (h.length+[f.1].length≤4294967296) (
uP y q xs (h++[f.1]))))
def pI(f:gM)(a1:gD):Option (List gH × Int):=
bnd (gFb f a1) fun h=>
(cnd (!h.2) (
(some ([],1))) (
lt_ (gAp f h.1.trait) fun q=>
uP f h q.1.supertraits []))
theorem gLm(a0:gM)(a1:gD){r:List gH × Int}(h:pI a0 a1=some r):jI Tryz.prog 7 [.d (mD a0),.d (qO a1)] [.sl 5 (jE r.1),.i .i64 r.2]:=by
 obtain⟨ar⟩:=a0;obtain⟨a6,a7⟩:=a1;unfold pI at h;refine SpI Tryz.func7 fun A _=>?_;refine goL ?_;obtain⟨⟨⟨ah,am,⟨aa,ab,ac⟩,an,ao,ap,⟨ad,ae,ag⟩,aq⟩,a8⟩,bc,h⟩:=gJ h;refine jP (gI (gOn _ _ bc)) ?_;refine mR (fun c2=>?_) (fun c2=>?_)
 ·replace h:=kU c2 h;exact goR h
 ·replace h:=kV c2 h;refine goS ?_;obtain⟨⟨⟨au,f,av,aw,ax⟩,bj,bk⟩,be,h⟩:=uK h;have sx3:=gP1 (gM.mk ar) ah;rw [be] at sx3;refine jP (gI (sx3)) ?_;refine gAu ?_;refine goL ?_;refine noB ?_;refine gCw 34 (fun z7=>?_);refine mG (fun(y6:Nat)(y4:List gH)(v5:Nat)=>⟨[(2,.ptr 0 0),(6,.ptr 2 0),(11,.sl 4 v5),(34,.L 1 (gT f)),(35,.I (f.length:Int)),(36,.N y6)],[bPr ar,.box [.I a6,.I a7],bIn ah am aa ab ac an ao ap ad ae ag aq,bTr au f av aw ax,.arr 51 5 v5 (jE y4)],Tryz.f7.ntmps⟩) (fun y6 y4 v5=>uP (gM.mk ar) ((jD.mk ah am (gB.mk aa ab ac) an ao ap (gB.mk ad ae ag) aq),a8) (f.drop y6) y4=some r) (fun y6 y4 v5=>f.length - y6) 0 [] 0 eJ h ?_;rintro y6 y4 v5 h;refine goL ?_;refine kI (mR (fun c8=>?_) (fun c8=>?_))
  ·have al:=vR c8;obtain⟨x9,bg,a9⟩:=drop_at al;rw [a9,uP.eq_2] at h;refine noS ?_;refine kI (jA ?_);refine goL ?_;refine jP (jR y6 (gO7 bg)) ?_;refine vP (jN TBd.h TZ.h rfl (by repeat constructor)) ?_;obtain⟨⟨⟨ai,aj,⟨q,y⟩,ak⟩,bh⟩,ba,h⟩:=gJ h;refine jP (gI (hI7 _ _ _ ba)) ?_;refine mR (fun a3=>?_) (fun a3=>?_)
   ·replace h:=kU a3 h;exact goR h
   ·replace h:=kV a3 h;refine goS ?_;refine uO (u:=(.st [.i .i64 ai,.i .i64 aj,.st [.i .i64 q,.i .i64 y],.sl 5 (jE ak)])) ?_;obtain⟨bi,h⟩:=pU h;refine gAd bi ?_;refine goL ?_;refine jP (kD y6 (by omega)) ?_;exact⟨(y6+1),(y4++[(gH.mk ai aj (gD.mk q y) ak)]),(v5+1),h,by omega,eJ⟩
  ·have al:=vS c8;rw [jK al,uP.eq_1] at h;refine goX ?_;refine gV 4 rfl rfl ?_;refine jF ?_;cases h;exact uM
def uW(f:gG→gG→Option (Bool))(a1:gG):List gG→Nat→Option (Bool)
 | [],h=>(some true)
 | q::xs,h=>bnd (at? a1.args (h:Int)) fun y=>
bnd (f q y) fun aa=>
(cnd (!aa) (
(some false)) (
uW f a1 xs (h+1)))
def uX(f:gG→gG→Option (Bool))(y:gG)(a1:gG):List Int→Nat→Option (Bool)
 | [],h=>uW f a1 y.args 0
 | x9::xs,h=>bnd (at? a1.steps (h:Int)) fun q=>
(cnd (x9 != q) (
(some false)) (
uX f y a1 xs (h+1)))
def gB6(f:gG→gG→Option (Bool))(h:gG)(a1:gG):Option (Bool):=
lt_ ((cnd (h.kind != a1.kind) (true) ((cnd (!(h.at_.package==a1.at_.package && h.at_.at_==a1.at_.at_)) (true) ((cnd ((h.steps.length:Int) !=(a1.steps.length:Int)) (true) (((h.args.length:Int) !=(a1.args.length:Int))))))))) fun q=>
(cnd q (
(some false)) (
uX f h a1 h.steps 0))
theorem gN3{f:gG→gG→Option (Bool)}(q:∀(x0:gG)(x1:gG){r:Bool},f x0 x1=some r→jI Tryz.prog 15 [.d (jH x0),.d (jH x1)] [.b r])(a0:gG)(a1:gG){r:Bool}(h:gB6 f a0 a1=some r):jI Tryz.prog 15 [.d (jH a0),.d (jH a1)] [.b r]:=by
 obtain⟨am,⟨ab,ac⟩,ae,ag⟩:=a0;obtain⟨ai,⟨y,aa⟩,aj,ak⟩:=a1;unfold gB6 at h;refine SpI Tryz.func15 fun A _=>?_;refine goL ?_;obtain⟨b1,hb1,h⟩:=uK h;refine kH ⟨[(2,.ptr 0 0),(3,.ptr 1 0),(36,.B b1)],[.box [.I am,.I ab,.I ac,.L 1 (vM ae),.L 5 (jJ ag)],.box [.I ai,.I y,.I aa,.L 1 (vM aj),.L 5 (jJ ak)]],Tryz.f15.ntmps⟩ ?_ ?_
 ·refine gqO 12 hb1 (fun c2 hb1=>?_);refine goL ?_;refine gqO 19 hb1 (fun c3 hb1=>?_);exact gqZ 28 hb1
 refine goC h ?_ ?_<;>intro c5 h
 ·exact goR h
 ·refine goS ?_;refine noB ?_;refine yC 0 3 (fun z7=>?_);refine pY (fun(y6:Nat)=>⟨[(2,.ptr 0 0),(3,.ptr 1 0),(5,.N y6)],[.box [.I am,.I ab,.I ac,.L 1 (vM ae),.L 5 (jJ ag)],.box [.I ai,.I y,.I aa,.L 1 (vM aj),.L 5 (jJ ak)]],Tryz.f15.ntmps⟩) (fun y6=>uX f (gG.mk am (gD.mk ab ac) ae ag) (gG.mk ai (gD.mk y aa) aj ak) (ae.drop y6) y6=some r) (fun y6=>ae.length - y6) 0 eJ h ?_;rintro y6 h;refine goL ?_;refine mR (fun c8=>?_) (fun c8=>?_)
  ·have al:=vR c8;obtain⟨x9,a7,au⟩:=drop_at al;rw [au,uX.eq_2] at h;refine noS ?_;refine kI (jA ?_);refine goL ?_;refine gDi (jR y6 (hMg a7)) ?_;refine goL ?_;obtain⟨bj,ao,h⟩:=gJ h;rw [gA4] at ao;refine gDi (jR y6 (hMg ao)) ?_;refine goC h ?_ ?_<;>intro bk h
   ·exact goR h
   ·refine goS ?_;refine jP (kD y6 (by omega)) ?_;exact⟨(y6+1),h,by omega,eJ⟩
  ·have al:=vS c8;rw [jK al,uX.eq_1] at h;refine goX ?_;refine noB ?_;refine yC 0 4 (fun bl=>?_);refine pY (fun(ad:Nat)=>⟨[(2,.ptr 0 0),(3,.ptr 1 0),(6,.N ad)],[.box [.I am,.I ab,.I ac,.L 1 (vM ae),.L 5 (jJ ag)],.box [.I ai,.I y,.I aa,.L 1 (vM aj),.L 5 (jJ ak)]],Tryz.f15.ntmps⟩) (fun ad=>uW f (gG.mk ai (gD.mk y aa) aj ak) (ag.drop ad) ad=some r) (fun ad=>ag.length - ad) 0 eJ h ?_;rintro ad h;refine goL ?_;refine mR (fun aq=>?_) (fun aq=>?_)
   ·have ah:=vR aq;obtain⟨a8,av,ar⟩:=drop_at ah;rw [ar,uW.eq_2] at h;obtain⟨a9,⟨aw,ax⟩,ba,bb⟩:=a8;refine noS ?_;refine kI (jA ?_);refine goL ?_;refine gDi (jR ad (gCh av)) ?_;refine goL ?_;obtain⟨bc,ap,h⟩:=gJ h;rw [gA4] at ap;obtain⟨bd,⟨ay,a3⟩,be,bf⟩:=bc;refine gDi (jR ad (gCh ap)) ?_;refine goL ?_;obtain⟨bm,a4,h⟩:=gJ h;refine gDi (gI (q _ _ a4)) ?_;refine goC h ?_ ?_<;>intro bn h
    ·exact goR h
    ·refine goS ?_;refine jP (kD ad (by omega)) ?_;exact⟨(ad+1),h,by omega,eJ⟩
   ·have ah:=vS aq;rw [jK ah,uW.eq_1] at h;refine goX ?_;refine jF ?_;cases h;exact uM
def yG:Nat→gG→gG→Option (Bool)
 | 0,_,_=>none
 | n+1,f,h=>gB6 (yG n) f h
theorem gIg:∀(n:Nat)(f:gG)(q:gG){r:Bool},yG n f q=some r→jI Tryz.prog 15 [.d (jH f),.d (jH q)] [.b r]:=by
 intro n
 induction n with
 | zero=>intro f q r h;cases h
 | succ n ih=>intro f q r h;exact gN3 ih f q h
def vJ(a1:List Int):List Int→Nat→Option (Bool)
 | [],f=>(some true)
 | h::xs,f=>bnd (at? a1 (f:Int)) fun q=>
(cnd (h != q) (
(some false)) (
vJ a1 xs (f+1)))
def gBr(f:List Int)(a1:List Int):Option (Bool):=
(cnd ((f.length:Int) !=(a1.length:Int)) (
(some false)) (
vJ a1 f 0))
theorem gPf(y:List Int)(a1:List Int){r:Bool}(h:gBr y a1=some r):jI Tryz.prog 38 [.L 1 (vM y),.L 1 (vM a1)] [.b r]:=by
 unfold gBr at h;refine SpI Tryz.func38 fun A _=>?_;refine goC h ?_ ?_<;>intro c1 h
 ·exact goR h
 ·refine goS ?_;refine noB ?_;refine gCw 0 (fun z3=>?_);refine pY (fun(q:Nat)=>⟨[(0,.L 1 (vM y)),(1,.L 1 (vM a1)),(12,.I (y.length:Int)),(13,.N q)],[],Tryz.f38.ntmps⟩) (fun q=>vJ a1 (y.drop q) q=some r) (fun q=>y.length - q) 0 eJ h ?_;rintro q h;refine goL ?_;refine kI (mR (fun c4=>?_) (fun c4=>?_))
  ·have f:=vR c4;obtain⟨x5,ad,aa⟩:=drop_at f;rw [aa,vJ.eq_2] at h;refine noS ?_;refine kI (jA ?_);refine goL ?_;refine gDi (jR q (hMg ad)) ?_;refine goL ?_;obtain⟨x6,ab,h⟩:=gJ h;rw [gA4] at ab;refine gDi (jR q (hMg ab)) ?_;refine goC h ?_ ?_<;>intro c7 h
   ·exact goR h
   ·refine goS ?_;refine jP (kD q (by omega)) ?_;exact⟨(q+1),h,by omega,eJ⟩
  ·have f:=vS c4;rw [jK f,vJ.eq_1] at h;refine goX ?_;refine jF ?_;cases h;exact uM
def jM(a1:List gG)(a2:gG→gG→Option Bool):List gG→Nat→Option (Bool)
 | [],f=>(some true)
 | h::xs,f=>bnd (at? a1 (f:Int)) fun q=>
bnd (a2 h q) fun y=>
(cnd (!y) (
(some false)) (
jM a1 a2 xs (f+1)))
def jX(f:List gG)(a1:List gG)(a2:gG→gG→Option Bool):Option (Bool):=
(cnd ((f.length:Int) !=(a1.length:Int)) (
(some false)) (
jM a1 a2 f 0))
theorem uR(y:List gG)(a1:List gG){a2f:Nat}{a2c:List SV}{a2:gG→gG→Option Bool}(a2_lt:∀n,SV.lts n a2c=true)(ha2:∀(x0:gG)(x1:gG)(r:Bool),a2 x0 x1=some r→jI Tryz.prog a2f ([.d (jH x0),.d (jH x1)]++a2c) [.b r]){r:Bool}(h:jX y a1 a2=some r):jI Tryz.prog 39 [.L 5 (jJ y),.L 5 (jJ a1),.fn a2f a2c] [.b r]:=by
 unfold jX at h;refine SpI Tryz.func39 fun A _=>?_;refine goC h ?_ ?_<;>intro c1 h
 ·exact goR h
 ·refine goS ?_;refine noB ?_;refine gCw 15 (fun z3=>?_);refine pY (fun(q:Nat)=>⟨[(1,.L 5 (jJ a1)),(2,.fn a2f a2c),(15,.L 5 (jJ y)),(16,.I (y.length:Int)),(17,.N q)],[],Tryz.f39.ntmps⟩) (fun q=>jM a1 a2 (y.drop q) q=some r) (fun q=>y.length - q) 0 ⟨rfl,⟨⟨rfl,rfl⟩,⟨rfl,a2_lt _⟩,⟨rfl,rfl⟩,⟨rfl,rfl⟩,⟨rfl,rfl⟩,trivial⟩,⟨[],rfl⟩,rfl⟩ h ?_;rintro q h;refine goL ?_;refine kI (mR (fun c4=>?_) (fun c4=>?_))
  ·have f:=vR c4;obtain⟨x5,ai,aa⟩:=drop_at f;rw [aa,jM.eq_2] at h;obtain⟨an,⟨ac,ad⟩,ao,ap⟩:=x5;refine noS ?_;refine kI (jA ?_);refine goL ?_;refine jP (jR q (gCh ai)) ?_;obtain⟨x6,ab,h⟩:=gJ h;rw [gA4] at ab;obtain⟨aq,⟨ae,ag⟩,ar,au⟩:=x6;refine jP (jR q (gCh ab)) ?_;obtain⟨x7,aj,h⟩:=gJ h;refine jP (gPv (ha2 _ _ _ aj) (a2_lt 0)) ?_;refine mR (fun c8=>?_) (fun c8=>?_)
   ·replace h:=kU c8 h;exact goR h
   ·replace h:=kV c8 h;refine goS ?_;refine jP (kD q (by omega)) ?_;exact⟨(q+1),h,by omega,⟨rfl,⟨⟨rfl,rfl⟩,⟨rfl,a2_lt _⟩,⟨rfl,rfl⟩,⟨rfl,rfl⟩,⟨rfl,rfl⟩,trivial⟩,⟨_,rfl⟩,rfl⟩⟩
  ·have f:=vS c4;rw [jK f,jM.eq_1] at h;refine goX ?_;refine jF ?_;cases h;exact uM
def gCn(f:gM)(a1:gD):Option (jD × Bool):=
bnd ((cnd (!(gH3 a1.package 0 (IntKind.i64.wrap ((f.packages.length:Int) - 1)))) ((some true)) (bnd (at? f.packages a1.package) fun h=>
(some (!(gH3 a1.at_ 0 (IntKind.i64.wrap ((h.instances.length:Int) - 1)))))))) fun q=>
(cnd q (
(some ((jD.mk [] [] (gB.mk 0 [] []) [] false false (gB.mk 0 [] []) []),false))) (
bnd (at? f.packages a1.package) fun y=>
bnd (at? y.instances a1.at_) fun x6=>
(some (x6,true))))
theorem gXu(a0:gM)(a1:gD){r:jD × Bool}(h:gCn a0 a1=some r):jI Tryz.prog 23 [.d (mD a0),.d (qO a1)] [gBq r.1,.b r.2]:=by
 obtain⟨f⟩:=a0;obtain⟨q,y⟩:=a1;unfold gCn at h;refine SpI Tryz.func23 fun A _=>?_;refine gIb ?_;obtain⟨b1,hb1,h⟩:=gJ h;refine wG (P:=Tryz.prog) Mix.h ⟨[(2,.ptr 0 0),(3,.ptr 1 0),(4,.ptr 2 0),(28,.B b1)],[bPr f,.box [.I q,.I y],.box [.S [],.nilsl,.I 0,.S [],.nilsl,.nilsl,.B false,.B false,.I 0,.S [],.nilsl,.nilsl]],Tryz.f23.ntmps⟩ (by kernel_rfl) ?_ ?_
 ·refine goL ?_;refine gDi (pV) ?_;refine gDi (gI (gM8 q 0 (IntKind.i64.wrap ((f.length:Int) - 1)))) ?_;refine goL ?_;refine gAl 14 (fun c2=>?_) (fun c2=>?_)
  ·replace hb1:=kU c2 hb1;refine goL ?_;cases hb1;exact eJ
  ·replace hb1:=kV c2 hb1;refine goL ?_;obtain⟨x3,aa,hb1⟩:=gJ hb1;obtain⟨ad,aa⟩:=gBm aa;obtain⟨aq,ar,au,av,ae,aw⟩:=x3;refine gGh (uL ad (gAc aa)) ?_;refine goL ?_;refine gGh (pV) ?_;refine gGh (gI (gM8 y 0 (IntKind.i64.wrap ((ae.length:Int) - 1)))) ?_;refine goL ?_;cases hb1;exact eJ
 refine goC h ?_ ?_<;>intro c4 h
 ·refine goL ?_;refine vP (jN TBd.h TZ.h rfl (by repeat constructor)) ?_;exact goR h
 ·refine noS ?_;refine jS (P:=Tryz.prog) Mix.h [(0,true),(1,true),(2,true),(3,true),(4,true),(5,true),(6,true),(7,true),(8,true),(9,true),(10,true),(11,false),(12,true)] (by kernel_rfl) ?_;refine goY ?_;obtain⟨x5,ab,h⟩:=gJ h;obtain⟨ag,ab⟩:=gBm ab;obtain⟨ax,ay,a3,a4,a5,a6⟩:=x5;refine jW rfl (uL ag (gAc ab)) ?_;refine goY ?_;obtain⟨x6,ac,h⟩:=gJ h;obtain⟨ah,ac⟩:=gBm ac;obtain⟨a7,a8,⟨ai,aj,ak⟩,a9,ba,bb,⟨al,am,an⟩,bc⟩:=x6;refine jW rfl (uL ah (gHj ac)) ?_;refine goY ?_;refine mJ ?_;exact goR h
def uQ(y:gM)(q:jD × Bool):LS→(List gH)→Option (List gH × Int)
 | [],h=>(some (h,0))
 | x9::xs,h=>bnd (gGv y q.1.where_ (gP.mk x9 q.1.head)) fun f=>
(cnd (f.2 != 0) (
(some ([],f.2))) (
gd (h.length+[f.1].length≤4294967296) (
uQ y q xs (h++[f.1]))))
def pJ(f:gM)(a1:gD):Option (List gH × Int):=
bnd (gCn f a1) fun h=>
(cnd (!h.2) (
(some ([],1))) (
lt_ (uJ f h.1.trait) fun q=>
uQ f h q.1.supertraits []))
theorem gLn(a0:gM)(a1:gD){r:List gH × Int}(h:pJ a0 a1=some r):jI Tryz.prog 8 [.d (mD a0),.d (qO a1)] [.sl 5 (jE r.1),.i .i64 r.2]:=by
 obtain⟨ar⟩:=a0;obtain⟨a5,a6⟩:=a1;unfold pJ at h;refine SpI Tryz.func8 fun A _=>?_;refine goL ?_;obtain⟨⟨⟨ag,am,⟨y,aa,ab⟩,an,ao,ap,⟨ac,ad,ae⟩,aq⟩,a7⟩,bb,h⟩:=gJ h;refine jP (gI (gXu _ _ bb)) ?_;refine mR (fun c2=>?_) (fun c2=>?_)
 ·replace h:=kU c2 h;refine goL ?_;refine gAu ?_;refine goL ?_;refine gV 3 rfl rfl ?_;refine jF ?_;cases h;exact uM
 ·replace h:=kV c2 h;refine goS ?_;obtain⟨⟨⟨au,ah,av,aw,ax⟩,bi,bj⟩,bd,h⟩:=uK h;have sx3:=gIr (gM.mk ar) ag;rw [bd] at sx3;refine jP (gI (sx3)) ?_;refine gAu ?_;refine goL ?_;refine noB ?_;refine yC 3 1 (fun z7=>?_);refine mG (fun(y6:Nat)(y4:List gH)(v5:Nat)=>⟨[(2,.ptr 0 0),(6,.ptr 2 0),(8,.ptr 3 0),(11,.sl 4 v5),(12,.N y6)],[bPr ar,.box [.I a5,.I a6],bIn ag am y aa ab an ao ap ac ad ae aq,bTr au ah av aw ax,.arr 51 5 v5 (jE y4)],Tryz.f8.ntmps⟩) (fun y6 y4 v5=>uQ (gM.mk ar) ((jD.mk ag am (gB.mk y aa ab) an ao ap (gB.mk ac ad ae) aq),a7) (ah.drop y6) y4=some r) (fun y6 y4 v5=>ah.length - y6) 0 [] 0 eJ h ?_;rintro y6 y4 v5 h;refine goL ?_;refine mR (fun c8=>?_) (fun c8=>?_)
  ·have al:=vR c8;obtain⟨x9,bf,a8⟩:=drop_at al;rw [a8,uQ.eq_2] at h;refine noS ?_;refine kI (jA ?_);refine jS (P:=Tryz.prog) Mix.h [(0,true),(1,true),(2,true),(3,true),(4,true),(5,true),(6,true),(7,true),(8,true),(9,true),(10,true),(11,true),(12,true),(13,true),(14,true),(15,false),(16,false),(17,true)] (by kernel_rfl) ?_;refine goY ?_;refine jW rfl (jR y6 (gO7 bf)) ?_;refine goY ?_;obtain⟨⟨⟨ai,aj,⟨f,q⟩,ak⟩,bg⟩,a9,h⟩:=gJ h;refine jW rfl (gI (gIi _ _ _ a9)) ?_;refine goY ?_;refine mJ ?_;refine goC h ?_ ?_<;>intro bk h
   ·refine goL ?_;refine gAu ?_;refine goL ?_;refine gV 6 rfl rfl ?_;refine jF ?_;cases h;exact uM
   ·refine goS ?_;refine uO (u:=(.st [.i .i64 ai,.i .i64 aj,.st [.i .i64 f,.i .i64 q],.sl 5 (jE ak)])) ?_;obtain⟨bh,h⟩:=pU h;refine gAd bh ?_;refine goL ?_;refine jP (kD y6 (by omega)) ?_;exact⟨(y6+1),(y4++[(gH.mk ai aj (gD.mk f q) ak)]),(v5+1),h,by omega,eJ⟩
  ·have al:=vS c8;rw [jK al,uQ.eq_1] at h;refine goX ?_;refine gV 4 rfl rfl ?_;refine jF ?_;cases h;exact uM
end Go.Proofs.YtfpdlnkkcnmebaaGreat
