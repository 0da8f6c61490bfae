import Derived.Test.YtegahmhnmjnhhaaGreatC2
set_option maxHeartbeats 4000000
set_option linter.unusedVariables false
set_option linter.unusedSimpArgs false
set_option linter.unusedSectionVars false
namespace Go.Proofs.YtegahmhnmjnhhaaGreat
open Go Go.Eng
attribute [local irreducible] V VO VQ VY Quiet QR gY kR Rng mU mW mG
def qZ(a0:gK)(y3:Nat)(x6:gW)(f:(List gQ)→Option (List gQ)):LS→(List gQ)→Option (List gQ)
 | [],c=>(f c)
 | h::xs,c=>bnd (yD a0 x6.trait h) fun y=>
gd (tok x6.type_) (lt_ (idT x6.type_) fun aa=>
gd (c.length+[(gQ.mk (gW.mk h aa) (y3:Int) y.1)].length≤4294967296) (
qZ a0 y3 x6 f xs (c++[(gQ.mk (gW.mk h aa) (y3:Int) y.1)])))
def uP(y:gK):List gW→Nat→(List gQ)→Option (List gQ)
 | [],f,h=>(some h)
 | c::xs,f,h=>gd (tok c.type_) (lt_ (idT c.type_) fun x8=>
gd (h.length+[(gQ.mk (gW.mk c.trait x8) (f:Int) [])].length≤4294967296) (
bnd (gEd y c.trait) fun aa=>
qZ y f c (fun ab=>uP y xs (f+1) ab) aa (h++[(gQ.mk (gW.mk c.trait x8) (f:Int) [])])))
def gFc(c:gK)(a1:List gW):Option (List gQ):=
uP c a1 0 []
theorem gTz(a0:gK)(a1:List gW){r:List gQ}(h:gFc a0 a1=some r):gY Tryz.prog 53 [.d (kT a0),.L 4 (kY a1)] [.sl 6 (gV r)]:=by
 obtain⟨ae⟩:=a0;unfold gFc at h;refine SpI Tryz.func53 fun A _=>?_;refine goL ?_;refine gAp ?_;refine goL ?_;refine noB ?_;refine gB0 13 (fun z4=>?_);refine kS (fun(y3:Nat)(y1:List gQ)(v2:Nat)=>⟨[(2,.ptr 0 0),(5,.sl 1 v2),(13,.L 4 (kY a1)),(14,.I (a1.length:Int)),(15,.N y3)],[bPr ae,.arr 121 6 v2 (gV y1)],Tryz.f53.ntmps⟩) (fun y3 y1 v2=>uP (gK.mk ae) (a1.drop y3) y3 y1=some r) (fun y3 y1 v2=>a1.length - y3) 0 [] 0 eJ h ?_;rintro y3 y1 v2 h;refine goL ?_;refine jY (kX (fun c5=>?_) (fun c5=>?_))
 ·have ah:=uR c5;obtain⟨x6,a9,ax⟩:=drop_at ah;rw [ax,uP.eq_2] at h;obtain⟨ag,⟨c,f,y⟩⟩:=x6;refine noS ?_;refine jY (jA ?_);refine goL ?_;refine qK (jJ y3 (gHt a9)) ?_;refine gId ?_;refine jK (P:=Tryz.prog) Mix.h [(0,true),(1,true),(2,true),(3,true),(4,true),(5,true),(6,true),(7,true),(8,true),(9,false),(10,false),(11,true)] (by kernel_rfl) ?_;refine goY ?_;obtain⟨g7,h⟩:=mY h;obtain⟨⟨aj,ak,al⟩,ba,h⟩:=qA h;have sx8:=(zS (gB.mk c f y) g7).p;rw [ba] at sx8;refine jF rfl (gF (sx8)) ?_;refine goY ?_;refine qE (T:=88) (us:=gV [(gQ.mk (gW.mk ag (gB.mk aj ak al)) (y3:Int) [])]) ?_;obtain⟨g9,h⟩:=mY h;refine pW (T:=88) g9 ?_;refine goY ?_;refine kQ ?_;refine goL ?_;obtain⟨aq,ay,h⟩:=gM h;refine jI (gF (hH4 _ _ ay)) ?_;refine noB ?_;refine gB0 34 (fun bh=>?_);refine kS (fun(ab:Nat)(ac:List gQ)(ai:Nat)=>⟨[(2,.ptr 0 0),(5,.sl 1 ai),(6,.N y3),(7,.ptr 2 0),(13,.L 4 (kY a1)),(14,.I (a1.length:Int)),(15,.N y3),(34,.L 1 (jL aq)),(35,.I (aq.length:Int)),(36,.N ab)],[bPr ae,.arr 121 6 ai (gV ac),bBd ag c f y,.arr 121 6 0 (gV [(gQ.mk (gW.mk ag (gB.mk aj ak al)) (y3:Int) [])])],Tryz.f53.ntmps⟩) (fun ab ac ai=>qZ (gK.mk ae) y3 (gW.mk ag (gB.mk c f y)) (fun ac=>uP (gK.mk ae) (a1.drop (y3+1)) (y3+1) ac) (aq.drop ab) ac=some r) (fun ab ac ai=>aq.length - ab) 0 (y1++[(gQ.mk (gW.mk ag (gB.mk aj ak al)) (y3:Int) [])]) (v2+1) eJ h ?_;rintro ab ac ai h;refine goL ?_;refine jY (kX (fun ar=>?_) (fun ar=>?_))
  ·have ad:=uR ar;obtain⟨a3,a4,au⟩:=drop_at ad;rw [au,qZ.eq_2] at h;refine noS ?_;refine jY (jA ?_);refine goL ?_;refine jI (jJ ab (gQr a4)) ?_;obtain⟨⟨am,bb⟩,a5,h⟩:=gM h;refine jI (gF (gJk _ _ _ a5)) ?_;obtain⟨bc,h⟩:=mY h;obtain⟨⟨an,ao,ap⟩,a6,h⟩:=qA h;have sx19:=(zS (gB.mk c f y) bc).p;rw [a6] at sx19;refine qK (gF (sx19)) ?_;refine gBn (jX TBd.h TZ.h rfl (by repeat constructor)) ?_;refine zZ (jX TBd.h TZ.h rfl (by repeat constructor)) ?_;refine gAo (u:=(.st [.st [.s a3,.st [.i .i64 an,.s ao,.sl 3 (jH ap)]],.i .i64 (y3:Int),.sl 1 (gJo am)])) ?_;obtain⟨bd,h⟩:=mY h;refine gBd bd ?_;refine goL ?_;refine jI (jW ab (by omega)) ?_;exact⟨(ab+1),(ac++[(gQ.mk (gW.mk a3 (gB.mk an ao ap)) (y3:Int) am)]),(ai+1),h,by omega,eJ⟩
  ·have ad:=uS ar;rw [jC ad,qZ.eq_1] at h;refine goX ?_;refine jI (jW y3 (by omega)) ?_;exact⟨(y3+1),ac,ai,h,by omega,eJ⟩
 ·have ah:=uS c5;rw [jC ah,uP.eq_1] at h;refine goX ?_;refine kP 1 rfl rfl ?_;refine jG ?_;cases h;exact qD
def wW(h:gK)(a1:gH)(a2:gB):Option (gB × Bool):=
bnd (gHn h a1) fun c=>
lt_ ((cnd (!c.2) (true) ((!c.1.hasAssoc)))) fun y=>
(cnd y (
(some ((gB.mk 0 [] []),false))) (
bnd (gAj c.1.head a2) fun f=>
(cnd (!f.2) (
(some ((gB.mk 0 [] []),false))) (
gd (bok f.1∧tok c.1.assoc) (lt_ (apT f.1 c.1.assoc) fun x8=>
(some (x8,true)))))))
theorem gT0(a0:gK)(a1:gH)(a2:gB){r:gB × Bool}(h:wW a0 a1 a2=some r):gY Tryz.prog 99 [.d (kT a0),.d (qI a1),.d (jS a2)] [jS r.1,.b r.2]:=by
 obtain⟨ak⟩:=a0;obtain⟨al,am⟩:=a1;obtain⟨an,ao,ap⟩:=a2;unfold wW at h;refine SpI Tryz.func99 fun A _=>?_;refine goL ?_;obtain⟨⟨⟨ad,ae,⟨aa,ab,ac⟩,ag,ah,ai,⟨c,f,y⟩,aj⟩,ay⟩,au,h⟩:=gM h;refine jI (gF (gPm _ _ au)) ?_;obtain⟨b2,hb2,h⟩:=qA h;refine jT ⟨[(5,.ptr 2 0),(6,.ptr 3 0),(8,.ptr 4 0),(24,.B b2)],[bPr ak,.box [.I al,.I am],bTy an ao ap,.box [.I 0,.S [],.nilsl],bIn ad ae aa ab ac ag ah ai c f y aj],Tryz.f99.ntmps⟩ ?_ ?_
 ·exact gqZ 20 hb2
 refine goC h ?_ ?_<;>intro c4 h
 ·refine goL ?_;refine zZ (jX TBd.h TZ.h rfl (by repeat constructor)) ?_;exact goR h
 ·refine goS ?_;obtain⟨⟨aq,a3⟩,av,h⟩:=gM h;refine jI (gF (gN9 _ _ av)) ?_;refine kX (fun c6=>?_) (fun c6=>?_)
  ·replace h:=kD c6 h;refine goL ?_;refine zZ (jX TBd.h TZ.h rfl (by repeat constructor)) ?_;exact goR h
  ·replace h:=kE c6 h;refine goS ?_;obtain⟨g7,h⟩:=mY h;obtain⟨⟨a4,a5,a6⟩,ax,h⟩:=qA h;have sx8:=(gO3 aq (gB.mk c f y) g7).p;rw [ax] at sx8;refine qK (gF (sx8)) ?_;exact goR h
theorem gIl{w:gK}{o:gH}{i:kG}(h:gOw w o=some i):gHn w o=some (i,true):=by
 obtain⟨p,c,f⟩:=gJb h;obtain⟨a1,a2⟩:=gDy c;obtain⟨b1,y⟩:=gDy f;have c1:=(List.getElem?_eq_some_iff.1 a2).1;have c2:=(List.getElem?_eq_some_iff.1 y).1;unfold gHn;rw [decide_eq_false (show ¬o.package < 0 by omega),decide_eq_false (show ¬o.package≥(w.packages.length:Int) by omega),decide_eq_false (show ¬o.at_ < 0 by omega),jO c,jO c,jO f,decide_eq_false (show ¬o.at_≥(p.instances.length:Int) by omega)];rfl
theorem hH8(c:Nat)(k:List gH→Option (List gH)):∀(l:List kG)(f:Nat)(h:List gH),gA6 c k l f h=mX c k l f h
 | [],_,_=>rfl
 | x::l,f,h=>by rw [gA6,mX,hH8 c k l]
theorem hH9:∀(l:List kH)(c:Nat)(f:List gH),zG l c f=pI l c f
 | [],_,_=>rfl
 | x::l,c,f=>by
   rw [zG,pI,hH8];congr 1;funext y;exact hH9 l (c+1) y
structure gZp (w:gK):Prop where
 len:∃l,gAi w=some l∧l.length≤4000
 tr:(gCx w addN).1.auto=false
 sh:gEd w [115,104,111,119]=some []
 od:gEd w [111,114,100]=some [[101,113]]
 ad:gEd w addN=some []
 pa:yD w [111,114,100] [101,113]=some ([0],true)
def hIa(w:gK)(t:gB)(o:gH):Bool:=match gOw w o with
 | some i=> !(i.trait==addN) || !(mtT i.head t []).isSome
 | none=>true
theorem gJ8{p t:gB}{r:Option (List gG)}(hp:tnd p≤40000)(ht:tok t)(h:mtT p t []=r):match r with | some l=>gAj p t=some (l,true) | none=>∃l,gAj p t=some (l,false):=by
 obtain⟨q,f,c⟩:=gUh p t hp ht;rw [h] at c;cases r with
 | some l=>
   have c:q=(true,l):=c;subst c;exact f
 | none=>
   have c:q.1=false:=c;exact⟨q.2,by rw [f,c]⟩
theorem gUj{w:gK}{t:gB}{l:List gH}(h:gU0 w l):l.filter (fun o=> !hIa w t o)=[]:=by
 rw [List.filter_eq_nil_iff];intro o ho;obtain⟨i,c,f⟩:=h o ho;unfold hIa;rw [c];simp only [f,Bool.not_false,Bool.true_or,Bool.not_true];decide
theorem hN2{w:gK}{k:Int}(hw:gO8 w k)(hi:gZp w)(t:gB)(ht:tok t):gSb w ⟨addN,t⟩=some (gU1 k t):=by
 obtain⟨pre,post,c,f,h⟩:=hw.refs;obtain⟨a,ha,ha1,ha2,_⟩:=hw.i1;obtain⟨b,hb,hb1,hb2,_⟩:=hw.i2;obtain⟨l,y,l2⟩:=hi.len;have hl:l=pre++(⟨0,k⟩::⟨0,k+1⟩::post):=Option.some.inj (y.symm.trans c);subst hl;have hd:∀o∈pre++(⟨0,k⟩::⟨0,k+1⟩::post),gEx o w ⟨addN,t⟩=some (hIa w t o):=by
  intro o ho;have off:∀{m:List gH},gU0 w m→o∈m→gEx o w ⟨addN,t⟩=some (hIa w t o):=by
   intro m hm hmo;obtain⟨i,i1,i2⟩:=hm o hmo;unfold gEx hIa;rw [jO (gIl i1),i1];simp only [i2,Bool.not_false,gT,Bool.true_or,bnd]
  have on:∀{i:kG},gOw w o=some i→i.trait=addN→tnd i.head≤40000→gEx o w ⟨addN,t⟩=some (hIa w t o):=by
   intro i i1 i2 i3;unfold gEx hIa;rw [jO (gIl i1),i1];simp only [i2,beq_self_eq_true,Bool.not_true,gI,Bool.false_or];rw [gNf i.head t i3 ht];rfl
  simp only [List.mem_append,List.mem_cons] at ho;rcases ho with ho | rfl | rfl | ho
  ·exact off f ho
  ·exact on ha ha1 (by rw [ha2];decide)
  ·exact on hb hb1 (by rw [hb2];decide)
  ·exact off h ho
 unfold gSb;have hA:gJj w=some (pre++(⟨0,k⟩::⟨0,k+1⟩::post)):=by
  unfold gJj;rw [hH9];exact c
 rw [jO hA,hVg _ l2 hd];simp only [bnd,Option.some.injEq];have e1:hIa w t ⟨0,k⟩= !isI t:=by
  unfold hIa;rw [ha];simp only [ha1,ha2,gQj,beq_self_eq_true,Bool.not_true,Bool.false_or];cases isI t<;>rfl
 have e2:hIa w t ⟨0,k+1⟩= !gUz t:=by
  unfold hIa;rw [hb];simp only [hb1,hb2,gQk,beq_self_eq_true,Bool.not_true,Bool.false_or];cases gUz t<;>rfl
 rw [List.filter_append,gUj f,List.nil_append,List.filter_cons,List.filter_cons,gUj h,e1,e2];unfold gU1;cases hI:isI t with
 | true=>rw [hEf hI];rfl
 | false=>cases gUz t<;>rfl
theorem hCl{w:gK}{o:gH}{i:kG}(h:gOw w o=some i)(hm:gDs i.head i.head=some true)(hd:i.default_=false):gB7 w [o] [o]=some (o,0):=by
 have hs:gNg o w i=some false:=by
  unfold gNg gOa;rw [jO (gIl h)];simp only [hm,bnd,gT,Bool.not_true]
 have hc:gB6 [o] (fun z=>gNg z w i)=some false:=by
  unfold gB6 gDt;simp only [uU,hs,bnd,gI];rfl
 rw [gB7,jO (gIl h),jO hc];simp only [hd,gI,bnd]
theorem hSu{w:gK}{k:Int}(hw:gO8 w k)(hi:gZp w)(t:gB)(ht:tok t):gHo w ⟨addN,t⟩=some (hF4 k t):=by
 obtain⟨a,ha,ha1,ha2,_,ha5,_⟩:=hw.i1;obtain⟨b,hb,hb1,hb2,_,hb5,_⟩:=hw.i2;unfold gHo;rw [jO (hN2 hw hi t ht)];unfold gU1 hF4;cases isI t with
 | true=>simp only [gT];exact hCl ha (by rw [ha2,gNf yP yP (by decide) (gIb _ _),gQj];rfl) ha5
 | false=>
   simp only [gI];cases gUz t with
   | true=>simp only [gT];exact hCl hb (by rw [hb2,gNf gC8 gC8 (by decide) hEg,gQk];rfl) hb5
   | false=>rfl
theorem gXt{w:gK}{k:Int}(hw:gO8 w k){t:gB}{o:gH}(h:(isI t=true∧o=⟨0,k⟩)∨(gUz t=true∧o=⟨0,k+1⟩))(ht:tok t):(isI t=true∧wW w o t=some (yP,true))∨(∃u,t=gGe u∧wW w o t=some (gGe (gF3 u),true)):=by
 obtain⟨a,ha,_,ha2,_,_,ha6,ha7,_⟩:=hw.i1;obtain⟨b,hb,_,hb2,_,_,hb6,hb7,_⟩:=hw.i2;rcases h with ⟨f,y⟩ | ⟨f,y⟩
 ·left;refine⟨f,?_⟩
  rw [y];unfold wW;rw [jO (gIl ha)];have hm:mtT yP t []=some []:=by rw [gQj,f];rfl
  have:=gJ8 (by decide) ht hm
  simp only [lt_,Bool.not_true,gI,ha6];rw [ha2,jO this];simp only [ha7,Bool.not_true,gI];rw [mI ⟨fun c hc=>by simp at hc,gIb _ _⟩];rfl
 ·right;obtain⟨u,rfl⟩:=gRg f
  refine⟨u,rfl,?_⟩;rw [y];unfold wW;rw [jO (gIl hb)];have hm:mtT gC8 (gGe u) []=some [⟨[97],u⟩]:=by rw [gQk,f];rfl
  have:=gJ8 (by decide) ht hm
  simp only [lt_,Bool.not_true,gI,hb6];rw [hb2,jO this];simp only [hb7,Bool.not_true,gI];rw [mI ⟨fun c hc=>by simp only [List.mem_singleton] at hc;subst hc;exact hMz _ ht u (by simp [gGe]),by simp [gGe,gF3,tok,gU3]⟩];rfl
theorem hCm(g:gW):∀(l:List gQ)(y:Nat),yH (fun z=>some (gJ7 z g)) l y=some (mZ g l y)
 | [],_=>rfl
 | a::l,y=>by
   simp only [yH,mZ,bnd]
   have:gJ7 a g=wU a.goal g:=rfl
   rw [this];cases wU a.goal g with
   | true=>rfl
   | false=>exact hCm g l (y+1)
theorem gVx(l:List gQ)(g:gW):gOb l g=some (jZ l g):=by
 unfold gOb gIk;rw [hCm];rfl
theorem hFj(steps:List Int)(k n a b:Int)(l:List gN):∃e,gBl steps k n a b l=some e∧(e.kind=k∨e.kind=3):=by
 induction steps generalizing k n a b l with
 | nil=>exact⟨_,rfl,.inl rfl⟩
 | cons x steps ih=>
   obtain⟨e,c,f⟩:=ih 3 x 0 0 [⟨k,n,⟨a,b⟩,l⟩];exact⟨e,c,.inr (by rcases f with h | h<;>exact h)⟩
theorem hSv(k n:Int)(steps:List Int):∃e,gEy ⟨k,n,⟨0,0⟩,[]⟩ steps=some e∧(e.kind=k∨e.kind=3):=by
 have hc:gHp 5000 ⟨k,n,⟨0,0⟩,[]⟩=some ⟨k,n,⟨0,0⟩,[]⟩:=by
  rw [show (5000:Nat)=4998+1+1 from rfl,gHp];unfold gOd;rw [gMf];unfold gMe;rw [mI (by simp)];rfl
 unfold gEy;rw [jO hc];exact hFj steps k n 0 0 []
theorem jAv(b:Bool)(rest:List kH):(gCx ⟨pC b::rest⟩ addN).1.auto=false:=by cases b<;>kernel_rfl
theorem jAw(b:Bool)(rest:List kH):gEd ⟨pC b::rest⟩ [115,104,111,119]=some []:=by cases b<;>kernel_rfl
theorem jAx(b:Bool)(rest:List kH):gEd ⟨pC b::rest⟩ [111,114,100]=some [[101,113]]:=by cases b<;>kernel_rfl
theorem jAy(b:Bool)(rest:List kH):gEd ⟨pC b::rest⟩ addN=some []:=by cases b<;>kernel_rfl
theorem jAz(b:Bool)(rest:List kH):yD ⟨pC b::rest⟩ [111,114,100] [101,113]=some ([0],true):=by cases b<;>kernel_rfl
theorem hCn(n:Nat):∀(l:List kG)(k:Nat),(hHq n l k).length=l.length
 | [],_=>rfl
 | _::l,k=>by simp [hHq,hCn n l (k+1)]
theorem hP4(b:Bool)(rest:List kH)(h:rest=[]∨∃q,rest=[q]∧hUb q=true∧q.instances.length≤100):gZp ⟨pC b::rest⟩:=by
 refine⟨?_,jAv b rest,jAw b rest,jAx b rest,jAy b rest,jAz b rest⟩;have hp:(hPy b).length≤8:=by cases b<;>decide
 rcases h with rfl | ⟨q,rfl,_,hq⟩
 ·exact⟨hPy b++[⟨0,kC b⟩,⟨0,kC b+1⟩],by rw [hCi];rfl,by simp;omega⟩
 ·refine⟨hPy b++[⟨0,kC b⟩,⟨0,kC b+1⟩]++hHq 1 q.instances 0,?_,by simp [hCn];omega⟩;rw [hCi];show mX 1 _ q.instances 0 _=_;rw [hHr 1 _ q.instances 0 _ (by simp;omega)];simp [pI]
def Slv(r:LB→Nat)(l:List gG):Prop:=∀v,(lkp v l).2=true→hg r (lkp v l).1=r v
mutual
theorem hSx{E:Nat}{r:LB→Nat}{l:List gG}(hl:Slv r l):∀(t:gB),HS E r t→hg r (apT l t)=hg r t
 | ⟨k,n,ts⟩,h=>by
   have ih:=hP5 hl ts h.2;simp only [apT];by_cases hk:k=1
   ·subst hk;have hts:ts=[]:=by
     rcases h.1 with c | c
     ·exact c.2
     ·exact absurd rfl c.1
    subst hts;cases hb:(lkp n l).2 with
    | true=>
      simp only [beq_self_eq_true,gT];rw [hl n hb];simp [hg,hgs]
    | false=>
      simp only [beq_self_eq_true,gT,gI];rfl
   ·rw [beq_false_of_ne hk,gI];simp only [hg,if_neg hk,ih]
theorem hP5{E:Nat}{r:LB→Nat}{l:List gG}(hl:Slv r l):∀(ts:List gB),gRh (fun y=>(y.kind=1∧y.args=[])∨(y.kind≠1∧Gd E r (hg r y))) ts→hgs r (gK4 l ts)=hgs r ts
 | [],_=>rfl
 | a::ts,h=>by
   simp only [gK4,hgs];rw [hSx hl a h.1,hP5 hl ts h.2]
end
mutual
theorem hVh{E:Nat}{r:LB→Nat}{l:List gG}(hl:Slv r l)(hb:∀v,(lkp v l).2=true→HS E r (lkp v l).1):∀(t:gB),HS E r t→HS E r (apT l t)
 | ⟨k,n,ts⟩,h=>by
   have ih:=hP6 hl hb ts h.2;have e:=hSx hl ⟨k,n,ts⟩ h;simp only [apT] at e ⊢;by_cases hk:k=1
   ·subst hk;have hts:ts=[]:=by
     rcases h.1 with c | c
     ·exact c.2
     ·exact absurd rfl c.1
    subst hts;cases hv:(lkp n l).2 with
    | true=>
      simp only [beq_self_eq_true,gT];exact hb n hv
    | false=>
      simp only [beq_self_eq_true,gT,gI];exact⟨.inl ⟨rfl,rfl⟩,trivial⟩
   ·rw [beq_false_of_ne hk,gI] at e ⊢;refine⟨.inr ⟨hk,?_⟩,ih⟩;rcases h.1 with c | c
    ·exact absurd c.1 hk
    ·rw [e];exact c.2
theorem hP6{E:Nat}{r:LB→Nat}{l:List gG}(hl:Slv r l)(hb:∀v,(lkp v l).2=true→HS E r (lkp v l).1):∀(ts:List gB),gRh (fun y=>(y.kind=1∧y.args=[])∨(y.kind≠1∧Gd E r (hg r y))) ts→gRh (fun y=>(y.kind=1∧y.args=[])∨(y.kind≠1∧Gd E r (hg r y))) (gK4 l ts)
 | [],_=>trivial
 | a::ts,h=>⟨hVh hl hb a h.1,hP6 hl hb ts h.2⟩
end
theorem hN3{E:Nat}{r:LB→Nat}{l:List gG}(hl:Slv r l)(hb:∀v,(lkp v l).2=true→HS E r (lkp v l).1):∀(n:Nat)(t:gB),HS E r t→HS E r (zk l n t)∧hg r (zk l n t)=hg r t
 | 0,t,h=>⟨h,rfl⟩
 | n+1,t,h=>by
   rw [zk];cases zbd l t && decide (tsz t < 4000)with
   | false=>exact⟨h,rfl⟩
   | true=>
     rw [gT];obtain⟨c,f⟩:=hN3 hl hb n _ (hVh hl hb t h);exact⟨c,by rw [f,hSx hl t h]⟩
def slv:List gG→LB→Nat
 | [],_=>0
 | b::l,v=>if b.var_=v then hg (slv l) b.type_ else slv l v
mutual
theorem gVy{r r':LB→Nat}:∀(t:gB),(∀v∈tvs t,r v=r' v)→hg r t=hg r' t
 | ⟨k,n,ts⟩,h=>by
   simp only [hg];rw [gXu ts (fun v hv=>h v (by simp [tvs,hv]))];by_cases hk:k=1
   ·rw [if_pos hk,if_pos hk,h n (by simp [tvs,hk])]
   ·rw [if_neg hk,if_neg hk]
theorem gXu{r r':LB→Nat}:∀(ts:List gB),(∀v∈gGc ts,r v=r' v)→hgs r ts=hgs r' ts
 | [],_=>rfl
 | a::ts,h=>by
   simp only [hgs];rw [gVy a (fun v hv=>h v (by simp [gGc,hv])),gXu ts (fun v hv=>h v (by simp [gGc,hv]))]
end
theorem gQ4{b:gG}{l:List gG}(h:Tri (b::l)):b.var_∉tvs b.type_∧(∀c∈l,c.var_≠b.var_∧b.var_∉tvs c.type_)∧Tri l:=by
 refine⟨fun hv=>(h 0 b rfl).2 _ hv (by simp [dom]),fun c hc=>?_,fun i c hc=>?_⟩
 ·obtain⟨i,hi⟩:=List.mem_iff_getElem?.1 hc
  have:=h (i+1) c (by simpa using hi)
  refine⟨fun e=>this.1 (by rw [e];simp [dom]),fun hv=>this.2 _ hv (by simp [dom])⟩
 ·have:=h (i+1) c (by simpa using hc)
  refine⟨fun hd=>this.1 (by simp only [List.take_succ_cons,dom,List.map_cons,List.mem_cons];exact .inr hd),fun v hv hd=>this.2 v hv (by simp only [List.take_succ_cons,dom,List.map_cons,List.mem_cons];exact .inr hd)⟩
theorem gZ5:∀{l:List gG}{v:LB},v∉dom l→slv l v=0
 | [],v,_=>rfl
 | b::l,v,h=>by
   simp only [dom,List.map_cons,List.mem_cons,not_or] at h;rw [slv,if_neg (fun e=>h.1 e.symm)];exact gZ5 h.2
theorem hIb:∀{l:List gG},Tri l→Slv (slv l) l
 | [],_,v,hv=>by cases hv
 | b::l,h,v,hv=>by
   obtain⟨f,y,h3⟩:=gQ4 h;simp only [lkp] at hv ⊢;by_cases e:b.var_=v
   ·subst e;simp only [beq_self_eq_true,gT];rw [slv,if_pos rfl];exact gVy _ (fun u hu=>by rw [slv,if_neg (fun e=>f (by rw [e];exact hu))])
   ·rw [beq_false_of_ne e,gI] at hv ⊢;rw [slv,if_neg e,←hIb h3 v hv];obtain⟨c,hc,_,hc3⟩:=gL6 hv;rw [hc3];exact gVy _ (fun u hu=>by rw [slv,if_neg (fun e=>(y c hc).2 (by rw [e];exact hu))])
theorem gSh{v:LB}:∀{l l':List gG},(lkp v l).2=true→lkp v (l++l')=lkp v l
 | [],_,h=>by cases h
 | b::l,l',h=>by
   simp only [List.cons_append,lkp] at h ⊢;cases hb:b.var_==v with
   | true=>rfl
   | false=>
     rw [hb] at h;exact gSh (l:=l) h
theorem Slv.pre{r:LB→Nat}{l l':List gG}(h:Slv r (l++l')):Slv r l:=fun v hv=>by
 have:=h v (by rw [gSh hv];exact hv)
 rwa [gSh hv] at this
theorem hCo{E:Nat}{r:LB→Nat}{l0:List gG}(hr:∀v,v∉dom l0→r v=0):∀(l p:List gG),l0=p++l→Tri l→(∀b∈l,HS E r b.type_∧r b.var_=hg r b.type_∧∀v∈tvs b.type_,v∉dom p)→∀v∈dom l,Gd E r (r v)
 | [],_,_,_,_,v,hv=>by simp [dom] at hv
 | b::l,p,e,ht,h,v,hv=>by
   obtain⟨y,t2,t3⟩:=gQ4 ht
   have ih:=hCo hr l (p++[b]) (by rw [e];simp) t3 (fun c hc=>⟨(h c (by simp [hc])).1,(h c (by simp [hc])).2.1,fun u hu hd=>by
    simp only [dom,List.map_append,List.mem_append,List.map_cons,List.map_nil,List.mem_singleton] at hd;rcases hd with hd | hd
    ·exact(h c (by simp [hc])).2.2 u hu hd
    ·subst hd;exact(t2 c hc).2 hu⟩)
   simp only [dom,List.map_cons,List.mem_cons] at hv;rcases hv with rfl | hv
   ·obtain⟨h1,h2,h3⟩:=h b (by simp);rw [h2];rcases gP6 h1 with ⟨k1,f⟩ | ⟨_,f⟩
    ·have hb:b.type_=⟨1,b.type_.name,[]⟩:=by rw [←k1,←f];exact(gXc _).symm
     have e1:hg r b.type_=r b.type_.name:=by rw [hb];simp [hg,hgs]
     have hm:b.type_.name∈tvs b.type_:=by rw [hb];simp [tvs]
     rw [e1];by_cases hd:b.type_.name∈dom l
     ·exact ih _ hd
     ·left;rw [hr _ (fun hd0=>?_)]
      ·omega
      ·rw [e] at hd0;simp only [dom,List.map_append,List.mem_append,List.map_cons,List.mem_cons] at hd0;rcases hd0 with hd0 | hd0 | hd0
       ·exact h3 _ hm hd0
       ·exact y (by rw [←hd0];exact hm)
       ·exact hd hd0
    ·exact f
   ·exact ih v hv
theorem gOe{α:Type}{p q:α→Bool}{l:List α}(hpq:∀x∈l,p x=true→q x=true){w:α}(hw:w∈l)(c:p w=false)(f:q w=true):l.countP p < l.countP q:=by
 induction l with
 | nil=>simp at hw
 | cons a l ih=>
   have hle:l.countP p≤l.countP q:=List.countP_mono_left (fun x hx=>hpq x (by simp [hx]));rcases List.mem_cons.1 hw with rfl | hw
   ·rw [List.countP_cons_of_neg (by simp [c]),List.countP_cons_of_pos f];omega
   ·have:=ih (fun x hx=>hpq x (by simp [hx])) hw
    have h:=hpq a (by simp);cases hp:p a with
    | true=>rw [List.countP_cons_of_pos hp,List.countP_cons_of_pos (h hp)];omega
    | false=>
      rw [List.countP_cons_of_neg (by simp [hp])];cases hq:q a with
      | true=>rw [List.countP_cons_of_pos hq];omega
      | false=>rw [List.countP_cons_of_neg (by simp [hq])];omega
theorem hIc{E:Nat}(hE:E≤14){r:LB→Nat}{D:LS}(hr:∀v,v∉D→r v=0)(h:∀v∈D,Gd E r (r v)):∀(n:Nat)(v:LB),D.countP (fun u=>decide (r u < r v))≤n→r v≤14+E*n
 | n,v,hn=>by
   have f:=Nat.zero_le (E*n);by_cases hv:v∈D
   ·rcases h v hv with c | ⟨w,c,y⟩
    ·omega
    ·by_cases hw:w∈D
     ·have hlt:=gOe (l:=D) (p:=fun u=>decide (r u < r w)) (q:=fun u=>decide (r u < r v)) (fun x _ hx=>by have:=of_decide_eq_true hx;exact decide_eq_true (by omega)) hw (by simp) (by simpa using c)
      match n,hn with
      | 0,hn=>omega
      | n+1,hn=>
        have:=hIc hE hr h n w (by omega)
        rw [Nat.mul_succ];omega
     ·have:=hr w hw
      omega
   ·rw [hr v hv];omega
theorem hId{E:Nat}(hE:E≤14){l:List gG}(ht:Tri l)(h:∀b∈l,HS E (slv l) b.type_){n:Nat}(hn:l.length≤n+1)(v:LB):slv l v≤14+E*n:=by
 have hr:∀v,v∉dom l→slv l v=0:=fun v hv=>gZ5 hv;have hs:=hIb ht;have hb:∀b∈l,slv l b.var_=hg (slv l) b.type_:=fun b hb=>by
  obtain⟨i,hi⟩:=List.mem_iff_getElem?.1 hb;have hv:(lkp b.var_ l).2=true:=hGo (by unfold dom;exact List.mem_map.2 ⟨b,hb,rfl⟩);obtain⟨j,c,f,y,h3⟩:=hDo hv;rw [←hs _ hv,h3];have hij:i=j:=by
   rcases Nat.lt_trichotomy i j with hlt | heq | hgt
   ·exfalso;refine(ht j c f).1 ?_
    rw [y];unfold dom;have hg:(l.take j)[i]? =some b:=by rw [List.getElem?_take,if_pos hlt];exact hi
    exact List.mem_map.2 ⟨b,List.mem_of_getElem? hg,rfl⟩
   ·exact heq
   ·exfalso;refine(ht i b hi).1 ?_
    rw [←y];unfold dom;have hg:(l.take i)[j]? =some c:=by rw [List.getElem?_take,if_pos hgt];exact f
    exact List.mem_map.2 ⟨c,List.mem_of_getElem? hg,rfl⟩
  subst hij;rw [hi] at f;cases f;rfl
 have hl:=hCo (E:=E) hr l [] rfl ht (fun b hb'=>⟨h b hb',hb b hb',fun v _ hd=>by simp [dom] at hd⟩);refine hIc hE hr hl n v ?_;by_cases hv:v∈dom l
 ·have f:=gOe (l:=dom l) (p:=fun u=>decide (slv l u < slv l v)) (q:=fun _=>true) (fun _ _ _=>rfl) hv (by simp) rfl;rw [List.countP_true] at f
  have:(dom l).length=l.length:=by simp [dom]
  omega
 ·have:(dom l).countP (fun u=>decide (slv l u < slv l v))=0:=by
   rw [hr v hv];simp
  omega
mutual
def sb(R:LB→gB):gB→gB
 | ⟨k,n,ts⟩=>cnd (k==1) (R n) ⟨k,n,sbs R ts⟩
def sbs(R:LB→gB):List gB→List gB
 | []=>[]
 | a::ts=>sb R a::sbs R ts
end
mutual
theorem hSy:∀(t:gB),n4 t→alS va t
 | ⟨k,n,ts⟩,h=>⟨h.1.2.2,hP7 ts h.2⟩
theorem hP7:∀(ts:List gB),n4s ts→gRh va ts
 | [],_=>trivial
 | a::ts,h=>⟨hSy a h.1,hP7 ts h.2⟩
end
def gXv(R:LB→gB)(l:List gG):Prop:=∀v,(lkp v l).2=true→sb R (lkp v l).1=R v
theorem gXv.pre{R:LB→gB}{l l':List gG}(h:gXv R (l++l')):gXv R l:=fun v hv=>by
 have:=h v (by rw [gSh hv];exact hv)
 rwa [gSh hv] at this
mutual
theorem hN4{R:LB→gB}{l:List gG}(hl:gXv R l):∀(t:gB),sb R (apT l t)=sb R t
 | ⟨k,n,ts⟩=>by
   have ih:=hP8 hl ts;simp only [apT];cases hk:(k==1)with
   | true=>
     rw [gT];cases hb:(lkp n l).2 with
     | true=>rw [gT,hl n hb];simp only [sb,hk,gT]
     | false=>rw [gI];simp only [sb,hk,gT]
   | false=>rw [gI];simp only [sb,hk,gI,ih]
theorem hP8{R:LB→gB}{l:List gG}(hl:gXv R l):∀(ts:List gB),sbs R (gK4 l ts)=sbs R ts
 | []=>rfl
 | a::ts=>by simp only [gK4,sbs,hN4 hl a,hP8 hl ts]
end
theorem hN5{R:LB→gB}{l:List gG}(hl:gXv R l):∀(n:Nat)(t:gB),sb R (zk l n t)=sb R t
 | 0,t=>rfl
 | n+1,t=>by
   rw [zk];cases zbd l t && decide (tsz t < 4000)with
   | false=>rfl
   | true=>rw [gT,hN5 hl n,hN4 hl]
theorem gHr{R:LB→gB}{x:gB}(h:x.kind=1):sb R x=R x.name:=by
 obtain⟨k,n,ts⟩:=x;simp only at h;subst h;simp [sb,cnd]
theorem gUk{R:LB→gB}{x:gB}(h:x.kind≠1):sb R x=⟨x.kind,x.name,sbs R x.args⟩:=by
 obtain⟨k,n,ts⟩:=x;simp only [sb];rw [beq_false_of_ne h,gI]
mutual
theorem gVz{R R':LB→gB}:∀(t:gB),(∀v∈tvs t,R v=R' v)→sb R t=sb R' t
 | ⟨k,n,ts⟩,h=>by
   simp only [sb];rw [gXw ts (fun v hv=>h v (by simp [tvs,hv]))];by_cases hk:k=1
   ·rw [h n (by simp [tvs,hk])]
   ·rw [beq_false_of_ne hk];simp only [gI]
theorem gXw{R R':LB→gB}:∀(ts:List gB),(∀v∈gGc ts,R v=R' v)→sbs R ts=sbs R' ts
 | [],_=>rfl
 | a::ts,h=>by simp only [sbs];rw [gVz a (fun v hv=>h v (by simp [gGc,hv])),gXw ts (fun v hv=>h v (by simp [gGc,hv]))]
end
mutual
theorem hIf{R:LB→gB}:∀(t:gB),alS va t→(∀v∈tvs t,R v=⟨1,v,[]⟩)→sb R t=t
 | ⟨k,n,ts⟩,h,hv=>by
   simp only [sb];by_cases hk:k=1
   ·have hts:ts=[]:=h.1 hk;subst hk;subst hts;rw [beq_self_eq_true,gT,hv n (by simp [tvs])]
   ·rw [beq_false_of_ne hk,gI,hP9 ts h.2 (fun v hw=>hv v (by simp [tvs,hw]))]
theorem hP9{R:LB→gB}:∀(ts:List gB),gRh va ts→(∀v∈gGc ts,R v=⟨1,v,[]⟩)→sbs R ts=ts
 | [],_,_=>rfl
 | a::ts,h,hv=>by simp only [sbs];rw [hIf a h.1 (fun v hw=>hv v (by simp [gGc,hw])),hP9 ts h.2 (fun v hw=>hv v (by simp [gGc,hw]))]
end
def slT:List gG→LB→gB
 | [],v=>⟨1,v,[]⟩
 | b::l,v=>if b.var_=v then sb (slT l) b.type_ else slT l v
theorem gPq:∀{l:List gG}{v:LB},v∉dom l→slT l v=⟨1,v,[]⟩
 | [],v,_=>rfl
 | b::l,v,h=>by
   simp only [dom,List.map_cons,List.mem_cons,not_or] at h;rw [slT,if_neg (fun e=>h.1 e.symm)];exact gPq h.2
theorem hCp:∀{l:List gG},Tri l→gXv (slT l) l
 | [],_,v,hv=>by cases hv
 | b::l,h,v,hv=>by
   obtain⟨f,y,h3⟩:=gQ4 h;simp only [lkp] at hv ⊢;by_cases e:b.var_=v
   ·subst e;simp only [beq_self_eq_true,gT];rw [show slT (b::l) b.var_=sb (slT l) b.type_ from by rw [slT,if_pos rfl]];exact gVz _ (fun u hu=>by rw [slT,if_neg (fun e=>f (by rw [e];exact hu))])
   ·rw [beq_false_of_ne e,gI] at hv ⊢;rw [show slT (b::l) v=slT l v from by rw [slT,if_neg e],←hCp h3 v hv];obtain⟨c,hc,_,hc3⟩:=gL6 hv;rw [hc3];exact gVz _ (fun u hu=>by rw [slT,if_neg (fun e=>(y c hc).2 (by rw [e];exact hu))])
def tw2(y:gB):Prop:=y.args.length≤2
theorem gZ6(R:LB→gB):∀(ts:List gB),(sbs R ts).length=ts.length
 | []=>rfl
 | a::ts=>by simp [sbs,gZ6 R ts]
mutual
theorem hCq{R:LB→gB}(hR:∀v,alS tw2 (R v)):∀(t:gB),n4 t→alS tw2 (sb R t)
 | ⟨k,n,ts⟩,h=>by
   simp only [sb];cases k==1 with
   | true=>exact hR n
   | false=>exact⟨by show(sbs R ts).length≤2;rw [gZ6];exact h.1.2.1,hIg hR ts h.2⟩
theorem hIg{R:LB→gB}(hR:∀v,alS tw2 (R v)):∀(ts:List gB),n4s ts→gRh tw2 (sbs R ts)
 | [],_=>trivial
 | a::ts,h=>⟨hCq hR a h.1,hIg hR ts h.2⟩
end
theorem hIi:∀{l:List gG},(∀b∈l,n4 b.type_)→∀v,alS tw2 (slT l v)
 | [],_,v=>⟨by simp [tw2,slT],trivial⟩
 | b::l,h,v=>by
   have ih:=hIi (l:=l) (fun c hc=>h c (by simp [hc]));rw [slT];split
   ·exact hCq ih _ (h b (by simp))
   ·exact ih v
mutual
def ph:gB→Nat
 | ⟨k,_,ts⟩=>cnd (k==3) 0 (phl ts)
def phl:List gB→Nat
 | []=>0
 | a::ts=>max (1+ph a) (phl ts)
end
mutual
def pz:gB→Nat
 | ⟨k,_,ts⟩=>cnd (k==3) 1 (1+pzs ts)
def pzs:List gB→Nat
 | []=>0
 | a::ts=>pz a+pzs ts
end
theorem hVi:∀(t:gB),1≤pz t
 | ⟨k,_,ts⟩=>by simp only [pz];cases k==3<;>simp only [gT,gI]<;>omega
mutual
theorem hS3:∀(t:gB),alS tw2 t→pz t+1≤2^(ph t+1)
 | ⟨k,n,ts⟩,h=>by
   have ih:=hQa ts h.2;have c:ts.length≤2:=h.1;simp only [pz,ph];cases k==3 with
   | true=>simp only [gT];decide
   | false=>
     simp only [gI];have hp:1≤2^phl ts:=Nat.one_le_pow _ _ (by omega);have h3:ts.length*2^phl ts≤2*2^phl ts:=Nat.mul_le_mul_right _ c;rw [Nat.pow_succ];rcases Nat.lt_or_ge ts.length 1 with f | f
     ·have:ts=[]:=List.eq_nil_of_length_eq_zero (by omega)
      subst this;simp [pzs,phl]
     ·rcases Nat.lt_or_ge ts.length 2 with y | y
      ·have:ts.length=1:=by omega
       rw [this] at ih;omega
      ·omega
theorem hQa:∀(ts:List gB),gRh tw2 ts→pzs ts+ts.length≤ts.length*2^phl ts
 | [],_=>by simp [pzs]
 | a::ts,h=>by
   have h1:=hS3 a h.1;have c:=hQa ts h.2;have e1:2^(ph a+1)≤2^max (1+ph a) (phl ts):=Nat.pow_le_pow_right (by omega) (by omega);have e2:ts.length*2^phl ts≤ts.length*2^max (1+ph a) (phl ts):=Nat.mul_le_mul_left _ (Nat.pow_le_pow_right (by omega) (by omega));simp only [pzs,phl,List.length_cons,Nat.add_mul,Nat.one_mul];omega
end
mutual
theorem hVk{R:LB→gB}:∀(t:gB),alS va t→pz t≤pz (sb R t)
 | ⟨k,n,ts⟩,h=>by
   have ih:=hQb (R:=R) ts h.2;simp only [sb];by_cases hk:k=1
   ·have hts:ts=[]:=h.1 hk;subst hk;subst hts;rw [beq_self_eq_true,gT]
    have:=hVi (R n)
    simpa [pz,pzs,cnd] using this
   ·rw [beq_false_of_ne hk,gI];simp only [pz];cases k==3<;>simp only [gT,gI]<;>omega
theorem hQb{R:LB→gB}:∀(ts:List gB),gRh va ts→pzs ts≤pzs (sbs R ts)
 | [],_=>Nat.le_refl _
 | a::ts,h=>by
   have c:=hVk (R:=R) a h.1;have f:=hQb (R:=R) ts h.2;simp only [sbs,pzs];omega
end
mutual
def hpT:gB→Bool
 | ⟨k,_,ts⟩=>hFk ts || (k==3)
def hFk:List gB→Bool
 | []=>false
 | a::ts=>hpT a || hFk ts
end
mutual
theorem hIk:∀(n:Nat)(t:gB),ed t < n→uL n t=some (hpT t)
 | 0,t,h=>by omega
 | n+1,⟨k,s,ts⟩,h=>by
   simp only [ed] at h;rw [uL];unfold gC9;rw [hIl n ⟨k,s,ts⟩ ts (by omega)];rfl
theorem hIl:∀(n:Nat)(t:gB)(ts:List gB),eds ts≤n→qO (uL n) t ts=some (hFk ts || (t.kind==3))
 | n,t,[],_=>by simp [qO,hFk]
 | n,t,a::ts,h=>by
   simp only [eds] at h;rw [qO,jO (hIk n a (by omega))];simp only [hFk];cases hpT a with
   | true=>rfl
   | false=>rw [gI,hIl n t ts (by omega)];rfl
end
mutual
theorem hVl{r:LB→Nat}:∀(t:gB),ed t≤hg r t
 | ⟨k,n,ts⟩=>by have:=hQc (r:=r) ts;simp only [ed,hg];omega
theorem hQc{r:LB→Nat}:∀(ts:List gB),eds ts≤hgs r ts
 | []=>Nat.le_refl _
 | a::ts=>by have:=hVl (r:=r) a;have:=hQc (r:=r) ts;simp only [eds,hgs];omega
end
theorem gZ7{w:gK}{wh:List gW}{fs:List gQ}(hf:pK w wh=some fs){t:gB}(h:0≤jZ fs ⟨addN,t⟩):∃e,gFh w wh ⟨addN,t⟩=some (e,0)∧e.kind≠1:=by
 unfold gFh;rw [jO hf,show(5000:Nat)=4999+1 from rfl,uI];unfold gCm;rcases find_ok ⟨addN,t⟩ fs 0 with f | ⟨j,y,c,_⟩
 ·have f:jZ fs ⟨addN,t⟩= -1:=f;omega
 ·have c:jZ fs ⟨addN,t⟩=((0+j:Nat):Int):=c;obtain⟨e,q1,q2⟩:=gOx fs[j].steps 2 fs[j].from_ 0 0 [];rw [c,show decide (((0+j:Nat):Int)≥0)=true from decide_eq_true (by omega),gT,zI,Nat.zero_add,List.getElem?_eq_getElem y];simp only [bnd];unfold qP;rw [gKe _ rfl 4998];simp only [bnd,q1];exact⟨e,rfl,fun hk=>by rcases q2 with h | h<;>rw [h] at hk<;>cases hk⟩
theorem hVm{w:gK}{wh:List gW}{d:Int}{m:LB}(n:Nat):mE (n+2) w wh ⟨1,m,[]⟩ d=some (⟨1,m,[]⟩,0):=by
 rw [mE];unfold zQ;rw [gBy];rfl
theorem hS4{w:gK}{wh:List gW}{fs:List gQ}(hf:pK w wh=some fs){m:LB}(hm:isInf m=false)(h:0≤jZ fs ⟨addN,⟨1,m,[]⟩⟩):pY w wh (gF3 ⟨1,m,[]⟩)=some (gF3 ⟨1,m,[]⟩,false,true):=by
 obtain⟨e,c,f⟩:=gZ7 hf h;have hn:mE 100000 w wh (gF3 ⟨1,m,[]⟩) 12=some (gF3 ⟨1,m,[]⟩,0):=by
  rw [show (100000:Nat)=99998+1+1 from rfl,mE];unfold zQ;rw [gBy];have ha:gRf (gBy 99998) (mE 99998) w wh (gF3 ⟨1,m,[]⟩).args 12=some ([⟨1,m,[]⟩],0):=by
   show yO (mE 99998) w wh 12 [⟨1,m,[]⟩] []=_;rw [yO,show(99998:Nat)=99996+2 from rfl,jO (hVm 99996)];rfl
  rw [jO ha];have hb:gFh w wh (gW.mk (gF3 ⟨1,m,[]⟩).name ⟨1,m,[]⟩)=some (e,0):=c;show bnd (gFh w wh (gW.mk (gF3 ⟨1,m,[]⟩).name ⟨1,m,[]⟩)) _=_;rw [jO hb];simp only [bne_self_eq_false,gI];rw [show (e.kind != 1)=true from bne_iff_ne.2 f];rfl
 unfold pY;have hv:gG8 (gF3 ⟨1,m,[]⟩)=false:=by
  unfold gG8;simp [gF3,gVa,gGf,hm]
 simp only [lt_];rw [hv];unfold gAu;show cnd false _ (bnd (bnd (mE 100000 w wh (gF3 ⟨1,m,[]⟩) 12) _) _)=_;have ht:=(gL3 (gF3 ⟨1,m,[]⟩) (gF3 ⟨1,m,[]⟩)).2 rfl;rw [gI,jO hn];simp only [bnd,ht,bne_self_eq_false,gI,Bool.not_true]
def zH(c:kV→gW→Int→Option (gN × Int))(q:kV)(a2:Int)(ab:gH × Int)(y:List gG × Bool):List gW→(List gN)→Option (gN × Int)
 | [],f=>(some ((gN.mk 1 0 ab.1 f),0))
 | aa::xs,f=>gd (bok y.1∧tok aa.type_) (lt_ (apT y.1 aa.type_) fun ac=>
bnd (c q (gW.mk aa.trait ac) (IntKind.i64.wrap (a2+1))) fun h=>
(cnd (h.2 != 0) (
(some ((gN.mk 0 0 (gH.mk 0 0) []),h.2))) (
gd (f.length+[h.1].length≤4294967296) (
zH c q a2 ab y xs (f++[h.1])))))
def uF(c:kV→gW→Int→Option (gN × Int))(q:kV)(a2:Int)(ab:gH × Int)(y:List gG × Bool):List gW→(List gN)→Option (gN × Int)
 | [],f=>(some ((gN.mk 1 0 ab.1 f),0))
 | aa::xs,f=>gd (bok y.1∧tok aa.type_) (lt_ (apT y.1 aa.type_) fun ac=>
bnd (c q (gW.mk aa.trait ac) (IntKind.i64.wrap (a2+1))) fun h=>
(cnd (h.2 != 0) (
(some ((gN.mk 0 0 (gH.mk 0 0) []),h.2))) (
gd (f.length+[h.1].length≤4294967296) (
uF c q a2 ab y xs (f++[h.1])))))
def gAk(c:kV→gW→Int→Option (gN × Int))(q:kV)(a1:gW)(a2:Int):Option (gN × Int):=
bnd (gOb q.assumed a1) fun x1=>
(cnd (decide (x1≥0)) (
bnd (at? q.assumed x1) fun x3=>
bnd (gEy (gN.mk 2 x3.from_ (gH.mk 0 0) []) x3.steps) fun x4=>
(some (x4,0))) (
(cnd (decide (a2≥12)) (
(some ((gN.mk 0 0 (gH.mk 0 0) []),3))) (
lt_ (gCx q.w a1.trait) fun x6=>
lt_ ((cnd x6.2.2 (x6.1.auto) (false))) fun b7=>
(cnd b7 (
none) (
bnd ((cnd (a1.type_.kind==1) (
(some (a1.type_.kind==1))) (
(some (a1.type_.kind==3))))) fun ac=>
(cnd ac (
(some ((gN.mk 0 0 (gH.mk 0 0) []),1))) (
(cnd (a1.type_.kind==4) (
bnd (yD q.w a1.type_.name a1.trait) fun y=>
(cnd y.2 (
bnd (gEy (gN.mk 4 0 (gH.mk 0 0) []) y.1) fun ad=>
(some (ad,0))) (
bnd (gHo q.w a1) fun f=>
(cnd (f.2 != 0) (
(some ((gN.mk 0 0 (gH.mk 0 0) []),f.2))) (
bnd (gHn q.w f.1) fun aa=>
bnd (gAj aa.1.head a1.type_) fun ae=>
zH c q a2 f ae aa.1.where_ []))))) (
bnd (gHo q.w a1) fun h=>
(cnd (h.2 != 0) (
(some ((gN.mk 0 0 (gH.mk 0 0) []),h.2))) (
bnd (gHn q.w h.1) fun ab=>
bnd (gAj ab.1.head a1.type_) fun ag=>
uF c q a2 h ag ab.1.where_ []))))))))))))
theorem gSi{f:kV→gW→Int→Option (gN × Int)}(c:∀(x0:kV)(x1:gW)(x2:Int){r:gN × Int},f x0 x1 x2=some r→Go.Eng.Spec Tryz.prog 98 [.ptr 0 0,.d (zW x1),.I x2] [.box [.L 6 (jQ x0.w.packages),.L 6 (gV x0.assumed)]] (fun sv Lo=>sv=.tup [.d (qB r.1),.I r.2]∧Lo=[.box [.L 6 (jQ x0.w.packages),.L 6 (gV x0.assumed)]]))(q:kV)(a1:gW)(a2:Int){r:gN × Int}(h:gAk f q a1 a2=some r):Go.Eng.Spec Tryz.prog 98 [.ptr 0 0,.d (zW a1),.I a2] [.box [.L 6 (jQ q.w.packages),.L 6 (gV q.assumed)]] (fun sv Lo=>sv=.tup [.d (qB r.1),.I r.2]∧Lo=[.box [.L 6 (jQ q.w.packages),.L 6 (gV q.assumed)]]):=by
 obtain⟨⟨y⟩,au⟩:=q;obtain⟨a5,⟨ar,av,aw⟩⟩:=a1;unfold gAk at h;refine kF 1 Tryz.func98 rfl (by kernel_rfl) rfl rfl fun A _=>?_;refine goL ?_;obtain⟨x1,dx,h⟩:=gM h;refine gFd (gF (hNz _ _ dx)) ?_;refine goC h ?_ ?_<;>intro c2 h
 ·refine goL ?_;obtain⟨x3,ct,h⟩:=gM h;obtain⟨dc,ct⟩:=gDy ct;obtain⟨⟨dv,⟨c7,c8,da⟩⟩,dd,de⟩:=x3;refine jI (qW dc (gHx ct)) ?_;refine gBn (jX TBd.h TZ.h rfl (by repeat constructor)) ?_;obtain⟨⟨df,dg,⟨cr,cs⟩,dh⟩,dy,h⟩:=gM h;refine gE3 (gSe (gN.mk 2 dd (gH.mk 0 0) []) de dy) ?_;refine goL ?_;refine qU 4 rfl rfl ?_;refine jG ?_;obtain rfl:=Option.some.inj h;exact hGd [.d (.st [.i .i64 df,.i .i64 dg,.st [.i .i64 cr,.i .i64 cs],.sl 5 (kN dh)]),.I 0] [.box [.L 6 (jQ y),.L 6 (gV au)]] ⟨rfl,rfl⟩
 ·refine goS ?_;refine kX (fun c5=>?_) (fun c5=>?_)
  ·replace h:=kD c5 h;refine goL ?_;refine gBn (jX TBd.h TZ.h rfl (by repeat constructor)) ?_;refine jG ?_;obtain rfl:=Option.some.inj h;exact yK [.d (.st [.i .i64 0,.i .i64 0,.st [.i .i64 0,.i .i64 0],.sl 5 []]),.I 3] _ ⟨rfl,rfl⟩
  ·replace h:=kE c5 h;refine noS ?_;refine gId ?_;refine jK (P:=Tryz.prog) Mix.h [(0,true),(1,true),(2,true),(3,true),(4,true),(5,true),(6,true),(7,true),(8,true),(9,true),(10,true),(11,false),(12,false),(13,true),(14,true)] (by kernel_rfl) ?_;refine goY ?_;obtain⟨⟨⟨ax,ay,a0,a3,a4⟩,ec,ed⟩,d0,h⟩:=qA h;have sx6:=gVw (gK.mk y) a5;rw [d0] at sx6;refine jF rfl (gF (sx6)) ?_;refine goY ?_;refine kQ ?_;refine goL ?_;obtain⟨b7,hb7,h⟩:=qA h;refine jT ⟨[(0,.ptr 0 0),(2,.I a2),(4,.ptr 1 0),(6,.ptr 2 0),(66,.B b7)],[.box [.L 6 (jQ y),.L 6 (gV au)],bBd a5 ar av aw,.box [.I 0,.I 0,.I 0,.I 0,.nilsl],bTr ax ay a0 a3 a4],Tryz.f98.ntmps⟩ ?_ ?_
   ·exact gqZ 63 hb7
   refine goC h ?_ ?_<;>intro c9 h
   ·cases h
   ·refine goS ?_;refine jA ?_;refine goL ?_;obtain⟨d1,hb10,h⟩:=gM h;refine gE4 ⟨[(0,.ptr 0 0),(2,.I a2),(4,.ptr 1 0),(6,.ptr 2 0),(80,.I ar),(81,.B d1)],[.box [.L 6 (jQ y),.L 6 (gV au)],bBd a5 ar av aw,.box [.I 0,.I 0,.I 0,.I 0,.nilsl],bTr ax ay a0 a3 a4],Tryz.f98.ntmps⟩ ?_ ?_
    ·refine kX (fun cu=>?_) (fun cu=>?_)
     ·replace hb10:=kD cu hb10;refine gAn ?_;cases hb10;exact eJ
     ·replace hb10:=kE cu hb10;refine goL ?_;cases hb10;exact eJ
    refine goC h ?_ ?_<;>intro eg h
    ·refine goL ?_;refine gBn (jX TBd.h TZ.h rfl (by repeat constructor)) ?_;refine jG ?_;obtain rfl:=Option.some.inj h;exact yK [.d (.st [.i .i64 0,.i .i64 0,.st [.i .i64 0,.i .i64 0],.sl 5 []]),.I 1] _ ⟨rfl,rfl⟩
    ·refine goC h ?_ ?_<;>intro eh h
     ·refine goL ?_;obtain⟨⟨cv,d2⟩,di,h⟩:=gM h;refine gFd (gF (gJk _ _ _ di)) ?_;refine goC h ?_ ?_<;>intro ei h
      ·refine goL ?_;refine gBn (jX TBd.h TZ.h rfl (by repeat constructor)) ?_;obtain⟨⟨cw,cx,⟨cl,cm⟩,cy⟩,dj,h⟩:=gM h;refine gE3 (gSe (gN.mk 4 0 (gH.mk 0 0) []) cv dj) ?_;refine goL ?_;refine qU 4 rfl rfl ?_;refine jG ?_;obtain rfl:=Option.some.inj h;exact hGd [.d (.st [.i .i64 cw,.i .i64 cx,.st [.i .i64 cl,.i .i64 cm],.sl 5 (kN cy)]),.I 0] [.box [.L 6 (jQ y),.L 6 (gV au)]] ⟨rfl,rfl⟩
      ·refine noS ?_;refine jK (P:=Tryz.prog) Mix.h [(0,true),(1,true),(2,true),(3,true),(4,true),(5,true),(6,true),(7,true),(8,true),(9,false),(10,false),(11,true)] (by kernel_rfl) ?_;refine goY ?_;obtain⟨⟨⟨ah,ai⟩,cn⟩,dk,h⟩:=gM h;refine jF rfl (gF (gXp _ _ dk)) ?_;refine goY ?_;refine kQ ?_;refine goC h ?_ ?_<;>intro ej h
       ·refine goL ?_;refine gBn (jX TBd.h TZ.h rfl (by repeat constructor)) ?_;refine jG ?_;obtain rfl:=Option.some.inj h;exact yK [.d (.st [.i .i64 0,.i .i64 0,.st [.i .i64 0,.i .i64 0],.sl 5 []]),.I cn] _ ⟨rfl,rfl⟩
       ·refine noS ?_;refine jK (P:=Tryz.prog) Mix.h [(0,true),(1,true),(2,true),(3,true),(4,true),(5,true),(6,true),(7,true),(8,true),(9,false),(10,false),(11,true)] (by kernel_rfl) ?_;refine goY ?_;obtain⟨⟨⟨bv,bw,⟨a6,a7,a8⟩,ae,bx,bz,⟨a9,ba,bb⟩,b0⟩,d3⟩,dl,h⟩:=gM h;refine jF rfl (gF (gPm _ _ dl)) ?_;refine goY ?_;refine kQ ?_;refine goL ?_;obtain⟨⟨bm,cz⟩,dm,h⟩:=gM h;refine jI (gF (gN9 _ _ dm)) ?_;refine gBn (jX TBd.h TZ.h rfl (by repeat constructor)) ?_;refine noB ?_;refine yT 147 5 6 4 rfl rfl (by repeat constructor) (by repeat constructor) (by repeat constructor) (by repeat constructor) ?_;show V _ _ _ _ _;refine gB0 137 (fun ek=>?_);refine kS (fun(bk:Nat)(b1:List gN)(b2:Nat)=>⟨[(0,.ptr 0 0),(2,.I a2),(6,.ptr 2 0),(20,.L 4 (gP bm)),(22,.ptr 6 0),(137,.L 4 (kY ae)),(138,.I (ae.length:Int)),(139,.N bk)],[.box [.L 6 (jQ y),.L 6 (gV au)],bBd a5 ar av aw,.box [.I 0,.I 0,.I 0,.I 0,.nilsl],bTr ax ay a0 a3 a4,.box [.I ah,.I ai],bIn bv bw a6 a7 a8 ae bx bz a9 ba bb b0,.box [.I 1,.I 0,.I ah,.I ai,.sl 7 b2],.arr 147 5 b2 (kN b1)],Tryz.f98.ntmps⟩) (fun bk b1 b2=>zH f (kV.mk (gK.mk y) au) a2 ((gH.mk ah ai),cn) (bm,cz) (ae.drop bk) b1=some r) (fun bk b1 b2=>ae.length - bk) 0 [] 0 eJ h ?_;rintro bk b1 b2 h;refine goL ?_;refine jY (kX (fun c0=>?_) (fun c0=>?_))
        ·have bn:=uR c0;obtain⟨d4,dn,c1⟩:=drop_at bn;rw [c1,zH.eq_2] at h;obtain⟨bo,⟨b3,b4,b5⟩⟩:=d4;refine noS ?_;refine jY (jA ?_);refine goL ?_;refine qK (jJ bk (gHt dn)) ?_;refine gId ?_;obtain⟨d5,h⟩:=mY h;obtain⟨⟨ch,ci,bp⟩,dp,h⟩:=qA h;have sx28:=gO3 bm (gB.mk b3 b4 b5) d5;rw [dp] at sx28;obtain⟨⟨⟨aj,ak,⟨aa,ab⟩,al⟩,bc⟩,co,h⟩:=gM h;refine qJ (P:=Tryz.prog) Mix.h (.q 0 (.q 1 (.q 2 (.q 3 (.q 4 (.q 5 (.q 8 (.q 9 (.h 6 (.q 7 (.h 10 (.q 11 (.q 12 (.q 13 (.h 14 (.h 15 (.q 16 .nil) .nil) .nil)))) (.h 14 (.h 10 (.q 11 (.q 12 (.q 13 (.h 15 (.q 16 .nil) .nil)))) .nil) .nil))) (.h 14 (.h 6 (.q 7 (.h 10 (.q 11 (.q 12 (.q 13 (.h 15 (.q 16 .nil) .nil)))) .nil)) .nil) .nil)))))))))) ⟨[(0,.ptr 0 0),(2,.I a2),(6,.ptr 2 0),(20,.L 4 (gP bm)),(22,.ptr 6 0),(25,.ptr 10 0),(26,.I bc),(137,.L 4 (kY ae)),(138,.I (ae.length:Int)),(139,.N bk)],[.box [.L 6 (jQ y),.L 6 (gV au)],bBd a5 ar av aw,.box [.I 0,.I 0,.I 0,.I 0,.nilsl],bTr ax ay a0 a3 a4,.box [.I ah,.I ai],bIn bv bw a6 a7 a8 ae bx bz a9 ba bb b0,.box [.I 1,.I 0,.I ah,.I ai,.sl 7 b2],.arr 147 5 b2 (kN b1),bBd bo b3 b4 b5,.frz 35 3 0 (jH bp),.box [.I aj,.I ak,.I aa,.I ab,.L 5 (kN al)]],Tryz.f98.ntmps⟩ (by kernel_rfl) ?_ ?_
         ·refine gS2 ?_;refine hFu rfl (pU) ?_;refine uV (gMy (sx28) jU) ?_ ?_
          ·refine gS2 ?_;refine uV (gKa 9 rfl rfl (gBu (sv:=.tup [.d (.st [.i .i64 aj,.i .i64 ak,.st [.i .i64 aa,.i .i64 ab],.sl 5 (kN al)]),.I bc]) [0] (c (kV.mk (gK.mk y) au) (gW.mk bo (gB.mk ch ci bp)) (IntKind.i64.wrap (a2+1)) co) jU)) ?_ ?_
           ·refine gS2 ?_;refine jV ?_;exact qX 1 [0,1,2,3,4,5,6,7,8,9,10]
           refine gS2 ?_;refine jR (gKa 9 rfl rfl (gBu (sv:=.tup [.d (.st [.i .i64 aj,.i .i64 ak,.st [.i .i64 aa,.i .i64 ab],.sl 5 (kN al)]),.I bc]) [0] (c (kV.mk (gK.mk y) au) (gW.mk bo (gB.mk ch ci bp)) (IntKind.i64.wrap (a2+1)) co) jU)) ?_;refine gS2 ?_;refine jV ?_;exact qX 1 [0,1,2,3,4,5,6,7,8,9,10]
          refine gS2 ?_;refine jR (gMy (sx28) jU) ?_;refine gS2 ?_;refine jR (gKa 10 rfl rfl (gBu (sv:=.tup [.d (.st [.i .i64 aj,.i .i64 ak,.st [.i .i64 aa,.i .i64 ab],.sl 5 (kN al)]),.I bc]) [0] (c (kV.mk (gK.mk y) au) (gW.mk bo (gB.mk ch ci bp)) (IntKind.i64.wrap (a2+1)) co) jU)) ?_;refine gS2 ?_;refine jV ?_;exact qX 1 [0,1,2,3,4,5,6,7,8,10,9]
         refine goC h ?_ ?_<;>intro el h
         ·refine goL ?_;refine gBn (jX TBd.h TZ.h rfl (by repeat constructor)) ?_;refine jG ?_;obtain rfl:=Option.some.inj h;exact yK [.d (.st [.i .i64 0,.i .i64 0,.st [.i .i64 0,.i .i64 0],.sl 5 []]),.I bc] _ ⟨rfl,rfl⟩
         ·refine goS ?_;refine gAo (u:=(.st [.i .i64 aj,.i .i64 ak,.st [.i .i64 aa,.i .i64 ab],.sl 5 (kN al)])) ?_;obtain⟨d6,h⟩:=mY h;refine gBd d6 ?_;refine goL ?_;refine jI (jW bk (by omega)) ?_;exact⟨(bk+1),(b1++[(gN.mk aj ak (gH.mk aa ab) al)]),(b2+1),h,by omega,eJ⟩
        ·have bn:=uS c0;rw [jC bn,zH.eq_1] at h;refine goX ?_;refine kP 7 rfl rfl ?_;refine jG ?_;obtain rfl:=Option.some.inj h;exact hGd [.d (.st [.i .i64 1,.i .i64 0,.st [.i .i64 ah,.i .i64 ai],.sl 5 (kN b1)]),.I 0] [.box [.L 6 (jQ y),.L 6 (gV au)]] ⟨rfl,rfl⟩
     ·refine noS ?_;refine jK (P:=Tryz.prog) Mix.h [(0,true),(1,true),(2,true),(3,true),(4,true),(5,true),(6,true),(7,true),(8,true),(9,false),(10,false),(11,true)] (by kernel_rfl) ?_;refine goY ?_;obtain⟨⟨⟨am,an⟩,cp⟩,dq,h⟩:=gM h;refine jF rfl (gF (gXp _ _ dq)) ?_;refine goY ?_;refine kQ ?_;refine goC h ?_ ?_<;>intro em h
      ·refine goL ?_;refine gBn (jX TBd.h TZ.h rfl (by repeat constructor)) ?_;refine jG ?_;obtain rfl:=Option.some.inj h;exact yK [.d (.st [.i .i64 0,.i .i64 0,.st [.i .i64 0,.i .i64 0],.sl 5 []]),.I cp] _ ⟨rfl,rfl⟩
      ·refine noS ?_;refine jK (P:=Tryz.prog) Mix.h [(0,true),(1,true),(2,true),(3,true),(4,true),(5,true),(6,true),(7,true),(8,true),(9,false),(10,false),(11,true)] (by kernel_rfl) ?_;refine goY ?_;obtain⟨⟨⟨b6,b8,⟨bd,be,bf⟩,ag,b9,ca,⟨bg,bh,bi⟩,cb⟩,d7⟩,dr,h⟩:=gM h;refine jF rfl (gF (gPm _ _ dr)) ?_;refine goY ?_;refine kQ ?_;refine goL ?_;obtain⟨⟨bq,c3⟩,ds,h⟩:=gM h;refine jI (gF (gN9 _ _ ds)) ?_;refine gBn (jX TBd.h TZ.h rfl (by repeat constructor)) ?_;refine noB ?_;refine yT 147 5 6 4 rfl rfl (by repeat constructor) (by repeat constructor) (by repeat constructor) (by repeat constructor) ?_;show V _ _ _ _ _;refine gB0 137 (fun en=>?_);refine kS (fun(bl:Nat)(cc:List gN)(cd:Nat)=>⟨[(0,.ptr 0 0),(2,.I a2),(6,.ptr 2 0),(20,.L 4 (gP bq)),(22,.ptr 6 0),(137,.L 4 (kY ag)),(138,.I (ag.length:Int)),(139,.N bl)],[.box [.L 6 (jQ y),.L 6 (gV au)],bBd a5 ar av aw,.box [.I 0,.I 0,.I 0,.I 0,.nilsl],bTr ax ay a0 a3 a4,.box [.I am,.I an],bIn b6 b8 bd be bf ag b9 ca bg bh bi cb,.box [.I 1,.I 0,.I am,.I an,.sl 7 cd],.arr 147 5 cd (kN cc)],Tryz.f98.ntmps⟩) (fun bl cc cd=>uF f (kV.mk (gK.mk y) au) a2 ((gH.mk am an),cp) (bq,c3) (ag.drop bl) cc=some r) (fun bl cc cd=>ag.length - bl) 0 [] 0 eJ h ?_;rintro bl cc cd h;refine goL ?_;refine jY (kX (fun c4=>?_) (fun c4=>?_))
       ·have br:=uR c4;obtain⟨d8,dt,c6⟩:=drop_at br;rw [c6,uF.eq_2] at h;obtain⟨bt,⟨ce,cf,cg⟩⟩:=d8;refine noS ?_;refine jY (jA ?_);refine goL ?_;refine qK (jJ bl (gHt dt)) ?_;refine gId ?_;obtain⟨d9,h⟩:=mY h;obtain⟨⟨cj,ck,bu⟩,du,h⟩:=qA h;have sx43:=gO3 bq (gB.mk ce cf cg) d9;rw [du] at sx43;obtain⟨⟨⟨ao,ap,⟨ac,ad⟩,aq⟩,bj⟩,cq,h⟩:=gM h;refine qJ (P:=Tryz.prog) Mix.h (.q 0 (.q 1 (.q 2 (.q 3 (.q 4 (.q 5 (.q 8 (.q 9 (.h 6 (.q 7 (.h 10 (.q 11 (.q 12 (.q 13 (.h 14 (.h 15 (.q 16 .nil) .nil) .nil)))) (.h 14 (.h 10 (.q 11 (.q 12 (.q 13 (.h 15 (.q 16 .nil) .nil)))) .nil) .nil))) (.h 14 (.h 6 (.q 7 (.h 10 (.q 11 (.q 12 (.q 13 (.h 15 (.q 16 .nil) .nil)))) .nil)) .nil) .nil)))))))))) ⟨[(0,.ptr 0 0),(2,.I a2),(6,.ptr 2 0),(20,.L 4 (gP bq)),(22,.ptr 6 0),(25,.ptr 10 0),(26,.I bj),(137,.L 4 (kY ag)),(138,.I (ag.length:Int)),(139,.N bl)],[.box [.L 6 (jQ y),.L 6 (gV au)],bBd a5 ar av aw,.box [.I 0,.I 0,.I 0,.I 0,.nilsl],bTr ax ay a0 a3 a4,.box [.I am,.I an],bIn b6 b8 bd be bf ag b9 ca bg bh bi cb,.box [.I 1,.I 0,.I am,.I an,.sl 7 cd],.arr 147 5 cd (kN cc),bBd bt ce cf cg,.frz 35 3 0 (jH bu),.box [.I ao,.I ap,.I ac,.I ad,.L 5 (kN aq)]],Tryz.f98.ntmps⟩ (by kernel_rfl) ?_ ?_
        ·refine gS2 ?_;refine hFu rfl (pU) ?_;refine uV (gMy (sx43) jU) ?_ ?_
         ·refine gS2 ?_;refine uV (gKa 9 rfl rfl (gBu (sv:=.tup [.d (.st [.i .i64 ao,.i .i64 ap,.st [.i .i64 ac,.i .i64 ad],.sl 5 (kN aq)]),.I bj]) [0] (c (kV.mk (gK.mk y) au) (gW.mk bt (gB.mk cj ck bu)) (IntKind.i64.wrap (a2+1)) cq) jU)) ?_ ?_
          ·refine gS2 ?_;refine jV ?_;exact qX 1 [0,1,2,3,4,5,6,7,8,9,10]
          refine gS2 ?_;refine jR (gKa 9 rfl rfl (gBu (sv:=.tup [.d (.st [.i .i64 ao,.i .i64 ap,.st [.i .i64 ac,.i .i64 ad],.sl 5 (kN aq)]),.I bj]) [0] (c (kV.mk (gK.mk y) au) (gW.mk bt (gB.mk cj ck bu)) (IntKind.i64.wrap (a2+1)) cq) jU)) ?_;refine gS2 ?_;refine jV ?_;exact qX 1 [0,1,2,3,4,5,6,7,8,9,10]
         refine gS2 ?_;refine jR (gMy (sx43) jU) ?_;refine gS2 ?_;refine jR (gKa 10 rfl rfl (gBu (sv:=.tup [.d (.st [.i .i64 ao,.i .i64 ap,.st [.i .i64 ac,.i .i64 ad],.sl 5 (kN aq)]),.I bj]) [0] (c (kV.mk (gK.mk y) au) (gW.mk bt (gB.mk cj ck bu)) (IntKind.i64.wrap (a2+1)) cq) jU)) ?_;refine gS2 ?_;refine jV ?_;exact qX 1 [0,1,2,3,4,5,6,7,8,10,9]
        refine goC h ?_ ?_<;>intro eo h
        ·refine goL ?_;refine gBn (jX TBd.h TZ.h rfl (by repeat constructor)) ?_;refine jG ?_;obtain rfl:=Option.some.inj h;exact yK [.d (.st [.i .i64 0,.i .i64 0,.st [.i .i64 0,.i .i64 0],.sl 5 []]),.I bj] _ ⟨rfl,rfl⟩
        ·refine goS ?_;refine gAo (u:=(.st [.i .i64 ao,.i .i64 ap,.st [.i .i64 ac,.i .i64 ad],.sl 5 (kN aq)])) ?_;obtain⟨ea,h⟩:=mY h;refine gBd ea ?_;refine goL ?_;refine jI (jW bl (by omega)) ?_;exact⟨(bl+1),(cc++[(gN.mk ao ap (gH.mk ac ad) aq)]),(cd+1),h,by omega,eJ⟩
       ·have br:=uS c4;rw [jC br,uF.eq_1] at h;refine goX ?_;refine kP 7 rfl rfl ?_;refine jG ?_;obtain rfl:=Option.some.inj h;exact hGd [.d (.st [.i .i64 1,.i .i64 0,.st [.i .i64 am,.i .i64 an],.sl 5 (kN cc)]),.I 0] [.box [.L 6 (jQ y),.L 6 (gV au)]] ⟨rfl,rfl⟩
def qQ:Nat→kV→gW→Int→Option (gN × Int)
 | 0,_,_,_=>none
 | n+1,c,f,h=>gAk (qQ n) c f h
theorem gLk:∀(n:Nat)(c:kV)(f:gW)(y:Int){r:gN × Int},qQ n c f y=some r→Go.Eng.Spec Tryz.prog 98 [.ptr 0 0,.d (zW f),.I y] [.box [.L 6 (jQ c.w.packages),.L 6 (gV c.assumed)]] (fun sv Lo=>sv=.tup [.d (qB r.1),.I r.2]∧Lo=[.box [.L 6 (jQ c.w.packages),.L 6 (gV c.assumed)]]):=by
 intro n
 induction n with
 | zero=>intro c f y r h;cases h
 | succ n ih=>intro c f y r h;exact gSi ih c f y h
end Go.Proofs.YtegahmhnmjnhhaaGreat
