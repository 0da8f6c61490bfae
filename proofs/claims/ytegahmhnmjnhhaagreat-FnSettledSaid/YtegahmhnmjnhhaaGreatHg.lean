import Derived.Test.YtegahmhnmjnhhaaGreatC2
set_option maxHeartbeats 4000000
set_option linter.unusedVariables false
set_option linter.unusedSimpArgs false
set_option linter.unusedSectionVars false
namespace Go.Proofs.YtegahmhnmjnhhaaGreat
open Go Go.Eng
attribute [local irreducible] V VO VQ VY Quiet QR jC kT Rng mU mV mI
def qU(a0:gI)(y3:Nat)(x6:gY)(f:(List gU)→Option (List gU)):List (List UInt8)→(List gU)→Option (List gU)
 | [],c=>(f c)
 | h::xs,c=>bnd (yI a0 x6.trait h) fun y=>
gd (tok x6.type_) (lt_ (idT x6.type_) fun aa=>
gd (c.length+[(gU.mk (gY.mk h aa) (y3:Int) y.1)].length≤4294967296) (
qU a0 y3 x6 f xs (c++[(gU.mk (gY.mk h aa) (y3:Int) y.1)])))
def uP(y:gI):List gY→Nat→(List gU)→Option (List gU)
 | [],f,h=>(some h)
 | c::xs,f,h=>gd (tok c.type_) (lt_ (idT c.type_) fun x8=>
gd (h.length+[(gU.mk (gY.mk c.trait x8) (f:Int) [])].length≤4294967296) (
bnd (gEb y c.trait) fun aa=>
qU y f c (fun ab=>uP y xs (f+1) ab) aa (h++[(gU.mk (gY.mk c.trait x8) (f:Int) [])])))
def gE9(c:gI)(a1:List gY):Option (List gU):=
uP c a1 0 []
theorem gTx(a0:gI)(a1:List gY){r:List gU}(h:gE9 a0 a1=some r):jC Tryz.prog 53 [.d (kR a0),.L 4 (kV a1)] [.sl 6 (gM r)]:=by
 obtain⟨ae⟩:=a0;unfold gE9 at h;refine SpI Tryz.func53 fun A _=>?_;refine goL ?_;refine gAl ?_;refine goL ?_;refine noB ?_;refine gBx 13 (fun z4=>?_);refine kS (fun(y3:Nat) (y1:List gU) (v2:Nat)=>⟨[(2,.ptr 0 0),(5,.sl 1 v2),(13,.L 4 (kV a1)),(14,.I (a1.length:Int)),(15,.N y3)],[bPr ae,.arr 121 6 v2 (gM y1)],Tryz.f53.ntmps⟩) (fun y3 y1 v2=>uP (gI.mk ae) (a1.drop y3) y3 y1=some r) (fun y3 y1 v2=>a1.length - y3) 0 [] 0 eJ h ?_;rintro y3 y1 v2 h;refine goL ?_;refine jW (kX (fun c5=>?_) (fun c5=>?_))
 ·have ah:=uR c5;obtain⟨x6,a9,ax⟩:=drop_at ah;rw [ax,uP.eq_2] at h;obtain⟨ag,⟨c,f,y⟩⟩:=x6;refine noS ?_;refine jW (jE ?_);refine goL ?_;refine qI (jM y3 (gHm a9)) ?_;refine gH2 ?_;refine jO (P:=Tryz.prog) Mix.h [(0,true),(1,true),(2,true),(3,true),(4,true),(5,true),(6,true),(7,true),(8,true),(9,false),(10,false),(11,true)] (by kernel_rfl) ?_;refine goY ?_;obtain⟨g7,h⟩:=mW h;obtain⟨⟨aj,ak,al⟩,ba,h⟩:=qB h;have sx8:=(gA7 (gB.mk c f y) g7).p;rw [ba] at sx8;refine jI rfl (gF (sx8)) ?_;refine goY ?_;refine qE (T:=88) (us:=gM [(gU.mk (gY.mk ag (gB.mk aj ak al)) (y3:Int) [])]) ?_;obtain⟨g9,h⟩:=mW h;refine pV (T:=88) g9 ?_;refine goY ?_;refine kQ ?_;refine goL ?_;obtain⟨aq,ay,h⟩:=gP h;refine jL (gF (hGx _ _ ay)) ?_;refine noB ?_;refine gBx 34 (fun bh=>?_);refine kS (fun(ab:Nat) (ac:List gU) (ai:Nat)=>⟨[(2,.ptr 0 0),(5,.sl 1 ai),(6,.N y3),(7,.ptr 2 0),(13,.L 4 (kV a1)),(14,.I (a1.length:Int)),(15,.N y3),(34,.L 1 (jP aq)),(35,.I (aq.length:Int)),(36,.N ab)],[bPr ae,.arr 121 6 ai (gM ac),bBd ag c f y,.arr 121 6 0 (gM [(gU.mk (gY.mk ag (gB.mk aj ak al)) (y3:Int) [])])],Tryz.f53.ntmps⟩) (fun ab ac ai=>qU (gI.mk ae) y3 (gY.mk ag (gB.mk c f y)) (fun ac=>uP (gI.mk ae) (a1.drop (y3+1)) (y3+1) ac) (aq.drop ab) ac=some r) (fun ab ac ai=>aq.length - ab) 0 (y1++[(gU.mk (gY.mk ag (gB.mk aj ak al)) (y3:Int) [])]) (v2+1) eJ h ?_;rintro ab ac ai h;refine goL ?_;refine jW (kX (fun ar=>?_) (fun ar=>?_))
  ·have ad:=uR ar;obtain⟨a3,a4,au⟩:=drop_at ad;rw [au,qU.eq_2] at h;refine noS ?_;refine jW (jE ?_);refine goL ?_;refine jL (jM ab (gQq a4)) ?_;obtain⟨⟨am,bb⟩,a5,h⟩:=gP h;refine jL (gF (gI8 _ _ _ a5)) ?_;obtain⟨bc,h⟩:=mW h;obtain⟨⟨an,ao,ap⟩,a6,h⟩:=qB h;have sx19:=(gA7 (gB.mk c f y) bc).p;rw [a6] at sx19;refine qI (gF (sx19)) ?_;refine gBn (jU TBd.h TZ.h rfl (by repeat constructor)) ?_;refine gAq (jU TBd.h TZ.h rfl (by repeat constructor)) ?_;refine gAk (u:=(.st [.st [.s a3,.st [.i .i64 an,.s ao,.sl 3 (jJ ap)]],.i .i64 (y3:Int),.sl 1 (gJe am)])) ?_;obtain⟨bd,h⟩:=mW h;refine gBd bd ?_;refine goL ?_;refine jL (jR ab (by omega)) ?_;exact⟨(ab+1),(ac++[(gU.mk (gY.mk a3 (gB.mk an ao ap)) (y3:Int) am)]),(ai+1),h,by omega,eJ⟩
  ·have ad:=uS ar;rw [jF ad,qU.eq_1] at h;refine goX ?_;refine jL (jR y3 (by omega)) ?_;exact⟨(y3+1),ac,ai,h,by omega,eJ⟩
 ·have ah:=uS c5;rw [jF ah,uP.eq_1] at h;refine goX ?_;refine kN 1 rfl rfl ?_;refine jK ?_;cases h;exact qA
def yA(h:gI)(a1:gH)(a2:gB):Option (gB × Bool):=
bnd (gHi h a1) fun c=>
lt_ ((cnd (!c.2) (true) ((!c.1.hasAssoc)))) fun y=>
(cnd y (
(some ((gB.mk 0 [] []),false))) (
bnd (gAg c.1.head a2) fun f=>
(cnd (!f.2) (
(some ((gB.mk 0 [] []),false))) (
gd (bok f.1∧tok c.1.assoc) (lt_ (apT f.1 c.1.assoc) fun x8=>
(some (x8,true)))))))
theorem gTy(a0:gI)(a1:gH)(a2:gB){r:gB × Bool}(h:yA a0 a1 a2=some r):jC Tryz.prog 99 [.d (kR a0),.d (qG a1),.d (jS a2)] [jS r.1,.b r.2]:=by
 obtain⟨ak⟩:=a0;obtain⟨al,am⟩:=a1;obtain⟨an,ao,ap⟩:=a2;unfold yA at h;refine SpI Tryz.func99 fun A _=>?_;refine goL ?_;obtain⟨⟨⟨ad,ae,⟨aa,ab,ac⟩,ag,ah,ai,⟨c,f,y⟩,aj⟩,ay⟩,au,h⟩:=gP h;refine jL (gF (gO9 _ _ au)) ?_;obtain⟨b2,hb2,h⟩:=qB h;refine jT ⟨[(5,.ptr 2 0),(6,.ptr 3 0),(8,.ptr 4 0),(24,.B b2)],[bPr ak,.box [.I al,.I am],bTy an ao ap,.box [.I 0,.S [],.nilsl],bIn ad ae aa ab ac ag ah ai c f y aj],Tryz.f99.ntmps⟩ ?_ ?_
 ·exact gqZ 20 hb2
 refine goC h ?_ ?_<;>intro c4 h
 ·refine goL ?_;refine gAq (jU TBd.h TZ.h rfl (by repeat constructor)) ?_;exact goR h
 ·refine goS ?_;obtain⟨⟨aq,a3⟩,av,h⟩:=gP h;refine jL (gF (gN5 _ _ av)) ?_;refine kX (fun c6=>?_) (fun c6=>?_)
  ·replace h:=kD c6 h;refine goL ?_;refine gAq (jU TBd.h TZ.h rfl (by repeat constructor)) ?_;exact goR h
  ·replace h:=kE c6 h;refine goS ?_;obtain⟨g7,h⟩:=mW h;obtain⟨⟨a4,a5,a6⟩,ax,h⟩:=qB h;have sx8:=(gQ6 aq (gB.mk c f y) g7).p;rw [ax] at sx8;refine qI (gF (sx8)) ?_;exact goR h
theorem gIj{w:gI}{o:gH}{i:kG}(h:gOl w o=some i):gHi w o=some (i,true):=by
 obtain⟨p,c,f⟩:=gI3 h;obtain⟨a1,a2⟩:=gEd c;obtain⟨b1,y⟩:=gEd f;have c1:=(List.getElem?_eq_some_iff.1 a2).1;have c2:=(List.getElem?_eq_some_iff.1 y).1;unfold gHi;rw [decide_eq_false (show ¬o.package < 0 by omega),decide_eq_false (show ¬o.package≥(w.packages.length:Int) by omega),decide_eq_false (show ¬o.at_ < 0 by omega),jQ c,jQ c,jQ f,decide_eq_false (show ¬o.at_≥(p.instances.length:Int) by omega)];rfl
theorem hJc(c:Nat)(k:List gH→Option (List gH)):∀(l:List kG) (f:Nat) (h:List gH),gA3 c k l f h=mR c k l f h
 | [],_,_=>rfl
 | x::l,f,h=>by rw [gA3,mR,hJc c k l]
theorem hJf:∀(l:List kI) (c:Nat) (f:List gH),zJ l c f=mY l c f
 | [],_,_=>rfl
 | x::l,c,f=>by
   rw [zJ,mY,hJc];congr 1;funext y;exact hJf l (c+1) y
structure gYe (w:gI):Prop where
 len:∃l,gAn w=some l∧l.length≤4000
 tr:(gCw w addN).1.auto=false
 sh:gEb w [115,104,111,119]=some []
 od:gEb w [111,114,100]=some [[101,113]]
 ad:gEb w addN=some []
 pa:yI w [111,114,100] [101,113]=some ([0],true)
def hJg(w:gI)(t:gB)(o:gH):Bool:=match gOl w o with
 | some i=> !(i.trait==addN) || !(mtT i.head t []).isSome
 | none=>true
theorem gJ3{p t:gB}{r:Option (List gG)}(hp:tnd p≤40000)(ht:tok t)(h:mtT p t []=r):match r with | some l=>gAg p t=some (l,true) | none=>∃l,gAg p t=some (l,false):=by
 obtain⟨q,f,c⟩:=gT8 p t hp ht;rw [h] at c;cases r with
 | some l=>
   have c:q=(true,l):=c;subst c;exact f
 | none=>
   have c:q.1=false:=c;exact⟨q.2,by rw [f,c]⟩
theorem gUk{w:gI}{t:gB}{l:List gH}(h:gUr w l):l.filter (fun o=> !hJg w t o)=[]:=by
 rw [List.filter_eq_nil_iff];intro o ho;obtain⟨i,c,f⟩:=h o ho;unfold hJg;rw [c];simp only [f,Bool.not_false,Bool.true_or,Bool.not_true];decide
theorem hNj{w:gI}{k:Int}(hw:gOw w k)(hi:gYe w)(t:gB)(ht:tok t):gR4 w ⟨addN,t⟩=some (gUs k t):=by
 obtain⟨pre,post,c,f,h⟩:=hw.refs;obtain⟨a,ha,ha1,ha2,_⟩:=hw.i1;obtain⟨b,hb,hb1,hb2,_⟩:=hw.i2;obtain⟨l,y,l2⟩:=hi.len;have hl:l=pre++(⟨0,k⟩::⟨0,k+1⟩::post):=Option.some.inj (y.symm.trans c);subst hl;have hd:∀o∈pre++(⟨0,k⟩::⟨0,k+1⟩::post),gEx o w ⟨addN,t⟩=some (hJg w t o):=by
  intro o ho;have off:∀{m:List gH},gUr w m→o∈m→gEx o w ⟨addN,t⟩=some (hJg w t o):=by
   intro m hm hmo;obtain⟨i,i1,i2⟩:=hm o hmo;unfold gEx hJg;rw [jQ (gIj i1),i1];simp only [i2,Bool.not_false,gZ,Bool.true_or,bnd]
  have on:∀{i:kG},gOl w o=some i→i.trait=addN→tnd i.head≤40000→gEx o w ⟨addN,t⟩=some (hJg w t o):=by
   intro i i1 i2 i3;unfold gEx hJg;rw [jQ (gIj i1),i1];simp only [i2,beq_self_eq_true,Bool.not_true,gK,Bool.false_or];rw [gM8 i.head t i3 ht];rfl
  simp only [List.mem_append,List.mem_cons] at ho;rcases ho with ho | rfl | rfl | ho
  ·exact off f ho
  ·exact on ha ha1 (by rw [ha2];decide)
  ·exact on hb hb1 (by rw [hb2];decide)
  ·exact off h ho
 unfold gR4;have hA:gI9 w=some (pre++(⟨0,k⟩::⟨0,k+1⟩::post)):=by
  unfold gI9;rw [hJf];exact c
 rw [jQ hA,hT3 _ l2 hd];simp only [bnd,Option.some.injEq];have e1:hJg w t ⟨0,k⟩= !isI t:=by
  unfold hJg;rw [ha];simp only [ha1,ha2,gP2,beq_self_eq_true,Bool.not_true,Bool.false_or];cases isI t<;>rfl
 have e2:hJg w t ⟨0,k+1⟩= !gUq t:=by
  unfold hJg;rw [hb];simp only [hb1,hb2,gP3,beq_self_eq_true,Bool.not_true,Bool.false_or];cases gUq t<;>rfl
 rw [List.filter_append,gUk f,List.nil_append,List.filter_cons,List.filter_cons,gUk h,e1,e2];unfold gUs;cases hI:isI t with
 | true=>rw [hDb hI];rfl
 | false=>cases gUq t<;>rfl
theorem hCy{w:gI}{o:gH}{i:kG}(h:gOl w o=some i)(hm:gDp i.head i.head=some true)(hd:i.default_=false):gB5 w [o] [o]=some (o,0):=by
 have hs:gM7 o w i=some false:=by
  unfold gM7 gN1;rw [jQ (gIj h)];simp only [hm,bnd,gZ,Bool.not_true]
 have hc:gB4 [o] (fun z=>gM7 z w i)=some false:=by
  unfold gB4 gDq;simp only [uV,hs,bnd,gK];rfl
 rw [gB5,jQ (gIj h),jQ hc];simp only [hd,gK,bnd]
theorem hRn{w:gI}{k:Int}(hw:gOw w k)(hi:gYe w)(t:gB)(ht:tok t):gHf w ⟨addN,t⟩=some (hFa k t):=by
 obtain⟨a,ha,ha1,ha2,_,ha5,_⟩:=hw.i1;obtain⟨b,hb,hb1,hb2,_,hb5,_⟩:=hw.i2;unfold gHf;rw [jQ (hNj hw hi t ht)];unfold gUs hFa;cases isI t with
 | true=>simp only [gZ];exact hCy ha (by rw [ha2,gM8 gAs gAs (by decide) (gH1 _ _),gP2];rfl) ha5
 | false=>
   simp only [gK];cases gUq t with
   | true=>simp only [gZ];exact hCy hb (by rw [hb2,gM8 gC4 gC4 (by decide) hDc,gP3];rfl) hb5
   | false=>rfl
theorem gYf{w:gI}{k:Int}(hw:gOw w k){t:gB}{o:gH}(h:(isI t=true∧o=⟨0,k⟩)∨(gUq t=true∧o=⟨0,k+1⟩))(ht:tok t):(isI t=true∧yA w o t=some (gAs,true))∨(∃u,t=gI5 u∧yA w o t=some (gI5 (gH5 u),true)):=by
 obtain⟨a,ha,_,ha2,_,_,ha6,ha7,_⟩:=hw.i1;obtain⟨b,hb,_,hb2,_,_,hb6,hb7,_⟩:=hw.i2;rcases h with ⟨f,y⟩ | ⟨f,y⟩
 ·left;refine⟨f,?_⟩
  rw [y];unfold yA;rw [jQ (gIj ha)];have hm:mtT gAs t []=some []:=by rw [gP2,f];rfl
  have:=gJ3 (by decide) ht hm
  simp only [lt_,Bool.not_true,gK,ha6];rw [ha2,jQ this];simp only [ha7,Bool.not_true,gK];rw [mK ⟨fun c hc=>by simp at hc,gH1 _ _⟩];rfl
 ·right;obtain⟨u,rfl⟩:=gQy f
  refine⟨u,rfl,?_⟩;rw [y];unfold yA;rw [jQ (gIj hb)];have hm:mtT gC4 (gI5 u) []=some [⟨[97],u⟩]:=by rw [gP3,f];rfl
  have:=gJ3 (by decide) ht hm
  simp only [lt_,Bool.not_true,gK,hb6];rw [hb2,jQ this];simp only [hb7,Bool.not_true,gK];rw [mK ⟨fun c hc=>by simp only [List.mem_singleton] at hc;subst hc;exact hNy _ ht u (by simp [gI5]),by simp [gI5,gH5,tok,gUv]⟩];rfl
theorem hCz(g:gY):∀(l:List gU) (y:Nat),yP (fun z=>some (gJx z g)) l y=some (mX g l y)
 | [],_=>rfl
 | a::l,y=>by
   simp only [yP,mX,bnd]
   have:gJx a g=yC a.goal g:=rfl
   rw [this];cases yC a.goal g with
   | true=>rfl
   | false=>exact hCz g l (y+1)
theorem gWd(l:List gU)(g:gY):gN2 l g=some (kH l g):=by
 unfold gN2 gIc;rw [hCz];rfl
theorem hE7(steps:List Int)(k n a b:Int)(l:List gQ):∃e,gBj steps k n a b l=some e∧(e.kind=k∨e.kind=3):=by
 induction steps generalizing k n a b l with
 | nil=>exact⟨_,rfl,.inl rfl⟩
 | cons x steps ih=>
   obtain⟨e,c,f⟩:=ih 3 x 0 0 [⟨k,n,⟨a,b⟩,l⟩];exact⟨e,c,.inr (by rcases f with h | h<;>exact h)⟩
theorem hRo(k n:Int)(steps:List Int):∃e,gEt ⟨k,n,⟨0,0⟩,[]⟩ steps=some e∧(e.kind=k∨e.kind=3):=by
 have hc:gHg 5000 ⟨k,n,⟨0,0⟩,[]⟩=some ⟨k,n,⟨0,0⟩,[]⟩:=by
  rw [show (5000:Nat)=4998+1+1 from rfl,gHg];unfold gN4;rw [gMc];unfold gMb;rw [mK (by simp)];rfl
 unfold gEt;rw [jQ hc];exact hE7 steps k n 0 0 []
theorem jBt(b:Bool)(rest:List kI):(gCw ⟨pC b::rest⟩ addN).1.auto=false:=by cases b<;>kernel_rfl
theorem jBu(b:Bool)(rest:List kI):gEb ⟨pC b::rest⟩ [115,104,111,119]=some []:=by cases b<;>kernel_rfl
theorem jBv(b:Bool)(rest:List kI):gEb ⟨pC b::rest⟩ [111,114,100]=some [[101,113]]:=by cases b<;>kernel_rfl
theorem jBw(b:Bool)(rest:List kI):gEb ⟨pC b::rest⟩ addN=some []:=by cases b<;>kernel_rfl
theorem jBx(b:Bool)(rest:List kI):yI ⟨pC b::rest⟩ [111,114,100] [101,113]=some ([0],true):=by cases b<;>kernel_rfl
theorem hC1(n:Nat):∀(l:List kG) (k:Nat),(hGz n l k).length=l.length
 | [],_=>rfl
 | _::l,k=>by simp [hGz,hC1 n l (k+1)]
theorem hPm(b:Bool)(rest:List kI)(h:rest=[]∨∃q,rest=[q]∧hRz q=true∧q.instances.length≤100):gYe ⟨pC b::rest⟩:=by
 refine⟨?_,jBt b rest,jBu b rest,jBv b rest,jBw b rest,jBx b rest⟩;have hp:(hOy b).length≤8:=by cases b<;>decide
 rcases h with rfl | ⟨q,rfl,_,hq⟩
 ·exact⟨hOy b++[⟨0,kC b⟩,⟨0,kC b+1⟩],by rw [hB8];rfl,by simp;omega⟩
 ·refine⟨hOy b++[⟨0,kC b⟩,⟨0,kC b+1⟩]++hGz 1 q.instances 0,?_,by simp [hC1];omega⟩;rw [hB8];show mR 1 _ q.instances 0 _=_;rw [hG5 1 _ q.instances 0 _ (by simp;omega)];simp [mY]
def Slv(r:List UInt8→Nat)(l:List gG):Prop:=∀v,(lkp v l).2=true→hg r (lkp v l).1=r v
mutual
theorem hRp{E:Nat}{r:List UInt8→Nat}{l:List gG}(hl:Slv r l):∀(t:gB),HS E r t→hg r (apT l t)=hg r t
 | ⟨k,n,ts⟩,h=>by
   have ih:=hPn hl ts h.2;simp only [apT];by_cases hk:k=1
   ·subst hk;have hts:ts=[]:=by
     rcases h.1 with c | c
     ·exact c.2
     ·exact absurd rfl c.1
    subst hts;cases hb:(lkp n l).2 with
    | true=>
      simp only [beq_self_eq_true,gZ];rw [hl n hb];simp [hg,hgs]
    | false=>
      simp only [beq_self_eq_true,gZ,gK];rfl
   ·rw [beq_false_of_ne hk,gK];simp only [hg,if_neg hk,ih]
theorem hPn{E:Nat}{r:List UInt8→Nat}{l:List gG}(hl:Slv r l):∀(ts:List gB),gUt (fun y=>(y.kind=1∧y.args=[])∨(y.kind≠1∧Gd E r (hg r y))) ts→hgs r (gNo l ts)=hgs r ts
 | [],_=>rfl
 | a::ts,h=>by
   simp only [gNo,hgs];rw [hRp hl a h.1,hPn hl ts h.2]
end
mutual
theorem hU5{E:Nat}{r:List UInt8→Nat}{l:List gG}(hl:Slv r l)(hb:∀v,(lkp v l).2=true→HS E r (lkp v l).1):∀(t:gB),HS E r t→HS E r (apT l t)
 | ⟨k,n,ts⟩,h=>by
   have ih:=hPo hl hb ts h.2;have e:=hRp hl ⟨k,n,ts⟩ h;simp only [apT] at e ⊢;by_cases hk:k=1
   ·subst hk;have hts:ts=[]:=by
     rcases h.1 with c | c
     ·exact c.2
     ·exact absurd rfl c.1
    subst hts;cases hv:(lkp n l).2 with
    | true=>
      simp only [beq_self_eq_true,gZ];exact hb n hv
    | false=>
      simp only [beq_self_eq_true,gZ,gK];exact⟨.inl ⟨rfl,rfl⟩,trivial⟩
   ·rw [beq_false_of_ne hk,gK] at e ⊢;refine⟨.inr ⟨hk,?_⟩,ih⟩;rcases h.1 with c | c
    ·exact absurd c.1 hk
    ·rw [e];exact c.2
theorem hPo{E:Nat}{r:List UInt8→Nat}{l:List gG}(hl:Slv r l)(hb:∀v,(lkp v l).2=true→HS E r (lkp v l).1):∀(ts:List gB),gUt (fun y=>(y.kind=1∧y.args=[])∨(y.kind≠1∧Gd E r (hg r y))) ts→gUt (fun y=>(y.kind=1∧y.args=[])∨(y.kind≠1∧Gd E r (hg r y))) (gNo l ts)
 | [],_=>trivial
 | a::ts,h=>⟨hU5 hl hb a h.1,hPo hl hb ts h.2⟩
end
theorem hRq{E:Nat}{r:List UInt8→Nat}{l:List gG}(hl:Slv r l)(hb:∀v,(lkp v l).2=true→HS E r (lkp v l).1):∀(n:Nat) (t:gB),HS E r t→HS E r (zk l n t)∧hg r (zk l n t)=hg r t
 | 0,t,h=>⟨h,rfl⟩
 | n+1,t,h=>by
   rw [zk];cases zbd l t && decide (tsz t < 4000)with
   | false=>exact⟨h,rfl⟩
   | true=>
     rw [gZ];obtain⟨c,f⟩:=hRq hl hb n _ (hU5 hl hb t h);exact⟨c,by rw [f,hRp hl t h]⟩
def slv:List gG→List UInt8→Nat
 | [],_=>0
 | b::l,v=>if b.var_=v then hg (slv l) b.type_ else slv l v
mutual
theorem gWe{r r':List UInt8→Nat}:∀(t:gB),(∀v∈tvs t,r v=r' v)→hg r t=hg r' t
 | ⟨k,n,ts⟩,h=>by
   simp only [hg];rw [gYg ts (fun v hv=>h v (by simp [tvs,hv]))];by_cases hk:k=1
   ·rw [if_pos hk,if_pos hk,h n (by simp [tvs,hk])]
   ·rw [if_neg hk,if_neg hk]
theorem gYg{r r':List UInt8→Nat}:∀(ts:List gB),(∀v∈gH4 ts,r v=r' v)→hgs r ts=hgs r' ts
 | [],_=>rfl
 | a::ts,h=>by
   simp only [hgs];rw [gWe a (fun v hv=>h v (by simp [gH4,hv])),gYg ts (fun v hv=>h v (by simp [gH4,hv]))]
end
theorem gQt{b:gG}{l:List gG}(h:Tri (b::l)):b.var_∉tvs b.type_∧(∀c∈l,c.var_≠b.var_∧b.var_∉tvs c.type_)∧Tri l:=by
 refine⟨fun hv=>(h 0 b rfl).2 _ hv (by simp [dom]),fun c hc=>?_,fun i c hc=>?_⟩
 ·obtain⟨i,hi⟩:=List.mem_iff_getElem?.1 hc
  have:=h (i+1) c (by simpa using hi)
  refine⟨fun e=>this.1 (by rw [e];simp [dom]),fun hv=>this.2 _ hv (by simp [dom])⟩
 ·have:=h (i+1) c (by simpa using hc)
  refine⟨fun hd=>this.1 (by simp only [List.take_succ_cons,dom,List.map_cons,List.mem_cons];exact .inr hd),fun v hv hd=>this.2 v hv (by simp only [List.take_succ_cons,dom,List.map_cons,List.mem_cons];exact .inr hd)⟩
theorem hAe:∀{l:List gG} {v:List UInt8},v∉dom l→slv l v=0
 | [],v,_=>rfl
 | b::l,v,h=>by
   simp only [dom,List.map_cons,List.mem_cons,not_or] at h;rw [slv,if_neg (fun e=>h.1 e.symm)];exact hAe h.2
theorem hC3:∀{l:List gG},Tri l→Slv (slv l) l
 | [],_,v,hv=>by cases hv
 | b::l,h,v,hv=>by
   obtain⟨f,y,h3⟩:=gQt h;simp only [lkp] at hv ⊢;by_cases e:b.var_=v
   ·subst e;simp only [beq_self_eq_true,gZ];rw [slv,if_pos rfl];exact gWe _ (fun u hu=>by rw [slv,if_neg (fun e=>f (by rw [e];exact hu))])
   ·rw [beq_false_of_ne e,gK] at hv ⊢;rw [slv,if_neg e,←hC3 h3 v hv];obtain⟨c,hc,_,hc3⟩:=gLz hv;rw [hc3];exact gWe _ (fun u hu=>by rw [slv,if_neg (fun e=>(y c hc).2 (by rw [e];exact hu))])
theorem gSw{v:List UInt8}:∀{l l':List gG},(lkp v l).2=true→lkp v (l++l')=lkp v l
 | [],_,h=>by cases h
 | b::l,l',h=>by
   simp only [List.cons_append,lkp] at h ⊢;cases hb:b.var_==v with
   | true=>rfl
   | false=>
     rw [hb] at h;exact gSw (l:=l) h
theorem Slv.pre{r:List UInt8→Nat}{l l':List gG}(h:Slv r (l++l')):Slv r l:=fun v hv=>by
 have:=h v (by rw [gSw hv];exact hv)
 rwa [gSw hv] at this
theorem hC4{E:Nat}{r:List UInt8→Nat}{y:List gG}(hr:∀v,v∉dom y→r v=0):∀(l p:List gG),y=p++l→Tri l→(∀b∈l,HS E r b.type_∧r b.var_=hg r b.type_∧∀v∈tvs b.type_,v∉dom p)→∀v∈dom l,Gd E r (r v)
 | [],_,_,_,_,v,hv=>by simp [dom] at hv
 | b::l,p,e,ht,h,v,hv=>by
   obtain⟨t1,t2,t3⟩:=gQt ht
   have ih:=hC4 hr l (p++[b]) (by rw [e];simp) t3 (fun c hc=>⟨(h c (by simp [hc])).1,(h c (by simp [hc])).2.1,fun u hu hd=>by
    simp only [dom,List.map_append,List.mem_append,List.map_cons,List.map_nil,List.mem_singleton] at hd;rcases hd with hd | hd
    ·exact(h c (by simp [hc])).2.2 u hu hd
    ·subst hd;exact(t2 c hc).2 hu⟩)
   simp only [dom,List.map_cons,List.mem_cons] at hv;rcases hv with rfl | hv
   ·obtain⟨h1,h2,h3⟩:=h b (by simp);rw [h2];rcases gWp h1 with ⟨k1,f⟩ | ⟨_,f⟩
    ·have hb:b.type_=⟨1,b.type_.name,[]⟩:=by rw [←k1,←f];exact(gU3 _).symm
     have e1:hg r b.type_=r b.type_.name:=by rw [hb];simp [hg,hgs]
     have hm:b.type_.name∈tvs b.type_:=by rw [hb];simp [tvs]
     rw [e1];by_cases hd:b.type_.name∈dom l
     ·exact ih _ hd
     ·left;rw [hr _ (fun hd0=>?_)]
      ·omega
      ·rw [e] at hd0;simp only [dom,List.map_append,List.mem_append,List.map_cons,List.mem_cons] at hd0;rcases hd0 with hd0 | hd0 | hd0
       ·exact h3 _ hm hd0
       ·exact t1 (by rw [←hd0];exact hm)
       ·exact hd hd0
    ·exact f
   ·exact ih v hv
theorem gOe{α:Type}{p q:α→Bool}{l:List α}(hpq:∀x∈l,p x=true→q x=true){w:α}(hw:w∈l)(c:p w=false)(f:q w=true):l.countP p < l.countP q:=by
 induction l with
 | nil=>simp at hw
 | cons a l ih=>
   have hle:l.countP p≤l.countP q:=List.countP_mono_left (fun x hx=>hpq x (by simp [hx]));rcases List.mem_cons.1 hw with rfl | hw
   ·rw [List.countP_cons_of_neg (by simp [c]),List.countP_cons_of_pos f];omega
   ·have:=ih (fun x hx=>hpq x (by simp [hx])) hw
    have h:=hpq a (by simp);cases hp:p a with
    | true=>rw [List.countP_cons_of_pos hp,List.countP_cons_of_pos (h hp)];omega
    | false=>
      rw [List.countP_cons_of_neg (by simp [hp])];cases hq:q a with
      | true=>rw [List.countP_cons_of_pos hq];omega
      | false=>rw [List.countP_cons_of_neg (by simp [hq])];omega
theorem hJh{E:Nat}(hE:E≤14){r:List UInt8→Nat}{D:List (List UInt8)}(hr:∀v,v∉D→r v=0)(h:∀v∈D,Gd E r (r v)):∀(n:Nat) (v:List UInt8),D.countP (fun u=>decide (r u < r v))≤n→r v≤14+E*n
 | n,v,hn=>by
   have f:=Nat.zero_le (E*n);by_cases hv:v∈D
   ·rcases h v hv with c | ⟨w,c,y⟩
    ·omega
    ·by_cases hw:w∈D
     ·have hlt:=gOe (l:=D) (p:=fun u=>decide (r u < r w)) (q:=fun u=>decide (r u < r v)) (fun x _ hx=>by have:=of_decide_eq_true hx;exact decide_eq_true (by omega)) hw (by simp) (by simpa using c)
      match n,hn with
      | 0,hn=>omega
      | n+1,hn=>
        have:=hJh hE hr h n w (by omega)
        rw [Nat.mul_succ];omega
     ·have:=hr w hw
      omega
   ·rw [hr v hv];omega
theorem hJi{E:Nat}(hE:E≤14){l:List gG}(ht:Tri l)(h:∀b∈l,HS E (slv l) b.type_){n:Nat}(hn:l.length≤n+1)(v:List UInt8):slv l v≤14+E*n:=by
 have hr:∀v,v∉dom l→slv l v=0:=fun v hv=>hAe hv;have hs:=hC3 ht;have hb:∀b∈l,slv l b.var_=hg (slv l) b.type_:=fun b hb=>by
  obtain⟨i,hi⟩:=List.mem_iff_getElem?.1 hb;have hv:(lkp b.var_ l).2=true:=hJ4 (by unfold dom;exact List.mem_map.2 ⟨b,hb,rfl⟩);obtain⟨j,c,f,y,h3⟩:=hBy hv;rw [←hs _ hv,h3];have hij:i=j:=by
   rcases Nat.lt_trichotomy i j with hlt | heq | hgt
   ·exfalso;refine(ht j c f).1 ?_
    rw [y];unfold dom;have hg:(l.take j)[i]? =some b:=by rw [List.getElem?_take,if_pos hlt];exact hi
    exact List.mem_map.2 ⟨b,List.mem_of_getElem? hg,rfl⟩
   ·exact heq
   ·exfalso;refine(ht i b hi).1 ?_
    rw [←y];unfold dom;have hg:(l.take i)[j]? =some c:=by rw [List.getElem?_take,if_pos hgt];exact f
    exact List.mem_map.2 ⟨c,List.mem_of_getElem? hg,rfl⟩
  subst hij;rw [hi] at f;cases f;rfl
 have hl:=hC4 (E:=E) hr l [] rfl ht (fun b hb'=>⟨h b hb',hb b hb',fun v _ hd=>by simp [dom] at hd⟩);refine hJh hE hr hl n v ?_;by_cases hv:v∈dom l
 ·have f:=gOe (l:=dom l) (p:=fun u=>decide (slv l u < slv l v)) (q:=fun _=>true) (fun _ _ _=>rfl) hv (by simp) rfl;rw [List.countP_true] at f
  have:(dom l).length=l.length:=by simp [dom]
  omega
 ·have:(dom l).countP (fun u=>decide (slv l u < slv l v))=0:=by
   rw [hr v hv];simp
  omega
end Go.Proofs.YtegahmhnmjnhhaaGreat
