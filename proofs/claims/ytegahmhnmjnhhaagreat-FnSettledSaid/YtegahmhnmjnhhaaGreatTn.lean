import Derived.Test.YtegahmhnmjnhhaaGreatB14
set_option maxHeartbeats 4000000
set_option linter.unusedVariables false
set_option linter.unusedSimpArgs false
set_option linter.unusedSectionVars false
namespace Go.Proofs.YtegahmhnmjnhhaaGreat
open Go Go.Eng
attribute [local irreducible] V VO VQ VY Quiet QR jC kT Rng mU mV mI
theorem gGz(p t:gB)(hp:tnd p≤40000)(ht:tok t):gFw p t=some (match mtT p t [] with | some l=>(l,true) | none=>([],false)):=by
 obtain⟨q,h,c⟩:=(gS9 100000).2 [p] [t] [] (by simp only [gA6];omega) (fun b hb=>by simp at hb) (by simpa using ht) rfl (by simp [gA6];omega);have y:((([p]:List gB).length:Int) !=(([t]:List gB).length:Int))=false:=by simp
 unfold gFw gHx;rw [y,gK,jQ h];simp only [gZe] at c;cases hm:mtT p t [] with
 | none=>
   rw [hm] at c;have f:q.1=false:=c;rw [f];rfl
 | some l=>
   rw [hm] at c;have f:q=(true,l):=c;subst f;rfl
def addN:List UInt8:=[97,100,100]
def hVg:List UInt8:=[105,110,116]
def hS7:List UInt8:=[98,111,120]
def gAs:gB:=⟨2,hVg,[]⟩
def gC4:gB:=⟨2,hS7,[⟨1,[97],[]⟩]⟩
def gH5(t:gB):gB:=⟨3,addN,[t]⟩
def gI5(t:gB):gB:=⟨2,hS7,[t]⟩
def isI(t:gB):Bool:=(t.kind==2) && (t.name==hVg) && (t.args.length==0)
def gUq(t:gB):Bool:=(t.kind==2) && (t.name==hS7) && (t.args.length==1)
theorem gP2(t:gB):mtT gAs t []=cnd (isI t) (some []) none:=by
 obtain⟨k,n,ts⟩:=t;simp only [gAs,mtT,isI];rw [show ((2:Int)==1)=false from by decide,gK];by_cases c:k=2
 ·subst c;by_cases f:n=hVg
  ·subst f;cases ts with
   | nil=>rfl
   | cons a ts=>
     simp only [bne_self_eq_false,beq_self_eq_true,Bool.not_true,gK,List.length_cons,List.length_nil,Bool.and_self,Bool.true_and];rw [show (((0:Nat):Int) !=((ts.length+1:Nat):Int))=true from bne_iff_ne.2 (by omega),show(ts.length+1==0)=false from beq_false_of_ne (by omega)];rfl
  ·rw [show (hVg==n)=false from beq_false_of_ne (Ne.symm f),show(n==hVg)=false from beq_false_of_ne f];simp [cnd]
 ·rw [show ((2:Int) != k)=true from bne_iff_ne.2 (Ne.symm c),show(k==2)=false from beq_false_of_ne c];simp [cnd]
theorem gP3(t:gB):mtT gC4 t []=cnd (gUq t) (some [⟨[97],t.args.headD ⟨0,[],[]⟩⟩]) none:=by
 obtain⟨k,n,ts⟩:=t;simp only [gC4,mtT,gUq];rw [show ((2:Int)==1)=false from by decide,gK];by_cases c:k=2
 ·subst c;by_cases f:n=hS7
  ·subst f
   match ts with
   | []=>rfl
   | [a]=>rfl
   | a::b::ts=>
     simp only [bne_self_eq_false,beq_self_eq_true,Bool.not_true,gK,List.length_cons,List.length_nil,Bool.and_self,Bool.true_and];rw [show (((0+1:Nat):Int) !=((ts.length+1+1:Nat):Int))=true from bne_iff_ne.2 (by omega),show(ts.length+1+1==1)=false from beq_false_of_ne (by omega)];rfl
  ·rw [show (hS7==n)=false from beq_false_of_ne (Ne.symm f),show(n==hS7)=false from beq_false_of_ne f];simp [cnd]
 ·rw [show ((2:Int) != k)=true from bne_iff_ne.2 (Ne.symm c),show(k==2)=false from beq_false_of_ne c];simp [cnd]
def gOl(w:gI)(o:gH):Option kG:=bnd (at? w.packages o.package) fun p=>at? p.instances o.at_
def gUr(w:gI)(l:List gH):Prop:=∀o∈l,∃i,gOl w o=some i∧(i.trait==addN)=false
structure gOw (w:gI) (k:Int):Prop where
 refs:∃pre post,gAn w=some (pre++(⟨0,k⟩::⟨0,k+1⟩::post))∧gUr w pre∧gUr w post
 i1:∃i,gOl w ⟨0,k⟩=some i∧i.trait=addN∧i.head=gAs∧i.where_=[]∧i.default_=false∧i.hasAssoc=true∧i.assoc=gAs∧gDb w ⟨0,k⟩=some (i,true)
 i2:∃i,gOl w ⟨0,k+1⟩=some i∧i.trait=addN∧i.head=gC4∧i.where_=[⟨addN,⟨1,[97],[]⟩⟩]∧i.default_=false∧i.hasAssoc=true∧i.assoc=gI5 (gH5 ⟨1,[97],[]⟩)∧gDb w ⟨0,k+1⟩=some (i,true)
 tr:(yD w addN).1.auto=false
 sh:qQ w [115,104,111,119]=some []
 od:qQ w [111,114,100]=some [[101,113]]
 ad:qQ w addN=some []
 pa:yJ w [111,114,100] [101,113]=some ([0],true)
theorem gI3{w:gI}{o:gH}{i:kG}(h:gOl w o=some i):∃p,at? w.packages o.package=some p∧at? p.instances o.at_=some i:=gP h
theorem gWn{w:gI}(t:gB):∀(l acc:List gH) (rest:List gH),gUr w l→kY w ⟨addN,t⟩ (l++rest) acc=kY w ⟨addN,t⟩ rest acc
 | [],acc,rest,_=>rfl
 | o::l,acc,rest,h=>by
   obtain⟨i,c,f⟩:=h o (by simp);obtain⟨p,y,h4⟩:=gI3 c;simp only [List.cons_append,kY,y,h4,bnd,f,gK];exact gWn t l acc rest (fun o ho=>h o (by simp [ho]))
def gUs(k:Int)(t:gB):List gH:=cnd (isI t) [⟨0,k⟩] (cnd (gUq t) [⟨0,k+1⟩] [])
theorem hDb{t:gB}(h:isI t=true):gUq t=false:=by
 unfold isI at h;unfold gUq;simp only [Bool.and_eq_true,beq_iff_eq] at h;rw [h.2];simp
theorem hR6{w:gI}{k:Int}(hw:gOw w k)(t:gB)(ht:tok t):vS w ⟨addN,t⟩=some (gUs k t):=by
 obtain⟨pre,post,c,f,h⟩:=hw.refs;obtain⟨a,ha,ha1,ha2,_⟩:=hw.i1;obtain⟨b,hb,hb1,hb2,_⟩:=hw.i2;obtain⟨p,ha3,ha4⟩:=gI3 ha;obtain⟨q,hb3,hb4⟩:=gI3 hb;have hpq:q=p:=Option.some.inj (hb3.symm.trans ha3);subst hpq;unfold vS;rw [jQ c,gWn t pre [] _ f];have y:gBl a.head t=some (isI t):=by rw [ha2,gJ6 gAs t (by decide) ht,gP2];cases isI t<;>rfl
 have e2:gBl b.head t=some (gUq t):=by rw [hb2,gJ6 gC4 t (by decide) ht,gP3];cases gUq t<;>rfl
 have hend:∀acc,kY w ⟨addN,t⟩ post acc=some acc:=fun acc=>by
  have:=gWn t post acc [] h
  rw [List.append_nil] at this;rw [this];rfl
 simp only [kY,ha3,ha4,hb3,hb4,bnd,ha1,hb1,beq_self_eq_true,gZ,y,e2,gUs];cases hI:isI t with
 | true=>
   simp only [gZ,hDb hI,gK];rw [mK (by simp)];exact hend _
 | false=>
   simp only [gK];cases gUq t with
   | true=>
     simp only [gZ];rw [mK (by simp)];exact hend _
   | false=>simp only [gK];exact hend _
theorem hNz:vT gAs gAs=some false:=by
 have h:gBl gAs gAs=some true:=by rw [gJ6 gAs gAs (by decide) (gH1 _ _),gP2];rfl
 unfold vT uY;simp only [h,bnd,gZ,Bool.not_true]
theorem hDc:tok gC4:=by simp [gC4,tok,gUv]
theorem hN2:vT gC4 gC4=some false:=by
 have h:gBl gC4 gC4=some true:=by rw [gJ6 gC4 gC4 (by decide) hDc,gP3];rfl
 unfold vT uY;simp only [h,bnd,gZ,Bool.not_true]
def hFa(k:Int)(t:gB):gH × Int:=cnd (isI t) (⟨0,k⟩,0) (cnd (gUq t) (⟨0,k+1⟩,0) (⟨0,0⟩,1))
theorem hJ5{w:gI}{o:gH}{i:kG}(h:gOl w o=some i)(hm:vT i.head i.head=some false)(hd:i.default_=false):qF w [o] [o]=some (o,0):=by
 obtain⟨p,c,f⟩:=gI3 h;simp only [qF,uX,c,f,bnd,hm,gZ,Bool.not_false,hd,gK]
theorem hPu{w:gI}{k:Int}(hw:gOw w k)(t:gB)(ht:tok t):gAh w ⟨addN,t⟩=some (hFa k t):=by
 obtain⟨a,ha,ha1,ha2,_,ha5,_⟩:=hw.i1;obtain⟨b,hb,hb1,hb2,_,hb5,_⟩:=hw.i2;unfold gAh;rw [jQ (hR6 hw t ht)];unfold gUs hFa;cases isI t with
 | true=>simp only [gZ];exact hJ5 ha (by rw [ha2];exact hNz) ha5
 | false=>
   simp only [gK];cases gUq t with
   | true=>simp only [gZ];exact hJ5 hb (by rw [hb2];exact hN2) hb5
   | false=>rfl
def hX3(k:Int)(t:gB)(e:gQ):Prop:=(e.kind=1→(isI t=true∧e.at_=⟨0,k⟩)∨(gUq t=true∧e.at_=⟨0,k+1⟩))∧(e.kind≠1→∃n,isInf n=false∧t=⟨1,n,[]⟩)
def FV(f:List gU):Prop:=∀a∈f,∃n,isInf n=false∧a.goal.type_=⟨1,n,[]⟩
theorem hVh{a b:gY}(h:yC a b=true):a.type_=b.type_:=by
 unfold yC lt_ at h;cases hn:a.trait==b.trait with
 | true=>rw [hn] at h;exact(gPn _ _).1 h
 | false=>rw [hn] at h;cases h
theorem gJ7(e:gQ)(h:e.args=[])(n:Nat):gJh (n+2) e=some e:=by
 obtain⟨k,m,o,l⟩:=e;simp only at h;subst h;rfl
theorem gOm(steps:List Int)(k n a b:Int)(l:List gQ):∃e,uE steps k n a b l=some e∧(e.kind=k∨e.kind=3):=by
 induction steps generalizing k n a b l with
 | nil=>exact⟨_,rfl,.inl rfl⟩
 | cons x steps ih=>
   obtain⟨e,c,f⟩:=ih 3 x 0 0 [⟨k,n,⟨a,b⟩,l⟩];exact⟨e,c,.inr (by rcases f with h | h<;>exact h)⟩
theorem find_ok(g:gY):∀(l:List gU) (y:Nat),mX g l y= -1∨∃(j:Nat) (h:j < l.length),mX g l y=((y+j:Nat):Int)∧yC l[j].goal g=true
 | [],y=>.inl rfl
 | a::l,y=>by
   simp only [mX];cases hg:yC a.goal g with
   | true=>exact .inr ⟨0,by simp,rfl,hg⟩
   | false=>
     simp only [gK];rcases find_ok g l (y+1)with h | ⟨j,h1,c,f⟩
     ·exact .inl h
     ·exact .inr ⟨j+1,by simp;omega,by rw [c];congr 1;omega,f⟩
mutual
def n4:gB→Prop
 | ⟨k,_,ts⟩=>(k≠4∧ts.length≤2∧(k=1→ts=[]))∧n4s ts
def n4s:List gB→Prop
 | []=>True
 | a::ts=>n4 a∧n4s ts
end
theorem gWo:∀{ts:List gB},n4s ts↔∀t∈ts,n4 t
 | []=>by simp [n4s]
 | a::ts=>by simp only [n4s,gWo (ts:=ts),List.mem_cons,forall_eq_or_imp]
theorem gQy{t:gB}(h:gUq t=true):∃u,t=gI5 u:=by
 obtain⟨k,n,ts⟩:=t;unfold gUq at h;simp only [Bool.and_eq_true,beq_iff_eq] at h;obtain⟨⟨rfl,rfl⟩,c⟩:=h
 match ts,c with
 | [u],_=>exact⟨u,rfl⟩
def hVi(k:Int)(facts:List gU)(t:gB)(e:gQ):Prop:=hX3 k t e∧(e.kind≠1→0≤kH facts ⟨addN,t⟩)
theorem hN3{w:gI}{k:Int}(hw:gOw w k){facts:List gU}(hF:FV facts):∀(d n:Nat) (t:gB),2*d+2≤n→d≤12→tok t→n4 t→∃e c,uD n w facts ⟨addN,t⟩ (d:Int)=some (e,c)∧(c=0→hVi k facts t e):=by
 intro d
 induction d with
 | zero=>
   intro n t hn _ ht h4;obtain⟨n,rfl⟩:∃m,n=m+2:=⟨n - 2,by omega⟩
   rw [uD];unfold gCk;rcases find_ok ⟨addN,t⟩ facts 0 with h | ⟨j,y,f,h3⟩
   ·have h:kH facts ⟨addN,t⟩= -1:=h;rw [h];exact⟨_,_,rfl,fun h=>by cases h⟩
   ·have f:kH facts ⟨addN,t⟩=((0+j:Nat):Int):=f;obtain⟨e,q1,q2⟩:=gOm facts[j].steps 2 facts[j].from_ 0 0 [];rw [f,show decide (((0+j:Nat):Int)≥0)=true from decide_eq_true (by omega),gZ,yZ,Nat.zero_add,List.getElem?_eq_getElem y];simp only [bnd];unfold qM;rw [gJ7 _ rfl 4998];simp only [bnd,q1];obtain⟨m,m1,m2⟩:=hF _ (List.getElem_mem y);exact⟨_,_,rfl,fun _=>⟨⟨fun hk=>(by rcases q2 with h | h<;>rw [h] at hk<;>cases hk),fun _=>⟨m,m1,by rw [←m2];exact(hVh h3).symm⟩⟩,fun _=>by rw [f];omega⟩⟩
 | succ d ih=>
   intro n t hn hd ht h4;obtain⟨n,rfl⟩:∃m,n=m+2:=⟨n - 2,by omega⟩
   rw [uD];unfold gCk;rcases find_ok ⟨addN,t⟩ facts 0 with h | ⟨j,y,f,h3⟩
   ·have h:kH facts ⟨addN,t⟩= -1:=h;rw [h,show decide ((-1:Int)≥0)=false from by decide,gK,show decide (((d+1:Nat):Int)≤0)=false from decide_eq_false (by omega),gK];simp only [lt_,hw.tr,gK];cases hk:cnd (t.kind==1) true (t.kind==3)with
    | true=>exact⟨_,_,rfl,fun h=>by cases h⟩
    | false=>
      have ai:t.kind≠4:=by obtain⟨a,b,c⟩:=t;exact h4.1.1
      rw [gK,show(t.kind==4)=false from beq_false_of_ne ai,gK];have key:∃e c,gG2 (n+1) w facts ⟨addN,t⟩ ((d+1:Nat):Int)=some (e,c)∧(c=0→hVi k facts t e):=by
       rw [gG2];unfold gK0;rw [jQ (hPu hw t ht)];unfold hFa;obtain⟨a,ha,_,ha2,ha3,_⟩:=hw.i1;obtain⟨b,hb,_,hb2,hb3,_⟩:=hw.i2;obtain⟨p,ha4,ha5⟩:=gI3 ha;obtain⟨q,hb4,hb5⟩:=gI3 hb;cases hI:isI t with
       | true=>
         simp only [gZ,bne_self_eq_false,gK,ha4,ha5,bnd];rw [ha2,gGz gAs t (by decide) ht,gP2,hI];simp only [gZ,ha3,zF];exact⟨_,_,rfl,fun _=>⟨⟨fun _=>.inl ⟨hI,rfl⟩,fun h=>absurd rfl h⟩,fun h=>absurd rfl h⟩⟩
       | false=>
         simp only [gK];cases hB:gUq t with
         | true=>
           simp only [gZ,bne_self_eq_false,gK,hb4,hb5,bnd];rw [hb2,gGz gC4 t (by decide) ht,gP3,hB];simp only [gZ,hb3,zF];obtain⟨u,rfl⟩:=gQy hB;have hu:tok u:=hNy _ ht u (by simp [gI5]);rw [mK ⟨fun c hc=>by simp only [List.mem_singleton] at hc;subst hc;exact hu,gH1 _ _⟩];simp only [lt_];rw [show IntKind.i64.wrap (((d+1:Nat):Int) - 1)=(d:Int)from by rw [qR _ (by omega) (by omega)];omega];obtain⟨e,c,e1,e2⟩:=ih n u (by omega) (by omega) hu (h4.2.1);have e1:uD n w facts ⟨addN,apT [⟨[97],(gI5 u).args.headD ⟨0,[],[]⟩⟩] ⟨1,[97],[]⟩⟩ (d:Int)=some (e,c):=e1;rw [jQ e1];simp only [];cases hc:(c != 0)with
           | true=>exact⟨_,_,rfl,fun h=>by rw [h] at hc;cases hc⟩
           | false=>
             simp only [gK];rw [mK (by simp)];exact⟨_,_,rfl,fun _=>⟨⟨fun _=>.inr ⟨hB,rfl⟩,fun h=>absurd rfl h⟩,fun h=>absurd rfl h⟩⟩
         | false=>exact⟨_,_,rfl,fun h=>by cases h⟩
      obtain⟨e,c,e1,e2⟩:=key;rw [jQ e1];exact⟨e,c,rfl,e2⟩
   ·have f:kH facts ⟨addN,t⟩=((0+j:Nat):Int):=f;obtain⟨e,q1,q2⟩:=gOm facts[j].steps 2 facts[j].from_ 0 0 [];rw [f,show decide (((0+j:Nat):Int)≥0)=true from decide_eq_true (by omega),gZ,yZ,Nat.zero_add,List.getElem?_eq_getElem y];simp only [bnd];unfold qM;rw [gJ7 _ rfl 4998];simp only [bnd,q1];obtain⟨m,m1,m2⟩:=hF _ (List.getElem_mem y);exact⟨_,_,rfl,fun _=>⟨⟨fun hk=>(by rcases q2 with h | h<;>rw [h] at hk<;>cases hk),fun _=>⟨m,m1,by rw [←m2];exact(hVh h3).symm⟩⟩,fun _=>by rw [f];omega⟩⟩
def NT(V:List (List UInt8))(t:gB):Prop:=tok t∧n4 t∧(∀v∈tvs t,v∈V)
theorem hVk{V:List (List UInt8)}{u:gB}(h:NT V u):NT V (gI5 u):=⟨by simp [gI5,tok,gUv,h.1],⟨⟨by decide,by simp,fun h=>absurd h (by decide)⟩,h.2.1,trivial⟩,fun v hv=>by simp only [gI5,tvs,gH4] at hv;simpa using h.2.2 v (by simpa using hv)⟩
theorem hPv{V:List (List UInt8)}{u:gB}(h:NT V u):NT V (gH5 u):=⟨by simp [gH5,tok,gUv,h.1],⟨⟨by decide,by simp,fun h=>absurd h (by decide)⟩,h.2.1,trivial⟩,fun v hv=>by simp only [gH5,tvs,gH4] at hv;simpa using h.2.2 v (by simpa using hv)⟩
theorem hVl{V:List (List UInt8)}:NT V gAs:=⟨gH1 _ _,⟨⟨by decide,by simp,fun _=>rfl⟩,trivial⟩,fun v hv=>by simp [gAs,tvs,gH4] at hv⟩
theorem hR7{V:List (List UInt8)}{t:gB}(h:NT V t):∀u∈t.args,NT V u:=fun u hu=>by
 obtain⟨k,n,ts⟩:=t;refine⟨hNy _ h.1 u hu,gWo.1 h.2.1.2 u hu,fun v hv=>h.2.2 v ?_⟩;simp only [tvs,List.mem_append];exact .inr (gOk.2 ⟨u,hu,hv⟩)
theorem hDd{w:gI}{k:Int}(hw:gOw w k){t:gB}{e:gQ}(h:hX3 k t e)(hk:e.kind=1)(ht:tok t):(isI t=true∧wX w e.at_ t=some (gAs,true))∨(∃u,t=gI5 u∧wX w e.at_ t=some (gI5 (gH5 u),true)):=by
 obtain⟨a,ha,_,ha2,_,_,ha6,ha7,ha8⟩:=hw.i1;obtain⟨b,hb,_,hb2,_,_,hb6,hb7,hb8⟩:=hw.i2;rcases h.1 hk with ⟨f,y⟩ | ⟨f,y⟩
 ·left;refine⟨f,?_⟩
  rw [y];unfold wX;rw [jQ ha8];simp only [];rw [ha2,jQ (gGz gAs t (by decide) ht),gP2,f];simp only [gZ,lt_,Bool.not_true,gK,ha6,ha7];rw [mK ⟨fun c hc=>by simp at hc,gH1 _ _⟩];rfl
 ·right;obtain⟨u,rfl⟩:=gQy f
  refine⟨u,rfl,?_⟩;rw [y];unfold wX;rw [jQ hb8];simp only [];rw [hb2,jQ (gGz gC4 _ (by decide) ht),gP3,f];simp only [gZ,lt_,Bool.not_true,gK,hb6,hb7];rw [mK ⟨fun c hc=>by simp only [List.mem_singleton] at hc;subst hc;exact hNy _ ht u (by simp [gI5]),by simp [gI5,gH5,tok,gUv]⟩];rfl
theorem gMl(l:List gB):l.length≤gA6 l:=by
 induction l with
 | nil=>simp [gA6]
 | cons x l ih=>have:=gBq x;simp only [List.length_cons,gA6];omega
def gNl(l:List gY):Prop:=∀b∈l,(b.trait=[115,104,111,119]∨b.trait=[111,114,100]∨b.trait=addN)∧∃n,isInf n=false∧b.type_=⟨1,n,[]⟩
theorem hJ6{f:List gU}{g:List UInt8}{b:gB}{y:Int}{st:List Int}(h:FV f)(hb:∃n,isInf n=false∧b=⟨1,n,[]⟩):FV (f++[⟨⟨g,b⟩,y,st⟩]):=fun a ha=>by
 rcases List.mem_append.1 ha with ha | ha
 ·exact h a ha
 ·simp only [List.mem_singleton] at ha;subst ha;exact hb
theorem gOn{w:gI}{k:Int}(hw:gOw w k):∀(l:List gY) (y:Nat) (acc:List gU),gNl l→FV acc→acc.length+2*l.length≤4294967296→∃f,pK w l y acc=some f∧FV f∧f.length≤acc.length+2*l.length
 | [],y,acc,_,hf,_=>⟨acc,rfl,hf,by simp⟩
 | b::l,y,acc,h,hf,hl=>by
   obtain⟨h1,h0⟩:=h b (by simp);have h2:tok b.type_:=by obtain⟨n,_,h0⟩:=h0;rw [h0];exact gH1 _ _
   simp only [List.length_cons] at hl ⊢;have hrec:∀y acc',FV acc'→acc'.length≤acc.length+2→∃f,pK w l y acc'=some f∧FV f∧f.length≤acc.length+2*(l.length+1):=fun y acc' hf ha=>by
    obtain⟨f,f1,f2,f3⟩:=gOn hw l y acc' (fun c hc=>h c (by simp [hc])) hf (by omega);exact⟨f,f1,f2,by omega⟩
   have hf1:∀y,FV (acc++[⟨⟨b.trait,b.type_⟩,y,[]⟩]):=fun y=>hJ6 hf h0;rw [pK,mK h2];simp only [lt_,idT];rw [mK (by simp;omega)];rcases h1 with h1 | h1 | h1
   ·rw [h1] at hf1 ⊢;rw [jQ hw.sh];exact hrec _ _ (hf1 _) (by simp)
   ·rw [h1] at hf1 ⊢;rw [jQ hw.od];simp only [qC];rw [h1,jQ hw.pa,mK h2];simp only [lt_];rw [mK (by simp;omega)];exact hrec _ _ (hJ6 (hf1 _) h0) (by simp)
   ·rw [h1] at hf1 ⊢;rw [jQ hw.ad];exact hrec _ _ (hf1 _) (by simp)
mutual
def jB1:gB→Prop
 | ⟨k,n,ts⟩=>(k=3→n=addN∧ts.length=1)∧hJ7 ts
def hJ7:List gB→Prop
 | []=>True
 | a::ts=>jB1 a∧hJ7 ts
end
theorem gOo:∀{ts:List gB},hJ7 ts↔∀t∈ts,jB1 t
 | []=>by simp [hJ7]
 | a::ts=>by simp only [hJ7,gOo (ts:=ts),List.mem_cons,forall_eq_or_imp]
def DT(V:List (List UInt8))(t:gB):Prop:=NT V t∧jB1 t
theorem gHy{V:List (List UInt8)}{t:gB}(h:DT V t):∀u∈t.args,DT V u:=fun u hu=>⟨hR7 h.1 u hu,by obtain⟨k,n,ts⟩:=t;exact gOo.1 h.2.2 u hu⟩
theorem hVm{V:List (List UInt8)}{k:Int}{n:List UInt8}{ts us:List gB}(h:DT V ⟨k,n,ts⟩)(hu:∀u∈us,DT V u)(hl:us.length=ts.length):DT V ⟨k,n,us⟩:=by
 have c:=h.1.2.1.1;refine⟨⟨⟨by omega,gIm.2 fun u hh=>(hu u hh).1.1⟩,⟨⟨c.1,by omega,fun hk=>List.eq_nil_of_length_eq_zero (by rw [hl,c.2.2 hk];rfl)⟩,gWo.2 fun u hh=>(hu u hh).1.2.1⟩,fun v hv=>?_⟩,⟨fun hk=>⟨(h.2.1 hk).1,by rw [hl];exact(h.2.1 hk).2⟩,gOo.2 fun u hh=>(hu u hh).2⟩⟩;simp only [tvs,List.mem_append] at hv;rcases hv with hv | hv
 ·exact h.1.2.2 v (by simp only [tvs,List.mem_append];exact .inl hv)
 ·obtain⟨u,f,c⟩:=gOk.1 hv;exact(hu u f).1.2.2 v c
theorem hPw{V:List (List UInt8)}{u:gB}(h:DT V u):DT V (gI5 (gH5 u)):=⟨hVk (hPv h.1),fun hk=>absurd hk (by decide),⟨fun _=>⟨rfl,rfl⟩,h.2,trivial⟩,trivial⟩
theorem hAo{V:List (List UInt8)}{t:gB}(h:DT V t)(c:t.kind=3):t.name=addN∧t.args.length=1:=by
 obtain⟨k,n,ts⟩:=t;exact h.2.1 c
theorem hJ8{V:List (List UInt8)}:DT V gAs:=⟨hVl,fun hk=>absurd hk (by decide),trivial⟩
mutual
def hg(r:List UInt8→Nat):gB→Nat
 | ⟨k,n,ts⟩=>max (if k=1 then r n else 1) (hgs r ts)
def hgs(r:List UInt8→Nat):List gB→Nat
 | []=>0
 | a::ts=>max (1+hg r a) (hgs r ts)
end
mutual
def ed:gB→Nat
 | ⟨_,_,ts⟩=>eds ts
def eds:List gB→Nat
 | []=>0
 | a::ts=>max (1+ed a) (eds ts)
end
mutual
def alS(Q:gB→Prop):gB→Prop
 | ⟨k,n,ts⟩=>Q ⟨k,n,ts⟩∧gUt Q ts
def gUt(Q:gB→Prop):List gB→Prop
 | []=>True
 | a::ts=>alS Q a∧gUt Q ts
end
theorem hDf{Q:gB→Prop}:∀{ts:List gB},gUt Q ts↔∀t∈ts,alS Q t
 | []=>by simp [gUt]
 | a::ts=>by simp only [gUt,hDf (ts:=ts),List.mem_cons,forall_eq_or_imp]
theorem gQz{Q:gB→Prop}{t:gB}(h:alS Q t):∀u∈t.args,alS Q u:=by
 obtain⟨k,n,ts⟩:=t;exact hDf.1 h.2
theorem gWp{Q:gB→Prop}{t:gB}(h:alS Q t):Q t:=by
 obtain⟨k,n,ts⟩:=t;exact h.1
mutual
theorem gQ0{Q Q':gB→Prop}(hq:∀t,Q t→Q' t):∀(t:gB),alS Q t→alS Q' t
 | ⟨k,n,ts⟩,h=>⟨hq _ h.1,gYt hq ts h.2⟩
theorem gYt{Q Q':gB→Prop}(hq:∀t,Q t→Q' t):∀(ts:List gB),gUt Q ts→gUt Q' ts
 | [],_=>trivial
 | a::ts,h=>⟨gQ0 hq a h.1,gYt hq ts h.2⟩
end
theorem hJ9{r:List UInt8→Nat}:∀{ts:List gB} {u:gB},u∈ts→1+hg r u≤hgs r ts
 | a::ts,u,h=>by
   simp only [hgs];rcases List.mem_cons.1 h with rfl | h
   ·omega
   ·have:=hJ9 (r:=r) h
    omega
theorem hR8{r:List UInt8→Nat}{t u:gB}(h:u∈t.args):1+hg r u≤hg r t:=by
 obtain⟨k,n,ts⟩:=t
 have:=hJ9 (r:=r) (show u∈ts from h)
 simp only [hg];omega
def va(t:gB):Prop:=t.kind=1→t.args=[]
def Gd(E:Nat)(r:List UInt8→Nat)(h:Nat):Prop:=h≤14∨∃w,r w < h∧h≤r w+E
def HS(E:Nat)(r:List UInt8→Nat)(t:gB):Prop:=alS (fun y=>(y.kind=1∧y.args=[])∨(y.kind≠1∧Gd E r (hg r y))) t
mutual
theorem hVn{r:List UInt8→Nat}:∀(t:gB),alS va t→(t.kind=1∧hg r t=r t.name)∨hg r t≤ed t+1∨∃w,r w < hg r t∧hg r t≤r w+ed t
 | ⟨k,n,ts⟩,h=>by
   by_cases hk:k=1
   ·have:ts=[]:=h.1 hk
    subst hk;subst this;left;simp [hg,hgs]
   ·right;simp only [hg,ed,if_neg hk]
    rcases hPx (r:=r) ts h.2 with c | ⟨w,c,f⟩
    ·left;omega
    ·rcases Nat.lt_or_ge 1 (hgs r ts)with y | y
     ·right;exact⟨w,by omega,by omega⟩
     ·left;omega
theorem hPx{r:List UInt8→Nat}:∀(ts:List gB),gUt va ts→hgs r ts≤eds ts+1∨∃w,r w < hgs r ts∧hgs r ts≤r w+eds ts
 | [],_=>by left;simp [hgs]
 | a::ts,h=>by
   simp only [hgs,eds];rcases Nat.lt_or_ge (hgs r ts) (1+hg r a)with hm | hm
   ·rw [Nat.max_eq_left (by omega:hgs r ts≤1+hg r a)];rcases hVn (r:=r) a h.1 with ⟨_,c⟩ | c | ⟨w,c,f⟩
    ·right;exact⟨a.name,by omega,by omega⟩
    ·left;omega
    ·right;exact⟨w,by omega,by omega⟩
   ·rw [Nat.max_eq_right hm];rcases hPx (r:=r) ts h.2 with c | ⟨w,c,f⟩
    ·left;omega
    ·right;exact⟨w,c,by omega⟩
end
mutual
theorem hVo{E:Nat}(hE:E≤13){r:List UInt8→Nat}:∀(t:gB),alS va t→ed t≤E→HS E r t
 | ⟨k,n,ts⟩,h,he=>by
   refine⟨?_,hPy hE ts h.2 (by simpa only [ed] using he)⟩;by_cases hk:k=1
   ·exact .inl ⟨hk,h.1 hk⟩
   ·refine .inr ⟨hk,?_⟩;rcases hVn (r:=r) ⟨k,n,ts⟩ h with ⟨c,_⟩ | c | ⟨w,c,f⟩
    ·exact absurd c hk
    ·left;omega
    ·right;exact⟨w,c,by omega⟩
theorem hPy{E:Nat}(hE:E≤13){r:List UInt8→Nat}:∀(ts:List gB),gUt va ts→eds ts≤E→gUt (fun y=>(y.kind=1∧y.args=[])∨(y.kind≠1∧Gd E r (hg r y))) ts
 | [],_,_=>trivial
 | a::ts,h,he=>by
   simp only [eds] at he;exact⟨hVo hE a h.1 (by omega),hPy hE ts h.2 (by omega)⟩
end
mutual
def sn(r:List UInt8→Nat):gB→Nat
 | ⟨k,n,ts⟩=>(if k=1 then r n else 1)+sns r ts
def sns(r:List UInt8→Nat):List gB→Nat
 | []=>0
 | a::ts=>sn r a+sns r ts
end
def tw(fs:List gU):Nat→gB→Prop
 | 0,t=>t=gAs∨∃n,isInf n=false∧t=gH5 ⟨1,n,[]⟩∧0≤kH fs ⟨addN,⟨1,n,[]⟩⟩
 | d+1,t=>(t=gAs∨∃n,isInf n=false∧t=gH5 ⟨1,n,[]⟩∧0≤kH fs ⟨addN,⟨1,n,[]⟩⟩)∨∃u,t=gI5 u∧tw fs d u
theorem hVp{fs:List gU}:∀{d:Nat} {t:gB},tw fs d t→tw fs (d+1) t
 | 0,t,h=>.inl h
 | d+1,t,h=>by
   rcases h with h | ⟨u,c,f⟩
   ·exact .inl h
   ·exact .inr ⟨u,c,hVp f⟩
theorem hR9{fs:List gU}{r:List UInt8→Nat}(hr:∀v,isInf v=false→r v=0):∀{d:Nat} {t:gB},tw fs d t→alS (fun y=>va y∧hg r y≤d+2) t
 | 0,t,h=>by
   rcases h with rfl | ⟨n,c,rfl,_⟩
   ·exact⟨⟨fun h=>absurd h (by decide),by simp [gAs,hg,hgs]⟩,trivial⟩
   ·refine⟨⟨fun h=>absurd (show(3:Int)=1 from h) (by decide),?_⟩,⟨⟨fun _=>rfl,?_⟩,trivial⟩,trivial⟩
    ·simp [hg,hgs,hr n c]
    ·simp [hg,hgs,hr n c]
 | d+1,t,h=>by
   rcases h with h | ⟨u,rfl,f⟩
   ·exact gQ0 (fun y hy=>⟨hy.1,by omega⟩) t (hR9 hr (d:=0) h)
   ·have ih:=hR9 hr f
    have:=(gWp ih).2
    refine⟨⟨fun h=>absurd (show(2:Int)=1 from h) (by decide),?_⟩,gQ0 (fun y hy=>⟨hy.1,by omega⟩) u ih,trivial⟩;simp only [hg,hgs,if_neg (show ¬ (2:Int)=1 from by decide)];omega
theorem hVq{E:Nat}{fs:List gU}{r:List UInt8→Nat}(hr:∀v,isInf v=false→r v=0){d:Nat}(hd:d≤12){t:gB}(h:tw fs d t):HS E r t:=
 gQ0 (fun y hy=>by
  by_cases hk:y.kind=1
  ·exact .inl ⟨hk,hy.1 hk⟩
  ·exact .inr ⟨hk,.inl (by have:=hy.2;omega)⟩) t (hR9 hr h)
inductive vE {α β:Type} (R:α→β→Prop):List α→List β→Prop
 | nil:vE R [] []
 | cons {a:α} {b:β} {l:List α} {l':List β} (h:R a b) (t:vE R l l'):vE R (a::l) (b::l')
theorem vE.len{α β:Type}{R:α→β→Prop}{l:List α}{l':List β}(h:vE R l l'):l'.length=l.length:=by
 induction h with
 | nil=>rfl
 | cons _ _ ih=>simp [ih]
theorem vE.mem{α β:Type}{R:α→β→Prop}{l:List α}{l':List β}(h:vE R l l'):∀b∈l',∃a∈l,R a b:=by
 induction h with
 | nil=>intro b hb;simp at hb
 | cons c _ ih=>
   intro b hb;rcases List.mem_cons.1 hb with rfl | hb
   ·exact⟨_,by simp,c⟩
   ·obtain⟨a,f,y⟩:=ih b hb;exact⟨a,by simp [f],y⟩
structure NQ (V:List (List UInt8)) (fs:List gU) (d:Nat) (t u:gB):Prop where
 dt:DT V u
 sz:tnd u≤400
 hg:∀r,hg r u≤hg r t
 tw:t.kind=3→tw fs d u
 bx:∀x,t=gI5 x→x.kind=3→∃v,u=gI5 v∧Go.Proofs.YtegahmhnmjnhhaaGreat.tw fs d v
 s2:∀r,sn r u≤sn r t
def NR(V:List (List UInt8))(fs:List gU)(d:Nat)(t:gB)(r:gB × Int):Prop:=r.2=0→NQ V fs d t r.1
theorem vE.hgs{V:List (List UInt8)}{fs:List gU}{d:Nat}{l l':List gB}(h:vE (NQ V fs d) l l')(r:List UInt8→Nat):hgs r l'≤hgs r l:=by
 induction h with
 | nil=>exact Nat.le_refl _
 | cons c _ ih=>
   have:=c.hg r
   simp only [Go.Proofs.YtegahmhnmjnhhaaGreat.hgs];omega
theorem vE.sns{V:List (List UInt8)}{fs:List gU}{d:Nat}{l l':List gB}(h:vE (NQ V fs d) l l')(r:List UInt8→Nat):sns r l'≤sns r l:=by
 induction h with
 | nil=>exact Nat.le_refl _
 | cons c _ ih=>
   have:=c.s2 r
   simp only [Go.Proofs.YtegahmhnmjnhhaaGreat.sns];omega
theorem hDg{V:List (List UInt8)}{fs:List gU}{e:Nat}{rec:gI→List gY→gB→Int→Option (gB × Int)}{w:gI}{wh:List gY}{d:Int}:∀(xs acc:List gB),(∀u∈xs,∃r,rec w wh u d=some r∧NR V fs e u r)→acc.length+xs.length≤4294967296→
  ∃r,yM rec w wh d xs acc=some r∧(r.2=0→∃ys,r.1=acc++ys∧vE (NQ V fs e) xs ys)
 | [],acc,_,_=>⟨_,rfl,fun _=>⟨[],by simp,.nil⟩⟩
 | x::xs,acc,h,hl=>by
   obtain⟨r,f,y⟩:=h x (by simp);simp only [List.length_cons] at hl;rw [yM,jQ f];cases hc:(r.2 != 0)with
   | true=>exact⟨_,rfl,fun c=>by have c:r.2=0:=c;rw [c] at hc;cases hc⟩
   | false=>
     have hc0:r.2=0:=by simpa using hc
     rw [gK,mK (by simp;omega)];obtain⟨q,q1,q2⟩:=hDg xs (acc++[r.1]) (fun u hu=>h u (by simp [hu])) (by simp;omega);refine⟨q,q1,fun c=>?_⟩;obtain⟨ys,y1,y2⟩:=q2 c;exact⟨r.1::ys,by rw [y1];simp,.cons (y hc0) y2⟩
theorem hAp{M:Nat}:∀(l:List gB),(∀u∈l,tnd u≤M)→gA6 l≤M*l.length
 | [],_=>by simp [gA6]
 | a::l,h=>by
   have c:=h a (by simp);have f:=hAp l (fun u hu=>h u (by simp [hu]));simp only [gA6,List.length_cons,Nat.mul_add,Nat.mul_one];omega
theorem gUu{w:gI}{k:Int}(hw:gOw w k){wh:List gY}{fs:List gU}(hf:pQ w wh=some fs)(hF:FV fs){t:gB}(ht:tok t)(h4:n4 t):∃e c,gE4 w wh ⟨addN,t⟩=some (e,c)∧(c=0→hX3 k t e∧(e.kind≠1→0≤kH fs ⟨addN,t⟩)):=by
 obtain⟨e,c,f,y⟩:=hN3 hw hF 12 5000 t (by omega) (by omega) ht h4;have f:uD 5000 w fs ⟨addN,t⟩ 12=some (e,c):=f;unfold gE4;rw [jQ hf,jQ f];exact⟨e,c,rfl,fun h=>⟨(y h).1,(y h).2⟩⟩
theorem hKd{V:List (List UInt8)}{fs:List gU}{d:Nat}{t:gB}{ys:List gB}(hD:DT V t)(h:vE (NQ V fs d) t.args ys)(hs:tnd ⟨t.kind,t.name,ys⟩≤400)(f:t.kind=3→tw fs d ⟨t.kind,t.name,ys⟩):NQ V fs d t ⟨t.kind,t.name,ys⟩:=by
 obtain⟨k,n,ts⟩:=t;refine⟨hVm hD (fun u hu=>?_) h.len,hs,fun r=>?_,f,fun x hx hk=>?_,fun r=>?_⟩
 ·obtain⟨a,_,c⟩:=h.mem u hu;exact c.dt
 ·have:=h.hgs r
  simp only [hg];have e:(⟨k,n,ts⟩:gB).args=ts:=rfl;rw [e] at this;omega
 ·cases hx;cases h with
  | cons y c=>
    cases c;exact⟨_,rfl,y.tw hk⟩
 ·have:=h.sns r
  simp only [sn];have e:(⟨k,n,ts⟩:gB).args=ts:=rfl;rw [e] at this;omega
theorem hVr{w:gI}{wh:List gY}{d:Int}:∀{n:Nat} {s:gB × Int},mE n w wh gAs d=some s→s.2=0→s.1=gAs
 | 0,s,h,_=>by rw [mE] at h;cases h
 | 1,s,h,_=>by rw [mE] at h;unfold zP at h;rw [gBr] at h;cases h
 | n+2,s,h,_=>by
   rw [mE] at h;unfold zP at h;rw [gBr] at h;cases h;rfl
theorem gOp{w:gI}{k:Int}(hw:gOw w k){wh:List gY}{fs:List gU}(hf:pQ w wh=some fs)(hF:FV fs)(V:List (List UInt8)):∀(d m n:Nat) (t:gB),tnd t≤m→2*m+d*1000≤n→d≤12→DT V t→tnd t≤40000→∃r,mE n w wh t (d:Int)=some r∧NR V fs d t r:=by
 intro d
 induction d with
 | zero=>
   intro m
   induction m with
   | zero=>intro n t h;have:=gBq t;omega
   | succ m ihm=>
     intro n t ht hn hd hD h4;obtain⟨n,rfl⟩:∃j,n=j+2:=⟨n - 2,by omega⟩
     have hargs:gA6 t.args+1=tnd t:=by obtain⟨a,b,c⟩:=t;simp only [tnd];omega
     have hall:=hDg (V:=V) (fs:=fs) (e:=0) (rec:=mE n) (w:=w) (wh:=wh) (d:=((0:Nat):Int)) t.args [] (fun u hu=>ihm n u (by have:=zC hu;omega) (by omega) hd (gHy hD u hu) (by have:=zC hu;omega)) (by have:=gMl t.args;simp;omega);obtain⟨r,r1,r2⟩:=hall;have r1:gBr (n+1) w wh t.args ((0:Nat):Int)=some r:=by rw [gBr];exact r1
     rw [mE];unfold zP;rw [jQ r1];cases hc:(r.2 != 0)with
     | true=>exact⟨_,rfl,fun f=>by have f:r.2=0:=f;rw [f] at hc;cases hc⟩
     | false=>
       have hc0:r.2=0:=by simpa using hc
       obtain⟨ys,q1,y⟩:=r2 hc0;rw [List.nil_append] at q1;rw [q1];have hlen:ys.length≤40000:=by have:=gMl t.args;have:=y.len;omega
       have hsz:gA6 ys≤400*40000:=Nat.le_trans (hAp ys (fun u hu=>by obtain⟨a,_,h⟩:=y.mem u hu;exact h.sz)) (Nat.mul_le_mul_left 400 hlen);have htz:tsz ⟨t.kind,t.name,ys⟩=(tnd ⟨t.kind,t.name,ys⟩:Int):=yX _ (by simp only [tnd];omega);rw [gK,htz];cases hs:decide ((tnd ⟨t.kind,t.name,ys⟩:Int) > 400)with
       | true=>exact⟨_,rfl,fun f=>by cases f⟩
       | false=>
         have hs:=of_decide_eq_false hs;simp only [gK,lt_];cases hk:cnd (t.kind != 3) true ((ys.length:Int) != 1)with
         | true=>
           refine⟨_,rfl,fun _=>hKd hD y (by omega) (fun h3=>?_)⟩;exfalso;rw [h3] at hk;simp only [bne_self_eq_false,gK] at hk;have h1:=hD.2
           have:=y.len
           have h5:=(hAo hD h3).2;simp at hk;omega
         | false=>exact⟨_,rfl,fun f=>by cases f⟩
 | succ d ihd=>
   intro m
   induction m with
   | zero=>intro n t h;have:=gBq t;omega
   | succ m ihm=>
     intro n t ht hn hd hD h4;obtain⟨n,rfl⟩:∃j,n=j+2:=⟨n - 2,by omega⟩
     have hargs:gA6 t.args+1=tnd t:=by obtain⟨a,b,c⟩:=t;simp only [tnd];omega
     have hall:=hDg (V:=V) (fs:=fs) (e:=d+1) (rec:=mE n) (w:=w) (wh:=wh) (d:=((d+1:Nat):Int)) t.args [] (fun u hu=>ihm n u (by have:=zC hu;omega) (by omega) hd (gHy hD u hu) (by have:=zC hu;omega)) (by have:=gMl t.args;simp;omega);obtain⟨r,r1,r2⟩:=hall;have r1:gBr (n+1) w wh t.args ((d+1:Nat):Int)=some r:=by rw [gBr];exact r1
     rw [mE];unfold zP;rw [jQ r1];cases hc:(r.2 != 0)with
     | true=>exact⟨_,rfl,fun f=>by have f:r.2=0:=f;rw [f] at hc;cases hc⟩
     | false=>
       have hc0:r.2=0:=by simpa using hc
       obtain⟨ys,q1,y⟩:=r2 hc0;rw [List.nil_append] at q1;rw [q1];have hlen:ys.length≤40000:=by have:=gMl t.args;have:=y.len;omega
       have hsz:gA6 ys≤400*40000:=Nat.le_trans (hAp ys (fun u hu=>by obtain⟨a,_,h⟩:=y.mem u hu;exact h.sz)) (Nat.mul_le_mul_left 400 hlen);have htz:tsz ⟨t.kind,t.name,ys⟩=(tnd ⟨t.kind,t.name,ys⟩:Int):=yX _ (by simp only [tnd];omega);rw [gK,htz];cases hs:decide ((tnd ⟨t.kind,t.name,ys⟩:Int) > 400)with
       | true=>exact⟨_,rfl,fun f=>by cases f⟩
       | false=>
         have hs:=of_decide_eq_false hs;simp only [gK,lt_];by_cases hk3:t.kind=3
         ·obtain⟨hnm,hone⟩:=hAo hD hk3;have hl1:ys.length=1:=by rw [y.len];exact hone
          rw [hk3];simp only [bne_self_eq_false,gK];rw [show ((ys.length:Int) != 1)=false from by rw [hl1];rfl,gK,show(((d+1:Nat):Int)==0)=false from beq_false_of_ne (by omega),gK];obtain⟨x,hx⟩:∃x,t.args=[x]:=by
           match t.args,hone with
           | [x],_=>exact⟨x,rfl⟩
          rw [hx] at y;obtain⟨u,rfl⟩:∃u,ys=[u]:=by
           match ys,hl1 with
           | [u],_=>exact⟨u,rfl⟩
          have hU:NQ V fs (d+1) x u:=by cases y with | cons h _=>exact h
          rw [show at? [u] 0=some u from rfl];simp only [bnd];obtain⟨e,c,e1,e2⟩:=gUu hw hf hF hU.dt.1.1 hU.dt.1.2.1;have htt:t=gH5 x:=by obtain⟨a,b,c⟩:=t;simp only at hk3 hnm hx;subst hk3;subst hnm;subst hx;rfl
          rw [hnm,e1];simp only;cases hc2:(c != 0)with
          | true=>exact⟨_,rfl,fun f=>by cases f⟩
          | false=>
            have hc3:c=0:=by simpa using hc2
            obtain⟨f1,f2⟩:=e2 hc3;rw [gK];cases hek:(e.kind != 1)with
            | true=>
              have hek:e.kind≠1:=by simpa using hek
              obtain⟨m,m1,m2⟩:=f1.2 hek;have hfd:=f2 hek;rw [m2] at hfd;refine⟨_,rfl,fun _=>?_⟩
              have:=hKd (ys:=[u]) hD (by rw [hx];exact y) (by omega) (fun _=>?_)
              ·rw [hk3,hnm] at this;exact this
              ·rw [hk3,hnm];exact .inl (.inr ⟨m,m1,by rw [m2];rfl,hfd⟩)
            | false=>
              have hek1:e.kind=1:=by simpa using hek
              rw [gK];have hw1:IntKind.i64.wrap (((d+1:Nat):Int) - 1)=(d:Int):=by rw [qR _ (by omega) (by omega)];omega
              rcases hDd hw f1 hek1 hU.dt.1.1 with ⟨hI,g⟩ | ⟨v,rfl,g⟩
              ·rw [g];simp only [Bool.not_true,gK,hw1];obtain⟨s,s1,s2⟩:=ihd 403 (n+1) gAs (by decide) (by omega) (by omega) hJ8 (by decide);rw [s1];refine⟨_,rfl,fun f=>?_⟩;have s3:=s2 f
               have:s.1=gAs:=hVr s1 f
               refine⟨s3.dt,s3.sz,fun r=>?_,fun _=>?_,fun x hx hk=>?_,fun r=>?_⟩
               ·rw [this,htt];simp [gAs,gH5,hg,hgs]
               ·rw [this];exact .inl (.inl rfl)
               ·rw [htt] at hx;cases hx
               ·rw [this,htt];simp only [gAs,gH5,sn,sns,if_neg (show ¬ (2:Int)=1 from by decide),if_neg (show ¬ (3:Int)=1 from by decide)];omega
              ·rw [g];simp only [Bool.not_true,gK,hw1];have hv:tnd v+1≤400:=by have:=hU.sz;simp only [gI5,tnd,gA6] at this;omega
               have hvD:DT V v:=gHy hU.dt v (by simp [gI5]);obtain⟨s,s1,s2⟩:=ihd 403 (n+1) (gI5 (gH5 v)) (by simp only [gI5,gH5,tnd,gA6];omega) (by omega) (by omega) (hPw hvD) (by simp only [gI5,gH5,tnd,gA6];omega);rw [s1];refine⟨_,rfl,fun f=>?_⟩;have s3:=s2 f;obtain⟨u',u1,u2⟩:=s3.bx (gH5 v) rfl rfl;refine⟨s3.dt,s3.sz,fun r=>?_,fun _=>.inr ⟨u',u1,u2⟩,fun x hx hk=>?_,fun r=>?_⟩
               ·have h1:=s3.hg r;have h2:=hU.hg r;have h3:hg r (gI5 (gH5 v))=hg r (gH5 (gI5 v)):=by
                 simp only [gI5,gH5,hg,hgs,if_neg (show ¬ (2:Int)=1 from by decide),if_neg (show ¬ (3:Int)=1 from by decide)]
                have h4:hg r (gH5 (gI5 v))≤hg r (gH5 x):=by
                 simp only [gH5,hg,hgs,if_neg (show ¬ (3:Int)=1 from by decide)] at h2 ⊢;omega
                rw [htt];show hg r s.1≤_;omega
               ·rw [htt] at hx;cases hx
               ·have h1:=s3.s2 r;have h2:=hU.s2 r;rw [htt];show sn r s.1≤_;simp only [gI5,gH5,sn,sns,if_neg (show ¬ (2:Int)=1 from by decide),if_neg (show ¬ (3:Int)=1 from by decide)] at h1 h2 ⊢;omega
         ·rw [show (t.kind != 3)=true from bne_iff_ne.2 hk3,gZ,gZ];exact⟨_,rfl,fun _=>hKd hD y (by omega) (fun h3=>absurd h3 hk3)⟩
end Go.Proofs.YtegahmhnmjnhhaaGreat
