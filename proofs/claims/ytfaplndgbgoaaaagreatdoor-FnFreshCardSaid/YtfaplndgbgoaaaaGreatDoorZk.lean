import Derived.Test.YtfaplndgbgoaaaaGreatDoorEng38
import Derived.Test.YtfaplndgbgoaaaaGreatDoorEng67
import Derived.Test.YtfaplndgbgoaaaaGreatDoorCur
import Derived.Test.YtfaplndgbgoaaaaGreatDoorB12
import Derived.Test.YtfaplndgbgoaaaaGreatDoorB13
import Derived.Test.YtfaplndgbgoaaaaGreatDoorVr
import Derived.Test.YtfaplndgbgoaaaaGreatDoorB4
set_option maxHeartbeats 4000000
set_option linter.unusedVariables false
set_option linter.unusedSimpArgs false
set_option linter.unusedSectionVars false
namespace Go.Proofs.YtfaplndgbgoaaaaGreatDoor
open Go Go.Eng
attribute [local irreducible] V VO VQ VY Quiet QR jB kX Rng uJ uY qW
theorem gIo(p t:gD)(hp:tnd p≤40000)(ht:tok t):gDl p t=some (match mtT p t [] with | some l=>(l,true) | none=>([],false)):=by
 obtain⟨q,e1,e2⟩:=(gMn 100000).2 [p] [t] [] (by simp only [gA8];omega) (fun b hb=>by simp at hb) (by simpa using ht) rfl (by simp [gA8];omega)
 have h0:((([p]:List gD).length:Int) !=(([t]:List gD).length:Int))=false:=by simp
 unfold gDl gE4
 rw [h0,gP,kG e1]
 simp only [gV2] at e2
 cases hm:mtT p t [] with
 | none=>
   rw [hm] at e2
   have e3:q.1=false:=e2
   rw [e3]
   rfl
 | some l=>
   rw [hm] at e2
   have e3:q=(true,l):=e2
   subst e3
   rfl
def addN:List UInt8:=[97,100,100]
def hHy:List UInt8:=[105,110,116]
def hF3:List UInt8:=[98,111,120]
def gGm:gD:=⟨2,hHy,[]⟩
def gFi:gD:=⟨2,hF3,[⟨1,[97],[]⟩]⟩
def gV5(t:gD):gD:=⟨3,addN,[t]⟩
def gQd(t:gD):gD:=⟨2,hF3,[t]⟩
def isI(t:gD):Bool:=(t.kind==2) && (t.name==hHy) && (t.args.length==0)
def gUp(t:gD):Bool:=(t.kind==2) && (t.name==hF3) && (t.args.length==1)
theorem gUq(t:gD):mtT gGm t []=cnd (isI t) (some []) none:=by
 obtain⟨k,n,ts⟩:=t
 simp only [gGm,mtT,isI]
 rw [show ((2:Int)==1)=false from by decide,gP]
 by_cases h1:k=2
 ·subst h1
  by_cases h2:n=hHy
  ·subst h2
   cases ts with
   | nil=>rfl
   | cons a ts=>
     simp only [bne_self_eq_false,beq_self_eq_true,Bool.not_true,gP,List.length_cons,List.length_nil,Bool.and_self,Bool.true_and]
     rw [show (((0:Nat):Int) !=((ts.length+1:Nat):Int))=true from bne_iff_ne.2 (by omega),show(ts.length+1==0)=false from beq_false_of_ne (by omega)]
     rfl
  ·rw [show (hHy==n)=false from beq_false_of_ne (Ne.symm h2),show(n==hHy)=false from beq_false_of_ne h2]
   simp [cnd]
 ·rw [show ((2:Int) != k)=true from bne_iff_ne.2 (Ne.symm h1),show(k==2)=false from beq_false_of_ne h1]
  simp [cnd]
theorem gUr(t:gD):mtT gFi t []=cnd (gUp t) (some [⟨[97],t.args.headD ⟨0,[],[]⟩⟩]) none:=by
 obtain⟨k,n,ts⟩:=t
 simp only [gFi,mtT,gUp]
 rw [show ((2:Int)==1)=false from by decide,gP]
 by_cases h1:k=2
 ·subst h1
  by_cases h2:n=hF3
  ·subst h2
   match ts with
   | []=>rfl
   | [a]=>rfl
   | a::b::ts=>
     simp only [bne_self_eq_false,beq_self_eq_true,Bool.not_true,gP,List.length_cons,List.length_nil,Bool.and_self,Bool.true_and]
     rw [show (((0+1:Nat):Int) !=((ts.length+1+1:Nat):Int))=true from bne_iff_ne.2 (by omega),show(ts.length+1+1==1)=false from beq_false_of_ne (by omega)]
     rfl
  ·rw [show (hF3==n)=false from beq_false_of_ne (Ne.symm h2),show(n==hF3)=false from beq_false_of_ne h2]
   simp [cnd]
 ·rw [show ((2:Int) != k)=true from bne_iff_ne.2 (Ne.symm h1),show(k==2)=false from beq_false_of_ne h1]
  simp [cnd]
def gN2(w:gH)(o:gT):Option jZ:=bnd (at? w.packages o.package) fun p=>at? p.instances o.at_
def gUs(w:gH)(l:List gT):Prop:=∀o∈l,∃i,gN2 w o=some i∧(i.trait==addN)=false
structure gUt (w:gH) (k:Int):Prop where
 refs:∃pre post,gAo w=some (pre++(⟨0,k⟩::⟨0,k+1⟩::post))∧gUs w pre∧gUs w post
 i1:∃i,gN2 w ⟨0,k⟩=some i∧i.trait=addN∧i.head=gGm∧i.where_=[]∧i.default_=false∧i.hasAssoc=true∧i.assoc=gGm∧gBl w ⟨0,k⟩=some (i,true)
 i2:∃i,gN2 w ⟨0,k+1⟩=some i∧i.trait=addN∧i.head=gFi∧i.where_=[⟨addN,⟨1,[97],[]⟩⟩]∧i.default_=false∧i.hasAssoc=true∧i.assoc=gQd (gV5 ⟨1,[97],[]⟩)∧gBl w ⟨0,k+1⟩=some (i,true)
 tr:(vV w addN).1.auto=false
 sh:qF w [115,104,111,119]=some []
 od:qF w [111,114,100]=some [[101,113]]
 ad:qF w addN=some []
 pa:wD w [111,114,100] [101,113]=some ([0],true)
theorem gJi{w:gH}{o:gT}{i:jZ}(h:gN2 w o=some i):∃p,at? w.packages o.package=some p∧at? p.instances o.at_=some i:=gK h
theorem gP8{w:gH}(t:gD):∀(l acc:List gT) (rest:List gT),gUs w l→kM w ⟨addN,t⟩ (l++rest) acc=kM w ⟨addN,t⟩ rest acc
 | [],acc,rest,_=>rfl
 | o::l,acc,rest,h=>by
   obtain⟨i,h1,h2⟩:=h o (by simp)
   obtain⟨p,h3,h4⟩:=gJi h1
   simp only [List.cons_append,kM,h3,h4,bnd,h2,gP]
   exact gP8 t l acc rest (fun o ho=>h o (by simp [ho]))
def gY3(k:Int)(t:gD):List gT:=cnd (isI t) [⟨0,k⟩] (cnd (gUp t) [⟨0,k+1⟩] [])
theorem hBz{t:gD}(h:isI t=true):gUp t=false:=by
 unfold isI at h
 unfold gUp
 simp only [Bool.and_eq_true,beq_iff_eq] at h
 rw [h.2]
 simp
theorem hFl{w:gH}{k:Int}(hw:gUt w k)(t:gD)(ht:tok t):uU w ⟨addN,t⟩=some (gY3 k t):=by
 obtain⟨pre,post,h1,h2,h3⟩:=hw.refs
 obtain⟨a,ha,ha1,ha2,_⟩:=hw.i1
 obtain⟨b,hb,hb1,hb2,_⟩:=hw.i2
 obtain⟨p,ha3,ha4⟩:=gJi ha
 obtain⟨q,hb3,hb4⟩:=gJi hb
 have hpq:q=p:=Option.some.inj (hb3.symm.trans ha3)
 subst hpq
 unfold uU
 rw [kG h1,gP8 t pre [] _ h2]
 have e1:zV a.head t=some (isI t):=by rw [ha2,gGy gGm t (by decide) ht,gUq];cases isI t<;>rfl
 have e2:zV b.head t=some (gUp t):=by rw [hb2,gGy gFi t (by decide) ht,gUr];cases gUp t<;>rfl
 have hend:∀acc,kM w ⟨addN,t⟩ post acc=some acc:=fun acc=>by
  have:=gP8 t post acc [] h3
  rw [List.append_nil] at this
  rw [this]
  rfl
 simp only [kM,ha3,ha4,hb3,hb4,bnd,ha1,hb1,beq_self_eq_true,jH,e1,e2,gY3]
 cases hI:isI t with
 | true=>
   simp only [jH,hBz hI,gP]
   rw [pF (by simp)]
   exact hend _
 | false=>
   simp only [gP]
   cases gUp t with
   | true=>
     simp only [jH]
     rw [pF (by simp)]
     exact hend _
   | false=>simp only [gP];exact hend _
theorem hB5:uV gGm gGm=some false:=by
 have h:zV gGm gGm=some true:=by rw [gGy gGm gGm (by decide) (gJg _ _),gUq];rfl
 unfold uV uA
 simp only [h,bnd,jH,Bool.not_true]
theorem hB6:tok gFi:=by simp [gFi,tok,gPv]
theorem hB7:uV gFi gFi=some false:=by
 have h:zV gFi gFi=some true:=by rw [gGy gFi gFi (by decide) hB6,gUr];rfl
 unfold uV uA
 simp only [h,bnd,jH,Bool.not_true]
def hFm(k:Int)(t:gD):gT × Int:=cnd (isI t) (⟨0,k⟩,0) (cnd (gUp t) (⟨0,k+1⟩,0) (⟨0,0⟩,1))
theorem gY4{w:gH}{o:gT}{i:jZ}(h:gN2 w o=some i)(hm:uV i.head i.head=some false)(hd:i.default_=false):pQ w [o] [o]=some (o,0):=by
 obtain⟨p,h3,h4⟩:=gJi h
 simp only [pQ,uB,h3,h4,bnd,hm,jH,Bool.not_false,hd,gP]
theorem hHz{w:gH}{k:Int}(hw:gUt w k)(t:gD)(ht:tok t):yU w ⟨addN,t⟩=some (hFm k t):=by
 obtain⟨a,ha,ha1,ha2,_,ha5,_⟩:=hw.i1
 obtain⟨b,hb,hb1,hb2,_,hb5,_⟩:=hw.i2
 unfold yU
 rw [kG (hFl hw t ht)]
 unfold gY3 hFm
 cases isI t with
 | true=>simp only [jH];exact gY4 ha (by rw [ha2];exact hB5) ha5
 | false=>
   simp only [gP]
   cases gUp t with
   | true=>simp only [jH];exact gY4 hb (by rw [hb2];exact hB7) hb5
   | false=>rfl
def hKy(k:Int)(t:gD)(e:gV):Prop:=e.kind=1→(isI t=true∧e.at_=⟨0,k⟩)∨(gUp t=true∧e.at_=⟨0,k+1⟩)
theorem gNk(e:gV)(h:e.args=[])(n:Nat):gGh (n+2) e=some e:=by
 obtain⟨k,m,o,l⟩:=e
 simp only at h
 subst h
 rfl
theorem gRw(steps:List Int)(k n a b:Int)(l:List gV):∃e,qN steps k n a b l=some e∧(e.kind=k∨e.kind=3):=by
 induction steps generalizing k n a b l with
 | nil=>exact⟨_,rfl,.inl rfl⟩
 | cons x steps ih=>
   obtain⟨e,h1,h2⟩:=ih 3 x 0 0 [⟨k,n,⟨a,b⟩,l⟩]
   exact⟨e,h1,.inr (by rcases h2 with h | h<;>exact h)⟩
theorem find_ok(g:jD):∀(l:List jK) (y:Nat),pM g l y= -1∨∃j:Nat,j < l.length∧pM g l y=((y+j:Nat):Int)
 | [],y=>.inl rfl
 | a::l,y=>by
   simp only [pM]
   cases gDr a.goal g with
   | true=>exact .inr ⟨0,by simp,rfl⟩
   | false=>
     simp only [gP]
     rcases find_ok g l (y+1)with h | ⟨j,h1,h2⟩
     ·exact .inl h
     ·exact .inr ⟨j+1,by simp;omega,by rw [h2];congr 1;omega⟩
mutual
def n4:gD→Prop
 | ⟨k,_,ts⟩=>k≠4∧n4s ts
def n4s:List gD→Prop
 | []=>True
 | a::ts=>n4 a∧n4s ts
end
theorem gP9:∀{ts:List gD},n4s ts↔∀t∈ts,n4 t
 | []=>by simp [n4s]
 | a::ts=>by simp only [n4s,gP9 (ts:=ts),List.mem_cons,forall_eq_or_imp]
theorem gUu{t:gD}(h:gUp t=true):∃u,t=gQd u:=by
 obtain⟨k,n,ts⟩:=t
 unfold gUp at h
 simp only [Bool.and_eq_true,beq_iff_eq] at h
 obtain⟨⟨rfl,rfl⟩,h3⟩:=h
 match ts,h3 with
 | [u],_=>exact⟨u,rfl⟩
theorem hB8{w:gH}{k:Int}(hw:gUt w k)(facts:List jK):∀(d n:Nat) (t:gD),2*d+2≤n→d≤12→tok t→n4 t→∃e c,zP n w facts ⟨addN,t⟩ (d:Int)=some (e,c)∧(c=0→hKy k t e):=by
 intro d
 induction d with
 | zero=>
   intro n t hn _ ht h4
   obtain⟨n,rfl⟩:∃m,n=m+2:=⟨n - 2,by omega⟩
   rw [zP]
   unfold gF7
   rcases find_ok ⟨addN,t⟩ facts 0 with h | ⟨j,h1,h2⟩
   ·have h:qB facts ⟨addN,t⟩= -1:=h
    rw [h]
    exact⟨_,_,rfl,fun h=>by cases h⟩
   ·have h2:qB facts ⟨addN,t⟩=((0+j:Nat):Int):=h2
    obtain⟨e,q1,q2⟩:=gRw facts[j].steps 2 facts[j].from_ 0 0 []
    rw [h2,show decide (((0+j:Nat):Int)≥0)=true from decide_eq_true (by omega),jH,gD7,Nat.zero_add,List.getElem?_eq_getElem h1]
    simp only [bnd]
    unfold uG
    rw [gNk _ rfl 4998]
    simp only [bnd,q1]
    exact⟨_,_,rfl,fun _ hk=>by rcases q2 with h | h<;>rw [h] at hk<;>cases hk⟩
 | succ d ih=>
   intro n t hn hd ht h4
   obtain⟨n,rfl⟩:∃m,n=m+2:=⟨n - 2,by omega⟩
   rw [zP]
   unfold gF7
   rcases find_ok ⟨addN,t⟩ facts 0 with h | ⟨j,h1,h2⟩
   ·have h:qB facts ⟨addN,t⟩= -1:=h
    rw [h,show decide ((-1:Int)≥0)=false from by decide,gP,show decide (((d+1:Nat):Int)≤0)=false from decide_eq_false (by omega),gP]
    simp only [lt_,hw.tr,gP]
    cases hk:cnd (t.kind==1) true (t.kind==3)with
    | true=>exact⟨_,_,rfl,fun h=>by cases h⟩
    | false=>
      have h44:t.kind≠4:=by obtain⟨a,b,c⟩:=t;exact h4.1
      rw [gP,show(t.kind==4)=false from beq_false_of_ne h44,gP]
      have key:∃e c,gHl (n+1) w facts ⟨addN,t⟩ ((d+1:Nat):Int)=some (e,c)∧(c=0→hKy k t e):=by
       rw [gHl]
       unfold gJk
       rw [kG (hHz hw t ht)]
       unfold hFm
       obtain⟨a,ha,_,ha2,ha3,_⟩:=hw.i1
       obtain⟨b,hb,_,hb2,hb3,_⟩:=hw.i2
       obtain⟨p,ha4,ha5⟩:=gJi ha
       obtain⟨q,hb4,hb5⟩:=gJi hb
       cases hI:isI t with
       | true=>
         simp only [jH,bne_self_eq_false,gP,ha4,ha5,bnd]
         rw [ha2,gIo gGm t (by decide) ht,gUq,hI]
         simp only [jH,ha3,gAb]
         exact⟨_,_,rfl,fun _ _=>.inl ⟨hI,rfl⟩⟩
       | false=>
         simp only [gP]
         cases hB:gUp t with
         | true=>
           simp only [jH,bne_self_eq_false,gP,hb4,hb5,bnd]
           rw [hb2,gIo gFi t (by decide) ht,gUr,hB]
           simp only [jH,hb3,gAb]
           obtain⟨u,rfl⟩:=gUu hB
           have hu:tok u:=hGb _ ht u (by simp [gQd])
           rw [pF ⟨fun c hc=>by simp only [List.mem_singleton] at hc;subst hc;exact hu,gJg _ _⟩]
           simp only [lt_]
           rw [show IntKind.i64.wrap (((d+1:Nat):Int) - 1)=(d:Int)from by rw [wP _ (by omega) (by omega)];omega]
           obtain⟨e,c,e1,e2⟩:=ih n u (by omega) (by omega) hu (h4.2.1)
           have e1:zP n w facts ⟨addN,apT [⟨[97],(gQd u).args.headD ⟨0,[],[]⟩⟩] ⟨1,[97],[]⟩⟩ (d:Int)=some (e,c):=e1
           rw [kG e1]
           simp only []
           cases hc:(c != 0)with
           | true=>exact⟨_,_,rfl,fun h=>by rw [h] at hc;cases hc⟩
           | false=>
             simp only [gP]
             rw [pF (by simp)]
             exact⟨_,_,rfl,fun _ _=>.inr ⟨hB,rfl⟩⟩
         | false=>exact⟨_,_,rfl,fun h=>by cases h⟩
      obtain⟨e,c,e1,e2⟩:=key
      rw [kG e1]
      exact⟨e,c,rfl,e2⟩
   ·have h2:qB facts ⟨addN,t⟩=((0+j:Nat):Int):=h2
    obtain⟨e,q1,q2⟩:=gRw facts[j].steps 2 facts[j].from_ 0 0 []
    rw [h2,show decide (((0+j:Nat):Int)≥0)=true from decide_eq_true (by omega),jH,gD7,Nat.zero_add,List.getElem?_eq_getElem h1]
    simp only [bnd]
    unfold uG
    rw [gNk _ rfl 4998]
    simp only [bnd,q1]
    exact⟨_,_,rfl,fun _ hk=>by rcases q2 with h | h<;>rw [h] at hk<;>cases hk⟩
def NT(V:List (List UInt8))(t:gD):Prop:=tok t∧n4 t∧(∀v∈tvs t,v∈V)
theorem hH4{V:List (List UInt8)}{u:gD}(h:NT V u):NT V (gQd u):=⟨by simp [gQd,tok,gPv,h.1],⟨by decide,h.2.1,trivial⟩,fun v hv=>by simp only [gQd,tvs,gJj] at hv;simpa using h.2.2 v (by simpa using hv)⟩
theorem hC8{V:List (List UInt8)}{u:gD}(h:NT V u):NT V (gV5 u):=⟨by simp [gV5,tok,gPv,h.1],⟨by decide,h.2.1,trivial⟩,fun v hv=>by simp only [gV5,tvs,gJj] at hv;simpa using h.2.2 v (by simpa using hv)⟩
theorem hH8{V:List (List UInt8)}:NT V gGm:=⟨gJg _ _,⟨by decide,trivial⟩,fun v hv=>by simp [gGm,tvs,gJj] at hv⟩
theorem hFo{V:List (List UInt8)}{t:gD}(h:NT V t):∀u∈t.args,NT V u:=fun u hu=>by
 obtain⟨k,n,ts⟩:=t
 refine⟨hGb _ h.1 u hu,gP9.1 h.2.1.2 u hu,fun v hv=>h.2.2 v ?_⟩
 simp only [tvs,List.mem_append]
 exact .inr (gJz.2 ⟨u,hu,hv⟩)
theorem hB9{w:gH}{k:Int}(hw:gUt w k){t:gD}{e:gV}(h:hKy k t e)(hk:e.kind=1)(ht:tok t):(isI t=true∧yF w e.at_ t=some (gGm,true))∨(∃u,t=gQd u∧yF w e.at_ t=some (gQd (gV5 u),true)):=by
 obtain⟨a,ha,_,ha2,_,_,ha6,ha7,ha8⟩:=hw.i1
 obtain⟨b,hb,_,hb2,_,_,hb6,hb7,hb8⟩:=hw.i2
 rcases h hk with ⟨h1,h2⟩ | ⟨h1,h2⟩
 ·left
  refine⟨h1,?_⟩
  rw [h2]
  unfold yF
  rw [kG ha8]
  simp only []
  rw [ha2,kG (gIo gGm t (by decide) ht),gUq,h1]
  simp only [jH,lt_,Bool.not_true,gP,ha6,ha7]
  rw [pF ⟨fun c hc=>by simp at hc,gJg _ _⟩]
  rfl
 ·right
  obtain⟨u,rfl⟩:=gUu h1
  refine⟨u,rfl,?_⟩
  rw [h2]
  unfold yF
  rw [kG hb8]
  simp only []
  rw [hb2,kG (gIo gFi _ (by decide) ht),gUr,h1]
  simp only [jH,lt_,Bool.not_true,gP,hb6,hb7]
  rw [pF ⟨fun c hc=>by simp only [List.mem_singleton] at hc;subst hc;exact hGb _ ht u (by simp [gQd]),by simp [gQd,gV5,tok,gPv]⟩]
  rfl
theorem gKb(l:List gD):l.length≤gA8 l:=by
 induction l with
 | nil=>simp [gA8]
 | cons x l ih=>have:=gD5 x;simp only [List.length_cons,gA8];omega
def gNl(l:List jD):Prop:=∀b∈l,(b.trait=[115,104,111,119]∨b.trait=[111,114,100]∨b.trait=addN)∧tok b.type_
theorem gRx{w:gH}{k:Int}(hw:gUt w k):∀(l:List jD) (y:Nat) (acc:List jK),gNl l→acc.length+2*l.length≤4294967296→∃f,qA w l y acc=some f
 | [],y,acc,_,_=>⟨acc,rfl⟩
 | b::l,y,acc,h,hl=>by
   obtain⟨h1,h2⟩:=h b (by simp)
   simp only [List.length_cons] at hl
   have hrec:∀y acc',acc'.length≤acc.length+2→∃f,qA w l y acc'=some f:=fun y acc' ha=>gRx hw l y acc' (fun c hc=>h c (by simp [hc])) (by omega)
   rw [qA,pF h2]
   simp only [lt_,idT]
   rw [pF (by simp;omega)]
   rcases h1 with h1 | h1 | h1
   ·rw [h1,kG hw.sh]
    exact hrec _ _ (by simp)
   ·rw [h1,kG hw.od]
    simp only [vX]
    rw [h1,kG hw.pa,pF h2]
    simp only [lt_]
    rw [pF (by simp;omega)]
    exact hrec _ _ (by simp)
   ·rw [h1,kG hw.ad]
    exact hrec _ _ (by simp)
theorem gY5{w:gH}{k:Int}(hw:gUt w k){wh:List jD}(h:gNl wh)(hl:wh.length≤1000){t:gD}(ht:tok t)(h4:n4 t):∃e c,gJl w wh ⟨addN,t⟩=some (e,c)∧(c=0→hKy k t e):=by
 obtain⟨f,hf⟩:=gRx hw wh 0 [] h (by simp;omega)
 obtain⟨e,c,e1,e2⟩:=hB8 hw f 12 5000 t (by omega) (by omega) ht h4
 have e1:zP 5000 w f ⟨addN,t⟩ 12=some (e,c):=e1
 unfold gJl gC3
 rw [kG hf,kG e1]
 exact⟨e,c,rfl,e2⟩
mutual
def hPo:gD→Prop
 | ⟨k,n,ts⟩=>(k=3→n=addN)∧gY6 ts
def gY6:List gD→Prop
 | []=>True
 | a::ts=>hPo a∧gY6 ts
end
theorem gKc:∀{ts:List gD},gY6 ts↔∀t∈ts,hPo t
 | []=>by simp [gY6]
 | a::ts=>by simp only [gY6,gKc (ts:=ts),List.mem_cons,forall_eq_or_imp]
def DT(V:List (List UInt8))(t:gD):Prop:=NT V t∧hPo t
theorem gK2{V:List (List UInt8)}{t:gD}(h:DT V t):∀u∈t.args,DT V u:=fun u hu=>⟨hFo h.1 u hu,by obtain⟨k,n,ts⟩:=t;exact gKc.1 h.2.2 u hu⟩
theorem hFp{V:List (List UInt8)}{k:Int}{n:List UInt8}{ts us:List gD}(h:DT V ⟨k,n,ts⟩)(hu:∀u∈us,DT V u)(hl:us.length≤4294967296):DT V ⟨k,n,us⟩:=by
 refine⟨⟨⟨hl,gG2.2 fun u hh=>(hu u hh).1.1⟩,⟨h.1.2.1.1,gP9.2 fun u hh=>(hu u hh).1.2.1⟩,fun v hv=>?_⟩,⟨h.2.1,gKc.2 fun u hh=>(hu u hh).2⟩⟩
 simp only [tvs,List.mem_append] at hv
 rcases hv with hv | hv
 ·exact h.1.2.2 v (by simp only [tvs,List.mem_append];exact .inl hv)
 ·obtain⟨u,h1,h2⟩:=gJz.1 hv
  exact(hu u h1).1.2.2 v h2
theorem hH9{V:List (List UInt8)}{u:gD}(h:DT V u):DT V (gQd (gV5 u)):=⟨hH4 (hC8 h.1),fun hk=>absurd hk (by decide),⟨fun _=>rfl,h.2,trivial⟩,trivial⟩
theorem hIa{V:List (List UInt8)}:DT V gGm:=⟨hH8,fun hk=>absurd hk (by decide),trivial⟩
def NR(V:List (List UInt8))(r:gD × Int):Prop:=r.2=0→DT V r.1∧tnd r.1≤400
theorem gY7{V:List (List UInt8)}{rec:gH→List jD→gD→Int→Option (gD × Int)}{w:gH}{wh:List jD}{d:Int}:∀(xs acc:List gD),(∀u∈xs,∃r,rec w wh u d=some r∧NR V r)→acc.length+xs.length≤4294967296→(∀u∈acc,DT V u∧tnd u≤400)→
  ∃r,gBi rec w wh d xs acc=some r∧(r.2=0→r.1.length=acc.length+xs.length∧∀u∈r.1,DT V u∧tnd u≤400)
 | [],acc,_,_,ha=>⟨_,rfl,fun _=>⟨by simp,ha⟩⟩
 | x::xs,acc,h,hl,ha=>by
   obtain⟨r,h1,h2⟩:=h x (by simp)
   simp only [List.length_cons] at hl
   rw [gBi,kG h1]
   cases hc:(r.2 != 0)with
   | true=>exact⟨_,rfl,fun h0=>by have h0:r.2=0:=h0;rw [h0] at hc;cases hc⟩
   | false=>
     have hc0:r.2=0:=by simpa using hc
     rw [gP,pF (by simp;omega)]
     obtain⟨q,q1,q2⟩:=gY7 xs (acc++[r.1]) (fun u hu=>h u (by simp [hu])) (by simp;omega) (fun u hu=>by
      rcases List.mem_append.1 hu with hu | hu
      ·exact ha u hu
      ·simp only [List.mem_singleton] at hu;subst hu;exact h2 hc0)
     exact⟨q,q1,fun h0=>⟨by rw [(q2 h0).1];simp;omega,(q2 h0).2⟩⟩
theorem gS7{M:Nat}:∀(l:List gD),(∀u∈l,tnd u≤M)→gA8 l≤M*l.length
 | [],_=>by simp [gA8]
 | a::l,h=>by
   have h1:=h a (by simp)
   have h2:=gS7 l (fun u hu=>h u (by simp [hu]))
   simp only [gA8,List.length_cons,Nat.mul_add,Nat.mul_one]
   omega
theorem gY8{w:gH}{k:Int}(hw:gUt w k){wh:List jD}(hwh:gNl wh)(hwl:wh.length≤1000)(V:List (List UInt8)):∀(d m n:Nat) (t:gD),tnd t≤m→2*m+d*1000≤n→d≤12→DT V t→tnd t≤40000→∃r,wH n w wh t (d:Int)=some r∧NR V r:=by
 intro d
 induction d with
 | zero=>
   intro m
   induction m with
   | zero=>intro n t h;have:=gD5 t;omega
   | succ m ihm=>
     intro n t ht hn hd hD h4
     obtain⟨n,rfl⟩:∃j,n=j+2:=⟨n - 2,by omega⟩
     have hargs:gA8 t.args+1=tnd t:=by obtain⟨a,b,c⟩:=t;simp only [tnd];omega
     have hall:=gY7 (V:=V) (rec:=wH n) (w:=w) (wh:=wh) (d:=((0:Nat):Int)) t.args [] (fun u hu=>ihm n u (by have:=gCo hu;omega) (by omega) hd (gK2 hD u hu) (by have:=gCo hu;omega)) (by have:=gKb t.args;simp;omega) (fun u hu=>by simp at hu)
     obtain⟨r,r1,r2⟩:=hall
     have r1:gGp (n+1) w wh t.args ((0:Nat):Int)=some r:=by rw [gGp];exact r1
     rw [wH]
     unfold gEr
     rw [kG r1]
     cases hc:(r.2 != 0)with
     | true=>exact⟨_,rfl,fun h0=>by have h0:r.2=0:=h0;rw [h0] at hc;cases hc⟩
     | false=>
       have hc0:r.2=0:=by simpa using hc
       obtain⟨q1,q2⟩:=r2 hc0
       have hlen:r.1.length≤40000:=by have:=gKb t.args;simp at q1;omega
       have hsz:gA8 r.1≤400*40000:=Nat.le_trans (gS7 r.1 (fun u hu=>(q2 u hu).2)) (Nat.mul_le_mul_left 400 hlen)
       have htz:tsz ⟨t.kind,t.name,r.1⟩=(tnd ⟨t.kind,t.name,r.1⟩:Int):=gDx _ (by simp only [tnd];omega)
       rw [gP,htz]
       cases hs:decide ((tnd ⟨t.kind,t.name,r.1⟩:Int) > 400)with
       | true=>exact⟨_,rfl,fun h0=>by cases h0⟩
       | false=>
         have hs:=of_decide_eq_false hs
         simp only [gP,lt_]
         have hout:DT V ⟨t.kind,t.name,r.1⟩:=by obtain⟨a,b,c⟩:=t;exact hFp hD (fun u hu=>(q2 u hu).1) (by omega)
         cases cnd (t.kind != 3) true ((r.1.length:Int) != 1)with
         | true=>exact⟨_,rfl,fun _=>⟨hout,by simp only;omega⟩⟩
         | false=>exact⟨_,rfl,fun h0=>by cases h0⟩
 | succ d ihd=>
   intro m
   induction m with
   | zero=>intro n t h;have:=gD5 t;omega
   | succ m ihm=>
     intro n t ht hn hd hD h4
     obtain⟨n,rfl⟩:∃j,n=j+2:=⟨n - 2,by omega⟩
     have hargs:gA8 t.args+1=tnd t:=by obtain⟨a,b,c⟩:=t;simp only [tnd];omega
     have hall:=gY7 (V:=V) (rec:=wH n) (w:=w) (wh:=wh) (d:=((d+1:Nat):Int)) t.args [] (fun u hu=>ihm n u (by have:=gCo hu;omega) (by omega) hd (gK2 hD u hu) (by have:=gCo hu;omega)) (by have:=gKb t.args;simp;omega) (fun u hu=>by simp at hu)
     obtain⟨r,r1,r2⟩:=hall
     have r1:gGp (n+1) w wh t.args ((d+1:Nat):Int)=some r:=by rw [gGp];exact r1
     rw [wH]
     unfold gEr
     rw [kG r1]
     cases hc:(r.2 != 0)with
     | true=>exact⟨_,rfl,fun h0=>by have h0:r.2=0:=h0;rw [h0] at hc;cases hc⟩
     | false=>
       have hc0:r.2=0:=by simpa using hc
       obtain⟨q1,q2⟩:=r2 hc0
       have hlen:r.1.length≤40000:=by have:=gKb t.args;simp at q1;omega
       have hsz:gA8 r.1≤400*40000:=Nat.le_trans (gS7 r.1 (fun u hu=>(q2 u hu).2)) (Nat.mul_le_mul_left 400 hlen)
       have htz:tsz ⟨t.kind,t.name,r.1⟩=(tnd ⟨t.kind,t.name,r.1⟩:Int):=gDx _ (by simp only [tnd];omega)
       rw [gP,htz]
       cases hs:decide ((tnd ⟨t.kind,t.name,r.1⟩:Int) > 400)with
       | true=>exact⟨_,rfl,fun h0=>by cases h0⟩
       | false=>
         have hs:=of_decide_eq_false hs
         simp only [gP,lt_]
         have hout:DT V ⟨t.kind,t.name,r.1⟩:=by obtain⟨a,b,c⟩:=t;exact hFp hD (fun u hu=>(q2 u hu).1) (by omega)
         cases hk:cnd (t.kind != 3) true ((r.1.length:Int) != 1)with
         | true=>exact⟨_,rfl,fun _=>⟨hout,by simp only;omega⟩⟩
         | false=>
           have hk3:t.kind=3:=by
            cases h3:(t.kind != 3)with
            | true=>rw [h3] at hk;cases hk
            | false=>simpa using h3
           have hnm:t.name=addN:=by obtain⟨a,b,c⟩:=t;exact hD.2.1 hk3
           have hl1:r.1.length=1:=by
            rw [hk3] at hk
            simp only [bne_self_eq_false,gP] at hk
            have:(r.1.length:Int)=1:=by simpa using hk
            omega
           rw [gP,show(((d+1:Nat):Int)==0)=false from beq_false_of_ne (by omega),gP]
           obtain⟨u,hu⟩:∃u,r.1=[u]:=by
            match r.1,hl1 with
            | [u],_=>exact⟨u,rfl⟩
           have hU:=q2 u (by rw [hu];simp)
           rw [show at? r.1 0=some u from by rw [hu];rfl]
           simp only [bnd]
           obtain⟨e,c,e1,e2⟩:=gY5 hw hwh hwl hU.1.1.1 hU.1.1.2.1
           rw [hnm,e1]
           simp only
           cases hc2:(c != 0)with
           | true=>exact⟨_,rfl,fun h0=>by cases h0⟩
           | false=>
             have hc3:c=0:=by simpa using hc2
             rw [gP]
             cases hek:(e.kind != 1)with
             | true=>rw [←hnm];exact⟨_,rfl,fun _=>⟨hout,by simp only;omega⟩⟩
             | false=>
               have hek1:e.kind=1:=by simpa using hek
               rw [gP]
               have hw1:IntKind.i64.wrap (((d+1:Nat):Int) - 1)=(d:Int):=by rw [wP _ (by omega) (by omega)];omega
               rcases hB9 hw (e2 hc3) hek1 hU.1.1.1 with ⟨_,g⟩ | ⟨v,rfl,g⟩
               ·rw [g]
                simp only [Bool.not_true,gP,hw1]
                obtain⟨s,s1,s2⟩:=ihd 403 (n+1) gGm (by decide) (by omega) (by omega) hIa (by decide)
                rw [s1]
                exact⟨_,rfl,s2⟩
               ·rw [g]
                simp only [Bool.not_true,gP,hw1]
                have hv:tnd v+1≤400:=by have:=hU.2;simp only [gQd,tnd,gA8] at this;omega
                have hvD:DT V v:=gK2 hU.1 v (by simp [gQd])
                obtain⟨s,s1,s2⟩:=ihd 403 (n+1) (gQd (gV5 v)) (by simp only [gQd,gV5,tnd,gA8];omega) (by omega) (by omega) (hH9 hvD) (by simp only [gQd,gV5,tnd,gA8];omega)
                rw [s1]
                exact⟨_,rfl,s2⟩
end Go.Proofs.YtfaplndgbgoaaaaGreatDoor
set_option maxHeartbeats 4000000
set_option linter.unusedVariables false
set_option linter.unusedSimpArgs false
set_option linter.unusedSectionVars false
namespace Go.Proofs.YtfaplndgbgoaaaaGreatDoor
open Go Go.Eng
attribute [local irreducible] V VO VQ VY Quiet QR jB kX Rng uJ uY qW
mutual
theorem gY9{l:List gI}{v:List UInt8}:∀(t:gD),v∈tvs (apT l t)→(v∈tvs t∧v∉dom l)∨∃u∈tvs t,(lkp u l).2=true∧v∈tvs (lkp u l).1
 | ⟨k,n,ts⟩,h=>by
   have key:v∈gJj (gNi l ts)→(v∈tvs ⟨k,n,ts⟩∧v∉dom l)∨∃u∈tvs ⟨k,n,ts⟩,(lkp u l).2=true∧v∈tvs (lkp u l).1:=fun h=>(gUv ts h).imp (fun h=>⟨by simp [tvs,h.1],h.2⟩) (fun⟨u,h1,h2⟩=>⟨u,by simp [tvs,h1],h2⟩)
   simp only [apT] at h
   by_cases hk:k=1
   ·subst hk
    cases hb:(lkp n l).2 with
    | true=>
      rw [hb] at h
      simp only [beq_self_eq_true,jH] at h
      exact .inr ⟨n,by simp [tvs],hb,h⟩
    | false=>
      rw [hb] at h
      simp only [beq_self_eq_true,jH,gP,tvs,if_true,List.mem_append,List.mem_singleton] at h
      rcases h with rfl | h
      ·refine .inl ⟨by simp [tvs],fun hd=>?_⟩
       rw [hGa hd] at hb
       cases hb
      ·exact key h
   ·rw [beq_false_of_ne hk] at h
    simp only [gP,tvs,if_neg hk,List.nil_append] at h
    exact key h
theorem gUv{l:List gI}{v:List UInt8}:∀(ts:List gD),v∈gJj (gNi l ts)→(v∈gJj ts∧v∉dom l)∨∃u∈gJj ts,(lkp u l).2=true∧v∈tvs (lkp u l).1
 | [],h=>by simp [gNi,gJj] at h
 | a::ts,h=>by
   simp only [gNi,gJj,List.mem_append] at h
   rcases h with h | h
   ·exact(gY9 a h).imp (fun h=>⟨by simp [gJj,h.1],h.2⟩) (fun⟨u,h1,h2⟩=>⟨u,by simp [gJj,h1],h2⟩)
   ·exact(gUv ts h).imp (fun h=>⟨by simp [gJj,h.1],h.2⟩) (fun⟨u,h1,h2⟩=>⟨u,by simp [gJj,h1],h2⟩)
end
mutual
theorem gEj{p:List UInt8→Bool}:∀(t:gD),gR4 p t=true↔∃v∈tvs t,p v=true
 | ⟨k,n,ts⟩=>by
   simp only [gR4,Bool.or_eq_true,Bool.and_eq_true,beq_iff_eq,gRy ts,tvs,List.mem_append]
   constructor
   ·rintro(⟨rfl,h⟩ | ⟨v,h1,h2⟩)
    ·exact⟨n,.inl (by simp),h⟩
    ·exact⟨v,.inr h1,h2⟩
   ·rintro⟨v,h1 | h1,h2⟩
    ·split at h1
     ·simp only [List.mem_singleton] at h1;subst h1;exact .inl ⟨by assumption,h2⟩
     ·simp at h1
    ·exact .inr ⟨v,h1,h2⟩
theorem gRy{p:List UInt8→Bool}:∀(ts:List gD),gFm p ts=true↔∃v∈gJj ts,p v=true
 | []=>by simp [gFm,gJj]
 | a::ts=>by
   simp only [gFm,Bool.or_eq_true,gEj a,gRy ts,gJj,List.mem_append]
   constructor
   ·rintro(⟨v,h1,h2⟩ | ⟨v,h1,h2⟩)
    ·exact⟨v,.inl h1,h2⟩
    ·exact⟨v,.inr h1,h2⟩
   ·rintro⟨v,h1 | h1,h2⟩
    ·exact .inl ⟨v,h1,h2⟩
    ·exact .inr ⟨v,h1,h2⟩
end
def Tri(l:List gI):Prop:=∀(i:Nat) (b:gI),l[i]? =some b→b.var_∉dom (l.take i)∧∀v∈tvs b.type_,v∉dom (l.take (i+1))
def low(l:List gI)(k:Nat)(t:gD):Prop:=∀v∈tvs t,v∉dom (l.take k)
theorem gUw{l:List gI}{v:List UInt8}{k:Nat}(h:v∈dom (l.take k)):v∈dom l:=by
 unfold dom at *
 rw [List.map_take] at h
 exact List.mem_of_mem_take h
theorem hCa{l:List gI}{v:List UInt8}{j k:Nat}(hjk:j≤k)(h:v∈dom (l.take j)):v∈dom (l.take k):=by
 have:l.take j=(l.take k).take j:=by rw [List.take_take,Nat.min_eq_left hjk]
 rw [this] at h
 exact gUw h
theorem hC9{v:List UInt8}:∀{l:List gI},(lkp v l).2=true→∃(i:Nat) (b:gI),l[i]? =some b∧b.var_=v∧(lkp v l).1=b.type_
 | [],h=>by cases h
 | b::l,h=>by
   simp only [lkp] at h ⊢
   cases hb:b.var_==v with
   | true=>exact⟨0,b,rfl,by simpa using hb,rfl⟩
   | false=>
     rw [hb] at h
     obtain⟨i,c,h1,h2,h3⟩:=hC9 (l:=l) h
     exact⟨i+1,c,by simpa using h1,h2,h3⟩
theorem hIb{l:List gI}(hl:Tri l){k:Nat}{t:gD}(h:low l k t):low l (k+1) (apT l t):=by
 intro v hv hd
 rcases gY9 t hv with ⟨_,h2⟩ | ⟨u,h1,h2,h3⟩
 ·exact h2 (gUw hd)
 ·obtain⟨i,b,g1,g2,g3⟩:=hC9 h2
  rw [g3] at h3
  have hik:k≤i:=by
   rcases Nat.lt_or_ge i k with hlt | hge
   ·exfalso
    refine h u h1 ?_
    unfold dom
    have hg:(l.take k)[i]? =some b:=by rw [List.getElem?_take];rw [if_pos hlt];exact g1
    exact List.mem_map.2 ⟨b,List.mem_of_getElem? hg,g2⟩
   ·exact hge
  exact(hl i b g1).2 v h3 (hCa (by omega) hd)
def hR4(l:List gI):Prop:=∀b∈l,isInf b.var_=true
theorem gUx(l:List gI)(v:List UInt8):hasB l v=true↔v∈dom l:=by
 unfold hasB dom
 simp only [List.any_eq_true,beq_iff_eq,List.mem_map]
theorem hIc{l:List gI}{t:gD}(h:∀v∈tvs t,v∉dom l):zbd l t=false:=by
 cases hz:zbd l t with
 | false=>rfl
 | true=>
   obtain⟨v,h1,h2⟩:=(gEj t).1 hz
   unfold zp at h2
   simp only [Bool.and_eq_true] at h2
   exact absurd ((gUx l v).1 h2.2) (h v h1)
theorem gZa{l:List gI}(hi:hR4 l){t:gD}(h:zbd l t=false):∀v∈tvs t,v∉dom l:=by
 intro v hv hd
 have:zbd l t=true:=(gEj t).2 ⟨v,hv,by
  unfold zp
  rw [(gUx l v).2 hd,Bool.and_true]
  obtain⟨b,h1,rfl⟩:=List.mem_map.1 hd
  exact hi b h1⟩
 rw [h] at this
 cases this
theorem gS8{l:List gI}(hl:Tri l):∀(n k:Nat) (t:gD),low l k t→l.length≤k+n→zbd l (zk l n t)=false∨¬tsz (zk l n t) < 4000
 | 0,k,t,h,hk=>.inl (hIc (by rw [zk];intro v hv hd;exact h v hv (by rw [List.take_of_length_le (by omega)];exact hd)))
 | n+1,k,t,h,hk=>by
   rw [zk]
   cases hz:zbd l t with
   | false=>simp only [Bool.false_and,gP];exact .inl hz
   | true=>
     cases hs:decide (tsz t < 4000)with
     | false=>simp only [Bool.and_false,gP];exact .inr (of_decide_eq_false hs)
     | true=>simp only [Bool.and_self,jH];exact gS8 hl n (k+1) _ (hIb hl h) (by omega)
theorem gK3{l:List gI}{t:gD}(n:Nat)(h:zbd l t=false∨¬tsz t < 4000):zk l n t=t:=by
 cases n with
 | zero=>rfl
 | succ n=>
   rw [zk]
   rcases h with h | h
   ·rw [h];rfl
   ·rw [show decide (tsz t < 4000)=false from decide_eq_false h,Bool.and_false,gP]
mutual
theorem hDa{V:List (List UInt8)}{l:List gI}(hl:∀b∈l,DT V b.type_):∀(t:gD),DT V t→DT V (apT l t)
 | ⟨k,n,ts⟩,h=>by
   have h1:DT V ⟨k,n,gNi l ts⟩:=hFp h (gZb hl ts (fun u hu=>gK2 h u hu)) (by rw [gUe];exact h.1.1.1)
   simp only [apT]
   cases k==1 with
   | false=>exact h1
   | true=>
     rw [jH]
     cases hb:(lkp n l).2 with
     | false=>exact h1
     | true=>
       obtain⟨b,g1,_,g3⟩:=gPz hb
       rw [jH,g3]
       exact hl b g1
theorem gZb{V:List (List UInt8)}{l:List gI}(hl:∀b∈l,DT V b.type_):∀(ts:List gD),(∀t∈ts,DT V t)→∀t∈gNi l ts,DT V t
 | [],_,t,h=>by simp [gNi] at h
 | a::ts,h,t,ht=>by
   simp only [gNi,List.mem_cons] at ht
   rcases ht with rfl | ht
   ·exact hDa hl a (h a (by simp))
   ·exact gZb hl ts (fun t ht=>h t (by simp [ht])) t ht
end
theorem hFq{V:List (List UInt8)}{l:List gI}(hl:∀b∈l,DT V b.type_):∀(n:Nat) (t:gD),DT V t→DT V (zk l n t)
 | 0,t,h=>h
 | n+1,t,h=>by
   rw [zk]
   cases zbd l t && decide (tsz t < 4000)with
   | false=>exact h
   | true=>exact hFq hl n _ (hDa hl t h)
theorem gZc{l:List gI}(h2:hC5 2000 l):∀(n:Nat) (t:gD),tnd t≤8000000→tnd (zk l n t)≤8000000
 | 0,t,h=>h
 | n+1,t,h=>by
   rw [zk]
   cases hc:zbd l t && decide (tsz t < 4000)with
   | false=>exact h
   | true=>
     simp only [Bool.and_eq_true,decide_eq_true_eq] at hc
     rw [gDx t (by omega)] at hc
     have h1:=gYs h2 t
     have h3:2000*tnd t≤2000*4000:=Nat.mul_le_mul_left 2000 (by omega)
     exact gZc h2 n _ (by omega)
mutual
theorem gUy(v:List UInt8):∀(n:Nat) (t:gD),tnd t≤n→tnd t≤4294967296→qJ n t v=some (((tvs t).count v:Nat):Int)
 | 0,t,h,_=>by have:=gD5 t;omega
 | n+1,⟨k,s,ts⟩,h,hb=>by
   simp only [tnd] at h hb
   rw [qJ]
   unfold yK
   simp only [lt_]
   have key:∀y:Nat,y≤1→mM (qJ n) v ts (y:Int)=some ((y+(gJj ts).count v:Nat):Int):=fun y hy=>gRz v n ts y (by omega) (by omega)
   by_cases hk:k=1
   ·subst hk
    rw [beq_self_eq_true,jH]
    by_cases hs:s=v
    ·subst hs
     rw [beq_self_eq_true,jH]
     simp only [bnd]
     rw [show (1:Int)=((1:Nat):Int)from rfl,key 1 (by omega)]
     simp [tvs]
     omega
    ·rw [beq_false_of_ne hs,gP]
     simp only [bnd]
     rw [show (0:Int)=((0:Nat):Int)from rfl,key 0 (by omega)]
     simp [tvs,List.count_cons,hs]
   ·rw [beq_false_of_ne hk,gP,gP]
    simp only [bnd]
    rw [show (0:Int)=((0:Nat):Int)from rfl,key 0 (by omega)]
    simp [tvs,hk]
theorem gRz(v:List UInt8):∀(n:Nat) (ts:List gD) (y:Nat),gA8 ts≤n→y+gA8 ts≤4294967296→mM (qJ n) v ts (y:Int)=some ((y+(gJj ts).count v:Nat):Int)
 | n,[],y,_,_=>by simp [mM,gJj]
 | n,a::ts,y,h,hb=>by
   simp only [gA8] at h hb
   have h1:=gWu a
   have h2:(tvs a).count v≤(tvs a).length:=List.count_le_length
   rw [mM,kG (gUy v n a (by omega) (by omega)),show IntKind.i64.wrap ((y:Int)+(((tvs a).count v:Nat):Int))=((y+(tvs a).count v:Nat):Int)from by rw [wP _ (by omega) (by omega)];omega]
   rw [gRz v n ts (y+(tvs a).count v) (by omega) (by omega)]
   simp only [gJj,List.count_append]
   congr 2
   omega
end
theorem hId{v:List UInt8}{t:gD}(h:tnd t≤5000):gCs v t=some (decide (v∈tvs t)):=by
 unfold gCs
 rw [kG (gUy v 5000 t h (by omega))]
 congr 1
 by_cases hm:v∈tvs t
 ·have:=List.count_pos_iff.2 hm
  rw [decide_eq_true hm]
  exact decide_eq_true (by omega)
 ·rw [decide_eq_false hm,List.count_eq_zero_of_not_mem hm]
  rfl
end Go.Proofs.YtfaplndgbgoaaaaGreatDoor
