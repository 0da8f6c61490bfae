import Derived.Test.YtfjncckelekpiaaGreatEng15
namespace Go.Eng
open Go Go.RowKit
section
variable {w w':World}
mutual
theorem U.flat_len:∀(u:U),u.flat.length=u.sz
 | .i _ _=>rfl
 | .b _=>rfl
 | .s _=>rfl
 | .sl _ _=>rfl
 | .st us=>by simp only [U.flat,U.sz];exact U.flats_len us
theorem U.flats_len:∀(us:List U),(U.flats us).length=U.szs us
 | []=>rfl
 | u::us=>by simp only [U.flats,U.szs,List.length_append,U.flat_len u,U.flats_len us]
end
def fpl(w:World):List U→List Value→List Nat
 | u::us,c::cs=>u.fp w [c]++fpl w us cs
 | _,_=>[]
theorem gYb:∀(us:List U)(cs:List Value)(vs:List U)(ds:List Value),us.length=cs.length→fpl w (us++vs) (cs++ds)=fpl w us cs++fpl w vs ds
 | [],[],vs,ds,_=>by simp [fpl]
 | u::us,c::cs,vs,ds,h=>by simp only [List.cons_append,fpl,gYb us cs vs ds (by simpa using h),List.append_assoc]
 | [],_::_,_,_,h=>by simp at h
 | _::_,[],_,_,h=>by simp at h
mutual
theorem gZr:∀(u:U)(cs:List Value),cs.length=u.sz→u.fp w cs=fpl w u.flat cs
 | .i _ _,cs,h=>by
   match cs,h with
   | [c],_=>rfl
 | .b _,cs,h=>by
   match cs,h with
   | [c],_=>rfl
 | .s _,cs,h=>by
   match cs,h with
   | [c],_=>rfl
 | .sl _ _,cs,h=>by
   match cs,h with
   | [c],_=>simp only [U.flat,fpl,List.append_nil]
 | .st us,cs,h=>by simp only [U.fp,U.flat];exact hF3 us cs h
theorem hF3:∀(us:List U)(cs:List Value),cs.length=U.szs us→U.fps w us cs=fpl w (U.flats us) cs
 | [],cs,h=>by
   match cs,h with
   | [],_=>rfl
 | u::us,cs,h=>by
   simp only [U.szs] at h;simp only [U.fps,U.flats];rw [gZr u _ (by simp;omega),hF3 us _ (by simp;omega),←gYb _ _ _ _ (by rw [U.flat_len];simp;omega),List.take_append_drop]
end
mutual
theorem Tr.lt:∀(u:U)(cs:List Value),Tr w u cs→∀b∈u.fp w cs,b < w.heap.size
 | .i k n,cs,h,b,hb=>by simp [U.fp] at hb
 | .b x,cs,h,b,hb=>by simp [U.fp] at hb
 | .s l,cs,h,b,hb=>by simp [U.fp] at hb
 | .st us,cs,h,b,hb=>by
   simp only [Tr] at h;simp only [U.fp] at hb;exact Trs.lt us cs h b hb
 | .sl z us,cs,h,b,hb=>by
   simp only [Tr] at h;obtain⟨h1,h2,hv,e,xs,rfl,h3,h4⟩:=h;rcases gJ6 h2 h3 with ⟨rfl,rfl,hf⟩ | ⟨g,cap,rfl,hf⟩
   ·rw [hf] at hb;cases hb
   ·rw [hf] at hb;rcases List.mem_cons.1 hb with rfl | hb
    ·exact(h3.lt b (by simp [Value.ownBlock])).2
    ·exact Trs.lt us xs h4 b hb
theorem Trs.lt:∀(us:List U)(cs:List Value),Trs w us cs→∀b∈U.fps w us cs,b < w.heap.size
 | [],cs,h,b,hb=>by simp [U.fps] at hb
 | u::us,cs,h,b,hb=>by
   simp only [Trs] at h;simp only [U.fps,List.mem_append] at hb;rcases hb with hb | hb
   ·exact Tr.lt u _ h.1 b hb
   ·exact Trs.lt us _ h.2 b hb
end
mutual
theorem Tr.rd{S:Nat→Prop}:∀(u:U)(cs:List Value),Tr w u cs→(∀b∈u.fp w cs,S b)→Rd S w u cs
 | .i k n,cs,h,_=>by simpa only [Tr,Rd] using h
 | .b x,cs,h,_=>by simpa only [Tr,Rd] using h
 | .s l,cs,h,_=>by simpa only [Tr,Rd] using h
 | .st us,cs,h,hb=>by
   simp only [Tr] at h;simp only [U.fp] at hb;simp only [Rd];exact Trs.rd us cs h hb
 | .sl z us,cs,h,hb=>by
   simp only [Tr] at h;obtain⟨h1,h2,hv,e,xs,rfl,h3,h4⟩:=h;simp only [Rd];rcases gJ6 h2 h3 with ⟨rfl,rfl,hf⟩ | ⟨g,cap,rfl,hf⟩
   ·exact⟨h1,none,0,rfl,.inl rfl⟩
   ·rw [hf] at hb;have hc:us.length≤cap:=by
     rcases h3.2 with ⟨h,_⟩ | ⟨g',cap',cur,h,_,_,hc,_⟩
     ·cases h
     ·cases h;exact hc
    exact⟨h1,_,cap - us.length,by rw [Nat.add_sub_cancel' hc],.inr ⟨g,0,rfl,hb g (by simp),RdE.of_Rds us xs 0 h2 (Trs.rd us xs h4 (fun b hb'=>hb b (by simp [hb']))) (gZ8 h3 rfl)⟩⟩
theorem Trs.rd{S:Nat→Prop}:∀(us:List U)(cs:List Value),Trs w us cs→(∀b∈U.fps w us cs,S b)→Rds S w us cs
 | [],cs,h,_=>by simpa only [Trs,Rds] using h
 | u::us,cs,h,hb=>by
   simp only [Trs] at h;simp only [U.fps] at hb;simp only [Rds];exact⟨_,_,(List.take_append_drop u.sz cs).symm,Tr.rd u _ h.1 (fun b hb'=>hb b (by simp [hb'])),Trs.rd us _ h.2 (fun b hb'=>hb b (by simp [hb']))⟩
end
theorem Trs.append:∀(us:List U)(cs:List Value)(vs:List U)(ds:List Value),Trs w us cs→Trs w vs ds→Trs w (us++vs) (cs++ds)∧U.fps w (us++vs) (cs++ds)=U.fps w us cs++U.fps w vs ds
 | [],cs,vs,ds,h,h'=>by simp only [Trs] at h;subst h;exact⟨h',by simp [U.fps]⟩
 | u::us,cs,vs,ds,h,h'=>by
   simp only [Trs] at h;have hl:=Tr.len u _ h.1;have hle:u.sz≤cs.length:=by simp only [List.length_take] at hl;omega
   obtain⟨k1,k2⟩:=Trs.append us (cs.drop u.sz) vs ds h.2 h';simp only [List.cons_append,Trs,U.fps];rw [List.take_append_of_le_length hle,List.drop_append_of_le_length hle];exact⟨⟨h.1,k1⟩,by rw [k2,List.append_assoc]⟩
theorem Trs.split:∀(us:List U)(cs:List Value)(vs:List U),Trs w (us++vs) cs→Trs w us (cs.take (U.szs us))∧Trs w vs (cs.drop (U.szs us))∧U.fps w (us++vs) cs=U.fps w us (cs.take (U.szs us))++U.fps w vs (cs.drop (U.szs us))
 | [],cs,vs,h=>by simpa [Trs,U.szs,U.fps] using h
 | u::us,cs,vs,h=>by
   simp only [List.cons_append,Trs] at h;obtain⟨k1,k2,k3⟩:=Trs.split us _ vs h.2;simp only [List.cons_append,Trs,U.fps,U.szs];rw [List.drop_drop] at k2 k3;rw [List.take_take,Nat.min_eq_left (by omega)];have e:(cs.take (u.sz+U.szs us)).drop u.sz=(cs.drop u.sz).take (U.szs us):=by rw [List.drop_take];congr 1;omega
   rw [e];exact⟨⟨h.1,k1⟩,k2,by rw [k3,List.append_assoc]⟩
theorem Tr.nil(w:World)(z:Nat):Tr w (.sl z []) [.slice none 0 0]∧(U.sl z []).fp w [.slice none 0 0]=[]:=by
 simp only [Tr];exact⟨⟨by simp [gAy],by simp,_,0,[],rfl,World.ownsRow_nil w 0 0 z,by simp [Trs]⟩,rfl⟩
end
mutual
def U.noSl:U→Bool
 | .sl _ _=>false
 | .st us=>U.noSls us
 | .i _ _=>true
 | .b _=>true
 | .s _=>true
def U.noSls:List U→Bool
 | []=>true
 | u::us=>u.noSl && U.noSls us
end
mutual
theorem Rd.tr{S:Nat→Prop}{w w':World}:∀(u:U)(cs:List Value),u.noSl=true→Rd S w u cs→Tr w' u cs∧u.fp w' cs=[]
 | .i k n,cs,_,h=>by simp only [Rd] at h;exact⟨by simpa only [Tr] using h,rfl⟩
 | .b x,cs,_,h=>by simp only [Rd] at h;exact⟨by simpa only [Tr] using h,rfl⟩
 | .s l,cs,_,h=>by simp only [Rd] at h;exact⟨by simpa only [Tr] using h,rfl⟩
 | .st us,cs,hn,h=>by
   simp only [Rd] at h;simp only [U.noSl] at hn;simp only [Tr,U.fp];exact Rds.tr us cs hn h
 | .sl z us,cs,hn,h=>by cases hn
theorem Rds.tr{S:Nat→Prop}{w w':World}:∀(us:List U)(cs:List Value),U.noSls us=true→Rds S w us cs→Trs w' us cs∧U.fps w' us cs=[]
 | [],cs,_,h=>by simp only [Rds] at h;exact⟨by simpa only [Trs] using h,rfl⟩
 | u::us,cs,hn,h=>by
   simp only [Rds] at h;simp only [U.noSls,Bool.and_eq_true] at hn;obtain⟨c1,c2,rfl,h2,h3⟩:=h;have hl:=Rd.length _ _ h2;obtain⟨k1,k2⟩:=Rd.tr (w':=w') u c1 hn.1 h2;obtain⟨k3,k4⟩:=Rds.tr (w':=w') us c2 hn.2 h3;simp only [Trs,U.fps];rw [←hl,List.take_left,List.drop_left,k2,k4];exact⟨⟨k1,k3⟩,rfl⟩
end
def kill(js:List Nat):Nat→List LO→List LO
 | _,[]=>[]
 | i,o::L=>(if js.contains i then .dead (o.ver+1)else o)::kill js (i+1) L
theorem gDe(js:List Nat):∀(L:List LO)(n:Nat),(kill js n L).length=L.length
 | [],_=>rfl
 | _::L,n=>by simp [kill,gDe js L]
theorem gRw(js:List Nat):∀(L:List LO)(n i:Nat),(kill js n L)[i]? =L[i]?.map (fun o=>if js.contains (n+i)then .dead (o.ver+1)else o)
 | [],_,_=>by simp [kill]
 | o::L,n,0=>by simp [kill]
 | o::L,n,i+1=>by simp only [kill,List.getElem?_cons_succ,gRw js L (n+1) i];rw [show n+1+i=n+(i+1) by omega]
theorem pU.eat {A:Amb}{S:Nat→Prop}{L L':List LO}{env env':List Value}{w w':World}(h:pU A S L env w)(js:List Nat)(i:Nat)(o2:LO)(hv2:Value)
  (hlen:env'.length=L'.length)
  (hL:∀j,j≠i→L'[j]? =L[j]?.map (fun o=>if js.contains j then .dead (o.ver+1)else o)) (hLi:L'[i]? =some o2)
  (hE:∀j,j≠i→env'[j]? =env[j]?) (hEi:env'[i]? =some hv2)
  (hold:∀k,k < w.heap.size→(∀o hv,L[i]? =some o→env[i]? =some hv→¬ (o.live=true∧o.ft w hv k))→w'.heap[k]? =w.heap[k]?)
  (hi:∀o hv,L[i]? =some o→env[i]? =some hv→o.ver≤o2.ver∧(o.ver=o2.ver→hv2=hv)∧(∀b,hv=.pointer (some ⟨b,0,none⟩)→hv2=hv))
  (hsz:w.heap.size≤w'.heap.size) (hos:w'.os=w.os) (htape:w'.tape=w.tape) (hout:w'.output=w.output)
  (hft:∀k,o2.ft w' hv2 k→k < w'.heap.size∧(w.heap.size≤k∨∃j o hv,(j=i∨js.contains j=true)∧L[j]? =some o∧o.live=true∧env[j]? =some hv∧o.ft w hv k))
  (ho:Carry S L env w S L' env' w'→gLm S L' env' w' o2 hv2) :
  pU A S L' env' w'∧Carry S L env w S L' env' w':=by
 have envOf:∀j hv,env[j]? =some hv→∃o,L[j]? =some o:=fun j hv hj=>by
  have:=(List.getElem?_eq_some_iff.1 hj).1
  rw [h.len] at this;exact⟨_,List.getElem?_eq_getElem this⟩
 have hlenL:L.length≤L'.length:=by
  cases hn:L.length with
  | zero=>exact Nat.zero_le _
  | succ m=>
    have hm:L[m]? =some (L[m]'(by omega)):=List.getElem?_eq_getElem _;by_cases hmi:m=i
    ·subst hmi;exact(List.getElem?_eq_some_iff.1 hLi).1
    ·have:=hL m hmi
     rw [hm] at this;exact(List.getElem?_eq_some_iff.1 this).1
 have C:Carry S L env w S L' env' w':=by
  refine⟨fun _ h _=>h,fun b hb hlt=>hold b hlt (fun o hv h1 h2 h3=>(h.excl i o hv b h1 h3.1 h2 h3.2).1 hb),fun j b hj=>?_,fun j hv o h1 h2=>?_⟩
  ·by_cases hji:j=i
   ·subst hji;obtain⟨o,ho'⟩:=envOf j _ hj;rw [hEi,(hi o _ ho' hj).2.2 b rfl]
   ·rw [hE j hji];exact hj
  ·by_cases hji:j=i
   ·subst hji;exact⟨hv2,o2,hEi,hLi,(hi o hv h2 h1).1,(hi o hv h2 h1).2.1⟩
   ·refine⟨hv,if js.contains j then .dead (o.ver+1)else o,by rw [hE j hji];exact h1,by rw [hL j hji,h2];rfl,?_,fun _=>rfl⟩;split
    ·exact Nat.le_succ _
    ·exact Nat.le_refl _
 have hget:∀j o',j≠i→L'[j]? =some o'→o'.live=true→js.contains j=false∧L[j]? =some o':=by
  intro j o' hji hj hl;rw [hL j hji] at hj;cases hLj:L[j]? with
  | none=>rw [hLj] at hj;cases hj
  | some o=>
    rw [hLj] at hj;simp only [Option.map_some,Option.some.injEq] at hj;cases hc:js.contains j with
    | true=>rw [hc] at hj;simp only [if_true] at hj;subst hj;cases hl
    | false=>rw [hc] at hj;simp only [Bool.false_eq_true,if_false] at hj;subst hj;exact⟨rfl,rfl⟩
 have hkeep:∀(j:Nat)(o':LO)(hv':Value),j≠i→L[j]? =some o'→o'.live=true→env[j]? =some hv'→∀k,o'.ft w hv' k→w'.heap[k]? =w.heap[k]? :=fun j o' hv' hj h3 hl h2 k hk=>
  hold k (h.excl j o' hv' k h3 hl h2 hk).2.2 (fun o hv k1 k2 k3=>hj (h.dist j i o' o hv' hv k h3 k1 hl k3.1 h2 k2 hk k3.2))
 have hfe:∀(j:Nat)(o':LO)(hv':Value),j≠i→L[j]? =some o'→o'.live=true→env[j]? =some hv'→∀k,o'.ft w' hv' k→o'.ft w hv' k:=fun j o' hv' hj h3 hl h2 k hk=>
  (LO.ft_eq (h.objs j o' hv' h3 h2) (hkeep j o' hv' hj h3 hl h2) k).1 hk
 have hclash:∀(j:Nat)(o':LO)(hv':Value) k,j≠i→L'[j]? =some o'→o'.live=true→env'[j]? =some hv'→o'.ft w' hv' k→o2.ft w' hv2 k→False:=by
  intro j o' hv' k hj h1 hl h2 h3 h4;obtain⟨q1,q2⟩:=hget j o' hj h1 hl;rw [hE j hj] at h2;have h3':=hfe j o' hv' hj q2 hl h2 k h3;rcases(hft k h4).2 with h5 | ⟨j0,o0,hv0,m1,m2,m3,m4,m5⟩
  ·have:=(h.excl j o' hv' k q2 hl h2 h3').2.2
   omega
  ·have:=h.dist j j0 o' o0 hv' hv0 k q2 m2 hl m3 h2 m4 h3' m5
   subst this;rcases m1 with m1 | m1
   ·exact hj m1
   ·rw [q1] at m1;cases m1
 refine⟨⟨hlen,?_,?_,?_,fun b hb=>Nat.lt_of_lt_of_le (h.sS b hb) hsz,h.sA,fun k h1 h2=>?_,Nat.le_trans h.size hsz,hos.trans h.os,htape.trans h.tape,hout.trans h.output,h.base.carry C h.len hlenL,h.glob⟩,C⟩
 ·intro j o' hv' h1 h2;by_cases hji:j=i
  ·subst hji;rw [hLi] at h1;rw [hEi] at h2;cases h1;cases h2;exact ho C
  ·cases hl:o'.live with
   | true=>
     obtain⟨_,q2⟩:=hget j o' hji h1 hl;rw [hE j hji] at h2;exact gLm.carry C (fun k hl hk=>hkeep j o' hv' hji q2 hl h2 k hk) (h.objs j o' hv' q2 h2)
   | false=>
     rw [hL j hji] at h1;cases hLj:L[j]? with
     | none=>rw [hLj] at h1;cases h1
     | some o=>
       rw [hLj] at h1;simp only [Option.map_some,Option.some.injEq] at h1;cases hc:js.contains j with
       | true=>rw [hc] at h1;simp only [if_true] at h1;subst h1;trivial
       | false=>
         rw [hc] at h1;simp only [Bool.false_eq_true,if_false] at h1;subst h1;rw [hE j hji] at h2;exact gLm.carry C (fun k hl' hk=>by rw [hl] at hl';cases hl') (h.objs j o hv' hLj h2)
 ·intro j o' hv' k h1 hl h2 hk;by_cases hji:j=i
  ·subst hji;rw [hLi] at h1;rw [hEi] at h2;cases h1;cases h2;obtain⟨q1,q2⟩:=hft k hk;rcases q2 with q2 | ⟨j0,o0,hv0,_,m2,m3,m4,m5⟩
   ·exact⟨fun hs=>by have:=h.sS k hs;omega,.inr (Nat.le_trans h.size q2),q1⟩
   ·have:=h.excl j0 o0 hv0 k m2 m3 m4 m5
    exact⟨this.1,this.2.1,q1⟩
  ·obtain⟨_,q2⟩:=hget j o' hji h1 hl;rw [hE j hji] at h2
   have:=h.excl j o' hv' k q2 hl h2 (hfe j o' hv' hji q2 hl h2 k hk)
   exact⟨this.1,this.2.1,Nat.lt_of_lt_of_le this.2.2 hsz⟩
 ·intro j j' o1 o1' hv1 hv1' k h1 h2 hl1 hl2 e1 e2 b1 b2;by_cases hji:j=i<;>by_cases hji':j'=i
  ·rw [hji,hji']
  ·subst hji;rw [hLi] at h1;rw [hEi] at e1;cases h1;cases e1;exact(hclash j' o1' hv1' k hji' h2 hl2 e2 b2 b1).elim
  ·subst hji';rw [hLi] at h2;rw [hEi] at e2;cases h2;cases e2;exact(hclash j o1 hv1 k hji h1 hl1 e1 b1 b2).elim
  ·obtain⟨_,q2⟩:=hget j o1 hji h1 hl1;obtain⟨_,q2'⟩:=hget j' o1' hji' h2 hl2;rw [hE j hji] at e1;rw [hE j' hji'] at e2;exact h.dist j j' o1 o1' hv1 hv1' k q2 q2' hl1 hl2 e1 e2 (hfe j o1 hv1 hji q2 hl1 e1 k b1) (hfe j' o1' hv1' hji' q2' hl2 e2 k b2)
 ·rw [hold k (Nat.lt_of_lt_of_le h1 h.size) (fun o hv q1 q2 q3=>?_)]
  ·exact h.frame k h1 h2
  ·rcases(h.excl i o hv k q1 q3.1 q2 q3.2).2.1 with hE' | hE'
   ·exact h2 hE'
   ·omega
mutual
inductive Lv:U→List U→Prop
 | i {k:IntKind} {n:Int}:Lv (.i k n) [.i k n]
 | b {x:Bool}:Lv (.b x) [.b x]
 | s {l:LB}:Lv (.s l) [.s l]
 | sl {z:Nat} {us:List U}:Lv (.sl z us) [.sl z us]
 | st {us fl:List U}:Lvs us fl→Lv (.st us) fl
inductive Lvs:List U→List U→Prop
 | nil:Lvs [] []
 | cons {u:U} {us a b c:List U}:Lv u a→Lvs us b→Jn a b c→Lvs (u::us) c
end
mutual
theorem Lv.eq:∀{u:U}{fl:List U},Lv u fl→u.flat=fl
 | _,_,.i=>rfl
 | _,_,.b=>rfl
 | _,_,.s=>rfl
 | _,_,.sl=>rfl
 | _,_,.st h=>by simp only [U.flat];exact h.eq
theorem Lvs.eq:∀{us fl:List U},Lvs us fl→U.flats us=fl
 | _,_,.nil=>rfl
 | _,_,.cons h1 h2 h3=>by simp only [U.flats,h1.eq,h2.eq];exact h3.spec
end
inductive OL (L:List LO):SV→U→List Nat→Prop
 | i {k:IntKind} {n:Int}:OL L (.d (.i k n)) (.i k n) []
 | b {x:Bool}:OL L (.d (.b x)) (.b x) []
 | s {l:LB}:OL L (.d (.s l)) (.s l) []
 | nil {z:Nat}:OL L .nilsl (.sl z []) []
 | sl {i ver e z:Nat} {es:List U} (h:L[i]? =some (.own e z ver es)):OL L (.sl i ver) (.sl z es) [i]
inductive OLs (L:List LO):List SV→List U→List Nat→Prop
 | nil:OLs L [] [] []
 | cons {sv:SV} {svs:List SV} {u:U} {us:List U} {js js' r:List Nat} (h:OL L sv u js) (h2:OLs L svs us js') (h3:Jn js js' r):OLs L (sv::svs) (u::us) r
inductive OV (L:List LO):SV→U→List Nat→Prop
 | ag {cs:List SV} {us fl:List U} {js:List Nat} (h:Lvs us fl) (h2:OLs L cs fl js):OV L (.ag cs) (.st us) js
 | leaf {sv:SV} {u:U} {js:List Nat} (h:OL L sv u js):OV L sv u js
 | d {us:List U} (h:U.noSls us=true):OV L (.d (.st us)) (.st us) []
def gZs(L:List LO)(env:List Value)(w:World)(j b:Nat):Prop:=∃o hv,L[j]? =some o∧o.live=true∧env[j]? =some hv∧o.ft w hv b
theorem gZs.inj{A:Amb}{S:Nat→Prop}{L:List LO}{env:List Value}{w:World}(hH:pU A S L env w){j j' b:Nat}(h:gZs L env w j b)(h':gZs L env w j' b):j=j':=by
 obtain⟨o,hv,h1,h2,h3,h4⟩:=h;obtain⟨o',hv',h1',h2',h3',h4'⟩:=h';exact hH.dist j j' o o' hv hv' b h1 h1' h2 h2' h3 h3' h4 h4'
mutual
theorem Tr.of_leafs{w:World}:∀(u:U)(cs:List Value),zX (fun u c=>Tr w u [c]) u.flat cs→Tr w u cs
 | .i k n,cs,h=>by
   match cs,h with
   | [c],h=>exact h.1
   | _::_::_,h=>exact h.2.elim
 | .b x,cs,h=>by
   match cs,h with
   | [c],h=>exact h.1
   | _::_::_,h=>exact h.2.elim
 | .s l,cs,h=>by
   match cs,h with
   | [c],h=>exact h.1
   | _::_::_,h=>exact h.2.elim
 | .sl z us,cs,h=>by
   match cs,h with
   | [c],h=>exact h.1
   | _::_::_,h=>exact h.2.elim
 | .st us,cs,h=>by simp only [U.flat] at h;simp only [Tr];exact Trs.of_leafs us cs h
theorem Trs.of_leafs{w:World}:∀(us:List U)(cs:List Value),zX (fun u c=>Tr w u [c]) (U.flats us) cs→Trs w us cs
 | [],cs,h=>by
   simp only [U.flats] at h
   match cs,h with
   | [],_=>simp [Trs]
 | u::us,cs,h=>by
   simp only [U.flats] at h;obtain⟨c1,c2,rfl,h2,h3⟩:=zX.split h;have hl:c1.length=u.sz:=by rw [←h2.length,U.flat_len]
   simp only [Trs];rw [←hl,List.take_left,List.drop_left];exact⟨Tr.of_leafs u c1 h2,Trs.of_leafs us c2 h3⟩
end
section
variable {A:Amb}{S:Nat→Prop}{L:List LO}{env:List Value}{w:World}
theorem OL.r(hH:pU A S L env w){sv:SV}{u:U}{js:List Nat}{v:Value}(h:OL L sv u js)(hv:SVr S L env w sv v) :
  Tr w u [v]∧(u.fp w [v]).Nodup∧(∀b∈u.fp w [v],∃j∈js,gZs L env w j b)∧v.oneCell'=true∧u.isSt=false:=by
 cases h with
 | i=>have:=SVr.int.1 hv;subst this;exact⟨by simp [Tr],by simp [U.fp],by simp [U.fp],rfl,rfl⟩
 | b=>have:=SVr.bool.1 hv;subst this;exact⟨by simp [Tr],by simp [U.fp],by simp [U.fp],rfl,rfl⟩
 | s=>obtain⟨h1,rfl⟩:=SVr.str.1 hv;exact⟨by simp only [Tr];exact⟨h1,trivial⟩,by simp [U.fp],by simp [U.fp],rfl,rfl⟩
 | nil=>
   simp only [SVr] at hv;subst hv;obtain⟨k1,k2⟩:=Tr.nil w ‹Nat›;exact⟨k1,by rw [k2];exact List.nodup_nil,by rw [k2];simp,rfl,rfl⟩
 | @sl i ver e z es h=>
   simp only [SVr] at hv;obtain⟨hv',o,k1,k2,k3,k5,k4⟩:=hv;rw [h] at k2;obtain rfl:=Option.some.inj k2;have k6:=k4 rfl;subst k6;have ho:=hH.objs i _ _ h k1;exact⟨gWu ho,ho.2.2.2,fun b hb=>⟨i,by simp,_,_,h,rfl,k1,hb⟩,k5,rfl⟩
theorem OLs.r(hH:pU A S L env w){svs:List SV}{us:List U}{js:List Nat}(h:OLs L svs us js):∀{vs:List Value},js.Nodup→kV S L env w svs vs→
  zX (fun u c=>Tr w u [c]) us vs∧(fpl w us vs).Nodup∧(∀b∈fpl w us vs,∃j∈js,gZs L env w j b)∧∀v∈vs,v.oneCell'=true:=by
 induction h with
 | nil=>
   intro vs _ hv;cases vs with
   | nil=>exact⟨trivial,by simp [fpl],by simp [fpl],by simp⟩
   | cons _ _=>simp [kV] at hv
 | @cons sv svs u us js js' r h h2 h3 ih=>
   intro vs hn hv;cases vs with
   | nil=>simp [kV] at hv
   | cons v vs=>
     simp only [kV] at hv;have hr:=h3.spec;subst hr;obtain⟨n1,n2,n3⟩:=List.nodup_append.1 hn;obtain⟨a1,a2,a3,a4,_⟩:=h.r hH hv.1;obtain⟨b1,b2,b3,b4⟩:=ih n2 hv.2;refine⟨⟨a1,b1⟩,?_,?_,?_⟩
     ·simp only [fpl];refine List.nodup_append.2 ⟨a2,b2,fun x hx y hy hxy=>?_⟩;subst hxy;obtain⟨j,hj,o1⟩:=a3 x hx;obtain⟨j',hj',o2⟩:=b3 x hy;exact n3 j hj j' hj' (o1.inj hH o2)
     ·intro b hb;simp only [fpl,List.mem_append] at hb;rcases hb with hb | hb
      ·obtain⟨j,hj,o⟩:=a3 b hb;exact⟨j,by simp [hj],o⟩
      ·obtain⟨j,hj,o⟩:=b3 b hb;exact⟨j,by simp [hj],o⟩
     ·intro x hx;rcases List.mem_cons.1 hx with rfl | hx
      ·exact a4
      ·exact b4 x hx
theorem OV.r(hH:pU A S L env w){sv:SV}{u:U}{js:List Nat}{v:Value}(h:OV L sv u js)(hn:js.Nodup)(hv:SVr S L env w sv v) :
  ∃cs,v=val u cs∧v.cells.toList=cs∧Tr w u cs∧(u.fp w cs).Nodup∧(∀b∈u.fp w cs,∃j∈js,gZs L env w j b)∧∀c∈cs,c.oneCell'=true:=by
 cases h with
 | @ag cs us fl js h h2=>
   simp only [SVr] at hv;obtain⟨vs,rfl,hv⟩:=hv;have hfl:=h.eq;subst hfl;obtain⟨a1,a2,a3,a4⟩:=h2.r hH hn hv;have hl:vs.length=(U.st us).sz:=by rw [←a1.length,U.flats_len];rfl
   refine⟨vs,rfl,by simp [Value.cells],Tr.of_leafs (.st us) vs (by simp only [U.flat];exact a1),?_,?_,a4⟩
   ·rw [gZr _ _ hl];simp only [U.flat];exact a2
   ·rw [gZr _ _ hl];simp only [U.flat];exact a3
 | leaf h=>
   obtain⟨a1,a2,a3,a4,a5⟩:=h.r hH hv;exact⟨[v],by simp [val,a5],by rw [cells_one a4],a1,a2,a3,by simpa using a4⟩
 | @d us h=>
   simp only [SVr] at hv;obtain⟨cs,rfl,hv⟩:=hv;obtain⟨k1,k2⟩:=Rd.tr (w':=w) (.st us) cs (by simpa only [U.noSl] using h) hv;exact⟨cs,rfl,gW4 hv,k1,by rw [k2];exact List.nodup_nil,by rw [k2];simp,Rd.oneCell _ _ hv⟩
end
section
variable {P:Program}{A:Amb}{σ:St}{K:St→Prop}
variable {ops:Array Oper}{rest:List Oper}{t:Nat}{ty:TypeId}{pos:String}{af:Array Edge}{x y:Operand}{sv:SV}
theorem gJr{js:List Nat}{j:Nat}(h:j∈js):js.contains j=true:=by simpa using h
theorem hHx{w:World}{e z:Nat}{xs:List Value}{us:List U}{hv:Value}(hz:∀u∈us,u.sz=z)(h:w.ownsRow 0 e z hv us.length xs)(b:Nat)(hb:blk hv=some b):(U.sl z us).fp w [hv]=b::U.fps w us xs:=by
 rcases gJ6 hz h with ⟨rfl,_,_⟩ | ⟨g,cap,rfl,hf⟩
 ·simp [blk] at hb
 ·simp [blk] at hb;subst hb;exact hf
theorem hMb {T:TypeId}{gg:Bool}{i ver z k e bs:Nat}{es:List U}{u:U}{js:List Nat}{fr:List (Nat × SV)}{L L':List LO}{N:Nat}(hx:(St.mk fr L N).ev x=.ep i ver z k 0)(hL:L[i]? =some (.own e z ver es))(hy:OV L ((St.mk fr L N).ev y) u js)
  (hjs:(decide js.Nodup && !js.contains i)=true) (hT:tyI P T=some (gg,z,bs)) (hu:u.sz=z) (hk:k < es.length) (hL':(kill js 0 L).set i (.own e z ver (es.set k u))=L')
  (h:VO P A ops rest ⟨fr,L',N⟩ K) :
  VO P A ops (⟨none,.store T x y,ty,pos,af,none⟩::rest) ⟨fr,L,N⟩ K:=by
 subst hL';simp only [Bool.and_eq_true,decide_eq_true_eq,Bool.not_eq_true'] at hjs;refine gH9 rfl (fun S env a w hH hf hN hd=>?_) h;have h1:=mP.ev hf hH x;obtain⟨cs,c1,hcells,c2,c3,c4,c5⟩:=hy.r hH hjs.1 (mP.ev hf hH y);rw [hx] at h1;simp only [SVr] at h1;obtain⟨hv,o,k1,k2,k3,k5,k4⟩:=h1;rw [hL] at k2;obtain rfl:=Option.some.inj k2;obtain⟨b,e1,e2⟩:=k4 rfl;obtain⟨hbg,hz,⟨xs,m1,m2⟩,hnd⟩:=hH.objs i _ hv hL k1;have hcl:=Tr.len _ _ c2;rw [hu] at hcl;have hfp:=hHx hz m1 b e1;rw [hfp] at hnd;rcases m1.2 with ⟨rfl,_⟩ | ⟨g,cap,cur,rfl,hg0,hg,hnc,hcm,hcs,htake⟩
 ·simp [blk] at e1
 simp only [blk,Option.some.injEq] at e1;subst e1;have hkz:(k+1)*z≤es.length*z:=Nat.mul_le_mul_right _ hk;have hcap:es.length*z≤cap*z:=Nat.mul_le_mul_right _ hnc;have hkz1:(k+1)*z=k*z+z:=by rw [Nat.add_mul];omega
 have hxl:=m1.1;have hst:=run_storeCells_at P g (k*z) e cs 0 cur w hg (by omega) c5;rw [Nat.add_zero,hcl] at hst;have hrow:=setRow_heap w g cur ((cur.toList.take (k*z)++cs++cur.toList.drop (k*z+z)).toArray) e (0,0) hg;have hes:es=es.take k++(es[k]::es.drop (k+1)):=by rw [←List.drop_eq_getElem_cons hk,List.take_append_drop]
 have hset:es.set k u=es.take k++(u::es.drop (k+1)):=by rw [List.set_eq_take_append_cons_drop,if_pos hk]
 have hz1:∀v∈es.take k,v.sz=z:=fun v hv=>hz v (List.mem_of_mem_take hv);have s1:U.szs (es.take k)=k*z:=by rw [gWt _ hz1,List.length_take,Nat.min_eq_left (by omega)]
 have hm2:=m2;rw [hes] at hm2;obtain⟨p1,p2,p3⟩:=Trs.split (es.take k) xs _ hm2;rw [s1] at p1 p2 p3;rw [←hes] at p3;simp only [Trs] at p2;have hszk:es[k].sz=z:=hz _ (List.getElem_mem hk);rw [hszk,List.drop_drop] at p2;have p3':U.fps w es xs=U.fps w (es.take k) (xs.take (k*z))++(es[k].fp w ((xs.drop (k*z)).take z)++U.fps w (es.drop (k+1)) (xs.drop (k*z+z))):=by
  rw [p3];simp only [U.fps];rw [hszk,List.drop_drop]
 rw [p3'] at hnd;obtain⟨q1,q2⟩:=List.nodup_cons.1 hnd;simp only [List.mem_append,not_or] at q1;obtain⟨d1,d2,d3⟩:=List.nodup_append.1 q2;obtain⟨d4,d5,d6⟩:=List.nodup_append.1 d2;have hap:∀b'∈u.fp w cs,¬ (LO.own e z ver es).ft w (.slice (some ⟨g,0,none⟩) es.length cap) b':=by
  intro b' hb' hft;obtain⟨j,hj,ho⟩:=c4 b' hb'
  have:=ho.inj hH ⟨_,_,hL,rfl,k1,hft⟩
  subst this;rw [gJr hj] at hjs;cases hjs.2
 have hap':∀b'∈u.fp w cs,b'≠g∧b'∉U.fps w (es.take k) (xs.take (k*z))∧b'∉U.fps w (es.drop (k+1)) (xs.drop (k*z+z)):=by
  intro b' hb'
  have:=hap b' hb'
  simp only [LO.ft] at this;rw [hfp,p3'] at this;simp only [List.mem_cons,List.mem_append,not_or] at this;exact⟨this.1,this.2.1,this.2.2.2⟩
 have hoth:∀b',b'≠g→(w.setRow g (cur.toList.take (k*z)++cs++cur.toList.drop (k*z+z)).toArray).heap[b']? =w.heap[b']? :=fun b' hb'=>setRow_other w g b' _ hb';obtain⟨t1,t2⟩:=Trs.loc _ _ p1 (fun b' hb'=>hoth b' (fun e=>q1.1 (e▸hb')));obtain⟨t3,t4⟩:=Trs.loc _ _ p2.2 (fun b' hb'=>hoth b' (fun e=>q1.2.2 (e▸hb')));obtain⟨t5,t6⟩:=Tr.loc _ _ c2 (fun b' hb'=>hoth b' (hap' b' hb').1);have tcons:Trs (w.setRow g (cur.toList.take (k*z)++cs++cur.toList.drop (k*z+z)).toArray) (u::es.drop (k+1)) (cs++xs.drop (k*z+z))∧U.fps (w.setRow g (cur.toList.take (k*z)++cs++cur.toList.drop (k*z+z)).toArray) (u::es.drop (k+1)) (cs++xs.drop (k*z+z))=u.fp w cs++U.fps w (es.drop (k+1)) (xs.drop (k*z+z)):=by
  simp only [Trs,U.fps];rw [List.take_left' (by rw [hcl,hu]),List.drop_left' (by rw [hcl,hu]),t6,t4];exact⟨⟨t5,t3⟩,rfl⟩
 obtain⟨r1,r2⟩:=Trs.append _ _ _ _ t1 tcons.1;rw [←hset,←List.append_assoc] at r1 r2;rw [t2,tcons.2] at r2;have hown':(w.setRow g (cur.toList.take (k*z)++cs++cur.toList.drop (k*z+z)).toArray).ownsRow 0 e z (.slice (some ⟨g,0,none⟩) es.length cap) (es.set k u).length (xs.take (k*z)++cs++xs.drop (k*z+z)):=by
  refine⟨by simp only [List.length_append,List.length_take,List.length_drop,List.length_set,hxl,hcl];omega,.inr ⟨g,cap,_,by simp,hg0,hrow,by simpa using hnc,hcm,by simp only [List.size_toArray,List.length_append,List.length_take,List.length_drop,Array.length_toList,hcl];omega,?_⟩⟩;rw [List.length_set,←htake]
  have:=hEt cur.toList (k*z) (es.length*z) cs (by rw [hcl];omega) (by simp only [Array.length_toList];omega)
  rw [hcl] at this;exact this
 have hz':∀v∈es.set k u,v.sz=z:=fun v hv=>by
  rcases List.mem_or_eq_of_mem_set hv with hv | rfl
  ·exact hz v hv
  ·exact hu
 have hfp':=hHx hz' hown' g rfl;have hi:=(List.getElem?_eq_some_iff.1 hL).1
 obtain⟨hH',C⟩:=hH.eat (w':=w.setRow g (cur.toList.take (k*z)++cs++cur.toList.drop (k*z+z)).toArray) js i (.own e z ver (es.set k u)) (.slice (some ⟨g,0,none⟩) es.length cap) (L':=(kill js 0 L).set i (.own e z ver (es.set k u))) (env':=env)
  (by simp [gDe,hH.len]) (fun j hj=>by rw [List.getElem?_set_ne (fun e=>hj e.symm),gRw,Nat.zero_add]) (by rw [List.getElem?_set_self (by rw [gDe];exact hi)]) (fun _ _=>rfl) k1
  (fun k' hk' hno=>hoth k' (fun e=>hno _ _ hL k1 ⟨rfl,by simp only [LO.ft];rw [hfp,e];simp⟩))
  (fun o hv h1 h2=>by rw [hL] at h1;cases h1;rw [k1] at h2;cases h2;exact⟨Nat.le_refl _,fun _=>rfl,fun _ _=>rfl⟩)
  (by rw [setRow_size];exact Nat.le_refl _) rfl rfl rfl
  (fun b' hb'=>by
   simp only [LO.ft] at hb';rw [hfp',r2] at hb';simp only [List.mem_cons,List.mem_append] at hb';have old:∀j,gZs L env w j b'→(j=i∨js.contains j=true)→b' < (w.setRow g (cur.toList.take (k*z)++cs++cur.toList.drop (k*z+z)).toArray).heap.size∧(w.heap.size≤b'∨∃j o hv,(j=i∨js.contains j=true)∧L[j]? =some o∧o.live=true∧env[j]? =some hv∧o.ft w hv b'):=by
    rintro j ⟨o,hv,n1,n2,n3,n4⟩ hj;exact⟨by rw [setRow_size];exact(hH.excl j o hv b' n1 n2 n3 n4).2.2,.inr ⟨j,o,hv,hj,n1,n2,n3,n4⟩⟩
   have self:b'∈(U.sl z es).fp w [.slice (some ⟨g,0,none⟩) es.length cap]→gZs L env w i b':=fun hm=>⟨_,_,hL,rfl,k1,hm⟩
   rw [hfp,p3'] at self;rcases hb' with rfl | hb' | hb' | hb'
   ·exact old i (self (by simp)) (.inl rfl)
   ·exact old i (self (by simp [hb'])) (.inl rfl)
   ·obtain⟨j,hj,ho⟩:=c4 b' hb';exact old j ho (.inr (gJr hj))
   ·exact old i (self (by simp [hb'])) (.inl rfl))
  (fun C=>⟨by simpa using hbg,hz',⟨_,hown',r1⟩,by
   rw [hfp',r2];refine List.nodup_cons.2 ⟨?_,List.nodup_append.2 ⟨d1,List.nodup_append.2 ⟨c3,d5,?_⟩,?_⟩⟩
   ·simp only [List.mem_append,not_or];exact⟨q1.1,fun hm=>(hap' g hm).1 rfl,q1.2.2⟩
   ·intro a' ha' b' hb' hab;exact(hap' a' ha').2.2 (hab▸hb')
   ·intro a' ha' b' hb' hab;subst hab;rcases List.mem_append.1 hb' with hb' | hb'
    ·exact(hap' a' hb').2.1 ha'
    ·exact d3 a' ha' a' (by simp [hb']) rfl⟩)
 refine⟨.skip,_,?_,.inr ⟨rfl,gFg hf hN hd hH' C⟩⟩;have hsz:(a.eval y).cells.size=z:=by rw [←hcl,←hcells];simp
 simp [execOp,Instr.storeAt,e2,Instr.sureAddr,storeVar,run_sizeOf hT,hsz,hcells,hst]
end
def gP8(L L':List LO):Prop:=∀(k:Nat)(cs:List SV),L[k]? =some (.box cs)→L'[k]? =some (.box cs)
theorem gP8.refl(L:List LO):gP8 L L:=fun _ _ h=>h
inductive Kp:List LO→List LO→Prop
 | nil {l:List LO}:Kp [] l
 | own {e z v:Nat} {es:List U} {o:LO} {l l':List LO} (h:Kp l l'):Kp (.own e z v es::l) (o::l')
 | ownp {h0:Value} {e z:Nat} {es:List U} {o:LO} {l l':List LO} (h:Kp l l'):Kp (.ownp h0 e z es::l) (o::l')
 | dead {v:Nat} {o:LO} {l l':List LO} (h:Kp l l'):Kp (.dead v::l) (o::l')
 | arr {e z v:Nat} {es:List U} {o:LO} {l l':List LO} (h:Kp l l'):Kp (.arr e z v es::l) (o::l')
 | frz {e z v:Nat} {es:List U} {o:LO} {l l':List LO} (h:Kp l l'):Kp (.frz e z v es::l) (o::l')
 | mix {e z v:Nat} {fs es:List U} {o:LO} {l l':List LO} (h:Kp l l'):Kp (.mix e z v fs es::l) (o::l')
 | set {ks:LS} {o:LO} {l l':List LO} (h:Kp l l'):Kp (.set ks::l) (o::l')
 | slot {o:LO} {l l':List LO} (h:Kp l l'):Kp (.slot::l) (o::l')
 | bld {e T:Nat} {k:LB} {o:LO} {l l':List LO} (h:Kp l l'):Kp (.bld e T k::l) (o::l')
 | box {cs:List SV} {l l':List LO} (h:Kp l l'):Kp (.box cs::l) (.box cs::l')
theorem Kp.keep{l l':List LO}(h:Kp l l'):gP8 l l':=by
 induction h with
 | nil=>intro k cs h;simp at h
 | box h ih=>intro k cs hk;cases k with
   | zero=>exact hk
   | succ k=>exact ih k cs (by simpa using hk)
 | _ h ih=>intro k cs hk;cases k with
   | zero=>simp at hk
   | succ k=>exact ih k cs (by simpa using hk)
section
variable {P:Program}{A:Amb}{ops:Array Oper}{md:Region.Mode}{K:St→Prop}{σ σ':St}
def PSt(P:Program)(A:Amb)(ops:Array Oper)(B:List LO)(σ:St)(o:Oper)(sv:SV):Prop:=
 (∀d,o.dst=some d→Nat.blt d σ.N=true)∧gP8 B σ.L∧
 ((Gd ops σ o true∧∀fr' L',(∀x∈o.op.operands.toList,St.ev ⟨fr',L',σ.N⟩ x=σ.ev x)→gP8 B L'→Quiet P A ⟨fr',L',σ.N⟩ o sv)∨(Gd ops σ o false∧(sv=.junk∨sv=.tup [])))
def HSt(P:Program)(A:Amb)(ops:Array Oper)(σ:St)(o:Oper)(sv:SV)(L':List LO):Prop:=
 ∀fr',(∀x∈o.op.operands.toList,St.ev ⟨fr',σ.L,σ.N⟩ x=σ.ev x)→∀K:St→Prop,K (St.setO ⟨fr',L',σ.N⟩ o.dst sv)→VO P A ops [o] ⟨fr',σ.L,σ.N⟩ K
def hOo(P:Program)(A:Amb)(ops:Array Oper)(σ:St)(o:Oper)(Z:SV→List LO→Prop):Prop:=
 ∀fr',(∀x∈o.op.operands.toList,St.ev ⟨fr',σ.L,σ.N⟩ x=σ.ev x)→∀K:St→Prop,(∀sv L',Z sv L'→K (St.setO ⟨fr',L',σ.N⟩ o.dst sv))→VO P A ops [o] ⟨fr',σ.L,σ.N⟩ K
theorem HSt.e{o:Oper}{sv:SV}{L':List LO}(h:HSt P A ops σ o sv L'):hOo P A ops σ o (fun s l=>s=sv∧l=L'):=fun fr' he K hK=>h fr' he K (hK _ _ ⟨rfl,rfl⟩)
theorem hEb{o:Oper}{fr fr':List (Nat × SV)}{L L':List LO}{N N':Nat}(h:∀t,t∈o.looksAt ops→look fr' t=look fr t):∀x∈o.op.operands.toList,St.ev ⟨fr',L',N'⟩ x=St.ev ⟨fr,L,N⟩ x:=by
 intro x hx;cases x with
 | tmp t=>exact h t (by unfold Oper.looksAt;exact List.mem_append.2 (.inl (List.mem_filterMap.2 ⟨.tmp t,hx,rfl⟩)))
 | _=>rfl
theorem Gd.same{o:Oper}{b:Bool}(hN:σ'.N=σ.N)(h:∀t,t∈o.looksAt ops→look σ'.fr t=look σ.fr t)(hb:Gd ops σ o b):Gd ops σ' o b:=by
 unfold Gd at *;cases hgd:o.guard with
 | none=>simp only [hgd] at hb ⊢;exact hb
 | some p=>
   obtain⟨j,want⟩:=p;simp only [hgd] at hb ⊢;obtain⟨oj,tj,h1,h2,h3,h4⟩:=hb;refine⟨oj,tj,h1,h2,by rw [hN];exact h3,?_⟩;rw [h tj]
   ·exact h4
   unfold Oper.looksAt;refine List.mem_append.2 (.inr ?_);simp [hgd,h1,h2]
theorem PSt.same{B:List LO}{o:Oper}{sv:SV}(hN:σ'.N=σ.N)(hL:gP8 B σ'.L)(h:∀t,t∈o.looksAt ops→look σ'.fr t=look σ.fr t)(hy:PSt P A ops B σ o sv):PSt P A ops B σ' o sv:=by
 refine⟨fun d hd=>by rw [hN];exact hy.1 d hd,hL,?_⟩;rcases hy.2.2 with ⟨h1,h2⟩ | ⟨h1,h2⟩
 ·refine .inl ⟨h1.same hN h,fun fr' L' he hk=>?_⟩;rw [hN];refine h2 fr' L' (fun x hx=>?_) hk;rw [←hN,he x hx];exact hEb h x hx
 ·exact .inr ⟨h1.same hN h,h2⟩
theorem PSt.ys{B:List LO}{o:Oper}{sv:SV}(h:PSt P A ops B σ o sv):YS P A ops σ o sv:=by
 refine⟨h.1,?_⟩;rcases h.2.2 with ⟨h1,h2⟩ | ⟨h1,h2⟩
 ·exact .inl ⟨h1,h2 σ.fr σ.L (fun _ _=>rfl) h.2.1⟩
 ·exact .inr ⟨h1,h2⟩
theorem HSt.same{o:Oper}{sv:SV}{L':List LO}(hN:σ'.N=σ.N)(hL:σ'.L=σ.L)(h:∀t,t∈o.looksAt ops→look σ'.fr t=look σ.fr t)(hy:HSt P A ops σ o sv L'):HSt P A ops σ' o sv L':=by
 intro fr' he K hK;rw [hN] at hK;rw [hL,hN];refine hy fr' (fun x hx=>?_) K hK
 have:=he x hx
 rw [hL,hN] at this;rw [this];exact hEb h x hx
theorem hOo.same{o:Oper}{Z:SV→List LO→Prop}(hN:σ'.N=σ.N)(hL:σ'.L=σ.L)(h:∀t,t∈o.looksAt ops→look σ'.fr t=look σ.fr t)(hy:hOo P A ops σ o Z):hOo P A ops σ' o Z:=by
 intro fr' he K hK;rw [hN] at hK;rw [hL,hN];refine hy fr' (fun x hx=>?_) K hK
 have:=he x hx
 rw [hL,hN] at this;rw [this];exact hEb h x hx
def gQy(md:Region.Mode)(ops:Array Oper):Nat→Nat→Nat→Bool
 | 0,_,_=>false
 | n+1,i,j=>match ops[j]? with
   | none=>false
   | some o=>o.after.any fun e=>Region.binds md e && (e.on==i || gQy md ops n i e.on)
def Closed(md:Region.Mode)(ops:Array Oper)(listed:Array Bool):Prop:=∀(k:Nat)(o:Oper),ops[k]? =some o→listed.getD k false=true→∀e∈o.after,Region.binds md e=true→listed.getD e.on false=true
theorem gS6{listed:Array Bool}(hc:Closed md ops listed):∀(n i j:Nat),gQy md ops n i j=true→(∀o,ops[j]? =some o→∀e∈o.after,Region.binds md e=true→listed.getD e.on false=true)→listed.getD i false=true
 | 0,i,j,h,_=>by simp [gQy] at h
 | n+1,i,j,h,hj=>by
   unfold gQy at h;cases ho:ops[j]? with
   | none=>rw [ho] at h;cases h
   | some o=>
     rw [ho] at h;obtain⟨e,he,hb⟩:=Array.any_eq_true'.1 h;simp only [Bool.and_eq_true,Bool.or_eq_true,beq_iff_eq] at hb;obtain⟨hb1,hb2⟩:=hb;have hl:=hj o ho e he hb1;rcases hb2 with rfl | hb2
     ·exact hl
     ·exact gS6 hc n i e.on hb2 (fun o' ho' e' he' hb'=>hc e.on o' ho' hl e' he' hb')
theorem Closed.step{listed:Array Bool}{i:Nat}(hc:Closed md ops listed)(hi:i∈Region.ready md ops listed):Closed md ops (listed.setIfInBounds i true):=by
 intro k o hk hl e he hb;obtain⟨h0,oi,hoi,hall⟩:=mem_ready.1 hi;by_cases hki:k=i
 ·subst hki;rw [hoi] at hk;obtain rfl:=Option.some.inj hk;exact getD_set_true (hall e he hb)
 ·rw [getD_set_ne false (fun e=>hki e.symm)] at hl;exact getD_set_true (hc k o hk hl e he hb)
abbrev PF:=List (Nat × List LO)
def VX(P:Program)(A:Amb)(md:Region.Mode)(ops:Array Oper)(K:St→Prop):Nat→Array Bool→PF→St→Prop
 | 0,listed,_,σ=>Region.ready md ops listed=[]∧K σ
 | fuel+1,listed,pf,σ=>(Region.ready md ops listed=[]→K σ)∧
   ∀i∈Region.ready md ops listed,∃o,ops[i]? =some o∧
    ((∃sv B,PSt P A ops B σ o sv∧VX P A md ops K fuel (listed.setIfInBounds i true) ((i,B)::pf) (σ.setO o.dst sv))∨
     (∃Z,hOo P A ops σ o Z∧∀sv L',Z sv L'→(∀p∈pf,gQy md ops ops.size p.1 i=true∨gP8 p.2 L')∧VX P A md ops K fuel (listed.setIfInBounds i true) pf (St.setO ⟨σ.fr,L',σ.N⟩ o.dst sv)))
theorem VX.sub:∀(fuel:Nat)(listed:Array Bool)(pf pf':PF)(σ:St),(∀p∈pf',p∈pf)→VX P A md ops K fuel listed pf σ→VX P A md ops K fuel listed pf' σ
 | 0,_,_,_,_,_,h=>h
 | fuel+1,_,pf,pf',σ,hs,h=>⟨h.1,fun i hi=>by
   obtain⟨o,h1,h2⟩:=h.2 i hi;refine⟨o,h1,?_⟩;rcases h2 with ⟨sv,B,k1,k2⟩ | ⟨Z,k1,k2⟩
   ·refine .inl ⟨sv,B,k1,VX.sub fuel _ _ _ _ (fun p hp=>?_) k2⟩;rcases List.mem_cons.1 hp with rfl | hp
    ·simp
    ·simp [hs p hp]
   ·exact .inr ⟨Z,k1,fun sv L' hz=>⟨fun p hp=>(k2 sv L' hz).1 p (hs p hp),VX.sub fuel _ _ _ _ hs (k2 sv L' hz).2⟩⟩⟩
theorem VX.alike(hK:∀σ σ',Alike σ σ'→K σ→K σ'):∀(fuel:Nat)(listed:Array Bool)(pf:PF)(σ σ':St),Alike σ σ'→VX P A md ops K fuel listed pf σ→VX P A md ops K fuel listed pf σ'
 | 0,_,_,σ,σ',ha,h=>⟨h.1,hK _ _ ha h.2⟩
 | fuel+1,_,pf,σ,σ',ha,h=>⟨fun h0=>hK _ _ ha (h.1 h0),fun i hi=>by
   obtain⟨o,h1,h2⟩:=h.2 i hi;refine⟨o,h1,?_⟩;rcases h2 with ⟨sv,B,k1,k2⟩ | ⟨Z,k1,k2⟩
   ·exact .inl ⟨sv,B,k1.same ha.N.symm (by rw [←ha.L];exact k1.2.1) (fun t _=>(ha.fr t).symm),VX.alike hK fuel _ _ _ _ (ha.setO o.dst sv) k2⟩
   ·refine .inr ⟨Z,k1.same ha.N.symm ha.L.symm (fun t _=>(ha.fr t).symm),fun sv L' hz=>⟨(k2 sv L' hz).1,VX.alike hK fuel _ _ _ _ ?_ (k2 sv L' hz).2⟩⟩;have h0:Alike ⟨σ.fr,L',σ.N⟩ ⟨σ'.fr,L',σ'.N⟩:=⟨rfl,ha.N,ha.fr⟩
    exact h0.setO o.dst sv⟩
theorem hF4{o:Oper}{a:Act}{w:World}{next:Act→World→Prop}{R R':Exit→Act→World→Prop}(h:∀e a w,e≠.normal→R e a w→R' e a w)(hw:o.wp P a w next R∨(o.asks P a w∧LetsOut R)):o.wp P a w next R'∨(o.asks P a w∧LetsOut R'):=by
 have hl:LetsOut R→LetsOut R':=fun hl=>by
  obtain⟨a,w,hl⟩:=hl;exact⟨a,w,h _ _ _ (by simp) hl⟩
 refine hw.imp (fun hw=>?_) (fun hw=>⟨hw.1,hl hw.2⟩);unfold Oper.wp at *;generalize (execOp a.eval o).run P w=r at *;cases r with
 | ok n w'=>
   cases n with
   | enter f args=>
     simp only [Oper.upon] at hw ⊢;refine Calls.mono hw (fun e w'' he=>?_);cases e with
     | returned v=>exact he
     | panicked c=>exact h _ _ _ (by simp) he
     | outgrown=>exact hl he
   | _=>exact hw
 | halt x w'=>
   cases x with
   | panic v=>simp only [Oper.upon] at hw ⊢;exact h _ _ _ (by simp) hw
   | _=>exact hw
theorem VX.wp{R:Exit→Act→World→Prop}(hR:∀σ' a' w',K σ'→mP A σ' a' w'→R .normal a' w'):∀(fuel:Nat)(listed:Array Bool)(pf:PF)(σ:St)(a:Act)(w:World),mP A σ a w→
  VX P A md ops K fuel listed pf σ→wpAny P md ops R fuel listed a w
 | 0,_,_,_,_,_,hr,h=>⟨h.1,hR _ _ _ h.2 hr⟩
 | fuel+1,listed,pf,σ,a,w,hr,h=>by
   refine⟨fun h0=>hR _ _ _ (h.1 h0) hr,fun i hi=>?_⟩;obtain⟨o,h1,h2⟩:=h.2 i hi;unfold wpOp;simp only [h1];rcases h2 with ⟨sv,B,h2,h3⟩ | ⟨Z,h2,h3⟩
   ·have h2:=h2.ys;obtain⟨S,env,hH,hf,hN,hd⟩:=hr;have put:∀(S':Nat→Prop)(w':World)(v:Value),pU A S' σ.L env w'→Carry S σ.L env w S' σ.L env w'→SVr S' σ.L env w' sv v→mP A (σ.setO o.dst sv) (a.put o.dst v) w':=by
     intro S' w' v k1 k2 k3;cases hdst:o.dst with
     | none=>exact gFg hf hN hd k1 k2
     | some t=>exact vZ hf hN hd (h2.1 t hdst) k1 k2 k3
    rcases h2.2 with ⟨g1,g2⟩ | ⟨g1,g2⟩
    ·rw [if_pos (Gd.wanted hf hN g1)];refine .inl (g2 S env a w hH (fun x _=>evr hf x) _ _ (fun v w' S' k1 k2 k3=>?_));exact VX.wp hR fuel _ _ _ _ _ (put S' w' v k1 k2 k3) h3
    ·rw [if_neg (by rw [Gd.wanted hf hN g1];simp)]
     exact VX.wp hR fuel _ _ _ _ _ (put S w undef hH Carry.refl (by rcases g2 with rfl | rfl;· simp only [SVr]
                                                                    ·simp only [SVr];exact⟨[],rfl,by simp [kV]⟩)) h3
   ·have h4:=h2 σ.fr (fun _ _=>rfl) (fun s=>VX P A md ops K fuel (listed.setIfInBounds i true) pf s) (fun sv L' hz=>(h3 sv L' hz).2);have h5:=h4 (fun e a' w'=>match e with | .normal=>wpAny P md ops R fuel (listed.setIfInBounds i true) a' w' | e=>R e a' w') (fun σ' a' w' k1 k2=>VX.wp hR fuel _ _ _ _ _ k2 k1) a w hr;unfold wpList at h5;split
    ·rename_i hw;rw [if_pos hw] at h5;refine hF4 (R:=fun e a' w'=>match e with | .normal=>wpAny P md ops R fuel (listed.setIfInBounds i true) a' w' | e=>R e a' w') (fun e a w he h=>?_) (h5.imp (Oper.wp_mono (fun a w h=>h)) id);cases e<;>first | exact absurd rfl he | exact h
    ·rename_i hw;rw [if_neg hw] at h5;exact h5
theorem VX.first(hK:∀σ σ',Alike σ σ'→K σ→K σ'){i:Nat}{oi:Oper}{v:SV}{B:List LO}(hi:ops[i]? =some oi):∀(fuel:Nat)(listed:Array Bool)(pf:PF)(σ:St),Closed md ops listed→
  (∀(j:Nat)(oj:Oper),ops[j]? =some oj→j≠i→listed.getD j true=false→(∀e∈oj.after,Region.binds md e=true→e.on≠i)→oi.apart ops oj=true)→
  i∈Region.ready md ops listed→PSt P A ops B σ oi v→
  VX P A md ops K fuel (listed.setIfInBounds i true) ((i,B)::pf) (σ.setO oi.dst v)→VX P A md ops K (fuel+1) listed pf σ:=by
 intro fuel
 induction fuel with
 | zero=>
   intro listed pf σ hc _ hr hy H;refine⟨fun h=>(by rw [h] at hr;cases hr),fun j hj=>?_⟩;by_cases hji:j=i
   ·subst hji;exact⟨oi,hi,.inl ⟨v,B,hy,H⟩⟩
   ·have:=ready_mono hj hji
    rw [H.1] at this;cases this
 | succ fuel ih=>
   intro listed pf σ hc hfree hr hy H;refine⟨fun h=>(by rw [h] at hr;cases hr),fun j hj=>?_⟩;by_cases hji:j=i
   ·subst hji;exact⟨oi,hi,.inl ⟨v,B,hy,H⟩⟩
   ·obtain⟨oj,hoj,Hj⟩:=H.2 j (ready_mono hj hji);refine⟨oj,hoj,?_⟩;obtain⟨hjun,oj',hoj',hall⟩:=mem_ready.1 hj;rw [hoj] at hoj';obtain rfl:=Option.some.inj hoj';have hiun:=(mem_ready.1 hr).1;have hnot:∀e∈oj.after,Region.binds md e=true→e.on≠i:=fun e he hb heq=>by
     have h1:=hall e he hb;have h0:=hiun;rw [heq] at h1;rcases Nat.lt_or_ge i listed.size with h' | h'
     ·simp [h'] at h0 h1;rw [h0] at h1;cases h1
     ·simp [Array.getElem?_eq_none h'] at h1
    have hap:=hfree j oj hoj hji hjun hnot;obtain⟨a1,a2,a3⟩:=Oper.apart_spec hap
    have hfree':∀(k:Nat)(ok:Oper),ops[k]? =some ok→k≠i→(listed.setIfInBounds j true).getD k true=false→
      (∀e∈ok.after,Region.binds md e=true→e.on≠i)→oi.apart ops ok=true:=fun k ok hk hki hun hno=>by
     refine hfree k ok hk hki ?_ hno;by_cases hjk:j=k
     ·subst hjk;exact hjun
     ·rw [getD_set_ne true hjk] at hun;exact hun
    rcases Hj with ⟨u,Bj,hyj,Hj⟩ | ⟨Z,hyj,Hj⟩
    ·have s1:PSt P A ops Bj σ oj u:=hyj.same (gK7 _ _ _).symm (by have:=hyj.2.1;rwa [gD4] at this) (fun t ht=>(gBn σ oi.dst v t (fun d hd e=>a1 d hd (e▸ht))).symm);have s2:PSt P A ops B (σ.setO oj.dst u) oi v:=hy.same (gK7 _ _ _) (by rw [gD4];exact hy.2.1) (fun t ht=>gBn σ oj.dst u t (fun d hd e=>a3 d hd (e▸ht)));refine .inl ⟨u,Bj,s1,ih (listed.setIfInBounds j true) _ _ (hc.step hj) hfree' (ready_mono hr (Ne.symm hji)) s2 ?_⟩;rw [Array.setIfInBounds_comm _ _ hji]
     have:=VX.alike hK fuel _ _ _ _ (gK8 σ oi.dst oj.dst v u a2) Hj
     refine VX.sub fuel _ _ _ _ (fun p hp=>?_) this;simp only [List.mem_cons] at hp ⊢;rcases hp with h | h | h
     ·exact .inr (.inl h)
     ·exact .inl h
     ·exact .inr (.inr h)
    ·have s1:hOo P A ops σ oj Z:=hyj.same (gK7 _ _ _).symm (gD4 _ _ _).symm (fun t ht=>(gBn σ oi.dst v t (fun d hd e=>a1 d hd (e▸ht))).symm);refine .inr ⟨Z,s1,fun u L' hz=>?_⟩;obtain⟨hk,Hj⟩:=Hj u L' hz;have hkeep:gP8 B L':=by
      rcases hk (i,B) (by simp)with h | h
      ·have:=gS6 hc _ _ _ h (fun o ho e he hb=>by rw [hoj] at ho;obtain rfl:=Option.some.inj ho;exact hall e he hb)
       rcases Nat.lt_or_ge i listed.size with h' | h'
       ·simp [h'] at hiun this;rw [hiun] at this;cases this
       ·simp [Array.getElem?_eq_none h'] at this
      ·exact h
     have s2:PSt P A ops B (St.setO ⟨σ.fr,L',σ.N⟩ oj.dst u) oi v:=hy.same (σ:=σ) (by rw [gK7]) (by rw [gD4];exact hkeep) (fun t ht=>gBn ⟨σ.fr,L',σ.N⟩ oj.dst u t (fun d hd e=>a3 d hd (e▸ht)));refine⟨fun p hp=>hk p (by simp [hp]),ih (listed.setIfInBounds j true) _ _ (hc.step hj) hfree' (ready_mono hr (Ne.symm hji)) s2 ?_⟩;rw [Array.setIfInBounds_comm _ _ hji];have hal:Alike (St.setO ⟨(σ.setO oi.dst v).fr,L',(σ.setO oi.dst v).N⟩ oj.dst u) ((St.setO ⟨σ.fr,L',σ.N⟩ oj.dst u).setO oi.dst v):=by
      have h1:=gK8 ⟨σ.fr,L',σ.N⟩ oi.dst oj.dst v u a2;have h0:Alike ⟨(σ.setO oi.dst v).fr,L',(σ.setO oi.dst v).N⟩ (St.setO ⟨σ.fr,L',σ.N⟩ oi.dst v):=by
       cases oi.dst<;>exact Alike.refl
      exact(h0.setO oj.dst u).trans h1
     exact VX.alike hK fuel _ _ _ _ hal Hj
def gTp(md:Region.Mode)(ops:Array Oper):List (Nat × Bool)→Array Bool→Bool
 | [],listed=>(Region.ready md ops listed).isEmpty
 | (i,true)::r,listed=>(Region.ready md ops listed).contains i && Region.free md ops listed i && gTp md ops r (listed.setIfInBounds i true)
 | (i,false)::r,listed=>(Region.ready md ops listed==[i]) && gTp md ops r (listed.setIfInBounds i true)
def VY(P:Program)(A:Amb)(ops:Array Oper)(K:St→Prop):List (Nat × Bool)→PF→St→Prop
 | [],_,σ=>K σ
 | (i,true)::r,pf,σ=>∃o sv,ops[i]? =some o∧PSt P A ops σ.L σ o sv∧VY P A ops K r ((i,σ.L)::pf) (σ.setO o.dst sv)
 | (i,false)::r,pf,σ=>∃o Z,ops[i]? =some o∧hOo P A ops σ o Z∧∀sv L',Z sv L'→(∀p∈pf,gQy .any ops ops.size p.1 i=true∨gP8 p.2 L')∧VY P A ops K r pf (St.setO ⟨σ.fr,L',σ.N⟩ o.dst sv)
theorem hWi{i:Nat}{r:List (Nat × Bool)}{pf:PF}{o:Oper}{sv:SV}{L':List LO}(h:ops[i]? =some o∧HSt P A ops σ o sv L'∧(∀p∈pf,gQy .any ops ops.size p.1 i=true∨gP8 p.2 L')∧VY P A ops K r pf (St.setO ⟨σ.fr,L',σ.N⟩ o.dst sv)):VY P A ops K ((i,false)::r) pf σ:=
 ⟨o,_,h.1,h.2.1.e,fun s l hz=>by obtain⟨rfl,rfl⟩:=hz;exact h.2.2⟩
theorem VY.vx(hK:∀σ σ',Alike σ σ'→K σ→K σ'):∀(l:List (Nat × Bool))(listed:Array Bool)(pf:PF)(σ:St),Closed .any ops listed→gTp .any ops l listed=true→VY P A ops K l pf σ→VX P A .any ops K l.length listed pf σ
 | [],_,_,_,_,hB,h=>⟨by simpa [gTp] using hB,h⟩
 | (i,true)::l,listed,pf,σ,hc,hB,h=>by
   simp only [gTp,Bool.and_eq_true] at hB;obtain⟨o,sv,h1,h2,h3⟩:=h;have hr:i∈Region.ready .any ops listed:=by simpa using hB.1.1
   exact VX.first hK h1 l.length listed pf σ hc (Region.free_spec h1 hB.1.2) hr h2 (VY.vx hK l _ _ _ (hc.step hr) hB.2 h3)
 | (i,false)::l,listed,pf,σ,hc,hB,h=>by
   simp only [gTp,Bool.and_eq_true,beq_iff_eq] at hB;obtain⟨o,Z,h1,h2,h3⟩:=h;show VX P A .any ops K (l.length+1) listed pf σ;refine⟨fun h0=>(by rw [hB.1] at h0;cases h0),fun j hj=>?_⟩;rw [hB.1] at hj;obtain rfl:j=i:=by simpa using hj
   have hr:j∈Region.ready .any ops listed:=by rw [hB.1];simp
   exact⟨o,h1,.inr ⟨Z,h2,fun sv L' hz=>⟨(h3 sv L' hz).1,VY.vx hK l _ _ _ (hc.step hr) hB.2 (h3 sv L' hz).2⟩⟩⟩
theorem VY.mono{K':St→Prop}(hK:∀s,K s→K' s):∀(l:List (Nat × Bool))(pf:PF)(σ:St),VY P A ops K l pf σ→VY P A ops K' l pf σ
 | [],_,_,h=>hK _ h
 | (_,true)::l,_,_,⟨o,sv,h1,h2,h3⟩=>⟨o,sv,h1,h2,VY.mono hK l _ _ h3⟩
 | (_,false)::l,_,_,⟨o,Z,h1,h2,h3⟩=>⟨o,Z,h1,h2,fun sv L' hz=>⟨(h3 sv L' hz).1,VY.mono hK l _ _ (h3 sv L' hz).2⟩⟩
theorem gMh {id:Nat}{l:List Oper}{Q:Exit→St→Prop}(hm:P.follows .mixedOrders=true)(ord:List (Nat × Bool))(hB:(gTp .any l.toArray ord (Array.replicate l.length false) && ord.length==l.length)=true)
  (h:VY P A l.toArray (Q .normal) ord [] σ):V P A (.region id l.toArray true) σ Q:=by
 intro a w hr;simp only [Bool.and_eq_true,beq_iff_eq] at hB;refine wp_region_any hm ?_;have h1:=VY.mono (K':=fun s=>∃s',Alike s s'∧Q .normal s') (fun s hs=>⟨s,.refl,hs⟩) ord [] σ h;have hc:Closed .any l.toArray (Array.replicate l.length false):=fun k o _ hl=>by rw [Array.getD_eq_getD_getElem?,Array.getElem?_replicate] at hl;split at hl<;>simp at hl
 have h2:=VY.vx (fun σ σ' ha ⟨s',k1,k2⟩=>⟨s',ha.symm.trans k1,k2⟩) ord _ _ _ hc hB.1 h1;rw [hB.2] at h2;have h3:=VX.wp (R:=fun e a' w'=>∃σ',Q e σ'∧mP A σ' a' w') (fun s a' w' ⟨s',k1,k2⟩ hr'=>⟨s',k2,k1.realz hr'⟩) l.length _ _ σ a _ hr.drew h2;simpa using h3
theorem yA {id:Nat}{l:List Oper}{y:Code}{Q:Exit→St→Prop}(hm:P.follows .mixedOrders=true)(ord:List (Nat × Bool))(hB:(gTp .any l.toArray ord (Array.replicate l.length false) && ord.length==l.length)=true)
  (h:VY P A l.toArray (fun s=>V P A y s Q) ord [] σ):V P A (.seq (.region id l.toArray true) y) σ Q:=kC (gMh hm ord hB h)
end
end Go.Eng
