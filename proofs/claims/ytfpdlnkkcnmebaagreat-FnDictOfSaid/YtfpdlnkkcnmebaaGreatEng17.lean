import Derived.Test.YtfpdlnkkcnmebaaGreatEng15
namespace Go.Eng
open Go Go.RowKit
section
variable {w w':World}
mutual
theorem U.flat_len:∀(u:U),u.flat.length=u.sz
 | .i _ _=>rfl
 | .b _=>rfl
 | .s _=>rfl
 | .sl _ _=>rfl
 | .st us=>by simp only [U.flat,U.sz];exact U.flats_len us
theorem U.flats_len:∀(us:List U),(U.flats us).length=U.szs us
 | []=>rfl
 | u::us=>by simp only [U.flats,U.szs,List.length_append,U.flat_len u,U.flats_len us]
end
def fpl(w:World):List U→List Value→List Nat
 | u::us,c::cs=>u.fp w [c]++fpl w us cs
 | _,_=>[]
theorem gS0:∀(us:List U)(cs:List Value)(vs:List U)(ds:List Value),us.length=cs.length→fpl w (us++vs) (cs++ds)=fpl w us cs++fpl w vs ds
 | [],[],vs,ds,_=>by simp [fpl]
 | u::us,c::cs,vs,ds,h=>by simp only [List.cons_append,fpl,gS0 us cs vs ds (by simpa using h),List.append_assoc]
 | [],_::_,_,_,h=>by simp at h
 | _::_,[],_,_,h=>by simp at h
mutual
theorem gT3:∀(u:U)(cs:List Value),cs.length=u.sz→u.fp w cs=fpl w u.flat cs
 | .i _ _,cs,h=>by
   match cs,h with
   | [c],_=>rfl
 | .b _,cs,h=>by
   match cs,h with
   | [c],_=>rfl
 | .s _,cs,h=>by
   match cs,h with
   | [c],_=>rfl
 | .sl _ _,cs,h=>by
   match cs,h with
   | [c],_=>simp only [U.flat,fpl,List.append_nil]
 | .st us,cs,h=>by simp only [U.fp,U.flat];exact gYy us cs h
theorem gYy:∀(us:List U)(cs:List Value),cs.length=U.szs us→U.fps w us cs=fpl w (U.flats us) cs
 | [],cs,h=>by
   match cs,h with
   | [],_=>rfl
 | u::us,cs,h=>by
   simp only [U.szs] at h;simp only [U.fps,U.flats];rw [gT3 u _ (by simp;omega),gYy us _ (by simp;omega),←gS0 _ _ _ _ (by rw [U.flat_len];simp;omega),List.take_append_drop]
end
mutual
theorem Tr.lt:∀(u:U)(cs:List Value),Tr w u cs→∀b∈u.fp w cs,b < w.heap.size
 | .i k n,cs,h,b,hb=>by simp [U.fp] at hb
 | .b x,cs,h,b,hb=>by simp [U.fp] at hb
 | .s l,cs,h,b,hb=>by simp [U.fp] at hb
 | .st us,cs,h,b,hb=>by
   simp only [Tr] at h;simp only [U.fp] at hb;exact Trs.lt us cs h b hb
 | .sl z us,cs,h,b,hb=>by
   simp only [Tr] at h;obtain⟨h1,h2,hv,e,xs,rfl,h3,h4⟩:=h;rcases gGm h2 h3 with ⟨rfl,rfl,hf⟩ | ⟨g,cap,rfl,hf⟩
   ·rw [hf] at hb;cases hb
   ·rw [hf] at hb;rcases List.mem_cons.1 hb with rfl | hb
    ·exact(h3.lt b (by simp [Value.ownBlock])).2
    ·exact Trs.lt us xs h4 b hb
theorem Trs.lt:∀(us:List U)(cs:List Value),Trs w us cs→∀b∈U.fps w us cs,b < w.heap.size
 | [],cs,h,b,hb=>by simp [U.fps] at hb
 | u::us,cs,h,b,hb=>by
   simp only [Trs] at h;simp only [U.fps,List.mem_append] at hb;rcases hb with hb | hb
   ·exact Tr.lt u _ h.1 b hb
   ·exact Trs.lt us _ h.2 b hb
end
mutual
theorem Tr.rd{S:Nat→Prop}:∀(u:U)(cs:List Value),Tr w u cs→(∀b∈u.fp w cs,S b)→Rd S w u cs
 | .i k n,cs,h,_=>by simpa only [Tr,Rd] using h
 | .b x,cs,h,_=>by simpa only [Tr,Rd] using h
 | .s l,cs,h,_=>by simpa only [Tr,Rd] using h
 | .st us,cs,h,hb=>by
   simp only [Tr] at h;simp only [U.fp] at hb;simp only [Rd];exact Trs.rd us cs h hb
 | .sl z us,cs,h,hb=>by
   simp only [Tr] at h;obtain⟨h1,h2,hv,e,xs,rfl,h3,h4⟩:=h;simp only [Rd];rcases gGm h2 h3 with ⟨rfl,rfl,hf⟩ | ⟨g,cap,rfl,hf⟩
   ·exact⟨h1,none,0,rfl,.inl rfl⟩
   ·rw [hf] at hb;have hc:us.length≤cap:=by
     rcases h3.2 with ⟨h,_⟩ | ⟨g',cap',cur,h,_,_,hc,_⟩
     ·cases h
     ·cases h;exact hc
    exact⟨h1,_,cap - us.length,by rw [Nat.add_sub_cancel' hc],.inr ⟨g,0,rfl,hb g (by simp),RdE.of_Rds us xs 0 h2 (Trs.rd us xs h4 (fun b hb'=>hb b (by simp [hb']))) (gOt h3 rfl)⟩⟩
theorem Trs.rd{S:Nat→Prop}:∀(us:List U)(cs:List Value),Trs w us cs→(∀b∈U.fps w us cs,S b)→Rds S w us cs
 | [],cs,h,_=>by simpa only [Trs,Rds] using h
 | u::us,cs,h,hb=>by
   simp only [Trs] at h;simp only [U.fps] at hb;simp only [Rds];exact⟨_,_,(List.take_append_drop u.sz cs).symm,Tr.rd u _ h.1 (fun b hb'=>hb b (by simp [hb'])),Trs.rd us _ h.2 (fun b hb'=>hb b (by simp [hb']))⟩
end
theorem Trs.append:∀(us:List U)(cs:List Value)(vs:List U)(ds:List Value),Trs w us cs→Trs w vs ds→Trs w (us++vs) (cs++ds)∧U.fps w (us++vs) (cs++ds)=U.fps w us cs++U.fps w vs ds
 | [],cs,vs,ds,h,h'=>by simp only [Trs] at h;subst h;exact⟨h',by simp [U.fps]⟩
 | u::us,cs,vs,ds,h,h'=>by
   simp only [Trs] at h;have hl:=Tr.len u _ h.1;have hle:u.sz≤cs.length:=by simp only [List.length_take] at hl;omega
   obtain⟨k1,k2⟩:=Trs.append us (cs.drop u.sz) vs ds h.2 h';simp only [List.cons_append,Trs,U.fps];rw [List.take_append_of_le_length hle,List.drop_append_of_le_length hle];exact⟨⟨h.1,k1⟩,by rw [k2,List.append_assoc]⟩
theorem Trs.split:∀(us:List U)(cs:List Value)(vs:List U),Trs w (us++vs) cs→Trs w us (cs.take (U.szs us))∧Trs w vs (cs.drop (U.szs us))∧U.fps w (us++vs) cs=U.fps w us (cs.take (U.szs us))++U.fps w vs (cs.drop (U.szs us))
 | [],cs,vs,h=>by simpa [Trs,U.szs,U.fps] using h
 | u::us,cs,vs,h=>by
   simp only [List.cons_append,Trs] at h;obtain⟨k1,k2,k3⟩:=Trs.split us _ vs h.2;simp only [List.cons_append,Trs,U.fps,U.szs];rw [List.drop_drop] at k2 k3;rw [List.take_take,Nat.min_eq_left (by omega)];have e:(cs.take (u.sz+U.szs us)).drop u.sz=(cs.drop u.sz).take (U.szs us):=by rw [List.drop_take];congr 1;omega
   rw [e];exact⟨⟨h.1,k1⟩,k2,by rw [k3,List.append_assoc]⟩
theorem Tr.nil(w:World)(z:Nat):Tr w (.sl z []) [.slice none 0 0]∧(U.sl z []).fp w [.slice none 0 0]=[]:=by
 simp only [Tr];exact⟨⟨by simp [yY],by simp,_,0,[],rfl,World.ownsRow_nil w 0 0 z,by simp [Trs]⟩,rfl⟩
end
mutual
def U.noSl:U→Bool
 | .sl _ _=>false
 | .st us=>U.noSls us
 | .i _ _=>true
 | .b _=>true
 | .s _=>true
def U.noSls:List U→Bool
 | []=>true
 | u::us=>u.noSl && U.noSls us
end
mutual
theorem Rd.tr{S:Nat→Prop}{w w':World}:∀(u:U)(cs:List Value),u.noSl=true→Rd S w u cs→Tr w' u cs∧u.fp w' cs=[]
 | .i k n,cs,_,h=>by simp only [Rd] at h;exact⟨by simpa only [Tr] using h,rfl⟩
 | .b x,cs,_,h=>by simp only [Rd] at h;exact⟨by simpa only [Tr] using h,rfl⟩
 | .s l,cs,_,h=>by simp only [Rd] at h;exact⟨by simpa only [Tr] using h,rfl⟩
 | .st us,cs,hn,h=>by
   simp only [Rd] at h;simp only [U.noSl] at hn;simp only [Tr,U.fp];exact Rds.tr us cs hn h
 | .sl z us,cs,hn,h=>by cases hn
theorem Rds.tr{S:Nat→Prop}{w w':World}:∀(us:List U)(cs:List Value),U.noSls us=true→Rds S w us cs→Trs w' us cs∧U.fps w' us cs=[]
 | [],cs,_,h=>by simp only [Rds] at h;exact⟨by simpa only [Trs] using h,rfl⟩
 | u::us,cs,hn,h=>by
   simp only [Rds] at h;simp only [U.noSls,Bool.and_eq_true] at hn;obtain⟨c1,c2,rfl,h2,h3⟩:=h;have hl:=Rd.length _ _ h2;obtain⟨k1,k2⟩:=Rd.tr (w':=w') u c1 hn.1 h2;obtain⟨k3,k4⟩:=Rds.tr (w':=w') us c2 hn.2 h3;simp only [Trs,U.fps];rw [←hl,List.take_left,List.drop_left,k2,k4];exact⟨⟨k1,k3⟩,rfl⟩
end
def kill(js:List Nat):Nat→List LO→List LO
 | _,[]=>[]
 | i,o::L=>(if js.contains i then .dead (o.ver+1)else o)::kill js (i+1) L
theorem gA9(js:List Nat):∀(L:List LO)(n:Nat),(kill js n L).length=L.length
 | [],_=>rfl
 | _::L,n=>by simp [kill,gA9 js L]
theorem gNq(js:List Nat):∀(L:List LO)(n i:Nat),(kill js n L)[i]? =L[i]?.map (fun o=>if js.contains (n+i)then .dead (o.ver+1)else o)
 | [],_,_=>by simp [kill]
 | o::L,n,0=>by simp [kill]
 | o::L,n,i+1=>by simp only [kill,List.getElem?_cons_succ,gNq js L (n+1) i];rw [show n+1+i=n+(i+1) by omega]
theorem pW.eat {A:Amb}{S:Nat→Prop}{L L':List LO}{env env':List Value}{w w':World}(h:pW A S L env w)(js:List Nat)(i:Nat)(o2:LO)(hv2:Value)
  (hlen:env'.length=L'.length)
  (hL:∀j,j≠i→L'[j]? =L[j]?.map (fun o=>if js.contains j then .dead (o.ver+1)else o)) (hLi:L'[i]? =some o2)
  (hE:∀j,j≠i→env'[j]? =env[j]?) (hEi:env'[i]? =some hv2)
  (hold:∀k,k < w.heap.size→(∀o hv,L[i]? =some o→env[i]? =some hv→¬ (o.live=true∧o.ft w hv k))→w'.heap[k]? =w.heap[k]?)
  (hi:∀o hv,L[i]? =some o→env[i]? =some hv→o.ver≤o2.ver∧(o.ver=o2.ver→hv2=hv)∧(∀b,hv=.pointer (some ⟨b,0,none⟩)→hv2=hv))
  (hsz:w.heap.size≤w'.heap.size) (hos:w'.os=w.os) (htape:w'.tape=w.tape) (hout:w'.output=w.output)
  (hft:∀k,o2.ft w' hv2 k→k < w'.heap.size∧(w.heap.size≤k∨∃j o hv,(j=i∨js.contains j=true)∧L[j]? =some o∧o.live=true∧env[j]? =some hv∧o.ft w hv k))
  (ho:Carry S L env w S L' env' w'→gH2 S L' env' w' o2 hv2) :
  pW A S L' env' w'∧Carry S L env w S L' env' w':=by
 have envOf:∀j hv,env[j]? =some hv→∃o,L[j]? =some o:=fun j hv hj=>by
  have:=(List.getElem?_eq_some_iff.1 hj).1
  rw [h.len] at this;exact⟨_,List.getElem?_eq_getElem this⟩
 have hlenL:L.length≤L'.length:=by
  cases hn:L.length with
  | zero=>exact Nat.zero_le _
  | succ m=>
    have hm:L[m]? =some (L[m]'(by omega)):=List.getElem?_eq_getElem _;by_cases hmi:m=i
    ·subst hmi;exact(List.getElem?_eq_some_iff.1 hLi).1
    ·have:=hL m hmi
     rw [hm] at this;exact(List.getElem?_eq_some_iff.1 this).1
 have C:Carry S L env w S L' env' w':=by
  refine⟨fun _ h _=>h,fun b hb hlt=>hold b hlt (fun o hv h1 h2 h3=>(h.excl i o hv b h1 h3.1 h2 h3.2).1 hb),fun j b hj=>?_,fun j hv o h1 h2=>?_⟩
  ·by_cases hji:j=i
   ·subst hji;obtain⟨o,ho'⟩:=envOf j _ hj;rw [hEi,(hi o _ ho' hj).2.2 b rfl]
   ·rw [hE j hji];exact hj
  ·by_cases hji:j=i
   ·subst hji;exact⟨hv2,o2,hEi,hLi,(hi o hv h2 h1).1,(hi o hv h2 h1).2.1⟩
   ·refine⟨hv,if js.contains j then .dead (o.ver+1)else o,by rw [hE j hji];exact h1,by rw [hL j hji,h2];rfl,?_,fun _=>rfl⟩;split
    ·exact Nat.le_succ _
    ·exact Nat.le_refl _
 have hget:∀j o',j≠i→L'[j]? =some o'→o'.live=true→js.contains j=false∧L[j]? =some o':=by
  intro j o' hji hj hl;rw [hL j hji] at hj;cases hLj:L[j]? with
  | none=>rw [hLj] at hj;cases hj
  | some o=>
    rw [hLj] at hj;simp only [Option.map_some,Option.some.injEq] at hj;cases hc:js.contains j with
    | true=>rw [hc] at hj;simp only [if_true] at hj;subst hj;cases hl
    | false=>rw [hc] at hj;simp only [Bool.false_eq_true,if_false] at hj;subst hj;exact⟨rfl,rfl⟩
 have hkeep:∀(j:Nat)(o':LO)(hv':Value),j≠i→L[j]? =some o'→o'.live=true→env[j]? =some hv'→∀k,o'.ft w hv' k→w'.heap[k]? =w.heap[k]? :=fun j o' hv' hj h3 hl h2 k hk=>
  hold k (h.excl j o' hv' k h3 hl h2 hk).2.2 (fun o hv k1 k2 k3=>hj (h.dist j i o' o hv' hv k h3 k1 hl k3.1 h2 k2 hk k3.2))
 have hfe:∀(j:Nat)(o':LO)(hv':Value),j≠i→L[j]? =some o'→o'.live=true→env[j]? =some hv'→∀k,o'.ft w' hv' k→o'.ft w hv' k:=fun j o' hv' hj h3 hl h2 k hk=>
  (LO.ft_eq (h.objs j o' hv' h3 h2) (hkeep j o' hv' hj h3 hl h2) k).1 hk
 have hclash:∀(j:Nat)(o':LO)(hv':Value) k,j≠i→L'[j]? =some o'→o'.live=true→env'[j]? =some hv'→o'.ft w' hv' k→o2.ft w' hv2 k→False:=by
  intro j o' hv' k hj h1 hl h2 h3 h4;obtain⟨q1,q2⟩:=hget j o' hj h1 hl;rw [hE j hj] at h2;have h3':=hfe j o' hv' hj q2 hl h2 k h3;rcases(hft k h4).2 with h5 | ⟨j0,o0,hv0,m1,m2,m3,m4,m5⟩
  ·have:=(h.excl j o' hv' k q2 hl h2 h3').2.2
   omega
  ·have:=h.dist j j0 o' o0 hv' hv0 k q2 m2 hl m3 h2 m4 h3' m5
   subst this;rcases m1 with m1 | m1
   ·exact hj m1
   ·rw [q1] at m1;cases m1
 refine⟨⟨hlen,?_,?_,?_,fun b hb=>Nat.lt_of_lt_of_le (h.sS b hb) hsz,h.sA,fun k h1 h2=>?_,Nat.le_trans h.size hsz,hos.trans h.os,htape.trans h.tape,hout.trans h.output,h.base.carry C h.len hlenL,h.glob⟩,C⟩
 ·intro j o' hv' h1 h2;by_cases hji:j=i
  ·subst hji;rw [hLi] at h1;rw [hEi] at h2;cases h1;cases h2;exact ho C
  ·cases hl:o'.live with
   | true=>
     obtain⟨_,q2⟩:=hget j o' hji h1 hl;rw [hE j hji] at h2;exact gH2.carry C (fun k hl hk=>hkeep j o' hv' hji q2 hl h2 k hk) (h.objs j o' hv' q2 h2)
   | false=>
     rw [hL j hji] at h1;cases hLj:L[j]? with
     | none=>rw [hLj] at h1;cases h1
     | some o=>
       rw [hLj] at h1;simp only [Option.map_some,Option.some.injEq] at h1;cases hc:js.contains j with
       | true=>rw [hc] at h1;simp only [if_true] at h1;subst h1;trivial
       | false=>
         rw [hc] at h1;simp only [Bool.false_eq_true,if_false] at h1;subst h1;rw [hE j hji] at h2;exact gH2.carry C (fun k hl' hk=>by rw [hl] at hl';cases hl') (h.objs j o hv' hLj h2)
 ·intro j o' hv' k h1 hl h2 hk;by_cases hji:j=i
  ·subst hji;rw [hLi] at h1;rw [hEi] at h2;cases h1;cases h2;obtain⟨q1,q2⟩:=hft k hk;rcases q2 with q2 | ⟨j0,o0,hv0,_,m2,m3,m4,m5⟩
   ·exact⟨fun hs=>by have:=h.sS k hs;omega,.inr (Nat.le_trans h.size q2),q1⟩
   ·have:=h.excl j0 o0 hv0 k m2 m3 m4 m5
    exact⟨this.1,this.2.1,q1⟩
  ·obtain⟨_,q2⟩:=hget j o' hji h1 hl;rw [hE j hji] at h2
   have:=h.excl j o' hv' k q2 hl h2 (hfe j o' hv' hji q2 hl h2 k hk)
   exact⟨this.1,this.2.1,Nat.lt_of_lt_of_le this.2.2 hsz⟩
 ·intro j j' o1 o1' hv1 hv1' k h1 h2 hl1 hl2 e1 e2 b1 b2;by_cases hji:j=i<;>by_cases hji':j'=i
  ·rw [hji,hji']
  ·subst hji;rw [hLi] at h1;rw [hEi] at e1;cases h1;cases e1;exact(hclash j' o1' hv1' k hji' h2 hl2 e2 b2 b1).elim
  ·subst hji';rw [hLi] at h2;rw [hEi] at e2;cases h2;cases e2;exact(hclash j o1 hv1 k hji h1 hl1 e1 b1 b2).elim
  ·obtain⟨_,q2⟩:=hget j o1 hji h1 hl1;obtain⟨_,q2'⟩:=hget j' o1' hji' h2 hl2;rw [hE j hji] at e1;rw [hE j' hji'] at e2;exact h.dist j j' o1 o1' hv1 hv1' k q2 q2' hl1 hl2 e1 e2 (hfe j o1 hv1 hji q2 hl1 e1 k b1) (hfe j' o1' hv1' hji' q2' hl2 e2 k b2)
 ·rw [hold k (Nat.lt_of_lt_of_le h1 h.size) (fun o hv q1 q2 q3=>?_)]
  ·exact h.frame k h1 h2
  ·rcases(h.excl i o hv k q1 q3.1 q2 q3.2).2.1 with hE' | hE'
   ·exact h2 hE'
   ·omega
mutual
inductive Lv:U→List U→Prop
 | i {k:IntKind} {n:Int}:Lv (.i k n) [.i k n]
 | b {x:Bool}:Lv (.b x) [.b x]
 | s {l:LB}:Lv (.s l) [.s l]
 | sl {z:Nat} {us:List U}:Lv (.sl z us) [.sl z us]
 | st {us fl:List U}:Lvs us fl→Lv (.st us) fl
inductive Lvs:List U→List U→Prop
 | nil:Lvs [] []
 | cons {u:U} {us a b c:List U}:Lv u a→Lvs us b→Jn a b c→Lvs (u::us) c
end
mutual
theorem Lv.eq:∀{u:U}{fl:List U},Lv u fl→u.flat=fl
 | _,_,.i=>rfl
 | _,_,.b=>rfl
 | _,_,.s=>rfl
 | _,_,.sl=>rfl
 | _,_,.st h=>by simp only [U.flat];exact h.eq
theorem Lvs.eq:∀{us fl:List U},Lvs us fl→U.flats us=fl
 | _,_,.nil=>rfl
 | _,_,.cons h1 h2 h3=>by simp only [U.flats,h1.eq,h2.eq];exact h3.spec
end
inductive OL (L:List LO):SV→U→List Nat→Prop
 | i {k:IntKind} {n:Int}:OL L (.d (.i k n)) (.i k n) []
 | b {x:Bool}:OL L (.d (.b x)) (.b x) []
 | s {l:LB}:OL L (.d (.s l)) (.s l) []
 | nil {z:Nat}:OL L .nilsl (.sl z []) []
 | sl {i ver e z:Nat} {es:List U} (h:L[i]? =some (.own e z ver es)):OL L (.sl i ver) (.sl z es) [i]
inductive OLs (L:List LO):List SV→List U→List Nat→Prop
 | nil:OLs L [] [] []
 | cons {sv:SV} {svs:List SV} {u:U} {us:List U} {js js' r:List Nat} (h:OL L sv u js) (h2:OLs L svs us js') (h3:Jn js js' r):OLs L (sv::svs) (u::us) r
inductive OV (L:List LO):SV→U→List Nat→Prop
 | ag {cs:List SV} {us fl:List U} {js:List Nat} (h:Lvs us fl) (h2:OLs L cs fl js):OV L (.ag cs) (.st us) js
 | leaf {sv:SV} {u:U} {js:List Nat} (h:OL L sv u js):OV L sv u js
 | d {us:List U} (h:U.noSls us=true):OV L (.d (.st us)) (.st us) []
def gT4(L:List LO)(env:List Value)(w:World)(j b:Nat):Prop:=∃o hv,L[j]? =some o∧o.live=true∧env[j]? =some hv∧o.ft w hv b
theorem gT4.inj{A:Amb}{S:Nat→Prop}{L:List LO}{env:List Value}{w:World}(hH:pW A S L env w){j j' b:Nat}(h:gT4 L env w j b)(h':gT4 L env w j' b):j=j':=by
 obtain⟨o,hv,h1,h2,h3,h4⟩:=h;obtain⟨o',hv',h1',h2',h3',h4'⟩:=h';exact hH.dist j j' o o' hv hv' b h1 h1' h2 h2' h3 h3' h4 h4'
mutual
theorem Tr.of_leafs{w:World}:∀(u:U)(cs:List Value),yZ (fun u c=>Tr w u [c]) u.flat cs→Tr w u cs
 | .i k n,cs,h=>by
   match cs,h with
   | [c],h=>exact h.1
   | _::_::_,h=>exact h.2.elim
 | .b x,cs,h=>by
   match cs,h with
   | [c],h=>exact h.1
   | _::_::_,h=>exact h.2.elim
 | .s l,cs,h=>by
   match cs,h with
   | [c],h=>exact h.1
   | _::_::_,h=>exact h.2.elim
 | .sl z us,cs,h=>by
   match cs,h with
   | [c],h=>exact h.1
   | _::_::_,h=>exact h.2.elim
 | .st us,cs,h=>by simp only [U.flat] at h;simp only [Tr];exact Trs.of_leafs us cs h
theorem Trs.of_leafs{w:World}:∀(us:List U)(cs:List Value),yZ (fun u c=>Tr w u [c]) (U.flats us) cs→Trs w us cs
 | [],cs,h=>by
   simp only [U.flats] at h
   match cs,h with
   | [],_=>simp [Trs]
 | u::us,cs,h=>by
   simp only [U.flats] at h;obtain⟨c1,c2,rfl,h2,h3⟩:=yZ.split h;have hl:c1.length=u.sz:=by rw [←h2.length,U.flat_len]
   simp only [Trs];rw [←hl,List.take_left,List.drop_left];exact⟨Tr.of_leafs u c1 h2,Trs.of_leafs us c2 h3⟩
end
section
variable {A:Amb}{S:Nat→Prop}{L:List LO}{env:List Value}{w:World}
theorem OL.r(hH:pW A S L env w){sv:SV}{u:U}{js:List Nat}{v:Value}(h:OL L sv u js)(hv:SVr S L env w sv v) :
  Tr w u [v]∧(u.fp w [v]).Nodup∧(∀b∈u.fp w [v],∃j∈js,gT4 L env w j b)∧v.oneCell'=true∧u.isSt=false:=by
 cases h with
 | i=>have:=SVr.int.1 hv;subst this;exact⟨by simp [Tr],by simp [U.fp],by simp [U.fp],rfl,rfl⟩
 | b=>have:=SVr.bool.1 hv;subst this;exact⟨by simp [Tr],by simp [U.fp],by simp [U.fp],rfl,rfl⟩
 | s=>obtain⟨h1,rfl⟩:=SVr.str.1 hv;exact⟨by simp only [Tr];exact⟨h1,trivial⟩,by simp [U.fp],by simp [U.fp],rfl,rfl⟩
 | nil=>
   simp only [SVr] at hv;subst hv;obtain⟨k1,k2⟩:=Tr.nil w ‹Nat›;exact⟨k1,by rw [k2];exact List.nodup_nil,by rw [k2];simp,rfl,rfl⟩
 | @sl i ver e z es h=>
   simp only [SVr] at hv;obtain⟨hv',o,k1,k2,k3,k5,k4⟩:=hv;rw [h] at k2;obtain rfl:=Option.some.inj k2;have k6:=k4 rfl;subst k6;have ho:=hH.objs i _ _ h k1;exact⟨gRa ho,ho.2.2.2,fun b hb=>⟨i,by simp,_,_,h,rfl,k1,hb⟩,k5,rfl⟩
theorem OLs.r(hH:pW A S L env w){svs:List SV}{us:List U}{js:List Nat}(h:OLs L svs us js):∀{vs:List Value},js.Nodup→kP S L env w svs vs→
  yZ (fun u c=>Tr w u [c]) us vs∧(fpl w us vs).Nodup∧(∀b∈fpl w us vs,∃j∈js,gT4 L env w j b)∧∀v∈vs,v.oneCell'=true:=by
 induction h with
 | nil=>
   intro vs _ hv;cases vs with
   | nil=>exact⟨trivial,by simp [fpl],by simp [fpl],by simp⟩
   | cons _ _=>simp [kP] at hv
 | @cons sv svs u us js js' r h h2 h3 ih=>
   intro vs hn hv;cases vs with
   | nil=>simp [kP] at hv
   | cons v vs=>
     simp only [kP] at hv;have hr:=h3.spec;subst hr;obtain⟨n1,n2,n3⟩:=List.nodup_append.1 hn;obtain⟨a1,a2,a3,a4,_⟩:=h.r hH hv.1;obtain⟨b1,b2,b3,b4⟩:=ih n2 hv.2;refine⟨⟨a1,b1⟩,?_,?_,?_⟩
     ·simp only [fpl];refine List.nodup_append.2 ⟨a2,b2,fun x hx y hy hxy=>?_⟩;subst hxy;obtain⟨j,hj,o1⟩:=a3 x hx;obtain⟨j',hj',o2⟩:=b3 x hy;exact n3 j hj j' hj' (o1.inj hH o2)
     ·intro b hb;simp only [fpl,List.mem_append] at hb;rcases hb with hb | hb
      ·obtain⟨j,hj,o⟩:=a3 b hb;exact⟨j,by simp [hj],o⟩
      ·obtain⟨j,hj,o⟩:=b3 b hb;exact⟨j,by simp [hj],o⟩
     ·intro x hx;rcases List.mem_cons.1 hx with rfl | hx
      ·exact a4
      ·exact b4 x hx
theorem OV.r(hH:pW A S L env w){sv:SV}{u:U}{js:List Nat}{v:Value}(h:OV L sv u js)(hn:js.Nodup)(hv:SVr S L env w sv v) :
  ∃cs,v=val u cs∧v.cells.toList=cs∧Tr w u cs∧(u.fp w cs).Nodup∧(∀b∈u.fp w cs,∃j∈js,gT4 L env w j b)∧∀c∈cs,c.oneCell'=true:=by
 cases h with
 | @ag cs us fl js h h2=>
   simp only [SVr] at hv;obtain⟨vs,rfl,hv⟩:=hv;have hfl:=h.eq;subst hfl;obtain⟨a1,a2,a3,a4⟩:=h2.r hH hn hv;have hl:vs.length=(U.st us).sz:=by rw [←a1.length,U.flats_len];rfl
   refine⟨vs,rfl,by simp [Value.cells],Tr.of_leafs (.st us) vs (by simp only [U.flat];exact a1),?_,?_,a4⟩
   ·rw [gT3 _ _ hl];simp only [U.flat];exact a2
   ·rw [gT3 _ _ hl];simp only [U.flat];exact a3
 | leaf h=>
   obtain⟨a1,a2,a3,a4,a5⟩:=h.r hH hv;exact⟨[v],by simp [val,a5],by rw [cells_one a4],a1,a2,a3,by simpa using a4⟩
 | @d us h=>
   simp only [SVr] at hv;obtain⟨cs,rfl,hv⟩:=hv;obtain⟨k1,k2⟩:=Rd.tr (w':=w) (.st us) cs (by simpa only [U.noSl] using h) hv;exact⟨cs,rfl,gLg hv,k1,by rw [k2];exact List.nodup_nil,by rw [k2];simp,Rd.oneCell _ _ hv⟩
end
section
variable {P:Program}{A:Amb}{σ:St}{K:St→Prop}
variable {ops:Array Oper}{rest:List Oper}{t:Nat}{ty:TypeId}{pos:String}{af:Array Edge}{x y:Operand}{sv:SV}
theorem gF4{js:List Nat}{j:Nat}(h:j∈js):js.contains j=true:=by simpa using h
theorem gVf{w:World}{e z:Nat}{xs:List Value}{us:List U}{hv:Value}(hz:∀u∈us,u.sz=z)(h:w.ownsRow 0 e z hv us.length xs)(b:Nat)(hb:blk hv=some b):(U.sl z us).fp w [hv]=b::U.fps w us xs:=by
 rcases gGm hz h with ⟨rfl,_,_⟩ | ⟨g,cap,rfl,hf⟩
 ·simp [blk] at hb
 ·simp [blk] at hb;subst hb;exact hf
theorem hDb {T:TypeId}{gg:Bool}{i ver z k e bs:Nat}{es:List U}{u:U}{js:List Nat}{fr:List (Nat × SV)}{L L':List LO}{N:Nat}(hx:(St.mk fr L N).ev x=.ep i ver z k 0)(hL:L[i]? =some (.own e z ver es))(hy:OV L ((St.mk fr L N).ev y) u js)
  (hjs:(decide js.Nodup && !js.contains i)=true) (hT:tyI P T=some (gg,z,bs)) (hu:u.sz=z) (hk:k < es.length) (hL':(kill js 0 L).set i (.own e z ver (es.set k u))=L')
  (h:VO P A ops rest ⟨fr,L',N⟩ K) :
  VO P A ops (⟨none,.store T x y,ty,pos,af,none⟩::rest) ⟨fr,L,N⟩ K:=by
 subst hL';simp only [Bool.and_eq_true,decide_eq_true_eq,Bool.not_eq_true'] at hjs;refine gDd rfl (fun S env a w hH hf hN hd=>?_) h;have h1:=mY.ev hf hH x;obtain⟨cs,c1,hcells,c2,c3,c4,c5⟩:=hy.r hH hjs.1 (mY.ev hf hH y);rw [hx] at h1;simp only [SVr] at h1;obtain⟨hv,o,k1,k2,k3,k5,k4⟩:=h1;rw [hL] at k2;obtain rfl:=Option.some.inj k2;obtain⟨b,e1,e2⟩:=k4 rfl;obtain⟨hbg,hz,⟨xs,m1,m2⟩,hnd⟩:=hH.objs i _ hv hL k1;have hcl:=Tr.len _ _ c2;rw [hu] at hcl;have hfp:=gVf hz m1 b e1;rw [hfp] at hnd;rcases m1.2 with ⟨rfl,_⟩ | ⟨g,cap,cur,rfl,hg0,hg,hnc,hcm,hcs,htake⟩
 ·simp [blk] at e1
 simp only [blk,Option.some.injEq] at e1;subst e1;have hkz:(k+1)*z≤es.length*z:=Nat.mul_le_mul_right _ hk;have hcap:es.length*z≤cap*z:=Nat.mul_le_mul_right _ hnc;have hkz1:(k+1)*z=k*z+z:=by rw [Nat.add_mul];omega
 have hxl:=m1.1;have hst:=run_storeCells_at P g (k*z) e cs 0 cur w hg (by omega) c5;rw [Nat.add_zero,hcl] at hst;have hrow:=setRow_heap w g cur ((cur.toList.take (k*z)++cs++cur.toList.drop (k*z+z)).toArray) e (0,0) hg;have hes:es=es.take k++(es[k]::es.drop (k+1)):=by rw [←List.drop_eq_getElem_cons hk,List.take_append_drop]
 have hset:es.set k u=es.take k++(u::es.drop (k+1)):=by rw [List.set_eq_take_append_cons_drop,if_pos hk]
 have hz1:∀v∈es.take k,v.sz=z:=fun v hv=>hz v (List.mem_of_mem_take hv);have s1:U.szs (es.take k)=k*z:=by rw [gOp _ hz1,List.length_take,Nat.min_eq_left (by omega)]
 have hm2:=m2;rw [hes] at hm2;obtain⟨p1,p2,p3⟩:=Trs.split (es.take k) xs _ hm2;rw [s1] at p1 p2 p3;rw [←hes] at p3;simp only [Trs] at p2;have hszk:es[k].sz=z:=hz _ (List.getElem_mem hk);rw [hszk,List.drop_drop] at p2;have p3':U.fps w es xs=U.fps w (es.take k) (xs.take (k*z))++(es[k].fp w ((xs.drop (k*z)).take z)++U.fps w (es.drop (k+1)) (xs.drop (k*z+z))):=by
  rw [p3];simp only [U.fps];rw [hszk,List.drop_drop]
 rw [p3'] at hnd;obtain⟨q1,q2⟩:=List.nodup_cons.1 hnd;simp only [List.mem_append,not_or] at q1;obtain⟨d1,d2,d3⟩:=List.nodup_append.1 q2;obtain⟨d4,d5,d6⟩:=List.nodup_append.1 d2;have hap:∀b'∈u.fp w cs,¬ (LO.own e z ver es).ft w (.slice (some ⟨g,0,none⟩) es.length cap) b':=by
  intro b' hb' hft;obtain⟨j,hj,ho⟩:=c4 b' hb'
  have:=ho.inj hH ⟨_,_,hL,rfl,k1,hft⟩
  subst this;rw [gF4 hj] at hjs;cases hjs.2
 have hap':∀b'∈u.fp w cs,b'≠g∧b'∉U.fps w (es.take k) (xs.take (k*z))∧b'∉U.fps w (es.drop (k+1)) (xs.drop (k*z+z)):=by
  intro b' hb'
  have:=hap b' hb'
  simp only [LO.ft] at this;rw [hfp,p3'] at this;simp only [List.mem_cons,List.mem_append,not_or] at this;exact⟨this.1,this.2.1,this.2.2.2⟩
 have hoth:∀b',b'≠g→(w.setRow g (cur.toList.take (k*z)++cs++cur.toList.drop (k*z+z)).toArray).heap[b']? =w.heap[b']? :=fun b' hb'=>setRow_other w g b' _ hb';obtain⟨t1,t2⟩:=Trs.loc _ _ p1 (fun b' hb'=>hoth b' (fun e=>q1.1 (e▸hb')));obtain⟨t3,t4⟩:=Trs.loc _ _ p2.2 (fun b' hb'=>hoth b' (fun e=>q1.2.2 (e▸hb')));obtain⟨t5,t6⟩:=Tr.loc _ _ c2 (fun b' hb'=>hoth b' (hap' b' hb').1);have tcons:Trs (w.setRow g (cur.toList.take (k*z)++cs++cur.toList.drop (k*z+z)).toArray) (u::es.drop (k+1)) (cs++xs.drop (k*z+z))∧U.fps (w.setRow g (cur.toList.take (k*z)++cs++cur.toList.drop (k*z+z)).toArray) (u::es.drop (k+1)) (cs++xs.drop (k*z+z))=u.fp w cs++U.fps w (es.drop (k+1)) (xs.drop (k*z+z)):=by
  simp only [Trs,U.fps];rw [List.take_left' (by rw [hcl,hu]),List.drop_left' (by rw [hcl,hu]),t6,t4];exact⟨⟨t5,t3⟩,rfl⟩
 obtain⟨r1,r2⟩:=Trs.append _ _ _ _ t1 tcons.1;rw [←hset,←List.append_assoc] at r1 r2;rw [t2,tcons.2] at r2;have hown':(w.setRow g (cur.toList.take (k*z)++cs++cur.toList.drop (k*z+z)).toArray).ownsRow 0 e z (.slice (some ⟨g,0,none⟩) es.length cap) (es.set k u).length (xs.take (k*z)++cs++xs.drop (k*z+z)):=by
  refine⟨by simp only [List.length_append,List.length_take,List.length_drop,List.length_set,hxl,hcl];omega,.inr ⟨g,cap,_,by simp,hg0,hrow,by simpa using hnc,hcm,by simp only [List.size_toArray,List.length_append,List.length_take,List.length_drop,Array.length_toList,hcl];omega,?_⟩⟩;rw [List.length_set,←htake]
  have:=gJz cur.toList (k*z) (es.length*z) cs (by rw [hcl];omega) (by simp only [Array.length_toList];omega)
  rw [hcl] at this;exact this
 have hz':∀v∈es.set k u,v.sz=z:=fun v hv=>by
  rcases List.mem_or_eq_of_mem_set hv with hv | rfl
  ·exact hz v hv
  ·exact hu
 have hfp':=gVf hz' hown' g rfl;have hi:=(List.getElem?_eq_some_iff.1 hL).1
 obtain⟨hH',C⟩:=hH.eat (w':=w.setRow g (cur.toList.take (k*z)++cs++cur.toList.drop (k*z+z)).toArray) js i (.own e z ver (es.set k u)) (.slice (some ⟨g,0,none⟩) es.length cap) (L':=(kill js 0 L).set i (.own e z ver (es.set k u))) (env':=env)
  (by simp [gA9,hH.len]) (fun j hj=>by rw [List.getElem?_set_ne (fun e=>hj e.symm),gNq,Nat.zero_add]) (by rw [List.getElem?_set_self (by rw [gA9];exact hi)]) (fun _ _=>rfl) k1
  (fun k' hk' hno=>hoth k' (fun e=>hno _ _ hL k1 ⟨rfl,by simp only [LO.ft];rw [hfp,e];simp⟩))
  (fun o hv h1 h2=>by rw [hL] at h1;cases h1;rw [k1] at h2;cases h2;exact⟨Nat.le_refl _,fun _=>rfl,fun _ _=>rfl⟩)
  (by rw [setRow_size];exact Nat.le_refl _) rfl rfl rfl
  (fun b' hb'=>by
   simp only [LO.ft] at hb';rw [hfp',r2] at hb';simp only [List.mem_cons,List.mem_append] at hb';have old:∀j,gT4 L env w j b'→(j=i∨js.contains j=true)→b' < (w.setRow g (cur.toList.take (k*z)++cs++cur.toList.drop (k*z+z)).toArray).heap.size∧(w.heap.size≤b'∨∃j o hv,(j=i∨js.contains j=true)∧L[j]? =some o∧o.live=true∧env[j]? =some hv∧o.ft w hv b'):=by
    rintro j ⟨o,hv,n1,n2,n3,n4⟩ hj;exact⟨by rw [setRow_size];exact(hH.excl j o hv b' n1 n2 n3 n4).2.2,.inr ⟨j,o,hv,hj,n1,n2,n3,n4⟩⟩
   have self:b'∈(U.sl z es).fp w [.slice (some ⟨g,0,none⟩) es.length cap]→gT4 L env w i b':=fun hm=>⟨_,_,hL,rfl,k1,hm⟩
   rw [hfp,p3'] at self;rcases hb' with rfl | hb' | hb' | hb'
   ·exact old i (self (by simp)) (.inl rfl)
   ·exact old i (self (by simp [hb'])) (.inl rfl)
   ·obtain⟨j,hj,ho⟩:=c4 b' hb';exact old j ho (.inr (gF4 hj))
   ·exact old i (self (by simp [hb'])) (.inl rfl))
  (fun C=>⟨by simpa using hbg,hz',⟨_,hown',r1⟩,by
   rw [hfp',r2];refine List.nodup_cons.2 ⟨?_,List.nodup_append.2 ⟨d1,List.nodup_append.2 ⟨c3,d5,?_⟩,?_⟩⟩
   ·simp only [List.mem_append,not_or];exact⟨q1.1,fun hm=>(hap' g hm).1 rfl,q1.2.2⟩
   ·intro a' ha' b' hb' hab;exact(hap' a' ha').2.2 (hab▸hb')
   ·intro a' ha' b' hb' hab;subst hab;rcases List.mem_append.1 hb' with hb' | hb'
    ·exact(hap' a' hb').2.1 ha'
    ·exact d3 a' ha' a' (by simp [hb']) rfl⟩)
 refine⟨.skip,_,?_,.inr ⟨rfl,gBw hf hN hd hH' C⟩⟩;have hsz:(a.eval y).cells.size=z:=by rw [←hcl,←hcells];simp
 simp [execOp,Instr.storeAt,e2,Instr.sureAddr,storeVar,run_sizeOf hT,hsz,hcells,hst]
end
end Go.Eng
