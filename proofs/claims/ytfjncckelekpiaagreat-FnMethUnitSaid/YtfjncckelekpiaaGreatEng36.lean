import Derived.Test.YtfjncckelekpiaaGreatEng32
import Derived.KernelRfl
set_option linter.unusedVariables false
set_option linter.unusedSimpArgs false
namespace Go.Eng
open Go Go.RowKit
section
variable {A:Amb}{S S':Nat→Prop}{L Lc Lo:List LO}{env envo:List Value}{w w':World}{js:List Nat}
def given(js:List Nat)(L:List LO)(env:List Value)(w:World)(n b:Nat):Prop:=∃m,m < n∧gZs L env w (rn js L.length m) b
theorem pU.hand(hH:pU A S L env w)(hp:gZv (rn js L.length) L Lc):pU ⟨w,S,given js L env w Lc.length,Lc,gWo (rn js L.length) Lc.length env⟩ S Lc (gWo (rn js L.length) Lc.length env) w:=
 hH.pick hp (Nat.le_refl _) (fun m b hm h=>.inl ⟨m,hm,h⟩) (fun b hb=>.inl hb) (fun _ _ _=>rfl) rfl rfl rfl (Base.refl rfl rfl) (hH.gok fun b ⟨m,_,o,hv,k1,k2,k3,k4⟩=>(hH.excl _ o hv b k1 k2 k3 k4).2.1)
theorem pU.back (hH:pU A S L env w)(hp:gZv (rn js L.length) L Lc)(hn:js.length=Lc.length)(hlt:∀j∈js,j < L.length)(hnd:js.Nodup)
  (hC:pU ⟨w,S,given js L env w Lc.length,Lc,gWo (rn js L.length) Lc.length env⟩ S' Lo envo w') :
  pU A (fun b=>S b∨S' b) (gNn js (Lo.map (LO.ren (rn js L.length))) L) (gNn js envo env) w'∧
  Carry S L env w (fun b=>S b∨S' b) (gNn js (Lo.map (LO.ren (rn js L.length))) L) (gNn js envo env) w'∧
  ∀(sv:SV)(v:Value),SVr S' Lo envo w' sv v→SVr (fun b=>S b∨S' b) (gNn js (Lo.map (LO.ren (rn js L.length))) L) (gNn js envo env) w' (sv.ren (rn js L.length)) v:=by
 have hlen:=hH.len;have hleno:=hC.len;have hge:js.length≤Lo.length:=by rw [hn];exact hC.base.1
 generalize hρ:rn js L.length=ρ at hp hC ⊢;have hltE:∀j∈js,j < env.length:=fun j hj=>by rw [hlen];exact hlt j hj
 have gL:∀m,(gNn js (Lo.map (LO.ren ρ)) L)[ρ m]? =(Lo[m]?).map (LO.ren ρ):=fun m=>by
  have:=gZw js (Lo.map (LO.ren ρ)) L m (by simpa using hge) hlt hnd
  rw [hρ] at this;rw [this,List.getElem?_map]
 have gE:∀m,(gNn js envo env)[ρ m]? =envo[m]? :=fun m=>by
  have:=gZw js envo env m (by omega) hltE hnd
  rw [hlen,hρ] at this;exact this
 have H:∀i,i < envo.length→(gNn js envo env)[ρ i]? =envo[i]? ∧((gNn js (Lo.map (LO.ren ρ)) L)[ρ i]?).map LO.ver=(Lo[i]?).map LO.ver:=fun i _=>by
  refine⟨gE i,?_⟩;rw [gL i];cases Lo[i]? with
  | none=>rfl
  | some o=>simp [LO.ren_ver]
 have split:∀(J:Nat)(o:LO)(hv:Value),(gNn js (Lo.map (LO.ren ρ)) L)[J]? =some o→(gNn js envo env)[J]? =some hv→
   (J < L.length∧J∉js∧L[J]? =some o∧env[J]? =some hv)∨∃m oo,ρ m=J∧Lo[m]? =some oo∧o=oo.ren ρ∧envo[m]? =some hv:=by
  intro J o hv h1 h2;rcases hH8 js (Lo.map (LO.ren ρ)) L (by simpa using hge) J (List.getElem?_eq_some_iff.1 h1).1 with ⟨k1,k2⟩ | ⟨m,k1,k2⟩
  ·rw [gNo _ _ _ _ k1 k2] at h1;rw [gNo _ _ _ _ (by omega) k2] at h2;exact .inl ⟨k1,k2,h1,h2⟩
  ·rw [hρ] at k2;subst k2;rw [gL m] at h1;rw [gE m] at h2;cases hm:Lo[m]? with
   | none=>rw [hm] at h1;cases h1
   | some oo=>
     rw [hm] at h1;exact .inr ⟨m,oo,rfl,hm,by simpa using h1.symm,h2⟩
 have giv:∀(J:Nat)(b:Nat),given js L env w Lc.length b→gZs L env w J b→J∈js:=by
  rintro J b ⟨m,hm,h1⟩ h2
  have:=gZs.inj hH h1 h2
  subst this;simp only [rn];rw [List.getElem?_eq_getElem (by omega)];exact List.getElem_mem _
 have keep:∀b,b < w.heap.size→¬given js L env w Lc.length b→w'.heap[b]? =w.heap[b]? :=fun b h1 h2=>hC.frame b h1 h2;have C:Carry S L env w (fun b=>S b∨S' b) (gNn js (Lo.map (LO.ren ρ)) L) (gNn js envo env) w':=by
  refine⟨fun b hb _=>.inl hb,fun b hb hlt=>keep b hlt (fun⟨m,_,o,hv,k1,k2,k3,k4⟩=>(hH.excl _ o hv b k1 k2 k3 k4).1 hb),fun i b hi=>?_,fun i hv o h1 h2=>?_⟩
  ·by_cases hj:i∈js
   ·obtain⟨m,hm,rfl⟩:=List.mem_iff_getElem.1 hj;have hr:ρ m=js[m]:=by rw [←hρ];simp [rn,List.getElem?_eq_getElem hm]
    have hmc:m < Lc.length:=by omega
    obtain⟨o,ho⟩:∃o,Lc[m]? =some o:=⟨_,List.getElem?_eq_getElem hmc⟩
    have q1:=hp.get m o ho;have q2:=gWp hH hmc q1;rw [hr] at q2;obtain⟨oo,hoo⟩:∃oo,Lo[m]? =some oo:=⟨_,List.getElem?_eq_getElem (by omega)⟩
    obtain⟨vv,hvv⟩:∃vv,envo[m]? =some vv:=⟨_,List.getElem?_eq_getElem (by omega)⟩
    have q3:=(hC.base.2 m _ o vv oo (by rw [q2];exact hi) ho hvv hoo).2.2 b rfl;subst q3
    have:=gE m
    rw [hr] at this;rw [this];exact hvv
   ·rw [gNo _ _ _ _ (List.getElem?_eq_some_iff.1 hi).1 hj];exact hi
  ·by_cases hj:i∈js
   ·obtain⟨m,hm,rfl⟩:=List.mem_iff_getElem.1 hj;have hr:ρ m=js[m]:=by rw [←hρ];simp [rn,List.getElem?_eq_getElem hm]
    have hmc:m < Lc.length:=by omega
    obtain⟨oc,hoc⟩:∃o,Lc[m]? =some o:=⟨_,List.getElem?_eq_getElem hmc⟩
    have q1:=hp.get m oc hoc;have q2:=gWp hH hmc q1;rw [hr] at q1 q2;rw [h2] at q1;have q1':=Option.some.inj q1;obtain⟨oo,hoo⟩:∃oo,Lo[m]? =some oo:=⟨_,List.getElem?_eq_getElem (by omega)⟩
    obtain⟨vv,hvv⟩:∃vv,envo[m]? =some vv:=⟨_,List.getElem?_eq_getElem (by omega)⟩
    obtain⟨b1,b2,_⟩:=hC.base.2 m hv oc vv oo (by rw [q2];exact h1) hoc hvv hoo;have hver:o.ver=oc.ver:=by rw [q1',LO.ren_ver]
    refine⟨vv,oo.ren ρ,?_,?_,by rw [LO.ren_ver];omega,fun he=>b2 (by rw [LO.ren_ver] at he;omega)⟩
    ·have:=gE m
     rw [hr] at this;rw [this];exact hvv
    ·have:=gL m
     rw [hr] at this;rw [this,hoo];rfl
   ·have hi:=(List.getElem?_eq_some_iff.1 h2).1;exact⟨hv,o,by rw [gNo _ _ _ _ (by omega) hj];exact h1,by rw [gNo _ _ _ _ hi hj];exact h2,Nat.le_refl _,fun _=>rfl⟩
 have hkeep:∀(J:Nat)(o:LO)(hv:Value),J∉js→L[J]? =some o→o.live=true→env[J]? =some hv→∀b,o.ft w hv b→w'.heap[b]? =w.heap[b]? :=fun J o hv hj h1 hl h2 b hb=>
  keep b (hH.excl J o hv b h1 hl h2 hb).2.2 (fun hg=>hj (giv J b hg ⟨o,hv,h1,hl,h2,hb⟩))
 have hfe:∀(J:Nat)(o:LO)(hv:Value),J∉js→L[J]? =some o→o.live=true→env[J]? =some hv→∀b,o.ft w' hv b→o.ft w hv b:=fun J o hv hj h1 hl h2 b hb=>
  (LO.ft_eq (hH.objs J o hv h1 h2) (hkeep J o hv hj h1 hl h2) b).1 hb
 have C2:Carry S' Lo envo w' (fun b=>S b∨S' b) Lo envo w':=⟨fun b hb _=>.inr hb,fun _ _ _=>rfl,fun _ _ h=>h,fun _ _ _ h1 h2=>⟨_,_,h1,h2,Nat.le_refl _,fun _=>rfl⟩⟩
 have back:∀(sv:SV)(v:Value),SVr S' Lo envo w' sv v→SVr (fun b=>S b∨S' b) (gNn js (Lo.map (LO.ren ρ)) L) (gNn js envo env) w' (sv.ren ρ) v:=fun sv v h=>
  SVr.ren (S:=fun b=>S b∨S' b) H sv v (SVr.carry C2 _ _ h)
 have hlenN:(gNn js (Lo.map (LO.ren ρ)) L).length=L.length+(Lo.length - js.length):=by rw [gUm _ _ _ (by simpa using hge)];simp
 have howner:∀(m:Nat)(oo:LO)(hv:Value)(b:Nat),Lo[m]? =some oo→oo.live=true→envo[m]? =some hv→oo.ft w' hv b→given js L env w Lc.length b∨w.heap.size≤b:=fun m oo hv b h1 hl h2 hb=>(hC.excl m oo hv b h1 hl h2 hb).2.1;have hnS:∀b,given js L env w Lc.length b→¬S b:=fun b ⟨m,_,o,hv,k1,k2,k3,k4⟩=>(hH.excl _ o hv b k1 k2 k3 k4).1;refine⟨⟨by rw [hlenN,gUm _ _ _ (by omega)];omega,?_,?_,?_,?_,?_,?_,Nat.le_trans hH.size hC.size,hC.os.trans hH.os,hC.tape.trans hH.tape,hC.output.trans hH.output,hH.base.carry C hlen (by rw [hlenN];omega),hH.glob⟩,C,back⟩
 ·intro J o hv h1 h2;rcases split J o hv h1 h2 with ⟨k1,k2,k3,k4⟩ | ⟨m,oo,rfl,k2,rfl,k4⟩
  ·exact gLm.carry C (fun b hl hb=>hkeep J o hv k2 k3 hl k4 b hb) (hH.objs J o hv k3 k4)
  ·have hob:=hC.objs m oo hv k2 k4;cases oo with
   | box cs=>
     obtain⟨b,vals,e,r1,r2,r3,r4⟩:=hob;exact⟨b,vals,e,r1,r2,kV.ren (S:=fun b=>S b∨S' b) H _ _ (kV.carry C2 _ _ r3),r4⟩
   | arr e z ver es=>exact gLm.carry C2 (fun _ _ _=>rfl) hob
   | frz e z ver es=>exact gLm.carry C2 (fun _ _ _=>rfl) hob
   | own e z ver es=>exact gLm.carry C2 (fun _ _ _=>rfl) hob
   | dead ver=>exact hob
   | ownp h e z es=>exact gLm.carry C2 (fun _ _ _=>rfl) hob
   | mix e z ver fs es=>exact gLm.carry C2 (fun _ _ _=>rfl) hob
   | set ks=>exact gLm.carry C2 (fun _ _ _=>rfl) hob
   | bld e T l=>exact gLm.carry C2 (fun _ _ _=>rfl) hob
   | slot=>exact hob
 ·intro J o hv b h1 hl h2 hb;rcases split J o hv h1 h2 with ⟨k1,k2,k3,k4⟩ | ⟨m,oo,rfl,k2,rfl,k4⟩
  ·have hb':=hfe J o hv k2 k3 hl k4 b hb
   have:=hH.excl J o hv b k3 hl k4 hb'
   refine⟨fun hs=>hs.elim this.1 (fun hs=>?_),this.2.1,Nat.lt_of_lt_of_le this.2.2 hC.size⟩;rcases hC.sA b hs with h | h | h
   ·exact this.1 h
   ·exact k2 (giv J b h ⟨o,hv,k3,hl,k4,hb'⟩)
   ·have h':w.heap.size≤b:=h;omega
  ·rw [LO.ren_live] at hl;rw [LO.ren_ft] at hb
   have:=hC.excl m oo hv b k2 hl k4 hb
   refine⟨fun hs=>hs.elim (fun hs=>?_) this.1,?_,this.2.2⟩
   ·rcases this.2.1 with h | h
    ·exact hnS b h hs
    ·have:=hH.sS b hs
     have h':w.heap.size≤b:=h;omega
   ·rcases this.2.1 with ⟨m',_,o',hv',q1,q2,q3,q4⟩ | h
    ·exact(hH.excl _ o' hv' b q1 q2 q3 q4).2.1
    ·exact .inr (Nat.le_trans hH.size h)
 ·intro J J' o o' hv hv' b h1 h2 hl1 hl2 e1 e2 b1 b2;have mix:∀(J:Nat)(o:LO)(hv:Value)(m:Nat)(oo:LO)(hv':Value),J∉js→L[J]? =some o→o.live=true→env[J]? =some hv→o.ft w' hv b→Lo[m]? =some oo→oo.live=true→envo[m]? =some hv'→oo.ft w' hv' b→False:=by
   intro J o hv m oo hv' k2 k3 hl k4 hb m1 ml m2 mb;have hb':=hfe J o hv k2 k3 hl k4 b hb;rcases howner m oo hv' b m1 ml m2 mb with h | h
   ·exact k2 (giv J b h ⟨o,hv,k3,hl,k4,hb'⟩)
   ·have:=(hH.excl J o hv b k3 hl k4 hb').2.2
    omega
  rcases split J o hv h1 e1 with ⟨k1,k2,k3,k4⟩ | ⟨m,oo,rfl,k2,rfl,k4⟩<;>rcases split J' o' hv' h2 e2 with ⟨k1',k2',k3',k4'⟩ | ⟨m',oo',rfl,k2',rfl,k4'⟩
  ·exact hH.dist J J' o o' hv hv' b k3 k3' hl1 hl2 k4 k4' (hfe J o hv k2 k3 hl1 k4 b b1) (hfe J' o' hv' k2' k3' hl2 k4' b b2)
  ·rw [LO.ren_live] at hl2;rw [LO.ren_ft] at b2;exact(mix J o hv m' oo' hv' k2 k3 hl1 k4 b1 k2' hl2 k4' b2).elim
  ·rw [LO.ren_live] at hl1;rw [LO.ren_ft] at b1;exact(mix J' o' hv' m oo hv k2' k3' hl2 k4' b2 k2 hl1 k4 b1).elim
  ·rw [LO.ren_live] at hl1 hl2;rw [LO.ren_ft] at b1 b2;rw [hC.dist m m' oo oo' hv hv' b k2 k2' hl1 hl2 k4 k4' b1 b2]
 ·rintro b (hb | hb)
  ·exact Nat.lt_of_lt_of_le (hH.sS b hb) hC.size
  ·exact hC.sS b hb
 ·rintro b (hb | hb)
  ·exact hH.sA b hb
  ·rcases hC.sA b hb with h | ⟨m',_,o',hv',q1,q2,q3,q4⟩ | h
   ·exact hH.sA b h
   ·exact .inr (hH.excl _ o' hv' b q1 q2 q3 q4).2.1
   ·exact .inr (.inr (Nat.le_trans hH.size h))
 ·intro b h1 h2;have hlt':b < w.heap.size:=Nat.lt_of_lt_of_le h1 hH.size;rw [keep b hlt' ?_]
  ·exact hH.frame b h1 h2
  ·rintro⟨m',_,o',hv',q1,q2,q3,q4⟩;rcases(hH.excl _ o' hv' b q1 q2 q3 q4).2.1 with h | h
   ·exact h2 h
   ·omega
end
def AG(L:List LO)(ρ:Nat→Nat)(n:Nat)(sv sv':SV):Prop:=(sv'.ren ρ=sv∧sv'.lt n=true)∨∃u,sv'=.d u∧VD L sv u
def AGs(L:List LO)(ρ:Nat→Nat)(n:Nat):List SV→List SV→Prop
 | [],[]=>True
 | a::az,b::bs=>AG L ρ n a b∧AGs L ρ n az bs
 | _,_=>False
theorem AGs.r{A:Amb}{S:Nat→Prop}{L Lc:List LO}{env:List Value}{w:World}{ρ:Nat→Nat}(hH:pU A S L env w)(hp:gZv ρ L Lc):∀{svs svs':List SV}{vs:List Value},AGs L ρ Lc.length svs svs'→kV S L env w svs vs→kV S Lc (gWo ρ Lc.length env) w svs' vs
 | [],[],[],_,_=>by simp [kV]
 | sv::svs,sv'::svs',v::vs,h,hv=>by
   simp only [kV] at hv ⊢;refine⟨?_,AGs.r hH hp h.2 hv.2⟩;rcases h.1 with ⟨h1,h2⟩ | ⟨u,rfl,h2⟩
   ·rw [←h1] at hv;exact SVr.unren (hp.H hH) _ _ h2 hv.1
   ·have:=VD.r hH h2 hv.1
    simpa only [SVr] using this
 | [],_::_,_,h,_=>h.elim
 | _::_,[],_,h,_=>h.elim
 | [],[],_::_,_,h=>by simp [kV] at h
 | _::_,_::_,[],_,h=>by simp [kV] at h
section
variable {P:Program}{A:Amb}{K:St→Prop}{ops:Array Oper}{rest:List Oper}
variable {t:Nat}{ty:TypeId}{pos:String}{af:Array Edge}{dst:Option Nat}{g:Option (Nat × Bool)}
theorem hMn{a:Act}{w:World}{f:Operand}{fi:Nat}{cvs:List Value}{args:Array Operand}{at_:Array TypeId}(h1:a.eval f=.func (.func fi) #[] cvs.toArray)(hc:hMv P fi) :
  (execOp a.eval ⟨dst,.call { callee:=.value f,args:=args,argTypes:=at_ },ty,pos,af,g⟩).run P w=.ok (.enter fi (args.toList.map a.eval++cvs).toArray) w:=by
 obtain⟨fn,c1,c2,c3⟩:=hc;have harr:args.map a.eval++cvs.toArray=(args.toList.map a.eval++cvs).toArray:=by apply Array.ext';simp
 simp only [execOp,resolve,h1,Deferred.ofValue,Sem.run_bind,Sem.run_pure,Result.andThen_ok,invoke,callFunc,run_program,c1,c2,c3,Bool.false_eq_true,if_false,Array.empty_append,harr]
theorem hQc {f:Operand}{fi:Nat}{caps:List SV}{args:Array Operand}{at_:Array TypeId}{cargs:List SV}{Lc:List LO}{Q:SV→List LO→Prop}{fr:List (Nat × SV)}{L:List LO}{N:Nat}(js:List Nat)(hf:(St.mk fr L N).ev f=.fn fi caps)
  (hspec:Spec P fi cargs Lc Q) (hp:gZv (rn js L.length) L Lc) (hjs:(decide js.Nodup && (js.all fun j=>Nat.blt j L.length) && js.length==Lc.length)=true) (hargs:AGs L (rn js L.length) Lc.length (args.toList.map (St.mk fr L N).ev++caps) cargs) (ht:Nat.blt t N=true)
  (h:∀(sv:SV)(Lo:List LO),Q sv Lo→VO P A ops rest ⟨(t,sv.ren (rn js L.length))::fr,gNn js (Lo.map (LO.ren (rn js L.length))) L,N⟩ K) :
  VO P A ops (⟨some t,.call { callee:=.value f,args:=args,argTypes:=at_ },ty,pos,af,none⟩::rest) ⟨fr,L,N⟩ K:=by
 simp only [Bool.and_eq_true,decide_eq_true_eq,List.all_eq_true,Nat.blt_eq,beq_iff_eq] at hjs;obtain⟨⟨hnd,hlt⟩,hn⟩:=hjs;intro R hR a w ⟨S,env,hH,hfr,hN,hd⟩;refine wpList_plain rfl fun K' hK'=>?_;have h1:=mP.ev hfr hH f;rw [hf] at h1;simp only [SVr] at h1;obtain⟨cvs,h1,h2⟩:=h1;have h3:kV S L env w (args.toList.map (St.mk fr L N).ev) (args.toList.map a.eval):=kV.evals (σ:=⟨fr,L,N⟩) _ fun x _=>mP.ev hfr hH x;have h4:kV S L env w (args.toList.map (St.mk fr L N).ev++caps) (args.toList.map a.eval++cvs):=by
  rw [kV.iff] at h2 h3 ⊢;exact zX.append h3 h2
 have h5:=AGs.r hH hp hargs h4;obtain⟨hc,hs⟩:=hspec;unfold Oper.wp;rw [hMn h1 hc];simp only [Oper.upon];refine(hs _ S _ w _ rfl rfl rfl rfl (hH.hand hp) h5).mono ?_;rintro e w' ⟨r,sv',S',Lo,envo,rfl,hq,hH',hr⟩;obtain⟨b1,b2,b3⟩:=hH.back hp hn hlt hnd hH';exact hK' _ _ (h _ _ hq R hR _ _ (vZ (σ:=⟨fr,L,N⟩) hfr hN hd ht b1 b2 (b3 _ _ hr)))
end
inductive hEf (P:Program)(σ:St):List ResultVar→List SV→Prop
 | nil:hEf P σ [] []
 | data {r:ResultVar} {rs:List ResultVar} {sv0:SV} {u:U} {svs:List SV} (h:hHu P σ r sv0) (hu:VD σ.L sv0 u) (h2:hEf P σ rs svs):hEf P σ (r::rs) (.d u::svs)
 | same {r:ResultVar} {rs:List ResultVar} {sv:SV} {svs:List SV} (h:hHu P σ r sv) (h2:hEf P σ rs svs):hEf P σ (r::rs) (sv::svs)
 | junk {r:ResultVar} {rs:List ResultVar} {sv0:SV} {svs:List SV} (h:hHu P σ r sv0) (h2:hEf P σ rs svs):hEf P σ (r::rs) (.junk::svs)
def mkG:List SV→SV
 | [sv]=>sv
 | svs=>.tup svs
def uI(P:Program)(fn:Func)(Q:SV→List LO→Prop)(n:Nat)(e:Exit)(σ:St):Prop:=
 (match e with | .normal=>True | .ret=>True | _=>False)∧∃svs Lo L2,σ.L=Lo++L2∧(LO.lts Lo.length Lo && SV.lts Lo.length svs && Nat.ble n Lo.length)=true∧Q (mkG svs) Lo∧hEf P σ fn.results.toList svs
theorem jA3{S:Nat→Prop}{L:List LO}{env:List Value}{w:World}{svs:List SV}{vs:List Value}(h:kV S L env w svs vs):SVr S L env w (mkG svs) (if h:vs.toArray.size=1 then vs.toArray[0] else .tuple vs.toArray):=by
 match svs,vs,h with
 | [],[],_=>simp only [mkG,SVr];exact⟨[],by simp,by simp [kV]⟩
 | [u],[v],h=>simpa [mkG,kV] using h
 | u::u'::us,v::v'::vs,h=>simp only [mkG,SVr];exact⟨v::v'::vs,by simp,h⟩
 | [_],[],h=>simp [kV] at h
 | [_],_::_::_,h=>simp [kV] at h
 | _::_::_,[_],h=>simp [kV] at h
 | [],_::_,h=>simp [kV] at h
 | _::_::_,[],h=>simp [kV] at h
theorem hEf.run{P:Program}{A:Amb}{σ:St}{S:Nat→Prop}{env:List Value}{a:Act}{w:World}(hH:pU A S σ.L env w)(hf:∀t,SVr S σ.L env w (look σ.fr t) (a.tmps.getD t undef)){rs:List ResultVar}{svs:List SV}(h:hEf P σ rs svs) :
  ∃vs:List Value,(rs.mapM (hTz a.tmps)).run P w=.ok vs w∧kV S σ.L env w svs vs:=by
 induction h with
 | nil=>exact⟨[],by simp,by simp [kV]⟩
 | data h hu _ ih=>
   obtain⟨v,k1,k2⟩:=hHu.run hH hf h;obtain⟨vs,k3,k4⟩:=ih;refine⟨v::vs,?_,?_⟩
   ·simp only [List.mapM_cons,Sem.run_bind];rw [k1];simp only [Result.andThen_ok];rw [k3];rfl
   ·simp only [kV];exact⟨VD.r hH hu k2,k4⟩
 | same h _ ih=>
   obtain⟨v,k1,k2⟩:=hHu.run hH hf h;obtain⟨vs,k3,k4⟩:=ih;refine⟨v::vs,?_,?_⟩
   ·simp only [List.mapM_cons,Sem.run_bind];rw [k1];simp only [Result.andThen_ok];rw [k3];rfl
   ·simp only [kV];exact⟨k2,k4⟩
 | junk h _ ih=>
   obtain⟨v,k1,k2⟩:=hHu.run hH hf h;obtain⟨vs,k3,k4⟩:=ih;refine⟨v::vs,?_,?_⟩
   ·simp only [List.mapM_cons,Sem.run_bind];rw [k1];simp only [Result.andThen_ok];rw [k3];rfl
   ·simp only [kV];exact⟨trivial,k4⟩
theorem pK {P:Program}{f:Nat}{fn:Func}{c:Code}{args:List SV}{L:List LO}{Q:SV→List LO→Prop}(n:Nat)(hf:P.funcs[f]? =some fn)(hb:fn.body=some c)(hname:(fn.name== "runtime.NumGoroutine")=false)
  (hn:Nat.ble args.length fn.ntmps=true) (hL:L.length=n) (h:∀A [gBp A n],V P A c ⟨gO2 0 args,L,fn.ntmps⟩ (uI P fn Q n)):Spec P f args L Q:=by
 refine⟨⟨fn,hf,hname,by rw [hb];rfl⟩,?_⟩;intro A S env w vs hw hS hA0 he hH hargs;have hb0:gBp A n:=⟨by rw [hA0];exact hL⟩
 have hlen:=kV.length hargs;have hn':=Nat.le_of_ble_eq_true hn;refine calls_of_wp hf hb ?_;refine wp_mono (h A _ w ⟨S,env,hH,fun t=>?_,?_,rfl⟩) ?_
 ·have:=gL0 args vs 0 [] (List.replicate (fn.ntmps - vs.length) undef) rfl hargs t
  have e:vs.toArray++Array.replicate (fn.ntmps - vs.toArray.size) undef=([]++vs++List.replicate (fn.ntmps - vs.length) undef).toArray:=by apply Array.ext';simp
  rw [e];exact this
 ·simp;omega
 ·rintro e a' w' ⟨σ',⟨hex,svs,Lo,L2,hLe,hlts,hq,hres⟩,S',env',hH',hf',hN',hd'⟩;simp only [Bool.and_eq_true] at hlts;obtain⟨rvs,k1,k2⟩:=hres.run hH' hf';have hrun:(results fn a'.tmps).run P w'=.ok (if h:rvs.toArray.size=1 then rvs.toArray[0] else .tuple rvs.toArray) w':=by
   rw [gS5];simp only [Sem.run_bind];rw [←Array.toArray_toList (xs:=fn.results)];simp only [List.mapM_toArray,Sem.run_map];rw [k1];rfl
  rw [hLe] at hH' k2;have hcut:=kV.cut hH'.len svs rvs hlts.1.2 k2
  have fin:∃r sv S'' L' env'',(Ending.returned (if h:rvs.toArray.size=1 then rvs.toArray[0] else .tuple rvs.toArray))=.returned r∧Q sv L'∧pU A S'' L' env'' w'∧SVr S'' L' env'' w' sv r:=
   ⟨_,mkG svs,S',Lo,env'.take Lo.length,rfl,hq,hH'.cut hlts.1.1 (by rw [hb0.h];exact Nat.le_of_ble_eq_true hlts.2),jA3 hcut⟩
  cases e with
  | normal=>exact⟨hd',_,hrun,fin⟩
  | ret=>exact⟨hd',_,hrun,fin⟩
  | exit id=>exact hex.elim
  | goto l=>exact hex.elim
  | panic c=>exact hex.elim
  | outgrown=>exact hex.elim
def hQd(ρ:Nat→Nat)(fr:List (Nat × SV))(n:Nat):List (Nat × SV)→Prop
 | []=>True
 | p::r=>(look fr p.1=p.2.ren ρ∧p.2.lt n=true)∧hQd ρ fr n r
theorem hQd.look{ρ:Nat→Nat}{fr:List (Nat × SV)}{n:Nat}:∀{fr':List (Nat × SV)},hQd ρ fr n fr'→∀t,look fr' t=.junk∨(look fr t=(look fr' t).ren ρ∧(look fr' t).lt n=true)
 | [],_,t=>.inl rfl
 | p::r,h,t=>by
   simp only [Go.Eng.look];by_cases ht:t=p.1
   ·simp only [ht,if_true];exact .inr h.1
   ·simp only [if_neg ht];exact hQd.look h.2 t
theorem mP.pick{A:Amb}{a:Act}{w:World}{fr fr':List (Nat × SV)}{L Lc:List LO}{N n:Nat}[hb:gBp A n](js:List Nat)(hp:gZv (rn js L.length) L Lc)(hn:(js.length==Lc.length && Nat.ble n Lc.length && (List.range n).all fun i=>js[i]? ==some i)=true)(hfr:hQd (rn js L.length) fr Lc.length fr')(h:mP A ⟨fr,L,N⟩ a w):mP A ⟨fr',Lc,N⟩ a w:=by
 obtain⟨S,env,hH,hf,hN,hd⟩:=h;simp only [Bool.and_eq_true,beq_iff_eq,List.all_eq_true,List.mem_range] at hn;obtain⟨⟨hl,hle⟩,hid⟩:=hn;have hle':=Nat.le_of_ble_eq_true hle;have H:=hp.H hH;refine⟨S,_,hH.pick hp hH.size (fun m b hm ⟨o,hv,k1,k2,k3,k4⟩=>(hH.excl _ o hv b k1 k2 k3 k4).2.1) hH.sA hH.frame hH.os hH.tape hH.output ⟨by rw [hb.h];exact hle',fun i hv o hv' o' k1 k2 k3 k4=>?_⟩ hH.glob,fun t=>?_,hN,hd⟩
 ·have hi:i < n:=by rw [←hb.h];exact(List.getElem?_eq_some_iff.1 k2).1
  have hr:rn js L.length i=i:=by simp [rn,hid i hi]
  have q1:=hp.get i o' k4;have q2:=(H i (by omega)).1;rw [hr] at q1 q2
  have:=hH.base.2 i hv o hv' _ k1 k2 (by rw [q2];exact k3) q1
  rw [LO.ren_ver] at this;exact this
 ·rcases hQd.look hfr t with hj | ⟨h1,h2⟩
  ·rw [hj];simp only [SVr]
  ·have:=hf t
   simp only at this;rw [h1] at this;exact SVr.unren H _ _ h2 this
theorem hWm{P:Program}{A:Amb}{c:Code}{Q:Exit→St→Prop}{fr fr':List (Nat × SV)}{L Lc:List LO}{N n:Nat} [gBp A n](js:List Nat)(h:V P A c ⟨fr',Lc,N⟩ Q)(hp:gZv (rn js L.length) L Lc)(hn:(js.length==Lc.length && Nat.ble n Lc.length && (List.range n).all fun i=>js[i]? ==some i)=true)(hfr:hQd (rn js L.length) fr Lc.length fr'):V P A c ⟨fr,L,N⟩ Q:=fun a w hr=>h a w (hr.pick js hp hn hfr)
class Mix (P:Program):Prop where
 h:P.follows .mixedOrders=true
theorem hGa{P:Program}{A:Amb}{σ:St}{Q:Exit→St→Prop}{x y z:Code}(h:V P A (.seq x y) σ (thenS (fun s=>V P A z s Q) Q)):V P A (.seq (.seq x y) z) σ Q:=kC h
def cnd{α:Type}(c:Bool)(x y:α):α:=match c with
 | true=>x
 | false=>y
def bnd{α β:Type}(o:Option α)(k:α→Option β):Option β:=match o with
 | some x=>k x
 | none=>none
def lt_{α β:Type}(x:α)(k:α→β):β:=k x
def gd{α:Type}(c:Prop) [Decidable c](k:Option α):Option α:=if c then k else none
theorem jU{α:Type}{c:Bool}{x y r:α}(hc:c=true)(h:cnd c x y=r):x=r:=by subst hc;exact h
theorem jV{α:Type}{c:Bool}{x y r:α}(hc:c=false)(h:cnd c x y=r):y=r:=by subst hc;exact h
theorem gK{α β:Type}{o:Option α}{k:α→Option β}{r:β}(h:bnd o k=some r):∃x,o=some x∧k x=some r:=by
 cases o with
 | none=>cases h
 | some x=>exact⟨x,rfl,h⟩
theorem kX{α β:Type}{o:Option α}{k:α→Option β}{x:α}(h:o=some x):bnd o k=k x:=by subst h;rfl
theorem mI{α:Type}{c:Prop} [Decidable c]{k:Option α}{r:α}(h:gd c k=some r):c∧k=some r:=by
 unfold gd at h;split at h
 ·exact⟨by assumption,h⟩
 ·cases h
theorem wI{α:Type}{c:Prop} [Decidable c]{k:Option α}(hc:c):gd c k=k:=by unfold gd;rw [if_pos hc]
theorem kJ{α:Type}{x y:α}:cnd true x y=x:=rfl
theorem gZ{α:Type}{x y:α}:cnd false x y=y:=rfl
def at? {α:Type}(l:List α)(i:Int):Option α:=if 0≤i then l[i.toNat]? else none
theorem yY{α:Type}{l:List α}{i:Int}{x:α}(h:at? l i=some x):0≤i∧l[i.toNat]? =some x:=by
 unfold at? at h;split at h
 ·exact⟨by assumption,h⟩
 ·cases h
theorem gBb{α:Type}(l:List α)(k:Nat):at? l (k:Int)=l[k]? :=by unfold at?;rw [if_pos (Int.natCast_nonneg k)];rfl
theorem drop_at{α:Type}{l:List α}{k:Nat}(h:k < l.length):∃x,l[k]? =some x∧l.drop k=x::l.drop (k+1):=
 ⟨l[k],List.getElem?_eq_getElem h,List.drop_eq_getElem_cons h⟩
theorem gT{α:Type}{l:List α}{k:Nat}(h:l.length≤k):l.drop k=[]:=List.drop_eq_nil_of_le h
section
variable {P:Program}{A:Amb}{ops:Array Oper}{K:St→Prop}{Q:Exit→St→Prop}{rest:List Oper}{σ:St}{fr:List (Nat × SV)}{L L':List LO}{N i t:Nat}{sv:SV}{o:Oper}
variable {ty T:TypeId}{pos:String}{af:Array Edge}{x y:Operand}{g:Option (Nat × Bool)}{dst:Option Nat}{op:Op}
def QR(P:Program)(σ:St)(o:Oper)(sv:SV):Prop:=∀A fr' L',(∀x∈o.op.operands.toList,St.ev ⟨fr',L',σ.N⟩ x=σ.ev x)→gP8 σ.L L'→Quiet P A ⟨fr',L',σ.N⟩ o sv
theorem QR.q(h:QR P σ o sv):Quiet P A σ o sv:=h A σ.fr σ.L (fun _ _=>rfl) (gP8.refl _)
theorem pX(hq:QR P ⟨fr,L,N⟩ ⟨some t,op,ty,pos,af,none⟩ sv)(h:VO P A ops rest ⟨(t,sv)::fr,L,N⟩ K)(ht:Nat.blt t N=true:=by rfl):VO P A ops (⟨some t,op,ty,pos,af,none⟩::rest) ⟨fr,L,N⟩ K:=hX5 hq.q ht h
theorem wC(hq:QR P ⟨fr,L,N⟩ ⟨some t,op,ty,pos,af,none⟩ sv)(h:VQ P A ops rest ⟨(t,sv)::fr,L,N⟩ K)(ht:Nat.blt t N=true:=by rfl):VQ P A ops (⟨some t,op,ty,pos,af,none⟩::rest) ⟨fr,L,N⟩ K:=jAz hq.q ht h
theorem jIl{r:List (Nat × Bool)}{pf:PF}(hq:QR P ⟨fr,L,N⟩ ⟨some t,op,ty,pos,af,none⟩ sv)(hv:VY P A ops K r ((i,L)::pf) ⟨(t,sv)::fr,L,N⟩)(hi:ops[i]? =some ⟨some t,op,ty,pos,af,none⟩:=by rfl)(ht:Nat.blt t N=true:=by rfl):VY P A ops K ((i,true)::r) pf ⟨fr,L,N⟩:=
 jA2 hi rfl rfl (fun fr' L' he hk=>hq A fr' L' he hk) ht hv
theorem uX(hq:Quiet P A ⟨fr,L,N⟩ ⟨some t,op,ty,pos,af,none⟩ sv)(h:VO P A ops rest ⟨(t,sv)::fr,L,N⟩ K)(ht:Nat.blt t N=true:=by rfl):VO P A ops (⟨some t,op,ty,pos,af,none⟩::rest) ⟨fr,L,N⟩ K:=hX5 hq ht h
theorem jA4(hq:Quiet P A ⟨fr,L,N⟩ ⟨some t,op,ty,pos,af,none⟩ sv)(h:VQ P A ops rest ⟨(t,sv)::fr,L,N⟩ K)(ht:Nat.blt t N=true:=by rfl):VQ P A ops (⟨some t,op,ty,pos,af,none⟩::rest) ⟨fr,L,N⟩ K:=jAz hq ht h
theorem gRx{j tj:Nat}{want:Bool}{o':Oper}(h:VO P A ops (⟨dst,op,ty,pos,af,none⟩::rest) ⟨fr,L,N⟩ K)(hj:ops[j]? =some o':=by rfl)(hdst:o'.dst=some tj:=by rfl)(htj:Nat.blt tj N=true:=by rfl)(hb:look fr tj=.d (.b want):=by rfl) :
  VO P A ops (⟨dst,op,ty,pos,af,some (j,want)⟩::rest) ⟨fr,L,N⟩ K:=hT3 hj hdst htj hb h
section
variable {e z bs k:Nat}{gg:Bool}{kd:IntKind}{us:List U}{u:U}
theorem gV [TE P T e] [TI P e gg z bs](k:Nat)(hu:us[k]? =some u)(hx:σ.ev x=.d (.sl z us):=by rfl)(hy:σ.ev y=.d (.i kd (k:Int)):=by rfl):QR P σ ⟨dst,.indexAddr T x y,ty,pos,af,g⟩ (.dp u):=
 fun A fr' L' he _=>hM9 (by rw [he x (by simp [Op.operands])];exact hx) (by rw [he y (by simp [Op.operands])];exact hy) TE.h TI.h (Int.natCast_nonneg k) hu
theorem kY [TE P T e] [TI P e gg z bs]{n:Int}(h0:0≤n)(hu:us[n.toNat]? =some u)(hx:σ.ev x=.d (.sl z us):=by rfl)(hy:σ.ev y=.d (.i kd n):=by rfl):QR P σ ⟨dst,.indexAddr T x y,ty,pos,af,g⟩ (.dp u):=
 fun A fr' L' he _=>hM9 (by rw [he x (by simp [Op.operands])];exact hx) (by rw [he y (by simp [Op.operands])];exact hy) TE.h TI.h h0 hu
end
theorem jA5{l:LB}{b:UInt8}{kd:IntKind}{n:Int}(hT:P.underlying T=some .string)(h0:0≤n)(hu:l[n.toNat]? =some b)(hx:σ.ev x=.d (.s l))(hy:σ.ev y=.d (.i kd n)) :
  Quiet P A σ ⟨dst,.index T x y,ty,pos,af,g⟩ (.d (.i .u8 (b.toNat:Int))):=Quiet.pure fun S env a w hH ho=>by
 have h1:=ho x (by simp [Op.operands]);have h2:=ho y (by simp [Op.operands]);rw [hx] at h1;rw [hy] at h2;obtain⟨_,h1⟩:=SVr.str.1 h1;have h2:=SVr.int.1 h2;refine⟨.int .u8 b.toNat,?_,SVr.int.2 rfl⟩;have hb:(if 0≤n then(⟨l.toArray⟩:ByteArray)[n.toNat]? else none)=some b:=by
  rw [if_pos h0];have hlt:=(List.getElem?_eq_some_iff.1 hu).1;have hs:n.toNat < (⟨l.toArray⟩:ByteArray).size:=by simpa [ByteArray.size] using hlt
  rw [getElem?_pos (⟨l.toArray⟩:ByteArray) n.toNat hs];congr 1;have h3:l[n.toNat]=b:=by rw [List.getElem?_eq_getElem hlt] at hu;exact Option.some.inj hu
  rw [←h3];rfl
 simp [execOp,h1,h2,Instr.index,asIntOf,run_underlying hT,hb]
theorem gO3 [TS P T]{l:LB}{b:UInt8}{kd:IntKind}{n:Int}(h0:0≤n)(hu:l[n.toNat]? =some b)(hx:σ.ev x=.d (.s l):=by rfl)(hy:σ.ev y=.d (.i kd n):=by rfl) :
  QR P σ ⟨dst,.index T x y,ty,pos,af,g⟩ (.d (.i .u8 (b.toNat:Int))):=
 fun A fr' L' he _=>jA5 TS.h h0 hu (by rw [he x (by simp [Op.operands])];exact hx) (by rw [he y (by simp [Op.operands])];exact hy)
theorem gLb [TS P T]{l:LB}{b:UInt8}{kd:IntKind}(k:Nat)(hu:l[k]? =some b)(hx:σ.ev x=.d (.s l):=by rfl)(hy:σ.ev y=.d (.i kd (k:Int)):=by rfl) :
  QR P σ ⟨dst,.index T x y,ty,pos,af,g⟩ (.d (.i .u8 (b.toNat:Int))):=gO3 (Int.natCast_nonneg k) hu hx hy
theorem pR{b:BinOp}{T':TypeId}{k:IntKind}{m n r:Int}(h:arI b k m n=some r:=by rfl)(hx:σ.ev x=.d (.i k m):=by rfl)(hy:σ.ev y=.d (.i k n):=by rfl):QR P σ ⟨dst,.binOp b T x y T',ty,pos,af,g⟩ (.d (.i k r)):=
 fun A fr' L' he _=>jBb (by rw [he x (by simp [Op.operands])];exact hx) (by rw [he y (by simp [Op.operands])];exact hy) h
theorem jK{T':TypeId}(k:Nat)(hk:k < 9223372036854775807)(hx:σ.ev x=.d (.i .i64 (k:Int)):=by rfl)(hy:σ.ev y=.d (.i .i64 1):=by rfl):QR P σ ⟨dst,.binOp .add T x y T',ty,pos,af,g⟩ (.d (.i .i64 ((k+1:Nat):Int))):=
 fun A fr' L' he _=>by
  have:=hWr (P:=P) (A:=A) (dst:=dst) (ty:=ty) (pos:=pos) (af:=af) (g:=g) (T:=T) (T':=T') (σ:=⟨fr',L',σ.N⟩) (m:=(k:Int)) (n:=1) (by rw [he x (by simp [Op.operands])];exact hx) (by rw [he y (by simp [Op.operands])];exact hy) (by omega) (by omega)
  simpa using this
theorem hT8{f:Nat}{cs:Array Operand}{svs:List SV}(h:NfL σ cs.toList svs:=by repeat constructor):QR P σ ⟨dst,.makeFunc (.func f) #[] cs,ty,pos,af,g⟩ (.fn f svs):=
 fun A fr' L' he _=>hWg (by
  have key:∀(l:List Operand)(svs:List SV),(∀x∈l,St.ev ⟨fr',L',σ.N⟩ x=σ.ev x)→NfL σ l svs→NfL ⟨fr',L',σ.N⟩ l svs:=by
   intro l svs hl h
   induction h with
   | nil=>exact .nil
   | cons h1 h2 ih=>exact .cons (by rw [hl _ (by simp)];exact h1) (ih fun x hx=>hl x (by simp [hx]))
  exact key _ _ (fun x hx=>he x (by simpa [Op.operands] using hx)) h)
theorem gD {f:Operand}{fi:Nat}{caps:List SV}{args:Array Operand}{at_:Array TypeId}{dargs:List SV}{us:List U}
  (hspec:gW P fi dargs us) (hf:σ.ev f=.fn fi caps:=by rfl) (hargs:∀L',VAs L' (args.toList.map σ.ev++caps) dargs:=by(intro L';(repeat(first | exact trivial | exact rfl | exact⟨_,rfl⟩ | exact(‹∀n,SV.lts n _=true› _) | refine And.intro ?_ ?_));first | done | fail)) :
  QR P σ ⟨dst,.call { callee:=.value f,args:=args,argTypes:=at_ },ty,pos,af,g⟩ (mkR us):=
 fun A fr' L' he _=>hLy (by rw [he f (by simp [Op.operands,Call.operands])];exact hf) hspec (by
  have:args.toList.map (St.ev ⟨fr',L',σ.N⟩)=args.toList.map σ.ev:=List.map_congr_left fun x hx=>he x (by simp only [Op.operands,Call.operands];simp;exact .inr (by simpa using hx))
  rw [this]
  exact hargs L')
theorem hDc {f:Operand}{fi:Nat}{caps:List SV}{args:Array Operand}{at_:Array TypeId}{dargs:List SV}{us:List U}
  (hspec:gW P fi dargs us) (hf:σ.ev f=.fn fi caps:=by rfl) (hargs:VAs σ.L (args.toList.map σ.ev++caps) dargs:=by((repeat(first | exact trivial | exact rfl | exact⟨_,rfl⟩ | exact(‹∀n,SV.lts n _=true› _) | refine And.intro ?_ ?_));first | done | fail)) :
  Quiet P A σ ⟨dst,.call { callee:=.value f,args:=args,argTypes:=at_ },ty,pos,af,g⟩ (mkR us):=hLy hf hspec hargs
theorem gUn {f:Operand}{fi:Nat}{args:Array Operand}{at_:Array TypeId}{dargs:List SV}{u:U}
  (hspec:gW P fi dargs [u]) (hu:u.scal=true:=by rfl) (hf:σ.ev f=.fn fi []:=by rfl) (hargs:WCs σ.L (args.toList.map σ.ev) dargs:=by((repeat(first | exact trivial | exact rfl | exact⟨_,rfl⟩ | refine And.intro ?_ ?_));first | done | fail)) :
  Quiet P A σ ⟨dst,.call { callee:=.value f,args:=args,argTypes:=at_ },ty,pos,af,g⟩ (.d u):=hMd hf hspec hu hargs
theorem uJ{c:Bool}(tj:Nat)(ht:c=true→VO P A ops rest ⟨(tj,.d (.b true))::fr,L,N⟩ K)(hf:c=false→VO P A ops rest ⟨(tj,.d (.b false))::fr,L,N⟩ K)(hb:look fr tj=.d (.b c):=by rfl):VO P A ops rest ⟨fr,L,N⟩ K:=by
 intro R hR a w hr;have key:∀c',c=c'→mP A ⟨(tj,.d (.b c'))::fr,L,N⟩ a w:=by
  intro c' hc;obtain⟨S,env,hH,hfr,hN,hd⟩:=hr;refine⟨S,env,hH,fun t=>?_,hN,hd⟩;simp only [look];by_cases h:t=tj
  ·subst h;rw [if_pos rfl,←hc,←hb];exact hfr t
  ·rw [if_neg h];exact hfr t
 cases hc:c with
 | true=>exact ht hc R hR a w (key true hc)
 | false=>exact hf hc R hR a w (key false hc)
theorem jA6{c:Operand}{x y:Code}(h:V P A x σ Q)(hc:σ.ev c=.d (.b true):=by rfl):V P A (.cond c x y) σ Q:=hMx hc (fun _=>h) (fun h=>by cases h)
theorem jA7{c:Operand}{x y:Code}(h:V P A y σ Q)(hc:σ.ev c=.d (.b false):=by rfl):V P A (.cond c x y) σ Q:=hMx hc (fun h=>by cases h) (fun _=>h)
theorem kN{c:Operand}{x y:Code}{t:Bool}(ht:t=true→V P A x σ Q)(hf:t=false→V P A y σ Q)(hc:σ.ev c=.d (.b t):=by rfl):V P A (.cond c x y) σ Q:=hMx hc ht hf
end
def jFp(n:Int):U:=.i .i64 n
def jFq(s:LB):U:=.s s
def yC:List Int→List U
 | []=>[]
 | a::l=>.i .i64 a::yC l
def kD:LS→List U
 | []=>[]
 | a::l=>.s a::kD l
class Enc (α:Type) (e:outParam (α→U)) (es:outParam (List α→List U)) (z:outParam Nat):Prop where
 h:∀l,es l=l.map e
 hz:∀x,(e x).sz=z
theorem Enc.get{α:Type}{e:α→U}{es:List α→List U}{z:Nat}[E:Enc α e es z]{l:List α}{k:Nat}{x:α}(h:l[k]? =some x):(es l)[k]? =some (e x):=by rw [E.h,List.getElem?_map,h];rfl
theorem Enc.len{α:Type}{e:α→U}{es:List α→List U}{z:Nat}[E:Enc α e es z](l:List α):(es l).length=l.length:=by rw [E.h,List.length_map]
theorem Enc.app{α:Type}{e:α→U}{es:List α→List U}{z:Nat}[E:Enc α e es z](l r:List α):es (l++r)=es l++es r:=by simp only [E.h,List.map_append]
theorem Enc.set{α:Type}{e:α→U}{es:List α→List U}{z:Nat}[E:Enc α e es z](l:List α)(k:Nat)(x:α):es (l.set k x)=(es l).set k (e x):=by simp only [E.h,List.map_set]
theorem Enc.rep{α:Type}{e:α→U}{es:List α→List U}{z:Nat}[E:Enc α e es z](n:Nat)(x:α):es (List.replicate n x)=List.replicate n (e x):=by simp only [E.h,List.map_replicate]
theorem Enc.all{α:Type}{e:α→U}{es:List α→List U}{z:Nat}[E:Enc α e es z](l:List α):∀u∈es l,u.sz=z:=by
 rw [E.h];intro u hu;obtain⟨x,_,rfl⟩:=List.mem_map.1 hu;exact E.hz x
instance:Enc Int jFp yC 1:=⟨fun l=>by induction l with | nil=>rfl | cons a l ih=>simp [yC,ih,jFp],fun _=>rfl⟩
instance:Enc LB jFq kD 1:=⟨fun l=>by induction l with | nil=>rfl | cons a l ih=>simp [kD,ih,jFq],fun _=>rfl⟩
theorem hVk{l:List Int}{k:Nat}{x:Int}(h:l[k]? =some x):(yC l)[k]? =some (.i .i64 x):=Enc.get h
theorem gN4{l:LS}{k:Nat}{x:LB}(h:l[k]? =some x):(kD l)[k]? =some (.s x):=Enc.get h
theorem gS7(l:LS):U.noSls (kD l)=true:=by induction l with | nil=>rfl | cons a l ih=>simp [kD,U.noSls,U.noSl,ih]
theorem gS8(l:List Int):U.noSls (yC l)=true:=by induction l with | nil=>rfl | cons a l ih=>simp [yC,U.noSls,U.noSl,ih]
structure gH where
 atom:LB
 list:List gH
mutual
def qL:gH→U
 | ⟨f0,f1⟩=>.st [.s f0,.sl 2 (kE f1)]
def kE:List gH→List U
 | []=>[]
 | a::l=>qL a::kE l
end
theorem hMo(x:gH):(qL x).sz=2:=by cases x;simp [qL,U.sz,U.szs]
instance:Enc gH qL kE 2:=⟨fun l=>by induction l with | nil=>rfl | cons a l ih=>simp [kE,ih],hMo⟩
theorem vW{l:List gH}{k:Nat}{x:gH}(h:l[k]? =some x):(kE l)[k]? =some (qL x):=Enc.get h
structure gF where
 kind:Int
 name:LB
 args:List gF
mutual
def kT:gF→U
 | ⟨f0,f1,f2⟩=>.st [.i .i64 f0,.s f1,.sl 3 (jJ f2)]
def jJ:List gF→List U
 | []=>[]
 | a::l=>kT a::jJ l
end
theorem gHb(x:gF):(kT x).sz=3:=by cases x;simp [kT,U.sz,U.szs]
instance:Enc gF kT jJ 3:=⟨fun l=>by induction l with | nil=>rfl | cons a l ih=>simp [jJ,ih],gHb⟩
theorem gAw{l:List gF}{k:Nat}{x:gF}(h:l[k]? =some x):(jJ l)[k]? =some (kT x):=Enc.get h
structure gM where
 var_:LB
 type_:gF
mutual
def gRy:gM→U
 | ⟨f0,f1⟩=>.st [.s f0,kT f1]
def jM:List gM→List U
 | []=>[]
 | a::l=>gRy a::jM l
end
theorem hEg(x:gM):(gRy x).sz=4:=by cases x;simp [gRy,U.sz,U.szs,gHb]
instance:Enc gM gRy jM 4:=⟨fun l=>by induction l with | nil=>rfl | cons a l ih=>simp [jM,ih],hEg⟩
theorem gL1{l:List gM}{k:Nat}{x:gM}(h:l[k]? =some x):(jM l)[k]? =some (gRy x):=Enc.get h
mutual
structure gJs where
 constructor:LB
 vars:LS
 body:gY
structure gY where
 kind:Int
 trait:LB
 name:LB
 n:Int
 type_:gF
 args:List gY
 arms:List gJs
end
mutual
def hT9:gJs→U
 | ⟨f0,f1,f2⟩=>.st [.s f0,.sl 1 (kD f1),vX f2]
def gBv:List gJs→List U
 | []=>[]
 | a::l=>hT9 a::gBv l
def vX:gY→U
 | ⟨f0,f1,f2,f3,f4,f5,f6⟩=>.st [.i .i64 f0,.s f1,.s f2,.i .i64 f3,kT f4,.sl 9 (vP f5),.sl 11 (gBv f6)]
def vP:List gY→List U
 | []=>[]
 | a::l=>vX a::vP l
end
theorem gRz(x:gY):(vX x).sz=9:=by cases x;simp [vX,U.sz,U.szs,gHb]
instance:Enc gY vX vP 9:=⟨fun l=>by induction l with | nil=>rfl | cons a l ih=>simp [vP,ih],gRz⟩
theorem gO4{l:List gY}{k:Nat}{x:gY}(h:l[k]? =some x):(vP l)[k]? =some (vX x):=Enc.get h
theorem hUa(x:gJs):(hT9 x).sz=11:=by cases x;simp [hT9,U.sz,U.szs,gRz]
instance:Enc gJs hT9 gBv 11:=⟨fun l=>by induction l with | nil=>rfl | cons a l ih=>simp [gBv,ih],hUa⟩
theorem gYd{l:List gJs}{k:Nat}{x:gJs}(h:l[k]? =some x):(gBv l)[k]? =some (hT9 x):=Enc.get h
structure kW where
 name:LB
 params:List gF
 result:gF
 hasDefault:Bool
 vars:LS
 body:gY
mutual
def gC0:kW→U
 | ⟨f0,f1,f2,f3,f4,f5⟩=>.st [.s f0,.sl 3 (jJ f1),kT f2,.b f3,.sl 1 (kD f4),vX f5]
def gA6:List kW→List U
 | []=>[]
 | a::l=>gC0 a::gA6 l
end
theorem gZx(x:kW):(gC0 x).sz=16:=by cases x;simp [gC0,U.sz,U.szs,gRz,gHb]
instance:Enc kW gC0 gA6 16:=⟨fun l=>by induction l with | nil=>rfl | cons a l ih=>simp [gA6,ih],gZx⟩
theorem vU{l:List kW}{k:Nat}{x:kW}(h:l[k]? =some x):(gA6 l)[k]? =some (gC0 x):=Enc.get h
structure mE where
 name:LB
 supertraits:LS
 auto:Bool
 assoc:Bool
 signatures:List kW
mutual
def gF2:mE→U
 | ⟨f0,f1,f2,f3,f4⟩=>.st [.s f0,.sl 1 (kD f1),.b f2,.b f3,.sl 16 (gA6 f4)]
def gFr:List mE→List U
 | []=>[]
 | a::l=>gF2 a::gFr l
end
theorem hMp(x:mE):(gF2 x).sz=5:=by cases x;simp [gF2,U.sz,U.szs]
instance:Enc mE gF2 gFr 5:=⟨fun l=>by induction l with | nil=>rfl | cons a l ih=>simp [gFr,ih],hMp⟩
theorem gLc{l:List mE}{k:Nat}{x:mE}(h:l[k]? =some x):(gFr l)[k]? =some (gF2 x):=Enc.get h
structure mJ where
 name:LB
 fields:List gF
mutual
def gJt:mJ→U
 | ⟨f0,f1⟩=>.st [.s f0,.sl 3 (jJ f1)]
def zN:List mJ→List U
 | []=>[]
 | a::l=>gJt a::zN l
end
theorem gWq(x:mJ):(gJt x).sz=2:=by cases x;simp [gJt,U.sz,U.szs]
instance:Enc mJ gJt zN 2:=⟨fun l=>by induction l with | nil=>rfl | cons a l ih=>simp [zN,ih],gWq⟩
theorem qA{l:List mJ}{k:Nat}{x:mJ}(h:l[k]? =some x):(zN l)[k]? =some (gJt x):=Enc.get h
structure jW where
 name:LB
 vars:LS
 constructors:List mJ
mutual
def gAf:jW→U
 | ⟨f0,f1,f2⟩=>.st [.s f0,.sl 1 (kD f1),.sl 2 (zN f2)]
def gAl:List jW→List U
 | []=>[]
 | a::l=>gAf a::gAl l
end
theorem hCc(x:jW):(gAf x).sz=3:=by cases x;simp [gAf,U.sz,U.szs]
instance:Enc jW gAf gAl 3:=⟨fun l=>by induction l with | nil=>rfl | cons a l ih=>simp [gAl,ih],hCc⟩
theorem gHc{l:List jW}{k:Nat}{x:jW}(h:l[k]? =some x):(gAl l)[k]? =some (gAf x):=Enc.get h
structure gU where
 trait:LB
 type_:gF
mutual
def gCq:gU→U
 | ⟨f0,f1⟩=>.st [.s f0,kT f1]
def kM:List gU→List U
 | []=>[]
 | a::l=>gCq a::kM l
end
theorem gWr(x:gU):(gCq x).sz=4:=by cases x;simp [gCq,U.sz,U.szs,gHb]
instance:Enc gU gCq kM 4:=⟨fun l=>by induction l with | nil=>rfl | cons a l ih=>simp [kM,ih],gWr⟩
theorem gF3{l:List gU}{k:Nat}{x:gU}(h:l[k]? =some x):(kM l)[k]? =some (gCq x):=Enc.get h
structure qX where
 name:LB
 vars:LS
 body:gY
mutual
def gQz:qX→U
 | ⟨f0,f1,f2⟩=>.st [.s f0,.sl 1 (kD f1),vX f2]
def gEt:List qX→List U
 | []=>[]
 | a::l=>gQz a::gEt l
end
theorem hH9(x:qX):(gQz x).sz=11:=by cases x;simp [gQz,U.sz,U.szs,gRz]
instance:Enc qX gQz gEt 11:=⟨fun l=>by induction l with | nil=>rfl | cons a l ih=>simp [gEt,ih],hH9⟩
theorem gMi{l:List qX}{k:Nat}{x:qX}(h:l[k]? =some x):(gEt l)[k]? =some (gQz x):=Enc.get h
structure jF where
 trait:LB
 vars:LS
 head:gF
 where_:List gU
 default_:Bool
 hasAssoc:Bool
 assoc:gF
 methods:List qX
mutual
def vY:jF→U
 | ⟨f0,f1,f2,f3,f4,f5,f6,f7⟩=>.st [.s f0,.sl 1 (kD f1),kT f2,.sl 4 (kM f3),.b f4,.b f5,kT f6,.sl 11 (gEt f7)]
def gAm:List jF→List U
 | []=>[]
 | a::l=>vY a::gAm l
end
theorem hCd(x:jF):(vY x).sz=12:=by cases x;simp [vY,U.sz,U.szs,gHb]
instance:Enc jF vY gAm 12:=⟨fun l=>by induction l with | nil=>rfl | cons a l ih=>simp [gAm,ih],hCd⟩
theorem gFf{l:List jF}{k:Nat}{x:jF}(h:l[k]? =some x):(gAm l)[k]? =some (vY x):=Enc.get h
structure jT where
 name:LB
 type_:gF
mutual
def hCe:jT→U
 | ⟨f0,f1⟩=>.st [.s f0,kT f1]
def mK:List jT→List U
 | []=>[]
 | a::l=>hCe a::mK l
end
theorem hMq(x:jT):(hCe x).sz=4:=by cases x;simp [hCe,U.sz,U.szs,gHb]
instance:Enc jT hCe mK 4:=⟨fun l=>by induction l with | nil=>rfl | cons a l ih=>simp [mK,ih],hMq⟩
theorem gQf{l:List jT}{k:Nat}{x:jT}(h:l[k]? =some x):(mK l)[k]? =some (hCe x):=Enc.get h
structure kF where
 name:LB
 vars:LS
 where_:List gU
 params:List jT
 result:gF
 body:gY
mutual
def gCr:kF→U
 | ⟨f0,f1,f2,f3,f4,f5⟩=>.st [.s f0,.sl 1 (kD f1),.sl 4 (kM f2),.sl 4 (mK f3),kT f4,vX f5]
def gAn:List kF→List U
 | []=>[]
 | a::l=>gCr a::gAn l
end
theorem hCf(x:kF):(gCr x).sz=16:=by cases x;simp [gCr,U.sz,U.szs,gRz,gHb]
instance:Enc kF gCr gAn 16:=⟨fun l=>by induction l with | nil=>rfl | cons a l ih=>simp [gAn,ih],hCf⟩
theorem gLd{l:List kF}{k:Nat}{x:kF}(h:l[k]? =some x):(gAn l)[k]? =some (gCr x):=Enc.get h
structure jL where
 name:LB
 deps:LS
 traits:List mE
 dataTypes:List jW
 instances:List jF
 functions:List kF
mutual
def gHd:jL→U
 | ⟨f0,f1,f2,f3,f4,f5⟩=>.st [.s f0,.sl 1 (kD f1),.sl 5 (gFr f2),.sl 3 (gAl f3),.sl 12 (gAm f4),.sl 16 (gAn f5)]
def gAx:List jL→List U
 | []=>[]
 | a::l=>gHd a::gAx l
end
theorem hEh(x:jL):(gHd x).sz=6:=by cases x;simp [gHd,U.sz,U.szs]
instance:Enc jL gHd gAx 6:=⟨fun l=>by induction l with | nil=>rfl | cons a l ih=>simp [gAx,ih],hEh⟩
theorem mX{l:List jL}{k:Nat}{x:jL}(h:l[k]? =some x):(gAx l)[k]? =some (gHd x):=Enc.get h
structure gG where
 packages:List jL
mutual
def jX:gG→U
 | ⟨f0⟩=>.st [.sl 6 (gAx f0)]
def hMr:List gG→List U
 | []=>[]
 | a::l=>jX a::hMr l
end
structure gI where
 package:Int
 at_:Int
mutual
def qQ:gI→U
 | ⟨f0,f1⟩=>.st [.i .i64 f0,.i .i64 f1]
def mG:List gI→List U
 | []=>[]
 | a::l=>qQ a::mG l
end
theorem gHe(x:gI):(qQ x).sz=2:=by cases x;simp [qQ,U.sz,U.szs]
instance:Enc gI qQ mG 2:=⟨fun l=>by induction l with | nil=>rfl | cons a l ih=>simp [mG,ih],gHe⟩
theorem vQ{l:List gI}{k:Nat}{x:gI}(h:l[k]? =some x):(mG l)[k]? =some (qQ x):=Enc.get h
structure jO where
 goal:gU
 from_:Int
 steps:List Int
mutual
def gLe:jO→U
 | ⟨f0,f1,f2⟩=>.st [gCq f0,.i .i64 f1,.sl 1 (yC f2)]
def mO:List jO→List U
 | []=>[]
 | a::l=>gLe a::mO l
end
theorem gXw(x:jO):(gLe x).sz=6:=by cases x;simp [gLe,U.sz,U.szs,gWr]
instance:Enc jO gLe mO 6:=⟨fun l=>by induction l with | nil=>rfl | cons a l ih=>simp [mO,ih],gXw⟩
theorem gQ0{l:List jO}{k:Nat}{x:jO}(h:l[k]? =some x):(mO l)[k]? =some (gLe x):=Enc.get h
structure gN where
 kind:Int
 n:Int
 at_:gI
 args:List gN
mutual
def wS:gN→U
 | ⟨f0,f1,f2,f3⟩=>.st [.i .i64 f0,.i .i64 f1,qQ f2,.sl 5 (mD f3)]
def mD:List gN→List U
 | []=>[]
 | a::l=>wS a::mD l
end
theorem hCg(x:gN):(wS x).sz=5:=by cases x;simp [wS,U.sz,U.szs,gHe]
instance:Enc gN wS mD 5:=⟨fun l=>by induction l with | nil=>rfl | cons a l ih=>simp [mD,ih],hCg⟩
theorem gMw{l:List gN}{k:Nat}{x:gN}(h:l[k]? =some x):(mD l)[k]? =some (wS x):=Enc.get h
mutual
structure qD where
 constructor:LB
 vars:LS
 body:jN
structure jN where
 kind:Int
 trait:LB
 name:LB
 n:Int
 type_:gF
 typeArgs:List gF
 evidence:List gN
 args:List jN
 arms:List qD
end
mutual
def gR0:qD→U
 | ⟨f0,f1,f2⟩=>.st [.s f0,.sl 1 (kD f1),gBo f2]
def vK:List qD→List U
 | []=>[]
 | a::l=>gR0 a::vK l
def gBo:jN→U
 | ⟨f0,f1,f2,f3,f4,f5,f6,f7,f8⟩=>.st [.i .i64 f0,.s f1,.s f2,.i .i64 f3,kT f4,.sl 3 (jJ f5),.sl 5 (mD f6),.sl 11 (zK f7),.sl 13 (vK f8)]
def zK:List jN→List U
 | []=>[]
 | a::l=>gBo a::zK l
end
theorem gZy(x:jN):(gBo x).sz=11:=by cases x;simp [gBo,U.sz,U.szs,gHb]
instance:Enc jN gBo zK 11:=⟨fun l=>by induction l with | nil=>rfl | cons a l ih=>simp [zK,ih],gZy⟩
theorem hWn{l:List jN}{k:Nat}{x:jN}(h:l[k]? =some x):(zK l)[k]? =some (gBo x):=Enc.get h
theorem hEj(x:qD):(gR0 x).sz=13:=by cases x;simp [gR0,U.sz,U.szs,gZy]
instance:Enc qD gR0 vK 13:=⟨fun l=>by induction l with | nil=>rfl | cons a l ih=>simp [vK,ih],hEj⟩
theorem gUo{l:List qD}{k:Nat}{x:qD}(h:l[k]? =some x):(vK l)[k]? =some (gR0 x):=Enc.get h
structure kK where
 a:gF
 b:gF
 node:Int
mutual
def gO5:kK→U
 | ⟨f0,f1,f2⟩=>.st [kT f0,kT f1,.i .i64 f2]
def vV:List kK→List U
 | []=>[]
 | a::l=>gO5 a::vV l
end
theorem hCh(x:kK):(gO5 x).sz=7:=by cases x;simp [gO5,U.sz,U.szs,gHb]
instance:Enc kK gO5 vV 7:=⟨fun l=>by induction l with | nil=>rfl | cons a l ih=>simp [vV,ih],hCh⟩
theorem gJu{l:List kK}{k:Nat}{x:kK}(h:l[k]? =some x):(vV l)[k]? =some (gO5 x):=Enc.get h
structure jZ where
 goal:gU
 node:Int
mutual
def gLf:jZ→U
 | ⟨f0,f1⟩=>.st [gCq f0,.i .i64 f1]
def uY:List jZ→List U
 | []=>[]
 | a::l=>gLf a::uY l
end
theorem gXx(x:jZ):(gLf x).sz=5:=by cases x;simp [gLf,U.sz,U.szs,gWr]
instance:Enc jZ gLf uY 5:=⟨fun l=>by induction l with | nil=>rfl | cons a l ih=>simp [uY,ih],gXx⟩
theorem gD6{l:List jZ}{k:Nat}{x:jZ}(h:l[k]? =some x):(uY l)[k]? =some (gLf x):=Enc.get h
structure gB where
 next:Int
 count:Int
 node:Int
 bindings:List gM
 equations:List kK
 obligations:List jZ
 code:Int
 at_:Int
mutual
def jR:gB→U
 | ⟨f0,f1,f2,f3,f4,f5,f6,f7⟩=>.st [.i .i64 f0,.i .i64 f1,.i .i64 f2,.sl 4 (jM f3),.sl 7 (vV f4),.sl 5 (uY f5),.i .i64 f6,.i .i64 f7]
def hCi:List gB→List U
 | []=>[]
 | a::l=>jR a::hCi l
end
structure pQ where
 kind:Int
 package:Int
 at_:Int
 sub:Int
 vars:LS
 where_:List gU
 params:List jT
 result:gF
 body:jN
mutual
def gXy:pQ→U
 | ⟨f0,f1,f2,f3,f4,f5,f6,f7,f8⟩=>.st [.i .i64 f0,.i .i64 f1,.i .i64 f2,.i .i64 f3,.sl 1 (kD f4),.sl 4 (kM f5),.sl 4 (mK f6),kT f7,gBo f8]
def zR:List pQ→List U
 | []=>[]
 | a::l=>gXy a::zR l
end
theorem hQe(x:pQ):(gXy x).sz=21:=by cases x;simp [gXy,U.sz,U.szs,gZy,gHb]
instance:Enc pQ gXy zR 21:=⟨fun l=>by induction l with | nil=>rfl | cons a l ih=>simp [zR,ih],hQe⟩
theorem gT6{l:List pQ}{k:Nat}{x:pQ}(h:l[k]? =some x):(zR l)[k]? =some (gXy x):=Enc.get h
structure gJ where
 kind:Int
 at_:gI
 steps:List Int
 args:List gJ
mutual
def jP:gJ→U
 | ⟨f0,f1,f2,f3⟩=>.st [.i .i64 f0,qQ f1,.sl 1 (yC f2),.sl 5 (jQ f3)]
def jQ:List gJ→List U
 | []=>[]
 | a::l=>jP a::jQ l
end
theorem gXz(x:gJ):(jP x).sz=5:=by cases x;simp [jP,U.sz,U.szs,gHe]
instance:Enc gJ jP jQ 5:=⟨fun l=>by induction l with | nil=>rfl | cons a l ih=>simp [jQ,ih],gXz⟩
theorem gA7{l:List gJ}{k:Nat}{x:gJ}(h:l[k]? =some x):(jQ l)[k]? =some (jP x):=Enc.get h
structure kU where
 kind:Int
 package:Int
 at_:Int
 sub:Int
 code:Int
 node:Int
mutual
def gPx:kU→U
 | ⟨f0,f1,f2,f3,f4,f5⟩=>.st [.i .i64 f0,.i .i64 f1,.i .i64 f2,.i .i64 f3,.i .i64 f4,.i .i64 f5]
def wD:List kU→List U
 | []=>[]
 | a::l=>gPx a::wD l
end
theorem gZz(x:kU):(gPx x).sz=6:=by cases x;simp [gPx,U.sz,U.szs]
instance:Enc kU gPx wD 6:=⟨fun l=>by induction l with | nil=>rfl | cons a l ih=>simp [wD,ih],gZz⟩
theorem pI{α β:Type}{v:α}{k:α→β}{r:β}(h:lt_ v k=r):∃x,v=x∧k x=r:=⟨v,rfl,h⟩
section
variable {l:LB}{k n:Nat}
theorem hWo(h:decide ((k:Int) < (l.length:Int))=true):k < l.length:=by have h:=of_decide_eq_true h;omega
theorem hWp(h:decide ((k:Int) < (l.length:Int))=false):l.length≤k:=by have h:=of_decide_eq_false h;omega
theorem qB(h:decide ((k:Int) < (n:Int))=true):k < n:=by have h:=of_decide_eq_true h;omega
theorem qC(h:decide ((k:Int) < (n:Int))=false):n≤k:=by have h:=of_decide_eq_false h;omega
end
section
variable {P:Program}{A:Amb}{ops:Array Oper}{K:St→Prop}{Q:Exit→St→Prop}{rest:List Oper}{σ:St}{c:Code}
theorem kG(σJ:St)(h1:VO P A ops rest σ (fun s=>Le s σJ))(h2:K σJ)(hA:A.L0.length≤σJ.L.length:=by rw [gBp.h (A:=A)];exact Nat.le_of_ble_eq_true rfl):VO P A ops rest σ K:=
 fun R hR a w hr=>h1 R (fun σ' a' w' hle hr'=>hR σJ a' w' h2 (hr'.le hle hA)) a w hr
theorem hWq{x y:Code}(σJ:St)(h1:V P A x σ (thenS (fun s=>Le s σJ) Q))(h2:V P A y σJ Q)(hA:A.L0.length≤σJ.L.length:=by rw [gBp.h (A:=A)];exact Nat.le_of_ble_eq_true rfl):V P A (.seq x y) σ Q:=
 kC (V.mono h1 (fun e s hq=>by
  cases e with
  | normal=>exact jA8 hq h2 hA
  | _=>exact hq))
theorem kZ {α0:Type}(I:α0→St)(J:α0→Prop)(μ:α0→Nat)(x0:α0)(h0:Le σ (I x0))(hJ:J x0)
  (round:∀a0,J a0→V P A c (I a0) (thenS (fun s=>∃b0,J b0∧μ b0 < μ a0∧Le s (I b0)) Q)) (hA:∀a0,A.L0.length≤(I a0).L.length:=by intros;rw [gBp.h (A:=A)];exact Nat.le_of_ble_eq_true rfl):V P A (.loop c) σ Q:=
 gQg (α:=α0) (fun x=>I (x)) (fun x=>J (x)) (fun x=>μ (x)) (x0) h0 hJ (fun x hx=>V.mono (round (x) hx) (fun e s hq=>by
  cases e with
  | normal=>
    obtain⟨b0,h1,h2,h3⟩:=hq;exact⟨(b0),h1,h2,h3⟩
  | _=>exact hq)) (fun x=>hA (x))
theorem gAg {α0 α1:Type}(I:α0→α1→St)(J:α0→α1→Prop)(μ:α0→α1→Nat)(x0:α0)(x1:α1)(h0:Le σ (I x0 x1))(hJ:J x0 x1)
  (round:∀a0 a1,J a0 a1→V P A c (I a0 a1) (thenS (fun s=>∃b0 b1,J b0 b1∧μ b0 b1 < μ a0 a1∧Le s (I b0 b1)) Q)) (hA:∀a0 a1,A.L0.length≤(I a0 a1).L.length:=by intros;rw [gBp.h (A:=A)];exact Nat.le_of_ble_eq_true rfl):V P A (.loop c) σ Q:=
 gQg (α:=α0 × α1) (fun x=>I (x.1) (x.2)) (fun x=>J (x.1) (x.2)) (fun x=>μ (x.1) (x.2)) (x0,x1) h0 hJ (fun x hx=>V.mono (round (x.1) (x.2) hx) (fun e s hq=>by
  cases e with
  | normal=>
    obtain⟨b0,b1,h1,h2,h3⟩:=hq;exact⟨(b0,b1),h1,h2,h3⟩
  | _=>exact hq)) (fun x=>hA (x.1) (x.2))
theorem kQ {α0 α1 α2:Type}(I:α0→α1→α2→St)(J:α0→α1→α2→Prop)(μ:α0→α1→α2→Nat)(x0:α0)(x1:α1)(x2:α2)(h0:Le σ (I x0 x1 x2))(hJ:J x0 x1 x2)
  (round:∀a0 a1 a2,J a0 a1 a2→V P A c (I a0 a1 a2) (thenS (fun s=>∃b0 b1 b2,J b0 b1 b2∧μ b0 b1 b2 < μ a0 a1 a2∧Le s (I b0 b1 b2)) Q)) (hA:∀a0 a1 a2,A.L0.length≤(I a0 a1 a2).L.length:=by intros;rw [gBp.h (A:=A)];exact Nat.le_of_ble_eq_true rfl):V P A (.loop c) σ Q:=
 gQg (α:=α0 × α1 × α2) (fun x=>I (x.1) (x.2.1) (x.2.2)) (fun x=>J (x.1) (x.2.1) (x.2.2)) (fun x=>μ (x.1) (x.2.1) (x.2.2)) (x0,x1,x2) h0 hJ (fun x hx=>V.mono (round (x.1) (x.2.1) (x.2.2) hx) (fun e s hq=>by
  cases e with
  | normal=>
    obtain⟨b0,b1,b2,h1,h2,h3⟩:=hq;exact⟨(b0,b1,b2),h1,h2,h3⟩
  | _=>exact hq)) (fun x=>hA (x.1) (x.2.1) (x.2.2))
theorem gWs {α0 α1 α2 α3:Type}(I:α0→α1→α2→α3→St)(J:α0→α1→α2→α3→Prop)(μ:α0→α1→α2→α3→Nat)(x0:α0)(x1:α1)(x2:α2)(x3:α3)(h0:Le σ (I x0 x1 x2 x3))(hJ:J x0 x1 x2 x3)
  (round:∀a0 a1 a2 a3,J a0 a1 a2 a3→V P A c (I a0 a1 a2 a3) (thenS (fun s=>∃b0 b1 b2 b3,J b0 b1 b2 b3∧μ b0 b1 b2 b3 < μ a0 a1 a2 a3∧Le s (I b0 b1 b2 b3)) Q)) (hA:∀a0 a1 a2 a3,A.L0.length≤(I a0 a1 a2 a3).L.length:=by intros;rw [gBp.h (A:=A)];exact Nat.le_of_ble_eq_true rfl):V P A (.loop c) σ Q:=
 gQg (α:=α0 × α1 × α2 × α3) (fun x=>I (x.1) (x.2.1) (x.2.2.1) (x.2.2.2)) (fun x=>J (x.1) (x.2.1) (x.2.2.1) (x.2.2.2)) (fun x=>μ (x.1) (x.2.1) (x.2.2.1) (x.2.2.2)) (x0,x1,x2,x3) h0 hJ (fun x hx=>V.mono (round (x.1) (x.2.1) (x.2.2.1) (x.2.2.2) hx) (fun e s hq=>by
  cases e with
  | normal=>
    obtain⟨b0,b1,b2,b3,h1,h2,h3⟩:=hq;exact⟨(b0,b1,b2,b3),h1,h2,h3⟩
  | _=>exact hq)) (fun x=>hA (x.1) (x.2.1) (x.2.2.1) (x.2.2.2))
theorem gMj {α0 α1 α2 α3 α4:Type}(I:α0→α1→α2→α3→α4→St)(J:α0→α1→α2→α3→α4→Prop)(μ:α0→α1→α2→α3→α4→Nat)(x0:α0)(x1:α1)(x2:α2)(x3:α3)(x4:α4)(h0:Le σ (I x0 x1 x2 x3 x4))(hJ:J x0 x1 x2 x3 x4)
  (round:∀a0 a1 a2 a3 a4,J a0 a1 a2 a3 a4→V P A c (I a0 a1 a2 a3 a4) (thenS (fun s=>∃b0 b1 b2 b3 b4,J b0 b1 b2 b3 b4∧μ b0 b1 b2 b3 b4 < μ a0 a1 a2 a3 a4∧Le s (I b0 b1 b2 b3 b4)) Q)) (hA:∀a0 a1 a2 a3 a4,A.L0.length≤(I a0 a1 a2 a3 a4).L.length:=by intros;rw [gBp.h (A:=A)];exact Nat.le_of_ble_eq_true rfl):V P A (.loop c) σ Q:=
 gQg (α:=α0 × α1 × α2 × α3 × α4) (fun x=>I (x.1) (x.2.1) (x.2.2.1) (x.2.2.2.1) (x.2.2.2.2)) (fun x=>J (x.1) (x.2.1) (x.2.2.1) (x.2.2.2.1) (x.2.2.2.2)) (fun x=>μ (x.1) (x.2.1) (x.2.2.1) (x.2.2.2.1) (x.2.2.2.2)) (x0,x1,x2,x3,x4) h0 hJ (fun x hx=>V.mono (round (x.1) (x.2.1) (x.2.2.1) (x.2.2.2.1) (x.2.2.2.2) hx) (fun e s hq=>by
  cases e with
  | normal=>
    obtain⟨b0,b1,b2,b3,b4,h1,h2,h3⟩:=hq;exact⟨(b0,b1,b2,b3,b4),h1,h2,h3⟩
  | _=>exact hq)) (fun x=>hA (x.1) (x.2.1) (x.2.2.1) (x.2.2.2.1) (x.2.2.2.2))
theorem hUb {α0 α1 α2 α3 α4 α5 α6 α7:Type}(I:α0→α1→α2→α3→α4→α5→α6→α7→St)(J:α0→α1→α2→α3→α4→α5→α6→α7→Prop)(μ:α0→α1→α2→α3→α4→α5→α6→α7→Nat)(x0:α0)(x1:α1)(x2:α2)(x3:α3)(x4:α4)(x5:α5)(x6:α6)(x7:α7)(h0:Le σ (I x0 x1 x2 x3 x4 x5 x6 x7))(hJ:J x0 x1 x2 x3 x4 x5 x6 x7)
  (round:∀a0 a1 a2 a3 a4 a5 a6 a7,J a0 a1 a2 a3 a4 a5 a6 a7→V P A c (I a0 a1 a2 a3 a4 a5 a6 a7) (thenS (fun s=>∃b0 b1 b2 b3 b4 b5 b6 b7,J b0 b1 b2 b3 b4 b5 b6 b7∧μ b0 b1 b2 b3 b4 b5 b6 b7 < μ a0 a1 a2 a3 a4 a5 a6 a7∧Le s (I b0 b1 b2 b3 b4 b5 b6 b7)) Q)) (hA:∀a0 a1 a2 a3 a4 a5 a6 a7,A.L0.length≤(I a0 a1 a2 a3 a4 a5 a6 a7).L.length:=by intros;rw [gBp.h (A:=A)];exact Nat.le_of_ble_eq_true rfl):V P A (.loop c) σ Q:=
 gQg (α:=α0 × α1 × α2 × α3 × α4 × α5 × α6 × α7) (fun x=>I (x.1) (x.2.1) (x.2.2.1) (x.2.2.2.1) (x.2.2.2.2.1) (x.2.2.2.2.2.1) (x.2.2.2.2.2.2.1) (x.2.2.2.2.2.2.2)) (fun x=>J (x.1) (x.2.1) (x.2.2.1) (x.2.2.2.1) (x.2.2.2.2.1) (x.2.2.2.2.2.1) (x.2.2.2.2.2.2.1) (x.2.2.2.2.2.2.2)) (fun x=>μ (x.1) (x.2.1) (x.2.2.1) (x.2.2.2.1) (x.2.2.2.2.1) (x.2.2.2.2.2.1) (x.2.2.2.2.2.2.1) (x.2.2.2.2.2.2.2)) (x0,x1,x2,x3,x4,x5,x6,x7) h0 hJ (fun x hx=>V.mono (round (x.1) (x.2.1) (x.2.2.1) (x.2.2.2.1) (x.2.2.2.2.1) (x.2.2.2.2.2.1) (x.2.2.2.2.2.2.1) (x.2.2.2.2.2.2.2) hx) (fun e s hq=>by
  cases e with
  | normal=>
    obtain⟨b0,b1,b2,b3,b4,b5,b6,b7,h1,h2,h3⟩:=hq;exact⟨(b0,b1,b2,b3,b4,b5,b6,b7),h1,h2,h3⟩
  | _=>exact hq)) (fun x=>hA (x.1) (x.2.1) (x.2.2.1) (x.2.2.2.1) (x.2.2.2.2.1) (x.2.2.2.2.2.1) (x.2.2.2.2.2.2.1) (x.2.2.2.2.2.2.2))
end
end Go.Eng
