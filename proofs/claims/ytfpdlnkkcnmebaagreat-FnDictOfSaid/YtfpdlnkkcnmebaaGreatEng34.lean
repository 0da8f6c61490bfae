import Derived.Test.YtfpdlnkkcnmebaaGreatEng32
import Derived.KernelRfl
set_option linter.unusedVariables false
set_option linter.unusedSimpArgs false
namespace Go.Eng
open Go Go.RowKit
section
variable {A:Amb}{S S':Nat→Prop}{L Lc Lo:List LO}{env envo:List Value}{w w':World}{js:List Nat}
def given(js:List Nat)(L:List LO)(env:List Value)(w:World)(n b:Nat):Prop:=∃m,m < n∧gT4 L env w (rn js L.length m) b
theorem pW.hand(hH:pW A S L env w)(hp:gT8 (rn js L.length) L Lc):pW ⟨w,S,given js L env w Lc.length,Lc,gRb (rn js L.length) Lc.length env⟩ S Lc (gRb (rn js L.length) Lc.length env) w:=
 hH.pick hp (Nat.le_refl _) (fun m b hm h=>.inl ⟨m,hm,h⟩) (fun b hb=>.inl hb) (fun _ _ _=>rfl) rfl rfl rfl (Base.refl rfl rfl) (hH.gok fun b ⟨m,_,o,hv,k1,k2,k3,k4⟩=>(hH.excl _ o hv b k1 k2 k3 k4).2.1)
theorem pW.back (hH:pW A S L env w)(hp:gT8 (rn js L.length) L Lc)(hn:js.length=Lc.length)(hlt:∀j∈js,j < L.length)(hnd:js.Nodup)
  (hC:pW ⟨w,S,given js L env w Lc.length,Lc,gRb (rn js L.length) Lc.length env⟩ S' Lo envo w') :
  pW A (fun b=>S b∨S' b) (gI1 js (Lo.map (LO.ren (rn js L.length))) L) (gI1 js envo env) w'∧
  Carry S L env w (fun b=>S b∨S' b) (gI1 js (Lo.map (LO.ren (rn js L.length))) L) (gI1 js envo env) w'∧
  ∀(sv:SV)(v:Value),SVr S' Lo envo w' sv v→SVr (fun b=>S b∨S' b) (gI1 js (Lo.map (LO.ren (rn js L.length))) L) (gI1 js envo env) w' (sv.ren (rn js L.length)) v:=by
 have hlen:=hH.len;have hleno:=hC.len;have hge:js.length≤Lo.length:=by rw [hn];exact hC.base.1
 generalize hρ:rn js L.length=ρ at hp hC ⊢;have hltE:∀j∈js,j < env.length:=fun j hj=>by rw [hlen];exact hlt j hj
 have gL:∀m,(gI1 js (Lo.map (LO.ren ρ)) L)[ρ m]? =(Lo[m]?).map (LO.ren ρ):=fun m=>by
  have:=gT9 js (Lo.map (LO.ren ρ)) L m (by simpa using hge) hlt hnd
  rw [hρ] at this;rw [this,List.getElem?_map]
 have gE:∀m,(gI1 js envo env)[ρ m]? =envo[m]? :=fun m=>by
  have:=gT9 js envo env m (by omega) hltE hnd
  rw [hlen,hρ] at this;exact this
 have H:∀i,i < envo.length→(gI1 js envo env)[ρ i]? =envo[i]? ∧((gI1 js (Lo.map (LO.ren ρ)) L)[ρ i]?).map LO.ver=(Lo[i]?).map LO.ver:=fun i _=>by
  refine⟨gE i,?_⟩;rw [gL i];cases Lo[i]? with
  | none=>rfl
  | some o=>simp [LO.ren_ver]
 have split:∀(J:Nat)(o:LO)(hv:Value),(gI1 js (Lo.map (LO.ren ρ)) L)[J]? =some o→(gI1 js envo env)[J]? =some hv→
   (J < L.length∧J∉js∧L[J]? =some o∧env[J]? =some hv)∨∃m oo,ρ m=J∧Lo[m]? =some oo∧o=oo.ren ρ∧envo[m]? =some hv:=by
  intro J o hv h1 h2;rcases hAl js (Lo.map (LO.ren ρ)) L (by simpa using hge) J (List.getElem?_eq_some_iff.1 h1).1 with ⟨k1,k2⟩ | ⟨m,k1,k2⟩
  ·rw [gJx _ _ _ _ k1 k2] at h1;rw [gJx _ _ _ _ (by omega) k2] at h2;exact .inl ⟨k1,k2,h1,h2⟩
  ·rw [hρ] at k2;subst k2;rw [gL m] at h1;rw [gE m] at h2;cases hm:Lo[m]? with
   | none=>rw [hm] at h1;cases h1
   | some oo=>
     rw [hm] at h1;exact .inr ⟨m,oo,rfl,hm,by simpa using h1.symm,h2⟩
 have giv:∀(J:Nat)(b:Nat),given js L env w Lc.length b→gT4 L env w J b→J∈js:=by
  rintro J b ⟨m,hm,h1⟩ h2
  have:=gT4.inj hH h1 h2
  subst this;simp only [rn];rw [List.getElem?_eq_getElem (by omega)];exact List.getElem_mem _
 have keep:∀b,b < w.heap.size→¬given js L env w Lc.length b→w'.heap[b]? =w.heap[b]? :=fun b h1 h2=>hC.frame b h1 h2;have C:Carry S L env w (fun b=>S b∨S' b) (gI1 js (Lo.map (LO.ren ρ)) L) (gI1 js envo env) w':=by
  refine⟨fun b hb _=>.inl hb,fun b hb hlt=>keep b hlt (fun⟨m,_,o,hv,k1,k2,k3,k4⟩=>(hH.excl _ o hv b k1 k2 k3 k4).1 hb),fun i b hi=>?_,fun i hv o h1 h2=>?_⟩
  ·by_cases hj:i∈js
   ·obtain⟨m,hm,rfl⟩:=List.mem_iff_getElem.1 hj;have hr:ρ m=js[m]:=by rw [←hρ];simp [rn,List.getElem?_eq_getElem hm]
    have hmc:m < Lc.length:=by omega
    obtain⟨o,ho⟩:∃o,Lc[m]? =some o:=⟨_,List.getElem?_eq_getElem hmc⟩
    have q1:=hp.get m o ho;have q2:=gRc hH hmc q1;rw [hr] at q2;obtain⟨oo,hoo⟩:∃oo,Lo[m]? =some oo:=⟨_,List.getElem?_eq_getElem (by omega)⟩
    obtain⟨vv,hvv⟩:∃vv,envo[m]? =some vv:=⟨_,List.getElem?_eq_getElem (by omega)⟩
    have q3:=(hC.base.2 m _ o vv oo (by rw [q2];exact hi) ho hvv hoo).2.2 b rfl;subst q3
    have:=gE m
    rw [hr] at this;rw [this];exact hvv
   ·rw [gJx _ _ _ _ (List.getElem?_eq_some_iff.1 hi).1 hj];exact hi
  ·by_cases hj:i∈js
   ·obtain⟨m,hm,rfl⟩:=List.mem_iff_getElem.1 hj;have hr:ρ m=js[m]:=by rw [←hρ];simp [rn,List.getElem?_eq_getElem hm]
    have hmc:m < Lc.length:=by omega
    obtain⟨oc,hoc⟩:∃o,Lc[m]? =some o:=⟨_,List.getElem?_eq_getElem hmc⟩
    have q1:=hp.get m oc hoc;have q2:=gRc hH hmc q1;rw [hr] at q1 q2;rw [h2] at q1;have q1':=Option.some.inj q1;obtain⟨oo,hoo⟩:∃oo,Lo[m]? =some oo:=⟨_,List.getElem?_eq_getElem (by omega)⟩
    obtain⟨vv,hvv⟩:∃vv,envo[m]? =some vv:=⟨_,List.getElem?_eq_getElem (by omega)⟩
    obtain⟨b1,b2,_⟩:=hC.base.2 m hv oc vv oo (by rw [q2];exact h1) hoc hvv hoo;have hver:o.ver=oc.ver:=by rw [q1',LO.ren_ver]
    refine⟨vv,oo.ren ρ,?_,?_,by rw [LO.ren_ver];omega,fun he=>b2 (by rw [LO.ren_ver] at he;omega)⟩
    ·have:=gE m
     rw [hr] at this;rw [this];exact hvv
    ·have:=gL m
     rw [hr] at this;rw [this,hoo];rfl
   ·have hi:=(List.getElem?_eq_some_iff.1 h2).1;exact⟨hv,o,by rw [gJx _ _ _ _ (by omega) hj];exact h1,by rw [gJx _ _ _ _ hi hj];exact h2,Nat.le_refl _,fun _=>rfl⟩
 have hkeep:∀(J:Nat)(o:LO)(hv:Value),J∉js→L[J]? =some o→o.live=true→env[J]? =some hv→∀b,o.ft w hv b→w'.heap[b]? =w.heap[b]? :=fun J o hv hj h1 hl h2 b hb=>
  keep b (hH.excl J o hv b h1 hl h2 hb).2.2 (fun hg=>hj (giv J b hg ⟨o,hv,h1,hl,h2,hb⟩))
 have hfe:∀(J:Nat)(o:LO)(hv:Value),J∉js→L[J]? =some o→o.live=true→env[J]? =some hv→∀b,o.ft w' hv b→o.ft w hv b:=fun J o hv hj h1 hl h2 b hb=>
  (LO.ft_eq (hH.objs J o hv h1 h2) (hkeep J o hv hj h1 hl h2) b).1 hb
 have C2:Carry S' Lo envo w' (fun b=>S b∨S' b) Lo envo w':=⟨fun b hb _=>.inr hb,fun _ _ _=>rfl,fun _ _ h=>h,fun _ _ _ h1 h2=>⟨_,_,h1,h2,Nat.le_refl _,fun _=>rfl⟩⟩
 have back:∀(sv:SV)(v:Value),SVr S' Lo envo w' sv v→SVr (fun b=>S b∨S' b) (gI1 js (Lo.map (LO.ren ρ)) L) (gI1 js envo env) w' (sv.ren ρ) v:=fun sv v h=>
  SVr.ren (S:=fun b=>S b∨S' b) H sv v (SVr.carry C2 _ _ h)
 have hlenN:(gI1 js (Lo.map (LO.ren ρ)) L).length=L.length+(Lo.length - js.length):=by rw [gPu _ _ _ (by simpa using hge)];simp
 have howner:∀(m:Nat)(oo:LO)(hv:Value)(b:Nat),Lo[m]? =some oo→oo.live=true→envo[m]? =some hv→oo.ft w' hv b→given js L env w Lc.length b∨w.heap.size≤b:=fun m oo hv b h1 hl h2 hb=>(hC.excl m oo hv b h1 hl h2 hb).2.1;have hnS:∀b,given js L env w Lc.length b→¬S b:=fun b ⟨m,_,o,hv,k1,k2,k3,k4⟩=>(hH.excl _ o hv b k1 k2 k3 k4).1;refine⟨⟨by rw [hlenN,gPu _ _ _ (by omega)];omega,?_,?_,?_,?_,?_,?_,Nat.le_trans hH.size hC.size,hC.os.trans hH.os,hC.tape.trans hH.tape,hC.output.trans hH.output,hH.base.carry C hlen (by rw [hlenN];omega),hH.glob⟩,C,back⟩
 ·intro J o hv h1 h2;rcases split J o hv h1 h2 with ⟨k1,k2,k3,k4⟩ | ⟨m,oo,rfl,k2,rfl,k4⟩
  ·exact gH2.carry C (fun b hl hb=>hkeep J o hv k2 k3 hl k4 b hb) (hH.objs J o hv k3 k4)
  ·have hob:=hC.objs m oo hv k2 k4;cases oo with
   | box cs=>
     obtain⟨b,vals,e,r1,r2,r3,r4⟩:=hob;exact⟨b,vals,e,r1,r2,kP.ren (S:=fun b=>S b∨S' b) H _ _ (kP.carry C2 _ _ r3),r4⟩
   | arr e z ver es=>exact gH2.carry C2 (fun _ _ _=>rfl) hob
   | frz e z ver es=>exact gH2.carry C2 (fun _ _ _=>rfl) hob
   | own e z ver es=>exact gH2.carry C2 (fun _ _ _=>rfl) hob
   | dead ver=>exact hob
   | ownp h e z es=>exact gH2.carry C2 (fun _ _ _=>rfl) hob
   | mix e z ver fs es=>exact gH2.carry C2 (fun _ _ _=>rfl) hob
   | set ks=>exact gH2.carry C2 (fun _ _ _=>rfl) hob
   | bld e T l=>exact gH2.carry C2 (fun _ _ _=>rfl) hob
 ·intro J o hv b h1 hl h2 hb;rcases split J o hv h1 h2 with ⟨k1,k2,k3,k4⟩ | ⟨m,oo,rfl,k2,rfl,k4⟩
  ·have hb':=hfe J o hv k2 k3 hl k4 b hb
   have:=hH.excl J o hv b k3 hl k4 hb'
   refine⟨fun hs=>hs.elim this.1 (fun hs=>?_),this.2.1,Nat.lt_of_lt_of_le this.2.2 hC.size⟩;rcases hC.sA b hs with h | h | h
   ·exact this.1 h
   ·exact k2 (giv J b h ⟨o,hv,k3,hl,k4,hb'⟩)
   ·have h':w.heap.size≤b:=h;omega
  ·rw [LO.ren_live] at hl;rw [LO.ren_ft] at hb
   have:=hC.excl m oo hv b k2 hl k4 hb
   refine⟨fun hs=>hs.elim (fun hs=>?_) this.1,?_,this.2.2⟩
   ·rcases this.2.1 with h | h
    ·exact hnS b h hs
    ·have:=hH.sS b hs
     have h':w.heap.size≤b:=h;omega
   ·rcases this.2.1 with ⟨m',_,o',hv',q1,q2,q3,q4⟩ | h
    ·exact(hH.excl _ o' hv' b q1 q2 q3 q4).2.1
    ·exact .inr (Nat.le_trans hH.size h)
 ·intro J J' o o' hv hv' b h1 h2 hl1 hl2 e1 e2 b1 b2;have mix:∀(J:Nat)(o:LO)(hv:Value)(m:Nat)(oo:LO)(hv':Value),J∉js→L[J]? =some o→o.live=true→env[J]? =some hv→o.ft w' hv b→Lo[m]? =some oo→oo.live=true→envo[m]? =some hv'→oo.ft w' hv' b→False:=by
   intro J o hv m oo hv' k2 k3 hl k4 hb m1 ml m2 mb;have hb':=hfe J o hv k2 k3 hl k4 b hb;rcases howner m oo hv' b m1 ml m2 mb with h | h
   ·exact k2 (giv J b h ⟨o,hv,k3,hl,k4,hb'⟩)
   ·have:=(hH.excl J o hv b k3 hl k4 hb').2.2
    omega
  rcases split J o hv h1 e1 with ⟨k1,k2,k3,k4⟩ | ⟨m,oo,rfl,k2,rfl,k4⟩<;>rcases split J' o' hv' h2 e2 with ⟨k1',k2',k3',k4'⟩ | ⟨m',oo',rfl,k2',rfl,k4'⟩
  ·exact hH.dist J J' o o' hv hv' b k3 k3' hl1 hl2 k4 k4' (hfe J o hv k2 k3 hl1 k4 b b1) (hfe J' o' hv' k2' k3' hl2 k4' b b2)
  ·rw [LO.ren_live] at hl2;rw [LO.ren_ft] at b2;exact(mix J o hv m' oo' hv' k2 k3 hl1 k4 b1 k2' hl2 k4' b2).elim
  ·rw [LO.ren_live] at hl1;rw [LO.ren_ft] at b1;exact(mix J' o' hv' m oo hv k2' k3' hl2 k4' b2 k2 hl1 k4 b1).elim
  ·rw [LO.ren_live] at hl1 hl2;rw [LO.ren_ft] at b1 b2;rw [hC.dist m m' oo oo' hv hv' b k2 k2' hl1 hl2 k4 k4' b1 b2]
 ·rintro b (hb | hb)
  ·exact Nat.lt_of_lt_of_le (hH.sS b hb) hC.size
  ·exact hC.sS b hb
 ·rintro b (hb | hb)
  ·exact hH.sA b hb
  ·rcases hC.sA b hb with h | ⟨m',_,o',hv',q1,q2,q3,q4⟩ | h
   ·exact hH.sA b h
   ·exact .inr (hH.excl _ o' hv' b q1 q2 q3 q4).2.1
   ·exact .inr (.inr (Nat.le_trans hH.size h))
 ·intro b h1 h2;have hlt':b < w.heap.size:=Nat.lt_of_lt_of_le h1 hH.size;rw [keep b hlt' ?_]
  ·exact hH.frame b h1 h2
  ·rintro⟨m',_,o',hv',q1,q2,q3,q4⟩;rcases(hH.excl _ o' hv' b q1 q2 q3 q4).2.1 with h | h
   ·exact h2 h
   ·omega
end
def AG(L:List LO)(ρ:Nat→Nat)(n:Nat)(sv sv':SV):Prop:=(sv'.ren ρ=sv∧sv'.lt n=true)∨∃u,sv'=.d u∧VD L sv u
def AGs(L:List LO)(ρ:Nat→Nat)(n:Nat):List SV→List SV→Prop
 | [],[]=>True
 | a::az,b::bs=>AG L ρ n a b∧AGs L ρ n az bs
 | _,_=>False
theorem AGs.r{A:Amb}{S:Nat→Prop}{L Lc:List LO}{env:List Value}{w:World}{ρ:Nat→Nat}(hH:pW A S L env w)(hp:gT8 ρ L Lc):∀{svs svs':List SV}{vs:List Value},AGs L ρ Lc.length svs svs'→kP S L env w svs vs→kP S Lc (gRb ρ Lc.length env) w svs' vs
 | [],[],[],_,_=>by simp [kP]
 | sv::svs,sv'::svs',v::vs,h,hv=>by
   simp only [kP] at hv ⊢;refine⟨?_,AGs.r hH hp h.2 hv.2⟩;rcases h.1 with ⟨h1,h2⟩ | ⟨u,rfl,h2⟩
   ·rw [←h1] at hv;exact SVr.unren (hp.H hH) _ _ h2 hv.1
   ·have:=VD.r hH h2 hv.1
    simpa only [SVr] using this
 | [],_::_,_,h,_=>h.elim
 | _::_,[],_,h,_=>h.elim
 | [],[],_::_,_,h=>by simp [kP] at h
 | _::_,_::_,[],_,h=>by simp [kP] at h
section
variable {P:Program}{A:Amb}{K:St→Prop}{ops:Array Oper}{rest:List Oper}
variable {t:Nat}{ty:TypeId}{pos:String}{af:Array Edge}{dst:Option Nat}{g:Option (Nat × Bool)}
theorem hDr{a:Act}{w:World}{f:Operand}{fi:Nat}{cvs:List Value}{args:Array Operand}{at_:Array TypeId}(h1:a.eval f=.func (.func fi) #[] cvs.toArray)(hc:hDf P fi) :
  (execOp a.eval ⟨dst,.call { callee:=.value f,args:=args,argTypes:=at_ },ty,pos,af,g⟩).run P w=.ok (.enter fi (args.toList.map a.eval++cvs).toArray) w:=by
 obtain⟨fn,c1,c2,c3⟩:=hc;have harr:args.map a.eval++cvs.toArray=(args.toList.map a.eval++cvs).toArray:=by apply Array.ext';simp
 simp only [execOp,resolve,h1,Deferred.ofValue,Sem.run_bind,Sem.run_pure,Result.andThen_ok,invoke,callFunc,run_program,c1,c2,c3,Bool.false_eq_true,if_false,Array.empty_append,harr]
theorem hH8 {f:Operand}{fi:Nat}{caps:List SV}{args:Array Operand}{at_:Array TypeId}{cargs:List SV}{Lc:List LO}{Q:SV→List LO→Prop}{fr:List (Nat × SV)}{L:List LO}{N:Nat}(js:List Nat)(hf:(St.mk fr L N).ev f=.fn fi caps)
  (hspec:Spec P fi cargs Lc Q) (hp:gT8 (rn js L.length) L Lc) (hjs:(decide js.Nodup && (js.all fun j=>Nat.blt j L.length) && js.length==Lc.length)=true) (hargs:AGs L (rn js L.length) Lc.length (args.toList.map (St.mk fr L N).ev++caps) cargs) (ht:Nat.blt t N=true)
  (h:∀(sv:SV)(Lo:List LO),Q sv Lo→VO P A ops rest ⟨(t,sv.ren (rn js L.length))::fr,gI1 js (Lo.map (LO.ren (rn js L.length))) L,N⟩ K) :
  VO P A ops (⟨some t,.call { callee:=.value f,args:=args,argTypes:=at_ },ty,pos,af,none⟩::rest) ⟨fr,L,N⟩ K:=by
 simp only [Bool.and_eq_true,decide_eq_true_eq,List.all_eq_true,Nat.blt_eq,beq_iff_eq] at hjs;obtain⟨⟨hnd,hlt⟩,hn⟩:=hjs;intro R hR a w ⟨S,env,hH,hfr,hN,hd⟩;refine wpList_plain rfl fun K' hK'=>?_;have h1:=mY.ev hfr hH f;rw [hf] at h1;simp only [SVr] at h1;obtain⟨cvs,h1,h2⟩:=h1;have h3:kP S L env w (args.toList.map (St.mk fr L N).ev) (args.toList.map a.eval):=kP.evals (σ:=⟨fr,L,N⟩) _ fun x _=>mY.ev hfr hH x;have h4:kP S L env w (args.toList.map (St.mk fr L N).ev++caps) (args.toList.map a.eval++cvs):=by
  rw [kP.iff] at h2 h3 ⊢;exact yZ.append h3 h2
 have h5:=AGs.r hH hp hargs h4;obtain⟨hc,hs⟩:=hspec;unfold Oper.wp;rw [hDr h1 hc];simp only [Oper.upon];refine(hs _ S _ w _ rfl rfl rfl rfl (hH.hand hp) h5).mono ?_;rintro e w' ⟨r,sv',S',Lo,envo,rfl,hq,hH',hr⟩;obtain⟨b1,b2,b3⟩:=hH.back hp hn hlt hnd hH';exact hK' _ _ (h _ _ hq R hR _ _ (uU (σ:=⟨fr,L,N⟩) hfr hN hd ht b1 b2 (b3 _ _ hr)))
end
inductive gXb (P:Program)(σ:St):List ResultVar→List SV→Prop
 | nil:gXb P σ [] []
 | data {r:ResultVar} {rs:List ResultVar} {sv0:SV} {u:U} {svs:List SV} (h:hAg P σ r sv0) (hu:VD σ.L sv0 u) (h2:gXb P σ rs svs):gXb P σ (r::rs) (.d u::svs)
 | same {r:ResultVar} {rs:List ResultVar} {sv:SV} {svs:List SV} (h:hAg P σ r sv) (h2:gXb P σ rs svs):gXb P σ (r::rs) (sv::svs)
 | junk {r:ResultVar} {rs:List ResultVar} {sv0:SV} {svs:List SV} (h:hAg P σ r sv0) (h2:gXb P σ rs svs):gXb P σ (r::rs) (.junk::svs)
def mkG:List SV→SV
 | [sv]=>sv
 | svs=>.tup svs
def pX(P:Program)(fn:Func)(Q:SV→List LO→Prop)(n:Nat)(e:Exit)(σ:St):Prop:=
 (match e with | .normal=>True | .ret=>True | _=>False)∧∃svs Lo L2,σ.L=Lo++L2∧(LO.lts Lo.length Lo && SV.lts Lo.length svs && Nat.ble n Lo.length)=true∧Q (mkG svs) Lo∧gXb P σ fn.results.toList svs
theorem hS4{S:Nat→Prop}{L:List LO}{env:List Value}{w:World}{svs:List SV}{vs:List Value}(h:kP S L env w svs vs):SVr S L env w (mkG svs) (if h:vs.toArray.size=1 then vs.toArray[0] else .tuple vs.toArray):=by
 match svs,vs,h with
 | [],[],_=>simp only [mkG,SVr];exact⟨[],by simp,by simp [kP]⟩
 | [u],[v],h=>simpa [mkG,kP] using h
 | u::u'::us,v::v'::vs,h=>simp only [mkG,SVr];exact⟨v::v'::vs,by simp,h⟩
 | [_],[],h=>simp [kP] at h
 | [_],_::_::_,h=>simp [kP] at h
 | _::_::_,[_],h=>simp [kP] at h
 | [],_::_,h=>simp [kP] at h
 | _::_::_,[],h=>simp [kP] at h
theorem gXb.run{P:Program}{A:Amb}{σ:St}{S:Nat→Prop}{env:List Value}{a:Act}{w:World}(hH:pW A S σ.L env w)(hf:∀t,SVr S σ.L env w (look σ.fr t) (a.tmps.getD t undef)){rs:List ResultVar}{svs:List SV}(h:gXb P σ rs svs) :
  ∃vs:List Value,(rs.mapM (hMa a.tmps)).run P w=.ok vs w∧kP S σ.L env w svs vs:=by
 induction h with
 | nil=>exact⟨[],by simp,by simp [kP]⟩
 | data h hu _ ih=>
   obtain⟨v,k1,k2⟩:=hAg.run hH hf h;obtain⟨vs,k3,k4⟩:=ih;refine⟨v::vs,?_,?_⟩
   ·simp only [List.mapM_cons,Sem.run_bind];rw [k1];simp only [Result.andThen_ok];rw [k3];rfl
   ·simp only [kP];exact⟨VD.r hH hu k2,k4⟩
 | same h _ ih=>
   obtain⟨v,k1,k2⟩:=hAg.run hH hf h;obtain⟨vs,k3,k4⟩:=ih;refine⟨v::vs,?_,?_⟩
   ·simp only [List.mapM_cons,Sem.run_bind];rw [k1];simp only [Result.andThen_ok];rw [k3];rfl
   ·simp only [kP];exact⟨k2,k4⟩
 | junk h _ ih=>
   obtain⟨v,k1,k2⟩:=hAg.run hH hf h;obtain⟨vs,k3,k4⟩:=ih;refine⟨v::vs,?_,?_⟩
   ·simp only [List.mapM_cons,Sem.run_bind];rw [k1];simp only [Result.andThen_ok];rw [k3];rfl
   ·simp only [kP];exact⟨trivial,k4⟩
theorem kJ {P:Program}{f:Nat}{fn:Func}{c:Code}{args:List SV}{L:List LO}{Q:SV→List LO→Prop}(n:Nat)(hf:P.funcs[f]? =some fn)(hb:fn.body=some c)(hname:(fn.name== "runtime.NumGoroutine")=false)
  (hn:Nat.ble args.length fn.ntmps=true) (hL:L.length=n) (h:∀A [gDv A n],V P A c ⟨gLa 0 args,L,fn.ntmps⟩ (pX P fn Q n)):Spec P f args L Q:=by
 refine⟨⟨fn,hf,hname,by rw [hb];rfl⟩,?_⟩;intro A S env w vs hw hS hA0 he hH hargs;have hb0:gDv A n:=⟨by rw [hA0];exact hL⟩
 have hlen:=kP.length hargs;have hn':=Nat.le_of_ble_eq_true hn;refine calls_of_wp hf hb ?_;refine wp_mono (h A _ w ⟨S,env,hH,fun t=>?_,?_,rfl⟩) ?_
 ·have:=gH8 args vs 0 [] (List.replicate (fn.ntmps - vs.length) undef) rfl hargs t
  have e:vs.toArray++Array.replicate (fn.ntmps - vs.toArray.size) undef=([]++vs++List.replicate (fn.ntmps - vs.length) undef).toArray:=by apply Array.ext';simp
  rw [e];exact this
 ·simp;omega
 ·rintro e a' w' ⟨σ',⟨hex,svs,Lo,L2,hLe,hlts,hq,hres⟩,S',env',hH',hf',hN',hd'⟩;simp only [Bool.and_eq_true] at hlts;obtain⟨rvs,k1,k2⟩:=hres.run hH' hf';have hrun:(results fn a'.tmps).run P w'=.ok (if h:rvs.toArray.size=1 then rvs.toArray[0] else .tuple rvs.toArray) w':=by
   rw [gOo];simp only [Sem.run_bind];rw [←Array.toArray_toList (xs:=fn.results)];simp only [List.mapM_toArray,Sem.run_map];rw [k1];rfl
  rw [hLe] at hH' k2;have hcut:=kP.cut hH'.len svs rvs hlts.1.2 k2
  have fin:∃r sv S'' L' env'',(Ending.returned (if h:rvs.toArray.size=1 then rvs.toArray[0] else .tuple rvs.toArray))=.returned r∧Q sv L'∧pW A S'' L' env'' w'∧SVr S'' L' env'' w' sv r:=
   ⟨_,mkG svs,S',Lo,env'.take Lo.length,rfl,hq,hH'.cut hlts.1.1 (by rw [hb0.h];exact Nat.le_of_ble_eq_true hlts.2),hS4 hcut⟩
  cases e with
  | normal=>exact⟨hd',_,hrun,fin⟩
  | ret=>exact⟨hd',_,hrun,fin⟩
  | exit id=>exact hex.elim
  | goto l=>exact hex.elim
  | panic c=>exact hex.elim
  | outgrown=>exact hex.elim
def hH9(ρ:Nat→Nat)(fr:List (Nat × SV))(n:Nat):List (Nat × SV)→Prop
 | []=>True
 | p::r=>(look fr p.1=p.2.ren ρ∧p.2.lt n=true)∧hH9 ρ fr n r
theorem hH9.look{ρ:Nat→Nat}{fr:List (Nat × SV)}{n:Nat}:∀{fr':List (Nat × SV)},hH9 ρ fr n fr'→∀t,look fr' t=.junk∨(look fr t=(look fr' t).ren ρ∧(look fr' t).lt n=true)
 | [],_,t=>.inl rfl
 | p::r,h,t=>by
   simp only [Go.Eng.look];by_cases ht:t=p.1
   ·simp only [ht,if_true];exact .inr h.1
   ·simp only [if_neg ht];exact hH9.look h.2 t
theorem mY.pick{A:Amb}{a:Act}{w:World}{fr fr':List (Nat × SV)}{L Lc:List LO}{N n:Nat}[hb:gDv A n](js:List Nat)(hp:gT8 (rn js L.length) L Lc)(hn:(js.length==Lc.length && Nat.ble n Lc.length && (List.range n).all fun i=>js[i]? ==some i)=true)(hfr:hH9 (rn js L.length) fr Lc.length fr')(h:mY A ⟨fr,L,N⟩ a w):mY A ⟨fr',Lc,N⟩ a w:=by
 obtain⟨S,env,hH,hf,hN,hd⟩:=h;simp only [Bool.and_eq_true,beq_iff_eq,List.all_eq_true,List.mem_range] at hn;obtain⟨⟨hl,hle⟩,hid⟩:=hn;have hle':=Nat.le_of_ble_eq_true hle;have H:=hp.H hH;refine⟨S,_,hH.pick hp hH.size (fun m b hm ⟨o,hv,k1,k2,k3,k4⟩=>(hH.excl _ o hv b k1 k2 k3 k4).2.1) hH.sA hH.frame hH.os hH.tape hH.output ⟨by rw [hb.h];exact hle',fun i hv o hv' o' k1 k2 k3 k4=>?_⟩ hH.glob,fun t=>?_,hN,hd⟩
 ·have hi:i < n:=by rw [←hb.h];exact(List.getElem?_eq_some_iff.1 k2).1
  have hr:rn js L.length i=i:=by simp [rn,hid i hi]
  have q1:=hp.get i o' k4;have q2:=(H i (by omega)).1;rw [hr] at q1 q2
  have:=hH.base.2 i hv o hv' _ k1 k2 (by rw [q2];exact k3) q1
  rw [LO.ren_ver] at this;exact this
 ·rcases hH9.look hfr t with hj | ⟨h1,h2⟩
  ·rw [hj];simp only [SVr]
  ·have:=hf t
   simp only at this;rw [h1] at this;exact SVr.unren H _ _ h2 this
theorem hOz{P:Program}{A:Amb}{c:Code}{Q:Exit→St→Prop}{fr fr':List (Nat × SV)}{L Lc:List LO}{N n:Nat} [gDv A n](js:List Nat)(h:V P A c ⟨fr',Lc,N⟩ Q)(hp:gT8 (rn js L.length) L Lc)(hn:(js.length==Lc.length && Nat.ble n Lc.length && (List.range n).all fun i=>js[i]? ==some i)=true)(hfr:hH9 (rn js L.length) fr Lc.length fr'):V P A c ⟨fr,L,N⟩ Q:=fun a w hr=>h a w (hr.pick js hp hn hfr)
class Mix (P:Program):Prop where
 h:P.follows .mixedOrders=true
theorem gY5{P:Program}{A:Amb}{σ:St}{Q:Exit→St→Prop}{x y z:Code}(h:V P A (.seq x y) σ (thenS (fun s=>V P A z s Q) Q)):V P A (.seq (.seq x y) z) σ Q:=kI h
def cnd{α:Type}(c:Bool)(x y:α):α:=match c with
 | true=>x
 | false=>y
def bnd{α β:Type}(o:Option α)(k:α→Option β):Option β:=match o with
 | some x=>k x
 | none=>none
def lt_{α β:Type}(x:α)(k:α→β):β:=k x
def gd{α:Type}(c:Prop) [Decidable c](k:Option α):Option α:=if c then k else none
theorem kU{α:Type}{c:Bool}{x y r:α}(hc:c=true)(h:cnd c x y=r):x=r:=by subst hc;exact h
theorem kV{α:Type}{c:Bool}{x y r:α}(hc:c=false)(h:cnd c x y=r):y=r:=by subst hc;exact h
theorem gJ{α β:Type}{o:Option α}{k:α→Option β}{r:β}(h:bnd o k=some r):∃x,o=some x∧k x=some r:=by
 cases o with
 | none=>cases h
 | some x=>exact⟨x,rfl,h⟩
theorem jV{α β:Type}{o:Option α}{k:α→Option β}{x:α}(h:o=some x):bnd o k=k x:=by subst h;rfl
theorem pU{α:Type}{c:Prop} [Decidable c]{k:Option α}{r:α}(h:gd c k=some r):c∧k=some r:=by
 unfold gd at h;split at h
 ·exact⟨by assumption,h⟩
 ·cases h
theorem qN{α:Type}{c:Prop} [Decidable c]{k:Option α}(hc:c):gd c k=k:=by unfold gd;rw [if_pos hc]
theorem jQ{α:Type}{x y:α}:cnd true x y=x:=rfl
theorem gW{α:Type}{x y:α}:cnd false x y=y:=rfl
def at? {α:Type}(l:List α)(i:Int):Option α:=if 0≤i then l[i.toNat]? else none
theorem gBm{α:Type}{l:List α}{i:Int}{x:α}(h:at? l i=some x):0≤i∧l[i.toNat]? =some x:=by
 unfold at? at h;split at h
 ·exact⟨by assumption,h⟩
 ·cases h
theorem gA4{α:Type}(l:List α)(k:Nat):at? l (k:Int)=l[k]? :=by unfold at?;rw [if_pos (Int.natCast_nonneg k)];rfl
theorem drop_at{α:Type}{l:List α}{k:Nat}(h:k < l.length):∃x,l[k]? =some x∧l.drop k=x::l.drop (k+1):=
 ⟨l[k],List.getElem?_eq_getElem h,List.drop_eq_getElem_cons h⟩
theorem jK{α:Type}{l:List α}{k:Nat}(h:l.length≤k):l.drop k=[]:=List.drop_eq_nil_of_le h
section
variable {P:Program}{A:Amb}{ops:Array Oper}{K:St→Prop}{Q:Exit→St→Prop}{rest:List Oper}{σ:St}{fr:List (Nat × SV)}{L L':List LO}{N i t:Nat}{sv:SV}{o:Oper}
variable {ty T:TypeId}{pos:String}{af:Array Edge}{x y:Operand}{g:Option (Nat × Bool)}{dst:Option Nat}{op:Op}
def QR(P:Program)(σ:St)(o:Oper)(sv:SV):Prop:=∀A fr' L',(∀x∈o.op.operands.toList,St.ev ⟨fr',L',σ.N⟩ x=σ.ev x)→gQ8 σ.L L'→Quiet P A ⟨fr',L',σ.N⟩ o sv
theorem QR.q(h:QR P σ o sv):Quiet P A σ o sv:=h A σ.fr σ.L (fun _ _=>rfl) (gQ8.refl _)
theorem uN(hq:QR P ⟨fr,L,N⟩ ⟨some t,op,ty,pos,af,none⟩ sv)(h:VO P A ops rest ⟨(t,sv)::fr,L,N⟩ K)(ht:Nat.blt t N=true:=by rfl):VO P A ops (⟨some t,op,ty,pos,af,none⟩::rest) ⟨fr,L,N⟩ K:=hO7 hq.q ht h
theorem gDi(hq:QR P ⟨fr,L,N⟩ ⟨some t,op,ty,pos,af,none⟩ sv)(h:VQ P A ops rest ⟨(t,sv)::fr,L,N⟩ K)(ht:Nat.blt t N=true:=by rfl):VQ P A ops (⟨some t,op,ty,pos,af,none⟩::rest) ⟨fr,L,N⟩ K:=hSu hq.q ht h
theorem hXc{r:List (Nat × Bool)}{pf:PF}(hq:QR P ⟨fr,L,N⟩ ⟨some t,op,ty,pos,af,none⟩ sv)(hv:VY P A ops K r ((i,L)::pf) ⟨(t,sv)::fr,L,N⟩)(hi:ops[i]? =some ⟨some t,op,ty,pos,af,none⟩:=by rfl)(ht:Nat.blt t N=true:=by rfl):VY P A ops K ((i,true)::r) pf ⟨fr,L,N⟩:=
 hS3 hi rfl rfl (fun fr' L' he hk=>hq A fr' L' he hk) ht hv
theorem vP(hq:Quiet P A ⟨fr,L,N⟩ ⟨some t,op,ty,pos,af,none⟩ sv)(h:VO P A ops rest ⟨(t,sv)::fr,L,N⟩ K)(ht:Nat.blt t N=true:=by rfl):VO P A ops (⟨some t,op,ty,pos,af,none⟩::rest) ⟨fr,L,N⟩ K:=hO7 hq ht h
theorem hS6(hq:Quiet P A ⟨fr,L,N⟩ ⟨some t,op,ty,pos,af,none⟩ sv)(h:VQ P A ops rest ⟨(t,sv)::fr,L,N⟩ K)(ht:Nat.blt t N=true:=by rfl):VQ P A ops (⟨some t,op,ty,pos,af,none⟩::rest) ⟨fr,L,N⟩ K:=hSu hq ht h
theorem gRd{j tj:Nat}{want:Bool}{o':Oper}(h:VO P A ops (⟨dst,op,ty,pos,af,none⟩::rest) ⟨fr,L,N⟩ K)(hj:ops[j]? =some o':=by rfl)(hdst:o'.dst=some tj:=by rfl)(htj:Nat.blt tj N=true:=by rfl)(hb:look fr tj=.d (.b want):=by rfl) :
  VO P A ops (⟨dst,op,ty,pos,af,some (j,want)⟩::rest) ⟨fr,L,N⟩ K:=hMc hj hdst htj hb h
section
variable {e z bs k:Nat}{gg:Bool}{kd:IntKind}{us:List U}{u:U}
theorem jR [TE P T e] [TI P e gg z bs](k:Nat)(hu:us[k]? =some u)(hx:σ.ev x=.d (.sl z us):=by rfl)(hy:σ.ev y=.d (.i kd (k:Int)):=by rfl):QR P σ ⟨dst,.indexAddr T x y,ty,pos,af,g⟩ (.dp u):=
 fun A fr' L' he _=>hEo (by rw [he x (by simp [Op.operands])];exact hx) (by rw [he y (by simp [Op.operands])];exact hy) TE.h TI.h (Int.natCast_nonneg k) hu
theorem uL [TE P T e] [TI P e gg z bs]{n:Int}(h0:0≤n)(hu:us[n.toNat]? =some u)(hx:σ.ev x=.d (.sl z us):=by rfl)(hy:σ.ev y=.d (.i kd n):=by rfl):QR P σ ⟨dst,.indexAddr T x y,ty,pos,af,g⟩ (.dp u):=
 fun A fr' L' he _=>hEo (by rw [he x (by simp [Op.operands])];exact hx) (by rw [he y (by simp [Op.operands])];exact hy) TE.h TI.h h0 hu
end
theorem hS7{l:LB}{b:UInt8}{kd:IntKind}{n:Int}(hT:P.underlying T=some .string)(h0:0≤n)(hu:l[n.toNat]? =some b)(hx:σ.ev x=.d (.s l))(hy:σ.ev y=.d (.i kd n)) :
  Quiet P A σ ⟨dst,.index T x y,ty,pos,af,g⟩ (.d (.i .u8 (b.toNat:Int))):=Quiet.pure fun S env a w hH ho=>by
 have h1:=ho x (by simp [Op.operands]);have h2:=ho y (by simp [Op.operands]);rw [hx] at h1;rw [hy] at h2;obtain⟨_,h1⟩:=SVr.str.1 h1;have h2:=SVr.int.1 h2;refine⟨.int .u8 b.toNat,?_,SVr.int.2 rfl⟩;have hb:(if 0≤n then(⟨l.toArray⟩:ByteArray)[n.toNat]? else none)=some b:=by
  rw [if_pos h0];have hlt:=(List.getElem?_eq_some_iff.1 hu).1;have hs:n.toNat < (⟨l.toArray⟩:ByteArray).size:=by simpa [ByteArray.size] using hlt
  rw [getElem?_pos (⟨l.toArray⟩:ByteArray) n.toNat hs];congr 1;have h3:l[n.toNat]=b:=by rw [List.getElem?_eq_getElem hlt] at hu;exact Option.some.inj hu
  rw [←h3];rfl
 simp [execOp,h1,h2,Instr.index,asIntOf,run_underlying hT,hb]
theorem gNs [TS P T]{l:LB}{b:UInt8}{kd:IntKind}{n:Int}(h0:0≤n)(hu:l[n.toNat]? =some b)(hx:σ.ev x=.d (.s l):=by rfl)(hy:σ.ev y=.d (.i kd n):=by rfl) :
  QR P σ ⟨dst,.index T x y,ty,pos,af,g⟩ (.d (.i .u8 (b.toNat:Int))):=
 fun A fr' L' he _=>hS7 TS.h h0 hu (by rw [he x (by simp [Op.operands])];exact hx) (by rw [he y (by simp [Op.operands])];exact hy)
theorem gJy [TS P T]{l:LB}{b:UInt8}{kd:IntKind}(k:Nat)(hu:l[k]? =some b)(hx:σ.ev x=.d (.s l):=by rfl)(hy:σ.ev y=.d (.i kd (k:Int)):=by rfl) :
  QR P σ ⟨dst,.index T x y,ty,pos,af,g⟩ (.d (.i .u8 (b.toNat:Int))):=gNs (Int.natCast_nonneg k) hu hx hy
theorem pV{b:BinOp}{T':TypeId}{k:IntKind}{m n r:Int}(h:arI b k m n=some r:=by rfl)(hx:σ.ev x=.d (.i k m):=by rfl)(hy:σ.ev y=.d (.i k n):=by rfl):QR P σ ⟨dst,.binOp b T x y T',ty,pos,af,g⟩ (.d (.i k r)):=
 fun A fr' L' he _=>hVs (by rw [he x (by simp [Op.operands])];exact hx) (by rw [he y (by simp [Op.operands])];exact hy) h
theorem kD{T':TypeId}(k:Nat)(hk:k < 9223372036854775807)(hx:σ.ev x=.d (.i .i64 (k:Int)):=by rfl)(hy:σ.ev y=.d (.i .i64 1):=by rfl):QR P σ ⟨dst,.binOp .add T x y T',ty,pos,af,g⟩ (.d (.i .i64 ((k+1:Nat):Int))):=
 fun A fr' L' he _=>by
  have:=hO8 (P:=P) (A:=A) (dst:=dst) (ty:=ty) (pos:=pos) (af:=af) (g:=g) (T:=T) (T':=T') (σ:=⟨fr',L',σ.N⟩) (m:=(k:Int)) (n:=1) (by rw [he x (by simp [Op.operands])];exact hx) (by rw [he y (by simp [Op.operands])];exact hy) (by omega) (by omega)
  simpa using this
theorem hDt{f:Nat}{cs:Array Operand}{svs:List SV}(h:NfL σ cs.toList svs:=by repeat constructor):QR P σ ⟨dst,.makeFunc (.func f) #[] cs,ty,pos,af,g⟩ (.fn f svs):=
 fun A fr' L' he _=>hOu (by
  have key:∀(l:List Operand)(svs:List SV),(∀x∈l,St.ev ⟨fr',L',σ.N⟩ x=σ.ev x)→NfL σ l svs→NfL ⟨fr',L',σ.N⟩ l svs:=by
   intro l svs hl h
   induction h with
   | nil=>exact .nil
   | cons h1 h2 ih=>exact .cons (by rw [hl _ (by simp)];exact h1) (ih fun x hx=>hl x (by simp [hx]))
  exact key _ _ (fun x hx=>he x (by simpa [Op.operands] using hx)) h)
theorem gI {f:Operand}{fi:Nat}{caps:List SV}{args:Array Operand}{at_:Array TypeId}{dargs:List SV}{us:List U}
  (hspec:jI P fi dargs us) (hf:σ.ev f=.fn fi caps:=by rfl) (hargs:∀L',VAs L' (args.toList.map σ.ev++caps) dargs:=by(intro L';(repeat(first | exact trivial | exact rfl | exact⟨_,rfl⟩ | exact(‹∀n,SV.lts n _=true› _) | refine And.intro ?_ ?_));first | done | fail)) :
  QR P σ ⟨dst,.call { callee:=.value f,args:=args,argTypes:=at_ },ty,pos,af,g⟩ (mkR us):=
 fun A fr' L' he _=>hC6 (by rw [he f (by simp [Op.operands,Call.operands])];exact hf) hspec (by
  have:args.toList.map (St.ev ⟨fr',L',σ.N⟩)=args.toList.map σ.ev:=List.map_congr_left fun x hx=>he x (by simp only [Op.operands,Call.operands];simp;exact .inr (by simpa using hx))
  rw [this]
  exact hargs L')
theorem gRe {f:Operand}{fi:Nat}{caps:List SV}{args:Array Operand}{at_:Array TypeId}{dargs:List SV}{us:List U}
  (hspec:jI P fi dargs us) (hf:σ.ev f=.fn fi caps:=by rfl) (hargs:VAs σ.L (args.toList.map σ.ev++caps) dargs:=by((repeat(first | exact trivial | exact rfl | exact⟨_,rfl⟩ | exact(‹∀n,SV.lts n _=true› _) | refine And.intro ?_ ?_));first | done | fail)) :
  Quiet P A σ ⟨dst,.call { callee:=.value f,args:=args,argTypes:=at_ },ty,pos,af,g⟩ (mkR us):=hC6 hf hspec hargs
theorem gUa {f:Operand}{fi:Nat}{args:Array Operand}{at_:Array TypeId}{dargs:List SV}{u:U}
  (hspec:jI P fi dargs [u]) (hu:u.scal=true:=by rfl) (hf:σ.ev f=.fn fi []:=by rfl) (hargs:WCs σ.L (args.toList.map σ.ev) dargs:=by((repeat(first | exact trivial | exact rfl | exact⟨_,rfl⟩ | refine And.intro ?_ ?_));first | done | fail)) :
  Quiet P A σ ⟨dst,.call { callee:=.value f,args:=args,argTypes:=at_ },ty,pos,af,g⟩ (.d u):=hDi hf hspec hu hargs
theorem wW{c:Bool}(tj:Nat)(ht:c=true→VO P A ops rest ⟨(tj,.d (.b true))::fr,L,N⟩ K)(hf:c=false→VO P A ops rest ⟨(tj,.d (.b false))::fr,L,N⟩ K)(hb:look fr tj=.d (.b c):=by rfl):VO P A ops rest ⟨fr,L,N⟩ K:=by
 intro R hR a w hr;have key:∀c',c=c'→mY A ⟨(tj,.d (.b c'))::fr,L,N⟩ a w:=by
  intro c' hc;obtain⟨S,env,hH,hfr,hN,hd⟩:=hr;refine⟨S,env,hH,fun t=>?_,hN,hd⟩;simp only [look];by_cases h:t=tj
  ·subst h;rw [if_pos rfl,←hc,←hb];exact hfr t
  ·rw [if_neg h];exact hfr t
 cases hc:c with
 | true=>exact ht hc R hR a w (key true hc)
 | false=>exact hf hc R hR a w (key false hc)
theorem hQk{c:Operand}{x y:Code}(h:V P A x σ Q)(hc:σ.ev c=.d (.b true):=by rfl):V P A (.cond c x y) σ Q:=hD8 hc (fun _=>h) (fun h=>by cases h)
theorem hS8{c:Operand}{x y:Code}(h:V P A y σ Q)(hc:σ.ev c=.d (.b false):=by rfl):V P A (.cond c x y) σ Q:=hD8 hc (fun h=>by cases h) (fun _=>h)
theorem mR{c:Operand}{x y:Code}{t:Bool}(ht:t=true→V P A x σ Q)(hf:t=false→V P A y σ Q)(hc:σ.ev c=.d (.b t):=by rfl):V P A (.cond c x y) σ Q:=hD8 hc ht hf
end
end Go.Eng
