import Derived.Test.YtfjncckelekpiaaGreatEng76
set_option linter.unusedVariables false
set_option linter.unusedSimpArgs false
set_option linter.unusedSectionVars false
namespace Go.Eng
open Go Go.RowKit
abbrev UP:=List (Nat × LO)
def gIa(L:List LO):UP→List LO
 | []=>L
 | p::r=>gIa (L.set p.1 p.2) r
def hId(k:Nat):UP→Bool
 | []=>true
 | p::r=> !(p.1==k) && hId k r
theorem gZ9:∀(up:UP)(L:List LO),(gIa L up).length=L.length
 | [],_=>rfl
 | p::r,L=>by rw [gIa,gZ9 r,List.length_set]
theorem gUr:∀(up:UP)(L:List LO)(k:Nat),hId k up=true→(gIa L up)[k]? =L[k]?
 | [],_,_,_=>rfl
 | p::r,L,k,h=>by
   simp only [hId,Bool.and_eq_true,Bool.not_eq_true',beq_eq_false_iff_ne] at h;rw [gIa,gUr r _ k h.2,List.getElem?_set_ne h.1]
theorem hGm:∀(up:UP)(L:List LO)(k:Nat)(o:LO),hId k up=true→gIa (L.set k o) up=(gIa L up).set k o
 | [],_,_,_,_=>rfl
 | p::r,L,k,o,h=>by
   simp only [hId,Bool.and_eq_true,Bool.not_eq_true',beq_eq_false_iff_ne] at h;rw [gIa,gIa,List.set_comm _ _ (Ne.symm h.1),hGm r _ k o h.2]
theorem hCr:∀(up vp:UP)(L:List LO),(∀p∈up,hId p.1 vp=true)→gIa (gIa L up) vp=gIa (gIa L vp) up
 | [],_,_,_=>rfl
 | p::r,vp,L,h=>by
   rw [gIa,hCr r vp _ (fun q hq=>h q (by simp [hq])),hGm vp L p.1 p.2 (h p (by simp)),gIa]
structure FT where
 rd:List Nat
 up:UP
abbrev HF:=List (Nat × FT)
def gMk(B:List LO):UP→Bool
 | []=>true
 | p::r=>(match B[p.1]? with | some (.box _)=>false | _=>true) && gMk B r
def hNh(F G:FT):Bool:=G.up.all fun p=>hId p.1 F.up && !F.rd.contains p.1
def gMx(F G:FT):Bool:=hNh F G && F.up.all fun p=> !G.rd.contains p.1
theorem hAa{B:List LO}{k:Nat}{cs:List SV}(hk:B[k]? =some (.box cs)):∀(up:UP),gMk B up=true→hId k up=true
 | [],_=>rfl
 | p::r,h=>by
   simp only [gMk,Bool.and_eq_true] at h;simp only [hId,Bool.and_eq_true,Bool.not_eq_true',beq_eq_false_iff_ne];refine⟨fun e=>?_,hAa hk r h.2⟩;rw [e,hk] at h;cases h.1
theorem hQq{B L:List LO}{up:UP}(hk:gP8 B L)(h:gMk B up=true):gP8 B (gIa L up):=fun k cs hc=>by rw [gUr up L k (hAa hc up h)];exact hk k cs hc
theorem hQr{B L:List LO}{up:UP}(hk:gP8 B (gIa L up))(h:gMk B up=true):gP8 B L:=fun k cs hc=>by have:=hk k cs hc;rwa [gUr up L k (hAa hc up h)] at this
theorem gQ1{F G:FT}(h:gMx F G=true):(∀p∈G.up,hId p.1 F.up=true∧p.1∉F.rd)∧∀p∈F.up,p.1∉G.rd:=by
 unfold gMx hNh at h;simp only [Bool.and_eq_true,List.all_eq_true,Bool.not_eq_true',List.contains_eq_mem,decide_eq_false_iff_not] at h;exact⟨h.1,h.2⟩
theorem gUs{k:Nat}:∀{up:UP},hId k up=true↔∀p∈up,p.1≠k
 | []=>by simp [hId]
 | p::r=>by simp [hId,gUs (up:=r)]
theorem gQ2{F G:FT}(h:gMx F G=true):gMx G F=true:=by
 obtain⟨h1,h2⟩:=gQ1 h;unfold gMx hNh;simp only [Bool.and_eq_true,List.all_eq_true,Bool.not_eq_true',List.contains_eq_mem,decide_eq_false_iff_not];exact⟨fun p hp=>⟨gUs.2 fun q hq e=>gUs.1 (h1 q hq).1 p hp e.symm,h2 p hp⟩,fun p hp=>(h1 p hp).2⟩
theorem gYg{F G:FT}{L:List LO}(h:gMx F G=true):∀k∈G.rd,(gIa L F.up)[k]? =L[k]? :=fun k hk=>gUr _ _ _ (gUs.2 fun p hp e=>(gQ1 h).2 p hp (e▸hk))
section
variable {P:Program}{A:Amb}{ops:Array Oper}{md:Region.Mode}{K:St→Prop}{σ σ':St}
def LH(P:Program)(A:Amb)(ops:Array Oper)(σ:St)(o:Oper)(sv:SV)(F:FT):Prop:=
 ∀L2:List LO,L2.length=σ.L.length→(∀k∈F.rd,L2[k]? =σ.L[k]?)→HSt P A ops ⟨σ.fr,L2,σ.N⟩ o sv (gIa L2 F.up)
theorem LH.same{o:Oper}{sv:SV}{F:FT}(hN:σ'.N=σ.N)(hl:σ'.L.length=σ.L.length)(hL:∀k∈F.rd,σ'.L[k]? =σ.L[k]?)(h:∀t,t∈o.looksAt ops→look σ'.fr t=look σ.fr t)(hy:LH P A ops σ o sv F):LH P A ops σ' o sv F:=fun L2 h1 h2=>
 HSt.same (σ:=⟨σ.fr,L2,σ.N⟩) hN rfl h (hy L2 (h1.trans hl) fun k hk=>(h2 k hk).trans (hL k hk))
def VW(P:Program)(A:Amb)(md:Region.Mode)(ops:Array Oper)(K:St→Prop):Nat→Array Bool→PF→HF→St→Prop
 | 0,listed,_,_,σ=>Region.ready md ops listed=[]∧K σ
 | fuel+1,listed,pf,hf,σ=>(Region.ready md ops listed=[]→K σ)∧
   ∀i∈Region.ready md ops listed,∃o,ops[i]? =some o∧
    ((∃sv B,PSt P A ops B σ o sv∧(∀h∈hf,gMk B h.2.up=true∨gQy md ops ops.size h.1 i=true)∧VW P A md ops K fuel (listed.setIfInBounds i true) ((i,B)::pf) hf (σ.setO o.dst sv))∨
     (∃sv F,LH P A ops σ o sv F∧(∀p∈pf,gMk p.2 F.up=true∨gQy md ops ops.size p.1 i=true)∧(∀h∈hf,gMx h.2 F=true∨gQy md ops ops.size h.1 i=true)∧VW P A md ops K fuel (listed.setIfInBounds i true) pf ((i,F)::hf) (St.setO ⟨σ.fr,gIa σ.L F.up,σ.N⟩ o.dst sv)))
theorem VW.sub:∀(fuel:Nat)(listed:Array Bool)(pf pf':PF)(hf hf':HF)(σ:St),(∀p∈pf',p∈pf)→(∀p∈hf',p∈hf)→VW P A md ops K fuel listed pf hf σ→VW P A md ops K fuel listed pf' hf' σ
 | 0,_,_,_,_,_,_,_,_,h=>h
 | fuel+1,_,pf,pf',hf,hf',σ,hs,ht,h=>⟨h.1,fun i hi=>by
   have cs:∀{α:Type}{x:α}{l l':List α},(∀p∈l',p∈l)→∀p∈x::l',p∈x::l:=fun hh p hp=>by
    rcases List.mem_cons.1 hp with rfl | hp
    ·simp
    ·simp [hh p hp]
   obtain⟨o,h1,h2⟩:=h.2 i hi;refine⟨o,h1,?_⟩;rcases h2 with ⟨sv,B,k1,k2,k3⟩ | ⟨sv,F,k1,k2,k3,k4⟩
   ·exact .inl ⟨sv,B,k1,fun p hp=>k2 p (ht p hp),VW.sub fuel _ _ _ _ _ _ (cs hs) ht k3⟩
   ·exact .inr ⟨sv,F,k1,fun p hp=>k2 p (hs p hp),fun p hp=>k3 p (ht p hp),VW.sub fuel _ _ _ _ _ _ hs (cs ht) k4⟩⟩
theorem VW.alike(hK:∀σ σ',Alike σ σ'→K σ→K σ'):∀(fuel:Nat)(listed:Array Bool)(pf:PF)(hf:HF)(σ σ':St),Alike σ σ'→VW P A md ops K fuel listed pf hf σ→VW P A md ops K fuel listed pf hf σ'
 | 0,_,_,_,σ,σ',ha,h=>⟨h.1,hK _ _ ha h.2⟩
 | fuel+1,_,pf,hf,σ,σ',ha,h=>⟨fun h0=>hK _ _ ha (h.1 h0),fun i hi=>by
   obtain⟨o,h1,h2⟩:=h.2 i hi;refine⟨o,h1,?_⟩;rcases h2 with ⟨sv,B,k1,k2,k3⟩ | ⟨sv,F,k1,k2,k3,k4⟩
   ·exact .inl ⟨sv,B,k1.same ha.N.symm (by rw [←ha.L];exact k1.2.1) (fun t _=>(ha.fr t).symm),k2,VW.alike hK fuel _ _ _ _ _ (ha.setO o.dst sv) k3⟩
   ·refine .inr ⟨sv,F,k1.same ha.N.symm (by rw [ha.L]) (fun k _=>by rw [ha.L]) (fun t _=>(ha.fr t).symm),k2,k3,VW.alike hK fuel _ _ _ _ _ ?_ k4⟩;have h0:Alike ⟨σ.fr,gIa σ.L F.up,σ.N⟩ ⟨σ'.fr,gIa σ'.L F.up,σ'.N⟩:=⟨by rw [ha.L],ha.N,ha.fr⟩
    exact h0.setO o.dst sv⟩
theorem VW.wp{R:Exit→Act→World→Prop}(hR:∀σ' a' w',K σ'→mP A σ' a' w'→R .normal a' w'):∀(fuel:Nat)(listed:Array Bool)(pf:PF)(hf:HF)(σ:St)(a:Act)(w:World),mP A σ a w→
  VW P A md ops K fuel listed pf hf σ→wpAny P md ops R fuel listed a w
 | 0,_,_,_,_,_,_,hr,h=>⟨h.1,hR _ _ _ h.2 hr⟩
 | fuel+1,listed,pf,hf,σ,a,w,hr,h=>by
   refine⟨fun h0=>hR _ _ _ (h.1 h0) hr,fun i hi=>?_⟩;obtain⟨o,h1,h2⟩:=h.2 i hi;unfold wpOp;simp only [h1];rcases h2 with ⟨sv,B,h2,_,h3⟩ | ⟨sv,F,h2,_,_,h3⟩
   ·have h2:=h2.ys;obtain⟨S,env,hH,hf',hN,hd⟩:=hr;have put:∀(S':Nat→Prop)(w':World)(v:Value),pU A S' σ.L env w'→Carry S σ.L env w S' σ.L env w'→SVr S' σ.L env w' sv v→mP A (σ.setO o.dst sv) (a.put o.dst v) w':=by
     intro S' w' v k1 k2 k3;cases hdst:o.dst with
     | none=>exact gFg hf' hN hd k1 k2
     | some t=>exact vZ hf' hN hd (h2.1 t hdst) k1 k2 k3
    rcases h2.2 with ⟨g1,g2⟩ | ⟨g1,g2⟩
    ·rw [if_pos (Gd.wanted hf' hN g1)];refine .inl (g2 S env a w hH (fun x _=>evr hf' x) _ _ (fun v w' S' k1 k2 k3=>?_));exact VW.wp hR fuel _ _ _ _ _ _ (put S' w' v k1 k2 k3) h3
    ·rw [if_neg (by rw [Gd.wanted hf' hN g1];simp)]
     exact VW.wp hR fuel _ _ _ _ _ _ (put S w undef hH Carry.refl (by rcases g2 with rfl | rfl;· simp only [SVr]
                                                                      ·simp only [SVr];exact⟨[],rfl,by simp [kV]⟩)) h3
   ·have h4:=h2 σ.L rfl (fun _ _=>rfl) σ.fr (fun _ _=>rfl) (fun s=>VW P A md ops K fuel (listed.setIfInBounds i true) pf ((i,F)::hf) s) h3;have h5:=h4 (fun e a' w'=>match e with | .normal=>wpAny P md ops R fuel (listed.setIfInBounds i true) a' w' | e=>R e a' w') (fun σ' a' w' k1 k2=>VW.wp hR fuel _ _ _ _ _ _ k2 k1) a w hr;unfold wpList at h5;split
    ·rename_i hw;rw [if_pos hw] at h5;refine hF4 (R:=fun e a' w'=>match e with | .normal=>wpAny P md ops R fuel (listed.setIfInBounds i true) a' w' | e=>R e a' w') (fun e a w he h=>?_) (h5.imp (Oper.wp_mono (fun a w h=>h)) id);cases e<;>first | exact absurd rfl he | exact h
    ·rename_i hw;rw [if_neg hw] at h5;exact h5
theorem hUq{listed:Array Bool}{i j:Nat}{oj:Oper}(hc:Closed md ops listed)(hr:i∈Region.ready md ops listed)(hoj:ops[j]? =some oj)(hall:∀e∈oj.after,Region.binds md e=true→listed.getD e.on false=true):∀n,gQy md ops n i j≠true:=fun n h=>by
 have hiun:=(mem_ready.1 hr).1
 have:=gS6 hc _ _ _ h (fun o ho e he hb=>by rw [hoj] at ho;obtain rfl:=Option.some.inj ho;exact hall e he hb)
 rcases Nat.lt_or_ge i listed.size with h' | h'
 ·simp [h'] at hiun this;rw [hiun] at this;cases this
 ·simp [Array.getElem?_eq_none h'] at this
theorem VW.first(hK:∀σ σ',Alike σ σ'→K σ→K σ'){i:Nat}{oi:Oper}{v:SV}(hi:ops[i]? =some oi):∀(fuel:Nat)(listed:Array Bool)(pf:PF)(hf:HF)(σ:St),Closed md ops listed→
  (∀(j:Nat)(oj:Oper),ops[j]? =some oj→j≠i→listed.getD j true=false→(∀e∈oj.after,Region.binds md e=true→e.on≠i)→oi.apart ops oj=true)→
  i∈Region.ready md ops listed→
  ((∃B,PSt P A ops B σ oi v∧(∀h∈hf,gMk B h.2.up=true∨gQy md ops ops.size h.1 i=true)∧VW P A md ops K fuel (listed.setIfInBounds i true) ((i,B)::pf) hf (σ.setO oi.dst v))∨
   (∃F,LH P A ops σ oi v F∧(∀p∈pf,gMk p.2 F.up=true∨gQy md ops ops.size p.1 i=true)∧(∀h∈hf,gMx h.2 F=true∨gQy md ops ops.size h.1 i=true)∧VW P A md ops K fuel (listed.setIfInBounds i true) pf ((i,F)::hf) (St.setO ⟨σ.fr,gIa σ.L F.up,σ.N⟩ oi.dst v)))→
  VW P A md ops K (fuel+1) listed pf hf σ:=by
 intro fuel
 have keep:∀(listed:Array Bool)(pf:PF)(hf:HF)(σ:St),((∃B,PSt P A ops B σ oi v∧(∀h∈hf,gMk B h.2.up=true∨gQy md ops ops.size h.1 i=true)∧VW P A md ops K fuel (listed.setIfInBounds i true) ((i,B)::pf) hf (σ.setO oi.dst v))∨
   (∃F,LH P A ops σ oi v F∧(∀p∈pf,gMk p.2 F.up=true∨gQy md ops ops.size p.1 i=true)∧(∀h∈hf,gMx h.2 F=true∨gQy md ops ops.size h.1 i=true)∧VW P A md ops K fuel (listed.setIfInBounds i true) pf ((i,F)::hf) (St.setO ⟨σ.fr,gIa σ.L F.up,σ.N⟩ oi.dst v)))→
   ∃o,ops[i]? =some o∧((∃sv B,PSt P A ops B σ o sv∧(∀h∈hf,gMk B h.2.up=true∨gQy md ops ops.size h.1 i=true)∧VW P A md ops K fuel (listed.setIfInBounds i true) ((i,B)::pf) hf (σ.setO o.dst sv))∨
    (∃sv F,LH P A ops σ o sv F∧(∀p∈pf,gMk p.2 F.up=true∨gQy md ops ops.size p.1 i=true)∧(∀h∈hf,gMx h.2 F=true∨gQy md ops ops.size h.1 i=true)∧VW P A md ops K fuel (listed.setIfInBounds i true) pf ((i,F)::hf) (St.setO ⟨σ.fr,gIa σ.L F.up,σ.N⟩ o.dst sv))):=fun listed pf hf σ H=>by
  refine⟨oi,hi,?_⟩;rcases H with ⟨B,h⟩ | ⟨F,h⟩
  ·exact .inl ⟨v,B,h⟩
  ·exact .inr ⟨v,F,h⟩
 induction fuel with
 | zero=>
   intro listed pf hf σ hc _ hr H;refine⟨fun h=>(by rw [h] at hr;cases hr),fun j hj=>?_⟩;by_cases hji:j=i
   ·subst hji;exact keep _ _ _ _ H
   ·have:=ready_mono hj hji
    have h0:Region.ready md ops (listed.setIfInBounds i true)=[]:=by rcases H with ⟨B,_,_,h⟩ | ⟨F,_,_,_,h⟩<;>exact h.1
    rw [h0] at this;cases this
 | succ fuel ih=>
   have ih:=ih fun listed pf hf σ H=>by
    refine⟨oi,hi,?_⟩;rcases H with ⟨B,h⟩ | ⟨F,h⟩
    ·exact .inl ⟨v,B,h⟩
    ·exact .inr ⟨v,F,h⟩
   intro listed pf hf σ hc hfree hr H;refine⟨fun h=>(by rw [h] at hr;cases hr),fun j hj=>?_⟩;by_cases hji:j=i
   ·subst hji;exact keep _ _ _ _ H
   ·obtain⟨hjun,oj,hoj,hall⟩:=mem_ready.1 hj;have hiun:=(mem_ready.1 hr).1;have hdep:=hUq hc hr hoj hall;have hnot:∀e∈oj.after,Region.binds md e=true→e.on≠i:=fun e he hb heq=>by
     have h1:=hall e he hb;have h0:=hiun;rw [heq] at h1;rcases Nat.lt_or_ge i listed.size with h' | h'
     ·simp [h'] at h0 h1;rw [h0] at h1;cases h1
     ·simp [Array.getElem?_eq_none h'] at h1
    have hap:=hfree j oj hoj hji hjun hnot;obtain⟨a1,a2,a3⟩:=Oper.apart_spec hap
    have hfree':∀(k:Nat)(ok:Oper),ops[k]? =some ok→k≠i→(listed.setIfInBounds j true).getD k true=false→
      (∀e∈ok.after,Region.binds md e=true→e.on≠i)→oi.apart ops ok=true:=fun k ok hk hki hun hno=>by
     refine hfree k ok hk hki ?_ hno;by_cases hjk:j=k
     ·subst hjk;exact hjun
     ·rw [getD_set_ne true hjk] at hun;exact hun
    have sub2:∀{α:Type}{x y:α}{l:List α},∀p∈x::y::l,p∈y::x::l:=fun p hp=>by
     simp only [List.mem_cons] at hp ⊢;rcases hp with h | h | h
     ·exact .inr (.inl h)
     ·exact .inl h
     ·exact .inr (.inr h)
    rcases H with ⟨B,hy,hy2,H⟩ | ⟨F,hy,hy2,hy3,H⟩
    ·obtain⟨oj',hoj',Hj⟩:=H.2 j (ready_mono hj hji);obtain rfl:=Option.some.inj (hoj.symm.trans hoj');refine⟨oj,hoj,?_⟩;rcases Hj with ⟨u,Bj,hyj,hyk,Hj⟩ | ⟨u,G,hyj,hp,hh,Hj⟩
     ·have s1:PSt P A ops Bj σ oj u:=hyj.same (gK7 _ _ _).symm (by have:=hyj.2.1;rwa [gD4] at this) (fun t ht=>(gBn σ oi.dst v t (fun d hd e=>a1 d hd (e▸ht))).symm);have s2:PSt P A ops B (σ.setO oj.dst u) oi v:=hy.same (gK7 _ _ _) (by rw [gD4];exact hy.2.1) (fun t ht=>gBn σ oj.dst u t (fun d hd e=>a3 d hd (e▸ht)));refine .inl ⟨u,Bj,s1,hyk,ih (listed.setIfInBounds j true) _ _ _ (hc.step hj) hfree' (ready_mono hr (Ne.symm hji)) (.inl ⟨B,s2,hy2,?_⟩)⟩;rw [Array.setIfInBounds_comm _ _ hji];exact VW.sub fuel _ _ _ _ _ _ sub2 (fun p hp=>hp) (VW.alike hK fuel _ _ _ _ _ (gK8 σ oi.dst oj.dst v u a2) Hj)
     ·have hk:gMk B G.up=true:=(hp (i,B) (by simp)).resolve_right (hdep _);have s1:LH P A ops σ oj u G:=hyj.same (gK7 _ _ _).symm (by rw [gD4]) (fun k _=>by rw [gD4]) (fun t ht=>(gBn σ oi.dst v t (fun d hd e=>a1 d hd (e▸ht))).symm);have s2:PSt P A ops B (St.setO ⟨σ.fr,gIa σ.L G.up,σ.N⟩ oj.dst u) oi v:=hy.same (σ:=σ) (by rw [gK7]) (by rw [gD4];exact hQq hy.2.1 hk) (fun t ht=>gBn ⟨σ.fr,gIa σ.L G.up,σ.N⟩ oj.dst u t (fun d hd e=>a3 d hd (e▸ht)));refine .inr ⟨u,G,s1,fun p hp'=>hp p (by simp [hp']),hh,ih (listed.setIfInBounds j true) _ _ _ (hc.step hj) hfree' (ready_mono hr (Ne.symm hji)) (.inl ⟨B,s2,fun h hh'=>?_,?_⟩)⟩
      ·rcases List.mem_cons.1 hh' with rfl | hh'
       ·exact .inl hk
       ·exact hy2 h hh'
      rw [Array.setIfInBounds_comm _ _ hji];rw [gD4] at Hj;have h1:=gK8 ⟨σ.fr,gIa σ.L G.up,σ.N⟩ oi.dst oj.dst v u a2;have h0:Alike ⟨(σ.setO oi.dst v).fr,gIa σ.L G.up,(σ.setO oi.dst v).N⟩ (St.setO ⟨σ.fr,gIa σ.L G.up,σ.N⟩ oi.dst v):=by cases oi.dst<;>exact Alike.refl
      exact VW.alike hK fuel _ _ _ _ _ ((h0.setO oj.dst u).trans h1) Hj
    ·obtain⟨oj',hoj',Hj⟩:=H.2 j (ready_mono hj hji);obtain rfl:=Option.some.inj (hoj.symm.trans hoj');refine⟨oj,hoj,?_⟩;have hlk:∀t,t∈oj.looksAt ops→look σ.fr t=look (St.setO ⟨σ.fr,gIa σ.L F.up,σ.N⟩ oi.dst v).fr t:=fun t ht=>(gBn ⟨σ.fr,gIa σ.L F.up,σ.N⟩ oi.dst v t (fun d hd e=>a1 d hd (e▸ht))).symm;rcases Hj with ⟨u,Bj,hyj,hyk,Hj⟩ | ⟨u,G,hyj,hp,hh,Hj⟩
     ·have hk:gMk Bj F.up=true:=(hyk (i,F) (by simp)).resolve_right (hdep _);have s1:PSt P A ops Bj σ oj u:=hyj.same (by rw [gK7]) (hQr (by have:=hyj.2.1;rwa [gD4] at this) hk) hlk;have s2:LH P A ops (σ.setO oj.dst u) oi v F:=hy.same (gK7 _ _ _) (by rw [gD4]) (fun k _=>by rw [gD4]) (fun t ht=>gBn σ oj.dst u t (fun d hd e=>a3 d hd (e▸ht)));refine .inl ⟨u,Bj,s1,fun h hh'=>hyk h (by simp [hh']),ih (listed.setIfInBounds j true) _ _ _ (hc.step hj) hfree' (ready_mono hr (Ne.symm hji)) (.inr ⟨F,s2,fun p hp=>?_,hy3,?_⟩)⟩
      ·rcases List.mem_cons.1 hp with rfl | hp
       ·exact .inl hk
       ·exact hy2 p hp
      rw [Array.setIfInBounds_comm _ _ hji];rw [gD4];have h1:=gK8 ⟨σ.fr,gIa σ.L F.up,σ.N⟩ oi.dst oj.dst v u a2;have h0:Alike (St.setO ⟨σ.fr,gIa σ.L F.up,σ.N⟩ oj.dst u) ⟨(σ.setO oj.dst u).fr,gIa σ.L F.up,(σ.setO oj.dst u).N⟩:=by cases oj.dst<;>exact Alike.refl
      exact VW.alike hK fuel _ _ _ _ _ (h1.trans (h0.setO oi.dst v)) Hj
     ·have hap':gMx F G=true:=(hh (i,F) (by simp)).resolve_right (hdep _);have s1:LH P A ops σ oj u G:=hyj.same (by rw [gK7]) (by rw [gD4,gZ9]) (fun k hk=>by rw [gD4];exact(gYg hap' k hk).symm) hlk;have s2:LH P A ops (St.setO ⟨σ.fr,gIa σ.L G.up,σ.N⟩ oj.dst u) oi v F:=hy.same (σ:=σ) (by rw [gK7]) (by rw [gD4,gZ9]) (fun k hk=>by rw [gD4];exact gYg (gQ2 hap') k hk) (fun t ht=>gBn ⟨σ.fr,gIa σ.L G.up,σ.N⟩ oj.dst u t (fun d hd e=>a3 d hd (e▸ht)));refine .inr ⟨u,G,s1,hp,fun h hh'=>hh h (by simp [hh']),ih (listed.setIfInBounds j true) _ _ _ (hc.step hj) hfree' (ready_mono hr (Ne.symm hji)) (.inr ⟨F,s2,hy2,fun h hh'=>?_,?_⟩)⟩
      ·rcases List.mem_cons.1 hh' with rfl | hh'
       ·exact .inl (gQ2 hap')
       ·exact hy3 h hh'
      rw [Array.setIfInBounds_comm _ _ hji,gD4];rw [gD4,hCr F.up G.up σ.L (fun p hp=>((gQ1 (gQ2 hap')).1 p hp).1)] at Hj;have h1:=gK8 ⟨σ.fr,gIa (gIa σ.L G.up) F.up,σ.N⟩ oi.dst oj.dst v u a2;have h0:Alike (St.setO ⟨σ.fr,gIa (gIa σ.L G.up) F.up,σ.N⟩ oj.dst u) ⟨(St.setO ⟨σ.fr,gIa σ.L G.up,σ.N⟩ oj.dst u).fr,gIa (gIa σ.L G.up) F.up,(St.setO ⟨σ.fr,gIa σ.L G.up,σ.N⟩ oj.dst u).N⟩:=by cases oj.dst<;>exact Alike.refl
      have h2:Alike (St.setO ⟨(St.setO ⟨σ.fr,gIa σ.L F.up,σ.N⟩ oi.dst v).fr,gIa (gIa σ.L G.up) F.up,(St.setO ⟨σ.fr,gIa σ.L F.up,σ.N⟩ oi.dst v).N⟩ oj.dst u) ((St.setO ⟨σ.fr,gIa (gIa σ.L G.up) F.up,σ.N⟩ oi.dst v).setO oj.dst u):=by cases oi.dst<;>exact Alike.refl
      exact VW.sub fuel _ _ _ _ _ _ (fun p hp=>hp) sub2 (VW.alike hK fuel _ _ _ _ _ ((h2.trans h1).trans (h0.setO oi.dst v)) Hj)
end
theorem mP.slot{A:Amb}{fr:List (Nat × SV)}{L:List LO}{N:Nat}{a:Act}{w:World}(h:mP A ⟨fr,L,N⟩ a w):mP A ⟨fr,L++[.slot],N⟩ a w:=by
 obtain⟨S,env,hH,hf,hN,hd⟩:=h;obtain⟨h1,C⟩:=hH.new .slot (.agg #[]) (Nat.le_refl _) (fun _ _=>rfl) rfl rfl rfl (fun b hb=>hb.elim) (fun _=>rfl);exact⟨S,_,h1,fun t=>SVr.carry C _ _ (hf t),hN,hd⟩
inductive Sl:Nat→List LO→List LO→Prop
 | nil:Sl 0 [] []
 | slot {n:Nat} {r:List LO} (h:Sl n [] r):Sl (n+1) [] (.slot::r)
 | cons {n:Nat} {o:LO} {l r:List LO} (h:Sl n l r):Sl n (o::l) (o::r)
theorem Sl.spec{n:Nat}{L L':List LO}(h:Sl n L L'):L'=L++List.replicate n .slot:=by
 induction h with
 | nil=>rfl
 | slot h ih=>rw [ih];rfl
 | cons h ih=>rw [ih];rfl
theorem mP.slots{A:Amb}{fr:List (Nat × SV)}{N:Nat}{a:Act}{w:World}:∀(n:Nat){L:List LO},mP A ⟨fr,L,N⟩ a w→mP A ⟨fr,L++List.replicate n .slot,N⟩ a w
 | 0,L,h=>by simpa using h
 | n+1,L,h=>by
   have:=mP.slots n h.slot
   rwa [List.append_assoc,List.singleton_append,←List.replicate_succ] at this
mutual
theorem SVr.lt{S:Nat→Prop}{L:List LO}{env:List Value}{w:World}:∀(sv:SV)(v:Value),SVr S L env w sv v→sv.lt env.length=true
 | .junk,_,_=>rfl
 | .d _,_,_=>rfl
 | .ag cs,v,h=>by
   simp only [SVr] at h;obtain⟨vs,_,h⟩:=h;exact kV.lt cs vs h
 | .ptr i _,v,h=>by
   simp only [SVr] at h;obtain⟨b,h,_⟩:=h;simpa [SV.lt,Nat.blt_eq] using(List.getElem?_eq_some_iff.1 h).1
 | .sl i _,v,h=>by
   simp only [SVr] at h;obtain⟨hv,o,h,_⟩:=h;simpa [SV.lt,Nat.blt_eq] using(List.getElem?_eq_some_iff.1 h).1
 | .dp _,_,_=>rfl
 | .ep i _ _ _ _,v,h=>by
   simp only [SVr] at h;obtain⟨hv,o,h,_⟩:=h;simpa [SV.lt,Nat.blt_eq] using(List.getElem?_eq_some_iff.1 h).1
 | .fn _ cs,v,h=>by
   simp only [SVr] at h;obtain⟨vs,_,h⟩:=h;exact kV.lt cs vs h
 | .tup cs,v,h=>by
   simp only [SVr] at h;obtain⟨vs,_,h⟩:=h;exact kV.lt cs vs h
 | .nilsl,_,_=>rfl
theorem kV.lt{S:Nat→Prop}{L:List LO}{env:List Value}{w:World}:∀(svs:List SV)(vs:List Value),kV S L env w svs vs→SV.lts env.length svs=true
 | [],_,_=>rfl
 | sv::svs,v::vs,h=>by
   simp only [kV] at h;simp only [SV.lts,Bool.and_eq_true];exact⟨SVr.lt sv v h.1,kV.lt svs vs h.2⟩
 | _::_,[],h=>by simp [kV] at h
end
theorem LO.lts_of{n:Nat}:∀(L:List LO),(∀(i:Nat)(o:LO),L[i]? =some o→o.lt n=true)→LO.lts n L=true
 | [],_=>rfl
 | o::L,h=>by
   simp only [LO.lts,Bool.and_eq_true];exact⟨h 0 o rfl,LO.lts_of L fun i o' hi=>h (i+1) o' (by simpa using hi)⟩
theorem pU.lts{A:Amb}{S:Nat→Prop}{L:List LO}{env:List Value}{w:World}(hH:pU A S L env w):LO.lts L.length L=true:=by
 refine LO.lts_of L fun i o hi=>?_;have hlt:i < env.length:=by rw [hH.len];exact(List.getElem?_eq_some_iff.1 hi).1
 have hob:=hH.objs i o _ hi (List.getElem?_eq_getElem hlt);cases o with
 | box cs=>
   obtain⟨b,vals,e,_,_,h3,_⟩:=hob;rw [←hH.len];exact kV.lt _ _ h3
 | _=>rfl
def LO.inS:LO→LO
 | .arr e z v es=>.arr e z (v+1) es
 | .own e z v es=>.own e z (v+1) es
 | .frz e z v es=>.frz e z (v+1) es
 | o=>o
inductive TSV (n j:Nat):SV→SV→Prop
 | ptr {o:Nat}:TSV n j (.ptr n o) (.ptr j o)
 | sl {v:Nat}:TSV n j (.sl n v) (.sl j (v+1))
 | tup0:TSV n j (.tup []) (.tup [])
 | tupN {c c':SV} {cs cs':List SV} (h:TSV n j c c') (h2:TSV n j (.tup cs) (.tup cs')):TSV n j (.tup (c::cs)) (.tup (c'::cs'))
 | ag0:TSV n j (.ag []) (.ag [])
 | agN {c c':SV} {cs cs':List SV} (h:TSV n j c c') (h2:TSV n j (.ag cs) (.ag cs')):TSV n j (.ag (c::cs)) (.ag (c'::cs'))
 | old {sv:SV} (h:sv.lt n=true):TSV n j sv sv
theorem TSV.r {S:Nat→Prop}{L L':List LO}{ob:LO}{e2 env':List Value}{hv:Value}{w:World}{j:Nat}(hl:e2.length=L.length)
  (hC:∀(sv:SV)(v:Value),sv.lt L.length=true→SVr S (L++[ob]) (e2++[hv]) w sv v→SVr S L' env' w sv v) (hj:env'[j]? =some hv) (hLj:L'[j]? =some ob.inS) (hob:ob.inS.ver=ob.ver+1∨∃cs,ob=.box cs∧∃p,hv=.pointer p) {sv sv1:SV}
  (h:TSV L.length j sv sv1) (hb:∀cs,ob=.box cs→∀k,sv≠.sl L.length k∧(∀vs,sv≠.tup vs)∧∀vs,sv≠.ag vs):∀v,SVr S (L++[ob]) (e2++[hv]) w sv v→SVr S L' env' w sv1 v:=by
 have hn:(e2++[hv])[L.length]? =some hv:=by rw [List.getElem?_append_right (by omega)];simp [hl]
 have hLn:(L++[ob])[L.length]? =some ob:=by simp
 induction h with
 | ptr=>
   intro v hs;simp only [SVr] at hs ⊢;obtain⟨b,k1,k2⟩:=hs;rw [hn] at k1;exact⟨b,by rw [hj];exact k1,k2⟩
 | sl=>
   intro v hs;rcases hob with hob | ⟨cs,hob,_⟩
   ·simp only [SVr] at hs ⊢;obtain⟨hv',o,k1,k2,k3,k4,k5⟩:=hs;rw [hn] at k1;rw [hLn] at k2;obtain rfl:=Option.some.inj k1;obtain rfl:=Option.some.inj k2;exact⟨_,_,hj,hLj,by omega,k4,fun he=>k5 (by omega)⟩
   ·exact absurd rfl (hb cs hob _).1
 | tup0=>
   intro v hs;simp only [SVr] at hs ⊢;obtain⟨vs,k1,k2⟩:=hs;refine⟨vs,k1,?_⟩;cases vs with
   | nil=>simp only [kV]
   | cons _ _=>simp [kV] at k2
 | @tupN c c' cs cs' h h2 ih1 ih2=>
   intro v hs;have hnb:∀cs0,ob=.box cs0→False:=fun cs0 h0=>(hb cs0 h0 0).2.1 _ rfl;have ih1:=ih1 fun cs0 h0=>(hnb cs0 h0).elim;have ih2:=ih2 fun cs0 h0=>(hnb cs0 h0).elim;simp only [SVr] at hs ih2 ⊢;obtain⟨vs,rfl,hs⟩:=hs;cases vs with
   | nil=>simp [kV] at hs
   | cons x vs=>
     simp only [kV] at hs;obtain⟨us,k1,k2⟩:=ih2 _ ⟨vs,rfl,hs.2⟩;have k1:vs=us:=by
      have:=congrArg Array.toList (Value.tuple.inj k1)
      simpa using this
     subst k1;exact⟨x::vs,rfl,by simp only [kV];exact⟨ih1 x hs.1,k2⟩⟩
 | ag0=>
   intro v hs;simp only [SVr] at hs ⊢;obtain⟨vs,k1,k2⟩:=hs;refine⟨vs,k1,?_⟩;cases vs with
   | nil=>simp only [kV]
   | cons _ _=>simp [kV] at k2
 | @agN c c' cs cs' h h2 ih1 ih2=>
   intro v hs;have hnb:∀cs0,ob=.box cs0→False:=fun cs0 h0=>(hb cs0 h0 0).2.2 _ rfl;have ih1:=ih1 fun cs0 h0=>(hnb cs0 h0).elim;have ih2:=ih2 fun cs0 h0=>(hnb cs0 h0).elim;simp only [SVr] at hs ih2 ⊢;obtain⟨vs,rfl,hs⟩:=hs;cases vs with
   | nil=>simp [kV] at hs
   | cons x vs=>
     simp only [kV] at hs;obtain⟨us,k1,k2⟩:=ih2 _ ⟨vs,rfl,hs.2⟩;have k1:vs=us:=by
      have:=congrArg Array.toList (Value.agg.inj k1)
      simpa using this
     subst k1;exact⟨x::vs,rfl,by simp only [kV];exact⟨ih1 x hs.1,k2⟩⟩
 | old h=>
   intro v hs;exact hC _ _ h hs
theorem mP.toSlot {A:Amb}{fr:List (Nat × SV)}{L:List LO}{ob:LO}{N t j n0:Nat}{sv sv1:SV}{a:Act}{w:World}[hbn:gBp A n0](hj:L[j]? =some .slot)(hn0:n0≤j)(h0:∀u,(look fr u).lt L.length=true)(hL:LO.lts L.length L=true)
  (hob:ob.lt L.length=true) (hov:ob.inS.ver=ob.ver+1∨∃cs,ob=.box cs) (h1:TSV L.length j sv sv1) (hb:∀cs,ob=.box cs→∀k,sv≠.sl L.length k∧(∀vs,sv≠.tup vs)∧∀vs,sv≠.ag vs)
  (h:mP A ⟨(t,sv)::fr,L++[ob],N⟩ a w):mP A ⟨(t,sv1)::fr,L.set j ob.inS,N⟩ a w:=by
 obtain⟨S,env,hH,hf,hN,hd⟩:=h;have hlen:env.length=L.length+1:=by rw [hH.len];simp
 have hjl:j < L.length:=(List.getElem?_eq_some_iff.1 hj).1;have hA:A.L0.length≤L.length:=by rw [hbn.h];omega
 have hc:=hH.cut hL hA;obtain⟨hv,hhv⟩:∃hv,env=env.take L.length++[hv]:=by
  refine⟨env[L.length],?_⟩;have h1:=(List.take_append_drop L.length env).symm;have h2:env.drop L.length=[env[L.length]]:=by
   rw [List.drop_eq_getElem_cons (by omega),List.drop_of_length_le (by omega)]
  rw [h2] at h1;exact h1
 generalize he2:env.take L.length=e2 at *;have hl2:e2.length=L.length:=by rw [←he2];simp;omega
 subst hhv;have hob0:=hH.objs L.length ob hv (by simp) (by rw [List.getElem?_append_right (by omega)];simp [hl2]);have hver:1≤ob.inS.ver:=by
  rcases hov with h | ⟨cs,rfl⟩
  ·omega
  ·exact Nat.le_refl _
 have hagg:e2[j]? =some (.agg #[]):=by
  have:=hc.objs j .slot (e2[j]'(by omega)) hj (List.getElem?_eq_getElem (by omega))
  rw [List.getElem?_eq_getElem (by omega),this]
 have C:Carry S L e2 w S (L.set j ob.inS) (e2.set j hv) w:=by
  refine⟨fun _ h _=>h,fun _ _ _=>rfl,fun i b hi=>?_,fun i v o k1 k2=>?_⟩
  ·by_cases hij:j=i
   ·subst hij;rw [hagg] at hi;cases hi
   ·rw [List.getElem?_set_ne hij];exact hi
  ·by_cases hij:j=i
   ·subst hij;rw [hj] at k2;obtain rfl:=Option.some.inj k2;refine⟨hv,ob.inS,by rw [List.getElem?_set_self (by omega)],by rw [List.getElem?_set_self hjl],?_,fun h=>?_⟩
    ·show 0≤_;omega
    ·have h:0=ob.inS.ver:=h;omega
   ·exact⟨v,o,by rw [List.getElem?_set_ne hij];exact k1,by rw [List.getElem?_set_ne hij];exact k2,Nat.le_refl _,fun _=>rfl⟩
 have cut:∀(sv:SV)(v:Value),sv.lt L.length=true→SVr S (L++[ob]) (e2++[hv]) w sv v→SVr S (L.set j ob.inS) (e2.set j hv) w sv v:=fun sv v hlt hs=>by
  have:=SVr.cut hH.len sv v hlt hs
  rw [List.take_append_of_le_length (by omega),List.take_of_length_le (by omega)] at this;exact SVr.carry C _ _ this
 have hft:∀b,ob.inS.ft w hv b↔ob.ft w hv b:=fun b=>by cases ob<;>exact Iff.rfl
 have hlive:ob.inS.live=ob.live:=by cases ob<;>rfl
 have hobN:gLm S (L.set j ob.inS) (e2.set j hv) w ob.inS hv:=by
  cases ob with
  | box cs=>
    obtain⟨b,vals,e,k1,k2,k3,k4⟩:=hob0;refine⟨b,vals,e,k1,k2,?_,k4⟩;have k3:=kV.cut hH.len _ _ (by simpa only [LO.lt] using hob) k3;rw [List.take_append_of_le_length (by omega),List.take_of_length_le (by omega)] at k3;exact kV.carry C _ _ k3
  | _=>exact hob0
 have key:∀(i:Nat)(o:LO)(v:Value),(L.set j ob.inS)[i]? =some o→(e2.set j hv)[i]? =some v→(i=j∧o=ob.inS∧v=hv)∨(i≠j∧L[i]? =some o∧e2[i]? =some v):=fun i o v k1 k2=>by
  by_cases hij:j=i
  ·subst hij;rw [List.getElem?_set_self hjl] at k1;rw [List.getElem?_set_self (by omega)] at k2;exact .inl ⟨rfl,(Option.some.inj k1).symm,(Option.some.inj k2).symm⟩
  ·rw [List.getElem?_set_ne hij] at k1 k2;exact .inr ⟨fun e=>hij e.symm,k1,k2⟩
 have inL:∀(i:Nat)(o:LO),L[i]? =some o→(L++[ob])[i]? =some o:=fun i o k=>by rw [List.getElem?_append_left (List.getElem?_eq_some_iff.1 k).1];exact k
 have inE:∀(i:Nat)(v:Value),e2[i]? =some v→(e2++[hv])[i]? =some v:=fun i o k=>by rw [List.getElem?_append_left (List.getElem?_eq_some_iff.1 k).1];exact k
 have nE:(e2++[hv])[L.length]? =some hv:=by rw [List.getElem?_append_right (by omega)];simp [hl2]
 have nL:(L++[ob])[L.length]? =some ob:=by simp
 refine⟨S,e2.set j hv,⟨by simp [hl2],?_,?_,?_,hH.sS,hH.sA,hH.frame,hH.size,hH.os,hH.tape,hH.output,?_,hH.glob⟩,fun u=>?_,hN,hd⟩
 ·intro i o v k1 k2;rcases key i o v k1 k2 with ⟨rfl,rfl,rfl⟩ | ⟨_,k3,k4⟩
  ·exact hobN
  ·exact gLm.carry C (fun _ _ _=>rfl) (hc.objs i o v k3 k4)
 ·intro i o v b k1 hl k2 hb';rcases key i o v k1 k2 with ⟨rfl,rfl,rfl⟩ | ⟨_,k3,k4⟩
  ·exact hH.excl L.length ob _ b nL (by rw [←hlive];exact hl) nE ((hft b).1 hb')
  ·exact hH.excl i o v b (inL i o k3) hl (inE i v k4) hb'
 ·intro i i' o o' v v' b k1 k1' hl hl' k2 k2' hb1 hb2;rcases key i o v k1 k2 with ⟨rfl,rfl,rfl⟩ | ⟨hne,k3,k4⟩
  ·rcases key i' o' v' k1' k2' with ⟨rfl,rfl,rfl⟩ | ⟨hne',k3',k4'⟩
   ·rfl
   ·have:=hH.dist L.length i' ob o' _ v' b nL (inL i' o' k3') (by rw [←hlive];exact hl) hl' nE (inE i' v' k4') ((hft b).1 hb1) hb2
    have:=(List.getElem?_eq_some_iff.1 k3').1
    omega
  ·rcases key i' o' v' k1' k2' with ⟨rfl,rfl,rfl⟩ | ⟨hne',k3',k4'⟩
   ·have:=hH.dist i L.length o ob v _ b (inL i o k3) nL hl (by rw [←hlive];exact hl') (inE i v k4) nE hb1 ((hft b).1 hb2)
    have:=(List.getElem?_eq_some_iff.1 k3).1
    omega
   ·exact hH.dist i i' o o' v v' b (inL i o k3) (inL i' o' k3') hl hl' (inE i v k4) (inE i' v' k4') hb1 hb2
 ·exact hc.base.carry C hl2 (by simp)
 ·show SVr S (L.set j ob.inS) (e2.set j hv) w (look ((t,sv1)::fr) u) (a.tmps.getD u undef);have hu:=hf u;have hu:SVr S (L++[ob]) (e2++[hv]) w (look ((t,sv)::fr) u) (a.tmps.getD u undef):=hu;simp only [look] at hu ⊢;by_cases htu:u=t
  ·rw [if_pos htu] at hu ⊢;refine TSV.r hl2 cut (by rw [List.getElem?_set_self (by omega)]) (by rw [List.getElem?_set_self hjl]) ?_ h1 hb _ hu;rcases hov with h | ⟨cs,rfl⟩
   ·exact .inl h
   ·obtain⟨b,_,_,hp,_⟩:=hob0;exact .inr ⟨cs,rfl,_,hp⟩
  ·rw [if_neg htu] at hu ⊢;exact cut _ _ (h0 u) hu
theorem mP.drop {A:Amb}{fr:List (Nat × SV)}{L:List LO}{ob:LO}{N t n0:Nat}{sv:SV}{a:Act}{w:World}[hbn:gBp A n0](hn0:n0≤L.length)(h0:∀u,(look fr u).lt L.length=true)(hL:LO.lts L.length L=true)(h1:sv.lt L.length=true)
  (h:mP A ⟨(t,sv)::fr,L++[ob],N⟩ a w):mP A ⟨(t,sv)::fr,L,N⟩ a w:=by
 obtain⟨S,env,hH,hf,hN,hd⟩:=h;refine⟨S,_,hH.cut hL (by rw [hbn.h];exact hn0),fun u=>SVr.cut hH.len _ _ ?_ (hf u),hN,hd⟩;show(look ((t,sv)::fr) u).lt L.length=true;simp only [look];by_cases htu:u=t
 ·rw [if_pos htu];exact h1
 ·rw [if_neg htu];exact h0 u
theorem mP.below{A:Amb}{fr:List (Nat × SV)}{L:List LO}{N:Nat}{a:Act}{w:World}(h:mP A ⟨fr,L,N⟩ a w):(∀u,(look fr u).lt L.length=true)∧LO.lts L.length L=true:=by
 obtain⟨S,env,hH,hf,_,_⟩:=h;exact⟨fun u=>by rw [←show env.length=L.length from hH.len];exact SVr.lt _ _ (hf u),hH.lts⟩
def hUr(ops:Array Oper):HF→Nat→List LO→Bool
 | [],_,_=>true
 | h::r,i,B=>(gMk B h.2.up || gQy .any ops ops.size h.1 i) && hUr ops r i B
def hIw(ops:Array Oper):PF→Nat→UP→Bool
 | [],_,_=>true
 | p::r,i,up=>(gMk p.2 up || gQy .any ops ops.size p.1 i) && hIw ops r i up
def hIy(ops:Array Oper):HF→Nat→FT→Bool
 | [],_,_=>true
 | h::r,i,F=>(gMx h.2 F || gQy .any ops ops.size h.1 i) && hIy ops r i F
theorem hNi{ops:Array Oper}{i:Nat}{B:List LO}:∀{hf:HF},hUr ops hf i B=true→∀h∈hf,gMk B h.2.up=true∨gQy .any ops ops.size h.1 i=true
 | h0::r,hc,h,hm=>by
   simp only [hUr,Bool.and_eq_true,Bool.or_eq_true] at hc;rcases List.mem_cons.1 hm with rfl | hm
   ·exact hc.1
   ·exact hNi hc.2 h hm
theorem hNj{ops:Array Oper}{i:Nat}{up:UP}:∀{pf:PF},hIw ops pf i up=true→∀p∈pf,gMk p.2 up=true∨gQy .any ops ops.size p.1 i=true
 | h0::r,hc,h,hm=>by
   simp only [hIw,Bool.and_eq_true,Bool.or_eq_true] at hc;rcases List.mem_cons.1 hm with rfl | hm
   ·exact hc.1
   ·exact hNj hc.2 h hm
theorem hNk{ops:Array Oper}{i:Nat}{F:FT}:∀{hf:HF},hIy ops hf i F=true→∀h∈hf,gMx h.2 F=true∨gQy .any ops ops.size h.1 i=true
 | h0::r,hc,h,hm=>by
   simp only [hIy,Bool.and_eq_true,Bool.or_eq_true] at hc;rcases List.mem_cons.1 hm with rfl | hm
   ·exact hc.1
   ·exact hNk hc.2 h hm
theorem hCt:∀up:UP,gMk [] up=true
 | []=>rfl
 | _::r=>by simp [gMk,hCt r]
theorem hAb{ops:Array Oper}{i:Nat}:∀{hf:HF},hUr ops hf i []=true
 | []=>rfl
 | h::r=>by simp [hUr,hCt,hAb (hf:=r)]
def VZ(P:Program)(A:Amb)(ops:Array Oper)(K:St→Prop):Nat→List Oper→PF→HF→St→Prop
 | _,[],_,_,σ=>K σ
 | i,o::r,pf,hf,σ=>(∃sv B,PSt P A ops B σ o sv∧hUr ops hf i B=true∧VZ P A ops K (i+1) r ((i,B)::pf) hf (σ.setO o.dst sv))∨
   (∃sv F,LH P A ops σ o sv F∧(hIw ops pf i F.up && hIy ops hf i F)=true∧VZ P A ops K (i+1) r pf ((i,F)::hf) (St.setO ⟨σ.fr,gIa σ.L F.up,σ.N⟩ o.dst sv))
def gW5(ops:Array Oper):Nat→Nat→Array Bool→Bool
 | 0,_,listed=>(Region.ready .any ops listed).isEmpty
 | n+1,i,listed=>(Region.ready .any ops listed).contains i && Region.free .any ops listed i && gW5 ops n (i+1) (listed.setIfInBounds i true)
section
variable {P:Program}{A:Amb}{ops:Array Oper}{K:St→Prop}
theorem VZ.vw(hK:∀σ σ',Alike σ σ'→K σ→K σ'):∀(r:List Oper)(i:Nat)(listed:Array Bool)(pf:PF)(hf:HF)(σ:St),(∀(k:Nat)(o:Oper),r[k]? =some o→ops[i+k]? =some o)→Closed .any ops listed→gW5 ops r.length i listed=true→VZ P A ops K i r pf hf σ→VW P A .any ops K r.length listed pf hf σ
 | [],i,_,_,_,_,_,_,hB,h=>⟨by simpa [gW5] using hB,h⟩
 | o::r,i,listed,pf,hf,σ,ho,hc,hB,h=>by
   simp only [gW5,List.length_cons,Bool.and_eq_true] at hB;obtain⟨⟨hr,hfr⟩,hB⟩:=hB;have hr:i∈Region.ready .any ops listed:=by simpa using hr
   have h1:ops[i]? =some o:=ho 0 o rfl;have hn:∀(k:Nat)(o:Oper),r[k]? =some o→ops[i+1+k]? =some o:=fun k o hk=>by rw [Nat.add_right_comm];exact ho (k+1) o (by simpa using hk)
   rcases h with ⟨sv,B,k1,k2,k3⟩ | ⟨sv,F,k1,k2,k3⟩
   ·exact VW.first hK h1 r.length listed pf hf σ hc (Region.free_spec h1 hfr) hr (.inl ⟨B,k1,hNi k2,VZ.vw hK r (i+1) _ _ _ _ hn (hc.step hr) hB k3⟩)
   ·rw [Bool.and_eq_true] at k2;exact VW.first hK h1 r.length listed pf hf σ hc (Region.free_spec h1 hfr) hr (.inr ⟨F,k1,hNj k2.1,hNk k2.2,VZ.vw hK r (i+1) _ _ _ _ hn (hc.step hr) hB k3⟩)
theorem VZ.mono{K':St→Prop}(hK:∀s,K s→K' s):∀(l:List Oper)(i:Nat)(pf:PF)(hf:HF)(σ:St),VZ P A ops K i l pf hf σ→VZ P A ops K' i l pf hf σ
 | [],_,_,_,_,h=>hK _ h
 | _::l,_,_,_,_,.inl ⟨sv,B,h1,h2,h3⟩=>.inl ⟨sv,B,h1,h2,VZ.mono hK l _ _ _ _ h3⟩
 | _::l,_,_,_,_,.inr ⟨sv,F,h1,h2,h3⟩=>.inr ⟨sv,F,h1,h2,VZ.mono hK l _ _ _ _ h3⟩
theorem hNl{id n:Nat}{l:List Oper}{Q:Exit→St→Prop}{fr:List (Nat × SV)}{L L':List LO}{N:Nat}(h:VZ P A l.toArray (Q .normal) 0 l [] [] ⟨fr,L',N⟩)(hs:Sl n L L')(hm:P.follows .mixedOrders=true)(hB:gW5 l.toArray l.length 0 (Array.replicate l.length false)=true):V P A (.region id l.toArray true) ⟨fr,L,N⟩ Q:=by
 intro a w hr;have hr:=mP.slots n hr;rw [←hs.spec] at hr;refine wp_region_any hm ?_;have h1:=VZ.mono (K':=fun s=>∃s',Alike s s'∧Q .normal s') (fun s hs=>⟨s,.refl,hs⟩) l 0 [] [] _ h;have hc:Closed .any l.toArray (Array.replicate l.length false):=fun k o _ hl=>by rw [Array.getD_eq_getD_getElem?,Array.getElem?_replicate] at hl;split at hl<;>simp at hl
 have h2:=VZ.vw (fun σ σ' ha ⟨s',k1,k2⟩=>⟨s',ha.symm.trans k1,k2⟩) l 0 _ _ _ _ (fun k o hk=>by simpa using hk) hc hB h1;have h3:=VW.wp (R:=fun e a' w'=>∃σ',Q e σ'∧mP A σ' a' w') (fun s a' w' ⟨s',k1,k2⟩ hr'=>⟨s',k2,k1.realz hr'⟩) l.length _ _ _ _ a _ hr.drew h2;simpa using h3
theorem dZ(n:Nat){id:Nat}{l:List Oper}{Q:Exit→St→Prop}{fr:List (Nat × SV)}{L L':List LO}{N:Nat}(h:VZ P A l.toArray (Q .normal) 0 l [] [] ⟨fr,L',N⟩)(hs:Sl n L L':=by repeat constructor)(hm:P.follows .mixedOrders=true:=by exact Mix.h)(hB:gW5 l.toArray l.length 0 (Array.replicate l.length false)=true:=by kernel_rfl):V P A (.region id l.toArray true) ⟨fr,L,N⟩ Q:=hNl h hs hm hB
theorem sZ(n:Nat){id:Nat}{l:List Oper}{y:Code}{Q:Exit→St→Prop}{fr:List (Nat × SV)}{L L':List LO}{N:Nat}(h:VZ P A l.toArray (fun s=>V P A y s Q) 0 l [] [] ⟨fr,L',N⟩)(hs:Sl n L L':=by repeat constructor)(hm:P.follows .mixedOrders=true:=by exact Mix.h)(hB:gW5 l.toArray l.length 0 (Array.replicate l.length false)=true:=by kernel_rfl):V P A (.seq (.region id l.toArray true) y) ⟨fr,L,N⟩ Q:=kC (hNl h hs hm hB)
end
def rdB(σ:St):Op→List LO
 | .load _ x=>match σ.ev x with
   | .ptr m _=>List.replicate m .slot++(σ.L.drop m).take 1
   | _=>[]
 | _=>[]
theorem hNm{m:Nat}{L:List LO}(hm:m < L.length):(List.replicate m LO.slot++(L.drop m).take 1)[m]? =L[m]? :=by
 rw [List.getElem?_append_right (by simp),List.length_replicate,Nat.sub_self,List.getElem?_take_of_lt (by omega),List.getElem?_drop];rfl
theorem hQs{m:Nat}{L:List LO}:gP8 (List.replicate m LO.slot++(L.drop m).take 1) L:=fun k cs hk=>by
 by_cases h:k < m
 ·rw [List.getElem?_append_left (by simpa using h),List.getElem?_replicate,if_pos h] at hk;cases hk
 ·rw [List.getElem?_append_right (by simp;omega),List.length_replicate,List.getElem?_take] at hk;split at hk
  ·rw [List.getElem?_drop] at hk
   have:m+(k - m)=k:=by omega
   rwa [this] at hk
  ·cases hk
theorem hGo(σ:St)(op:Op):gP8 (rdB σ op) σ.L:=by
 cases op with
 | load T x=>
   show gP8 (match σ.ev x with | .ptr m _=>_ | _=>[]) σ.L;cases σ.ev x<;>first | exact hQs | exact fun k cs hk=>by simp at hk
 | _=>exact fun k cs hk=>by simp [rdB] at hk
theorem QE.frameB{P:Program}{σ σ':St}{o:Oper}{sv:SV}(h:QE P σ o sv)(he:∀x∈o.op.operands.toList,σ'.ev x=σ.ev x)(hk:gP8 (rdB σ o.op) σ'.L):QE P σ' o sv:=by
 cases h with
 | @load dst ty pos af g x sv T h=>
   refine .load ?_;rw [he _ (by simp [Op.operands])];have hk:gP8 (match σ.ev x with | .ptr m _=>List.replicate m LO.slot++(σ.L.drop m).take 1 | _=>[]) σ'.L:=hk;generalize σ.ev x=e at h hk;cases h with
   | one h h2 h3=>exact .one (hk _ _ (by rw [hNm (List.getElem?_eq_some_iff.1 h).1];exact h)) h2 h3
   | many h h2=>exact .many (hk _ _ (by rw [hNm (List.getElem?_eq_some_iff.1 h).1];exact h)) h2
   | dp h h2=>exact .dp h h2
 | move h=>exact .move (by rw [he _ (by simp [Op.operands])];exact h)
 | assign h=>exact .assign (by rw [he _ (by simp [Op.operands])];exact h)
 | field h=>exact .field (by rw [he _ (by simp [Op.operands])];exact h)
 | bin h=>exact .bin (by rw [he _ (by simp [Op.operands]),he _ (by simp [Op.operands])];exact h)
 | len h=>exact .len (by rw [he _ (by simp [Op.operands,Call.operands])];exact h)
 | not h=>exact .not (by rw [he _ (by simp [Op.operands])];exact h)
 | pick h=>exact .pick (by rw [he _ (by simp [Op.operands]),he _ (by simp [Op.operands]),he _ (by simp [Op.operands])];exact h)
 | extract h h2 h3=>exact .extract (by rw [he _ (by simp [Op.operands])];exact h) h2 h3
 | build hcs h=>exact .build hcs (h.same fun p hp=>he p.2 (by simp only [Op.operands];exact List.mem_map.2 ⟨p,hp,rfl⟩))
section
variable {P:Program}{A:Amb}{ops:Array Oper}{K:St→Prop}{o:Oper}{fr:List (Nat × SV)}{L L':List LO}{N i t:Nat}{sv:SV}{rest:List Oper}{pf:PF}{hf:HF}
theorem QF.pstB{σ:St}(h:QF P ops o σ t sv):PSt P A ops (rdB σ o.op) σ o sv:=by
 cases h with
 | @plain t op ty pos af sv σ h ht=>
   exact⟨fun d hd=>(by cases hd;exact ht),hGo _ _,.inl ⟨rfl,fun fr' L' he hk=>(h.frameB (σ':=⟨fr',L',σ.N⟩) he hk).quiet⟩⟩
 | @guard t op ty pos af j tj want b o' sv σ hj hd htj ht hb h=>
   refine⟨fun d hd=>(by cases hd;exact ht),hGo _ _,?_⟩;have htj':tj < σ.N:=by simpa [Nat.blt_eq] using htj
   generalize hl:look σ.fr tj=e at hb;cases h with
   | run h=>
     refine .inl ⟨?_,fun fr' L' he hk=>(h.frameB (σ':=⟨fr',L',σ.N⟩) he hk).quiet⟩;cases hb with
     | tt=>exact⟨o',tj,hj,hd,htj',.inl ⟨true,hl,rfl⟩⟩
     | ff=>exact⟨o',tj,hj,hd,htj',.inl ⟨_,hl,rfl⟩⟩
   | pass=>
     refine .inr ⟨?_,.inl rfl⟩;cases hb with
     | tf=>exact⟨o',tj,hj,hd,htj',.inl ⟨_,hl,rfl⟩⟩
     | ft=>exact⟨o',tj,hj,hd,htj',.inl ⟨_,hl,rfl⟩⟩
theorem jKi(h:VZ P A ops K (i+1) rest ((i,rdB ⟨fr,L,N⟩ o.op)::pf) hf ⟨(t,sv)::fr,L,N⟩)(hq:QF P ops o ⟨fr,L,N⟩ t sv)(hc:hUr ops hf i (rdB ⟨fr,L,N⟩ o.op)=true:=by kernel_rfl):VZ P A ops K i (o::rest) pf hf ⟨fr,L,N⟩:=by
 refine .inl ⟨sv,_,hq.pstB,hc,?_⟩;rw [hq.dst];exact h
section
variable {op:Op}{ty:TypeId}{pos:String}{af:Array Edge}
theorem kR(hq:∀L2,QR P ⟨fr,L2,N⟩ ⟨some t,op,ty,pos,af,none⟩ sv)(h:VZ P A ops K (i+1) rest ((i,[])::pf) hf ⟨(t,sv)::fr,L,N⟩)(ht:Nat.blt t N=true:=by rfl):VZ P A ops K i (⟨some t,op,ty,pos,af,none⟩::rest) pf hf ⟨fr,L,N⟩:=
 .inl ⟨sv,[],⟨fun d hd=>by cases hd;exact ht,fun k cs hk=>by simp at hk,.inl ⟨rfl,fun fr' L' he _=>hq L' A fr' L' he (gP8.refl _)⟩⟩,hAb,h⟩
theorem hXe {j tj:Nat}{want:Bool}{o':Oper}(hq:∀L2,QR P ⟨fr,L2,N⟩ ⟨some t,op,ty,pos,af,some (j,want)⟩ sv)(h:VZ P A ops K (i+1) rest ((i,[])::pf) hf ⟨(t,sv)::fr,L,N⟩)
  (hj:ops[j]? =some o':=by rfl) (hdst:o'.dst=some tj:=by rfl) (htj:Nat.blt tj N=true:=by rfl) (hb:look fr tj=.d (.b want):=by rfl) (ht:Nat.blt t N=true:=by rfl):VZ P A ops K i (⟨some t,op,ty,pos,af,some (j,want)⟩::rest) pf hf ⟨fr,L,N⟩:=
 .inl ⟨sv,[],⟨fun d hd=>by cases hd;exact ht,fun k cs hk=>by simp at hk,.inl ⟨⟨o',tj,hj,hdst,by simpa [Nat.blt_eq] using htj,.inl ⟨want,hb,by simp⟩⟩,fun fr' L' he _=>hq L' A fr' L' he (gP8.refl _)⟩⟩,hAb,h⟩
end
theorem jY(h:K ⟨fr,L,N⟩):VZ P A ops K i [] pf hf ⟨fr,L,N⟩:=h
inductive UpR:List LO→UP→List LO→Prop
 | nil {L:List LO}:UpR L [] L
 | cons {k:Nat} {o:LO} {L L1 L':List LO} {r:UP} (h:St1 o k L L1) (h2:UpR L1 r L'):UpR L ((k,o)::r) L'
theorem UpR.spec{L L':List LO}{up:UP}(h:UpR L up L'):gIa L up=L':=by
 induction h with
 | nil=>rfl
 | cons h h2 ih=>rw [gIa,h.spec];exact ih
theorem hUs {F:FT}{dst:Option Nat}{op:Op}{ty:TypeId}{pos:String}{af:Array Edge}(hh:LH P A ops ⟨fr,L,N⟩ ⟨dst,op,ty,pos,af,none⟩ sv F)(h:VZ P A ops K (i+1) rest pf ((i,F)::hf) (St.setO ⟨fr,L',N⟩ dst sv))(hL:UpR L F.up L':=by repeat constructor)
  (hc:(hIw ops pf i F.up && hIy ops hf i F)=true:=by kernel_rfl):VZ P A ops K i (⟨dst,op,ty,pos,af,none⟩::rest) pf hf ⟨fr,L,N⟩:=by
 refine .inr ⟨sv,F,hh,hc,?_⟩;show VZ P A ops K (i+1) rest pf ((i,F)::hf) (St.setO ⟨fr,gIa L F.up,N⟩ dst sv);rw [hL.spec];exact h
inductive Fs:List LO→Nat→Prop
 | z {l:List LO}:Fs (.slot::l) 0
 | s {o:LO} {l:List LO} {j:Nat} (h:Fs l j):Fs (o::l) (j+1)
theorem Fs.spec{l:List LO}{j:Nat}(h:Fs l j):l[j]? =some .slot:=by
 induction h with
 | z=>rfl
 | s h ih=>simpa using ih
section
variable {op:Op}{ty:TypeId}{pos:String}{af:Array Edge}
theorem LH.new {ob:LO}{svf:Nat→SV}{sv1:SV}{rd:List Nat}{j n0:Nat} [gBp A n0] (hj:Fs L j) (hn0:Nat.ble n0 j=true) (hob:ob.lt L.length=true) (hov:ob.inS.ver=ob.ver+1∨∃cs,ob=.box cs) (h1:TSV L.length j (svf L.length) sv1) (hb:∀cs,ob=.box cs→∀k,svf L.length≠.sl L.length k∧(∀vs,svf L.length≠.tup vs)∧∀vs,svf L.length≠.ag vs)
  (hs:∀L2:List LO,L2.length=L.length→(∀k∈rd,L2[k]? =L[k]?)→HSt P A ops ⟨fr,L2,N⟩ ⟨some t,op,ty,pos,af,none⟩ (svf L2.length) (L2++[ob])):LH P A ops ⟨fr,L,N⟩ ⟨some t,op,ty,pos,af,none⟩ sv1 ⟨j::rd,[(j,ob.inS)]⟩:=by
 intro L2 hl ha fr' he K hK;have hl:L2.length=L.length:=hl;have h2:=hs L2 hl (fun k hk=>ha k (by simp [hk])) fr' he (fun s=>s=⟨(t,svf L2.length)::fr',L2++[ob],N⟩) rfl;intro R hR a w hr;obtain⟨b1,b2⟩:=hr.below;have hjs:L2[j]? =some .slot:=by rw [ha j (by simp)];exact hj.spec
 refine h2 R (fun σ' a' w' k1 k2=>?_) a w hr;subst k1;refine hR _ a' w' hK ?_;show mP A ⟨(t,sv1)::fr',L2.set j ob.inS,N⟩ a' w';exact k2.toSlot hjs (Nat.le_of_ble_eq_true hn0) b1 b2 (by rw [hl];exact hob) hov (by rw [hl];exact h1) (by rw [hl];exact hb)
theorem LH.data {ob:Nat→LO}{sv1:SV}{rd:List Nat}{n0:Nat} [gBp A n0] (hn0:Nat.ble n0 L.length=true) (h1:sv1.lt L.length=true)
  (hs:∀L2:List LO,L2.length=L.length→(∀k∈rd,L2[k]? =L[k]?)→HSt P A ops ⟨fr,L2,N⟩ ⟨some t,op,ty,pos,af,none⟩ sv1 (L2++[ob L2.length])):LH P A ops ⟨fr,L,N⟩ ⟨some t,op,ty,pos,af,none⟩ sv1 ⟨rd,[]⟩:=by
 intro L2 hl ha fr' he K hK;have hl:L2.length=L.length:=hl;have h2:=hs L2 hl ha fr' he (fun s=>s=⟨(t,sv1)::fr',L2++[ob L2.length],N⟩) rfl;intro R hR a w hr;obtain⟨b1,b2⟩:=hr.below;refine h2 R (fun σ' a' w' k1 k2=>?_) a w hr;subst k1;refine hR _ a' w' hK ?_;show mP A ⟨(t,sv1)::fr',L2,N⟩ a' w';exact k2.drop (by rw [hl];exact Nat.le_of_ble_eq_true hn0) b1 b2 (by rw [hl];exact h1)
theorem LH.frz(m:Nat){dst:Option Nat}{g:Option (Nat × Bool)}{F:FT}{e z ver:Nat}{es:List U}(hL:L[m]? =some (.arr e z ver es):=by rfl)(hL':St1 (.frz e z ver es) m L L':=by repeat constructor)(h:LH P A ops ⟨fr,L',N⟩ ⟨dst,op,ty,pos,af,g⟩ sv F):LH P A ops ⟨fr,L,N⟩ ⟨dst,op,ty,pos,af,g⟩ sv ⟨m::F.rd,(m,.frz e z ver es)::F.up⟩:=by
 intro L2 hl ha fr' he K hK;have hl:L2.length=L.length:=hl;obtain rfl:=hL'.spec;have hm:m < L.length:=(List.getElem?_eq_some_iff.1 hL).1;refine qV m (by rw [ha m (by simp)];exact hL) rfl (h (L2.set m (.frz e z ver es)) (by simp [hl]) (fun k hk=>?_) fr' he K hK);by_cases hkm:m=k
 ·subst hkm;rw [List.getElem?_set_self (by omega)];exact(List.getElem?_set_self hm).symm
 ·rw [List.getElem?_set_ne hkm];exact(ha k (by simp [hk])).trans (List.getElem?_set_ne hkm).symm
end
section
variable {ty T:TypeId}{pos:String}{af:Array Edge}{x y:Operand}{n0:Nat} [gBp A n0]
theorem jE2 {j:Nat}{zs:List Value}{cs:List SV} [TZ P T zs] (h:VZ P A ops K (i+1) rest pf ((i,⟨[j],[(j,.box cs)]⟩)::hf) ⟨(t,.ptr j 0)::fr,L',N⟩) (hj:Fs L j:=by repeat constructor) (hcs:zs.map gJ3=cs:=by rfl) (hs:(SV.ones cs && (SV.lts L.length cs && Nat.ble n0 j))=true:=by rfl) (ht:Nat.blt t N=true:=by rfl) (hL:St1 (.box cs) j L L':=by repeat constructor)
  (hc:(hIw ops pf i [(j,.box cs)] && hIy ops hf i ⟨[j],[(j,.box cs)]⟩)=true:=by kernel_rfl):VZ P A ops K i (⟨some t,.alloc T,ty,pos,af,none⟩::rest) pf hf ⟨fr,L,N⟩:=by
 simp only [Bool.and_eq_true] at hs;refine hUs (F:=⟨[j],[(j,.box cs)]⟩) (LH.new (ob:=.box cs) (svf:=fun n=>.ptr n 0) hj hs.2.2 hs.2.1 (.inr ⟨cs,rfl⟩) .ptr (fun _ _ k=>⟨(by intro h;cases h),(by intro vs h;cases h),(by intro vs h;cases h)⟩) fun L2 _ _ fr' he K hK=>?_) h (.cons hL .nil) hc;exact OH.vo (.alloc hcs hs.1 ht (Sn.mk' L2)) (gF4 hK)
theorem jE3 {m off n bs:Nat}{g:Bool}{cs ds cs':List SV}(h:VZ P A ops K (i+1) rest pf ((i,⟨[m],[(m,.box cs')]⟩)::hf) ⟨fr,L',N⟩)(hx:(St.mk fr L N).ev x=.ptr m off:=by rfl)(hL:L[m]? =some (.box cs):=by rfl)(hy:Cl ((St.mk fr L N).ev y) ds:=by repeat constructor)[ti:TI P T g n bs](hn:ds.length=n:=by rfl)(hp:Pt off ds cs cs':=by repeat constructor)(hL':St1 (.box cs') m L L':=by repeat constructor)
  (hc:(hIw ops pf i [(m,.box cs')] && hIy ops hf i ⟨[m],[(m,.box cs')]⟩)=true:=by kernel_rfl):VZ P A ops K i (⟨none,.store T x y,ty,pos,af,none⟩::rest) pf hf ⟨fr,L,N⟩:=by
 refine hUs (sv:=.junk) (F:=⟨[m],[(m,.box cs')]⟩) (fun L2 h1 h2 fr' he K hK=>?_) h (.cons hL' .nil) hc;have hm:m < L2.length:=by have:=(List.getElem?_eq_some_iff.1 hL).1;have h1:L2.length=L.length:=h1;omega
 have hv:VO P A ops [] (St.setO ⟨fr',L2.set m (.box cs'),N⟩ none .junk) K:=gF4 hK;exact OH.vo (.store (by rw [he x (by simp [Op.operands])];exact hx) (by rw [h2 m (by simp)];exact hL) (by rw [he y (by simp [Op.operands])];exact hy) hn hp (St1.mk hm)) hv
theorem gTb {e z bs j:Nat}{gg:Bool} [TE P T e] [TI P e gg z bs] (h:VZ P A ops K (i+1) rest pf ((i,⟨[j],[(j,.arr e z 1 [])]⟩)::hf) ⟨(t,.sl j 1)::fr,L',N⟩) (hj:Fs L j:=by repeat constructor) (hn0:Nat.ble n0 j=true:=by rfl) (ht:Nat.blt t N=true:=by rfl) (hL:St1 (.arr e z 1 []) j L L':=by repeat constructor)
  (hc:(hIw ops pf i [(j,.arr e z 1 [])] && hIy ops hf i ⟨[j],[(j,.arr e z 1 [])]⟩)=true:=by kernel_rfl):VZ P A ops K i (⟨some t,.buildSlice T 0 #[],ty,pos,af,none⟩::rest) pf hf ⟨fr,L,N⟩:=
 hUs (F:=⟨[j],[(j,.arr e z 1 [])]⟩) (LH.new (ob:=.arr e z 0 []) (svf:=fun n=>.sl n 0) hj hn0 rfl (.inl rfl) .sl (fun _ h=>by cases h) fun L2 _ _ fr' he K hK=>qO (gF4 hK) ht (Sn.mk' L2)) h (.cons hL .nil) hc
theorem hXf {e z bs n j:Nat}{gg:Bool} [TE P T e] [TI P e gg z bs] {zs:List Value} [TZ P e zs] {us:List U} {ps:Array (Nat × Operand)} (h:VZ P A ops K (i+1) rest pf ((i,⟨[j],[(j,.arr e z 1 us)]⟩)::hf) ⟨(t,.sl j 1)::fr,L',N⟩) (hps:ps.toList=((ps.toList.map Prod.snd).zipIdx 0).map (fun p=>(p.2,p.1)):=by rfl)
  (hy:∀L2,VDs ⟨fr,L2,N⟩ (ps.toList.map Prod.snd) us:=by(intro L2;(repeat(first | exact .nil | refine .cons (by((repeat(first | exact trivial | exact rfl | exact⟨_,rfl⟩ | refine And.intro ?_ ?_));first | done | fail)) ?_)))) (hu:(us.all fun u=>u.sz==z)=true:=by rfl) (hn:((ps.toList.map Prod.snd).length==n && Nat.blt 0 n)=true:=by rfl)
  (hz:(Nat.blt 0 z && Nat.ble (n*z) 16777216 && zs.length==z)=true:=by rfl) (ht:Nat.blt t N=true:=by rfl) (hj:Fs L j:=by repeat constructor) (hn0:Nat.ble n0 j=true:=by rfl) (hL:St1 (.arr e z 1 us) j L L':=by repeat constructor)
  (hc:(hIw ops pf i [(j,.arr e z 1 us)] && hIy ops hf i ⟨[j],[(j,.arr e z 1 us)]⟩)=true:=by kernel_rfl):VZ P A ops K i (⟨some t,.buildSlice T n ps,ty,pos,af,none⟩::rest) pf hf ⟨fr,L,N⟩:=
 hUs (F:=⟨[j],[(j,.arr e z 1 us)]⟩) (LH.new (ob:=.arr e z 0 us) (svf:=fun n=>.sl n 0) hj hn0 rfl (.inl rfl) .sl (fun _ h=>by cases h) fun L2 _ _ fr' he K hK=>
  gPb (gF4 hK) hps (VDs.same (σ:=⟨fr,L2,N⟩) (σ':=⟨fr',L2,N⟩) rfl (hy L2) (fun x hx=>he x (by simpa [Op.operands] using hx))) hu hn hz ht (Sn.mk' L2)) h (.cons hL .nil) hc
theorem uK {e z bs n:Nat}{gg:Bool} [TE P T e] [TI P e gg z bs] {zs:List Value} [TZ P e zs] {us:List U} {ps:Array (Nat × Operand)} (h:VZ P A ops K (i+1) rest pf ((i,⟨[],[]⟩)::hf) ⟨(t,.d (.sl z us))::fr,L,N⟩) (hps:ps.toList=((ps.toList.map Prod.snd).zipIdx 0).map (fun p=>(p.2,p.1)):=by rfl)
  (hy:∀L2,VDs ⟨fr,L2,N⟩ (ps.toList.map Prod.snd) us:=by(intro L2;(repeat(first | exact .nil | refine .cons (by((repeat(first | exact trivial | exact rfl | exact⟨_,rfl⟩ | refine And.intro ?_ ?_));first | done | fail)) ?_)))) (hu:(us.all fun u=>u.sz==z)=true:=by rfl) (hn:((ps.toList.map Prod.snd).length==n && Nat.blt 0 n)=true:=by rfl)
  (hz:(Nat.blt 0 z && Nat.ble (n*z) 16777216 && zs.length==z)=true:=by rfl) (ht:Nat.blt t N=true:=by rfl) (hn0:Nat.ble n0 L.length=true:=by rfl) (hc:(hIw ops pf i [] && hIy ops hf i ⟨[],[]⟩)=true:=by kernel_rfl):VZ P A ops K i (⟨some t,.buildSlice T n ps,ty,pos,af,none⟩::rest) pf hf ⟨fr,L,N⟩:=by
 refine hUs (F:=⟨[],[]⟩) (LH.data (ob:=fun _=>.frz e z 0 us) hn0 rfl fun L2 _ _ fr' he K hK=>?_) h .nil hc;refine gPb (i:=L2.length) (L':=L2++[.arr e z 0 us]) ?_ hps (VDs.same (σ:=⟨fr,L2,N⟩) (σ':=⟨fr',L2,N⟩) rfl (hy L2) (fun x hx=>he x (by simpa [Op.operands] using hx))) hu hn hz ht (Sn.mk' L2);refine qV L2.length (e:=e) (z:=z) (ver:=0) (es:=us) (by simp) (by simp [List.set_append_right]:(L2++[LO.arr e z 0 us]).set L2.length (.frz e z 0 us)=L2++[.frz e z 0 us]) ?_;exact hEn (gF4 hK) (DzL.refl _) (.cons (.frz (e:=e) (v:=0) (by simp)) (DzF.refl _))
theorem uL {α:Type}{en:α→U}{es:List α→List U}{z:Nat}[E:Enc α en es z]{l l2:List α}(hg:l.length+l2.length≤4294967296){e bs ver m:Nat}{T':TypeId}{gg:Bool} [TE P T e] [TI P e gg z bs] {zs:List Value} [TZ P e zs]
  (h:VZ P A ops K (i+1) rest pf ((i,⟨[m],[(m,.arr e z (ver+1) (es (l++l2)))]⟩)::hf) ⟨(t,.sl m (ver+1))::fr,L',N⟩) (hx:(St.mk fr L N).ev x=.sl m ver:=by rfl) (hL:L[m]? =some (.arr e z ver (es l)):=by rfl) (hs:∀L2,SrcOf ⟨fr,L2,N⟩ z (es l2) ((St.mk fr L2 N).ev y):=by(intro L2;first | exact⟨rfl,rfl,Enc.all _⟩ | exact rfl))
  (hz:(Nat.blt 0 z && zs.length==z)=true:=by rfl) (hb:Nat.ble bs 32768=true:=by rfl) (ht:Nat.blt t N=true:=by rfl) (hL':St1 (.arr e z (ver+1) (es (l++l2))) m L L':=by repeat constructor)
  (hc:(hIw ops pf i [(m,.arr e z (ver+1) (es (l++l2)))] && hIy ops hf i ⟨[m],[(m,.arr e z (ver+1) (es (l++l2)))]⟩)=true:=by kernel_rfl) :
  VZ P A ops K i (⟨some t,.call { callee:=.builtin .append,args:=#[x,y],argTypes:=#[T,T] },T',pos,af,none⟩::rest) pf hf ⟨fr,L,N⟩:=by
 refine hUs (F:=⟨[m],[(m,.arr e z (ver+1) (es (l++l2)))]⟩) (fun L2 h1 h2 fr' he K hK=>?_) h (.cons hL' .nil) hc
 exact vR (l:=l) (r:=l2) hg (gF4 hK) (by rw [he x (by simp [Op.operands,Call.operands])];exact hx) (by rw [h2 m (by simp)];exact hL) (by
  rw [he y (by simp [Op.operands,Call.operands])]
  have:=hs L2
  generalize (St.mk fr L2 N).ev y=e' at this ⊢
  cases e'<;>exact this) hz hb ht rfl
theorem LH.call {f:Operand}{fi:Nat}{caps:List SV}{args:Array Operand}{at_:Array TypeId}{dargs:List SV}{us:List U}{rd:List Nat}(hspec:gW P fi dargs us)(hf:(St.mk fr L N).ev f=.fn fi caps:=by rfl)
  (hargs:∀L2:List LO,(∀k∈rd,L2[k]? =L[k]?)→VAs L2 (args.toList.map (St.mk fr L N).ev++caps) dargs) (ht:Nat.blt t N=true:=by rfl):LH P A ops ⟨fr,L,N⟩ ⟨some t,.call { callee:=.value f,args:=args,argTypes:=at_ },ty,pos,af,none⟩ (mkR us) ⟨rd,[]⟩:=by
 intro L2 h1 h2 fr' he K hK;have hm:args.toList.map (St.mk fr' L2 N).ev=args.toList.map (St.mk fr L N).ev:=List.map_congr_left fun x hx=>he x (by simp only [Op.operands,Call.operands];simp;exact .inr (by simpa using hx));exact hX5 (hLy (caps:=caps) (by rw [he f (by simp [Op.operands,Call.operands])];exact hf) hspec (by simp only;rw [hm];exact hargs L2 h2)) ht (gF4 hK)
end
theorem goW {X Y:Prop}(hy:Y)(h:Y→X:=by
  intro hy
  repeat(first | refine kR (fun _=>gO7) ?_ | refine kR (fun _=>gO8) ?_ | refine jKi ?_ (by(repeat constructor);first | done | fail) | refine jE3 ?_ | refine jE2 ?_ | refine VZ_bx ?_)
  exact hy):X:=h hy
end
section
variable {P:Program}{A:Amb}{ops:Array Oper}{K:St→Prop}{fr:List (Nat × SV)}{L L':List LO}{N i t:Nat}{sv:SV}{rest:List Oper}{pf:PF}{hf:HF}{op:Op}{ty:TypeId}{pos:String}{af:Array Edge}
theorem gSk {F:FT}(hh:LH P A ops ⟨fr,L,N⟩ ⟨some t,op,ty,pos,af,none⟩ sv F)(h:VZ P A ops K (i+1) rest pf ((i,F)::hf) ⟨(t,sv)::fr,L',N⟩)(hL:UpR L F.up L':=by repeat constructor)
  (hc:(hIw ops pf i F.up && hIy ops hf i F)=true:=by kernel_rfl):VZ P A ops K i (⟨some t,op,ty,pos,af,none⟩::rest) pf hf ⟨fr,L,N⟩:=hUs hh h hL hc
def SV.ix:SV→List Nat
 | .sl i _=>[i]
 | .ag cs=>ixs cs
 | _=>[]
where ixs:List SV→List Nat
 | []=>[]
 | .sl i _::cs=>i::ixs cs
 | _::cs=>ixs cs
theorem VL.at{L L2:List LO}{sv:SV}{u:U}(h:VL L sv u)(hk:∀i v,sv=.sl i v→L2[i]? =L[i]?):VL L2 sv u:=by
 cases sv with
 | sl i v=>
   cases u with
   | sl z es=>
     obtain⟨e,h⟩:=h;exact⟨e,by rw [hk i v rfl];exact h⟩
   | _=>exact h.elim
 | _=>cases u<;>exact h
theorem VLs.at{L L2:List LO}:∀{svs:List SV}{us:List U},VLs L svs us→(∀k∈SV.ix.ixs svs,L2[k]? =L[k]?)→VLs L2 svs us
 | [],[],_,_=>trivial
 | sv::svs,u::us,h,hk=>by
   refine⟨h.1.at fun i v e=>hk i (by subst e;simp [SV.ix.ixs]),VLs.at h.2 fun k hm=>hk k ?_⟩;cases sv<;>simp [SV.ix.ixs,hm]
 | [],_::_,h,_=>h.elim
 | _::_,[],h,_=>h.elim
theorem VD.at{L L2:List LO}{sv:SV}{u:U}(h:VD L sv u)(hk:∀k∈sv.ix,L2[k]? =L[k]?):VD L2 sv u:=by
 have key:∀(sv:SV)(u:U),(∀k∈sv.ix,L2[k]? =L[k]?)→VL L sv u→VL L2 sv u:=fun sv u hk h=>h.at fun i v e=>hk i (by subst e;simp [SV.ix]);cases sv with
 | ag cs=>
   cases u with
   | st us=>exact VLs.at (show VLs L cs (U.flats us)from h) hk
   | _=>exact False.elim h
 | _=>exact key _ u hk h
theorem VA.at{L L2:List LO}{sv s2:SV}(h:VA L sv s2)(hk:∀k∈sv.ix,L2[k]? =L[k]?):VA L2 sv s2:=by
 cases s2 with
 | d u=>exact VD.at (show VD L sv u from h) hk
 | fn f caps=>cases sv<;>exact h
 | _=>cases sv<;>exact h
theorem VAs.at{L L2:List LO}:∀{svs ds:List SV},VAs L svs ds→(∀k∈svs.flatMap SV.ix,L2[k]? =L[k]?)→VAs L2 svs ds
 | [],[],_,_=>trivial
 | sv::svs,d::ds,h,hk=>⟨VA.at h.1 fun k hm=>hk k (by simp [hm]),VAs.at h.2 fun k hm=>hk k (by simp only [List.flatMap_cons,List.mem_append];exact .inr hm)⟩
 | [],_::_,h,_=>h.elim
 | _::_,[],h,_=>h.elim
theorem LH.cl {f:Operand}{fi:Nat}{caps:List SV}{args:Array Operand}{at_:Array TypeId}{dargs:List SV}{us:List U}(hspec:gW P fi dargs us)(hf:(St.mk fr L N).ev f=.fn fi caps:=by rfl)
  (hargs:VAs L (args.toList.map (St.mk fr L N).ev++caps) dargs:=by((repeat(first | exact trivial | exact rfl | exact⟨_,rfl⟩ | exact(‹∀n,SV.lts n _=true› _) | refine And.intro ?_ ?_));first | done | fail)) (ht:Nat.blt t N=true:=by rfl):LH P A ops ⟨fr,L,N⟩ ⟨some t,.call { callee:=.value f,args:=args,argTypes:=at_ },ty,pos,af,none⟩ (mkR us) ⟨(args.toList.map (St.mk fr L N).ev++caps).flatMap SV.ix,[]⟩:=
 LH.call hspec hf (fun L2 h=>hargs.at h) ht
theorem LH.c1 {f:Operand}{fi:Nat}{caps:List SV}{args:Array Operand}{at_:Array TypeId}{cargs ds0 ds:List SV}(j:Nat)(hspec:Spec P fi cargs [.box ds0] (fun s Lo=>s=sv∧Lo=[.box ds]))(hL:L[j]? =some (.box ds0):=by rfl)(hds:(ds.all SV.isD && (ds0.all SV.isD && SV.lts 1 ds0))=true:=by rfl)(hsv:∀ρ,sv.ren ρ=sv:=by exact fun _=>rfl)
  (hf:(St.mk fr L N).ev f=.fn fi caps:=by rfl)
  (hargs:∀(L2:List LO)(n:Nat),AGs L2 (rn [j] n) 1 (args.toList.map (St.mk fr L N).ev++caps) cargs:=by(intro L2 n;(repeat(first | exact trivial | exact .inl ⟨rfl,rfl⟩ | exact .inr ⟨_,rfl,by((repeat(first | exact trivial | exact rfl | exact⟨_,rfl⟩ | refine And.intro ?_ ?_));first | done | fail)⟩ | refine And.intro ?_ ?_));first | done | fail)) (ht:Nat.blt t N=true:=by rfl) :
  LH P A ops ⟨fr,L,N⟩ ⟨some t,.call { callee:=.value f,args:=args,argTypes:=at_ },ty,pos,af,none⟩ sv ⟨[j],[(j,.box ds)]⟩:=by
 intro L2 h1 h2;simp only [Bool.and_eq_true] at hds;obtain⟨d1,d2,d3⟩:=hds;have hj:j < L2.length:=by have:=(List.getElem?_eq_some_iff.1 hL).1;have h1:L2.length=L.length:=h1;omega
 have hL2:L2[j]? =some (.box ds0):=by rw [h2 j (by simp)];exact hL
 show HSt P A ops ⟨fr,L2,N⟩ _ sv (L2.set j (.box ds));refine gWx [j] hspec (hsv _) (by simp only [List.map_cons,List.map_nil,LO.ren,gUq d1,gNn,List.append_nil]) hf ⟨?_,trivial⟩ ?_ (hargs L2 _) ht
 ·show L2[j]? =some (LO.ren _ (.box ds0));rw [hL2];simp only [LO.ren,gUq d2]
 ·simp [Nat.blt_eq,hj,LO.lts,LO.lt,d3]
inductive TS0 (j:Nat):SV→SV→Prop
 | sl {v:Nat}:TS0 j (.sl 0 v) (.sl j (v+1))
 | tup0:TS0 j (.tup []) (.tup [])
 | tupN {c c':SV} {cs cs':List SV} (h:TS0 j c c') (h2:TS0 j (.tup cs) (.tup cs')):TS0 j (.tup (c::cs)) (.tup (c'::cs'))
 | ag0:TS0 j (.ag []) (.ag [])
 | agN {c c':SV} {cs cs':List SV} (h:TS0 j c c') (h2:TS0 j (.ag cs) (.ag cs')):TS0 j (.ag (c::cs)) (.ag (c'::cs'))
 | d {u:U}:TS0 j (.d u) (.d u)
theorem TS0.v{j n:Nat}{s s':SV}(h:TS0 j s s'):TSV n j (s.ren (rn [] n)) s':=by
 induction h with
 | @sl v=>exact .sl (n:=n)
 | tup0=>exact .tup0
 | tupN h h2 ih1 ih2=>exact .tupN ih1 ih2
 | ag0=>exact .ag0
 | agN h h2 ih1 ih2=>exact .agN ih1 ih2
 | d=>exact .old rfl
theorem AGs.at{L L2:List LO}{ρ:Nat→Nat}{n:Nat}:∀{svs ds:List SV},AGs L ρ n svs ds→(∀k∈svs.flatMap SV.ix,L2[k]? =L[k]?)→AGs L2 ρ n svs ds
 | [],[],_,_=>trivial
 | sv::svs,d::ds,h,hk=>by
   refine⟨h.1.imp id fun⟨u,h1,h2⟩=>⟨u,h1,VD.at h2 fun k hm=>hk k (by simp [hm])⟩,AGs.at h.2 fun k hm=>hk k (by simp only [List.flatMap_cons,List.mem_append];exact .inr hm)⟩
 | [],_::_,h,_=>h.elim
 | _::_,[],h,_=>h.elim
theorem LH.cN {f:Operand}{fi j n0:Nat}{caps:List SV}{args:Array Operand}{at_:Array TypeId}{cargs:List SV}{ob:LO}{sv0:SV} [gBp A n0] (hspec:Spec P fi cargs [] (fun s Lo=>s=sv0∧Lo=[ob])) (hj:Fs L j:=by repeat constructor) (hsv:TS0 j sv0 sv:=by repeat constructor) (hob:∀ρ,ob.ren ρ=ob:=by exact fun _=>rfl) (hov:ob.inS.ver=ob.ver+1:=by rfl)
  (hn0:Nat.ble n0 j=true:=by rfl) (hf:(St.mk fr L N).ev f=.fn fi caps:=by rfl)
  (hargs:∀(ρ:Nat→Nat),AGs L ρ 0 (args.toList.map (St.mk fr L N).ev++caps) cargs:=by(intro ρ;(repeat(first | exact trivial | exact .inl ⟨rfl,rfl⟩ | exact .inr ⟨_,rfl,by((repeat(first | exact trivial | exact rfl | exact⟨_,rfl⟩ | refine And.intro ?_ ?_));first | done | fail)⟩ | refine And.intro ?_ ?_));first | done | fail)) (ht:Nat.blt t N=true:=by rfl) :
  LH P A ops ⟨fr,L,N⟩ ⟨some t,.call { callee:=.value f,args:=args,argTypes:=at_ },ty,pos,af,none⟩ sv ⟨j::(args.toList.map (St.mk fr L N).ev++caps).flatMap SV.ix,[(j,ob.inS)]⟩:=by
 have hnb:∀cs,ob≠.box cs:=fun cs e=>by subst e;simp only [LO.inS,LO.ver] at hov;omega
 refine LH.new (svf:=fun n=>sv0.ren (rn [] n)) hj hn0 (by cases ob<;>first | rfl | exact absurd rfl (hnb _)) (.inl hov) hsv.v (fun cs e=>absurd e (hnb cs)) fun L2 h1 h2=>?_;refine gWx [] hspec rfl (by simp only [List.map_cons,List.map_nil,hob,gNn]) hf trivial (by simp [LO.lts]) ((hargs _).at h2) ht
end
section
variable {P:Program}{A:Amb}{ops:Array Oper}{K:St→Prop}{fr:List (Nat × SV)}{L L':List LO}{N i t:Nat}{sv:SV}{rest:List Oper}{pf:PF}{hf:HF}{ty T:TypeId}{pos:String}{af:Array Edge}
theorem VDs.at{L2:List LO}{xs:List Operand}{us:List U}(h:VDs ⟨fr,L,N⟩ xs us):(∀k∈(xs.map (St.mk fr L N).ev).flatMap SV.ix,L2[k]? =L[k]?)→VDs ⟨fr,L2,N⟩ xs us:=by
 induction h with
 | nil=>intro _;exact .nil
 | @cons x l u us h h2 ih=>
   intro hk;refine .cons ?_ (ih fun k hm=>hk k (by simp only [List.map_cons,List.flatMap_cons,List.mem_append];exact .inr hm));have e:(St.mk fr L2 N).ev x=(St.mk fr L N).ev x:=by cases x<;>rfl
   show VD L2 ((St.mk fr L2 N).ev x) u;rw [e];exact VD.at h fun k hm=>hk k (by simp [hm])
theorem LH.ld {e z bs n n0:Nat} [gBp A n0] {gg:Bool} [TE P T e] [TI P e gg z bs] {zs:List Value} [TZ P e zs] {us:List U} {ps:Array (Nat × Operand)} (hps:ps.toList=((ps.toList.map Prod.snd).zipIdx 0).map (fun p=>(p.2,p.1)):=by rfl)
  (hy:VDs ⟨fr,L,N⟩ (ps.toList.map Prod.snd) us:=by(repeat(first | exact .nil | refine .cons (by((repeat(first | exact trivial | exact rfl | exact⟨_,rfl⟩ | refine And.intro ?_ ?_));first | done | fail)) ?_))) (hu:(us.all fun u=>u.sz==z)=true:=by rfl) (hn:((ps.toList.map Prod.snd).length==n && Nat.blt 0 n)=true:=by rfl)
  (hz:(Nat.blt 0 z && Nat.ble (n*z) 16777216 && zs.length==z)=true:=by rfl) (ht:Nat.blt t N=true:=by rfl) (hn0:Nat.ble n0 L.length=true:=by rfl) :
  LH P A ops ⟨fr,L,N⟩ ⟨some t,.buildSlice T n ps,ty,pos,af,none⟩ (.d (.sl z us)) ⟨((ps.toList.map Prod.snd).map (St.mk fr L N).ev).flatMap SV.ix,[]⟩:=by
 refine LH.data (ob:=fun _=>.frz e z 0 us) hn0 rfl fun L2 h1 h2 fr' he K hK=>?_;refine gPb (i:=L2.length) (L':=L2++[.arr e z 0 us]) ?_ hps (VDs.same (σ:=⟨fr,L2,N⟩) (σ':=⟨fr',L2,N⟩) rfl (hy.at h2) (fun x hx=>he x (by simpa [Op.operands] using hx))) hu hn hz ht (Sn.mk' L2);refine qV L2.length (e:=e) (z:=z) (ver:=0) (es:=us) (by simp) (by simp [List.set_append_right]:(L2++[LO.arr e z 0 us]).set L2.length (.frz e z 0 us)=L2++[.frz e z 0 us]) ?_;exact hEn (gF4 hK) (DzL.refl _) (.cons (.frz (e:=e) (v:=0) (by simp)) (DzF.refl _))
end
end Go.Eng
