import Derived.Test.YtfpdlnkkcnmebaaGreatEng17
namespace Go.Eng
open Go Go.RowKit
def gQ8(L L':List LO):Prop:=∀(k:Nat)(cs:List SV),L[k]? =some (.box cs)→L'[k]? =some (.box cs)
theorem gQ8.refl(L:List LO):gQ8 L L:=fun _ _ h=>h
inductive Kp:List LO→List LO→Prop
 | nil {l:List LO}:Kp [] l
 | own {e z v:Nat} {es:List U} {o:LO} {l l':List LO} (h:Kp l l'):Kp (.own e z v es::l) (o::l')
 | ownp {h0:Value} {e z:Nat} {es:List U} {o:LO} {l l':List LO} (h:Kp l l'):Kp (.ownp h0 e z es::l) (o::l')
 | dead {v:Nat} {o:LO} {l l':List LO} (h:Kp l l'):Kp (.dead v::l) (o::l')
 | arr {e z v:Nat} {es:List U} {o:LO} {l l':List LO} (h:Kp l l'):Kp (.arr e z v es::l) (o::l')
 | frz {e z v:Nat} {es:List U} {o:LO} {l l':List LO} (h:Kp l l'):Kp (.frz e z v es::l) (o::l')
 | mix {e z v:Nat} {fs es:List U} {o:LO} {l l':List LO} (h:Kp l l'):Kp (.mix e z v fs es::l) (o::l')
 | set {ks:LS} {o:LO} {l l':List LO} (h:Kp l l'):Kp (.set ks::l) (o::l')
 | bld {e T:Nat} {k:LB} {o:LO} {l l':List LO} (h:Kp l l'):Kp (.bld e T k::l) (o::l')
 | box {cs:List SV} {l l':List LO} (h:Kp l l'):Kp (.box cs::l) (.box cs::l')
theorem Kp.keep{l l':List LO}(h:Kp l l'):gQ8 l l':=by
 induction h with
 | nil=>intro k cs h;simp at h
 | box h ih=>intro k cs hk;cases k with
   | zero=>exact hk
   | succ k=>exact ih k cs (by simpa using hk)
 | _ h ih=>intro k cs hk;cases k with
   | zero=>simp at hk
   | succ k=>exact ih k cs (by simpa using hk)
section
variable {P:Program}{A:Amb}{ops:Array Oper}{md:Region.Mode}{K:St→Prop}{σ σ':St}
def PSt(P:Program)(A:Amb)(ops:Array Oper)(B:List LO)(σ:St)(o:Oper)(sv:SV):Prop:=
 (∀d,o.dst=some d→Nat.blt d σ.N=true)∧gQ8 B σ.L∧
 ((Gd ops σ o true∧∀fr' L',(∀x∈o.op.operands.toList,St.ev ⟨fr',L',σ.N⟩ x=σ.ev x)→gQ8 B L'→Quiet P A ⟨fr',L',σ.N⟩ o sv)∨(Gd ops σ o false∧(sv=.junk∨sv=.tup [])))
def HSt(P:Program)(A:Amb)(ops:Array Oper)(σ:St)(o:Oper)(sv:SV)(L':List LO):Prop:=
 ∀fr',(∀x∈o.op.operands.toList,St.ev ⟨fr',σ.L,σ.N⟩ x=σ.ev x)→∀K:St→Prop,K (St.setO ⟨fr',L',σ.N⟩ o.dst sv)→VO P A ops [o] ⟨fr',σ.L,σ.N⟩ K
def hGv(P:Program)(A:Amb)(ops:Array Oper)(σ:St)(o:Oper)(Z:SV→List LO→Prop):Prop:=
 ∀fr',(∀x∈o.op.operands.toList,St.ev ⟨fr',σ.L,σ.N⟩ x=σ.ev x)→∀K:St→Prop,(∀sv L',Z sv L'→K (St.setO ⟨fr',L',σ.N⟩ o.dst sv))→VO P A ops [o] ⟨fr',σ.L,σ.N⟩ K
theorem HSt.e{o:Oper}{sv:SV}{L':List LO}(h:HSt P A ops σ o sv L'):hGv P A ops σ o (fun s l=>s=sv∧l=L'):=fun fr' he K hK=>h fr' he K (hK _ _ ⟨rfl,rfl⟩)
theorem hDc{o:Oper}{fr fr':List (Nat × SV)}{L L':List LO}{N N':Nat}(h:∀t,t∈o.looksAt ops→look fr' t=look fr t):∀x∈o.op.operands.toList,St.ev ⟨fr',L',N'⟩ x=St.ev ⟨fr,L,N⟩ x:=by
 intro x hx;cases x with
 | tmp t=>exact h t (by unfold Oper.looksAt;exact List.mem_append.2 (.inl (List.mem_filterMap.2 ⟨.tmp t,hx,rfl⟩)))
 | _=>rfl
theorem Gd.same{o:Oper}{b:Bool}(hN:σ'.N=σ.N)(h:∀t,t∈o.looksAt ops→look σ'.fr t=look σ.fr t)(hb:Gd ops σ o b):Gd ops σ' o b:=by
 unfold Gd at *;cases hgd:o.guard with
 | none=>simp only [hgd] at hb ⊢;exact hb
 | some p=>
   obtain⟨j,want⟩:=p;simp only [hgd] at hb ⊢;obtain⟨oj,tj,h1,h2,h3,h4⟩:=hb;refine⟨oj,tj,h1,h2,by rw [hN];exact h3,?_⟩;rw [h tj]
   ·exact h4
   unfold Oper.looksAt;refine List.mem_append.2 (.inr ?_);simp [hgd,h1,h2]
theorem PSt.same{B:List LO}{o:Oper}{sv:SV}(hN:σ'.N=σ.N)(hL:gQ8 B σ'.L)(h:∀t,t∈o.looksAt ops→look σ'.fr t=look σ.fr t)(hy:PSt P A ops B σ o sv):PSt P A ops B σ' o sv:=by
 refine⟨fun d hd=>by rw [hN];exact hy.1 d hd,hL,?_⟩;rcases hy.2.2 with ⟨h1,h2⟩ | ⟨h1,h2⟩
 ·refine .inl ⟨h1.same hN h,fun fr' L' he hk=>?_⟩;rw [hN];refine h2 fr' L' (fun x hx=>?_) hk;rw [←hN,he x hx];exact hDc h x hx
 ·exact .inr ⟨h1.same hN h,h2⟩
theorem PSt.ys{B:List LO}{o:Oper}{sv:SV}(h:PSt P A ops B σ o sv):YS P A ops σ o sv:=by
 refine⟨h.1,?_⟩;rcases h.2.2 with ⟨h1,h2⟩ | ⟨h1,h2⟩
 ·exact .inl ⟨h1,h2 σ.fr σ.L (fun _ _=>rfl) h.2.1⟩
 ·exact .inr ⟨h1,h2⟩
theorem hGv.same{o:Oper}{Z:SV→List LO→Prop}(hN:σ'.N=σ.N)(hL:σ'.L=σ.L)(h:∀t,t∈o.looksAt ops→look σ'.fr t=look σ.fr t)(hy:hGv P A ops σ o Z):hGv P A ops σ' o Z:=by
 intro fr' he K hK;rw [hN] at hK;rw [hL,hN];refine hy fr' (fun x hx=>?_) K hK
 have:=he x hx
 rw [hL,hN] at this;rw [this];exact hDc h x hx
def hBq(md:Region.Mode)(ops:Array Oper):Nat→Nat→Nat→Bool
 | 0,_,_=>false
 | n+1,i,j=>match ops[j]? with
   | none=>false
   | some o=>o.after.any fun e=>Region.binds md e && (e.on==i || hBq md ops n i e.on)
def Closed(md:Region.Mode)(ops:Array Oper)(listed:Array Bool):Prop:=∀(k:Nat)(o:Oper),ops[k]? =some o→listed.getD k false=true→∀e∈o.after,Region.binds md e=true→listed.getD e.on false=true
theorem gS1{listed:Array Bool}(hc:Closed md ops listed):∀(n i j:Nat),hBq md ops n i j=true→(∀o,ops[j]? =some o→∀e∈o.after,Region.binds md e=true→listed.getD e.on false=true)→listed.getD i false=true
 | 0,i,j,h,_=>by simp [hBq] at h
 | n+1,i,j,h,hj=>by
   unfold hBq at h;cases ho:ops[j]? with
   | none=>rw [ho] at h;cases h
   | some o=>
     rw [ho] at h;obtain⟨e,he,hb⟩:=Array.any_eq_true'.1 h;simp only [Bool.and_eq_true,Bool.or_eq_true,beq_iff_eq] at hb;obtain⟨hb1,hb2⟩:=hb;have hl:=hj o ho e he hb1;rcases hb2 with rfl | hb2
     ·exact hl
     ·exact gS1 hc n i e.on hb2 (fun o' ho' e' he' hb'=>hc e.on o' ho' hl e' he' hb')
theorem Closed.step{listed:Array Bool}{i:Nat}(hc:Closed md ops listed)(hi:i∈Region.ready md ops listed):Closed md ops (listed.setIfInBounds i true):=by
 intro k o hk hl e he hb;obtain⟨h0,oi,hoi,hall⟩:=mem_ready.1 hi;by_cases hki:k=i
 ·subst hki;rw [hoi] at hk;obtain rfl:=Option.some.inj hk;exact getD_set_true (hall e he hb)
 ·rw [getD_set_ne false (fun e=>hki e.symm)] at hl;exact getD_set_true (hc k o hk hl e he hb)
abbrev PF:=List (Nat × List LO)
def VX(P:Program)(A:Amb)(md:Region.Mode)(ops:Array Oper)(K:St→Prop):Nat→Array Bool→PF→St→Prop
 | 0,listed,_,σ=>Region.ready md ops listed=[]∧K σ
 | fuel+1,listed,pf,σ=>(Region.ready md ops listed=[]→K σ)∧
   ∀i∈Region.ready md ops listed,∃o,ops[i]? =some o∧
    ((∃sv B,PSt P A ops B σ o sv∧VX P A md ops K fuel (listed.setIfInBounds i true) ((i,B)::pf) (σ.setO o.dst sv))∨
     (∃Z,hGv P A ops σ o Z∧∀sv L',Z sv L'→(∀p∈pf,hBq md ops ops.size p.1 i=true∨gQ8 p.2 L')∧VX P A md ops K fuel (listed.setIfInBounds i true) pf (St.setO ⟨σ.fr,L',σ.N⟩ o.dst sv)))
theorem VX.sub:∀(fuel:Nat)(listed:Array Bool)(pf pf':PF)(σ:St),(∀p∈pf',p∈pf)→VX P A md ops K fuel listed pf σ→VX P A md ops K fuel listed pf' σ
 | 0,_,_,_,_,_,h=>h
 | fuel+1,_,pf,pf',σ,hs,h=>⟨h.1,fun i hi=>by
   obtain⟨o,h1,h2⟩:=h.2 i hi;refine⟨o,h1,?_⟩;rcases h2 with ⟨sv,B,k1,k2⟩ | ⟨Z,k1,k2⟩
   ·refine .inl ⟨sv,B,k1,VX.sub fuel _ _ _ _ (fun p hp=>?_) k2⟩;rcases List.mem_cons.1 hp with rfl | hp
    ·simp
    ·simp [hs p hp]
   ·exact .inr ⟨Z,k1,fun sv L' hz=>⟨fun p hp=>(k2 sv L' hz).1 p (hs p hp),VX.sub fuel _ _ _ _ hs (k2 sv L' hz).2⟩⟩⟩
theorem VX.alike(hK:∀σ σ',Alike σ σ'→K σ→K σ'):∀(fuel:Nat)(listed:Array Bool)(pf:PF)(σ σ':St),Alike σ σ'→VX P A md ops K fuel listed pf σ→VX P A md ops K fuel listed pf σ'
 | 0,_,_,σ,σ',ha,h=>⟨h.1,hK _ _ ha h.2⟩
 | fuel+1,_,pf,σ,σ',ha,h=>⟨fun h0=>hK _ _ ha (h.1 h0),fun i hi=>by
   obtain⟨o,h1,h2⟩:=h.2 i hi;refine⟨o,h1,?_⟩;rcases h2 with ⟨sv,B,k1,k2⟩ | ⟨Z,k1,k2⟩
   ·exact .inl ⟨sv,B,k1.same ha.N.symm (by rw [←ha.L];exact k1.2.1) (fun t _=>(ha.fr t).symm),VX.alike hK fuel _ _ _ _ (ha.setO o.dst sv) k2⟩
   ·refine .inr ⟨Z,k1.same ha.N.symm ha.L.symm (fun t _=>(ha.fr t).symm),fun sv L' hz=>⟨(k2 sv L' hz).1,VX.alike hK fuel _ _ _ _ ?_ (k2 sv L' hz).2⟩⟩;have h0:Alike ⟨σ.fr,L',σ.N⟩ ⟨σ'.fr,L',σ'.N⟩:=⟨rfl,ha.N,ha.fr⟩
    exact h0.setO o.dst sv⟩
theorem hHv{o:Oper}{a:Act}{w:World}{next:Act→World→Prop}{R R':Exit→Act→World→Prop}(h:∀e a w,e≠.normal→R e a w→R' e a w)(hw:o.wp P a w next R∨(o.asks P a w∧LetsOut R)):o.wp P a w next R'∨(o.asks P a w∧LetsOut R'):=by
 have hl:LetsOut R→LetsOut R':=fun hl=>by
  obtain⟨a,w,hl⟩:=hl;exact⟨a,w,h _ _ _ (by simp) hl⟩
 refine hw.imp (fun hw=>?_) (fun hw=>⟨hw.1,hl hw.2⟩);unfold Oper.wp at *;generalize (execOp a.eval o).run P w=r at *;cases r with
 | ok n w'=>
   cases n with
   | enter f args=>
     simp only [Oper.upon] at hw ⊢;refine Calls.mono hw (fun e w'' he=>?_);cases e with
     | returned v=>exact he
     | panicked c=>exact h _ _ _ (by simp) he
     | outgrown=>exact hl he
   | _=>exact hw
 | halt x w'=>
   cases x with
   | panic v=>simp only [Oper.upon] at hw ⊢;exact h _ _ _ (by simp) hw
   | _=>exact hw
theorem VX.wp{R:Exit→Act→World→Prop}(hR:∀σ' a' w',K σ'→mY A σ' a' w'→R .normal a' w'):∀(fuel:Nat)(listed:Array Bool)(pf:PF)(σ:St)(a:Act)(w:World),mY A σ a w→
  VX P A md ops K fuel listed pf σ→wpAny P md ops R fuel listed a w
 | 0,_,_,_,_,_,hr,h=>⟨h.1,hR _ _ _ h.2 hr⟩
 | fuel+1,listed,pf,σ,a,w,hr,h=>by
   refine⟨fun h0=>hR _ _ _ (h.1 h0) hr,fun i hi=>?_⟩;obtain⟨o,h1,h2⟩:=h.2 i hi;unfold wpOp;simp only [h1];rcases h2 with ⟨sv,B,h2,h3⟩ | ⟨Z,h2,h3⟩
   ·have h2:=h2.ys;obtain⟨S,env,hH,hf,hN,hd⟩:=hr;have put:∀(S':Nat→Prop)(w':World)(v:Value),pW A S' σ.L env w'→Carry S σ.L env w S' σ.L env w'→SVr S' σ.L env w' sv v→mY A (σ.setO o.dst sv) (a.put o.dst v) w':=by
     intro S' w' v k1 k2 k3;cases hdst:o.dst with
     | none=>exact gBw hf hN hd k1 k2
     | some t=>exact uU hf hN hd (h2.1 t hdst) k1 k2 k3
    rcases h2.2 with ⟨g1,g2⟩ | ⟨g1,g2⟩
    ·rw [if_pos (Gd.wanted hf hN g1)];refine .inl (g2 S env a w hH (fun x _=>evr hf x) _ _ (fun v w' S' k1 k2 k3=>?_));exact VX.wp hR fuel _ _ _ _ _ (put S' w' v k1 k2 k3) h3
    ·rw [if_neg (by rw [Gd.wanted hf hN g1];simp)]
     exact VX.wp hR fuel _ _ _ _ _ (put S w undef hH Carry.refl (by rcases g2 with rfl | rfl;· simp only [SVr]
                                                                    ·simp only [SVr];exact⟨[],rfl,by simp [kP]⟩)) h3
   ·have h4:=h2 σ.fr (fun _ _=>rfl) (fun s=>VX P A md ops K fuel (listed.setIfInBounds i true) pf s) (fun sv L' hz=>(h3 sv L' hz).2);have h5:=h4 (fun e a' w'=>match e with | .normal=>wpAny P md ops R fuel (listed.setIfInBounds i true) a' w' | e=>R e a' w') (fun σ' a' w' k1 k2=>VX.wp hR fuel _ _ _ _ _ k2 k1) a w hr;unfold wpList at h5;split
    ·rename_i hw;rw [if_pos hw] at h5;refine hHv (R:=fun e a' w'=>match e with | .normal=>wpAny P md ops R fuel (listed.setIfInBounds i true) a' w' | e=>R e a' w') (fun e a w he h=>?_) (h5.imp (Oper.wp_mono (fun a w h=>h)) id);cases e<;>first | exact absurd rfl he | exact h
    ·rename_i hw;rw [if_neg hw] at h5;exact h5
theorem VX.first(hK:∀σ σ',Alike σ σ'→K σ→K σ'){i:Nat}{oi:Oper}{v:SV}{B:List LO}(hi:ops[i]? =some oi):∀(fuel:Nat)(listed:Array Bool)(pf:PF)(σ:St),Closed md ops listed→
  (∀(j:Nat)(oj:Oper),ops[j]? =some oj→j≠i→listed.getD j true=false→(∀e∈oj.after,Region.binds md e=true→e.on≠i)→oi.apart ops oj=true)→
  i∈Region.ready md ops listed→PSt P A ops B σ oi v→
  VX P A md ops K fuel (listed.setIfInBounds i true) ((i,B)::pf) (σ.setO oi.dst v)→VX P A md ops K (fuel+1) listed pf σ:=by
 intro fuel
 induction fuel with
 | zero=>
   intro listed pf σ hc _ hr hy H;refine⟨fun h=>(by rw [h] at hr;cases hr),fun j hj=>?_⟩;by_cases hji:j=i
   ·subst hji;exact⟨oi,hi,.inl ⟨v,B,hy,H⟩⟩
   ·have:=ready_mono hj hji
    rw [H.1] at this;cases this
 | succ fuel ih=>
   intro listed pf σ hc hfree hr hy H;refine⟨fun h=>(by rw [h] at hr;cases hr),fun j hj=>?_⟩;by_cases hji:j=i
   ·subst hji;exact⟨oi,hi,.inl ⟨v,B,hy,H⟩⟩
   ·obtain⟨oj,hoj,Hj⟩:=H.2 j (ready_mono hj hji);refine⟨oj,hoj,?_⟩;obtain⟨hjun,oj',hoj',hall⟩:=mem_ready.1 hj;rw [hoj] at hoj';obtain rfl:=Option.some.inj hoj';have hiun:=(mem_ready.1 hr).1;have hnot:∀e∈oj.after,Region.binds md e=true→e.on≠i:=fun e he hb heq=>by
     have h1:=hall e he hb;have h0:=hiun;rw [heq] at h1;rcases Nat.lt_or_ge i listed.size with h' | h'
     ·simp [h'] at h0 h1;rw [h0] at h1;cases h1
     ·simp [Array.getElem?_eq_none h'] at h1
    have hap:=hfree j oj hoj hji hjun hnot;obtain⟨a1,a2,a3⟩:=Oper.apart_spec hap
    have hfree':∀(k:Nat)(ok:Oper),ops[k]? =some ok→k≠i→(listed.setIfInBounds j true).getD k true=false→
      (∀e∈ok.after,Region.binds md e=true→e.on≠i)→oi.apart ops ok=true:=fun k ok hk hki hun hno=>by
     refine hfree k ok hk hki ?_ hno;by_cases hjk:j=k
     ·subst hjk;exact hjun
     ·rw [getD_set_ne true hjk] at hun;exact hun
    rcases Hj with ⟨u,Bj,hyj,Hj⟩ | ⟨Z,hyj,Hj⟩
    ·have s1:PSt P A ops Bj σ oj u:=hyj.same (gQ4 _ _ _).symm (by have:=hyj.2.1;rwa [gQ3] at this) (fun t ht=>(gI9 σ oi.dst v t (fun d hd e=>a1 d hd (e▸ht))).symm);have s2:PSt P A ops B (σ.setO oj.dst u) oi v:=hy.same (gQ4 _ _ _) (by rw [gQ3];exact hy.2.1) (fun t ht=>gI9 σ oj.dst u t (fun d hd e=>a3 d hd (e▸ht)));refine .inl ⟨u,Bj,s1,ih (listed.setIfInBounds j true) _ _ (hc.step hj) hfree' (ready_mono hr (Ne.symm hji)) s2 ?_⟩;rw [Array.setIfInBounds_comm _ _ hji]
     have:=VX.alike hK fuel _ _ _ _ (gQ5 σ oi.dst oj.dst v u a2) Hj
     refine VX.sub fuel _ _ _ _ (fun p hp=>?_) this;simp only [List.mem_cons] at hp ⊢;rcases hp with h | h | h
     ·exact .inr (.inl h)
     ·exact .inl h
     ·exact .inr (.inr h)
    ·have s1:hGv P A ops σ oj Z:=hyj.same (gQ4 _ _ _).symm (gQ3 _ _ _).symm (fun t ht=>(gI9 σ oi.dst v t (fun d hd e=>a1 d hd (e▸ht))).symm);refine .inr ⟨Z,s1,fun u L' hz=>?_⟩;obtain⟨hk,Hj⟩:=Hj u L' hz;have hkeep:gQ8 B L':=by
      rcases hk (i,B) (by simp)with h | h
      ·have:=gS1 hc _ _ _ h (fun o ho e he hb=>by rw [hoj] at ho;obtain rfl:=Option.some.inj ho;exact hall e he hb)
       rcases Nat.lt_or_ge i listed.size with h' | h'
       ·simp [h'] at hiun this;rw [hiun] at this;cases this
       ·simp [Array.getElem?_eq_none h'] at this
      ·exact h
     have s2:PSt P A ops B (St.setO ⟨σ.fr,L',σ.N⟩ oj.dst u) oi v:=hy.same (σ:=σ) (by rw [gQ4]) (by rw [gQ3];exact hkeep) (fun t ht=>gI9 ⟨σ.fr,L',σ.N⟩ oj.dst u t (fun d hd e=>a3 d hd (e▸ht)));refine⟨fun p hp=>hk p (by simp [hp]),ih (listed.setIfInBounds j true) _ _ (hc.step hj) hfree' (ready_mono hr (Ne.symm hji)) s2 ?_⟩;rw [Array.setIfInBounds_comm _ _ hji];have hal:Alike (St.setO ⟨(σ.setO oi.dst v).fr,L',(σ.setO oi.dst v).N⟩ oj.dst u) ((St.setO ⟨σ.fr,L',σ.N⟩ oj.dst u).setO oi.dst v):=by
      have h1:=gQ5 ⟨σ.fr,L',σ.N⟩ oi.dst oj.dst v u a2;have h0:Alike ⟨(σ.setO oi.dst v).fr,L',(σ.setO oi.dst v).N⟩ (St.setO ⟨σ.fr,L',σ.N⟩ oi.dst v):=by
       cases oi.dst<;>exact Alike.refl
      exact(h0.setO oj.dst u).trans h1
     exact VX.alike hK fuel _ _ _ _ hal Hj
def gO6(md:Region.Mode)(ops:Array Oper):List (Nat × Bool)→Array Bool→Bool
 | [],listed=>(Region.ready md ops listed).isEmpty
 | (i,true)::r,listed=>(Region.ready md ops listed).contains i && Region.free md ops listed i && gO6 md ops r (listed.setIfInBounds i true)
 | (i,false)::r,listed=>(Region.ready md ops listed==[i]) && gO6 md ops r (listed.setIfInBounds i true)
def VY(P:Program)(A:Amb)(ops:Array Oper)(K:St→Prop):List (Nat × Bool)→PF→St→Prop
 | [],_,σ=>K σ
 | (i,true)::r,pf,σ=>∃o sv,ops[i]? =some o∧PSt P A ops σ.L σ o sv∧VY P A ops K r ((i,σ.L)::pf) (σ.setO o.dst sv)
 | (i,false)::r,pf,σ=>∃o Z,ops[i]? =some o∧hGv P A ops σ o Z∧∀sv L',Z sv L'→(∀p∈pf,hBq .any ops ops.size p.1 i=true∨gQ8 p.2 L')∧VY P A ops K r pf (St.setO ⟨σ.fr,L',σ.N⟩ o.dst sv)
theorem hOw{i:Nat}{r:List (Nat × Bool)}{pf:PF}{o:Oper}{sv:SV}{L':List LO}(h:ops[i]? =some o∧HSt P A ops σ o sv L'∧(∀p∈pf,hBq .any ops ops.size p.1 i=true∨gQ8 p.2 L')∧VY P A ops K r pf (St.setO ⟨σ.fr,L',σ.N⟩ o.dst sv)):VY P A ops K ((i,false)::r) pf σ:=
 ⟨o,_,h.1,h.2.1.e,fun s l hz=>by obtain⟨rfl,rfl⟩:=hz;exact h.2.2⟩
theorem VY.vx(hK:∀σ σ',Alike σ σ'→K σ→K σ'):∀(l:List (Nat × Bool))(listed:Array Bool)(pf:PF)(σ:St),Closed .any ops listed→gO6 .any ops l listed=true→VY P A ops K l pf σ→VX P A .any ops K l.length listed pf σ
 | [],_,_,_,_,hB,h=>⟨by simpa [gO6] using hB,h⟩
 | (i,true)::l,listed,pf,σ,hc,hB,h=>by
   simp only [gO6,Bool.and_eq_true] at hB;obtain⟨o,sv,h1,h2,h3⟩:=h;have hr:i∈Region.ready .any ops listed:=by simpa using hB.1.1
   exact VX.first hK h1 l.length listed pf σ hc (Region.free_spec h1 hB.1.2) hr h2 (VY.vx hK l _ _ _ (hc.step hr) hB.2 h3)
 | (i,false)::l,listed,pf,σ,hc,hB,h=>by
   simp only [gO6,Bool.and_eq_true,beq_iff_eq] at hB;obtain⟨o,Z,h1,h2,h3⟩:=h;show VX P A .any ops K (l.length+1) listed pf σ;refine⟨fun h0=>(by rw [hB.1] at h0;cases h0),fun j hj=>?_⟩;rw [hB.1] at hj;obtain rfl:j=i:=by simpa using hj
   have hr:j∈Region.ready .any ops listed:=by rw [hB.1];simp
   exact⟨o,h1,.inr ⟨Z,h2,fun sv L' hz=>⟨(h3 sv L' hz).1,VY.vx hK l _ _ _ (hc.step hr) hB.2 (h3 sv L' hz).2⟩⟩⟩
theorem VY.mono{K':St→Prop}(hK:∀s,K s→K' s):∀(l:List (Nat × Bool))(pf:PF)(σ:St),VY P A ops K l pf σ→VY P A ops K' l pf σ
 | [],_,_,h=>hK _ h
 | (_,true)::l,_,_,⟨o,sv,h1,h2,h3⟩=>⟨o,sv,h1,h2,VY.mono hK l _ _ h3⟩
 | (_,false)::l,_,_,⟨o,Z,h1,h2,h3⟩=>⟨o,Z,h1,h2,fun sv L' hz=>⟨(h3 sv L' hz).1,VY.mono hK l _ _ (h3 sv L' hz).2⟩⟩
theorem yL {id:Nat}{l:List Oper}{Q:Exit→St→Prop}(hm:P.follows .mixedOrders=true)(ord:List (Nat × Bool))(hB:(gO6 .any l.toArray ord (Array.replicate l.length false) && ord.length==l.length)=true)
  (h:VY P A l.toArray (Q .normal) ord [] σ):V P A (.region id l.toArray true) σ Q:=by
 intro a w hr;simp only [Bool.and_eq_true,beq_iff_eq] at hB;refine wp_region_any hm ?_;have h1:=VY.mono (K':=fun s=>∃s',Alike s s'∧Q .normal s') (fun s hs=>⟨s,.refl,hs⟩) ord [] σ h;have hc:Closed .any l.toArray (Array.replicate l.length false):=fun k o _ hl=>by rw [Array.getD_eq_getD_getElem?,Array.getElem?_replicate] at hl;split at hl<;>simp at hl
 have h2:=VY.vx (fun σ σ' ha ⟨s',k1,k2⟩=>⟨s',ha.symm.trans k1,k2⟩) ord _ _ _ hc hB.1 h1;rw [hB.2] at h2;have h3:=VX.wp (R:=fun e a' w'=>∃σ',Q e σ'∧mY A σ' a' w') (fun s a' w' ⟨s',k1,k2⟩ hr'=>⟨s',k2,k1.realz hr'⟩) l.length _ _ σ a _ hr.drew h2;simpa using h3
theorem jS {id:Nat}{l:List Oper}{y:Code}{Q:Exit→St→Prop}(hm:P.follows .mixedOrders=true)(ord:List (Nat × Bool))(hB:(gO6 .any l.toArray ord (Array.replicate l.length false) && ord.length==l.length)=true)
  (h:VY P A l.toArray (fun s=>V P A y s Q) ord [] σ):V P A (.seq (.region id l.toArray true) y) σ Q:=kI (yL hm ord hB h)
end
def hXb(P:Program)(T:TypeId)(f:Nat):Option (Nat × Nat):=
 match P.underlying T with
 | some (.struct fs)=>match fs[f]? with
   | some fd=>(P.info? fd.type).map fun i=>(fd.offset,i.size)
   | none=>none
 | _=>none
def tyB(P:Program)(T:TypeId):Bool:=
 match P.underlying T with
 | some (.struct fs)=>fs.toList.all fun fd=>(P.info? fd.type).isSome
 | _=>false
class TFS (P:Program) (T:TypeId) (f:Nat) (fo n:outParam Nat):Prop where
 h:hXb P T f=some (fo,n)
class TBd (P:Program) (T:TypeId):Prop where
 h:tyB P T=true
inductive BdR (P:Program)(σ:St)(T:TypeId):List (Nat × Operand)→List SV→List SV→Prop
 | nil {cs:List SV}:BdR P σ T [] cs cs
 | cons {f fo n:Nat} {x:Operand} {ps:List (Nat × Operand)} {cs cs' r ds:List SV} [TFS P T f fo n] (hx:Cl (σ.ev x) ds) (hn:ds.length=n) (hp:Pt fo ds cs cs') (h:BdR P σ T ps cs' r):BdR P σ T ((f,x)::ps) cs r
theorem gYz(off:Nat):∀(vs:List Value)(k:Nat)(cells:Array Value),off+k+vs.length≤cells.size→
  ((vs.zipIdx k).foldl (fun cs x=>cs.setIfInBounds (off+x.2) x.1) cells).toList=cells.toList.take (off+k)++vs++cells.toList.drop (off+k+vs.length)
 | [],k,cells,_=>by simp
 | v::vs,k,cells,h=>by
   simp only [List.length_cons] at h;simp only [List.zipIdx_cons,List.foldl_cons];rw [gYz off vs (k+1) _ (by simp;omega)];simp only [Array.toList_setIfInBounds,List.length_cons];have hlt:off+k < cells.toList.length:=by simp;omega
   have e1:(cells.toList.set (off+k) v).take (off+(k+1))=cells.toList.take (off+k)++[v]:=by
    rw [List.set_eq_take_append_cons_drop,if_pos hlt,List.take_append,List.take_of_length_le (by simp;omega)]
    have:off+(k+1) - (cells.toList.take (off+k)).length=1:=by simp only [List.length_take];omega
    rw [this];simp
   have e2:(cells.toList.set (off+k) v).drop (off+(k+1)+vs.length)=cells.toList.drop (off+k+(vs.length+1)):=by
    rw [List.drop_set_of_lt (by omega)];congr 1;omega
   rw [e1,e2];simp
theorem gPs{place:Nat→Option (Nat × Nat)}{off n:Nat}{i:Nat}{v:Value}{rest:List (Nat × Value)}{cells:Array Value}(hp:place i=some (off,n))(hn:v.cells.size=n)(hf:off+n≤cells.size) :
  Instr.fill place cells ((i,v)::rest)=Instr.fill place (cells.toList.take off++v.cells.toList++cells.toList.drop (off+n)).toArray rest:=by
 rw [Instr.fill,hp];simp only;rw [if_neg (by simp only [ne_eq,hn,not_true_eq_false,decide_false,Bool.false_or,decide_eq_true_eq];omega)];congr 1;apply Array.ext';have h1:=gYz off v.cells.toList 0 cells (by simp;omega);rw [←Array.foldl_toList,Array.toList_zipIdx];simp only [Nat.add_zero] at h1;rw [h1];simp [hn]
section
variable {P:Program}{A:Amb}{σ:St}{K:St→Prop}
variable {dst:Option Nat}{ty:TypeId}{pos:String}{af:Array Edge}{g:Option (Nat × Bool)}{x y:Operand}{sv:SV}
theorem gQ9{P:Program}(w:World):∀(fs:List Field),(fs.all fun fd=>(P.info? fd.type).isSome)=true→
  ∃pl:List (Nat × Nat),(fs.mapM (fun f=>do pure (f.offset,←sizeOf f.type)):Sem (List (Nat × Nat))).run P w=.ok pl w∧∀(i:Nat)(fd:Field),fs[i]? =some fd→∃inf,P.info? fd.type=some inf∧pl[i]? =some (fd.offset,inf.size)
 | [],_=>⟨[],by simp,fun i fd h=>by simp at h⟩
 | f::fs,h=>by
   simp only [List.all_cons,Bool.and_eq_true] at h;obtain⟨inf,hi⟩:=Option.isSome_iff_exists.1 h.1;obtain⟨pl,h1,h2⟩:=gQ9 w fs h.2;refine⟨(f.offset,inf.size)::pl,?_,fun i fd hfd=>?_⟩
   ·simp only [List.mapM_cons,Sem.run_bind,sizeOf,run_typeInfo hi,Result.andThen_ok,Sem.run_pure] at h1 ⊢;rw [h1];rfl
   ·cases i with
    | zero=>simp at hfd;subst hfd;exact⟨inf,hi,rfl⟩
    | succ i=>simp only [List.getElem?_cons_succ] at hfd ⊢;exact h2 i fd hfd
theorem BdR.run {S:Nat→Prop}{L:List LO}{env:List Value}{w:World}{a:Act}{T:TypeId}{fs:Array Field}{pl:List (Nat × Nat)}(hund:P.underlying T=some (.struct fs))
  (hpl:∀(i:Nat)(fd:Field),fs[i]? =some fd→∃inf,P.info? fd.type=some inf∧pl[i]? =some (fd.offset,inf.size)) {ps:List (Nat × Operand)} {cs r:List SV} (h:BdR P σ T ps cs r) :
  ∀(vals:Array Value),(∀p∈ps,SVr S L env w (σ.ev p.2) (a.eval p.2))→kP S L env w cs vals.toList→
  ∃vals',Instr.fill (fun i=>pl[i]?) vals (ps.map fun p=>(p.1,a.eval p.2))=some vals'∧kP S L env w r vals'.toList:=by
 induction h with
 | nil=>intro vals _ hv;exact⟨vals,rfl,hv⟩
 | @cons f fo n x ps cs cs' r ds tfs hx hn hp h ih=>
   intro vals hps hv;have h0:=tfs.h;unfold hXb at h0;rw [hund] at h0;simp only at h0;cases hfd:fs[f]? with
   | none=>rw [hfd] at h0;cases h0
   | some fd=>
     rw [hfd] at h0;obtain⟨inf,hi,hpi⟩:=hpl f fd hfd;simp only [hi,Option.map_some,Option.some.injEq,Prod.mk.injEq] at h0;rw [h0.1,h0.2] at hpi;obtain⟨hc1,hc2⟩:=hx.spec;have hxv:=hps (f,x) (by simp);obtain⟨k1,k2⟩:=SVr.cellsr (sv:=σ.ev x) (by rw [hc1];exact hc2) hxv;rw [hc1] at k1;have hl:=kP.length k1;have hlv:=kP.length hv;obtain⟨q1,q2⟩:=hp.spec;have hsz:(a.eval x).cells.size=n:=by rw [←hn,hl];simp
     have:=gPs (place:=fun i=>pl[i]?) (rest:=ps.map fun p=>(p.1,a.eval p.2)) (cells:=vals) hpi hsz (by rw [←hn];simp at hlv;omega)
     simp only [List.map_cons];rw [this];refine ih _ (fun p hp=>hps p (by simp [hp])) ?_;rw [←q2,kP.iff];rw [kP.iff] at hv k1;rw [hn];exact yZ.append (yZ.append (yZ.take fo hv) k1) (yZ.drop (fo+n) hv)
theorem jN{T:TypeId}{ps:Array (Nat × Operand)}{zs:List Value}{cs r:List SV}(hB:tyB P T=true)(hz:tyZ P T=some zs)(hcs:zs.map gHh=cs)(h:BdR P σ T ps.toList cs r) :
  Quiet P A σ ⟨dst,.build T ps,ty,pos,af,g⟩ (.ag r):=Quiet.pure fun S env a w hH ho=>by
 subst hcs;unfold tyB at hB;cases hund:P.underlying T with
 | none=>rw [hund] at hB;cases hB
 | some d=>
   rw [hund] at hB;cases d with
   | struct fs=>
     simp only at hB;obtain⟨z,hrun,hcells⟩:=gNy hz w;obtain⟨pl,h1,h2⟩:=gQ9 (P:=P) w fs.toList hB;have hvals:kP S σ.L env w (zs.map gHh) z.cells.toList:=by rw [hcells];exact gL9 zs
     obtain⟨vals',k1,k2⟩:=h.run (a:=a) hund (pl:=pl) (fun i fd hfd=>h2 i fd (by simpa using hfd)) z.cells (fun p hp=>ho p.2 (by simp only [Op.operands];exact List.mem_map.2 ⟨p,hp,rfl⟩)) hvals;refine⟨.agg vals',?_,?_⟩
     ·have hmap:(fs.mapM (fun f=>do pure (f.offset,←sizeOf f.type)):Sem (Array (Nat × Nat))).run P w=.ok pl.toArray w:=by
       rw [←Array.toArray_toList (xs:=fs)];simp only [List.mapM_toArray,Sem.run_map];rw [h1];rfl
      have hparts:(ps.map fun(i,x)=>(i,a.eval x)).toList=ps.toList.map fun p=>(p.1,a.eval p.2):=by simp
      have hfill:Instr.fill (fun i=>pl.toArray[i]?) z.cells (ps.map fun(i,x)=>(i,a.eval x)).toList=some vals':=by
       rw [hparts];simpa using k1
      simp only [execOp,Instr.build,Sem.run_bind,hrun,Result.andThen_ok,run_underlying hund,hmap,hfill,Sem.run_pure]
     ·simp only [SVr];exact⟨vals'.toList,by simp,k2⟩
   | _=>cases hB
end
inductive hSv (P:Program)(T:TypeId)(f:Nat):SV→SV→Prop
 | ptr {i off fo:Nat} [TF P T f fo]:hSv P T f (.ptr i off) (.ptr i (off+fo))
 | dp {us:List U} {u:U} {fo:Nat} [TF P T f fo] (h:us[f]? =some u) (h2:U.szs (us.take f)=fo):hSv P T f (.dp (.st us)) (.dp u)
inductive hQj (P:Program)(T:TypeId):SV→Int→Prop
 | sl {z:Nat} {us:List U} {e:TypeId} [TE P T e]:hQj P T (.d (.sl z us)) us.length
 | nil {e:TypeId} [TE P T e]:hQj P T .nilsl 0
 | str {l:LB} [TS P T]:hQj P T (.d (.s l)) l.length
inductive QE (P:Program)(σ:St):Oper→SV→Prop
 | move {dst:Option Nat} {ty:TypeId} {pos:String} {af:Array Edge} {g:Option (Nat × Bool)} {x:Operand} {sv:SV} (h:Nf (σ.ev x) sv):QE P σ ⟨dst,.move x,ty,pos,af,g⟩ sv
 | assign {dst:Option Nat} {ty:TypeId} {pos:String} {af:Array Edge} {g:Option (Nat × Bool)} {x:Operand} {sv:SV} (h:Nf (σ.ev x) sv):QE P σ ⟨dst,.assign x,ty,pos,af,g⟩ sv
 | field {dst:Option Nat} {ty:TypeId} {pos:String} {af:Array Edge} {g:Option (Nat × Bool)} {x:Operand} {sv:SV} {T:TypeId} {f:Nat} (h:hSv P T f (σ.ev x) sv):QE P σ ⟨dst,.fieldAddr T x f,ty,pos,af,g⟩ sv
 | load {dst:Option Nat} {ty:TypeId} {pos:String} {af:Array Edge} {g:Option (Nat × Bool)} {x:Operand} {sv:SV} {T:TypeId} (h:LdR P σ.L T (σ.ev x) sv):QE P σ ⟨dst,.load T x,ty,pos,af,g⟩ sv
 | bin {dst:Option Nat} {ty:TypeId} {pos:String} {af:Array Edge} {g:Option (Nat × Bool)} {x y:Operand} {sv:SV} {op:BinOp} {T T':TypeId} (h:hDa P T op (σ.ev x) (σ.ev y) sv):QE P σ ⟨dst,.binOp op T x y T',ty,pos,af,g⟩ sv
 | len {dst:Option Nat} {ty:TypeId} {pos:String} {af:Array Edge} {g:Option (Nat × Bool)} {x:Operand} {T:TypeId} {n:Int} (h:hQj P T (σ.ev x) n):QE P σ ⟨dst,.call { callee:=.builtin .len,args:=#[x],argTypes:=#[T] },ty,pos,af,g⟩ (.d (.i .i64 n))
 | not {dst:Option Nat} {ty:TypeId} {pos:String} {af:Array Edge} {g:Option (Nat × Bool)} {x:Operand} {T:TypeId} {t:Bool} (h:σ.ev x=.d (.b t)):QE P σ ⟨dst,.unOp .not T x,ty,pos,af,g⟩ (.d (.b (!t)))
 | pick {dst:Option Nat} {ty:TypeId} {pos:String} {af:Array Edge} {g:Option (Nat × Bool)} {c x y:Operand} {sv:SV} (h:PkR (σ.ev c) (σ.ev x) (σ.ev y) sv):QE P σ ⟨dst,.pick c x y,ty,pos,af,g⟩ sv
 | extract {dst:Option Nat} {ty:TypeId} {pos:String} {af:Array Edge} {g:Option (Nat × Bool)} {x:Operand} {n:Nat} {vs:List SV} {c sv:SV} (h:σ.ev x=.tup vs) (h2:vs[n]? =some c) (h3:Nf c sv):QE P σ ⟨dst,.extract x n,ty,pos,af,g⟩ sv
 | build {dst:Option Nat} {ty:TypeId} {pos:String} {af:Array Edge} {g:Option (Nat × Bool)} {T:TypeId} {ps:Array (Nat × Operand)} {zs:List Value} {cs r:List SV} [TBd P T] [TZ P T zs] (hcs:zs.map gHh=cs) (h:BdR P σ T ps.toList cs r):QE P σ ⟨dst,.build T ps,ty,pos,af,g⟩ (.ag r)
theorem QE.quiet{P:Program}{A:Amb}{σ:St}{o:Oper}{sv:SV}(h:QE P σ o sv):Quiet P A σ o sv:=by
 cases h with
 | move h=>exact hEc h.eq
 | assign h=>exact gUe h.eq
 | @field dst ty pos af g x sv T f h=>
   generalize hx:σ.ev x=e at h;cases h with
   | @ptr i off fo tf=>exact gRk hx tf.h
   | @dp us u fo tf h h2=>exact gS7 hx tf.h h h2
 | load h=>exact(QD.load h).quiet
 | bin h=>exact(QD.bin h).quiet
 | @len dst ty pos af g x T n h=>
   generalize hx:σ.ev x=e at h;cases h with
   | @sl z us e te=>exact hMw hx te.h
   | @nil e te=>exact gVs hx te.h
   | @str l ts=>exact gVt hx ts.h
 | not h=>exact hO9 h
 | pick h=>exact(QD.pick h).quiet
 | extract h h2 h3=>exact gQ1 h (h3.eq▸h2)
 | @build dst ty pos af g T ps zs cs r tb tz hcs h=>exact jN tb.h tz.h hcs h
theorem LdR.keep{P:Program}{L L':List LO}{T:TypeId}{sv sv':SV}(hk:gQ8 L L')(h:LdR P L T sv sv'):LdR P L' T sv sv':=by
 cases h with
 | one h h2 h3=>exact .one (hk _ _ h) h2 h3
 | many h h2=>exact .many (hk _ _ h) h2
 | dp h h2=>exact .dp h h2
theorem BdR.same{P:Program}{σ σ':St}{T:TypeId}{ps:List (Nat × Operand)}{cs r:List SV}(h:BdR P σ T ps cs r):(∀p∈ps,σ'.ev p.2=σ.ev p.2)→BdR P σ' T ps cs r:=by
 induction h with
 | nil=>intro _;exact .nil
 | cons hx hn hp h ih=>intro he;exact .cons (by rw [he _ (List.mem_cons_self ..)];exact hx) hn hp (ih fun p hp=>he p (by simp [hp]))
theorem QE.frame{P:Program}{σ σ':St}{o:Oper}{sv:SV}(h:QE P σ o sv)(he:∀x∈o.op.operands.toList,σ'.ev x=σ.ev x)(hk:gQ8 σ.L σ'.L):QE P σ' o sv:=by
 cases h with
 | move h=>exact .move (by rw [he _ (by simp [Op.operands])];exact h)
 | assign h=>exact .assign (by rw [he _ (by simp [Op.operands])];exact h)
 | field h=>exact .field (by rw [he _ (by simp [Op.operands])];exact h)
 | load h=>exact .load (by rw [he _ (by simp [Op.operands])];exact h.keep hk)
 | bin h=>exact .bin (by rw [he _ (by simp [Op.operands]),he _ (by simp [Op.operands])];exact h)
 | len h=>exact .len (by rw [he _ (by simp [Op.operands,Call.operands])];exact h)
 | not h=>exact .not (by rw [he _ (by simp [Op.operands])];exact h)
 | pick h=>exact .pick (by rw [he _ (by simp [Op.operands]),he _ (by simp [Op.operands]),he _ (by simp [Op.operands])];exact h)
 | extract h h2 h3=>exact .extract (by rw [he _ (by simp [Op.operands])];exact h) h2 h3
 | build hcs h=>exact .build hcs (h.same fun p hp=>he p.2 (by simp only [Op.operands];exact List.mem_map.2 ⟨p,hp,rfl⟩))
inductive QFb (P:Program):Bool→St→Oper→SV→Prop
 | run {o:Oper} {σ:St} {sv:SV} (h:QE P σ o sv):QFb P true σ o sv
 | pass {o:Oper} {σ:St}:QFb P false σ o .junk
inductive QF (P:Program)(ops:Array Oper):Oper→St→Nat→SV→Prop
 | plain {t:Nat} {op:Op} {ty:TypeId} {pos:String} {af:Array Edge} {sv:SV} {σ:St} (h:QE P σ ⟨some t,op,ty,pos,af,none⟩ sv) (ht:Nat.blt t σ.N=true):QF P ops ⟨some t,op,ty,pos,af,none⟩ σ t sv
 | guard {t:Nat} {op:Op} {ty:TypeId} {pos:String} {af:Array Edge} {j tj:Nat} {want b:Bool} {o':Oper} {sv:SV} {σ:St} (hj:ops[j]? =some o') (hd:o'.dst=some tj) (htj:Nat.blt tj σ.N=true) (ht:Nat.blt t σ.N=true)
   (hb:GdR want (look σ.fr tj) b) (h:QFb P b σ ⟨some t,op,ty,pos,af,some (j,want)⟩ sv):QF P ops ⟨some t,op,ty,pos,af,some (j,want)⟩ σ t sv
section
variable {P:Program}{A:Amb}{ops:Array Oper}{K:St→Prop}{r:List (Nat × Bool)}{pf:PF}{o:Oper}{fr:List (Nat × SV)}{L L':List LO}{N i t:Nat}{sv:SV}
theorem QF.dst{σ:St}(h:QF P ops o σ t sv):o.dst=some t:=by cases h<;>rfl
theorem QF.pst{σ:St}(h:QF P ops o σ t sv):PSt P A ops σ.L σ o sv:=by
 cases h with
 | @plain t op ty pos af sv σ h ht=>
   exact⟨fun d hd=>(by cases hd;exact ht),gQ8.refl _,.inl ⟨rfl,fun fr' L' he hk=>(h.frame (σ':=⟨fr',L',σ.N⟩) he hk).quiet⟩⟩
 | @guard t op ty pos af j tj want b o' sv σ hj hd htj ht hb h=>
   refine⟨fun d hd=>(by cases hd;exact ht),gQ8.refl _,?_⟩;have htj':tj < σ.N:=by simpa [Nat.blt_eq] using htj
   generalize hl:look σ.fr tj=e at hb;cases h with
   | run h=>
     refine .inl ⟨?_,fun fr' L' he hk=>(h.frame (σ':=⟨fr',L',σ.N⟩) he hk).quiet⟩;cases hb with
     | tt=>exact⟨o',tj,hj,hd,htj',.inl ⟨true,hl,rfl⟩⟩
     | ff=>exact⟨o',tj,hj,hd,htj',.inl ⟨_,hl,rfl⟩⟩
   | pass=>
     refine .inr ⟨?_,.inl rfl⟩;cases hb with
     | tf=>exact⟨o',tj,hj,hd,htj',.inl ⟨_,hl,rfl⟩⟩
     | ft=>exact⟨o',tj,hj,hd,htj',.inl ⟨_,hl,rfl⟩⟩
theorem mJ(h:K ⟨fr,L,N⟩):VY P A ops K [] pf ⟨fr,L,N⟩:=h
theorem hSx(hi:ops[i]? =some o)(hv:VY P A ops K r ((i,L)::pf) ⟨(t,sv)::fr,L,N⟩)(h:QF P ops o ⟨fr,L,N⟩ t sv:=by(repeat(first | exact Rng.mk (by omega) (by omega) | constructor));first | done | fail):VY P A ops K ((i,true)::r) pf ⟨fr,L,N⟩:=by
 refine⟨o,sv,hi,h.pst,?_⟩;rw [h.dst];exact hv
inductive vU (ops:Array Oper)(i:Nat)(L':List LO):PF→Prop
 | nil:vU ops i L' []
 | keep {k:Nat} {B:List LO} {pf:PF} (h:Kp B L') (h2:vU ops i L' pf):vU ops i L' ((k,B)::pf)
 | dep {k:Nat} {B:List LO} {pf:PF} (h:hBq .any ops ops.size k i=true) (h2:vU ops i L' pf):vU ops i L' ((k,B)::pf)
theorem vU.ok(h:vU ops i L' pf):∀p∈pf,hBq .any ops ops.size p.1 i=true∨gQ8 p.2 L':=by
 induction h with
 | nil=>intro p hp;cases hp
 | keep h h2 ih=>
   intro p hp;rcases List.mem_cons.1 hp with rfl | hp
   ·exact .inr h.keep
   ·exact ih p hp
 | dep h h2 ih=>
   intro p hp;rcases List.mem_cons.1 hp with rfl | hp
   ·exact .inl h
   ·exact ih p hp
inductive OH (P:Program)(σ:St):Oper→SV→List LO→Prop
 | box {t:Nat} {T:TypeId} {x:Operand} {ty:TypeId} {pos:String} {af:Array Edge} {L':List LO} {i:Nat} {cs:List SV} (h:Cl (σ.ev x) cs) (ht:Nat.blt t σ.N=true) (h2:Sn (.box cs) σ.L i L'):OH P σ ⟨some t,.box T x,ty,pos,af,none⟩ (.ptr i 0) L'
 | alloc {t:Nat} {T:TypeId} {ty:TypeId} {pos:String} {af:Array Edge} {L':List LO} {i:Nat} {zs:List Value} {cs:List SV} [TZ P T zs] (hc:zs.map gHh=cs) (hs:SV.ones cs=true) (ht:Nat.blt t σ.N=true) (h2:Sn (.box cs) σ.L i L'):OH P σ ⟨some t,.alloc T,ty,pos,af,none⟩ (.ptr i 0) L'
 | store {T:TypeId} {x y:Operand} {ty:TypeId} {pos:String} {af:Array Edge} {L':List LO} {i off n bs:Nat} {g:Bool} {cs ds cs':List SV} (hx:σ.ev x=.ptr i off) (hL:σ.L[i]? =some (.box cs)) (hy:Cl (σ.ev y) ds) [TI P T g n bs] (hn:ds.length=n) (hp:Pt off ds cs cs') (hs:St1 (.box cs') i σ.L L'):OH P σ ⟨none,.store T x y,ty,pos,af,none⟩ .junk L'
theorem OH.vo{o:Oper}{sv:SV}(h:OH P ⟨fr,L,N⟩ o sv L'){rest:List Oper}(hv:VO P A ops rest (St.setO ⟨fr,L',N⟩ o.dst sv) K):VO P A ops (o::rest) ⟨fr,L,N⟩ K:=by
 cases h with
 | box h ht h2=>exact hKu rfl h.spec.1 h.spec.2 ht h2.spec.1 h2.spec.2 hv
 | @alloc t T ty pos af L' i zs cs tz hc hs ht h2=>exact gZc tz.h hc hs ht h2.spec.1 h2.spec.2 hv
 | @store T x y ty pos af L' i off n bs g cs ds cs' hx hL hy ti hn hp hs=>
   subst hn;exact gZd hx hL rfl hy.spec.1 hy.spec.2 ti.h rfl (Nat.ble_eq_true_of_le hp.spec.1) hp.spec.2 hs.spec hv
theorem OH.frame{fr':List (Nat × SV)}(he:∀x∈o.op.operands.toList,St.ev ⟨fr',L,N⟩ x=St.ev ⟨fr,L,N⟩ x)(h:OH P ⟨fr,L,N⟩ o sv L'):OH P ⟨fr',L,N⟩ o sv L':=by
 cases h with
 | box h ht h2=>exact .box (by rw [he _ (by simp [Op.operands])];exact h) ht h2
 | alloc hc hs ht h2=>exact .alloc hc hs ht h2
 | store hx hL hy hn hp hs=>exact .store (by rw [he _ (by simp [Op.operands])];exact hx) hL (by rw [he _ (by simp [Op.operands])];exact hy) hn hp hs
theorem hSy{o:Oper}(hi:ops[i]? =some o)(h:OH P ⟨fr,L,N⟩ o sv L')(hp:vU ops i L' pf)(hv:VY P A ops K r pf (St.setO ⟨fr,L',N⟩ o.dst sv)):VY P A ops K ((i,false)::r) pf ⟨fr,L,N⟩:=
 hOw ⟨hi,fun fr' he _ hK=>(h.frame (fr':=fr') he).vo (gDc hK),hp.ok,hv⟩
end
end Go.Eng
