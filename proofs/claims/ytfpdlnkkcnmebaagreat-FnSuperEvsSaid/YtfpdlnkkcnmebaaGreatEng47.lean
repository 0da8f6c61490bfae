import Derived.Test.YtfpdlnkkcnmebaaGreatEng40
set_option linter.unusedVariables false
set_option linter.unusedSimpArgs false
namespace Go.Eng
open Go Go.RowKit
inductive OT where
 | nil
 | q (i:Nat) (t:OT)
 | h (i:Nat) (t r:OT)
def OT.heads:OT→List Nat
 | .h i _ r=>i::r.heads
 | _=>[]
def gHh(md:Region.Mode)(ops:Array Oper):OT→Nat→Array Bool→Bool→Bool
 | .nil,n,listed,b=>b || (n==0 && (Region.ready md ops listed).isEmpty)
 | .q i t,n,listed,b=> !b && Nat.blt 0 n && (Region.ready md ops listed).contains i && Region.free md ops listed i && gHh md ops t (n - 1) (listed.setIfInBounds i true) false
 | .h i t r,n,listed,b=>Nat.blt 0 n && (b || Region.ready md ops listed==i::r.heads) && gHh md ops t (n - 1) (listed.setIfInBounds i true) false && gHh md ops r n listed true
section
variable {P:Program}{A:Amb}{ops:Array Oper}{K:St→Prop}{σ σ':St}{t r:OT}{pf:PF}{i:Nat}{b:Bool}
def VT(P:Program)(A:Amb)(ops:Array Oper)(K:St→Prop):OT→PF→St→Bool→Prop
 | .nil,_,σ,b=>b=true∨K σ
 | .q i t,pf,σ,_=>∃o sv B,ops[i]? =some o∧PSt P A ops B σ o sv∧VT P A ops K t ((i,B)::pf) (σ.setO o.dst sv) false
 | .h i t r,pf,σ,_=>(∃o Z,ops[i]? =some o∧hDw P A ops σ o Z∧∀sv L',Z sv L'→(∀p∈pf,gZr .any ops ops.size p.1 i=true∨gP7 p.2 L')∧VT P A ops K t pf (St.setO ⟨σ.fr,L',σ.N⟩ o.dst sv) false)∧VT P A ops K r pf σ true
theorem VT.vx(hK:∀σ σ',Alike σ σ'→K σ→K σ'):∀(T:OT)(n:Nat)(listed:Array Bool)(pf:PF)(σ:St),Closed .any ops listed→
  (gHh .any ops T n listed false=true→VT P A ops K T pf σ false→VX P A .any ops K n listed pf σ)∧
  (gHh .any ops T (n+1) listed true=true→VT P A ops K T pf σ true→∀j∈T.heads,j∈Region.ready .any ops listed→∃o,ops[j]? =some o∧∃Z,hDw P A ops σ o Z∧∀sv L',Z sv L'→(∀p∈pf,gZr .any ops ops.size p.1 j=true∨gP7 p.2 L')∧VX P A .any ops K n (listed.setIfInBounds j true) pf (St.setO ⟨σ.fr,L',σ.N⟩ o.dst sv)):=by
 intro T
 induction T with
 | nil=>
   intro n listed pf σ hc;refine⟨fun hB h=>?_,fun _ _ j hj=>by simp [OT.heads] at hj⟩;simp only [gHh,Bool.false_or,Bool.and_eq_true,beq_iff_eq] at hB;simp only [VT,Bool.false_eq_true,false_or] at h;obtain⟨rfl,hB⟩:=hB;exact⟨by simpa using hB,h⟩
 | q i t ih=>
   intro n listed pf σ hc;refine⟨fun hB h=>?_,fun hB=>by simp [gHh] at hB⟩;simp only [gHh,Bool.not_false,Bool.true_and,Bool.and_eq_true,Nat.blt_eq] at hB;obtain⟨⟨⟨h0,hr⟩,hfr⟩,hB⟩:=hB;obtain⟨m,rfl⟩:∃m,n=m+1:=⟨n - 1,by omega⟩
   simp only [Nat.add_sub_cancel] at hB;obtain⟨o,sv,B,h1,h2,h3⟩:=h;have hr:i∈Region.ready .any ops listed:=by simpa using hr
   exact VX.first hK h1 m listed pf σ hc (Region.free_spec h1 hfr) hr h2 ((ih m _ _ _ (hc.step hr)).1 hB h3)
 | h i t r iht ihr=>
   intro n listed pf σ hc;have key:∀(m:Nat)(b:Bool),gHh .any ops (.h i t r) (m+1) listed b=true→VT P A ops K (.h i t r) pf σ b→∀j∈(OT.h i t r).heads,j∈Region.ready .any ops listed→∃o,ops[j]? =some o∧∃Z,hDw P A ops σ o Z∧∀sv L',Z sv L'→(∀p∈pf,gZr .any ops ops.size p.1 j=true∨gP7 p.2 L')∧VX P A .any ops K m (listed.setIfInBounds j true) pf (St.setO ⟨σ.fr,L',σ.N⟩ o.dst sv):=by
    intro m b hB h j hj hr;simp only [gHh,Bool.and_eq_true,Nat.add_sub_cancel] at hB;obtain⟨⟨_,hB1⟩,hB2⟩:=hB;obtain⟨⟨o,Z,h1,h2,h3⟩,h5⟩:=h;simp only [OT.heads,List.mem_cons] at hj;rcases hj with rfl | hj
    ·exact⟨o,h1,Z,h2,fun sv L' hz=>⟨(h3 sv L' hz).1,(iht m _ _ _ (hc.step hr)).1 hB1 (h3 sv L' hz).2⟩⟩
    ·exact(ihr m listed pf σ hc).2 hB2 h5 j hj hr
   refine⟨fun hB h=>?_,fun hB h=>key n true hB h⟩;have hB':=hB;simp only [gHh,Bool.and_eq_true,Nat.blt_eq,Bool.false_or,beq_iff_eq] at hB';obtain⟨⟨⟨h0,hrd⟩,_⟩,_⟩:=hB';obtain⟨m,rfl⟩:∃m,n=m+1:=⟨n - 1,by omega⟩
   refine⟨fun h0=>(by rw [hrd] at h0;cases h0),fun j hj=>?_⟩;obtain⟨o,h1,Z,h2,h3⟩:=key m false hB h j (by simp only [OT.heads];rw [←hrd];exact hj) hj;exact⟨o,h1,.inr ⟨Z,h2,h3⟩⟩
theorem VT.mono{K':St→Prop}(hK:∀s,K s→K' s):∀(T:OT)(pf:PF)(σ:St)(b:Bool),VT P A ops K T pf σ b→VT P A ops K' T pf σ b
 | .nil,_,_,_,h=>h.imp id (hK _)
 | .q _ t,_,_,_,⟨o,sv,B,h1,h2,h3⟩=>⟨o,sv,B,h1,h2,VT.mono hK t _ _ _ h3⟩
 | .h _ t r,_,_,_,⟨⟨o,Z,h1,h2,h3⟩,h5⟩=>⟨⟨o,Z,h1,h2,fun sv L' hz=>⟨(h3 sv L' hz).1,VT.mono hK t _ _ _ (h3 sv L' hz).2⟩⟩,VT.mono hK r _ _ _ h5⟩
theorem hIt {id:Nat}{l:List Oper}{Q:Exit→St→Prop}(hm:P.follows .mixedOrders=true)(T:OT)(hB:gHh .any l.toArray T l.length (Array.replicate l.length false) false=true)
  (h:VT P A l.toArray (Q .normal) T [] σ false):V P A (.region id l.toArray true) σ Q:=by
 intro a w hr;refine wp_region_any hm ?_;have h1:=VT.mono (K':=fun s=>∃s',Alike s s'∧Q .normal s') (fun s hs=>⟨s,.refl,hs⟩) T [] σ false h;have hc:Closed .any l.toArray (Array.replicate l.length false):=fun k o _ hl=>by rw [Array.getD_eq_getD_getElem?,Array.getElem?_replicate] at hl;split at hl<;>simp at hl
 have h2:=(VT.vx (fun σ σ' ha ⟨s',k1,k2⟩=>⟨s',ha.symm.trans k1,k2⟩) T l.length _ _ _ hc).1 hB h1;have h3:=VX.wp (R:=fun e a' w'=>∃σ',Q e σ'∧mV A σ' a' w') (fun s a' w' ⟨s',k1,k2⟩ hr'=>⟨s',k2,k1.realz hr'⟩) l.length _ _ σ a _ hr.drew h2;simpa using h3
theorem gQ:VY P A ops (fun s=>s=σ) [] pf σ:=rfl
theorem gFx(h1:VY P A ops (fun s=>s=σ') [(i,true)] pf σ)(h:VT P A ops K t ((i,σ.L)::pf) σ' false):VT P A ops K (.q i t) pf σ b:=by
 obtain⟨o,sv,k1,k2,k3⟩:=h1;have k3:σ.setO o.dst sv=σ':=k3;exact⟨o,sv,σ.L,k1,k2,by rw [k3];exact h⟩
theorem hLx{d N:Nat}{x:Operand}{ty:TypeId}{pos:String}{af:Array Edge}{fr:List (Nat × SV)}{L:List LO}{sv:SV}(h:VT P A ops K t ((i,[])::pf) ⟨(d,sv)::fr,L,N⟩ false)(hi:ops[i]? =some ⟨some d,.move x,ty,pos,af,none⟩:=by rfl)(hx:(St.mk fr L N).ev x=sv:=by rfl)(hd:Nat.blt d N=true:=by rfl):VT P A ops K (.q i t) pf ⟨fr,L,N⟩ b:=
 ⟨_,sv,[],hi,⟨fun d' hd'=>by cases hd';exact hd,fun k cs hk=>by simp at hk,.inl ⟨rfl,fun fr' L' he _=>hBk (by rw [he x (by simp [Op.operands])];exact hx)⟩⟩,h⟩
theorem pR(h1:VY P A ops (fun s=>s=σ') [(i,false)] pf σ)(h:VT P A ops K t pf σ' false)(hr:VT P A ops K r pf σ true):VT P A ops K (.h i t r) pf σ b:=by
 obtain⟨o,Z,k1,k2,k3⟩:=h1
 exact⟨⟨o,Z,k1,k2,fun sv L' hz=>⟨(k3 sv L' hz).1,by
  have k4:St.setO ⟨σ.fr,L',σ.N⟩ o.dst sv=σ':=(k3 sv L' hz).2
  rw [k4];exact h⟩⟩,hr⟩
theorem gH(h1:VY P A ops (fun s=>s=σ') [(i,false)] pf σ)(h:VT P A ops K t pf σ' false):VT P A ops K (.h i t .nil) pf σ b:=pR h1 h (.inl rfl)
theorem jB(h:K σ):VT P A ops K .nil pf σ b:=.inr h
theorem hKk {c:Code}{Q:Exit→St→Prop}{fr fr':List (Nat × SV)}{L Lc:List LO}{N:Nat}(n:Nat) [gC7 A n] (js:List Nat) (h:V P A c ⟨fr',Lc,N⟩ Q) (hp:gNq L (rn js L.length) 0 Lc:=by((repeat(first | exact trivial | exact rfl | refine And.intro ?_ ?_));first | done | fail))
  (hjs:(decide js.Nodup && (js.all fun j=>Nat.blt j L.length) && LO.lts Lc.length Lc)=true:=by rfl) (hn:(js.length==Lc.length && Nat.ble n Lc.length && (List.range n).all fun i=>js[i]? ==some i)=true:=by rfl)
  (hfr:hE8 (rn js L.length) fr Lc.length fr':=by((repeat(first | exact trivial | exact rfl | refine And.intro ?_ ?_));first | done | fail)):V P A c ⟨fr,L,N⟩ Q:=by
 simp only [Bool.and_eq_true,decide_eq_true_eq,List.all_eq_true,Nat.blt_eq] at hjs;obtain⟨⟨hnd,hlt⟩,hlts⟩:=hjs;exact hLl (n:=n) js h ⟨fun m o ho=>by simpa using gMo hp m o ho,fun m m' _ _ he=>hA6 hlt hnd he,hlts⟩ hn hfr
theorem goT {X Y:Prop}(hy:Y)(h:Y→X:=by
  intro hy
  repeat(first | refine hLx ?_ | refine gFx (gY7 rfl gKh gQ) ?_ | refine gFx (gY7 rfl gKi gQ) ?_ | refine gFx (hPe rfl gQ (by(repeat constructor);first | done | fail)) ?_ | refine gH (hPf rfl (by repeat constructor) (by repeat(first | exact vE.nil | (apply vE.keep;focus ((repeat constructor);done)) | (apply vE.dep;focus kernel_rfl))) gQ) ?_)
  exact hy):X:=h hy
end
section
variable {P:Program}{A:Amb}{ops:Array Oper}{K:St→Prop}{Q:Exit→St→Prop}{rest:List Oper}{σ σ' σJ:St}{fr:List (Nat × SV)}{L:List LO}{N t:Nat}{sv:SV}
variable {ty:TypeId}{pos:String}{af:Array Edge}{op:Op}
theorem VQ.alike(hK:∀s s',Alike s s'→K s→K s'):∀(l:List Oper){σ σ':St},Alike σ σ'→VQ P A ops l σ K→VQ P A ops l σ' K
 | [],_,_,ha,h=>hK _ _ ha h
 | o::l,_,_,ha,⟨sv,h1,h2⟩=>⟨sv,YS.congr ha.L.symm ha.N.symm (fun t _=>(ha.fr t).symm) h1,VQ.alike hK l (ha.setO o.dst sv) h2⟩
theorem LeF.alike{n:Nat}(hl:∀t,Go.Eng.look σ.fr t=Go.Eng.look σ'.fr t):∀{fr':List (Nat × SV)},LeF σ.fr n fr'→LeF σ'.fr n fr'
 | [],h=>h
 | p::r,h=>⟨⟨by rw [←hl];exact h.1.1,h.1.2⟩,LeF.alike hl h.2⟩
theorem Le.alike(ha:Alike σ σ')(h:Le σ σJ):Le σ' σJ:=⟨by rw [←ha.N];exact h.N,LeF.alike ha.fr h.fr,by rw [←ha.L];exact h.L,h.lt⟩
theorem wN{c:Bool}(tj:Nat)(ht:c=true→VQ P A ops rest ⟨(tj,.d (.b true))::fr,L,N⟩ (fun s=>Le s σJ))(hf:c=false→VQ P A ops rest ⟨(tj,.d (.b false))::fr,L,N⟩ (fun s=>Le s σJ))(hb:look fr tj=.d (.b c):=by rfl):VQ P A ops rest ⟨fr,L,N⟩ (fun s=>Le s σJ):=by
 have key:∀c',c=c'→Alike (σ:=⟨(tj,.d (.b c'))::fr,L,N⟩) (σ':=⟨fr,L,N⟩):=fun c' hc=>⟨rfl,rfl,fun t=>by
  simp only [look];by_cases h:t=tj
  ·subst h;rw [if_pos rfl,←hc,←hb]
  ·rw [if_neg h]⟩
 cases hc:c with
 | true=>exact VQ.alike (fun _ _=>Le.alike) rest (key true hc) (ht hc)
 | false=>exact VQ.alike (fun _ _=>Le.alike) rest (key false hc) (hf hc)
theorem gEa{j tj:Nat}{want:Bool}{o':Oper}(hq:QR P ⟨fr,L,N⟩ ⟨some t,op,ty,pos,af,some (j,want)⟩ sv)(h:VQ P A ops rest ⟨(t,sv)::fr,L,N⟩ K)(hj:ops[j]? =some o':=by rfl)(hdst:o'.dst=some tj:=by rfl)(htj:Nat.blt tj N=true:=by rfl)(hb:look fr tj=.d (.b want):=by rfl)(ht:Nat.blt t N=true:=by rfl) :
  VQ P A ops (⟨some t,op,ty,pos,af,some (j,want)⟩::rest) ⟨fr,L,N⟩ K:=gXe hj hdst htj hb hq.q ht h
theorem hBo{j tj:Nat}{want:Bool}{o':Oper}(hq:Quiet P A ⟨fr,L,N⟩ ⟨some t,op,ty,pos,af,some (j,want)⟩ sv)(h:VQ P A ops rest ⟨(t,sv)::fr,L,N⟩ K)(hj:ops[j]? =some o':=by rfl)(hdst:o'.dst=some tj:=by rfl)(htj:Nat.blt tj N=true:=by rfl)(hb:look fr tj=.d (.b want):=by rfl)(ht:Nat.blt t N=true:=by rfl) :
  VQ P A ops (⟨some t,op,ty,pos,af,some (j,want)⟩::rest) ⟨fr,L,N⟩ K:=gXe hj hdst htj hb hq ht h
theorem uT{id:Nat}{l:List Oper}{y:Code}(hm:P.follows .mixedOrders=true)(σJ:St)(hB:Region.lexB .any l.toArray=true)(h1:VQ P A l.toArray l σ (fun s=>Le s σJ))(h2:V P A y σJ Q)(hA:A.L0.length≤σJ.L.length:=by rw [gC7.h (A:=A)];exact Nat.le_of_ble_eq_true rfl) :
  V P A (.seq (.region id l.toArray true) y) σ Q:=hLm σJ (gXf hm hB h1) h2 hA
theorem hIu{c:Code}(σJ:St)(h1:V P A c σ (thenS (fun s=>Le s σJ) Q))(h2:Q .normal σJ)(hA:A.L0.length≤σJ.L.length:=by rw [gC7.h (A:=A)];exact Nat.le_of_ble_eq_true rfl):V P A c σ Q:=fun a w hr=>
 wp_mono (h1 a w hr) fun e a' w' ⟨s,k1,k2⟩=>by
  cases e with
  | normal=>exact⟨σJ,h2,k2.le k1 hA⟩
  | _=>exact⟨s,k1,k2⟩
theorem hIv{id:Nat}{l:List Oper}(hm:P.follows .mixedOrders=true)(σJ:St)(hB:Region.lexB .any l.toArray=true)(h1:VQ P A l.toArray l σ (fun s=>Le s σJ))(h2:Q .normal σJ)(hA:A.L0.length≤σJ.L.length:=by rw [gC7.h (A:=A)];exact Nat.le_of_ble_eq_true rfl) :
  V P A (.region id l.toArray true) σ Q:=hIu σJ (gXf hm hB h1) h2 hA
theorem qQ {id:Nat}{l:List Oper}(hm:P.follows .mixedOrders=true)(T:OT)(σ':St)(hB:gHh .any l.toArray T l.length (Array.replicate l.length false) false=true)
  (h:VT P A l.toArray (fun s=>∀a w,mV A s a w→mV A σ' a w) T [] σ false) (hr:Q .normal σ'):V P A (.region id l.toArray true) σ Q:=fun a w hw=>
 wp_mono (hIt (Q:=fun e s=>e=.normal∧∀a w,mV A s a w→mV A σ' a w) hm T hB (VT.mono (fun s hs=>⟨rfl,hs⟩) T [] σ false h) a w hw) fun e a' w' ⟨s,⟨k0,k1⟩,k2⟩=>by subst k0;exact⟨σ',hr,k1 _ _ k2⟩
theorem zK {id:Nat}{l:List Oper}{y:Code}(hm:P.follows .mixedOrders=true)(T:OT)(σ':St)(hB:gHh .any l.toArray T l.length (Array.replicate l.length false) false=true)
  (h:VT P A l.toArray (fun s=>∀a w,mV A s a w→mV A σ' a w) T [] σ false) (hr:V P A y σ' Q):V P A (.seq (.region id l.toArray true) y) σ Q:=kH (qQ hm T σ' hB h hr)
theorem mK {fr':List (Nat × SV)}{Lc:List LO}(n:Nat) [gC7 A n] (js:List Nat) (hp:gNq L (rn js L.length) 0 Lc:=by((repeat(first | exact trivial | exact rfl | refine And.intro ?_ ?_));first | done | fail))
  (hjs:(decide js.Nodup && (js.all fun j=>Nat.blt j L.length) && LO.lts Lc.length Lc)=true:=by rfl) (hn:(js.length==Lc.length && Nat.ble n Lc.length && (List.range n).all fun i=>js[i]? ==some i)=true:=by rfl)
  (hfr:hE8 (rn js L.length) fr Lc.length fr':=by((repeat(first | exact trivial | exact rfl | refine And.intro ?_ ?_));first | done | fail)):∀a w,mV A ⟨fr,L,N⟩ a w→mV A ⟨fr',Lc,N⟩ a w:=by
 intro a w hr;simp only [Bool.and_eq_true,decide_eq_true_eq,List.all_eq_true,Nat.blt_eq] at hjs;obtain⟨⟨hnd,hlt⟩,hlts⟩:=hjs;exact hr.pick (n:=n) js ⟨fun m o ho=>by simpa using gMo hp m o ho,fun m m' _ _ he=>hA6 hlt hnd he,hlts⟩ hn hfr
theorem gAg {e z bs n i:Nat}{T:TypeId}{L':List LO}{gg:Bool} [TE P T e] [TI P e gg z bs] {zs:List Value} [TZ P e zs] {us:List U} {ps:Array (Nat × Operand)} (h:VO P A ops rest ⟨(t,.sl i 0)::fr,L',N⟩ K) (hps:ps.toList=((ps.toList.map Prod.snd).zipIdx 0).map (fun p=>(p.2,p.1)):=by rfl)
  (hy:VDs ⟨fr,L,N⟩ (ps.toList.map Prod.snd) us:=by(repeat(first | exact .nil | refine .cons (by((repeat(first | exact trivial | exact rfl | exact⟨_,rfl⟩ | refine And.intro ?_ ?_));first | done | fail)) ?_))) (hu:(us.all fun u=>u.sz==z)=true:=by rfl) (hn:((ps.toList.map Prod.snd).length==n && Nat.blt 0 n)=true:=by rfl)
  (hz:(Nat.blt 0 z && Nat.ble (n*z) 16777216 && zs.length==z)=true:=by rfl) (ht:Nat.blt t N=true:=by rfl) (hL':Sn (.arr e z 0 us) L i L':=by repeat constructor) :
  VO P A ops (⟨some t,.buildSlice T n ps,ty,pos,af,none⟩::rest) ⟨fr,L,N⟩ K:=hSc h hps hy hu hn hz ht hL'
theorem hFb{j tj:Nat}{want:Bool}{o':Oper}(hq:QR P ⟨fr,L,N⟩ ⟨some t,op,ty,pos,af,none⟩ sv)(h:VO P A ops rest ⟨(t,sv)::fr,L,N⟩ K)(hj:ops[j]? =some o':=by rfl)(hdst:o'.dst=some tj:=by rfl)(htj:Nat.blt tj N=true:=by rfl)(hb:look fr tj=.d (.b want):=by rfl)(ht:Nat.blt t N=true:=by rfl) :
  VO P A ops (⟨some t,op,ty,pos,af,some (j,want)⟩::rest) ⟨fr,L,N⟩ K:=gQc (qM hq h ht) hj hdst htj hb
theorem hFc{j tj:Nat}{want:Bool}{o':Oper}(hq:Quiet P A ⟨fr,L,N⟩ ⟨some t,op,ty,pos,af,none⟩ sv)(h:VO P A ops rest ⟨(t,sv)::fr,L,N⟩ K)(hj:ops[j]? =some o':=by rfl)(hdst:o'.dst=some tj:=by rfl)(htj:Nat.blt tj N=true:=by rfl)(hb:look fr tj=.d (.b want):=by rfl)(ht:Nat.blt t N=true:=by rfl) :
  VO P A ops (⟨some t,op,ty,pos,af,some (j,want)⟩::rest) ⟨fr,L,N⟩ K:=gQc (yS hq h ht) hj hdst htj hb
theorem gUy{α:Type}{e:α→U}{es:List α→List U}{z z':Nat}[E:Enc α e es z]{el:TypeId}{T T':TypeId}{x:Operand}{g:Option (Nat × Bool)}{dst:Option Nat} [TE P T el]{l:List α}{i ver e':Nat}(hx:σ.ev x=.sl i ver:=by rfl)(hL:σ.L[i]? =some (.arr e' z' ver (es l)):=by rfl):Quiet P A σ ⟨dst,.call { callee:=.builtin .len,args:=#[x],argTypes:=#[T] },T',pos,af,g⟩ (.d (.i .i64 (l.length:Int))):=by
 rw [←Enc.len (es:=es) l];exact hBy hx hL TE.h
theorem gWh{α:Type}{en:α→U}{es:List α→List U}{z:Nat}[E:Enc α en es z]{e bs ver j:Nat}{T:TypeId}{x y:Operand}{g:Option (Nat × Bool)}{dst:Option Nat}{gg:Bool}{l:List α}(k:Nat)(hk:k < l.length) [TE P T e] [TI P e gg z bs](hx:σ.ev x=.sl j ver:=by rfl)(hL:σ.L[j]? =some (.arr e z ver (es l)):=by rfl)(hy:σ.ev y=.d (.i .i64 (k:Int)):=by rfl) :
  Quiet P A σ ⟨dst,.indexAddr T x y,ty,pos,af,g⟩ (.ep j ver z k 0):=by
 have:=gQj (P:=P) (A:=A) (dst:=dst) (ty:=ty) (pos:=pos) (af:=af) (g:=g) hx hL hy (TE.h:tyE P T=some e) (TI.h:tyI P e=some (gg,z,bs)) (Int.natCast_nonneg k) (by rw [Enc.len];omega)
 simpa using this
theorem hFd{α:Type}{en:α→U}{es:List α→List U}{z:Nat}[E:Enc α en es z]{bs ver e' j k:Nat}{T:TypeId}{x:Operand}{g:Option (Nat × Bool)}{dst:Option Nat}{gg:Bool}{l:List α}{a:α}(ha:l[k]? =some a) [TI P T gg z bs](hx:σ.ev x=.ep j ver z k 0:=by rfl)(hL:σ.L[j]? =some (.arr e' z ver (es l)):=by rfl)(hg:(en a).isSt=gg:=by rfl) :
  Quiet P A σ ⟨dst,.load T x,ty,pos,af,g⟩ (.d (en a)):=hBz hx hL (Enc.get ha) TI.h hg
theorem gAi {α:Type}{en:α→U}{es:List α→List U}{z:Nat}[E:Enc α en es z]{l r:List α}(hg:l.length+r.length≤4294967296){e bs ver i:Nat}{T T':TypeId}{x y:Operand}{L':List LO}{gg:Bool} [TE P T e] [TI P e gg z bs] {zs:List Value} [TZ P e zs]
  (h:VO P A ops rest ⟨(t,.sl i (ver+1))::fr,L',N⟩ K) (hx:(St.mk fr L N).ev x=.sl i ver:=by rfl) (hL:L[i]? =some (.arr e z ver (es l)):=by rfl) (hs:SrcOf ⟨fr,L,N⟩ z (es r) ((St.mk fr L N).ev y):=by first | exact⟨_,rfl⟩ | exact⟨rfl,rfl,Enc.all _⟩ | exact rfl)
  (hz:(Nat.blt 0 z && zs.length==z)=true:=by rfl) (hb:Nat.ble bs 32768=true:=by rfl) (ht:Nat.blt t N=true:=by rfl) (hL':L.set i (.arr e z (ver+1) (es (l++r)))=L':=by rfl) :
  VO P A ops (⟨some t,.call { callee:=.builtin .append,args:=#[x,y],argTypes:=#[T,T] },T',pos,af,none⟩::rest) ⟨fr,L,N⟩ K:=by
 have h1:(es l).length=l.length:=Enc.len l;have h2:(es r).length=r.length:=Enc.len r;have hb:=Nat.le_of_ble_eq_true hb;rw [Enc.app (es:=es)] at hL';refine hB7 hx hL rfl hs TE.h TI.h TZ.h hz (Enc.all _) (by rw [yC];omega) ?_ ht hL' h;rw [h1,h2];exact Nat.le_trans (Nat.mul_le_mul hg hb) (by decide)
end
theorem goL {X Y:Prop}(hy:Y)(h:Y→X:=by
  intro hy
  repeat(first | refine qM gKh ?_ | refine qM gKi ?_ | refine yS gXq ?_ | refine yS gUy ?_ | refine hFb gKh ?_ | refine hFb gKi ?_ | refine hFc gXq ?_ | refine hFc gUy ?_ | refine hLp ?_ | refine hLq ?_ | refine hTg ?_ (by(repeat constructor);first | done | fail) | refine gCy gKh ?_ | refine gCy gKi ?_ | refine gEa gKh ?_ | refine gEa gKi ?_ | refine hLa ?_ | refine hLb ?_ | refine hTh ?_ (by(repeat constructor);first | done | fail) | refine gCz ?_ | refine hGv ?_ | refine gN5 ?_ | refine gXn ?_ | refine gY2 Mix.h (by kernel_rfl) ?_ | refine gS8 ?_ | refine gXf Mix.h (by kernel_rfl) ?_)
  exact hy):X:=h hy
theorem gHi {X Y:Prop}(hy:Y)(h:Y→X:=by
  intro hy
  repeat(first | refine qM gKh ?_ | refine qM gKi ?_ | refine yS gXq ?_ | refine yS gUy ?_ | refine hFb gKh ?_ | refine hFb gKi ?_ | refine hFc gXq ?_ | refine hFc gUy ?_ | refine hLp ?_ | refine hLq ?_ | refine hTg ?_ (by(repeat constructor);first | done | fail) | refine gCy gKh ?_ | refine gCy gKi ?_ | refine gEa gKh ?_ | refine gEa gKi ?_ | refine hLa ?_ | refine hLb ?_ | refine hTh ?_ (by(repeat constructor);first | done | fail) | refine gCz ?_ | refine hGv ?_ | refine gN5 ?_ | refine gXn ?_ | refine gS8 ?_)
  exact hy):X:=h hy
section
variable {P:Program}{A:Amb}{σ:St}{dst:Option Nat}{ty:TypeId}{pos:String}{af:Array Edge}{g:Option (Nat × Bool)}
theorem hSe {f:Operand}{fi:Nat}{args:Array Operand}{at_:Array TypeId}{dargs:List SV}{u:U}
  (hspec:jF P fi dargs [u]) (hu:u.scal=true:=by rfl) (hf:σ.ev f=.fn fi []:=by rfl) (hargs:WCs σ.L (args.toList.map σ.ev) dargs:=by((repeat(first | exact trivial | exact rfl | exact⟨_,rfl⟩ | refine Exists.intro _ (And.intro rfl ?_) | refine And.intro ?_ ?_));first | done | fail)) :
  Quiet P A σ ⟨dst,.call { callee:=.value f,args:=args,argTypes:=at_ },ty,pos,af,g⟩ (.d u):=hAu hf hspec hu hargs
theorem zS{ops:Array Oper}{K:St→Prop}{rest:List Oper}{fr:List (Nat × SV)}{L L':List LO}{N i t:Nat}{T e z bs:Nat}{gg:Bool} [TE P T e] [TI P e gg z bs](h:VO P A ops rest ⟨(t,.sl i 0)::fr,L',N⟩ K)(ht:Nat.blt t N=true:=by rfl)(hL':Sn (.arr e z 0 []) L i L':=by repeat constructor) :
  VO P A ops (⟨some t,.buildSlice T 0 #[],ty,pos,af,none⟩::rest) ⟨fr,L,N⟩ K:=by
 obtain⟨hi,hL2⟩:=hL'.spec;subst hi;subst hL2;have hT:tyE P T=some e:=TE.h;have he:tyI P e=some (gg,z,bs):=TI.h;refine gCp rfl (fun S env a w hH hf hN hd=>?_) h
 obtain⟨hH',C⟩:=hH.new (w':=w.alloc (.cells #[] e)) (.arr e z 0 []) (.slice (some ⟨w.heap.size,0,none⟩) 0 0) (by simp) (fun b hb=>heap_alloc_old w _ hb) rfl rfl rfl
  (fun b hb=>by simp [LO.ft,blk] at hb;subst hb;simp)
  (fun C=>⟨by simp [yC],by simp,[],⟨by simp,.inr ⟨w.heap.size,0,#[],rfl,Nat.zero_le _,heap_alloc_new w _,Nat.le_refl _,by simp [maxLen],by simp,by simp⟩⟩,by simp [Rds]⟩)
 refine⟨.value (.slice (some ⟨w.heap.size,0,none⟩) 0 0),_,?_,.inl ⟨_,rfl,uH hf hN hd ht hH' C ?_⟩⟩
 ·simp [execOp,Instr.buildSlice,run_underlying (zB hT),run_sizeOf he,Instr.fill,newRow];congr 2;apply Array.ext';simp
 ·simp only [SVr];exact⟨.slice (some ⟨w.heap.size,0,none⟩) 0 0,.arr e z 0 [],by rw [←hH.len];simp,by simp,Nat.le_refl _,rfl,fun _=>rfl⟩
theorem jO{ops:Array Oper}{K:St→Prop}{fr:List (Nat × SV)}{L:List LO}{N i t:Nat}{sv:SV}{op:Op}{r:List (Nat × Bool)}{pf:PF}(hi:ops[i]? =some ⟨some t,op,ty,pos,af,none⟩)(hq:QR P ⟨fr,L,N⟩ ⟨some t,op,ty,pos,af,none⟩ sv)(hv:VY P A ops K r ((i,L)::pf) ⟨(t,sv)::fr,L,N⟩)(ht:Nat.blt t N=true:=by rfl) :
  VY P A ops K ((i,true)::r) pf ⟨fr,L,N⟩:=hTk hq hv hi ht
end
inductive gRx:SV→Int→Int→Prop
 | ag {a b:Int}:gRx (.ag [.d (.i .i64 a),.d (.i .i64 b)]) a b
 | d {a b:Int}:gRx (.d (.st [.i .i64 a,.i .i64 b])) a b
section
variable {P:Program}{A:Amb}{σ:St}{dst:Option Nat}{ty T T':TypeId}{pos:String}{af:Array Edge}{g:Option (Nat × Bool)}{x y:Operand}{a b c d:Int}
theorem gRx.r{S:Nat→Prop}{L:List LO}{env:List Value}{w:World}{sv:SV}{v:Value}(h:gRx sv a b)(hv:SVr S L env w sv v):v=.agg #[.int .i64 a,.int .i64 b]:=by
 cases h with
 | ag=>exact SVr.pair.1 hv
 | d=>
   simp only [SVr] at hv;obtain⟨cs,rfl,h⟩:=hv;simp only [Rd,Rds] at h;obtain⟨c1,c2,rfl,rfl,c3,c4,rfl,rfl,rfl⟩:=h;rfl
theorem hLy [TP P T](hx:gRx (σ.ev x) a b:=by first | exact .ag | exact .d)(hy:gRx (σ.ev y) c d:=by first | exact .ag | exact .d) :
  QR P σ ⟨dst,.binOp .eql T x y T',ty,pos,af,g⟩ (.d (.b (a==c && b==d))):=fun A fr' L' he _=>Quiet.pure fun S env ac w hH ho=>by
 have h1:=ho x (by simp [Op.operands]);have h2:=ho y (by simp [Op.operands]);rw [he x (by simp [Op.operands])] at h1;rw [he y (by simp [Op.operands])] at h2;have h1:=hx.r h1;have h2:=hy.r h2;refine⟨.bool (a==c && b==d),?_,SVr.bool.2 rfl⟩
 have:=(TP.h:gXs P T) w a b c d
 simp [execOp,h1,h2,eqGuard,binOp,this.1,this.2]
end
section
variable {P:Program}{A:Amb}{Q:Exit→St→Prop}{c:Code}{σ:St}
theorem hIw {α:Type}(I:α→St)(J:α→Prop)(μ:α→Nat)(x0:α)(h0:Le σ (I x0))(hJ:J x0)
  (round:∀x,J x→V P A c (I x) (thenS (fun s=>∃y,J y∧μ y < μ x∧∀a w,mV A s a w→mV A (I y) a w) Q)) (hA:∀x,A.L0.length≤(I x).L.length:=by intro x;rw [gC7.h (A:=A)];exact Nat.le_of_ble_eq_true rfl):V P A (.loop c) σ Q:=by
 intro a w hr;refine wp_loop_ghost (fun n a w=>∃x,μ x=n∧J x∧mV A (I x) a w) (μ x0) ⟨x0,rfl,hJ,hr.le h0 (hA _)⟩ ?_;intro n a w ⟨x,hn,hx,hr⟩;refine wp_mono (round x hx a w hr) ?_;intro e a' w' ⟨s,hq,hs⟩;cases e with
 | normal=>
   obtain⟨y,hJy,hlt,hle⟩:=hq;exact⟨μ y,hn▸hlt,y,rfl,hJy,hle _ _ hs⟩
 | exit id=>exact⟨s,hq,hs⟩
 | goto l=>exact⟨s,hq,hs⟩
 | ret=>exact⟨s,hq,hs⟩
 | panic ch=>exact⟨s,hq,hs⟩
 | outgrown=>exact⟨s,hq,hs⟩
theorem gXu {α0 α1 α2 α3 α4 α5 α6:Type}(I:α0→α1→α2→α3→α4→α5→α6→St)(J:α0→α1→α2→α3→α4→α5→α6→Prop)(μ:α0→α1→α2→α3→α4→α5→α6→Nat)(x0:α0)(x1:α1)(x2:α2)(x3:α3)(x4:α4)(x5:α5)(x6:α6)(h0:Le σ (I x0 x1 x2 x3 x4 x5 x6))(hJ:J x0 x1 x2 x3 x4 x5 x6)
  (round:∀a0 a1 a2 a3 a4 a5 a6,J a0 a1 a2 a3 a4 a5 a6→V P A c (I a0 a1 a2 a3 a4 a5 a6) (thenS (fun s=>∃b0 b1 b2 b3 b4 b5 b6,J b0 b1 b2 b3 b4 b5 b6∧μ b0 b1 b2 b3 b4 b5 b6 < μ a0 a1 a2 a3 a4 a5 a6∧∀a w,mV A s a w→mV A (I b0 b1 b2 b3 b4 b5 b6) a w) Q)) (hA:∀a0 a1 a2 a3 a4 a5 a6,A.L0.length≤(I a0 a1 a2 a3 a4 a5 a6).L.length:=by intros;rw [gC7.h (A:=A)];exact Nat.le_of_ble_eq_true rfl):V P A (.loop c) σ Q:=
 hIw (α:=α0 × α1 × α2 × α3 × α4 × α5 × α6) (fun x=>I (x.1) (x.2.1) (x.2.2.1) (x.2.2.2.1) (x.2.2.2.2.1) (x.2.2.2.2.2.1) (x.2.2.2.2.2.2)) (fun x=>J (x.1) (x.2.1) (x.2.2.1) (x.2.2.2.1) (x.2.2.2.2.1) (x.2.2.2.2.2.1) (x.2.2.2.2.2.2)) (fun x=>μ (x.1) (x.2.1) (x.2.2.1) (x.2.2.2.1) (x.2.2.2.2.1) (x.2.2.2.2.2.1) (x.2.2.2.2.2.2)) (x0,x1,x2,x3,x4,x5,x6) h0 hJ (fun x hx=>V.mono (round (x.1) (x.2.1) (x.2.2.1) (x.2.2.2.1) (x.2.2.2.2.1) (x.2.2.2.2.2.1) (x.2.2.2.2.2.2) hx) (fun e s hq=>by
  cases e with
  | normal=>
    obtain⟨b0,b1,b2,b3,b4,b5,b6,h1,h2,h3⟩:=hq;exact⟨(b0,b1,b2,b3,b4,b5,b6),h1,h2,h3⟩
  | _=>exact hq)) (fun x=>hA (x.1) (x.2.1) (x.2.2.1) (x.2.2.2.1) (x.2.2.2.2.1) (x.2.2.2.2.2.1) (x.2.2.2.2.2.2))
end
section
variable {P:Program}{A:Amb}{σ:St}{dst:Option Nat}{ty:TypeId}{pos:String}{af:Array Edge}{g:Option (Nat × Bool)}{x:Operand}
end
section
variable {P:Program}{σ:St}
theorem hIy {fn:Func}{Q:SV→List LO→Prop}{n:Nat}(svs:List SV)(Lo:List LO)(hq:Q (mkG svs) Lo)(hL:∃L2,σ.L=Lo++L2:=by exact⟨_,rfl⟩)(hl:(LO.lts Lo.length Lo && SV.lts Lo.length svs && Nat.ble n Lo.length)=true:=by rfl)
  (hr:gWc P σ fn.results.toList svs:=by((repeat(first | exact .nil | refine .data rfl rfl ?_ | refine .same rfl ?_ | refine .same (gHy rfl rfl TI.h rfl rfl) ?_ | refine .same (ResV_one rfl rfl TI.h rfl) ?_ | refine .data (gHy rfl rfl TI.h rfl rfl) (by((repeat(first | exact trivial | exact rfl | exact⟨_,rfl⟩ | refine And.intro ?_ ?_));first | done | fail)) ?_ | refine .data (ResV_one rfl rfl TI.h rfl) (by((repeat(first | exact trivial | exact rfl | exact⟨_,rfl⟩ | refine And.intro ?_ ?_));first | done | fail)) ?_));first | done | fail)):qB P fn Q n .normal σ:=hTt svs Lo hq hL hl hr
theorem gBa {fn:Func}{Q:SV→List LO→Prop}{n:Nat}(svs:List SV)(Lo:List LO)(hq:Q (mkG svs) Lo)(hL:∃L2,σ.L=Lo++L2:=by exact⟨_,rfl⟩)(hl:(LO.lts Lo.length Lo && SV.lts Lo.length svs && Nat.ble n Lo.length)=true:=by rfl)
  (hr:gWc P σ fn.results.toList svs:=by((repeat(first | exact .nil | refine .data rfl rfl ?_ | refine .same rfl ?_ | refine .same (gHy rfl rfl TI.h rfl rfl) ?_ | refine .same (ResV_one rfl rfl TI.h rfl) ?_ | refine .data (gHy rfl rfl TI.h rfl rfl) (by((repeat(first | exact trivial | exact rfl | exact⟨_,rfl⟩ | refine And.intro ?_ ?_));first | done | fail)) ?_ | refine .data (ResV_one rfl rfl TI.h rfl) (by((repeat(first | exact trivial | exact rfl | exact⟨_,rfl⟩ | refine And.intro ?_ ?_));first | done | fail)) ?_));first | done | fail)):qB P fn Q n .ret σ:=hTu svs Lo hq hL hl hr
end
end Go.Eng
