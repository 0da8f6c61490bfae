import Derived.Test.YtfjncckelekpiaaGreatEng40
import Derived.Lib.SliceRun
set_option linter.unusedVariables false
set_option linter.unusedSimpArgs false
namespace Go.Eng
open Go Go.RowKit
inductive OT where
 | nil
 | q (i:Nat) (t:OT)
 | h (i:Nat) (t r:OT)
def OT.heads:OT→List Nat
 | .h i _ r=>i::r.heads
 | _=>[]
def gL2(md:Region.Mode)(ops:Array Oper):OT→Nat→Array Bool→Bool→Bool
 | .nil,n,listed,b=>b || (n==0 && (Region.ready md ops listed).isEmpty)
 | .q i t,n,listed,b=> !b && Nat.blt 0 n && (Region.ready md ops listed).contains i && Region.free md ops listed i && gL2 md ops t (n - 1) (listed.setIfInBounds i true) false
 | .h i t r,n,listed,b=>Nat.blt 0 n && (b || Region.ready md ops listed==i::r.heads) && gL2 md ops t (n - 1) (listed.setIfInBounds i true) false && gL2 md ops r n listed true
section
variable {P:Program}{A:Amb}{ops:Array Oper}{K:St→Prop}{σ σ':St}{t r:OT}{pf:PF}{i:Nat}{b:Bool}
def VT(P:Program)(A:Amb)(ops:Array Oper)(K:St→Prop):OT→PF→St→Bool→Prop
 | .nil,_,σ,b=>b=true∨K σ
 | .q i t,pf,σ,_=>∃o sv B,ops[i]? =some o∧PSt P A ops B σ o sv∧VT P A ops K t ((i,B)::pf) (σ.setO o.dst sv) false
 | .h i t r,pf,σ,_=>(∃o Z,ops[i]? =some o∧hOo P A ops σ o Z∧∀sv L',Z sv L'→(∀p∈pf,gQy .any ops ops.size p.1 i=true∨gP8 p.2 L')∧VT P A ops K t pf (St.setO ⟨σ.fr,L',σ.N⟩ o.dst sv) false)∧VT P A ops K r pf σ true
theorem VT.vx(hK:∀σ σ',Alike σ σ'→K σ→K σ'):∀(T:OT)(n:Nat)(listed:Array Bool)(pf:PF)(σ:St),Closed .any ops listed→
  (gL2 .any ops T n listed false=true→VT P A ops K T pf σ false→VX P A .any ops K n listed pf σ)∧
  (gL2 .any ops T (n+1) listed true=true→VT P A ops K T pf σ true→∀j∈T.heads,j∈Region.ready .any ops listed→∃o,ops[j]? =some o∧∃Z,hOo P A ops σ o Z∧∀sv L',Z sv L'→(∀p∈pf,gQy .any ops ops.size p.1 j=true∨gP8 p.2 L')∧VX P A .any ops K n (listed.setIfInBounds j true) pf (St.setO ⟨σ.fr,L',σ.N⟩ o.dst sv)):=by
 intro T
 induction T with
 | nil=>
   intro n listed pf σ hc;refine⟨fun hB h=>?_,fun _ _ j hj=>by simp [OT.heads] at hj⟩;simp only [gL2,Bool.false_or,Bool.and_eq_true,beq_iff_eq] at hB;simp only [VT,Bool.false_eq_true,false_or] at h;obtain⟨rfl,hB⟩:=hB;exact⟨by simpa using hB,h⟩
 | q i t ih=>
   intro n listed pf σ hc;refine⟨fun hB h=>?_,fun hB=>by simp [gL2] at hB⟩;simp only [gL2,Bool.not_false,Bool.true_and,Bool.and_eq_true,Nat.blt_eq] at hB;obtain⟨⟨⟨h0,hr⟩,hfr⟩,hB⟩:=hB;obtain⟨m,rfl⟩:∃m,n=m+1:=⟨n - 1,by omega⟩
   simp only [Nat.add_sub_cancel] at hB;obtain⟨o,sv,B,h1,h2,h3⟩:=h;have hr:i∈Region.ready .any ops listed:=by simpa using hr
   exact VX.first hK h1 m listed pf σ hc (Region.free_spec h1 hfr) hr h2 ((ih m _ _ _ (hc.step hr)).1 hB h3)
 | h i t r iht ihr=>
   intro n listed pf σ hc;have key:∀(m:Nat)(b:Bool),gL2 .any ops (.h i t r) (m+1) listed b=true→VT P A ops K (.h i t r) pf σ b→∀j∈(OT.h i t r).heads,j∈Region.ready .any ops listed→∃o,ops[j]? =some o∧∃Z,hOo P A ops σ o Z∧∀sv L',Z sv L'→(∀p∈pf,gQy .any ops ops.size p.1 j=true∨gP8 p.2 L')∧VX P A .any ops K m (listed.setIfInBounds j true) pf (St.setO ⟨σ.fr,L',σ.N⟩ o.dst sv):=by
    intro m b hB h j hj hr;simp only [gL2,Bool.and_eq_true,Nat.add_sub_cancel] at hB;obtain⟨⟨_,hB1⟩,hB2⟩:=hB;obtain⟨⟨o,Z,h1,h2,h3⟩,h5⟩:=h;simp only [OT.heads,List.mem_cons] at hj;rcases hj with rfl | hj
    ·exact⟨o,h1,Z,h2,fun sv L' hz=>⟨(h3 sv L' hz).1,(iht m _ _ _ (hc.step hr)).1 hB1 (h3 sv L' hz).2⟩⟩
    ·exact(ihr m listed pf σ hc).2 hB2 h5 j hj hr
   refine⟨fun hB h=>?_,fun hB h=>key n true hB h⟩;have hB':=hB;simp only [gL2,Bool.and_eq_true,Nat.blt_eq,Bool.false_or,beq_iff_eq] at hB';obtain⟨⟨⟨h0,hrd⟩,_⟩,_⟩:=hB';obtain⟨m,rfl⟩:∃m,n=m+1:=⟨n - 1,by omega⟩
   refine⟨fun h0=>(by rw [hrd] at h0;cases h0),fun j hj=>?_⟩;obtain⟨o,h1,Z,h2,h3⟩:=key m false hB h j (by simp only [OT.heads];rw [←hrd];exact hj) hj;exact⟨o,h1,.inr ⟨Z,h2,h3⟩⟩
theorem VT.mono{K':St→Prop}(hK:∀s,K s→K' s):∀(T:OT)(pf:PF)(σ:St)(b:Bool),VT P A ops K T pf σ b→VT P A ops K' T pf σ b
 | .nil,_,_,_,h=>h.imp id (hK _)
 | .q _ t,_,_,_,⟨o,sv,B,h1,h2,h3⟩=>⟨o,sv,B,h1,h2,VT.mono hK t _ _ _ h3⟩
 | .h _ t r,_,_,_,⟨⟨o,Z,h1,h2,h3⟩,h5⟩=>⟨⟨o,Z,h1,h2,fun sv L' hz=>⟨(h3 sv L' hz).1,VT.mono hK t _ _ _ (h3 sv L' hz).2⟩⟩,VT.mono hK r _ _ _ h5⟩
theorem hUe {id:Nat}{l:List Oper}{Q:Exit→St→Prop}(hm:P.follows .mixedOrders=true)(T:OT)(hB:gL2 .any l.toArray T l.length (Array.replicate l.length false) false=true)
  (h:VT P A l.toArray (Q .normal) T [] σ false):V P A (.region id l.toArray true) σ Q:=by
 intro a w hr;refine wp_region_any hm ?_;have h1:=VT.mono (K':=fun s=>∃s',Alike s s'∧Q .normal s') (fun s hs=>⟨s,.refl,hs⟩) T [] σ false h;have hc:Closed .any l.toArray (Array.replicate l.length false):=fun k o _ hl=>by rw [Array.getD_eq_getD_getElem?,Array.getElem?_replicate] at hl;split at hl<;>simp at hl
 have h2:=(VT.vx (fun σ σ' ha ⟨s',k1,k2⟩=>⟨s',ha.symm.trans k1,k2⟩) T l.length _ _ _ hc).1 hB h1;have h3:=VX.wp (R:=fun e a' w'=>∃σ',Q e σ'∧mP A σ' a' w') (fun s a' w' ⟨s',k1,k2⟩ hr'=>⟨s',k2,k1.realz hr'⟩) l.length _ _ σ a _ hr.drew h2;simpa using h3
theorem gQh:VY P A ops (fun s=>s=σ) [] pf σ:=rfl
theorem hGg(h1:VY P A ops (fun s=>s=σ') [(i,true)] pf σ)(h:VT P A ops K t ((i,σ.L)::pf) σ' false):VT P A ops K (.q i t) pf σ b:=by
 obtain⟨o,sv,k1,k2,k3⟩:=h1;have k3:σ.setO o.dst sv=σ':=k3;exact⟨o,sv,σ.L,k1,k2,by rw [k3];exact h⟩
theorem jEv{d N:Nat}{x:Operand}{ty:TypeId}{pos:String}{af:Array Edge}{fr:List (Nat × SV)}{L:List LO}{sv:SV}(h:VT P A ops K t ((i,[])::pf) ⟨(d,sv)::fr,L,N⟩ false)(hi:ops[i]? =some ⟨some d,.move x,ty,pos,af,none⟩:=by rfl)(hx:(St.mk fr L N).ev x=sv:=by rfl)(hd:Nat.blt d N=true:=by rfl):VT P A ops K (.q i t) pf ⟨fr,L,N⟩ b:=
 ⟨_,sv,[],hi,⟨fun d' hd'=>by cases hd';exact hd,fun k cs hk=>by simp at hk,.inl ⟨rfl,fun fr' L' he _=>hM3 (by rw [he x (by simp [Op.operands])];exact hx)⟩⟩,h⟩
theorem hSa(h1:VY P A ops (fun s=>s=σ') [(i,false)] pf σ)(h:VT P A ops K t pf σ' false)(hr:VT P A ops K r pf σ true):VT P A ops K (.h i t r) pf σ b:=by
 obtain⟨o,Z,k1,k2,k3⟩:=h1
 exact⟨⟨o,Z,k1,k2,fun sv L' hz=>⟨(k3 sv L' hz).1,by
  have k4:St.setO ⟨σ.fr,L',σ.N⟩ o.dst sv=σ':=(k3 sv L' hz).2
  rw [k4];exact h⟩⟩,hr⟩
theorem gWw(h1:VY P A ops (fun s=>s=σ') [(i,false)] pf σ)(h:VT P A ops K t pf σ' false):VT P A ops K (.h i t .nil) pf σ b:=hSa h1 h (.inl rfl)
theorem gPa(h:K σ):VT P A ops K .nil pf σ b:=.inr h
theorem jH4 {c:Code}{Q:Exit→St→Prop}{fr fr':List (Nat × SV)}{L Lc:List LO}{N:Nat}(n:Nat) [gBp A n] (js:List Nat) (h:V P A c ⟨fr',Lc,N⟩ Q) (hp:gZ4 L (rn js L.length) 0 Lc:=by((repeat(first | exact trivial | exact rfl | refine And.intro ?_ ?_));first | done | fail))
  (hjs:(decide js.Nodup && (js.all fun j=>Nat.blt j L.length) && LO.lts Lc.length Lc)=true:=by rfl) (hn:(js.length==Lc.length && Nat.ble n Lc.length && (List.range n).all fun i=>js[i]? ==some i)=true:=by rfl)
  (hfr:hQd (rn js L.length) fr Lc.length fr':=by((repeat(first | exact trivial | exact rfl | refine And.intro ?_ ?_));first | done | fail)):V P A c ⟨fr,L,N⟩ Q:=by
 simp only [Bool.and_eq_true,decide_eq_true_eq,List.all_eq_true,Nat.blt_eq] at hjs;obtain⟨⟨hnd,hlt⟩,hlts⟩:=hjs;exact hWm (n:=n) js h ⟨fun m o ho=>by simpa using gR1 hp m o ho,fun m m' _ _ he=>hMm hlt hnd he,hlts⟩ hn hfr
theorem goT {X Y:Prop}(hy:Y)(h:Y→X:=by
  intro hy
  repeat(first | refine jEv ?_ | refine hGg (VY_rj rfl gO7 gQh) ?_ | refine hGg (VY_rj rfl gO8 gQh) ?_ | refine hGg (jFn rfl gQh (by(repeat constructor);first | done | fail)) ?_ | refine gWw (jFo rfl (by repeat constructor) (by repeat(first | exact gDf.nil | (apply gDf.keep;focus ((repeat constructor);done)) | (apply gDf.dep;focus kernel_rfl))) gQh) ?_)
  exact hy):X:=h hy
end
section
variable {P:Program}{A:Amb}{ops:Array Oper}{K:St→Prop}{Q:Exit→St→Prop}{rest:List Oper}{σ σ' σJ:St}{fr:List (Nat × SV)}{L:List LO}{N t:Nat}{sv:SV}
variable {ty:TypeId}{pos:String}{af:Array Edge}{op:Op}
theorem VQ.alike(hK:∀s s',Alike s s'→K s→K s'):∀(l:List Oper){σ σ':St},Alike σ σ'→VQ P A ops l σ K→VQ P A ops l σ' K
 | [],_,_,ha,h=>hK _ _ ha h
 | o::l,_,_,ha,⟨sv,h1,h2⟩=>⟨sv,YS.congr ha.L.symm ha.N.symm (fun t _=>(ha.fr t).symm) h1,VQ.alike hK l (ha.setO o.dst sv) h2⟩
theorem LeF.alike{n:Nat}(hl:∀t,Go.Eng.look σ.fr t=Go.Eng.look σ'.fr t):∀{fr':List (Nat × SV)},LeF σ.fr n fr'→LeF σ'.fr n fr'
 | [],h=>h
 | p::r,h=>⟨⟨by rw [←hl];exact h.1.1,h.1.2⟩,LeF.alike hl h.2⟩
theorem Le.alike(ha:Alike σ σ')(h:Le σ σJ):Le σ' σJ:=⟨by rw [←ha.N];exact h.N,LeF.alike ha.fr h.fr,by rw [←ha.L];exact h.L,h.lt⟩
theorem qE{c:Bool}(tj:Nat)(ht:c=true→VQ P A ops rest ⟨(tj,.d (.b true))::fr,L,N⟩ (fun s=>Le s σJ))(hf:c=false→VQ P A ops rest ⟨(tj,.d (.b false))::fr,L,N⟩ (fun s=>Le s σJ))(hb:look fr tj=.d (.b c):=by rfl):VQ P A ops rest ⟨fr,L,N⟩ (fun s=>Le s σJ):=by
 have key:∀c',c=c'→Alike (σ:=⟨(tj,.d (.b c'))::fr,L,N⟩) (σ':=⟨fr,L,N⟩):=fun c' hc=>⟨rfl,rfl,fun t=>by
  simp only [look];by_cases h:t=tj
  ·subst h;rw [if_pos rfl,←hc,←hb]
  ·rw [if_neg h]⟩
 cases hc:c with
 | true=>exact VQ.alike (fun _ _=>Le.alike) rest (key true hc) (ht hc)
 | false=>exact VQ.alike (fun _ _=>Le.alike) rest (key false hc) (hf hc)
theorem wN{j tj:Nat}{want:Bool}{o':Oper}(hq:QR P ⟨fr,L,N⟩ ⟨some t,op,ty,pos,af,some (j,want)⟩ sv)(h:VQ P A ops rest ⟨(t,sv)::fr,L,N⟩ K)(hj:ops[j]? =some o':=by rfl)(hdst:o'.dst=some tj:=by rfl)(htj:Nat.blt tj N=true:=by rfl)(hb:look fr tj=.d (.b want):=by rfl)(ht:Nat.blt t N=true:=by rfl) :
  VQ P A ops (⟨some t,op,ty,pos,af,some (j,want)⟩::rest) ⟨fr,L,N⟩ K:=hFz hj hdst htj hb hq.q ht h
theorem hIa{j tj:Nat}{want:Bool}{o':Oper}(hq:Quiet P A ⟨fr,L,N⟩ ⟨some t,op,ty,pos,af,some (j,want)⟩ sv)(h:VQ P A ops rest ⟨(t,sv)::fr,L,N⟩ K)(hj:ops[j]? =some o':=by rfl)(hdst:o'.dst=some tj:=by rfl)(htj:Nat.blt tj N=true:=by rfl)(hb:look fr tj=.d (.b want):=by rfl)(ht:Nat.blt t N=true:=by rfl) :
  VQ P A ops (⟨some t,op,ty,pos,af,some (j,want)⟩::rest) ⟨fr,L,N⟩ K:=hFz hj hdst htj hb hq ht h
theorem qN{id:Nat}{l:List Oper}{y:Code}(hm:P.follows .mixedOrders=true)(σJ:St)(hB:Region.lexB .any l.toArray=true)(h1:VQ P A l.toArray l σ (fun s=>Le s σJ))(h2:V P A y σJ Q)(hA:A.L0.length≤σJ.L.length:=by rw [gBp.h (A:=A)];exact Nat.le_of_ble_eq_true rfl) :
  V P A (.seq (.region id l.toArray true) y) σ Q:=hWq σJ (hF0 hm hB h1) h2 hA
theorem hUf{c:Code}(σJ:St)(h1:V P A c σ (thenS (fun s=>Le s σJ) Q))(h2:Q .normal σJ)(hA:A.L0.length≤σJ.L.length:=by rw [gBp.h (A:=A)];exact Nat.le_of_ble_eq_true rfl):V P A c σ Q:=fun a w hr=>
 wp_mono (h1 a w hr) fun e a' w' ⟨s,k1,k2⟩=>by
  cases e with
  | normal=>exact⟨σJ,h2,k2.le k1 hA⟩
  | _=>exact⟨s,k1,k2⟩
theorem hEm{id:Nat}{l:List Oper}(hm:P.follows .mixedOrders=true)(σJ:St)(hB:Region.lexB .any l.toArray=true)(h1:VQ P A l.toArray l σ (fun s=>Le s σJ))(h2:Q .normal σJ)(hA:A.L0.length≤σJ.L.length:=by rw [gBp.h (A:=A)];exact Nat.le_of_ble_eq_true rfl) :
  V P A (.region id l.toArray true) σ Q:=hUf σJ (hF0 hm hB h1) h2 hA
theorem hQh {id:Nat}{l:List Oper}(hm:P.follows .mixedOrders=true)(T:OT)(σ':St)(hB:gL2 .any l.toArray T l.length (Array.replicate l.length false) false=true)
  (h:VT P A l.toArray (fun s=>∀a w,mP A s a w→mP A σ' a w) T [] σ false) (hr:Q .normal σ'):V P A (.region id l.toArray true) σ Q:=fun a w hw=>
 wp_mono (hUe (Q:=fun e s=>e=.normal∧∀a w,mP A s a w→mP A σ' a w) hm T hB (VT.mono (fun s hs=>⟨rfl,hs⟩) T [] σ false h) a w hw) fun e a' w' ⟨s,⟨k0,k1⟩,k2⟩=>by subst k0;exact⟨σ',hr,k1 _ _ k2⟩
theorem gL3 {id:Nat}{l:List Oper}{y:Code}(hm:P.follows .mixedOrders=true)(T:OT)(σ':St)(hB:gL2 .any l.toArray T l.length (Array.replicate l.length false) false=true)
  (h:VT P A l.toArray (fun s=>∀a w,mP A s a w→mP A σ' a w) T [] σ false) (hr:V P A y σ' Q):V P A (.seq (.region id l.toArray true) y) σ Q:=kC (hQh hm T σ' hB h hr)
theorem hIu {fr':List (Nat × SV)}{Lc:List LO}(n:Nat) [gBp A n] (js:List Nat) (hp:gZ4 L (rn js L.length) 0 Lc:=by((repeat(first | exact trivial | exact rfl | refine And.intro ?_ ?_));first | done | fail))
  (hjs:(decide js.Nodup && (js.all fun j=>Nat.blt j L.length) && LO.lts Lc.length Lc)=true:=by rfl) (hn:(js.length==Lc.length && Nat.ble n Lc.length && (List.range n).all fun i=>js[i]? ==some i)=true:=by rfl)
  (hfr:hQd (rn js L.length) fr Lc.length fr':=by((repeat(first | exact trivial | exact rfl | refine And.intro ?_ ?_));first | done | fail)):∀a w,mP A ⟨fr,L,N⟩ a w→mP A ⟨fr',Lc,N⟩ a w:=by
 intro a w hr;simp only [Bool.and_eq_true,decide_eq_true_eq,List.all_eq_true,Nat.blt_eq] at hjs;obtain⟨⟨hnd,hlt⟩,hlts⟩:=hjs;exact hr.pick (n:=n) js ⟨fun m o ho=>by simpa using gR1 hp m o ho,fun m m' _ _ he=>hMm hlt hnd he,hlts⟩ hn hfr
theorem gPb {e z bs n i:Nat}{T:TypeId}{L':List LO}{gg:Bool} [TE P T e] [TI P e gg z bs] {zs:List Value} [TZ P e zs] {us:List U} {ps:Array (Nat × Operand)} (h:VO P A ops rest ⟨(t,.sl i 0)::fr,L',N⟩ K) (hps:ps.toList=((ps.toList.map Prod.snd).zipIdx 0).map (fun p=>(p.2,p.1)):=by rfl)
  (hy:VDs ⟨fr,L,N⟩ (ps.toList.map Prod.snd) us:=by(repeat(first | exact .nil | refine .cons (by((repeat(first | exact trivial | exact rfl | exact⟨_,rfl⟩ | refine And.intro ?_ ?_));first | done | fail)) ?_))) (hu:(us.all fun u=>u.sz==z)=true:=by rfl) (hn:((ps.toList.map Prod.snd).length==n && Nat.blt 0 n)=true:=by rfl)
  (hz:(Nat.blt 0 z && Nat.ble (n*z) 16777216 && zs.length==z)=true:=by rfl) (ht:Nat.blt t N=true:=by rfl) (hL':Sn (.arr e z 0 us) L i L':=by repeat constructor) :
  VO P A ops (⟨some t,.buildSlice T n ps,ty,pos,af,none⟩::rest) ⟨fr,L,N⟩ K:=jEq h hps hy hu hn hz ht hL'
theorem hQi{j tj:Nat}{want:Bool}{o':Oper}(hq:QR P ⟨fr,L,N⟩ ⟨some t,op,ty,pos,af,none⟩ sv)(h:VO P A ops rest ⟨(t,sv)::fr,L,N⟩ K)(hj:ops[j]? =some o':=by rfl)(hdst:o'.dst=some tj:=by rfl)(htj:Nat.blt tj N=true:=by rfl)(hb:look fr tj=.d (.b want):=by rfl)(ht:Nat.blt t N=true:=by rfl) :
  VO P A ops (⟨some t,op,ty,pos,af,some (j,want)⟩::rest) ⟨fr,L,N⟩ K:=gRx (pX hq h ht) hj hdst htj hb
theorem hQj{j tj:Nat}{want:Bool}{o':Oper}(hq:Quiet P A ⟨fr,L,N⟩ ⟨some t,op,ty,pos,af,none⟩ sv)(h:VO P A ops rest ⟨(t,sv)::fr,L,N⟩ K)(hj:ops[j]? =some o':=by rfl)(hdst:o'.dst=some tj:=by rfl)(htj:Nat.blt tj N=true:=by rfl)(hb:look fr tj=.d (.b want):=by rfl)(ht:Nat.blt t N=true:=by rfl) :
  VO P A ops (⟨some t,op,ty,pos,af,some (j,want)⟩::rest) ⟨fr,L,N⟩ K:=gRx (uX hq h ht) hj hdst htj hb
theorem hCl{α:Type}{e:α→U}{es:List α→List U}{z z':Nat}[E:Enc α e es z]{el:TypeId}{T T':TypeId}{x:Operand}{g:Option (Nat × Bool)}{dst:Option Nat} [TE P T el]{l:List α}{i ver e':Nat}(hx:σ.ev x=.sl i ver:=by rfl)(hL:σ.L[i]? =some (.arr e' z' ver (es l)):=by rfl):Quiet P A σ ⟨dst,.call { callee:=.builtin .len,args:=#[x],argTypes:=#[T] },T',pos,af,g⟩ (.d (.i .i64 (l.length:Int))):=by
 rw [←Enc.len (es:=es) l];exact hNa hx hL TE.h
theorem jEw{α:Type}{en:α→U}{es:List α→List U}{z:Nat}[E:Enc α en es z]{e bs ver j:Nat}{T:TypeId}{x y:Operand}{g:Option (Nat × Bool)}{dst:Option Nat}{gg:Bool}{l:List α}(k:Nat)(hk:k < l.length) [TE P T e] [TI P e gg z bs](hx:σ.ev x=.sl j ver:=by rfl)(hL:σ.L[j]? =some (.arr e z ver (es l)):=by rfl)(hy:σ.ev y=.d (.i .i64 (k:Int)):=by rfl) :
  Quiet P A σ ⟨dst,.indexAddr T x y,ty,pos,af,g⟩ (.ep j ver z k 0):=by
 have:=gW3 (P:=P) (A:=A) (dst:=dst) (ty:=ty) (pos:=pos) (af:=af) (g:=g) hx hL hy (TE.h:tyE P T=some e) (TI.h:tyI P e=some (gg,z,bs)) (Int.natCast_nonneg k) (by rw [Enc.len];omega)
 simpa using this
theorem hQk{α:Type}{en:α→U}{es:List α→List U}{z:Nat}[E:Enc α en es z]{bs ver e' j k:Nat}{T:TypeId}{x:Operand}{g:Option (Nat × Bool)}{dst:Option Nat}{gg:Bool}{l:List α}{a:α}(ha:l[k]? =some a) [TI P T gg z bs](hx:σ.ev x=.ep j ver z k 0:=by rfl)(hL:σ.L[j]? =some (.arr e' z ver (es l)):=by rfl)(hg:(en a).isSt=gg:=by rfl) :
  Quiet P A σ ⟨dst,.load T x,ty,pos,af,g⟩ (.d (en a)):=hNd hx hL (Enc.get ha) TI.h hg
theorem jEx{α:Type}{en:α→U}{es:List α→List U}{z:Nat}[E:Enc α en es z]{l:List α}{e z' ver:Nat}{c:Code}(i:Nat)(h:l.length≤140737488355328→V P A c ⟨fr,L,N⟩ Q)(hL:L[i]? =some (.arr e z' ver (es l)):=by rfl):V P A c ⟨fr,L,N⟩ Q:=fun a w hr=>by
 obtain⟨S,env,hH,hf,hN,hd⟩:=hr;have hi:=(List.getElem?_eq_some_iff.1 hL).1;rw [←hH.len] at hi
 have:=(hH.objs i _ _ hL (List.getElem?_eq_getElem hi)).1
 rw [Enc.len,gAy] at this;exact h this a w ⟨S,env,hH,hf,hN,hd⟩
theorem vR {α:Type}{en:α→U}{es:List α→List U}{z:Nat}[E:Enc α en es z]{l r:List α}(hg:l.length+r.length≤4294967296){e bs ver i:Nat}{T T':TypeId}{x y:Operand}{L':List LO}{gg:Bool} [TE P T e] [TI P e gg z bs] {zs:List Value} [TZ P e zs]
  (h:VO P A ops rest ⟨(t,.sl i (ver+1))::fr,L',N⟩ K) (hx:(St.mk fr L N).ev x=.sl i ver:=by rfl) (hL:L[i]? =some (.arr e z ver (es l)):=by rfl) (hs:SrcOf ⟨fr,L,N⟩ z (es r) ((St.mk fr L N).ev y):=by first | exact⟨_,rfl⟩ | exact⟨rfl,rfl,Enc.all _⟩ | exact rfl)
  (hz:(Nat.blt 0 z && zs.length==z)=true:=by rfl) (hb:Nat.ble bs 32768=true:=by rfl) (ht:Nat.blt t N=true:=by rfl) (hL':L.set i (.arr e z (ver+1) (es (l++r)))=L':=by rfl) :
  VO P A ops (⟨some t,.call { callee:=.builtin .append,args:=#[x,y],argTypes:=#[T,T] },T',pos,af,none⟩::rest) ⟨fr,L,N⟩ K:=by
 have h1:(es l).length=l.length:=Enc.len l;have h2:(es r).length=r.length:=Enc.len r;have hb:=Nat.le_of_ble_eq_true hb;rw [Enc.app (es:=es)] at hL';refine hNg hx hL rfl hs TE.h TI.h TZ.h hz (Enc.all _) (by rw [gAy];omega) ?_ ht hL' h;rw [h1,h2];exact Nat.le_trans (Nat.mul_le_mul hg hb) (by decide)
end
theorem goL {X Y:Prop}(hy:Y)(h:Y→X:=by
  intro hy
  repeat(first | refine pX gO7 ?_ | refine pX gO8 ?_ | refine uX hGe ?_ | refine uX hCl ?_ | refine hQi gO7 ?_ | refine hQi gO8 ?_ | refine hQj hGe ?_ | refine hQj hCl ?_ | refine hWu ?_ | refine hWv ?_ | refine jFk ?_ (by(repeat constructor);first | done | fail) | refine wC gO7 ?_ | refine wC gO8 ?_ | refine wN gO7 ?_ | refine wN gO8 ?_ | refine hV9 ?_ | refine hWb ?_ | refine jFl ?_ (by(repeat constructor);first | done | fail) | refine gF4 ?_ | refine hR5 ?_ | refine gTr ?_ | refine hGa ?_ | refine hHv Mix.h (by kernel_rfl) ?_ | refine gZ1 ?_ | refine hF0 Mix.h (by kernel_rfl) ?_)
  exact hy):X:=h hy
theorem gCj {X Y:Prop}(hy:Y)(h:Y→X:=by
  intro hy
  repeat(first | refine pX gO7 ?_ | refine pX gO8 ?_ | refine uX hGe ?_ | refine uX hCl ?_ | refine hQi gO7 ?_ | refine hQi gO8 ?_ | refine hQj hGe ?_ | refine hQj hCl ?_ | refine hWu ?_ | refine hWv ?_ | refine jFk ?_ (by(repeat constructor);first | done | fail) | refine wC gO7 ?_ | refine wC gO8 ?_ | refine wN gO7 ?_ | refine wN gO8 ?_ | refine hV9 ?_ | refine hWb ?_ | refine jFl ?_ (by(repeat constructor);first | done | fail) | refine gF4 ?_ | refine hR5 ?_ | refine gTr ?_ | refine hGa ?_ | refine gZ1 ?_)
  exact hy):X:=h hy
section
variable {P:Program}{A:Amb}{σ:St}{dst:Option Nat}{ty:TypeId}{pos:String}{af:Array Edge}{g:Option (Nat × Bool)}
theorem jEy {f:Operand}{fi:Nat}{args:Array Operand}{at_:Array TypeId}{dargs:List SV}{u:U}
  (hspec:gW P fi dargs [u]) (hu:u.scal=true:=by rfl) (hf:σ.ev f=.fn fi []:=by rfl) (hargs:WCs σ.L (args.toList.map σ.ev) dargs:=by((repeat(first | exact trivial | exact rfl | exact⟨_,rfl⟩ | refine Exists.intro _ (And.intro rfl ?_) | refine And.intro ?_ ?_));first | done | fail)) :
  Quiet P A σ ⟨dst,.call { callee:=.value f,args:=args,argTypes:=at_ },ty,pos,af,g⟩ (.d u):=hMd hf hspec hu hargs
theorem qO{ops:Array Oper}{K:St→Prop}{rest:List Oper}{fr:List (Nat × SV)}{L L':List LO}{N i t:Nat}{T e z bs:Nat}{gg:Bool} [TE P T e] [TI P e gg z bs](h:VO P A ops rest ⟨(t,.sl i 0)::fr,L',N⟩ K)(ht:Nat.blt t N=true:=by rfl)(hL':Sn (.arr e z 0 []) L i L':=by repeat constructor) :
  VO P A ops (⟨some t,.buildSlice T 0 #[],ty,pos,af,none⟩::rest) ⟨fr,L,N⟩ K:=by
 obtain⟨hi,hL2⟩:=hL'.spec;subst hi;subst hL2;have hT:tyE P T=some e:=TE.h;have he:tyI P e=some (gg,z,bs):=TI.h;refine gH9 rfl (fun S env a w hH hf hN hd=>?_) h
 obtain⟨hH',C⟩:=hH.new (w':=w.alloc (.cells #[] e)) (.arr e z 0 []) (.slice (some ⟨w.heap.size,0,none⟩) 0 0) (by simp) (fun b hb=>heap_alloc_old w _ hb) rfl rfl rfl
  (fun b hb=>by simp [LO.ft,blk] at hb;subst hb;simp)
  (fun C=>⟨by simp [gAy],by simp,[],⟨by simp,.inr ⟨w.heap.size,0,#[],rfl,Nat.zero_le _,heap_alloc_new w _,Nat.le_refl _,by simp [maxLen],by simp,by simp⟩⟩,by simp [Rds]⟩)
 refine⟨.value (.slice (some ⟨w.heap.size,0,none⟩) 0 0),_,?_,.inl ⟨_,rfl,vZ hf hN hd ht hH' C ?_⟩⟩
 ·simp [execOp,Instr.buildSlice,run_underlying (gA8 hT),run_sizeOf he,Instr.fill,newRow];congr 2;apply Array.ext';simp
 ·simp only [SVr];exact⟨.slice (some ⟨w.heap.size,0,none⟩) 0 0,.arr e z 0 [],by rw [←hH.len];simp,by simp,Nat.le_refl _,rfl,fun _=>rfl⟩
theorem zL{ops:Array Oper}{K:St→Prop}{fr:List (Nat × SV)}{L:List LO}{N i t:Nat}{sv:SV}{op:Op}{r:List (Nat × Bool)}{pf:PF}(hi:ops[i]? =some ⟨some t,op,ty,pos,af,none⟩)(hq:QR P ⟨fr,L,N⟩ ⟨some t,op,ty,pos,af,none⟩ sv)(hv:VY P A ops K r ((i,L)::pf) ⟨(t,sv)::fr,L,N⟩)(ht:Nat.blt t N=true:=by rfl) :
  VY P A ops K ((i,true)::r) pf ⟨fr,L,N⟩:=jIl hq hv hi ht
end
inductive gYe:SV→Int→Int→Prop
 | ag {a b:Int}:gYe (.ag [.d (.i .i64 a),.d (.i .i64 b)]) a b
 | d {a b:Int}:gYe (.d (.st [.i .i64 a,.i .i64 b])) a b
section
variable {P:Program}{A:Amb}{σ:St}{dst:Option Nat}{ty T T':TypeId}{pos:String}{af:Array Edge}{g:Option (Nat × Bool)}{x y:Operand}{a b c d:Int}
theorem gYe.r{S:Nat→Prop}{L:List LO}{env:List Value}{w:World}{sv:SV}{v:Value}(h:gYe sv a b)(hv:SVr S L env w sv v):v=.agg #[.int .i64 a,.int .i64 b]:=by
 cases h with
 | ag=>exact SVr.pair.1 hv
 | d=>
   simp only [SVr] at hv;obtain⟨cs,rfl,h⟩:=hv;simp only [Rd,Rds] at h;obtain⟨c1,c2,rfl,rfl,c3,c4,rfl,rfl,rfl⟩:=h;rfl
theorem hWz [TP P T](hx:gYe (σ.ev x) a b:=by first | exact .ag | exact .d)(hy:gYe (σ.ev y) c d:=by first | exact .ag | exact .d) :
  QR P σ ⟨dst,.binOp .eql T x y T',ty,pos,af,g⟩ (.d (.b (a==c && b==d))):=fun A fr' L' he _=>Quiet.pure fun S env ac w hH ho=>by
 have h1:=ho x (by simp [Op.operands]);have h2:=ho y (by simp [Op.operands]);rw [he x (by simp [Op.operands])] at h1;rw [he y (by simp [Op.operands])] at h2;have h1:=hx.r h1;have h2:=hy.r h2;refine⟨.bool (a==c && b==d),?_,SVr.bool.2 rfl⟩
 have:=(TP.h:hGd P T) w a b c d
 simp [execOp,h1,h2,eqGuard,binOp,this.1,this.2]
end
section
variable {P:Program}{A:Amb}{Q:Exit→St→Prop}{c:Code}{σ:St}
theorem hUg {α:Type}(I:α→St)(J:α→Prop)(μ:α→Nat)(x0:α)(h0:Le σ (I x0))(hJ:J x0)
  (round:∀x,J x→V P A c (I x) (thenS (fun s=>∃y,J y∧μ y < μ x∧∀a w,mP A s a w→mP A (I y) a w) Q)) (hA:∀x,A.L0.length≤(I x).L.length:=by intro x;rw [gBp.h (A:=A)];exact Nat.le_of_ble_eq_true rfl):V P A (.loop c) σ Q:=by
 intro a w hr;refine wp_loop_ghost (fun n a w=>∃x,μ x=n∧J x∧mP A (I x) a w) (μ x0) ⟨x0,rfl,hJ,hr.le h0 (hA _)⟩ ?_;intro n a w ⟨x,hn,hx,hr⟩;refine wp_mono (round x hx a w hr) ?_;intro e a' w' ⟨s,hq,hs⟩;cases e with
 | normal=>
   obtain⟨y,hJy,hlt,hle⟩:=hq;exact⟨μ y,hn▸hlt,y,rfl,hJy,hle _ _ hs⟩
 | exit id=>exact⟨s,hq,hs⟩
 | goto l=>exact⟨s,hq,hs⟩
 | ret=>exact⟨s,hq,hs⟩
 | panic ch=>exact⟨s,hq,hs⟩
 | outgrown=>exact⟨s,hq,hs⟩
theorem hQl {α0 α1 α2 α3 α4 α5 α6:Type}(I:α0→α1→α2→α3→α4→α5→α6→St)(J:α0→α1→α2→α3→α4→α5→α6→Prop)(μ:α0→α1→α2→α3→α4→α5→α6→Nat)(x0:α0)(x1:α1)(x2:α2)(x3:α3)(x4:α4)(x5:α5)(x6:α6)(h0:Le σ (I x0 x1 x2 x3 x4 x5 x6))(hJ:J x0 x1 x2 x3 x4 x5 x6)
  (round:∀a0 a1 a2 a3 a4 a5 a6,J a0 a1 a2 a3 a4 a5 a6→V P A c (I a0 a1 a2 a3 a4 a5 a6) (thenS (fun s=>∃b0 b1 b2 b3 b4 b5 b6,J b0 b1 b2 b3 b4 b5 b6∧μ b0 b1 b2 b3 b4 b5 b6 < μ a0 a1 a2 a3 a4 a5 a6∧∀a w,mP A s a w→mP A (I b0 b1 b2 b3 b4 b5 b6) a w) Q)) (hA:∀a0 a1 a2 a3 a4 a5 a6,A.L0.length≤(I a0 a1 a2 a3 a4 a5 a6).L.length:=by intros;rw [gBp.h (A:=A)];exact Nat.le_of_ble_eq_true rfl):V P A (.loop c) σ Q:=
 hUg (α:=α0 × α1 × α2 × α3 × α4 × α5 × α6) (fun x=>I (x.1) (x.2.1) (x.2.2.1) (x.2.2.2.1) (x.2.2.2.2.1) (x.2.2.2.2.2.1) (x.2.2.2.2.2.2)) (fun x=>J (x.1) (x.2.1) (x.2.2.1) (x.2.2.2.1) (x.2.2.2.2.1) (x.2.2.2.2.2.1) (x.2.2.2.2.2.2)) (fun x=>μ (x.1) (x.2.1) (x.2.2.1) (x.2.2.2.1) (x.2.2.2.2.1) (x.2.2.2.2.2.1) (x.2.2.2.2.2.2)) (x0,x1,x2,x3,x4,x5,x6) h0 hJ (fun x hx=>V.mono (round (x.1) (x.2.1) (x.2.2.1) (x.2.2.2.1) (x.2.2.2.2.1) (x.2.2.2.2.2.1) (x.2.2.2.2.2.2) hx) (fun e s hq=>by
  cases e with
  | normal=>
    obtain⟨b0,b1,b2,b3,b4,b5,b6,h1,h2,h3⟩:=hq;exact⟨(b0,b1,b2,b3,b4,b5,b6),h1,h2,h3⟩
  | _=>exact hq)) (fun x=>hA (x.1) (x.2.1) (x.2.2.1) (x.2.2.2.1) (x.2.2.2.2.1) (x.2.2.2.2.2.1) (x.2.2.2.2.2.2))
inductive AdT (n:Nat):SV→SV→Prop
 | one:AdT n .nilsl (.sl n 0)
 | ag {cs:List SV} (k:Nat) (h:cs[k]? =some .nilsl):AdT n (.ag cs) (.ag (cs.set k (.sl n 0)))
theorem mP.adT{a:Act}{w:World}{fr:List (Nat × SV)}{L:List LO}{N e z t:Nat}{sv':SV}(hs:AdT L.length (look fr t) sv')(h:mP A ⟨fr,L,N⟩ a w):mP A ⟨(t,sv')::fr,L++[.own e z 0 []],N⟩ a w:=by
 obtain⟨S,env,hH,hf,hN,hd⟩:=h;obtain⟨hH1,C1⟩:=hH.newO [] (.own e z 0 []) (.slice none 0 0) (Nat.le_refl _) (fun _ _=>rfl) rfl rfl rfl (fun b hb=>by simp only [LO.ft] at hb;rw [(Tr.nil w z).2] at hb;cases hb) (fun _=>hEc e z 0);rw [gUl] at hH1 C1;have hnil:SVr S (L++[LO.own e z 0 []]) (env++[Value.slice none 0 0]) w (.sl L.length 0) (.slice none 0 0):=by
  simp only [SVr];exact⟨.slice none 0 0,.own e z 0 [],by rw [←hH.len];simp,by simp,Nat.le_refl _,rfl,fun _=>rfl⟩
 refine⟨S,_,hH1,fun t'=>?_,hN,hd⟩;have ht:=SVr.carry C1 _ _ (hf t');simp only at ht;by_cases he:t'=t
 ·subst he;simp only [Go.Eng.look,if_true];generalize look fr t'=sv at hs ht;cases hs with
  | one=>
    simp only [SVr] at ht;rw [ht];exact hnil
  | ag k hk=>
    simp only [SVr] at ht ⊢;obtain⟨vs,h1,h2⟩:=ht;rw [kV.iff] at h2;obtain⟨v,v1,v2⟩:=zX.get h2 k _ hk;simp only [SVr] at v2;subst v2;refine⟨vs,h1,?_⟩;rw [kV.iff];have hset:=zX.set k (.sl L.length 0) (.slice none 0 0) h2 hnil;have hk':k < vs.length:=(List.getElem?_eq_some_iff.1 v1).1
    have:vs.set k (.slice none 0 0)=vs:=by
     apply List.ext_getElem?;intro m;rw [List.getElem?_set];by_cases hm:k=m
     ·subst hm;rw [if_pos rfl,if_pos hk',v1]
     ·rw [if_neg hm]
    rwa [this] at hset
 ·simp only [Go.Eng.look,if_neg he];exact ht
theorem hM4 {fr:List (Nat × SV)}{L L':List LO}{N n:Nat}{sv':SV}(e z t:Nat)(h:V P A c ⟨(t,sv')::fr,L',N⟩ Q)(hn:Ln L n:=by repeat constructor)(hs:AdT n (look fr t) sv':=by first | exact AdT.one | exact AdT.ag 0 rfl | exact AdT.ag 1 rfl | exact AdT.ag 2 rfl | exact AdT.ag 3 rfl | exact AdT.ag 4 rfl | exact AdT.ag 5 rfl | exact AdT.ag 6 rfl | exact AdT.ag 7 rfl | exact AdT.ag 8 rfl)
  (h2:Jn L [.own e z 0 []] L':=by repeat constructor):V P A c ⟨fr,L,N⟩ Q:=by
 have e1:=hn.eq;have e4:=h2.spec;subst e1;subst e4;exact fun a w hr=>h a w (hr.adT hs)
end
section
variable {P:Program}{A:Amb}{σ:St}{dst:Option Nat}{ty:TypeId}{pos:String}{af:Array Edge}{g:Option (Nat × Bool)}{x:Operand}
end
section
variable {P:Program}{σ:St}
theorem jH5 {fn:Func}{Q:SV→List LO→Prop}{n:Nat}(svs:List SV)(Lo:List LO)(hq:Q (mkG svs) Lo)(hL:∃L2,σ.L=Lo++L2:=by exact⟨_,rfl⟩)(hl:(LO.lts Lo.length Lo && SV.lts Lo.length svs && Nat.ble n Lo.length)=true:=by rfl)
  (hr:hEf P σ fn.results.toList svs:=by((repeat(first | exact .nil | refine .data rfl rfl ?_ | refine .same rfl ?_ | refine .same (gMg rfl rfl TI.h rfl rfl) ?_ | refine .same (ResV_one rfl rfl TI.h rfl) ?_ | refine .data (gMg rfl rfl TI.h rfl rfl) (by((repeat(first | exact trivial | exact rfl | exact⟨_,rfl⟩ | refine And.intro ?_ ?_));first | done | fail)) ?_ | refine .data (ResV_one rfl rfl TI.h rfl) (by((repeat(first | exact trivial | exact rfl | exact⟨_,rfl⟩ | refine And.intro ?_ ?_));first | done | fail)) ?_));first | done | fail)):uI P fn Q n .normal σ:=jFr svs Lo hq hL hl hr
theorem gHr {fn:Func}{Q:SV→List LO→Prop}{n:Nat}(svs:List SV)(Lo:List LO)(hq:Q (mkG svs) Lo)(hL:∃L2,σ.L=Lo++L2:=by exact⟨_,rfl⟩)(hl:(LO.lts Lo.length Lo && SV.lts Lo.length svs && Nat.ble n Lo.length)=true:=by rfl)
  (hr:hEf P σ fn.results.toList svs:=by((repeat(first | exact .nil | refine .data rfl rfl ?_ | refine .same rfl ?_ | refine .same (gMg rfl rfl TI.h rfl rfl) ?_ | refine .same (ResV_one rfl rfl TI.h rfl) ?_ | refine .data (gMg rfl rfl TI.h rfl rfl) (by((repeat(first | exact trivial | exact rfl | exact⟨_,rfl⟩ | refine And.intro ?_ ?_));first | done | fail)) ?_ | refine .data (ResV_one rfl rfl TI.h rfl) (by((repeat(first | exact trivial | exact rfl | exact⟨_,rfl⟩ | refine And.intro ?_ ?_));first | done | fail)) ?_));first | done | fail)):uI P fn Q n .ret σ:=jFs svs Lo hq hL hl hr
end
mutual
inductive Rv (j v q:Nat):SV→SV→Prop
 | sl:Rv j v q (.sl j v) (.sl j q)
 | ne {i ver:Nat} (h:(i==j)=false):Rv j v q (.sl i ver) (.sl i ver)
 | d {u:U}:Rv j v q (.d u) (.d u)
 | ptr {i off:Nat}:Rv j v q (.ptr i off) (.ptr i off)
 | dp {u:U}:Rv j v q (.dp u) (.dp u)
 | nil:Rv j v q .nilsl .nilsl
 | ag {cs cs':List SV} (h:Rvs j v q cs cs'):Rv j v q (.ag cs) (.ag cs')
 | tup {cs cs':List SV} (h:Rvs j v q cs cs'):Rv j v q (.tup cs) (.tup cs')
 | fn {f:Nat} {cs cs':List SV} (h:Rvs j v q cs cs'):Rv j v q (.fn f cs) (.fn f cs')
inductive Rvs (j v q:Nat):List SV→List SV→Prop
 | nil:Rvs j v q [] []
 | cons {a b:SV} {az bs:List SV} (h:Rv j v q a b) (h2:Rvs j v q az bs):Rvs j v q (a::az) (b::bs)
end
inductive RvO (j v q:Nat):Nat→LO→LO→Prop
 | own {e z:Nat} {es:List U}:RvO j v q j (.own e z v es) (.own e z q es)
 | arrj {e z:Nat} {es:List U}:RvO j v q j (.arr e z v es) (.arr e z q es)
 | box {i:Nat} {cs cs':List SV} (hi:(i==j)=false) (h:Rvs j v q cs cs'):RvO j v q i (.box cs) (.box cs')
 | owns {i e z ver:Nat} {es:List U} (hi:(i==j)=false):RvO j v q i (.own e z ver es) (.own e z ver es)
 | arr {i e z ver:Nat} {es:List U} (hi:(i==j)=false):RvO j v q i (.arr e z ver es) (.arr e z ver es)
 | frz {i e z ver:Nat} {es:List U} (hi:(i==j)=false):RvO j v q i (.frz e z ver es) (.frz e z ver es)
 | dead {i ver:Nat} (hi:(i==j)=false):RvO j v q i (.dead ver) (.dead ver)
inductive RvL (j v q:Nat):Nat→List LO→List LO→Prop
 | nil {i:Nat}:RvL j v q i [] []
 | cons {i:Nat} {a b:LO} {az bs:List LO} (h:RvO j v q i a b) (h2:RvL j v q (i+1) az bs):RvL j v q i (a::az) (b::bs)
inductive RvF (j v q:Nat):List (Nat × SV)→List (Nat × SV)→Prop
 | nil:RvF j v q [] []
 | cons {t:Nat} {a b:SV} {az bs:List (Nat × SV)} (h:Rv j v q a b) (h2:RvF j v q az bs):RvF j v q ((t,a)::az) ((t,b)::bs)
section
variable {j v q:Nat}{S:Nat→Prop}{L L':List LO}{env:List Value}{w:World}
theorem RvL.get:∀{i:Nat}{az bs:List LO},RvL j v q i az bs→az.length=bs.length∧∀(m:Nat)(b:LO),bs[m]? =some b→∃a,az[m]? =some a∧RvO j v q (i+m) a b
 | i,_,_,.nil=>⟨rfl,fun m b h=>by simp at h⟩
 | i,_,_,.cons (a:=a0) (b:=b0) (az:=az) (bs:=bs) h h2=>by
   obtain⟨k1,k2⟩:=RvL.get h2;refine⟨by simp [k1],fun m b hb=>?_⟩;cases m with
   | zero=>simp at hb;subst hb;exact⟨a0,by simp,by simpa using h⟩
   | succ m=>
     obtain⟨a,q1,q2⟩:=k2 m b (by simpa using hb);exact⟨a,by simpa using q1,by rwa [show i+(m+1)=i+1+m by omega]⟩
theorem RvF.look:∀{az bs:List (Nat × SV)},RvF j v q az bs→∀t,Go.Eng.look bs t=.junk∨Rv j v q (Go.Eng.look az t) (Go.Eng.look bs t)
 | _,_,.nil,t=>.inl rfl
 | _,_,.cons (t:=t0) h h2,t=>by
   simp only [Go.Eng.look];by_cases ht:t=t0
   ·simp only [ht,if_true];exact .inr h
   ·simp only [if_neg ht];exact RvF.look h2 t
mutual
theorem Rv.r(hj:∃o o':LO,L[j]? =some o∧L'[j]? =some o'∧o.ver=v∧o'.ver=q)(ho:∀(i:Nat)(o:LO),i≠j→L[i]? =some o→∃o',L'[i]? =some o'∧o'.ver=o.ver):∀{a b:SV}{x:Value},Rv j v q a b→SVr S L env w a x→SVr S L' env w b x
 | _,_,x,.sl,h=>by
   obtain⟨o1,o2,h1,h2,h3,h4⟩:=hj;simp only [SVr] at h ⊢;obtain⟨hv,o,k1,k2,k3,k4,k5⟩:=h;rw [h1] at k2;obtain rfl:=Option.some.inj k2;exact⟨hv,_,k1,h2,Nat.le_of_eq h4.symm,k4,fun _=>k5 h3.symm⟩
 | _,_,x,.ne hi,h=>by
   simp only [SVr] at h ⊢;obtain⟨hv,o,k1,k2,k3,k4,k5⟩:=h;obtain⟨o',q1,q2⟩:=ho _ o (by simpa using hi) k2;exact⟨hv,o',k1,q1,by rw [q2];exact k3,k4,by rw [q2];exact k5⟩
 | _,_,x,.d,h=>by simpa only [SVr] using h
 | _,_,x,.ptr,h=>by simpa only [SVr] using h
 | _,_,x,.dp,h=>by simpa only [SVr] using h
 | _,_,x,.nil,h=>by simpa only [SVr] using h
 | _,_,x,.ag hs,h=>by
   simp only [SVr] at h ⊢;obtain⟨vs,h1,h2⟩:=h;exact⟨vs,h1,Rvs.r hj ho hs h2⟩
 | _,_,x,.tup hs,h=>by
   simp only [SVr] at h ⊢;obtain⟨vs,h1,h2⟩:=h;exact⟨vs,h1,Rvs.r hj ho hs h2⟩
 | _,_,x,.fn hs,h=>by
   simp only [SVr] at h ⊢;obtain⟨vs,h1,h2⟩:=h;exact⟨vs,h1,Rvs.r hj ho hs h2⟩
theorem Rvs.r(hj:∃o o':LO,L[j]? =some o∧L'[j]? =some o'∧o.ver=v∧o'.ver=q)(ho:∀(i:Nat)(o:LO),i≠j→L[i]? =some o→∃o',L'[i]? =some o'∧o'.ver=o.ver):∀{az bs:List SV}{xs:List Value},Rvs j v q az bs→kV S L env w az xs→kV S L' env w bs xs
 | _,_,[],.nil,h=>by simp only [kV]
 | _,_,_::_,.nil,h=>by simp only [kV] at h
 | _,_,[],.cons _ _,h=>by simp only [kV] at h
 | _,_,_::_,.cons h1 h2,h=>by
   simp only [kV] at h ⊢;exact⟨Rv.r hj ho h1 h.1,Rvs.r hj ho h2 h.2⟩
end
theorem mP.rv{A:Amb}{a:Act}{fr fr':List (Nat × SV)}{N n:Nat}[hb:gBp A n](hn:n≤j)(hjl:j < L.length)(hL:RvL j v q 0 L L')(hfr:RvF j v q fr fr')(h:mP A ⟨fr,L,N⟩ a w):mP A ⟨fr',L',N⟩ a w:=by
 obtain⟨S,env,hH,hf,hN,hd⟩:=h;obtain⟨hlen,hget⟩:=hL.get;have hback:∀(m:Nat)(o:LO),L[m]? =some o→∃o',L'[m]? =some o'∧RvO j v q m o o':=by
  intro m o ho;have hm:m < L'.length:=by rw [←hlen];exact(List.getElem?_eq_some_iff.1 ho).1
  obtain⟨o0,k1,k2⟩:=hget m _ (List.getElem?_eq_getElem hm);rw [ho] at k1;obtain rfl:=Option.some.inj k1;exact⟨_,List.getElem?_eq_getElem hm,by simpa using k2⟩
 have hj:∃o o':LO,L[j]? =some o∧L'[j]? =some o'∧o.ver=v∧o'.ver=q:=by
  obtain⟨o',k1,k2⟩:=hback j _ (List.getElem?_eq_getElem hjl);generalize ho:L[j]=o at k2;have hoj:L[j]? =some o:=by rw [List.getElem?_eq_getElem hjl,ho]
  cases k2 with
  | own=>exact⟨_,_,hoj,k1,rfl,rfl⟩
  | arrj=>exact⟨_,_,hoj,k1,rfl,rfl⟩
  | box hi=>simp at hi
  | owns hi=>simp at hi
  | arr hi=>simp at hi
  | frz hi=>simp at hi
  | dead hi=>simp at hi
 have ho:∀(i:Nat)(o:LO),i≠j→L[i]? =some o→∃o',L'[i]? =some o'∧o'.ver=o.ver:=by
  intro i o hi h;obtain⟨o',k1,k2⟩:=hback i o h;refine⟨o',k1,?_⟩;cases k2 with
  | own=>exact absurd rfl hi
  | arrj=>exact absurd rfl hi
  | _=>rfl
 have hlive:∀{i:Nat}{o o':LO},RvO j v q i o o'→o'.live=o.live∧∀hv b,o'.ft w hv b↔o.ft w hv b:=by
  intro i o o' h;cases h with
  | _=>exact⟨rfl,fun _ _=>Iff.rfl⟩
 refine⟨S,env,⟨by rw [←hlen];exact hH.len,fun i o' hv h1 h2=>?_,fun i o' hv b h1 h2 h3 h4=>?_,fun i k o1 o2 hv1 hv2 b h1 h2 h3 h4 h5 h6 h7 h8=>?_,hH.sS,hH.sA,hH.frame,hH.size,hH.os,hH.tape,hH.output,?_,hH.glob⟩,fun t=>?_,hN,hd⟩
 ·obtain⟨o,k1,k2⟩:=hget i o' h1;simp only [Nat.zero_add] at k2;have hob:=hH.objs i o hv k1 h2;cases k2 with
  | own=>exact hob
  | arrj=>exact hob
  | owns hi=>exact hob
  | arr hi=>exact hob
  | frz hi=>exact hob
  | dead hi=>exact hob
  | box hi hs=>
    obtain⟨b,vals,e,r1,r2,r3,r4⟩:=hob;exact⟨b,vals,e,r1,r2,Rvs.r hj ho hs r3,r4⟩
 ·obtain⟨o,k1,k2⟩:=hget i o' h1;obtain⟨q1,q2⟩:=hlive k2;exact hH.excl i o hv b k1 (by rw [←q1];exact h2) h3 ((q2 hv b).1 h4)
 ·obtain⟨p1,k1,k2⟩:=hget i o1 h1;obtain⟨p2,k3,k4⟩:=hget k o2 h2;obtain⟨q1,q2⟩:=hlive k2;obtain⟨q3,q4⟩:=hlive k4;exact hH.dist i k p1 p2 hv1 hv2 b k1 k3 (by rw [←q1];exact h3) (by rw [←q3];exact h4) h5 h6 ((q2 _ _).1 h7) ((q4 _ _).1 h8)
 ·refine⟨by rw [←hlen];exact hH.base.1,fun i hv o hv' o' h1 h2 h3 h4=>?_⟩;have hi:i < n:=by rw [←hb.h];exact(List.getElem?_eq_some_iff.1 h2).1
  obtain⟨o0,k1,k2⟩:=hget i o' h4;obtain⟨o1,k3,k4⟩:=ho i o0 (by omega) k1;rw [h4] at k3;obtain rfl:=Option.some.inj k3
  have:=hH.base.2 i hv o hv' o0 h1 h2 h3 k1
  rw [k4];exact this
 ·rcases hfr.look t with hjk | hr
  ·show SVr S L' env w (Go.Eng.look fr' t) _;rw [hjk];simp only [SVr]
  ·exact Rv.r hj ho hr (hf t)
end
theorem jH6 {P:Program}{A:Amb}{c:Code}{Q:Exit→St→Prop}{fr fr':List (Nat × SV)}{L L':List LO}{N v q:Nat}(n:Nat) [gBp A n] (j:Nat) (h:V P A c ⟨fr',L',N⟩ Q)
  (hL:RvL j v q 0 L L':=by(repeat(first | exact Rv.sl | exact Rv.ne rfl | exact Rv.d | exact RvO.own | exact RvO.arrj | refine RvO.box rfl ?_ | exact RvO.owns rfl | exact RvO.arr rfl | exact RvO.frz rfl | exact RvO.dead rfl | constructor));first | done | fail)
  (hfr:RvF j v q fr fr':=by(repeat(first | exact Rv.sl | exact Rv.ne rfl | exact Rv.d | constructor));first | done | fail) (hn:(Nat.ble n j && Nat.blt j L.length)=true:=by rfl):V P A c ⟨fr,L,N⟩ Q:=by
 simp only [Bool.and_eq_true,Nat.blt_eq] at hn;exact fun a w hr=>h a w (hr.rv (n:=n) (Nat.le_of_ble_eq_true hn.1) hn.2 hL hfr)
section
variable {P:Program}{A:Amb}{ops:Array Oper}{K:St→Prop}{r:List (Nat × Bool)}{pf:PF}{fr:List (Nat × SV)}{L L':List LO}{N i t:Nat}{sv:SV}
variable {ty:TypeId}{pos:String}{af:Array Edge}
theorem gWx {f:Operand}{fi:Nat}{caps:List SV}{args:Array Operand}{at_:Array TypeId}{cargs:List SV}{Lc Lo:List LO}{sv0:SV}(js:List Nat)(hspec:Spec P fi cargs Lc (fun sv Lo'=>sv=sv0∧Lo'=Lo))
  (hsv:sv0.ren (rn js L.length)=sv) (hL':gNn js (Lo.map (LO.ren (rn js L.length))) L=L')
  (hf:(St.mk fr L N).ev f=.fn fi caps) (hp:gZ4 L (rn js L.length) 0 Lc)
  (hjs:(decide js.Nodup && (js.all fun j=>Nat.blt j L.length) && js.length==Lc.length && LO.lts Lc.length Lc)=true)
  (hargs:AGs L (rn js L.length) Lc.length (args.toList.map (St.mk fr L N).ev++caps) cargs) (ht:Nat.blt t N=true) :
  HSt P A ops ⟨fr,L,N⟩ ⟨some t,.call { callee:=.value f,args:=args,argTypes:=at_ },ty,pos,af,none⟩ sv L':=by
 intro fr' he K hK;have hm:args.toList.map (St.mk fr' L N).ev=args.toList.map (St.mk fr L N).ev:=List.map_congr_left fun x hx=>he x (by simp only [Op.operands,Call.operands];simp;exact .inr (by simpa using hx));refine gLg (caps:=caps) js hspec ?_ (by rw [he f (by simp [Op.operands,Call.operands])];exact hf) hp hjs (by rw [hm];exact hargs) ht;rintro _ _ ⟨rfl,rfl⟩;rw [hsv,hL'];exact gF4 hK
theorem gPc {f:Operand}{fi:Nat}{caps:List SV}{args:Array Operand}{at_:Array TypeId}{cargs:List SV}{Lc Lo:List LO}{sv0:SV}(js:List Nat)(hspec:Spec P fi cargs Lc (fun sv Lo'=>sv=sv0∧Lo'=Lo))(h:VY P A ops K r pf ⟨(t,sv)::fr,L',N⟩)
  (hi:ops[i]? =some ⟨some t,.call { callee:=.value f,args:=args,argTypes:=at_ },ty,pos,af,none⟩:=by rfl) (hsv:sv0.ren (rn js L.length)=sv:=by rfl) (hL':gNn js (Lo.map (LO.ren (rn js L.length))) L=L':=by rfl)
  (hf:(St.mk fr L N).ev f=.fn fi caps:=by rfl) (hp:gZ4 L (rn js L.length) 0 Lc:=by((repeat(first | exact trivial | exact rfl | refine And.intro ?_ ?_));first | done | fail))
  (hjs:(decide js.Nodup && (js.all fun j=>Nat.blt j L.length) && js.length==Lc.length && LO.lts Lc.length Lc)=true:=by rfl)
  (hargs:AGs L (rn js L.length) Lc.length (args.toList.map (St.mk fr L N).ev++caps) cargs:=by((repeat(first | exact trivial | exact .inl ⟨rfl,rfl⟩ | exact .inr ⟨_,rfl,by((repeat(first | exact trivial | exact rfl | exact⟨_,rfl⟩ | refine And.intro ?_ ?_));first | done | fail)⟩ | refine And.intro ?_ ?_));first | done | fail))
  (ht:Nat.blt t N=true:=by rfl) (hpf:gDf ops i L' pf:=by(repeat(first | exact gDf.nil | (apply gDf.keep;focus ((repeat constructor);done)) | (apply gDf.dep;focus kernel_rfl)))) :
  VY P A ops K ((i,false)::r) pf ⟨fr,L,N⟩:=gTq hi (gWx js hspec hsv hL' hf hp hjs hargs ht) hpf h
end
section
variable {P:Program}{A:Amb}{ops:Array Oper}{K:St→Prop}{rest:List Oper}{fr:List (Nat × SV)}{L:List LO}{N t:Nat}{sv:SV}{ty:TypeId}{pos:String}{af:Array Edge}{op:Op}
end
section
variable {P:Program}{A:Amb}{σ:St}{dst:Option Nat}{ty T T':TypeId}{pos:String}{af:Array Edge}{g:Option (Nat × Bool)}{x y:Operand}
end
section
variable {P:Program}{A:Amb}{σ:St}{dst:Option Nat}{ty T T':TypeId}{pos:String}{af:Array Edge}{g:Option (Nat × Bool)}{x y:Operand}
theorem hSc{m n r:Int}(hr:IntKind.i64.wrap (m.tdiv n)=r)(hx:σ.ev x=.d (.i .i64 m):=by rfl)(hy:σ.ev y=.d (.i .i64 n):=by rfl)(hn:decide (0 < n)=true:=by rfl):Quiet P A σ ⟨dst,.binOp .quo T x y T',ty,pos,af,g⟩ (.d (.i .i64 r)):=Quiet.pure fun S env a w hH ho=>by
 have h1:=ho x (by simp [Op.operands]);have h2:=ho y (by simp [Op.operands]);rw [hx,SVr.int] at h1;rw [hy,SVr.int] at h2;have h0:¬n=0:=by have:=of_decide_eq_true hn;omega
 subst hr;exact⟨_,by simp [execOp,h1,h2,eqGuard,binOp,Op.intDiv,h0],SVr.int.2 rfl⟩
theorem hW4{m n:Int}(hx:σ.ev x=.d (.i .i64 m):=by rfl)(hy:σ.ev y=.d (.i .i64 n):=by rfl)(hn:decide (0 < n)=true:=by rfl):Quiet P A σ ⟨dst,.binOp .rem T x y T',ty,pos,af,g⟩ (.d (.i .i64 (m.tmod n))):=Quiet.pure fun S env a w hH ho=>by
 have h1:=ho x (by simp [Op.operands]);have h2:=ho y (by simp [Op.operands]);rw [hx,SVr.int] at h1;rw [hy,SVr.int] at h2;have h0:¬n=0:=by have:=of_decide_eq_true hn;omega
 exact⟨_,by simp [execOp,h1,h2,eqGuard,binOp,Op.intDiv,h0],SVr.int.2 rfl⟩
theorem yS{a b:LB}(hl:a.length+b.length≤4294967296)(hx:σ.ev x=.d (.s a):=by rfl)(hy:σ.ev y=.d (.s b):=by rfl):QR P σ ⟨dst,.binOp .add T x y T',ty,pos,af,g⟩ (.d (.s (a++b))):=
 fun A fr' L' he _=>hWl (by rw [he x (by simp [Op.operands])];exact hx) (by rw [he y (by simp [Op.operands])];exact hy) (by rw [gAy];omega)
end
def hW5(a:UInt8):U:=.i .u8 (a.toNat:Int)
def gHs:LB→List U
 | []=>[]
 | a::l=>.i .u8 (a.toNat:Int)::gHs l
instance:Enc UInt8 hW5 gHs 1:=⟨fun l=>by induction l with | nil=>rfl | cons a l ih=>simp [gHs,ih,hW5],fun _=>rfl⟩
theorem hUh{l:LB}{k:Nat}{x:UInt8}(h:l[k]? =some x):(gHs l)[k]? =some (.i .u8 (x.toNat:Int)):=Enc.get h
structure kP where
 b:LB
 i:Int
 h:Int
def hIv(m n:Int):Int:=IntKind.i64.wrap (BitVec.ofInt 64 m &&& BitVec.ofInt 64 n).toNat
def hW6(m n:Int):Int:=IntKind.i64.wrap (BitVec.ofInt 64 m ^^^ BitVec.ofInt 64 n).toNat
def hQm(m n:Int):Int:=m.fdiv (2^(min n.toNat 64))
theorem gUp(m:Int):0≤hIv m 255∧hIv m 255≤255:=by
 have h:(BitVec.ofInt 64 m &&& BitVec.ofInt 64 255).toNat≤255:=by
  rw [BitVec.toNat_and];exact Nat.and_le_right
 unfold hIv;rw [gD7 _ (by omega) (by omega)];omega
section
variable {P:Program}{A:Amb}{σ:St}{dst:Option Nat}{ty T T':TypeId}{pos:String}{af:Array Edge}{g:Option (Nat × Bool)}{x y:Operand}
theorem hUi:QR P σ ⟨dst,.assign (.const (.pointer none)),ty,pos,af,g⟩ .junk:=
 fun A fr' L' he _=>Quiet.pure fun S env a w hH ho=>⟨.pointer none,by simp [execOp,Act.eval],by simp only [SVr]⟩
theorem hM5{m n:Int}(hx:σ.ev x=.d (.i .i64 m):=by rfl)(hy:σ.ev y=.d (.i .i64 n):=by rfl):QR P σ ⟨dst,.binOp .and T x y T',ty,pos,af,g⟩ (.d (.i .i64 (hIv m n))):=
 fun A fr' L' he _=>Quiet.pure fun S env a w hH ho=>by
  have h1:=ho x (by simp [Op.operands]);have h2:=ho y (by simp [Op.operands]);rw [he x (by simp [Op.operands]),hx,SVr.int] at h1;rw [he y (by simp [Op.operands]),hy,SVr.int] at h2;exact⟨_,by simp [execOp,h1,h2,eqGuard,binOp,Op.intBits];rfl,SVr.int.2 rfl⟩
theorem hW7{m n:Int}(hx:σ.ev x=.d (.i .i64 m):=by rfl)(hy:σ.ev y=.d (.i .i64 n):=by rfl):QR P σ ⟨dst,.binOp .xor T x y T',ty,pos,af,g⟩ (.d (.i .i64 (hW6 m n))):=
 fun A fr' L' he _=>Quiet.pure fun S env a w hH ho=>by
  have h1:=ho x (by simp [Op.operands]);have h2:=ho y (by simp [Op.operands]);rw [he x (by simp [Op.operands]),hx,SVr.int] at h1;rw [he y (by simp [Op.operands]),hy,SVr.int] at h2;exact⟨_,by simp [execOp,h1,h2,eqGuard,binOp,Op.intBits];rfl,SVr.int.2 rfl⟩
theorem hSe{m n:Int}{k:IntKind}(hx:σ.ev x=.d (.i .i64 m):=by rfl)(hy:σ.ev y=.d (.i k n):=by rfl)(hn:decide (0≤n)=true:=by rfl):QR P σ ⟨dst,.binOp .shr T x y T',ty,pos,af,g⟩ (.d (.i .i64 (hQm m n))):=
 fun A fr' L' he _=>Quiet.pure fun S env a w hH ho=>by
  have h1:=ho x (by simp [Op.operands]);have h2:=ho y (by simp [Op.operands]);rw [he x (by simp [Op.operands]),hx,SVr.int] at h1;rw [he y (by simp [Op.operands]),hy,SVr.int] at h2;have h0:¬n < 0:=by have:=of_decide_eq_true hn;omega
  exact⟨_,by simp [execOp,h1,h2,eqGuard,binOp,Op.shift,h0];rfl,SVr.int.2 rfl⟩
theorem hSf{m n:Int}(h0:n≠0)(hx:σ.ev x=.d (.i .i64 m):=by rfl)(hy:σ.ev y=.d (.i .i64 n):=by rfl):QR P σ ⟨dst,.binOp .rem T x y T',ty,pos,af,g⟩ (.d (.i .i64 (m.tmod n))):=
 fun A fr' L' he _=>Quiet.pure fun S env a w hH ho=>by
  have h1:=ho x (by simp [Op.operands]);have h2:=ho y (by simp [Op.operands]);rw [he x (by simp [Op.operands]),hx,SVr.int] at h1;rw [he y (by simp [Op.operands]),hy,SVr.int] at h2;exact⟨_,by simp [execOp,h1,h2,eqGuard,binOp,Op.intDiv,h0],SVr.int.2 rfl⟩
theorem hUj{T2:TypeId}{k k1 k2:IntKind}{m:Int}(h1:P.underlying T=some (.int k1))(h2:P.underlying T2=some (.int k2))(hx:σ.ev x=.d (.i k m):=by rfl):QR P σ ⟨dst,.convert T T2 x,ty,pos,af,g⟩ (.d (.i k2 (k2.wrap m))):=
 fun A fr' L' he _=>hEd (by rw [he x (by simp [Op.operands])];exact hx) h1 h2
end
section
variable {P:Program}{A:Amb}{σ:St}{K:St→Prop}{Q:Exit→St→Prop}
variable {ops:Array Oper}{rest:List Oper}{t:Nat}{ty:TypeId}{pos:String}{af:Array Edge}{x y:Operand}{sv:SV}{dst:Option Nat}{g:Option (Nat × Bool)}
theorem hQo{T T' e:TypeId}{z:Nat}{us:List U}{fr:List (Nat × SV)}{L:List LO}{N:Nat} [TE P T e](h:∀b:Bool,(b=true→us=[])→VO P A ops rest ⟨(t,.d (.b b))::fr,L,N⟩ K)(hx:(St.mk fr L N).ev x=.d (.sl z us):=by rfl)(ht:Nat.blt t N=true:=by rfl) :
  VO P A ops (⟨some t,.binOp .eql T x (.const (.slice none 0 0)) T',ty,pos,af,none⟩::rest) ⟨fr,L,N⟩ K:=by
 intro R hR a w ⟨S,env,hH,hf,hN,hd⟩;have h1:=mP.ev hf hH x;rw [hx,SVr.slice] at h1;obtain⟨_,base,cap,h1,h2⟩:=h1;refine wpList_plain rfl fun K' hK'=>?_;have hT:P.underlying T=some (.slice e):=gA8 TE.h;have hrun:(execOp a.eval ⟨some t,.binOp .eql T x (.const (.slice none 0 0)) T',ty,pos,af,none⟩).run P w=.ok (.value (.bool base.isNone)) w:=by
  have h0:a.eval (.const (.slice none 0 0))=.slice none 0 0:=rfl;simp [execOp,h1,h0,eqGuard,Lib.run_eql_slice_nil w T e base us.length (us.length+cap) 0 0 hT]
 unfold Oper.wp;rw [hrun];refine hK' _ _ (h base.isNone (fun hb=>?_) R hR _ _ (vZ (σ:=⟨fr,L,N⟩) hf hN hd ht hH Carry.refl (SVr.bool.2 rfl)));rcases h2 with h2 | ⟨b,off,rfl,_⟩
 ·exact h2
 ·cases hb
end
section
variable {P:Program}{A:Amb}{ops:Array Oper}{K:St→Prop}{r:List (Nat × Bool)}{pf:PF}{fr:List (Nat × SV)}{L L1 L':List LO}{N i t m:Nat}
variable {ty:TypeId}{pos:String}{af:Array Edge}{x y:Operand}{T:TypeId}
end
section
variable {P:Program}{A:Amb}{σ:St}{K:St→Prop}{Q:Exit→St→Prop}
variable {ops:Array Oper}{rest:List Oper}{t:Nat}{ty:TypeId}{pos:String}{af:Array Edge}{x y:Operand}{sv:SV}{dst:Option Nat}{g:Option (Nat × Bool)}
end
section
variable {P:Program}{A:Amb}{Q:Exit→St→Prop}{c:Code}
end
theorem VDs.same{σ σ':St}(hL:σ'.L=σ.L){l:List Operand}{us:List U}(h:VDs σ l us):(∀x∈l,σ'.ev x=σ.ev x)→VDs σ' l us:=by
 induction h with
 | nil=>exact fun _=>.nil
 | @cons x l u us h h2 ih=>exact fun he=>.cons (by rw [hL,he x (by simp)];exact h) (ih fun y hy=>he y (by simp [hy]))
section
variable {P:Program}{A:Amb}{ops:Array Oper}{K:St→Prop}{r:List (Nat × Bool)}{pf:PF}{fr:List (Nat × SV)}{L L1 L':List LO}{N i t m:Nat}
variable {ty:TypeId}{pos:String}{af:Array Edge}{x y:Operand}{T:TypeId}
theorem gN3 {e z bs n:Nat}{gg:Bool} [TE P T e] [TI P e gg z bs] {zs:List Value} [TZ P e zs] {us:List U} {ps:Array (Nat × Operand)} (h:VY P A ops K r pf ⟨(t,.sl m 0)::fr,L',N⟩) (hi:ops[i]? =some ⟨some t,.buildSlice T n ps,ty,pos,af,none⟩:=by rfl) (hps:ps.toList=((ps.toList.map Prod.snd).zipIdx 0).map (fun p=>(p.2,p.1)):=by rfl)
  (hy:VDs ⟨fr,L,N⟩ (ps.toList.map Prod.snd) us:=by(repeat(first | exact .nil | refine .cons (by((repeat(first | exact trivial | exact rfl | exact⟨_,rfl⟩ | refine And.intro ?_ ?_));first | done | fail)) ?_))) (hu:(us.all fun u=>u.sz==z)=true:=by rfl) (hn:((ps.toList.map Prod.snd).length==n && Nat.blt 0 n)=true:=by rfl)
  (hz:(Nat.blt 0 z && Nat.ble (n*z) 16777216 && zs.length==z)=true:=by rfl) (ht:Nat.blt t N=true:=by rfl) (hL':Sn (.arr e z 0 us) L m L':=by repeat constructor)
  (hp:gDf ops i L' pf:=by(repeat(first | exact gDf.nil | (apply gDf.keep;focus ((repeat constructor);done)) | (apply gDf.dep;focus kernel_rfl)))):VY P A ops K ((i,false)::r) pf ⟨fr,L,N⟩:=
 gTq hi (fun fr' he' K' hK=>gPb (gF4 hK) hps (VDs.same (σ:=⟨fr,L,N⟩) (σ':=⟨fr',L,N⟩) rfl hy (fun x hx=>he' x (by simpa [Op.operands] using hx))) hu hn hz ht hL') hp h
theorem hGh {α:Type}{en:α→U}{es:List α→List U}{z:Nat}[E:Enc α en es z]{l l2:List α}(hg:l.length+l2.length≤4294967296){e bs ver:Nat}{T':TypeId}{gg:Bool} [TE P T e] [TI P e gg z bs] {zs:List Value} [TZ P e zs]
  (h:VY P A ops K r pf ⟨(t,.sl m (ver+1))::fr,L',N⟩) (hi:ops[i]? =some ⟨some t,.call { callee:=.builtin .append,args:=#[x,y],argTypes:=#[T,T] },T',pos,af,none⟩:=by rfl) (hx:(St.mk fr L N).ev x=.sl m ver:=by rfl) (hL:L[m]? =some (.arr e z ver (es l)):=by rfl) (hs:SrcOf ⟨fr,L,N⟩ z (es l2) ((St.mk fr L N).ev y):=by first | exact⟨_,rfl⟩ | exact⟨rfl,rfl,Enc.all _⟩ | exact rfl)
  (hz:(Nat.blt 0 z && zs.length==z)=true:=by rfl) (hb:Nat.ble bs 32768=true:=by rfl) (ht:Nat.blt t N=true:=by rfl) (hL':L.set m (.arr e z (ver+1) (es (l++l2)))=L':=by rfl)
  (hp:gDf ops i L' pf:=by(repeat(first | exact gDf.nil | (apply gDf.keep;focus ((repeat constructor);done)) | (apply gDf.dep;focus kernel_rfl)))):VY P A ops K ((i,false)::r) pf ⟨fr,L,N⟩:=
 gTq hi (fun fr' he' K' hK=>vR (l:=l) (r:=l2) hg (gF4 hK) (by rw [he' x (by simp [Op.operands,Call.operands])];exact hx) hL (by rw [he' y (by simp [Op.operands,Call.operands])];exact hs) hz hb ht hL') hp h
end
section
variable {P:Program}{A:Amb}{ops:Array Oper}{K:St→Prop}{r:List (Nat × Bool)}{pf:PF}{o:Oper}{fr:List (Nat × SV)}{L L1 L':List LO}{N i t j:Nat}{sv:SV}
theorem mP.adoptA{a:Act}{w:World}{cs cs':List SV}{e z:Nat}(hL:L[j]? =some (.box cs))(k:Nat)(hc:cs[k]? =some .nilsl)(hcs:cs.set k (.sl L.length 0)=cs')(h:mP A ⟨fr,L,N⟩ a w):mP A ⟨fr,L.set j (.box cs')++[.arr e z 0 []],N⟩ a w:=by
 subst hcs;obtain⟨S,env,hH,hf,hN,hd⟩:=h;have hj:=(List.getElem?_eq_some_iff.1 hL).1;obtain⟨hH1,C1⟩:=hH.newO [] (.arr e z 0 []) (.slice none 0 0) (Nat.le_refl _) (fun _ _=>rfl) rfl rfl rfl (fun b hb=>by simp [LO.ft,blk] at hb) (fun _=>⟨by simp [gAy],by simp,[],World.ownsRow_nil w 0 e z,by simp [Rds]⟩);rw [gUl] at hH1 C1;have hL1:(L++[LO.arr e z 0 []])[j]? =some (.box cs):=by rw [List.getElem?_append_left hj];exact hL
 have hje:j < (env++[Value.slice none 0 0]).length:=by rw [hH1.len];simp;omega
 obtain⟨hv,he⟩:∃hv,(env++[Value.slice none 0 0])[j]? =some hv:=⟨_,List.getElem?_eq_getElem hje⟩
 obtain⟨b,vals,e',r1,r2,r3,r4⟩:=hH1.objs j _ hv hL1 he
 obtain⟨hH2,C2⟩:=hH1.turnF (w':=w) j (.box cs) (.box (cs.set k (.sl L.length 0))) hv hL1 rfl he rfl rfl (fun _ _=>rfl) rfl rfl rfl (fun k hk=>hk) (fun C=>⟨b,vals,e',r1,r2,by
  have r3':=kV.carry C _ _ r3;rw [kV.iff] at r3' ⊢;obtain⟨v,v1,v2⟩:=zX.get ((kV.iff _ _).1 r3) k _ hc;simp only [SVr] at v2;subst v2
  have hset:=zX.set k (.sl L.length 0) (.slice none 0 0) r3' (by
   simp only [SVr];refine⟨.slice none 0 0,.arr e z 0 [],by rw [←hH.len];simp,?_,Nat.le_refl _,rfl,fun _=>rfl⟩;rw [List.getElem?_set_ne (by omega)]
   simp)
  have hk:k < vals.toList.length:=(List.getElem?_eq_some_iff.1 v1).1
  have:vals.toList.set k (.slice none 0 0)=vals.toList:=by
   apply List.ext_getElem?;intro m;rw [List.getElem?_set];by_cases hm:k=m
   ·subst hm;rw [if_pos rfl,if_pos hk,v1]
   ·rw [if_neg hm]
  rwa [this] at hset,r4⟩)
 have hse:(L++[LO.arr e z 0 []]).set j (.box (cs.set k (.sl L.length 0)))=L.set j (.box (cs.set k (.sl L.length 0)))++[.arr e z 0 []]:=by rw [List.set_append_left _ _ hj]
 rw [hse] at hH2 C2;exact⟨S,_,hH2,fun t=>SVr.carry C2 _ _ (SVr.carry C1 _ _ (hf t)),hN,hd⟩
theorem uA {Q:Exit→St→Prop}{c:Code}{cs cs':List SV}{n:Nat}(e z:Nat)(j k:Nat)(hL:L[j]? =some (.box cs))(hc:cs[k]? =some .nilsl)(hn:Ln L n)(hcs:St1 (.sl n 0) k cs cs')(h1:St1 (.box cs') j L L1)(h2:Jn L1 [.arr e z 0 []] L')
  (h:V P A c ⟨fr,L',N⟩ Q):V P A c ⟨fr,L,N⟩ Q:=by
 have e1:=hn.eq;have e2:=hcs.spec;have e3:=h1.spec;have e4:=h2.spec;subst e1;subst e2;subst e3;subst e4;exact fun a w hr=>h a w (mP.adoptA hL k hc rfl hr)
end
section
variable {P:Program}{A:Amb}{σ:St}{K:St→Prop}
variable {ops:Array Oper}{rest:List Oper}{t:Nat}{ty:TypeId}{pos:String}{af:Array Edge}{x y:Operand}{dst:Option Nat}{g:Option (Nat × Bool)}
end
theorem jG(l:List gF):(jJ l).length=l.length:=Enc.len l
theorem gQ(l:List gM):(jM l).length=l.length:=Enc.len l
section
variable {P:Program}{A:Amb}{ops:Array Oper}{K:St→Prop}{r:List (Nat × Bool)}{pf:PF}{fr:List (Nat × SV)}{L L1 L':List LO}{N i:Nat}{o:Oper}{sv:SV}
theorem hUk(zi:Nat){e z ver:Nat}{es:List U}(hz:L[zi]? =some (.own e z ver es))(hL1:L.set zi (.frz e z ver es)=L1)(h:VY P A ops K ((i,false)::r) pf ⟨fr,L1,N⟩):VY P A ops K ((i,false)::r) pf ⟨fr,L,N⟩:=by
 obtain⟨o,Z,h1,h2,h3⟩:=h;exact⟨o,Z,h1,fun fr' he K' hK=>gS9 zi hz hL1 (h2 fr' he K' hK),h3⟩
theorem gWy(zi:Nat){e z ver:Nat}{es:List U}(hz:L[zi]? =some (.arr e z ver es))(hL1:L.set zi (.frz e z ver es)=L1)(h:VY P A ops K ((i,false)::r) pf ⟨fr,L1,N⟩):VY P A ops K ((i,false)::r) pf ⟨fr,L,N⟩:=by
 obtain⟨o,Z,h1,h2,h3⟩:=h;exact⟨o,Z,h1,fun fr' he K' hK=>qV zi hz hL1 (h2 fr' he K' hK),h3⟩
end
section
variable {P:Program}{σ:St}
theorem hW8 {fn:Func}{Q:SV→List LO→Prop}{n:Nat}(svs:List SV)(Lo:List LO)(hq:Q (mkG svs) Lo)(hL:∃L2,σ.L=Lo++L2:=by exact⟨_,rfl⟩)(hl:(LO.lts Lo.length Lo && SV.lts Lo.length svs && Nat.ble n Lo.length)=true:=by rfl)
  (hr:hEf P σ fn.results.toList svs:=by((repeat(first | exact .nil | refine .data rfl rfl ?_ | refine .data rfl (by((repeat(first | exact trivial | exact rfl | exact⟨_,rfl⟩ | refine And.intro ?_ ?_));first | done | fail)) ?_ | refine .same rfl ?_ | refine .same (gMg rfl rfl TI.h rfl rfl) ?_ | refine .same (ResV_one rfl rfl TI.h rfl) ?_ | refine .data (gMg rfl rfl TI.h rfl rfl) (by((repeat(first | exact trivial | exact rfl | exact⟨_,rfl⟩ | refine And.intro ?_ ?_));first | done | fail)) ?_ | refine .data (ResV_one rfl rfl TI.h rfl) (by((repeat(first | exact trivial | exact rfl | exact⟨_,rfl⟩ | refine And.intro ?_ ?_));first | done | fail)) ?_));first | done | fail)):uI P fn Q n .ret σ:=jFs svs Lo hq hL hl hr
end
theorem RdE.take{S:Nat→Prop}{w:World}{z b:Nat}:∀(us:List U)(off k:Nat),RdE S w z b off us→RdE S w z b off (us.take k)
 | _,_,0,_=>by simp [RdE]
 | [],_,_+1,_=>by simp [RdE]
 | u::us,off,k+1,h=>by
   simp only [RdE] at h;simp only [List.take_succ_cons,RdE];exact⟨h.1,RdE.take us (off+z) k h.2⟩
section
variable {P:Program}{σ:St}{dst:Option Nat}{ty T:TypeId}{pos:String}{af:Array Edge}{g:Option (Nat × Bool)}{x y h:Operand}
theorem hSg{α:Type}{en:α→U}{es:List α→List U}{z:Nat}[E:Enc α en es z]{e bs:Nat}{gg:Bool}{l:List α}{k:Int}(hk:0≤k∧k≤l.length) [TE P T e] [TI P e gg z bs](hx:σ.ev x=.d (.sl z (es l)):=by rfl)(hh:σ.ev h=.d (.i .i64 k):=by rfl) :
  QR P σ ⟨dst,.slice T x none (some h) none,ty,pos,af,g⟩ (.d (.sl z (es (l.take k.toNat)))):=fun A fr' L' he _=>Quiet.pure fun S env a w hH ho=>by
 have h1:=ho x (by simp [Op.operands]);have h2:=ho h (by simp [Op.operands]);rw [he x (by simp [Op.operands]),hx] at h1;rw [he h (by simp [Op.operands]),hh,SVr.int] at h2;rw [SVr.slice] at h1;obtain⟨hbg,base,cap,h3,h4⟩:=h1;have hlen:(es l).length=l.length:=Enc.len l;have htk:es (l.take k.toNat)=(es l).take k.toNat:=by rw [E.h,E.h,List.map_take]
 have hT:P.underlying T=some (.slice e):=gA8 TE.h;have hel:P.elem T=e:=by simp [Program.elem,hT]
 have hT':P.underlying T=some (.slice (P.elem T)):=by rw [hel];exact hT
 obtain⟨hk0,hk1⟩:=hk;have hkn:k.toNat≤(es l).length:=by omega
 have hrun:=run_slice_h (w:=w) T base (es l).length ((es l).length+cap) hT' .i64 k hk0 (by omega);have hsz:=run_sizeOf (w:=w) (TI.h:tyI P e=some (gg,z,bs));rw [hel,hsz] at hrun;simp only [Result.andThen] at hrun;refine⟨sliced base 0 k.toNat ((es l).length+cap) z,?_,?_⟩
 ·simp [execOp,h3,h2,Instr.sliceAt,run_underlying hT,hrun]
 ·rw [SVr.slice,htk];have htl:((es l).take k.toNat).length=k.toNat:=by rw [List.length_take];omega
  refine⟨by omega,?_⟩;rcases h4 with h4 | ⟨b,off,rfl,h5,h6⟩
  ·have hl0:(es l).length=0:=by rw [h4];rfl
   have hk2:k.toNat=0:=by omega
   refine⟨if 0+cap=0 then base else base.map (·.add (0*z)),cap,?_,.inl (by rw [h4];simp)⟩;rw [htl,hl0,hk2];simp [sliced]
  ·by_cases hc:(es l).length+cap=0
   ·have hk2:k.toNat=0:=by omega
    have hnil:(es l).take k.toNat=[]:=List.eq_nil_of_length_eq_zero (by omega);refine⟨some ⟨b,off,none⟩,0,?_,.inl hnil⟩;rw [htl,hc,hk2];simp [sliced]
   ·refine⟨some ⟨b,off,none⟩,(es l).length+cap - k.toNat,?_,.inr ⟨b,off,rfl,h5,RdE.take _ _ _ h6⟩⟩;rw [htl]
    have:k.toNat+((es l).length+cap - k.toNat)=(es l).length+cap:=by omega
    rw [this];simp [sliced,hc,Addr.add_lit]
end
section
variable {P:Program}{A:Amb}{ops:Array Oper}{K:St→Prop}{r:List (Nat × Bool)}{pf:PF}{fr:List (Nat × SV)}{L L1 L':List LO}{N i t m:Nat}
variable {ty:TypeId}{pos:String}{af:Array Edge}{x y:Operand}{T:TypeId}
end
end Go.Eng
