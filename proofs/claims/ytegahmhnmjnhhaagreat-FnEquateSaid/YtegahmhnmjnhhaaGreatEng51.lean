import Derived.Test.YtegahmhnmjnhhaaGreatEng40
import Derived.Lib.SliceRun
set_option linter.unusedVariables false
set_option linter.unusedSimpArgs false
namespace Go.Eng
open Go Go.RowKit
inductive OT where
 | nil
 | q (i:Nat) (t:OT)
 | h (i:Nat) (t r:OT)
def OT.heads:OT→List Nat
 | .h i _ r=>i::r.heads
 | _=>[]
def gIp(md:Region.Mode)(ops:Array Oper):OT→Nat→Array Bool→Bool→Bool
 | .nil,n,listed,b=>b || (n==0 && (Region.ready md ops listed).isEmpty)
 | .q i t,n,listed,b=> !b && Nat.blt 0 n && (Region.ready md ops listed).contains i && Region.free md ops listed i && gIp md ops t (n - 1) (listed.setIfInBounds i true) false
 | .h i t r,n,listed,b=>Nat.blt 0 n && (b || Region.ready md ops listed==i::r.heads) && gIp md ops t (n - 1) (listed.setIfInBounds i true) false && gIp md ops r n listed true
section
variable {P:Program}{A:Amb}{ops:Array Oper}{K:St→Prop}{σ σ':St}{t r:OT}{pf:PF}{i:Nat}{b:Bool}
def VT(P:Program)(A:Amb)(ops:Array Oper)(K:St→Prop):OT→PF→St→Bool→Prop
 | .nil,_,σ,b=>b=true∨K σ
 | .q i t,pf,σ,_=>∃o sv B,ops[i]? =some o∧PSt P A ops B σ o sv∧VT P A ops K t ((i,B)::pf) (σ.setO o.dst sv) false
 | .h i t r,pf,σ,_=>(∃o Z,ops[i]? =some o∧hMr P A ops σ o Z∧∀sv L',Z sv L'→(∀p∈pf,hGb .any ops ops.size p.1 i=true∨gSq p.2 L')∧VT P A ops K t pf (St.setO ⟨σ.fr,L',σ.N⟩ o.dst sv) false)∧VT P A ops K r pf σ true
theorem VT.vx(hK:∀σ σ',Alike σ σ'→K σ→K σ'):∀(T:OT)(n:Nat)(listed:Array Bool)(pf:PF)(σ:St),Closed .any ops listed→
  (gIp .any ops T n listed false=true→VT P A ops K T pf σ false→VX P A .any ops K n listed pf σ)∧
  (gIp .any ops T (n+1) listed true=true→VT P A ops K T pf σ true→∀j∈T.heads,j∈Region.ready .any ops listed→∃o,ops[j]? =some o∧∃Z,hMr P A ops σ o Z∧∀sv L',Z sv L'→(∀p∈pf,hGb .any ops ops.size p.1 j=true∨gSq p.2 L')∧VX P A .any ops K n (listed.setIfInBounds j true) pf (St.setO ⟨σ.fr,L',σ.N⟩ o.dst sv)):=by
 intro T
 induction T with
 | nil=>
   intro n listed pf σ hc;refine⟨fun hB h=>?_,fun _ _ j hj=>by simp [OT.heads] at hj⟩;simp only [gIp,Bool.false_or,Bool.and_eq_true,beq_iff_eq] at hB;simp only [VT,Bool.false_eq_true,false_or] at h;obtain⟨rfl,hB⟩:=hB;exact⟨by simpa using hB,h⟩
 | q i t ih=>
   intro n listed pf σ hc;refine⟨fun hB h=>?_,fun hB=>by simp [gIp] at hB⟩;simp only [gIp,Bool.not_false,Bool.true_and,Bool.and_eq_true,Nat.blt_eq] at hB;obtain⟨⟨⟨h0,hr⟩,hfr⟩,hB⟩:=hB;obtain⟨m,rfl⟩:∃m,n=m+1:=⟨n - 1,by omega⟩
   simp only [Nat.add_sub_cancel] at hB;obtain⟨o,sv,B,h1,h2,h3⟩:=h;have hr:i∈Region.ready .any ops listed:=by simpa using hr
   exact VX.first hK h1 m listed pf σ hc (Region.free_spec h1 hfr) hr h2 ((ih m _ _ _ (hc.step hr)).1 hB h3)
 | h i t r iht ihr=>
   intro n listed pf σ hc;have key:∀(m:Nat)(b:Bool),gIp .any ops (.h i t r) (m+1) listed b=true→VT P A ops K (.h i t r) pf σ b→∀j∈(OT.h i t r).heads,j∈Region.ready .any ops listed→∃o,ops[j]? =some o∧∃Z,hMr P A ops σ o Z∧∀sv L',Z sv L'→(∀p∈pf,hGb .any ops ops.size p.1 j=true∨gSq p.2 L')∧VX P A .any ops K m (listed.setIfInBounds j true) pf (St.setO ⟨σ.fr,L',σ.N⟩ o.dst sv):=by
    intro m b hB h j hj hr;simp only [gIp,Bool.and_eq_true,Nat.add_sub_cancel] at hB;obtain⟨⟨_,hB1⟩,hB2⟩:=hB;obtain⟨⟨o,Z,h1,h2,h3⟩,h5⟩:=h;simp only [OT.heads,List.mem_cons] at hj;rcases hj with rfl | hj
    ·exact⟨o,h1,Z,h2,fun sv L' hz=>⟨(h3 sv L' hz).1,(iht m _ _ _ (hc.step hr)).1 hB1 (h3 sv L' hz).2⟩⟩
    ·exact(ihr m listed pf σ hc).2 hB2 h5 j hj hr
   refine⟨fun hB h=>?_,fun hB h=>key n true hB h⟩;have hB':=hB;simp only [gIp,Bool.and_eq_true,Nat.blt_eq,Bool.false_or,beq_iff_eq] at hB';obtain⟨⟨⟨h0,hrd⟩,_⟩,_⟩:=hB';obtain⟨m,rfl⟩:∃m,n=m+1:=⟨n - 1,by omega⟩
   refine⟨fun h0=>(by rw [hrd] at h0;cases h0),fun j hj=>?_⟩;obtain⟨o,h1,Z,h2,h3⟩:=key m false hB h j (by simp only [OT.heads];rw [←hrd];exact hj) hj;exact⟨o,h1,.inr ⟨Z,h2,h3⟩⟩
theorem VT.mono{K':St→Prop}(hK:∀s,K s→K' s):∀(T:OT)(pf:PF)(σ:St)(b:Bool),VT P A ops K T pf σ b→VT P A ops K' T pf σ b
 | .nil,_,_,_,h=>h.imp id (hK _)
 | .q _ t,_,_,_,⟨o,sv,B,h1,h2,h3⟩=>⟨o,sv,B,h1,h2,VT.mono hK t _ _ _ h3⟩
 | .h _ t r,_,_,_,⟨⟨o,Z,h1,h2,h3⟩,h5⟩=>⟨⟨o,Z,h1,h2,fun sv L' hz=>⟨(h3 sv L' hz).1,VT.mono hK t _ _ _ (h3 sv L' hz).2⟩⟩,VT.mono hK r _ _ _ h5⟩
theorem hTp {id:Nat}{l:List Oper}{Q:Exit→St→Prop}(hm:P.follows .mixedOrders=true)(T:OT)(hB:gIp .any l.toArray T l.length (Array.replicate l.length false) false=true)
  (h:VT P A l.toArray (Q .normal) T [] σ false):V P A (.region id l.toArray true) σ Q:=by
 intro a w hr;refine wp_region_any hm ?_;have h1:=VT.mono (K':=fun s=>∃s',Alike s s'∧Q .normal s') (fun s hs=>⟨s,.refl,hs⟩) T [] σ false h;have hc:Closed .any l.toArray (Array.replicate l.length false):=fun k o _ hl=>by rw [Array.getD_eq_getD_getElem?,Array.getElem?_replicate] at hl;split at hl<;>simp at hl
 have h2:=(VT.vx (fun σ σ' ha ⟨s',k1,k2⟩=>⟨s',ha.symm.trans k1,k2⟩) T l.length _ _ _ hc).1 hB h1;have h3:=VX.wp (R:=fun e a' w'=>∃σ',Q e σ'∧kZ A σ' a' w') (fun s a' w' ⟨s',k1,k2⟩ hr'=>⟨s',k2,k1.realz hr'⟩) l.length _ _ σ a _ hr.drew h2;simpa using h3
theorem jU:VY P A ops (fun s=>s=σ) [] pf σ:=rfl
theorem gAt(h1:VY P A ops (fun s=>s=σ') [(i,true)] pf σ)(h:VT P A ops K t ((i,σ.L)::pf) σ' false):VT P A ops K (.q i t) pf σ b:=by
 obtain⟨o,sv,k1,k2,k3⟩:=h1;have k3:σ.setO o.dst sv=σ':=k3;exact⟨o,sv,σ.L,k1,k2,by rw [k3];exact h⟩
theorem hWb{d N:Nat}{x:Operand}{ty:TypeId}{pos:String}{af:Array Edge}{fr:List (Nat × SV)}{L:List LO}{sv:SV}(h:VT P A ops K t ((i,[])::pf) ⟨(d,sv)::fr,L,N⟩ false)(hi:ops[i]? =some ⟨some d,.move x,ty,pos,af,none⟩:=by rfl)(hx:(St.mk fr L N).ev x=sv:=by rfl)(hd:Nat.blt d N=true:=by rfl):VT P A ops K (.q i t) pf ⟨fr,L,N⟩ b:=
 ⟨_,sv,[],hi,⟨fun d' hd'=>by cases hd';exact hd,fun k cs hk=>by simp at hk,.inl ⟨rfl,fun fr' L' he _=>hJz (by rw [he x (by simp [Op.operands])];exact hx)⟩⟩,h⟩
theorem uV(h1:VY P A ops (fun s=>s=σ') [(i,false)] pf σ)(h:VT P A ops K t pf σ' false)(hr:VT P A ops K r pf σ true):VT P A ops K (.h i t r) pf σ b:=by
 obtain⟨o,Z,k1,k2,k3⟩:=h1
 exact⟨⟨o,Z,k1,k2,fun sv L' hz=>⟨(k3 sv L' hz).1,by
  have k4:St.setO ⟨σ.fr,L',σ.N⟩ o.dst sv=σ':=(k3 sv L' hz).2
  rw [k4];exact h⟩⟩,hr⟩
theorem jR(h1:VY P A ops (fun s=>s=σ') [(i,false)] pf σ)(h:VT P A ops K t pf σ' false):VT P A ops K (.h i t .nil) pf σ b:=uV h1 h (.inl rfl)
theorem jV(h:K σ):VT P A ops K .nil pf σ b:=.inr h
theorem jDx {c:Code}{Q:Exit→St→Prop}{fr fr':List (Nat × SV)}{L Lc:List LO}{N:Nat}(n:Nat) [gDl A n] (js:List Nat) (h:V P A c ⟨fr',Lc,N⟩ Q) (hp:gPy L (rn js L.length) 0 Lc:=by((repeat(first | exact trivial | exact rfl | refine And.intro ?_ ?_));first | done | fail))
  (hjs:(decide js.Nodup && (js.all fun j=>Nat.blt j L.length) && LO.lts Lc.length Lc)=true:=by rfl) (hn:(js.length==Lc.length && Nat.ble n Lc.length && (List.range n).all fun i=>js[i]? ==some i)=true:=by rfl)
  (hfr:hOj (rn js L.length) fr Lc.length fr':=by((repeat(first | exact trivial | exact rfl | refine And.intro ?_ ?_));first | done | fail)):V P A c ⟨fr,L,N⟩ Q:=by
 simp only [Bool.and_eq_true,decide_eq_true_eq,List.all_eq_true,Nat.blt_eq] at hjs;obtain⟨⟨hnd,hlt⟩,hlts⟩:=hjs;exact hV3 (n:=n) js h ⟨fun m o ho=>by simpa using gOl hp m o ho,fun m m' _ _ he=>hJf hlt hnd he,hlts⟩ hn hfr
theorem goT {X Y:Prop}(hy:Y)(h:Y→X:=by
  intro hy
  repeat(first | refine hWb ?_ | refine gAt (hFs rfl gLp jU) ?_ | refine gAt (hFs rfl gLq jU) ?_ | refine gAt (jA4 rfl jU (by(repeat constructor);first | done | fail)) ?_ | refine jR (hUs rfl (by repeat constructor) (by repeat(first | exact uY.nil | (apply uY.keep;focus ((repeat constructor);done)) | (apply uY.dep;focus kernel_rfl))) jU) ?_)
  exact hy):X:=h hy
end
section
variable {P:Program}{A:Amb}{ops:Array Oper}{K:St→Prop}{Q:Exit→St→Prop}{rest:List Oper}{σ σ' σJ:St}{fr:List (Nat × SV)}{L:List LO}{N t:Nat}{sv:SV}
variable {ty:TypeId}{pos:String}{af:Array Edge}{op:Op}
theorem VQ.alike(hK:∀s s',Alike s s'→K s→K s'):∀(l:List Oper){σ σ':St},Alike σ σ'→VQ P A ops l σ K→VQ P A ops l σ' K
 | [],_,_,ha,h=>hK _ _ ha h
 | o::l,_,_,ha,⟨sv,h1,h2⟩=>⟨sv,YS.congr ha.L.symm ha.N.symm (fun t _=>(ha.fr t).symm) h1,VQ.alike hK l (ha.setO o.dst sv) h2⟩
theorem LeF.alike{n:Nat}(hl:∀t,Go.Eng.look σ.fr t=Go.Eng.look σ'.fr t):∀{fr':List (Nat × SV)},LeF σ.fr n fr'→LeF σ'.fr n fr'
 | [],h=>h
 | p::r,h=>⟨⟨by rw [←hl];exact h.1.1,h.1.2⟩,LeF.alike hl h.2⟩
theorem Le.alike(ha:Alike σ σ')(h:Le σ σJ):Le σ' σJ:=⟨by rw [←ha.N];exact h.N,LeF.alike ha.fr h.fr,by rw [←ha.L];exact h.L,h.lt⟩
theorem vG{c:Bool}(tj:Nat)(ht:c=true→VQ P A ops rest ⟨(tj,.d (.b true))::fr,L,N⟩ (fun s=>Le s σJ))(hf:c=false→VQ P A ops rest ⟨(tj,.d (.b false))::fr,L,N⟩ (fun s=>Le s σJ))(hb:look fr tj=.d (.b c):=by rfl):VQ P A ops rest ⟨fr,L,N⟩ (fun s=>Le s σJ):=by
 have key:∀c',c=c'→Alike (σ:=⟨(tj,.d (.b c'))::fr,L,N⟩) (σ':=⟨fr,L,N⟩):=fun c' hc=>⟨rfl,rfl,fun t=>by
  simp only [look];by_cases h:t=tj
  ·subst h;rw [if_pos rfl,←hc,←hb]
  ·rw [if_neg h]⟩
 cases hc:c with
 | true=>exact VQ.alike (fun _ _=>Le.alike) rest (key true hc) (ht hc)
 | false=>exact VQ.alike (fun _ _=>Le.alike) rest (key false hc) (hf hc)
theorem gC1{j tj:Nat}{want:Bool}{o':Oper}(hq:QR P ⟨fr,L,N⟩ ⟨some t,op,ty,pos,af,some (j,want)⟩ sv)(h:VQ P A ops rest ⟨(t,sv)::fr,L,N⟩ K)(hj:ops[j]? =some o':=by rfl)(hdst:o'.dst=some tj:=by rfl)(htj:Nat.blt tj N=true:=by rfl)(hb:look fr tj=.d (.b want):=by rfl)(ht:Nat.blt t N=true:=by rfl) :
  VQ P A ops (⟨some t,op,ty,pos,af,some (j,want)⟩::rest) ⟨fr,L,N⟩ K:=hCx hj hdst htj hb hq.q ht h
theorem hOm{j tj:Nat}{want:Bool}{o':Oper}(hq:Quiet P A ⟨fr,L,N⟩ ⟨some t,op,ty,pos,af,some (j,want)⟩ sv)(h:VQ P A ops rest ⟨(t,sv)::fr,L,N⟩ K)(hj:ops[j]? =some o':=by rfl)(hdst:o'.dst=some tj:=by rfl)(htj:Nat.blt tj N=true:=by rfl)(hb:look fr tj=.d (.b want):=by rfl)(ht:Nat.blt t N=true:=by rfl) :
  VQ P A ops (⟨some t,op,ty,pos,af,some (j,want)⟩::rest) ⟨fr,L,N⟩ K:=hCx hj hdst htj hb hq ht h
theorem uE{id:Nat}{l:List Oper}{y:Code}(hm:P.follows .mixedOrders=true)(σJ:St)(hB:Region.lexB .any l.toArray=true)(h1:VQ P A l.toArray l σ (fun s=>Le s σJ))(h2:V P A y σJ Q)(hA:A.L0.length≤σJ.L.length:=by rw [gDl.h (A:=A)];exact Nat.le_of_ble_eq_true rfl) :
  V P A (.seq (.region id l.toArray true) y) σ Q:=hV5 σJ (hIy hm hB h1) h2 hA
theorem gWg {id:Nat}{l:List Oper}(hm:P.follows .mixedOrders=true)(T:OT)(σ':St)(hB:gIp .any l.toArray T l.length (Array.replicate l.length false) false=true)
  (h:VT P A l.toArray (fun s=>∀a w,kZ A s a w→kZ A σ' a w) T [] σ false) (hr:Q .normal σ'):V P A (.region id l.toArray true) σ Q:=fun a w hw=>
 wp_mono (hTp (Q:=fun e s=>e=.normal∧∀a w,kZ A s a w→kZ A σ' a w) hm T hB (VT.mono (fun s hs=>⟨rfl,hs⟩) T [] σ false h) a w hw) fun e a' w' ⟨s,⟨k0,k1⟩,k2⟩=>by subst k0;exact⟨σ',hr,k1 _ _ k2⟩
theorem qJ {id:Nat}{l:List Oper}{y:Code}(hm:P.follows .mixedOrders=true)(T:OT)(σ':St)(hB:gIp .any l.toArray T l.length (Array.replicate l.length false) false=true)
  (h:VT P A l.toArray (fun s=>∀a w,kZ A s a w→kZ A σ' a w) T [] σ false) (hr:V P A y σ' Q):V P A (.seq (.region id l.toArray true) y) σ Q:=jY (gWg hm T σ' hB h hr)
theorem qX {fr':List (Nat × SV)}{Lc:List LO}(n:Nat) [gDl A n] (js:List Nat) (hp:gPy L (rn js L.length) 0 Lc:=by((repeat(first | exact trivial | exact rfl | refine And.intro ?_ ?_));first | done | fail))
  (hjs:(decide js.Nodup && (js.all fun j=>Nat.blt j L.length) && LO.lts Lc.length Lc)=true:=by rfl) (hn:(js.length==Lc.length && Nat.ble n Lc.length && (List.range n).all fun i=>js[i]? ==some i)=true:=by rfl)
  (hfr:hOj (rn js L.length) fr Lc.length fr':=by((repeat(first | exact trivial | exact rfl | refine And.intro ?_ ?_));first | done | fail)):∀a w,kZ A ⟨fr,L,N⟩ a w→kZ A ⟨fr',Lc,N⟩ a w:=by
 intro a w hr;simp only [Bool.and_eq_true,decide_eq_true_eq,List.all_eq_true,Nat.blt_eq] at hjs;obtain⟨⟨hnd,hlt⟩,hlts⟩:=hjs;exact hr.pick (n:=n) js ⟨fun m o ho=>by simpa using gOl hp m o ho,fun m m' _ _ he=>hJf hlt hnd he,hlts⟩ hn hfr
theorem gPz {e z bs n i:Nat}{T:TypeId}{L':List LO}{gg:Bool} [TE P T e] [TI P e gg z bs] {zs:List Value} [TZ P e zs] {us:List U} {ps:Array (Nat × Operand)} (h:VO P A ops rest ⟨(t,.sl i 0)::fr,L',N⟩ K) (hps:ps.toList=((ps.toList.map Prod.snd).zipIdx 0).map (fun p=>(p.2,p.1)):=by rfl)
  (hy:VDs ⟨fr,L,N⟩ (ps.toList.map Prod.snd) us:=by(repeat(first | exact .nil | refine .cons (by((repeat(first | exact trivial | exact rfl | exact⟨_,rfl⟩ | refine And.intro ?_ ?_));first | done | fail)) ?_))) (hu:(us.all fun u=>u.sz==z)=true:=by rfl) (hn:((ps.toList.map Prod.snd).length==n && Nat.blt 0 n)=true:=by rfl)
  (hz:(Nat.blt 0 z && Nat.ble (n*z) 16777216 && zs.length==z)=true:=by rfl) (ht:Nat.blt t N=true:=by rfl) (hL':Sn (.arr e z 0 us) L i L':=by repeat constructor) :
  VO P A ops (⟨some t,.buildSlice T n ps,ty,pos,af,none⟩::rest) ⟨fr,L,N⟩ K:=jDw h hps hy hu hn hz ht hL'
theorem hOn{j tj:Nat}{want:Bool}{o':Oper}(hq:QR P ⟨fr,L,N⟩ ⟨some t,op,ty,pos,af,none⟩ sv)(h:VO P A ops rest ⟨(t,sv)::fr,L,N⟩ K)(hj:ops[j]? =some o':=by rfl)(hdst:o'.dst=some tj:=by rfl)(htj:Nat.blt tj N=true:=by rfl)(hb:look fr tj=.d (.b want):=by rfl)(ht:Nat.blt t N=true:=by rfl) :
  VO P A ops (⟨some t,op,ty,pos,af,some (j,want)⟩::rest) ⟨fr,L,N⟩ K:=gQq (qK hq h ht) hj hdst htj hb
theorem hOo{j tj:Nat}{want:Bool}{o':Oper}(hq:Quiet P A ⟨fr,L,N⟩ ⟨some t,op,ty,pos,af,none⟩ sv)(h:VO P A ops rest ⟨(t,sv)::fr,L,N⟩ K)(hj:ops[j]? =some o':=by rfl)(hdst:o'.dst=some tj:=by rfl)(htj:Nat.blt tj N=true:=by rfl)(hb:look fr tj=.d (.b want):=by rfl)(ht:Nat.blt t N=true:=by rfl) :
  VO P A ops (⟨some t,op,ty,pos,af,some (j,want)⟩::rest) ⟨fr,L,N⟩ K:=gQq (zZ hq h ht) hj hdst htj hb
theorem gYi{α:Type}{e:α→U}{es:List α→List U}{z z':Nat}[E:Enc α e es z]{el:TypeId}{T T':TypeId}{x:Operand}{g:Option (Nat × Bool)}{dst:Option Nat} [TE P T el]{l:List α}{i ver e':Nat}(hx:σ.ev x=.sl i ver:=by rfl)(hL:σ.L[i]? =some (.arr e' z' ver (es l)):=by rfl):Quiet P A σ ⟨dst,.call { callee:=.builtin .len,args:=#[x],argTypes:=#[T] },T',pos,af,g⟩ (.d (.i .i64 (l.length:Int))):=by
 rw [←Enc.len (es:=es) l];exact hKw hx hL TE.h
theorem hOp{α:Type}{en:α→U}{es:List α→List U}{z:Nat}[E:Enc α en es z]{bs ver e' j k:Nat}{T:TypeId}{x:Operand}{g:Option (Nat × Bool)}{dst:Option Nat}{gg:Bool}{l:List α}{a:α}(ha:l[k]? =some a) [TI P T gg z bs](hx:σ.ev x=.ep j ver z k 0:=by rfl)(hL:σ.L[j]? =some (.arr e' z ver (es l)):=by rfl)(hg:(en a).isSt=gg:=by rfl) :
  Quiet P A σ ⟨dst,.load T x,ty,pos,af,g⟩ (.d (en a)):=hKy hx hL (Enc.get ha) TI.h hg
theorem gBd {α:Type}{en:α→U}{es:List α→List U}{z:Nat}[E:Enc α en es z]{l r:List α}(hg:l.length+r.length≤4294967296){e bs ver i:Nat}{T T':TypeId}{x y:Operand}{L':List LO}{gg:Bool} [TE P T e] [TI P e gg z bs] {zs:List Value} [TZ P e zs]
  (h:VO P A ops rest ⟨(t,.sl i (ver+1))::fr,L',N⟩ K) (hx:(St.mk fr L N).ev x=.sl i ver:=by rfl) (hL:L[i]? =some (.arr e z ver (es l)):=by rfl) (hs:SrcOf ⟨fr,L,N⟩ z (es r) ((St.mk fr L N).ev y):=by first | exact⟨_,rfl⟩ | exact⟨rfl,rfl,Enc.all _⟩ | exact rfl)
  (hz:(Nat.blt 0 z && zs.length==z)=true:=by rfl) (hb:Nat.ble bs 32768=true:=by rfl) (ht:Nat.blt t N=true:=by rfl) (hL':L.set i (.arr e z (ver+1) (es (l++r)))=L':=by rfl) :
  VO P A ops (⟨some t,.call { callee:=.builtin .append,args:=#[x,y],argTypes:=#[T,T] },T',pos,af,none⟩::rest) ⟨fr,L,N⟩ K:=by
 have h1:(es l).length=l.length:=Enc.len l;have h2:(es r).length=r.length:=Enc.len r;have hb:=Nat.le_of_ble_eq_true hb;rw [Enc.app (es:=es)] at hL';refine hK0 hx hL rfl hs TE.h TI.h TZ.h hz (Enc.all _) (by rw [yI];omega) ?_ ht hL' h;rw [h1,h2];exact Nat.le_trans (Nat.mul_le_mul hg hb) (by decide)
end
theorem goL {X Y:Prop}(hy:Y)(h:Y→X:=by
  intro hy
  repeat(first | refine qK gLp ?_ | refine qK gLq ?_ | refine zZ hDa ?_ | refine zZ gYi ?_ | refine hOn gLp ?_ | refine hOn gLq ?_ | refine hOo hDa ?_ | refine hOo gYi ?_ | refine hV6 ?_ | refine hV7 ?_ | refine jEl ?_ (by(repeat constructor);first | done | fail) | refine gFd gLp ?_ | refine gFd gLq ?_ | refine gC1 gLp ?_ | refine gC1 gLq ?_ | refine hVu ?_ | refine hVv ?_ | refine jEm ?_ (by(repeat constructor);first | done | fail) | refine gFw ?_ | refine hQf ?_ | refine gQb ?_ | refine hC7 ?_ | refine hFm Mix.h (by kernel_rfl) ?_ | refine gWc ?_ | refine hIy Mix.h (by kernel_rfl) ?_)
  exact hy):X:=h hy
theorem gId {X Y:Prop}(hy:Y)(h:Y→X:=by
  intro hy
  repeat(first | refine qK gLp ?_ | refine qK gLq ?_ | refine zZ hDa ?_ | refine zZ gYi ?_ | refine hOn gLp ?_ | refine hOn gLq ?_ | refine hOo hDa ?_ | refine hOo gYi ?_ | refine hV6 ?_ | refine hV7 ?_ | refine jEl ?_ (by(repeat constructor);first | done | fail) | refine gFd gLp ?_ | refine gFd gLq ?_ | refine gC1 gLp ?_ | refine gC1 gLq ?_ | refine hVu ?_ | refine hVv ?_ | refine jEm ?_ (by(repeat constructor);first | done | fail) | refine gFw ?_ | refine hQf ?_ | refine gQb ?_ | refine hC7 ?_ | refine gWc ?_)
  exact hy):X:=h hy
section
variable {P:Program}{A:Amb}{σ:St}{dst:Option Nat}{ty:TypeId}{pos:String}{af:Array Edge}{g:Option (Nat × Bool)}
theorem hWe {f:Operand}{fi:Nat}{args:Array Operand}{at_:Array TypeId}{dargs:List SV}{u:U}
  (hspec:gY P fi dargs [u]) (hu:u.scal=true:=by rfl) (hf:σ.ev f=.fn fi []:=by rfl) (hargs:WCs σ.L (args.toList.map σ.ev) dargs:=by((repeat(first | exact trivial | exact rfl | exact⟨_,rfl⟩ | refine Exists.intro _ (And.intro rfl ?_) | refine And.intro ?_ ?_));first | done | fail)) :
  Quiet P A σ ⟨dst,.call { callee:=.value f,args:=args,argTypes:=at_ },ty,pos,af,g⟩ (.d u):=hI7 hf hspec hu hargs
theorem gAp{ops:Array Oper}{K:St→Prop}{rest:List Oper}{fr:List (Nat × SV)}{L L':List LO}{N i t:Nat}{T e z bs:Nat}{gg:Bool} [TE P T e] [TI P e gg z bs](h:VO P A ops rest ⟨(t,.sl i 0)::fr,L',N⟩ K)(ht:Nat.blt t N=true:=by rfl)(hL':Sn (.arr e z 0 []) L i L':=by repeat constructor) :
  VO P A ops (⟨some t,.buildSlice T 0 #[],ty,pos,af,none⟩::rest) ⟨fr,L,N⟩ K:=by
 obtain⟨hi,hL2⟩:=hL'.spec;subst hi;subst hL2;have hT:tyE P T=some e:=TE.h;have he:tyI P e=some (gg,z,bs):=TI.h;refine gDn rfl (fun S env a w hH hf hN hd=>?_) h
 obtain⟨hH',C⟩:=hH.new (w':=w.alloc (.cells #[] e)) (.arr e z 0 []) (.slice (some ⟨w.heap.size,0,none⟩) 0 0) (by simp) (fun b hb=>heap_alloc_old w _ hb) rfl rfl rfl
  (fun b hb=>by simp [LO.ft,blk] at hb;subst hb;simp)
  (fun C=>⟨by simp [yI],by simp,[],⟨by simp,.inr ⟨w.heap.size,0,#[],rfl,Nat.zero_le _,heap_alloc_new w _,Nat.le_refl _,by simp [maxLen],by simp,by simp⟩⟩,by simp [Rds]⟩)
 refine⟨.value (.slice (some ⟨w.heap.size,0,none⟩) 0 0),_,?_,.inl ⟨_,rfl,uA hf hN hd ht hH' C ?_⟩⟩
 ·simp [execOp,Instr.buildSlice,run_underlying (wO hT),run_sizeOf he,Instr.fill,newRow];congr 2;apply Array.ext';simp
 ·simp only [SVr];exact⟨.slice (some ⟨w.heap.size,0,none⟩) 0 0,.arr e z 0 [],by rw [←hH.len];simp,by simp,Nat.le_refl _,rfl,fun _=>rfl⟩
theorem jF{ops:Array Oper}{K:St→Prop}{fr:List (Nat × SV)}{L:List LO}{N i t:Nat}{sv:SV}{op:Op}{r:List (Nat × Bool)}{pf:PF}(hi:ops[i]? =some ⟨some t,op,ty,pos,af,none⟩)(hq:QR P ⟨fr,L,N⟩ ⟨some t,op,ty,pos,af,none⟩ sv)(hv:VY P A ops K r ((i,L)::pf) ⟨(t,sv)::fr,L,N⟩)(ht:Nat.blt t N=true:=by rfl) :
  VY P A ops K ((i,true)::r) pf ⟨fr,L,N⟩:=jEo hq hv hi ht
end
section
variable {P:Program}{A:Amb}{σ:St}{dst:Option Nat}{ty T T':TypeId}{pos:String}{af:Array Edge}{g:Option (Nat × Bool)}{x y:Operand}{a b c d:Int}
end
section
variable {P:Program}{A:Amb}{Q:Exit→St→Prop}{c:Code}{σ:St}
theorem hJ7 {α:Type}(I:α→St)(J:α→Prop)(μ:α→Nat)(x0:α)(h0:Le σ (I x0))(hJ:J x0)
  (round:∀x,J x→V P A c (I x) (thenS (fun s=>∃y,J y∧μ y < μ x∧∀a w,kZ A s a w→kZ A (I y) a w) Q)) (hA:∀x,A.L0.length≤(I x).L.length:=by intro x;rw [gDl.h (A:=A)];exact Nat.le_of_ble_eq_true rfl):V P A (.loop c) σ Q:=by
 intro a w hr;refine wp_loop_ghost (fun n a w=>∃x,μ x=n∧J x∧kZ A (I x) a w) (μ x0) ⟨x0,rfl,hJ,hr.le h0 (hA _)⟩ ?_;intro n a w ⟨x,hn,hx,hr⟩;refine wp_mono (round x hx a w hr) ?_;intro e a' w' ⟨s,hq,hs⟩;cases e with
 | normal=>
   obtain⟨y,hJy,hlt,hle⟩:=hq;exact⟨μ y,hn▸hlt,y,rfl,hJy,hle _ _ hs⟩
 | exit id=>exact⟨s,hq,hs⟩
 | goto l=>exact⟨s,hq,hs⟩
 | ret=>exact⟨s,hq,hs⟩
 | panic ch=>exact⟨s,hq,hs⟩
 | outgrown=>exact⟨s,hq,hs⟩
theorem hDc {α0 α1 α2 α3 α4:Type}(I:α0→α1→α2→α3→α4→St)(J:α0→α1→α2→α3→α4→Prop)(μ:α0→α1→α2→α3→α4→Nat)(x0:α0)(x1:α1)(x2:α2)(x3:α3)(x4:α4)(h0:Le σ (I x0 x1 x2 x3 x4))(hJ:J x0 x1 x2 x3 x4)
  (round:∀a0 a1 a2 a3 a4,J a0 a1 a2 a3 a4→V P A c (I a0 a1 a2 a3 a4) (thenS (fun s=>∃b0 b1 b2 b3 b4,J b0 b1 b2 b3 b4∧μ b0 b1 b2 b3 b4 < μ a0 a1 a2 a3 a4∧∀a w,kZ A s a w→kZ A (I b0 b1 b2 b3 b4) a w) Q)) (hA:∀a0 a1 a2 a3 a4,A.L0.length≤(I a0 a1 a2 a3 a4).L.length:=by intros;rw [gDl.h (A:=A)];exact Nat.le_of_ble_eq_true rfl):V P A (.loop c) σ Q:=
 hJ7 (α:=α0 × α1 × α2 × α3 × α4) (fun x=>I (x.1) (x.2.1) (x.2.2.1) (x.2.2.2.1) (x.2.2.2.2)) (fun x=>J (x.1) (x.2.1) (x.2.2.1) (x.2.2.2.1) (x.2.2.2.2)) (fun x=>μ (x.1) (x.2.1) (x.2.2.1) (x.2.2.2.1) (x.2.2.2.2)) (x0,x1,x2,x3,x4) h0 hJ (fun x hx=>V.mono (round (x.1) (x.2.1) (x.2.2.1) (x.2.2.2.1) (x.2.2.2.2) hx) (fun e s hq=>by
  cases e with
  | normal=>
    obtain⟨b0,b1,b2,b3,b4,h1,h2,h3⟩:=hq;exact⟨(b0,b1,b2,b3,b4),h1,h2,h3⟩
  | _=>exact hq)) (fun x=>hA (x.1) (x.2.1) (x.2.2.1) (x.2.2.2.1) (x.2.2.2.2))
theorem hDd {α0 α1 α2 α3 α4 α5 α6:Type}(I:α0→α1→α2→α3→α4→α5→α6→St)(J:α0→α1→α2→α3→α4→α5→α6→Prop)(μ:α0→α1→α2→α3→α4→α5→α6→Nat)(x0:α0)(x1:α1)(x2:α2)(x3:α3)(x4:α4)(x5:α5)(x6:α6)(h0:Le σ (I x0 x1 x2 x3 x4 x5 x6))(hJ:J x0 x1 x2 x3 x4 x5 x6)
  (round:∀a0 a1 a2 a3 a4 a5 a6,J a0 a1 a2 a3 a4 a5 a6→V P A c (I a0 a1 a2 a3 a4 a5 a6) (thenS (fun s=>∃b0 b1 b2 b3 b4 b5 b6,J b0 b1 b2 b3 b4 b5 b6∧μ b0 b1 b2 b3 b4 b5 b6 < μ a0 a1 a2 a3 a4 a5 a6∧∀a w,kZ A s a w→kZ A (I b0 b1 b2 b3 b4 b5 b6) a w) Q)) (hA:∀a0 a1 a2 a3 a4 a5 a6,A.L0.length≤(I a0 a1 a2 a3 a4 a5 a6).L.length:=by intros;rw [gDl.h (A:=A)];exact Nat.le_of_ble_eq_true rfl):V P A (.loop c) σ Q:=
 hJ7 (α:=α0 × α1 × α2 × α3 × α4 × α5 × α6) (fun x=>I (x.1) (x.2.1) (x.2.2.1) (x.2.2.2.1) (x.2.2.2.2.1) (x.2.2.2.2.2.1) (x.2.2.2.2.2.2)) (fun x=>J (x.1) (x.2.1) (x.2.2.1) (x.2.2.2.1) (x.2.2.2.2.1) (x.2.2.2.2.2.1) (x.2.2.2.2.2.2)) (fun x=>μ (x.1) (x.2.1) (x.2.2.1) (x.2.2.2.1) (x.2.2.2.2.1) (x.2.2.2.2.2.1) (x.2.2.2.2.2.2)) (x0,x1,x2,x3,x4,x5,x6) h0 hJ (fun x hx=>V.mono (round (x.1) (x.2.1) (x.2.2.1) (x.2.2.2.1) (x.2.2.2.2.1) (x.2.2.2.2.2.1) (x.2.2.2.2.2.2) hx) (fun e s hq=>by
  cases e with
  | normal=>
    obtain⟨b0,b1,b2,b3,b4,b5,b6,h1,h2,h3⟩:=hq;exact⟨(b0,b1,b2,b3,b4,b5,b6),h1,h2,h3⟩
  | _=>exact hq)) (fun x=>hA (x.1) (x.2.1) (x.2.2.1) (x.2.2.2.1) (x.2.2.2.2.1) (x.2.2.2.2.2.1) (x.2.2.2.2.2.2))
inductive AdT (n:Nat):SV→SV→Prop
 | one:AdT n .nilsl (.sl n 0)
 | ag {cs:List SV} (k:Nat) (h:cs[k]? =some .nilsl):AdT n (.ag cs) (.ag (cs.set k (.sl n 0)))
theorem kZ.adT{a:Act}{w:World}{fr:List (Nat × SV)}{L:List LO}{N e z t:Nat}{sv':SV}(hs:AdT L.length (look fr t) sv')(h:kZ A ⟨fr,L,N⟩ a w):kZ A ⟨(t,sv')::fr,L++[.own e z 0 []],N⟩ a w:=by
 obtain⟨S,env,hH,hf,hN,hd⟩:=h;obtain⟨hH1,C1⟩:=hH.newO [] (.own e z 0 []) (.slice none 0 0) (Nat.le_refl _) (fun _ _=>rfl) rfl rfl rfl (fun b hb=>by simp only [LO.ft] at hb;rw [(Tr.nil w z).2] at hb;cases hb) (fun _=>hAb e z 0);rw [gQ7] at hH1 C1;have hnil:SVr S (L++[LO.own e z 0 []]) (env++[Value.slice none 0 0]) w (.sl L.length 0) (.slice none 0 0):=by
  simp only [SVr];exact⟨.slice none 0 0,.own e z 0 [],by rw [←hH.len];simp,by simp,Nat.le_refl _,rfl,fun _=>rfl⟩
 refine⟨S,_,hH1,fun t'=>?_,hN,hd⟩;have ht:=SVr.carry C1 _ _ (hf t');simp only at ht;by_cases he:t'=t
 ·subst he;simp only [Go.Eng.look,if_true];generalize look fr t'=sv at hs ht;cases hs with
  | one=>
    simp only [SVr] at ht;rw [ht];exact hnil
  | ag k hk=>
    simp only [SVr] at ht ⊢;obtain⟨vs,h1,h2⟩:=ht;rw [kJ.iff] at h2;obtain⟨v,v1,v2⟩:=vE.get h2 k _ hk;simp only [SVr] at v2;subst v2;refine⟨vs,h1,?_⟩;rw [kJ.iff];have hset:=vE.set k (.sl L.length 0) (.slice none 0 0) h2 hnil;have hk':k < vs.length:=(List.getElem?_eq_some_iff.1 v1).1
    have:vs.set k (.slice none 0 0)=vs:=by
     apply List.ext_getElem?;intro m;rw [List.getElem?_set];by_cases hm:k=m
     ·subst hm;rw [if_pos rfl,if_pos hk',v1]
     ·rw [if_neg hm]
    rwa [this] at hset
 ·simp only [Go.Eng.look,if_neg he];exact ht
theorem jDy {fr:List (Nat × SV)}{L L':List LO}{N n:Nat}{sv':SV}(e z t:Nat)(h:V P A c ⟨(t,sv')::fr,L',N⟩ Q)(hn:Ln L n:=by repeat constructor)(hs:AdT n (look fr t) sv':=by first | exact AdT.one | exact AdT.ag 0 rfl | exact AdT.ag 1 rfl | exact AdT.ag 2 rfl | exact AdT.ag 3 rfl | exact AdT.ag 4 rfl | exact AdT.ag 5 rfl | exact AdT.ag 6 rfl | exact AdT.ag 7 rfl | exact AdT.ag 8 rfl)
  (h2:Jn L [.own e z 0 []] L':=by repeat constructor):V P A c ⟨fr,L,N⟩ Q:=by
 have e1:=hn.eq;have e4:=h2.spec;subst e1;subst e4;exact fun a w hr=>h a w (hr.adT hs)
end
section
variable {P:Program}{A:Amb}{σ:St}{dst:Option Nat}{ty:TypeId}{pos:String}{af:Array Edge}{g:Option (Nat × Bool)}{x:Operand}
end
section
variable {P:Program}{σ:St}
theorem hJ8 {fn:Func}{Q:SV→List LO→Prop}{n:Nat}(svs:List SV)(Lo:List LO)(hq:Q (mkG svs) Lo)(hL:∃L2,σ.L=Lo++L2:=by exact⟨_,rfl⟩)(hl:(LO.lts Lo.length Lo && SV.lts Lo.length svs && Nat.ble n Lo.length)=true:=by rfl)
  (hr:hAe P σ fn.results.toList svs:=by((repeat(first | exact .nil | refine .data rfl rfl ?_ | refine .same rfl ?_ | refine .same (gI8 rfl rfl TI.h rfl rfl) ?_ | refine .same (ResV_one rfl rfl TI.h rfl) ?_ | refine .data (gI8 rfl rfl TI.h rfl rfl) (by((repeat(first | exact trivial | exact rfl | exact⟨_,rfl⟩ | refine And.intro ?_ ?_));first | done | fail)) ?_ | refine .data (ResV_one rfl rfl TI.h rfl) (by((repeat(first | exact trivial | exact rfl | exact⟨_,rfl⟩ | refine And.intro ?_ ?_));first | done | fail)) ?_));first | done | fail)):mG P fn Q n .normal σ:=jEs svs Lo hq hL hl hr
theorem yK {fn:Func}{Q:SV→List LO→Prop}{n:Nat}(svs:List SV)(Lo:List LO)(hq:Q (mkG svs) Lo)(hL:∃L2,σ.L=Lo++L2:=by exact⟨_,rfl⟩)(hl:(LO.lts Lo.length Lo && SV.lts Lo.length svs && Nat.ble n Lo.length)=true:=by rfl)
  (hr:hAe P σ fn.results.toList svs:=by((repeat(first | exact .nil | refine .data rfl rfl ?_ | refine .same rfl ?_ | refine .same (gI8 rfl rfl TI.h rfl rfl) ?_ | refine .same (ResV_one rfl rfl TI.h rfl) ?_ | refine .data (gI8 rfl rfl TI.h rfl rfl) (by((repeat(first | exact trivial | exact rfl | exact⟨_,rfl⟩ | refine And.intro ?_ ?_));first | done | fail)) ?_ | refine .data (ResV_one rfl rfl TI.h rfl) (by((repeat(first | exact trivial | exact rfl | exact⟨_,rfl⟩ | refine And.intro ?_ ?_));first | done | fail)) ?_));first | done | fail)):mG P fn Q n .ret σ:=jEt svs Lo hq hL hl hr
end
mutual
inductive Rv (j v q:Nat):SV→SV→Prop
 | sl:Rv j v q (.sl j v) (.sl j q)
 | ne {i ver:Nat} (h:(i==j)=false):Rv j v q (.sl i ver) (.sl i ver)
 | d {u:U}:Rv j v q (.d u) (.d u)
 | ptr {i off:Nat}:Rv j v q (.ptr i off) (.ptr i off)
 | dp {u:U}:Rv j v q (.dp u) (.dp u)
 | nil:Rv j v q .nilsl .nilsl
 | ag {cs cs':List SV} (h:Rvs j v q cs cs'):Rv j v q (.ag cs) (.ag cs')
 | tup {cs cs':List SV} (h:Rvs j v q cs cs'):Rv j v q (.tup cs) (.tup cs')
 | fn {f:Nat} {cs cs':List SV} (h:Rvs j v q cs cs'):Rv j v q (.fn f cs) (.fn f cs')
inductive Rvs (j v q:Nat):List SV→List SV→Prop
 | nil:Rvs j v q [] []
 | cons {a b:SV} {az bs:List SV} (h:Rv j v q a b) (h2:Rvs j v q az bs):Rvs j v q (a::az) (b::bs)
end
inductive RvO (j v q:Nat):Nat→LO→LO→Prop
 | own {e z:Nat} {es:List U}:RvO j v q j (.own e z v es) (.own e z q es)
 | arrj {e z:Nat} {es:List U}:RvO j v q j (.arr e z v es) (.arr e z q es)
 | box {i:Nat} {cs cs':List SV} (hi:(i==j)=false) (h:Rvs j v q cs cs'):RvO j v q i (.box cs) (.box cs')
 | owns {i e z ver:Nat} {es:List U} (hi:(i==j)=false):RvO j v q i (.own e z ver es) (.own e z ver es)
 | arr {i e z ver:Nat} {es:List U} (hi:(i==j)=false):RvO j v q i (.arr e z ver es) (.arr e z ver es)
 | frz {i e z ver:Nat} {es:List U} (hi:(i==j)=false):RvO j v q i (.frz e z ver es) (.frz e z ver es)
 | dead {i ver:Nat} (hi:(i==j)=false):RvO j v q i (.dead ver) (.dead ver)
inductive RvL (j v q:Nat):Nat→List LO→List LO→Prop
 | nil {i:Nat}:RvL j v q i [] []
 | cons {i:Nat} {a b:LO} {az bs:List LO} (h:RvO j v q i a b) (h2:RvL j v q (i+1) az bs):RvL j v q i (a::az) (b::bs)
inductive RvF (j v q:Nat):List (Nat × SV)→List (Nat × SV)→Prop
 | nil:RvF j v q [] []
 | cons {t:Nat} {a b:SV} {az bs:List (Nat × SV)} (h:Rv j v q a b) (h2:RvF j v q az bs):RvF j v q ((t,a)::az) ((t,b)::bs)
section
variable {j v q:Nat}{S:Nat→Prop}{L L':List LO}{env:List Value}{w:World}
theorem RvL.get:∀{i:Nat}{az bs:List LO},RvL j v q i az bs→az.length=bs.length∧∀(m:Nat)(b:LO),bs[m]? =some b→∃a,az[m]? =some a∧RvO j v q (i+m) a b
 | i,_,_,.nil=>⟨rfl,fun m b h=>by simp at h⟩
 | i,_,_,.cons (a:=a0) (b:=b0) (az:=az) (bs:=bs) h h2=>by
   obtain⟨k1,k2⟩:=RvL.get h2;refine⟨by simp [k1],fun m b hb=>?_⟩;cases m with
   | zero=>simp at hb;subst hb;exact⟨a0,by simp,by simpa using h⟩
   | succ m=>
     obtain⟨a,q1,q2⟩:=k2 m b (by simpa using hb);exact⟨a,by simpa using q1,by rwa [show i+(m+1)=i+1+m by omega]⟩
theorem RvF.look:∀{az bs:List (Nat × SV)},RvF j v q az bs→∀t,Go.Eng.look bs t=.junk∨Rv j v q (Go.Eng.look az t) (Go.Eng.look bs t)
 | _,_,.nil,t=>.inl rfl
 | _,_,.cons (t:=t0) h h2,t=>by
   simp only [Go.Eng.look];by_cases ht:t=t0
   ·simp only [ht,if_true];exact .inr h
   ·simp only [if_neg ht];exact RvF.look h2 t
mutual
theorem Rv.r(hj:∃o o':LO,L[j]? =some o∧L'[j]? =some o'∧o.ver=v∧o'.ver=q)(ho:∀(i:Nat)(o:LO),i≠j→L[i]? =some o→∃o',L'[i]? =some o'∧o'.ver=o.ver):∀{a b:SV}{x:Value},Rv j v q a b→SVr S L env w a x→SVr S L' env w b x
 | _,_,x,.sl,h=>by
   obtain⟨o1,o2,h1,h2,h3,h4⟩:=hj;simp only [SVr] at h ⊢;obtain⟨hv,o,k1,k2,k3,k4,k5⟩:=h;rw [h1] at k2;obtain rfl:=Option.some.inj k2;exact⟨hv,_,k1,h2,Nat.le_of_eq h4.symm,k4,fun _=>k5 h3.symm⟩
 | _,_,x,.ne hi,h=>by
   simp only [SVr] at h ⊢;obtain⟨hv,o,k1,k2,k3,k4,k5⟩:=h;obtain⟨o',q1,q2⟩:=ho _ o (by simpa using hi) k2;exact⟨hv,o',k1,q1,by rw [q2];exact k3,k4,by rw [q2];exact k5⟩
 | _,_,x,.d,h=>by simpa only [SVr] using h
 | _,_,x,.ptr,h=>by simpa only [SVr] using h
 | _,_,x,.dp,h=>by simpa only [SVr] using h
 | _,_,x,.nil,h=>by simpa only [SVr] using h
 | _,_,x,.ag hs,h=>by
   simp only [SVr] at h ⊢;obtain⟨vs,h1,h2⟩:=h;exact⟨vs,h1,Rvs.r hj ho hs h2⟩
 | _,_,x,.tup hs,h=>by
   simp only [SVr] at h ⊢;obtain⟨vs,h1,h2⟩:=h;exact⟨vs,h1,Rvs.r hj ho hs h2⟩
 | _,_,x,.fn hs,h=>by
   simp only [SVr] at h ⊢;obtain⟨vs,h1,h2⟩:=h;exact⟨vs,h1,Rvs.r hj ho hs h2⟩
theorem Rvs.r(hj:∃o o':LO,L[j]? =some o∧L'[j]? =some o'∧o.ver=v∧o'.ver=q)(ho:∀(i:Nat)(o:LO),i≠j→L[i]? =some o→∃o',L'[i]? =some o'∧o'.ver=o.ver):∀{az bs:List SV}{xs:List Value},Rvs j v q az bs→kJ S L env w az xs→kJ S L' env w bs xs
 | _,_,[],.nil,h=>by simp only [kJ]
 | _,_,_::_,.nil,h=>by simp only [kJ] at h
 | _,_,[],.cons _ _,h=>by simp only [kJ] at h
 | _,_,_::_,.cons h1 h2,h=>by
   simp only [kJ] at h ⊢;exact⟨Rv.r hj ho h1 h.1,Rvs.r hj ho h2 h.2⟩
end
theorem kZ.rv{A:Amb}{a:Act}{fr fr':List (Nat × SV)}{N n:Nat}[hb:gDl A n](hn:n≤j)(hjl:j < L.length)(hL:RvL j v q 0 L L')(hfr:RvF j v q fr fr')(h:kZ A ⟨fr,L,N⟩ a w):kZ A ⟨fr',L',N⟩ a w:=by
 obtain⟨S,env,hH,hf,hN,hd⟩:=h;obtain⟨hlen,hget⟩:=hL.get;have hback:∀(m:Nat)(o:LO),L[m]? =some o→∃o',L'[m]? =some o'∧RvO j v q m o o':=by
  intro m o ho;have hm:m < L'.length:=by rw [←hlen];exact(List.getElem?_eq_some_iff.1 ho).1
  obtain⟨o0,k1,k2⟩:=hget m _ (List.getElem?_eq_getElem hm);rw [ho] at k1;obtain rfl:=Option.some.inj k1;exact⟨_,List.getElem?_eq_getElem hm,by simpa using k2⟩
 have hj:∃o o':LO,L[j]? =some o∧L'[j]? =some o'∧o.ver=v∧o'.ver=q:=by
  obtain⟨o',k1,k2⟩:=hback j _ (List.getElem?_eq_getElem hjl);generalize ho:L[j]=o at k2;have hoj:L[j]? =some o:=by rw [List.getElem?_eq_getElem hjl,ho]
  cases k2 with
  | own=>exact⟨_,_,hoj,k1,rfl,rfl⟩
  | arrj=>exact⟨_,_,hoj,k1,rfl,rfl⟩
  | box hi=>simp at hi
  | owns hi=>simp at hi
  | arr hi=>simp at hi
  | frz hi=>simp at hi
  | dead hi=>simp at hi
 have ho:∀(i:Nat)(o:LO),i≠j→L[i]? =some o→∃o',L'[i]? =some o'∧o'.ver=o.ver:=by
  intro i o hi h;obtain⟨o',k1,k2⟩:=hback i o h;refine⟨o',k1,?_⟩;cases k2 with
  | own=>exact absurd rfl hi
  | arrj=>exact absurd rfl hi
  | _=>rfl
 have hlive:∀{i:Nat}{o o':LO},RvO j v q i o o'→o'.live=o.live∧∀hv b,o'.ft w hv b↔o.ft w hv b:=by
  intro i o o' h;cases h with
  | _=>exact⟨rfl,fun _ _=>Iff.rfl⟩
 refine⟨S,env,⟨by rw [←hlen];exact hH.len,fun i o' hv h1 h2=>?_,fun i o' hv b h1 h2 h3 h4=>?_,fun i k o1 o2 hv1 hv2 b h1 h2 h3 h4 h5 h6 h7 h8=>?_,hH.sS,hH.sA,hH.frame,hH.size,hH.os,hH.tape,hH.output,?_,hH.glob⟩,fun t=>?_,hN,hd⟩
 ·obtain⟨o,k1,k2⟩:=hget i o' h1;simp only [Nat.zero_add] at k2;have hob:=hH.objs i o hv k1 h2;cases k2 with
  | own=>exact hob
  | arrj=>exact hob
  | owns hi=>exact hob
  | arr hi=>exact hob
  | frz hi=>exact hob
  | dead hi=>exact hob
  | box hi hs=>
    obtain⟨b,vals,e,r1,r2,r3,r4⟩:=hob;exact⟨b,vals,e,r1,r2,Rvs.r hj ho hs r3,r4⟩
 ·obtain⟨o,k1,k2⟩:=hget i o' h1;obtain⟨q1,q2⟩:=hlive k2;exact hH.excl i o hv b k1 (by rw [←q1];exact h2) h3 ((q2 hv b).1 h4)
 ·obtain⟨p1,k1,k2⟩:=hget i o1 h1;obtain⟨p2,k3,k4⟩:=hget k o2 h2;obtain⟨q1,q2⟩:=hlive k2;obtain⟨q3,q4⟩:=hlive k4;exact hH.dist i k p1 p2 hv1 hv2 b k1 k3 (by rw [←q1];exact h3) (by rw [←q3];exact h4) h5 h6 ((q2 _ _).1 h7) ((q4 _ _).1 h8)
 ·refine⟨by rw [←hlen];exact hH.base.1,fun i hv o hv' o' h1 h2 h3 h4=>?_⟩;have hi:i < n:=by rw [←hb.h];exact(List.getElem?_eq_some_iff.1 h2).1
  obtain⟨o0,k1,k2⟩:=hget i o' h4;obtain⟨o1,k3,k4⟩:=ho i o0 (by omega) k1;rw [h4] at k3;obtain rfl:=Option.some.inj k3
  have:=hH.base.2 i hv o hv' o0 h1 h2 h3 k1
  rw [k4];exact this
 ·rcases hfr.look t with hjk | hr
  ·show SVr S L' env w (Go.Eng.look fr' t) _;rw [hjk];simp only [SVr]
  ·exact Rv.r hj ho hr (hf t)
end
theorem jFx {P:Program}{A:Amb}{c:Code}{Q:Exit→St→Prop}{fr fr':List (Nat × SV)}{L L':List LO}{N v q:Nat}(n:Nat) [gDl A n] (j:Nat) (h:V P A c ⟨fr',L',N⟩ Q)
  (hL:RvL j v q 0 L L':=by(repeat(first | exact Rv.sl | exact Rv.ne rfl | exact Rv.d | exact RvO.own | exact RvO.arrj | refine RvO.box rfl ?_ | exact RvO.owns rfl | exact RvO.arr rfl | exact RvO.frz rfl | exact RvO.dead rfl | constructor));first | done | fail)
  (hfr:RvF j v q fr fr':=by(repeat(first | exact Rv.sl | exact Rv.ne rfl | exact Rv.d | constructor));first | done | fail) (hn:(Nat.ble n j && Nat.blt j L.length)=true:=by rfl):V P A c ⟨fr,L,N⟩ Q:=by
 simp only [Bool.and_eq_true,Nat.blt_eq] at hn;exact fun a w hr=>h a w (hr.rv (n:=n) (Nat.le_of_ble_eq_true hn.1) hn.2 hL hfr)
section
variable {P:Program}{A:Amb}{ops:Array Oper}{K:St→Prop}{r:List (Nat × Bool)}{pf:PF}{fr:List (Nat × SV)}{L L':List LO}{N i t:Nat}{sv:SV}
variable {ty:TypeId}{pos:String}{af:Array Edge}
theorem hJ9 {f:Operand}{fi:Nat}{caps:List SV}{args:Array Operand}{at_:Array TypeId}{cargs:List SV}{Lc Lo:List LO}{sv0:SV}(js:List Nat)(hspec:Spec P fi cargs Lc (fun sv Lo'=>sv=sv0∧Lo'=Lo))
  (hsv:sv0.ren (rn js L.length)=sv) (hL':gJd js (Lo.map (LO.ren (rn js L.length))) L=L')
  (hf:(St.mk fr L N).ev f=.fn fi caps) (hp:gPy L (rn js L.length) 0 Lc)
  (hjs:(decide js.Nodup && (js.all fun j=>Nat.blt j L.length) && js.length==Lc.length && LO.lts Lc.length Lc)=true)
  (hargs:AGs L (rn js L.length) Lc.length (args.toList.map (St.mk fr L N).ev++caps) cargs) (ht:Nat.blt t N=true) :
  HSt P A ops ⟨fr,L,N⟩ ⟨some t,.call { callee:=.value f,args:=args,argTypes:=at_ },ty,pos,af,none⟩ sv L':=by
 intro fr' he K hK;have hm:args.toList.map (St.mk fr' L N).ev=args.toList.map (St.mk fr L N).ev:=List.map_congr_left fun x hx=>he x (by simp only [Op.operands,Call.operands];simp;exact .inr (by simpa using hx));refine yJ (caps:=caps) js hspec ?_ (by rw [he f (by simp [Op.operands,Call.operands])];exact hf) hp hjs (by rw [hm];exact hargs) ht;rintro _ _ ⟨rfl,rfl⟩;rw [hsv,hL'];exact gFw hK
theorem gC5 {f:Operand}{fi:Nat}{caps:List SV}{args:Array Operand}{at_:Array TypeId}{cargs:List SV}{Lc Lo:List LO}{sv0:SV}(js:List Nat)(hspec:Spec P fi cargs Lc (fun sv Lo'=>sv=sv0∧Lo'=Lo))(h:VY P A ops K r pf ⟨(t,sv)::fr,L',N⟩)
  (hi:ops[i]? =some ⟨some t,.call { callee:=.value f,args:=args,argTypes:=at_ },ty,pos,af,none⟩:=by rfl) (hsv:sv0.ren (rn js L.length)=sv:=by rfl) (hL':gJd js (Lo.map (LO.ren (rn js L.length))) L=L':=by rfl)
  (hf:(St.mk fr L N).ev f=.fn fi caps:=by rfl) (hp:gPy L (rn js L.length) 0 Lc:=by((repeat(first | exact trivial | exact rfl | refine And.intro ?_ ?_));first | done | fail))
  (hjs:(decide js.Nodup && (js.all fun j=>Nat.blt j L.length) && js.length==Lc.length && LO.lts Lc.length Lc)=true:=by rfl)
  (hargs:AGs L (rn js L.length) Lc.length (args.toList.map (St.mk fr L N).ev++caps) cargs:=by((repeat(first | exact trivial | exact .inl ⟨rfl,rfl⟩ | exact .inr ⟨_,rfl,by((repeat(first | exact trivial | exact rfl | exact⟨_,rfl⟩ | refine And.intro ?_ ?_));first | done | fail)⟩ | refine And.intro ?_ ?_));first | done | fail))
  (ht:Nat.blt t N=true:=by rfl) (hpf:uY ops i L' pf:=by(repeat(first | exact uY.nil | (apply uY.keep;focus ((repeat constructor);done)) | (apply uY.dep;focus kernel_rfl)))) :
  VY P A ops K ((i,false)::r) pf ⟨fr,L,N⟩:=gJm hi (hJ9 js hspec hsv hL' hf hp hjs hargs ht) hpf h
end
section
variable {P:Program}{A:Amb}{ops:Array Oper}{K:St→Prop}{rest:List Oper}{fr:List (Nat × SV)}{L:List LO}{N t:Nat}{sv:SV}{ty:TypeId}{pos:String}{af:Array Edge}{op:Op}
end
section
variable {P:Program}{A:Amb}{σ:St}{dst:Option Nat}{ty T T':TypeId}{pos:String}{af:Array Edge}{g:Option (Nat × Bool)}{x y:Operand}
end
section
variable {P:Program}{A:Amb}{σ:St}{dst:Option Nat}{ty T T':TypeId}{pos:String}{af:Array Edge}{g:Option (Nat × Bool)}{x y:Operand}
theorem hQj{m n r:Int}(hr:IntKind.i64.wrap (m.tdiv n)=r)(hx:σ.ev x=.d (.i .i64 m):=by rfl)(hy:σ.ev y=.d (.i .i64 n):=by rfl)(hn:decide (0 < n)=true:=by rfl):Quiet P A σ ⟨dst,.binOp .quo T x y T',ty,pos,af,g⟩ (.d (.i .i64 r)):=Quiet.pure fun S env a w hH ho=>by
 have h1:=ho x (by simp [Op.operands]);have h2:=ho y (by simp [Op.operands]);rw [hx,SVr.int] at h1;rw [hy,SVr.int] at h2;have h0:¬n=0:=by have:=of_decide_eq_true hn;omega
 subst hr;exact⟨_,by simp [execOp,h1,h2,eqGuard,binOp,Op.intDiv,h0],SVr.int.2 rfl⟩
theorem hWg{m n:Int}(hx:σ.ev x=.d (.i .i64 m):=by rfl)(hy:σ.ev y=.d (.i .i64 n):=by rfl)(hn:decide (0 < n)=true:=by rfl):Quiet P A σ ⟨dst,.binOp .rem T x y T',ty,pos,af,g⟩ (.d (.i .i64 (m.tmod n))):=Quiet.pure fun S env a w hH ho=>by
 have h1:=ho x (by simp [Op.operands]);have h2:=ho y (by simp [Op.operands]);rw [hx,SVr.int] at h1;rw [hy,SVr.int] at h2;have h0:¬n=0:=by have:=of_decide_eq_true hn;omega
 exact⟨_,by simp [execOp,h1,h2,eqGuard,binOp,Op.intDiv,h0],SVr.int.2 rfl⟩
theorem wK{a b:LB}(hl:a.length+b.length≤4294967296)(hx:σ.ev x=.d (.s a):=by rfl)(hy:σ.ev y=.d (.s b):=by rfl):QR P σ ⟨dst,.binOp .add T x y T',ty,pos,af,g⟩ (.d (.s (a++b))):=
 fun A fr' L' he _=>hVz (by rw [he x (by simp [Op.operands])];exact hx) (by rw [he y (by simp [Op.operands])];exact hy) (by rw [yI];omega)
end
def hWi(a:UInt8):U:=.i .u8 (a.toNat:Int)
def gEr:LB→List U
 | []=>[]
 | a::l=>.i .u8 (a.toNat:Int)::gEr l
instance:Enc UInt8 hWi gEr 1:=⟨fun l=>by induction l with | nil=>rfl | cons a l ih=>simp [gEr,ih,hWi],fun _=>rfl⟩
theorem hTq{l:LB}{k:Nat}{x:UInt8}(h:l[k]? =some x):(gEr l)[k]? =some (.i .u8 (x.toNat:Int)):=Enc.get h
structure jB where
 b:LB
 i:Int
 h:Int
def hGc(m n:Int):Int:=IntKind.i64.wrap (BitVec.ofInt 64 m &&& BitVec.ofInt 64 n).toNat
def hWk(m n:Int):Int:=IntKind.i64.wrap (BitVec.ofInt 64 m ^^^ BitVec.ofInt 64 n).toNat
def hOq(m n:Int):Int:=m.fdiv (2^(min n.toNat 64))
theorem gRa(m:Int):0≤hGc m 255∧hGc m 255≤255:=by
 have h:(BitVec.ofInt 64 m &&& BitVec.ofInt 64 255).toNat≤255:=by
  rw [BitVec.toNat_and];exact Nat.and_le_right
 unfold hGc;rw [qR _ (by omega) (by omega)];omega
section
variable {P:Program}{A:Amb}{σ:St}{dst:Option Nat}{ty T T':TypeId}{pos:String}{af:Array Edge}{g:Option (Nat × Bool)}{x y:Operand}
theorem hKd:QR P σ ⟨dst,.assign (.const (.pointer none)),ty,pos,af,g⟩ .junk:=
 fun A fr' L' he _=>Quiet.pure fun S env a w hH ho=>⟨.pointer none,by simp [execOp,Act.eval],by simp only [SVr]⟩
theorem hKe{m n:Int}(hx:σ.ev x=.d (.i .i64 m):=by rfl)(hy:σ.ev y=.d (.i .i64 n):=by rfl):QR P σ ⟨dst,.binOp .and T x y T',ty,pos,af,g⟩ (.d (.i .i64 (hGc m n))):=
 fun A fr' L' he _=>Quiet.pure fun S env a w hH ho=>by
  have h1:=ho x (by simp [Op.operands]);have h2:=ho y (by simp [Op.operands]);rw [he x (by simp [Op.operands]),hx,SVr.int] at h1;rw [he y (by simp [Op.operands]),hy,SVr.int] at h2;exact⟨_,by simp [execOp,h1,h2,eqGuard,binOp,Op.intBits];rfl,SVr.int.2 rfl⟩
theorem hWl{m n:Int}(hx:σ.ev x=.d (.i .i64 m):=by rfl)(hy:σ.ev y=.d (.i .i64 n):=by rfl):QR P σ ⟨dst,.binOp .xor T x y T',ty,pos,af,g⟩ (.d (.i .i64 (hWk m n))):=
 fun A fr' L' he _=>Quiet.pure fun S env a w hH ho=>by
  have h1:=ho x (by simp [Op.operands]);have h2:=ho y (by simp [Op.operands]);rw [he x (by simp [Op.operands]),hx,SVr.int] at h1;rw [he y (by simp [Op.operands]),hy,SVr.int] at h2;exact⟨_,by simp [execOp,h1,h2,eqGuard,binOp,Op.intBits];rfl,SVr.int.2 rfl⟩
theorem hQk{m n:Int}{k:IntKind}(hx:σ.ev x=.d (.i .i64 m):=by rfl)(hy:σ.ev y=.d (.i k n):=by rfl)(hn:decide (0≤n)=true:=by rfl):QR P σ ⟨dst,.binOp .shr T x y T',ty,pos,af,g⟩ (.d (.i .i64 (hOq m n))):=
 fun A fr' L' he _=>Quiet.pure fun S env a w hH ho=>by
  have h1:=ho x (by simp [Op.operands]);have h2:=ho y (by simp [Op.operands]);rw [he x (by simp [Op.operands]),hx,SVr.int] at h1;rw [he y (by simp [Op.operands]),hy,SVr.int] at h2;have h0:¬n < 0:=by have:=of_decide_eq_true hn;omega
  exact⟨_,by simp [execOp,h1,h2,eqGuard,binOp,Op.shift,h0];rfl,SVr.int.2 rfl⟩
theorem hQl{m n:Int}(h0:n≠0)(hx:σ.ev x=.d (.i .i64 m):=by rfl)(hy:σ.ev y=.d (.i .i64 n):=by rfl):QR P σ ⟨dst,.binOp .rem T x y T',ty,pos,af,g⟩ (.d (.i .i64 (m.tmod n))):=
 fun A fr' L' he _=>Quiet.pure fun S env a w hH ho=>by
  have h1:=ho x (by simp [Op.operands]);have h2:=ho y (by simp [Op.operands]);rw [he x (by simp [Op.operands]),hx,SVr.int] at h1;rw [he y (by simp [Op.operands]),hy,SVr.int] at h2;exact⟨_,by simp [execOp,h1,h2,eqGuard,binOp,Op.intDiv,h0],SVr.int.2 rfl⟩
theorem hTt{T2:TypeId}{k k1 k2:IntKind}{m:Int}(h1:P.underlying T=some (.int k1))(h2:P.underlying T2=some (.int k2))(hx:σ.ev x=.d (.i k m):=by rfl):QR P σ ⟨dst,.convert T T2 x,ty,pos,af,g⟩ (.d (.i k2 (k2.wrap m))):=
 fun A fr' L' he _=>hAd (by rw [he x (by simp [Op.operands])];exact hx) h1 h2
end
theorem Rds.split{S:Nat→Prop}{w:World}:∀(us:List U)(vs:List U)(cs:List Value),Rds S w (us++vs) cs→∃c1 c2,cs=c1++c2∧Rds S w us c1∧Rds S w vs c2
 | [],vs,cs,h=>⟨[],cs,rfl,by simp only [Rds],h⟩
 | u::us,vs,cs,h=>by
   simp only [List.cons_append,Rds] at h;obtain⟨c1,c2,rfl,h1,h2⟩:=h;obtain⟨d1,d2,rfl,h3,h4⟩:=Rds.split us vs c2 h2;exact⟨c1++d1,d2,by rw [List.append_assoc],by simp only [Rds];exact⟨c1,d1,rfl,h1,h3⟩,h4⟩
theorem gYj{w:World}{S:Nat→Prop}{L:List LO}{env:List Value}{e z ver:Nat}{es:List U}{hv:Value}(h:gGd S L env w (.arr e z ver es) hv):(∀S' L' env',S'=S→gGd S' L' env' w (.mix e z ver [] es) hv)∧∀b,(LO.mix e z ver [] es).ft w hv b↔(LO.arr e z ver es).ft w hv b:=by
 obtain⟨h1,h2,xs,h3,h4⟩:=h;have hf:=gYg (fs:=[]) (n:=es.length) (by simp) (Nat.zero_le _) h3;constructor
 ·rintro S' L' env' rfl;refine⟨by simpa using h1,by simpa using h2,⟨xs,by simpa using h3,by simp [Trs],by simpa using h4⟩,?_⟩;rcases hf with ⟨_,_,_,hf⟩ | ⟨g,cap,_,hf⟩
  ·rw [hf];exact List.nodup_nil
  ·rw [hf];simp [U.fps]
 ·intro b;simp only [LO.ft];rcases hf with ⟨rfl,_,_,hf⟩ | ⟨g,cap,rfl,hf⟩
  ·rw [hf];simp [blk]
  ·rw [hf];simp [blk,U.fps,eq_comm]
theorem hKg{w:World}{S:Nat→Prop}{L:List LO}{env:List Value}{e z ver:Nat}{fs:List U}{hv:Value}(h:gGd S L env w (.mix e z ver fs []) hv):∀S' L' env',gGd S' L' env' w (.own e z ver fs) hv:=by
 intro S' L' env';obtain⟨h1,h2,⟨xs,h3,h4,_⟩,h5⟩:=h;simp only [List.append_nil] at h1 h2 h3;exact⟨h1,h2,⟨xs,h3,by rw [List.take_of_length_le (by rw [h3.1];exact Nat.le_refl _)] at h4;exact h4⟩,h5⟩
section
variable {P:Program}{A:Amb}{σ:St}{K:St→Prop}{Q:Exit→St→Prop}
variable {ops:Array Oper}{rest:List Oper}{t:Nat}{ty:TypeId}{pos:String}{af:Array Edge}{x y:Operand}{sv:SV}{dst:Option Nat}{g:Option (Nat × Bool)}
theorem kZ.toMix{a:Act}{w:World}{fr:List (Nat × SV)}{L:List LO}{N i e z ver:Nat}{es:List U}(hL:L[i]? =some (.arr e z ver es))(h:kZ A ⟨fr,L,N⟩ a w):kZ A ⟨fr,L.set i (.mix e z ver [] es),N⟩ a w:=by
 obtain⟨S,env,hH,hf,hN,hd⟩:=h;have hi:=(List.getElem?_eq_some_iff.1 hL).1;obtain⟨hv,hhv⟩:∃hv,env[i]? =some hv:=⟨_,List.getElem?_eq_getElem (by rw [hH.len];exact hi)⟩
 have hob:=hH.objs i _ hv hL hhv;obtain⟨hH',C⟩:mQ A S (L.set i (.mix e z ver [] es)) env w∧Carry S L env w S (L.set i (.mix e z ver [] es)) env w:=by
  refine hH.eat [] i _ hv (by rw [List.length_set];exact hH.len) (fun j hj=>?_) (List.getElem?_set_self hi) (fun _ _=>rfl) hhv (fun _ _ _=>rfl) (fun o hv1 h1 h2=>?_) (Nat.le_refl _) rfl rfl rfl (fun k hk=>?_) (fun C=>(gYj hob).1 _ _ _ rfl)
  ·rw [List.getElem?_set_ne (fun e=>hj e.symm)];simp
  ·rw [hL] at h1;rw [hhv] at h2;cases h1;cases h2;exact⟨Nat.le_refl _,fun _=>rfl,fun _ _=>rfl⟩
  ·have:=((gYj hob).2 k).1 hk
   exact⟨(hH.excl i _ hv k hL rfl hhv this).2.2,.inr ⟨i,_,hv,.inl rfl,hL,rfl,hhv,this⟩⟩
 exact⟨S,env,hH',fun t=>SVr.carry C _ _ (hf t),hN,hd⟩
theorem kZ.ofMix{a:Act}{w:World}{fr:List (Nat × SV)}{L:List LO}{N i e z ver:Nat}{fs:List U}(hL:L[i]? =some (.mix e z ver fs []))(h:kZ A ⟨fr,L,N⟩ a w):kZ A ⟨fr,L.set i (.own e z ver fs),N⟩ a w:=by
 obtain⟨S,env,hH,hf,hN,hd⟩:=h;have hi:=(List.getElem?_eq_some_iff.1 hL).1;obtain⟨hv,hhv⟩:∃hv,env[i]? =some hv:=⟨_,List.getElem?_eq_getElem (by rw [hH.len];exact hi)⟩
 have hob:=hH.objs i _ hv hL hhv;obtain⟨hH',C⟩:mQ A S (L.set i (.own e z ver fs)) env w∧Carry S L env w S (L.set i (.own e z ver fs)) env w:=by
  refine hH.eat [] i _ hv (by rw [List.length_set];exact hH.len) (fun j hj=>?_) (List.getElem?_set_self hi) (fun _ _=>rfl) hhv (fun _ _ _=>rfl) (fun o hv1 h1 h2=>?_) (Nat.le_refl _) rfl rfl rfl (fun k hk=>?_) (fun C=>hKg hob _ _ _)
  ·rw [List.getElem?_set_ne (fun e=>hj e.symm)];simp
  ·rw [hL] at h1;rw [hhv] at h2;cases h1;cases h2;exact⟨Nat.le_refl _,fun _=>rfl,fun _ _=>rfl⟩
  ·exact⟨(hH.excl i _ hv k hL rfl hhv hk).2.2,.inr ⟨i,_,hv,.inl rfl,hL,rfl,hhv,hk⟩⟩
 exact⟨S,env,hH',fun t=>SVr.carry C _ _ (hf t),hN,hd⟩
theorem hTu{c:Code}{fr:List (Nat × SV)}{L L':List LO}{N e z ver:Nat}{es:List U}(i:Nat)(h:V P A c ⟨fr,L',N⟩ Q)(hL:L[i]? =some (.arr e z ver es):=by rfl)(hL':St1 (.mix e z ver [] es) i L L':=by repeat constructor):V P A c ⟨fr,L,N⟩ Q:=by
 have:=hL'.spec
 subst this;exact fun a w hr=>h a w (hr.toMix hL)
theorem hTv{c:Code}{fr:List (Nat × SV)}{L L':List LO}{N e z ver:Nat}{fs:List U}(i:Nat)(h:V P A c ⟨fr,L',N⟩ Q)(hL:L[i]? =some (.mix e z ver fs []):=by rfl)(hL':St1 (.own e z ver fs) i L L':=by repeat constructor):V P A c ⟨fr,L,N⟩ Q:=by
 have:=hL'.spec
 subst this;exact fun a w hr=>h a w (hr.ofMix hL)
theorem hKh{T e:TypeId}{i ver e' z:Nat}{fs es:List U}{T':TypeId}(hx:σ.ev x=.sl i ver)(hL:σ.L[i]? =some (.mix e' z ver fs es))[hT:TE P T e] :
  Quiet P A σ ⟨dst,.call { callee:=.builtin .len,args:=#[x],argTypes:=#[T] },T',pos,af,g⟩ (.d (.i .i64 (fs++es).length)):=Quiet.pure fun S env a w hH ho=>by
 have h1:=ho x (by simp [Op.operands,Call.operands]);rw [hx] at h1;simp only [SVr] at h1;obtain⟨hv,o,k1,k2,k3,k5,k4⟩:=h1;rw [hL] at k2;obtain rfl:=Option.some.inj k2;have k6:=k4 rfl;obtain⟨_,_,⟨xs,h3,_,_⟩,_⟩:=hH.objs i _ hv hL k1;have hu:P.underlying T=some (.slice e):=wO TE.h;rcases h3.2 with ⟨r1,r2⟩ | ⟨b,cap,cur,r1,_⟩
 ·rw [r2];exact⟨.int .i64 0,by simp [execOp,resolve,invoke,builtin,Builtin.len_,k6,r1,run_underlying hu,goInt],SVr.int.2 rfl⟩
 ·exact⟨.int .i64 (fs++es).length,by simp [execOp,resolve,invoke,builtin,Builtin.len_,k6,r1,run_underlying hu,goInt],SVr.int.2 rfl⟩
theorem hAi {T e:TypeId}{i ver z:Nat}{fs es:List U}{k:IntKind}{n:Int}{gg:Bool}{bs:Nat}(hx:σ.ev x=.sl i ver)(hL:σ.L[i]? =some (.mix e z ver fs es))(hy:σ.ev y=.d (.i k n))(hT:tyE P T=some e)(he:tyI P e=some (gg,z,bs))
  (hn:0≤n) (hn2:n < (fs++es).length):Quiet P A σ ⟨dst,.indexAddr T x y,ty,pos,af,g⟩ (.ep i ver z n.toNat 0):=Quiet.pure fun S env a w hH ho=>by
 have h1:=ho x (by simp [Op.operands]);have h2:=ho y (by simp [Op.operands]);rw [hy,SVr.int] at h2;rw [hx] at h1;simp only [SVr] at h1;obtain⟨hv,o,k1,k2,k3,k5,k4⟩:=h1;rw [hL] at k2;obtain rfl:=Option.some.inj k2;have k6:=k4 rfl;obtain⟨_,_,⟨xs,h3,_,_⟩,_⟩:=hH.objs i _ hv hL k1;rcases h3.2 with ⟨_,r2⟩ | ⟨b,cap,cur,r1,_⟩
 ·rw [r2] at hn2;omega
 ·refine⟨.pointer (some ⟨b,n.toNat*z,none⟩),?_,?_⟩
  ·simp [execOp,Instr.indexAt,h2,k6,r1,asIntOf,run_underlying (wO hT),run_sizeOf he,hn,(by simpa using hn2:n < (fs.length:Int)+es.length),Addr.add_lit]
  ·simp only [SVr];exact⟨hv,_,k1,hL,Nat.le_refl _,rfl,fun _=>⟨b,by rw [r1];rfl,rfl⟩⟩
theorem hWm{T e:TypeId}{i ver z:Nat}{fs es:List U}{gg:Bool}{bs:Nat}(k:Nat)(hn2:k < (fs++es).length)(hx:σ.ev x=.sl i ver:=by rfl)(hL:σ.L[i]? =some (.mix e z ver fs es):=by rfl)(hy:σ.ev y=.d (.i .i64 (k:Int)):=by rfl) [TE P T e] [TI P e gg z bs] :
  Quiet P A σ ⟨dst,.indexAddr T x y,ty,pos,af,g⟩ (.ep i ver z k 0):=by
 have:=hAi (P:=P) (A:=A) (dst:=dst) (ty:=ty) (pos:=pos) (af:=af) (g:=g) hx hL hy (TE.h:tyE P T=some e) (TI.h:tyI P e=some (gg,z,bs)) (Int.natCast_nonneg k) (by omega)
 simpa using this
theorem gS0{T:TypeId}{i ver z k off f fo:Nat}{e' z':Nat}{fs es:List U}(hx:σ.ev x=.ep i ver z k off)(hL:σ.L[i]? =some (.mix e' z' ver fs es))(hF:tyF P T f=some fo) :
  Quiet P A σ ⟨dst,.fieldAddr T x f,ty,pos,af,g⟩ (.ep i ver z k (off+fo)):=Quiet.pure fun S env a w hH ho=>by
 have h1:=ho x (by simp [Op.operands]);rw [hx] at h1;simp only [SVr] at h1;obtain⟨hv,o,k1,k2,k3,k5,k4⟩:=h1;rw [hL] at k2;obtain rfl:=Option.some.inj k2;obtain⟨b,e1,e2⟩:=k4 rfl;refine⟨.pointer (some ⟨b,k*z+off+fo,none⟩),by simp only [execOp,e2,Sem.run_bind,hAl hF,Result.andThen_ok,Sem.run_pure],?_⟩;simp only [SVr];exact⟨hv,_,k1,hL,Nat.le_refl _,rfl,fun _=>⟨b,e1,by rw [Nat.add_assoc]⟩⟩
theorem hFt{T:TypeId}{i ver z k off:Nat}{e':Nat}{fs es pre:List U}{u:U}{gg:Bool}{zu bs:Nat}(hx:σ.ev x=.ep i ver z k off)(hL:σ.L[i]? =some (.mix e' z ver fs (.st (pre++[u])::es)))(hk:fs.length=k)(hoff:U.szs pre=off)(hT:tyI P T=some (gg,zu,bs))(hzu:u.sz=zu)(hg:u.isSt=gg) :
  Quiet P A σ ⟨dst,.load T x,ty,pos,af,g⟩ (.d u):=Quiet.pure fun S env a w hH ho=>by
 have h1:=ho x (by simp [Op.operands]);rw [hx] at h1;simp only [SVr] at h1;obtain⟨hv,o,k1,k2,k3,k5,k4⟩:=h1;rw [hL] at k2;obtain rfl:=Option.some.inj k2;obtain⟨b,e1,e2⟩:=k4 rfl;obtain⟨_,hz,⟨xs,h3,_,h4⟩,_⟩:=hH.objs i _ hv hL k1;have hat:=gNj h3 e1;subst hk;subst hoff;subst hzu;subst hg;simp only [Rds] at h4;obtain⟨c1,c2,hxs,h5,_⟩:=h4;simp only [Rd] at h5;obtain⟨p1,p2,rfl,h6,h7⟩:=Rds.split pre [u] c1 h5;simp only [Rds] at h7;obtain⟨q1,q2,rfl,h8,rfl⟩:=h7;have hp1:=Rds.length _ _ h6;have hq1:=Rd.length _ _ h8;have hcell:∀j,j < q1.length→xs[fs.length*z+U.szs pre+j]? =q1[j]? :=by
  intro j hj
  have:(xs.drop (fs.length*z))[U.szs pre+j]? =q1[j]? :=by
   rw [hxs,List.append_nil,List.append_assoc,List.getElem?_append_right (by omega),hp1,Nat.add_sub_cancel_left,List.getElem?_append_left hj]
  rw [←this,List.getElem?_drop,Nat.add_assoc]
 refine⟨val u q1,?_,?_⟩
 ·obtain⟨row,e,fz,r1,r2⟩:=hat
  have:=gDm hT w b (fs.length*z+U.szs pre) q1 hq1 ⟨row,e,fz,r1,fun j hj=>?_⟩ (fun h=>gCd h)
  ·simp [execOp,Instr.loadAt,e2,Instr.sureAddr,this,val]
  ·rw [←hcell j hj];have hlt:fs.length*z+U.szs pre+j < xs.length:=by
    have:=hcell j hj
    rw [List.getElem?_eq_getElem hj] at this;exact(List.getElem?_eq_some_iff.1 this).1
   have:=r2 (fs.length*z+U.szs pre+j) hlt
   simpa using this
 ·simp only [SVr];exact⟨_,rfl,h8⟩
theorem hKi {T:TypeId}{gg:Bool}{i ver z k off e bs zu:Nat}{fs es pre:List U}{old u:U}{js:List Nat}{fr:List (Nat × SV)}{L L':List LO}{N:Nat}(hx:(St.mk fr L N).ev x=.ep i ver z k off)(hL:L[i]? =some (.mix e z ver fs (.st (pre++[old])::es)))(hk:fs.length=k)(hoff:U.szs pre=off)(hpre:U.noSls pre=true)
  (hy:OV L ((St.mk fr L N).ev y) u js) (hjs:(decide js.Nodup && !js.contains i)=true) (hT:tyI P T=some (gg,zu,bs)) (hu:u.sz=zu) (hou:old.sz=zu) (hL':(kill js 0 L).set i (.mix e z ver (fs++[.st (pre++[u])]) es)=L')
  (h:VO P A ops rest ⟨fr,L',N⟩ K) :
  VO P A ops (⟨none,.store T x y,ty,pos,af,none⟩::rest) ⟨fr,L,N⟩ K:=by
 subst hL';simp only [Bool.and_eq_true,decide_eq_true_eq,Bool.not_eq_true'] at hjs;refine gDn rfl (fun S env a w hH hf hN hd=>?_) h;have h1:=kZ.ev hf hH x;obtain⟨cs,c1,hcells,c2,c3,c4,c5⟩:=hy.r hH hjs.1 (kZ.ev hf hH y);rw [hx] at h1;simp only [SVr] at h1;obtain⟨hv,o,k1,k2,k3,k5,k4⟩:=h1;rw [hL] at k2;obtain rfl:=Option.some.inj k2;obtain⟨b,e1,e2⟩:=k4 rfl;have hob:=hH.objs i _ hv hL k1;obtain⟨hbg,hz,⟨xs,m1,m2,m3⟩,hnd⟩:=hob;have hcl:=Tr.len _ _ c2;rw [hu] at hcl;have hzf:∀v∈fs,v.sz=z:=fun v hv'=>hz v (by simp [hv']);have hfp:=gYg hzf (by simp) m1;rcases hfp with ⟨rfl,_⟩ | ⟨g,cap,rfl,hfp⟩
 ·simp [blk] at e1
 simp only [blk,Option.some.injEq] at e1;subst e1;rcases m1.2 with ⟨hnil,_⟩ | ⟨g',cap',cur,hveq,hg0,hg,hnc,hcm,hcs,htake⟩
 ·cases hnil
 cases hveq;rw [hfp] at hnd;simp only [Rds] at m3;obtain⟨d1,d2,hxs,m4,m5⟩:=m3;simp only [Rd] at m4;obtain⟨p1,p2,rfl,m6,m7⟩:=Rds.split pre [old] d1 m4;have hp1:=Rds.length _ _ m6;have hp2:=Rds.length _ _ m7;have hd2:=Rds.length _ _ m5;simp only [U.szs,Nat.add_zero,hou] at hp2;have hzz:(U.st (pre++[old])).sz=z:=hz _ (by simp);have hszapp:∀(us vs:List U),U.szs (us++vs)=U.szs us+U.szs vs:=by
  intro us vs
  induction us with
  | nil=>simp [U.szs]
  | cons a us ih=>simp only [List.cons_append,U.szs,ih];omega
 have hzo:z=off+zu:=by
  simp only [U.sz,hszapp,U.szs,hou,hoff] at hzz;omega
 have hX:(xs.take (fs.length*z)).length=fs.length*z:=by
  rw [List.length_take,m1.1];exact Nat.min_eq_left (Nat.mul_le_mul_right _ (by simp))
 have hxs2:xs=xs.take (fs.length*z)++(p1++(p2++d2)):=by
  conv=>lhs;rw [←List.take_append_drop (fs.length*z) xs,hxs]
  simp
 have hcur:cur.toList=xs.take (fs.length*z)++(p1++(p2++(d2++cur.toList.drop ((fs++U.st (pre++[old])::es).length*z)))):=by
  conv=>lhs;rw [←List.take_append_drop ((fs++U.st (pre++[old])::es).length*z) cur.toList,htake,hxs2]
  simp
 generalize hX1:xs.take (fs.length*z)=X1 at *;generalize hR1:cur.toList.drop ((fs++U.st (pre++[old])::es).length*z)=R1 at *;have hk':k*z=X1.length:=by rw [hX,hk]
 have hst:=run_storeCells_at P g (k*z+off) e cs 0 cur w hg (by
  have:cur.toList.length=X1.length+(p1.length+(p2.length+(d2.length+R1.length))):=by rw [hcur];simp
  simp only [Array.length_toList] at this
  omega) c5
 have hnew:cur.toList.take (k*z+off)++cs++cur.toList.drop (k*z+off+cs.length)=X1++(p1++(cs++(d2++R1))):=by
  rw [hcur,←List.append_assoc X1 p1,List.take_left' (by rw [List.length_append];omega),←List.append_assoc (X1++p1) p2,List.drop_left' (by simp only [List.length_append];omega)];simp
 rw [Nat.add_zero,hnew] at hst;have hrow:=setRow_heap w g cur ((X1++(p1++(cs++(d2++R1)))).toArray) e (0,0) hg;have hoth:∀b',b'≠g→(w.setRow g (X1++(p1++(cs++(d2++R1)))).toArray).heap[b']? =w.heap[b']? :=fun b' hb'=>setRow_other w g b' _ hb';obtain⟨q1,q2⟩:=List.nodup_cons.1 hnd;have hap:∀b'∈u.fp w cs,b'≠g∧b'∉U.fps w fs X1:=by
  intro b' hb';obtain⟨j,hj,ho⟩:=c4 b' hb';have hnot:¬ (LO.mix e z ver fs (U.st (pre++[old])::es)).ft w (.slice (some ⟨g,0,none⟩) (fs++U.st (pre++[old])::es).length cap) b':=by
   intro hft
   have:=ho.inj hH ⟨_,_,hL,rfl,k1,hft⟩
   subst this;rw [gB9 hj] at hjs;cases hjs.2
  simp only [LO.ft] at hnot;rw [hfp] at hnot;simp only [List.mem_cons,not_or] at hnot;exact hnot
 obtain⟨t1,t2⟩:=Trs.loc _ _ m2 (fun b' hb'=>hoth b' (fun e=>q1 (e▸hb')));obtain⟨t5,t6⟩:=Tr.loc _ _ c2 (fun b' hb'=>hoth b' (hap b' hb').1);obtain⟨s1,s2⟩:=Rds.tr (w':=w.setRow g (X1++(p1++(cs++(d2++R1)))).toArray) _ _ hpre m6;have su:Trs (w.setRow g (X1++(p1++(cs++(d2++R1)))).toArray) [u] cs∧U.fps (w.setRow g (X1++(p1++(cs++(d2++R1)))).toArray) [u] cs=u.fp w cs:=by
  simp only [Trs,U.fps];rw [List.take_of_length_le (by omega),List.drop_of_length_le (by omega),t6];exact⟨⟨t5,rfl⟩,by simp⟩
 obtain⟨v1,v2⟩:=Trs.append _ _ _ _ s1 su.1;rw [s2,su.2,List.nil_append] at v2;have hel:Trs (w.setRow g (X1++(p1++(cs++(d2++R1)))).toArray) [.st (pre++[u])] (p1++cs)∧U.fps (w.setRow g (X1++(p1++(cs++(d2++R1)))).toArray) [.st (pre++[u])] (p1++cs)=u.fp w cs:=by
  have hl:(p1++cs).length≤(U.st (pre++[u])).sz:=by
   simp only [U.sz,hszapp,U.szs,List.length_append];omega
  simp only [Trs,U.fps];rw [List.take_of_length_le hl,List.drop_of_length_le hl];simp only [Tr,U.fp];exact⟨⟨v1,trivial⟩,by rw [v2];simp⟩
 obtain⟨r1,r2⟩:=Trs.append _ _ _ _ t1 hel.1;rw [t2,hel.2] at r2;have hlenE:(fs++[U.st (pre++[u])]++es).length=(fs++U.st (pre++[old])::es).length:=by simp
 have hz':∀v∈fs++[U.st (pre++[u])]++es,v.sz=z:=by
  intro v hv';simp only [List.mem_append,List.mem_singleton] at hv';rcases hv' with (hv' | rfl) | hv'
  ·exact hzf v hv'
  ·simp only [U.sz,hszapp,U.szs];omega
  ·exact hz v (by simp [hv'])
 have hf1:(fs++[U.st (pre++[u])]).length*z=(X1++(p1++cs)).length:=by
  simp only [List.length_append,List.length_singleton,Nat.add_mul,Nat.one_mul];rw [hk,hk'];omega
 have hown':(w.setRow g (X1++(p1++(cs++(d2++R1)))).toArray).ownsRow 0 e z (.slice (some ⟨g,0,none⟩) (fs++U.st (pre++[old])::es).length cap) (fs++[U.st (pre++[u])]++es).length (X1++(p1++cs)++d2):=by
  have hxl:(X1++(p1++cs)++d2).length=xs.length:=by
   rw [hxs2];simp only [List.length_append];omega
  refine⟨by rw [hxl,m1.1,hlenE],.inr ⟨g,cap,_,by rw [hlenE],hg0,hrow,by rw [hlenE];exact hnc,hcm,?_,?_⟩⟩
  ·rw [←hcs]
   have:cur.toList.length=X1.length+(p1.length+(p2.length+(d2.length+R1.length))):=by rw [hcur];simp
   simp only [Array.length_toList] at this;simp only [List.size_toArray,List.length_append];omega
  ·rw [hlenE,←m1.1,←hxl];show List.take _ (X1++(p1++(cs++(d2++R1))))=_;rw [show X1++(p1++(cs++(d2++R1)))=X1++(p1++cs)++d2++R1 by simp,List.take_left]
 have hfp':(U.sl z (fs++[U.st (pre++[u])])).fp (w.setRow g (X1++(p1++(cs++(d2++R1)))).toArray) [.slice (some ⟨g,0,none⟩) (fs++U.st (pre++[old])::es).length cap]=g::(U.fps w fs X1++u.fp w cs):=by
  rcases gYg (fs:=fs++[U.st (pre++[u])]) (fun v hv'=>hz' v (by simp only [List.mem_append] at hv' ⊢;exact .inl hv')) (by simp) hown' with ⟨h,_⟩ | ⟨g2,cap2,h,hf2⟩
  ·cases h
  ·injection h with h1 _ _
   injection h1 with h1
   injection h1 with h1
   subst h1;rw [hf2,hf1,List.take_left,r2]
 have hi:=(List.getElem?_eq_some_iff.1 hL).1
 obtain⟨hH',C⟩:=hH.eat (w':=w.setRow g (X1++(p1++(cs++(d2++R1)))).toArray) js i (.mix e z ver (fs++[U.st (pre++[u])]) es) (.slice (some ⟨g,0,none⟩) (fs++U.st (pre++[old])::es).length cap) (L':=(kill js 0 L).set i (.mix e z ver (fs++[U.st (pre++[u])]) es)) (env':=env)
  (by simp [zY,hH.len]) (fun j hj=>by rw [List.getElem?_set_ne (fun e=>hj e.symm),gMh,Nat.zero_add]) (by rw [List.getElem?_set_self (by rw [zY];exact hi)]) (fun _ _=>rfl) k1
  (fun k' hk' hno=>hoth k' (fun e=>hno _ _ hL k1 ⟨rfl,by simp only [LO.ft];rw [hfp,e];simp⟩))
  (fun o hv h1 h2=>by rw [hL] at h1;cases h1;rw [k1] at h2;cases h2;exact⟨Nat.le_refl _,fun _=>rfl,fun _ _=>rfl⟩)
  (by rw [setRow_size];exact Nat.le_refl _) rfl rfl rfl
  (fun b' hb'=>by
   simp only [LO.ft] at hb';rw [hfp'] at hb';simp only [List.mem_cons,List.mem_append] at hb';have old':∀j,gT2 L env w j b'→(j=i∨js.contains j=true)→b' < (w.setRow g (X1++(p1++(cs++(d2++R1)))).toArray).heap.size∧(w.heap.size≤b'∨∃j o hv,(j=i∨js.contains j=true)∧L[j]? =some o∧o.live=true∧env[j]? =some hv∧o.ft w hv b'):=by
    rintro j ⟨o,hv,n1,n2,n3,n4⟩ hj;exact⟨by rw [setRow_size];exact(hH.excl j o hv b' n1 n2 n3 n4).2.2,.inr ⟨j,o,hv,hj,n1,n2,n3,n4⟩⟩
   have self:b'∈(U.sl z fs).fp w [.slice (some ⟨g,0,none⟩) (fs++U.st (pre++[old])::es).length cap]→gT2 L env w i b':=fun hm=>⟨_,_,hL,rfl,k1,hm⟩
   rw [hfp] at self;rcases hb' with rfl | hb' | hb'
   ·exact old' i (self (by simp)) (.inl rfl)
   ·exact old' i (self (by simp [hb'])) (.inl rfl)
   ·obtain⟨j,hj,ho⟩:=c4 b' hb'
    exact old' j ho (.inr (gB9 hj)))
  (fun C=>⟨by rw [hlenE];exact hbg,hz',⟨_,hown',by rw [hf1,List.take_left];exact r1,by rw [hf1,List.drop_left];exact Rds.mono C.hS C.hw _ _ m5⟩,by
   rw [hfp'];refine List.nodup_cons.2 ⟨?_,List.nodup_append.2 ⟨q2,c3,fun a' ha' b' hb' hab=>(hap b' hb').2 (hab▸ha')⟩⟩;simp only [List.mem_append,not_or]
   exact⟨q1,fun hm=>(hap g hm).1 rfl⟩⟩)
 refine⟨.skip,_,?_,.inr ⟨rfl,gBm hf hN hd hH' C⟩⟩;have hsz:(a.eval y).cells.size=zu:=by rw [←hcl,←hcells];simp
 have e2':a.eval x=.pointer (some ⟨g,k*z+off,none⟩):=e2;simp [execOp,Instr.storeAt,e2',Instr.sureAddr,storeVar,run_sizeOf hT,hsz,hcells,hst]
theorem hOr{T T' e:TypeId}{z:Nat}{us:List U}{fr:List (Nat × SV)}{L:List LO}{N:Nat} [TE P T e](h:∀b:Bool,(b=true→us=[])→VO P A ops rest ⟨(t,.d (.b b))::fr,L,N⟩ K)(hx:(St.mk fr L N).ev x=.d (.sl z us):=by rfl)(ht:Nat.blt t N=true:=by rfl) :
  VO P A ops (⟨some t,.binOp .eql T x (.const (.slice none 0 0)) T',ty,pos,af,none⟩::rest) ⟨fr,L,N⟩ K:=by
 intro R hR a w ⟨S,env,hH,hf,hN,hd⟩;have h1:=kZ.ev hf hH x;rw [hx,SVr.slice] at h1;obtain⟨_,base,cap,h1,h2⟩:=h1;refine wpList_plain rfl fun K' hK'=>?_;have hT:P.underlying T=some (.slice e):=wO TE.h;have hrun:(execOp a.eval ⟨some t,.binOp .eql T x (.const (.slice none 0 0)) T',ty,pos,af,none⟩).run P w=.ok (.value (.bool base.isNone)) w:=by
  have h0:a.eval (.const (.slice none 0 0))=.slice none 0 0:=rfl;simp [execOp,h1,h0,eqGuard,Lib.run_eql_slice_nil w T e base us.length (us.length+cap) 0 0 hT]
 unfold Oper.wp;rw [hrun];refine hK' _ _ (h base.isNone (fun hb=>?_) R hR _ _ (uA (σ:=⟨fr,L,N⟩) hf hN hd ht hH Carry.refl (SVr.bool.2 rfl)));rcases h2 with h2 | ⟨b,off,rfl,_⟩
 ·exact h2
 ·cases hb
theorem hKj{w:World}{S:Nat→Prop}{L:List LO}{env:List Value}{e z ver:Nat}{fs:List U}{hv:Value}(h:gGd S L env w (.own e z ver fs) hv):∀S' L' env',gGd S' L' env' w (.mix e z ver fs []) hv:=by
 intro S' L' env';obtain⟨h1,h2,⟨xs,h3,h4⟩,h5⟩:=h;have hl:fs.length*z=xs.length:=h3.1.symm;exact⟨by simpa using h1,by simpa using h2,⟨xs,by simpa using h3,by rw [hl,List.take_length];exact h4,by rw [hl,List.drop_length];simp [Rds]⟩,h5⟩
theorem hOs{c:Code}{fr:List (Nat × SV)}{L L':List LO}{N e z ver:Nat}{fs:List U}(i:Nat)(h:V P A c ⟨fr,L',N⟩ Q)(hL:L[i]? =some (.own e z ver fs):=by rfl)(hL':St1 (.mix e z ver fs []) i L L':=by repeat constructor):V P A c ⟨fr,L,N⟩ Q:=by
 have:=hL'.spec
 subst this;intro a w ⟨S,env,hH,hf,hN,hd⟩;refine h a w ?_;have hi:=(List.getElem?_eq_some_iff.1 hL).1;obtain⟨hv,hhv⟩:∃hv,env[i]? =some hv:=⟨_,List.getElem?_eq_getElem (by rw [hH.len];exact hi)⟩
 have hob:=hH.objs i _ hv hL hhv;obtain⟨hH',C⟩:mQ A S (L.set i (.mix e z ver fs [])) env w∧Carry S L env w S (L.set i (.mix e z ver fs [])) env w:=by
  refine hH.eat [] i _ hv (by rw [List.length_set];exact hH.len) (fun j hj=>?_) (List.getElem?_set_self hi) (fun _ _=>rfl) hhv (fun _ _ _=>rfl) (fun o hv1 h1 h2=>?_) (Nat.le_refl _) rfl rfl rfl (fun k hk=>?_) (fun C=>hKj hob _ _ _)
  ·rw [List.getElem?_set_ne (fun e=>hj e.symm)];simp
  ·rw [hL] at h1;rw [hhv] at h2;cases h1;cases h2;exact⟨Nat.le_refl _,fun _=>rfl,fun _ _=>rfl⟩
  ·exact⟨(hH.excl i _ hv k hL rfl hhv hk).2.2,.inr ⟨i,_,hv,.inl rfl,hL,rfl,hhv,hk⟩⟩
 exact⟨S,env,hH',fun t=>SVr.carry C _ _ (hf t),hN,hd⟩
end
section
variable {P:Program}{A:Amb}{ops:Array Oper}{K:St→Prop}{r:List (Nat × Bool)}{pf:PF}{fr:List (Nat × SV)}{L L1 L':List LO}{N i t m:Nat}
variable {ty:TypeId}{pos:String}{af:Array Edge}{x y:Operand}{T:TypeId}
theorem hQm {α:Type}{en:α→U}{es:List α→List U}{z:Nat}[E:Enc α en es z]{e bs ver e':Nat}{gg:Bool}{l:List α}(k:Nat)(hk:k < l.length) [TE P T e] [TI P e gg z bs] (h:VY P A ops K r pf ⟨(t,.ep m ver z k 0)::fr,L,N⟩)
  (hi:ops[i]? =some ⟨some t,.indexAddr T x y,ty,pos,af,none⟩:=by rfl) (hx:(St.mk fr L N).ev x=.sl m ver:=by rfl) (hL:L[m]? =some (.own e' z ver (es l)):=by rfl) (hy:(St.mk fr L N).ev y=.d (.i .i64 (k:Int)):=by rfl) (ht:Nat.blt t N=true:=by rfl)
  (hp:uY ops i L pf:=by(repeat(first | exact uY.nil | (apply uY.keep;focus ((repeat constructor);done)) | (apply uY.dep;focus kernel_rfl)))):VY P A ops K ((i,false)::r) pf ⟨fr,L,N⟩:=
 gJm hi (fun fr' he' K' hK=>zZ (hOl (j:=m) k hk (by rw [he' x (by simp [Op.operands])];exact hx) hL (by rw [he' y (by simp [Op.operands])];exact hy)) (gFw hK) ht) hp h
theorem hWn {α:Type}{en:α→U}{es:List α→List U}{z:Nat}[E:Enc α en es z]{e bs ver k:Nat}{gg:Bool}{l:List α}(a:α){js:List Nat}(hk:k < l.length) [TI P T gg z bs] (h:VY P A ops K r pf ⟨fr,L',N⟩)
  (hi:ops[i]? =some ⟨none,.store T x y,ty,pos,af,none⟩:=by rfl) (hx:(St.mk fr L N).ev x=.ep m ver z k 0:=by rfl) (hL:L[m]? =some (.own e z ver (es l)):=by rfl)
  (hy:OV L ((St.mk fr L N).ev y) (en a) js:=by((repeat constructor);first | done | fail)) (hjs:(decide js.Nodup && !js.contains m)=true:=by decide) (hk1:KR js L L1:=by repeat constructor) (hL':St1 (.own e z ver (es (l.set k a))) m L1 L':=by repeat constructor)
  (hp:uY ops i L' pf:=by(repeat(first | exact uY.nil | (apply uY.keep;focus ((repeat constructor);done)) | (apply uY.dep;focus kernel_rfl)))):VY P A ops K ((i,false)::r) pf ⟨fr,L,N⟩:=by
 rw [Enc.set (es:=es)] at hL';exact gJm (sv:=.junk) hi (fun fr' he' K' hK=>hC6 (by rw [he' x (by simp [Op.operands])];exact hx) hL (by rw [he' y (by simp [Op.operands])];exact hy) hjs TI.h (Enc.hz a) (by rw [Enc.len];exact hk) hk1 hL' (gFw hK)) hp h
theorem mM {op:Op}{sv:SV}(hv:VY P A ops K r pf ⟨(t,sv)::fr,L,N⟩)(hi:ops[i]? =some ⟨some t,op,ty,pos,af,none⟩:=by rfl)(h:QF P ops ⟨some t,op,ty,pos,af,none⟩ ⟨fr,L,N⟩ t sv:=by(repeat(first | exact Rng.mk (by omega) (by omega) | constructor));first | done | fail)
  (hp:uY ops i L pf:=by(repeat(first | exact uY.nil | (apply uY.keep;focus ((repeat constructor);done)) | (apply uY.dep;focus kernel_rfl)))):VY P A ops K ((i,false)::r) pf ⟨fr,L,N⟩:=by
 refine gJm hi (fun fr' he' K' hK=>?_) hp hv;obtain⟨h1,_,h3 | h3⟩:=h.pst (A:=A)
 ·exact hUt (h3.2 fr' L he' (gSq.refl _)) (h1 t rfl) (gFw hK)
 ·exact absurd h3.1 (by simp [Gd])
end
end Go.Eng
