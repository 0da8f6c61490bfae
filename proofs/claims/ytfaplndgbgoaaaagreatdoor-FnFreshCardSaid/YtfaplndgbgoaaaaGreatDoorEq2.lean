import Derived.Test.YtfaplndgbgoaaaaGreatDoorEng38
import Derived.Test.YtfaplndgbgoaaaaGreatDoorEng67
import Derived.Test.YtfaplndgbgoaaaaGreatDoorZk
import Derived.Test.YtfaplndgbgoaaaaGreatDoorB16
set_option maxHeartbeats 4000000
set_option linter.unusedVariables false
set_option linter.unusedSimpArgs false
set_option linter.unusedSectionVars false
namespace Go.Proofs.YtfaplndgbgoaaaaGreatDoor
open Go Go.Eng
attribute [local irreducible] V VO VQ VY Quiet QR jB kX Rng uJ uY qW
mutual
def pj:gD→Nat
 | ⟨k,n,ts⟩=>(cnd ((k==3) && gFm isInf ts) 1 0)+pjs ts
def pjs:List gD→Nat
 | []=>0
 | a::ts=>pj a+pjs ts
end
mutual
theorem hEn:∀(t:gD),pj t≤tnd t
 | ⟨k,n,ts⟩=>by
   simp only [pj,tnd]
   have:=hCu ts
   cases (k==3) && gFm isInf ts<;>simp only [jH,gP]<;>omega
theorem hCu:∀(ts:List gD),pjs ts≤gA8 ts
 | []=>by simp [pjs,gA8]
 | a::ts=>by simp only [pjs,gA8];have:=hEn a;have:=hCu ts;omega
end
mutual
theorem hEo:∀(t:gD),gLj t=false→pj t=0
 | ⟨k,n,ts⟩,h=>by
   have h':(((k==1) && isInf n) || gFm isInf ts)=false:=h
   simp only [Bool.or_eq_false_iff] at h'
   simp only [pj,h'.2,Bool.and_false,gP,hCv ts h'.2]
theorem hCv:∀(ts:List gD),gFm isInf ts=false→pjs ts=0
 | [],_=>rfl
 | a::ts,h=>by
   simp only [gFm,Bool.or_eq_false_iff] at h
   simp only [pjs,hEo a h.1,hCv ts h.2]
end
theorem gYa{t:gD}(h3:t.kind=3)(h:gLj t=true):1≤pj t:=by
 obtain⟨k,n,ts⟩:=t
 simp only at h3
 subst h3
 have h':((((3:Int)==1) && isInf n) || gFm isInf ts)=true:=h
 have h2:gFm isInf ts=true:=by simpa using h'
 simp only [pj,h2]
 have:(((3:Int)==3) && true)=true:=by decide
 rw [this,jH]
 omega
structure Inv (V:List (List UInt8)) (s:gG):Prop where
 tri:Tri s.bindings
 inf:hR4 s.bindings
 dt:∀b∈s.bindings,DT V b.type_∧tnd b.type_≤2000∧b.var_∈V
 obl:s.obligations=[]∧s.next=4
 eqs:∀q∈s.equations,tok q.a∧tok q.b
theorem pig{α:Type} [BEq α] [LawfulBEq α]:∀(l V:List α),l.Pairwise (fun a b=>a≠b)→(∀x∈l,x∈V)→l.length≤V.length
 | [],_,_,_=>Nat.zero_le _
 | x::l,V,h,hV=>by
   obtain⟨h1,h2⟩:=List.pairwise_cons.1 h
   have hx:x∈V:=hV x (by simp)
   have:=pig l (V.erase x) h2 (fun y hy=>(List.mem_erase_of_ne (Ne.symm (h1 y hy))).2 (hV y (by simp [hy])))
   rw [List.length_erase_of_mem hx] at this
   have hp:=List.length_pos_of_mem hx
   simp only [List.length_cons]
   omega
theorem hHb{l:List gI}(h:Tri l):(dom l).Pairwise (fun a b=>a≠b):=by
 rw [List.pairwise_iff_getElem]
 intro i j hi hj hij hne
 unfold dom at hi hj hne
 simp only [List.length_map] at hi hj
 simp only [List.getElem_map] at hne
 refine(h j l[j] (List.getElem?_eq_getElem hj)).1 ?_
 unfold dom
 rw [←hne]
 refine List.mem_map.2 ⟨l[i],?_,rfl⟩
 have:(l.take j)[i]? =some l[i]:=by rw [List.getElem?_take,if_pos hij,List.getElem?_eq_getElem]
 exact List.mem_of_getElem? this
theorem Inv.len{V:List (List UInt8)}{s:gG}(h:Inv V s):s.bindings.length≤V.length:=by
 have:=pig (dom s.bindings) V (hHb h.tri) (fun v hv=>by
  obtain⟨b,h3,rfl⟩:=List.mem_map.1 hv
  exact(h.dt b h3).2.2)
 simpa [dom] using this
theorem Inv.bok{V:List (List UInt8)}{s:gG}(h:Inv V s):bok s.bindings:=fun b hb=>(h.dt b hb).1.1.1
theorem Inv.hC5{V:List (List UInt8)}{s:gG}(h:Inv V s):hC5 2000 s.bindings:=⟨by omega,fun b hb=>(h.dt b hb).2.1⟩
theorem Inv.fail{V:List (List UInt8)}{s:gG}(h:Inv V s)(c:Int):Inv V (yS s c):=by
 unfold yS
 cases s.code==0 with
 | true=>exact⟨h.tri,h.inf,h.dt,h.obl,h.eqs⟩
 | false=>exact h
theorem gHg(s:gG)(c:Int):(yS s c).bindings=s.bindings∧(yS s c).equations=s.equations:=by
 unfold yS
 cases s.code==0<;>exact⟨rfl,rfl⟩
theorem hA7{l:List gI}(h:Tri l){v:List UInt8}{t:gD}(hv:v∉dom l)(ht:∀u∈tvs t,u∉dom l)(ho:v∉tvs t):Tri (l++[⟨v,t⟩]):=by
 intro i b hb
 rcases Nat.lt_or_ge i l.length with hi | hi
 ·rw [List.getElem?_append_left hi] at hb
  rw [List.take_append_of_le_length (by omega),List.take_append_of_le_length (by omega)]
  exact h i b hb
 ·rw [List.getElem?_append_right hi] at hb
  have h0:i - l.length=0:=by
   rcases Nat.eq_zero_or_pos (i - l.length)with h0 | h0
   ·exact h0
   ·rw [List.getElem?_eq_none (by simp;omega)] at hb;cases hb
  rw [h0] at hb
  simp only [List.getElem?_cons_zero,Option.some.injEq] at hb
  subst hb
  obtain rfl:i=l.length:=by omega
  rw [List.take_append_of_le_length (Nat.le_refl _),List.take_of_length_le (by omega),List.take_of_length_le (by simp)]
  refine⟨hv,fun u hu hd=>?_⟩
  simp only [dom,List.map_append,List.mem_append,List.map_cons,List.map_nil,List.mem_singleton] at hd
  rcases hd with hd | hd
  ·exact ht u hu hd
  ·subst hd;exact ho hu
def KQ:Nat:=4002000
theorem hA8:KQ=4002000:=rfl
attribute [local irreducible] KQ
structure Grow (d:Nat) (s s':gG) (p:Nat):Prop where
 ext:∃l,s'.bindings=s.bindings++l
 le:s'.equations.length≤s.equations.length+2000+KQ*d*(s'.bindings.length - s.bindings.length)
 ze:s'.bindings.length=s.bindings.length→s'.equations.length≤s.equations.length+p
theorem Grow.same{d p:Nat}{s s':gG}(h1:s'.bindings=s.bindings)(h2:s'.equations=s.equations):Grow d s s' p:=⟨⟨[],by rw [h1,List.append_nil]⟩,by rw [h2];omega,fun _=>by rw [h2];omega⟩
theorem Grow.up{d d' p p':Nat}{s s':gG}(h:Grow d s s' p)(hd:d≤d')(hp:p≤p'):Grow d' s s' p':=⟨h.ext,by
 have:=h.le
 have h2:KQ*d*(s'.bindings.length - s.bindings.length)≤KQ*d'*(s'.bindings.length - s.bindings.length):=Nat.mul_le_mul_right _ (Nat.mul_le_mul_left _ hd)
 omega,fun hz=>by have:=h.ze hz;omega⟩
theorem bind_ok{V:List (List UInt8)}{s:gG}(h:Inv V s)(hV:V.length≤5){v:List UInt8}{t:gD}(hv:v∉dom s.bindings)(hvV:v∈V)(hi:isInf v=true)(ht:∀u∈tvs t,u∉dom s.bindings)(hD:DT V t)(hsz:tnd t≤2000){d p:Nat}:∃s',gGj s v t=some s'∧Inv V s'∧Grow d s s' p:=by
 have hl:=h.len
 unfold gGj
 rw [kG (hId (by omega))]
 by_cases ho:v∈tvs t
 ·rw [decide_eq_true ho,jH]
  exact⟨_,rfl,h.fail 2,.same (gHg s 2).1 (gHg s 2).2⟩
 ·rw [decide_eq_false ho,gP,pF (by simp;omega),pF (by simp;omega)]
  refine⟨_,rfl,⟨hA7 h.tri hv ht ho,fun b hb=>?_,fun b hb=>?_,h.obl,h.eqs⟩,⟨⟨[⟨v,t⟩],rfl⟩,by simp;omega,fun hz=>by simp at hz⟩⟩
  ·rcases List.mem_append.1 hb with hb | hb
   ·exact h.inf b hb
   ·simp only [List.mem_singleton] at hb;subst hb;exact hi
  ·rcases List.mem_append.1 hb with hb | hb
   ·exact h.dt b hb
   ·simp only [List.mem_singleton] at hb;subst hb;exact⟨hD,hsz,hvV⟩
def Down(V:List (List UInt8))(d:Nat)(f:gG→gD→gD→Option gG):Prop:=∀(s:gG) (a b:gD),Inv V s→DT V a→DT V b→tnd a≤8000000→tnd b≤8000000→s.equations.length+KQ*d*(6 - s.bindings.length)≤4294967295→
 ∃s',f s a b=some s'∧Inv V s'∧Grow d s s' (pj (zkF s a)+pj (zkF s b))
set_option maxRecDepth 100000 in
theorem hCw {V:List (List UInt8)} (hV:V.length≤5) {w:gH} {wh:List jD} {d:Nat} (hd:d≤40) {rec:gH→List jD→gG→gD→gD→Int→Option gG} (hrec:Down V d (fun s a b=>rec w wh s a b (IntKind.i64.wrap ((d:Int) - 1)))) (s0:gG) (y:gD)
  (h0:s0.equations.length+KQ*(d+1)*(6 - s0.bindings.length)≤4294967295):∀(xs ys:List gD) (j:Nat) (s1:gG) (p:Nat),y.args.drop j=ys→ys.length=xs.length→Inv V s1→(∃l,s1.bindings=s0.bindings++l)→
  s1.equations.length≤s0.equations.length+2000*j+KQ*d*(s1.bindings.length - s0.bindings.length)→(s1.bindings.length=s0.bindings.length→s1.equations.length≤s0.equations.length+p)→
  (∀x∈xs,DT V x∧tnd x≤2000∧zbd s0.bindings x=false)→(∀x∈ys,DT V x∧tnd x≤2000∧zbd s0.bindings x=false)→j+xs.length≤2000→
  ∃s',wY rec w wh (d:Int) y xs j s1.next s1.count s1.node s1.bindings s1.equations s1.obligations s1.code s1.at_=some s'∧Inv V s'∧(∃l,s'.bindings=s0.bindings++l)∧
   s'.equations.length≤s0.equations.length+2000*(j+xs.length)+KQ*d*(s'.bindings.length - s0.bindings.length)∧(s'.bindings.length=s0.bindings.length→s'.equations.length≤s0.equations.length+(p+pjs xs+pjs ys))
 | [],ys,j,s1,p,_,hl,hi,he,h1,h2,_,_,_=>by
   obtain rfl:=List.eq_nil_of_length_eq_zero hl
   exact⟨s1,rfl,hi,he,by simpa using h1,fun hz=>by have:=h2 hz;simp only [pjs];omega⟩
 | x::xs,[],j,s1,p,_,hl,_,_,_,_,_,_,_=>by simp at hl
 | x::xs,y1::ys,j,s1,p,hdr,hl,hi,⟨l,he⟩,h1,h2,hx,hy,hj=>by
   simp only [List.length_cons] at hl hj
   have hyj:y.args[j]? =some y1:=by
    have:(y.args.drop j)[0]? =some y1:=by rw [hdr];rfl
    rw [List.getElem?_drop] at this
    simpa using this
   have hdr2:y.args.drop (j+1)=ys:=by
    rw [←List.drop_drop,hdr]
    rfl
   obtain⟨x1,x2,x3⟩:=hx x (by simp)
   obtain⟨y2,y3,y4⟩:=hy y1 (by simp)
   have l0:s0.bindings.length≤s1.bindings.length:=by rw [he];simp
   have l1:=hi.len
   have ha:KQ*d*(6 - s0.bindings.length)=KQ*d*(s1.bindings.length - s0.bindings.length)+KQ*d*(6 - s1.bindings.length):=by rw [←Nat.mul_add];congr 1;omega
   have hb:KQ*(d+1)*(6 - s0.bindings.length)=KQ*d*(6 - s0.bindings.length)+KQ*(6 - s0.bindings.length):=by rw [Nat.mul_add,Nat.add_mul,Nat.mul_one]
   have hk6:KQ*1≤KQ*(6 - s0.bindings.length):=Nat.mul_le_mul_left KQ (by omega)
   have hk7:=hA8
   obtain⟨s2,e1,e2,e3⟩:=hrec s1 x y1 hi x1 y2 (by omega) (by omega) (by omega)
   obtain⟨m,e4⟩:=e3.ext
   have l2:s1.bindings.length≤s2.bindings.length:=by rw [e4];simp
   have hc:KQ*d*(s2.bindings.length - s0.bindings.length)=KQ*d*(s1.bindings.length - s0.bindings.length)+KQ*d*(s2.bindings.length - s1.bindings.length):=by rw [←Nat.mul_add];congr 1;omega
   have e5:=e3.le
   rw [wY,gD7,hyj]
   simp only [bnd]
   have e1:rec w wh ⟨s1.next,s1.count,s1.node,s1.bindings,s1.equations,s1.obligations,s1.code,s1.at_⟩ x y1 (IntKind.i64.wrap ((d:Int) - 1))=some s2:=e1
   rw [e1]
   have hl2:ys.length=xs.length:=by omega
   have hle:s2.equations.length≤s0.equations.length+2000*(j+1)+KQ*d*(s2.bindings.length - s0.bindings.length):=by omega
   have hj2:j+1+xs.length≤2000:=by omega
   obtain⟨s',q1,q2,q3,q4,q5⟩:=hCw hV hd hrec s0 y h0 xs ys (j+1) s2 (p+pj x+pj y1) hdr2 hl2 e2 ⟨l++m,by rw [e4,he,List.append_assoc]⟩ hle (fun hz=>by
    have hz1:s1.bindings.length=s0.bindings.length:=by omega
    have hb1:s1.bindings=s0.bindings:=by
     rw [he,List.length_append] at hz1
     rw [he,List.eq_nil_of_length_eq_zero (l:=l) (by omega),List.append_nil]
    have h3:=e3.ze (by omega)
    have h4:=h2 hz1
    unfold zkF at h3
    rw [hb1,gK3 60 (.inl x3),gK3 60 (.inl y4)] at h3
    omega) (fun z hz=>hx z (by simp [hz])) (fun z hz=>hy z (by simp [hz])) hj2
   refine⟨s',q1,q2,q3,?_,fun hz=>?_⟩
   ·simp only [List.length_cons]
    omega
   ·have:=q5 hz
    simp only [pjs]
    omega
theorem hCx{V V':List (List UInt8)}{t:gD}(h:DT V t)(hv:∀v∈tvs t,v∈V'):DT V' t:=⟨⟨h.1.1,h.1.2.1,hv⟩,h.2⟩
theorem gOi{w:gH}{k:Int}(hw:gUt w k){wh:List jD}(hwh:gNl wh)(hwl:wh.length≤1000){V:List (List UInt8)}{x:gD}(hx:DT V x)(hsz:tnd x≤2000):∃r,gBs w wh x=some r∧(r.2.1=true→DT V r.1∧tnd r.1≤400∧gLj r.1=false):=by
 unfold gBs
 simp only [lt_]
 cases hc:cnd (x.kind != 3) true (gLj x)with
 | true=>exact⟨_,rfl,fun h=>by cases h⟩
 | false=>
   have hh:gLj x=false:=by
    cases h3:(x.kind != 3)with
    | true=>rw [h3] at hc;cases hc
    | false=>rw [h3] at hc;exact hc
   obtain⟨r,r1,r2⟩:=gY8 hw hwh hwl (tvs x) 12 2000 100000 x hsz (by omega) (by omega) (hCx hx (fun v h=>h)) (by omega)
   have r1:wH 100000 w wh x 12=some r:=r1
   unfold gFn
   rw [gP,kG r1]
   simp only [bnd]
   cases hr:(r.2 != 0)with
   | true=>exact⟨_,rfl,fun h=>by cases h⟩
   | false=>
     obtain⟨q1,q2⟩:=r2 (by simpa using hr)
     refine⟨_,rfl,fun _=>⟨hCx q1 (fun v hv=>hx.1.2.2 v (q1.1.2.2 v hv)),q2,?_⟩⟩
     show gR4 isInf r.1=false
     cases hz:gR4 isInf r.1 with
     | false=>rfl
     | true=>
       obtain⟨v,h1,h2⟩:=(gEj r.1).1 hz
       have:gLj x=true:=(gEj x).2 ⟨v,q1.1.2.2 v h1,h2⟩
       rw [hh] at this
       cases this
theorem gYb{l:List gI}{t:gD}(h:gLj t=false):zbd l t=false:=by
 cases hz:zbd l t with
 | false=>rfl
 | true=>
   obtain⟨v,h1,h2⟩:=(gEj t).1 hz
   unfold zp at h2
   simp only [Bool.and_eq_true] at h2
   have:gLj t=true:=(gEj t).2 ⟨v,h1,h2.1⟩
   rw [h] at this
   cases this
end Go.Proofs.YtfaplndgbgoaaaaGreatDoor
set_option maxHeartbeats 4000000
set_option linter.unusedVariables false
set_option linter.unusedSimpArgs false
set_option linter.unusedSectionVars false
namespace Go.Proofs.YtfaplndgbgoaaaaGreatDoor
open Go Go.Eng
attribute [local irreducible] V VO VQ VY Quiet QR jB kX Rng uJ uY qW
attribute [local irreducible] KQ
theorem gYc{V:List (List UInt8)}{t:gD}(h:(t.kind==1 && isInf t.name)=true)(hD:DT V t):t.name∈tvs t∧t.name∈V∧isInf t.name=true:=by
 obtain⟨k,n,ts⟩:=t
 simp only [Bool.and_eq_true,beq_iff_eq] at h
 have h1:n∈tvs ⟨k,n,ts⟩:=by simp [tvs,h.1]
 exact⟨h1,hD.1.2.2 n h1,h.2⟩
theorem hRg(l:List gI)(t:gD):low l 0 t:=fun v _ hd=>by simp [dom] at hd
theorem gPq(t:gD):pjs t.args≤pj t:=by obtain⟨k,n,ts⟩:=t;simp only [pj];omega
theorem gT5{l:List gI}{t:gD}(h:zbd l t=false):∀u∈t.args,zbd l u=false:=by
 intro u hu
 cases hz:zbd l u with
 | false=>rfl
 | true=>
   obtain⟨v,h1,h2⟩:=(gEj u).1 hz
   have:zbd l t=true:=(gEj t).2 ⟨v,by obtain⟨k,n,ts⟩:=t;simp only [tvs,List.mem_append];exact .inr (gJz.2 ⟨u,hu,h1⟩),h2⟩
   rw [h] at this
   cases this
theorem gT6{t:gD}{u:gD}(h:u∈t.args):tnd u≤tnd t:=by
 obtain⟨k,n,ts⟩:=t
 have:tnd u≤gA8 ts:=gCo h
 simp only [tnd]
 omega
set_option maxRecDepth 100000 in
theorem gYd{w:gH}{k:Int}(hw:gUt w k){wh:List jD}(hwh:gNl wh)(hwl:wh.length≤1000){V:List (List UInt8)}(hV:V.length≤5):∀(d n:Nat),d < n→d≤40→Down V (d+1) (fun s a b=>wZ n w wh s a b (d:Int)):=by
 intro d
 induction d with
 | zero=>
   intro n hn _ s a b hi ha hb hta htb heq
   obtain⟨n,rfl⟩:∃m,n=m+1:=⟨n - 1,by omega⟩
   simp only [wZ]
   unfold gEu
   cases s.code != 0 with
   | true=>exact⟨_,rfl,hi,.same rfl rfl⟩
   | false=>
     rw [gP,pF ⟨hi.bok,ha.1.1⟩]
     simp only [lt_]
     rw [pF ⟨hi.bok,hb.1.1⟩]
     cases teq (zkF s a) (zkF s b)with
     | true=>exact⟨_,rfl,hi,.same rfl rfl⟩
     | false=>
       simp only [gP]
       rw [show decide (((0:Nat):Int)≤0)=true from by decide]
       simp only [jH]
       exact⟨_,rfl,hi.fail 6,.same (gHg s 6).1 (gHg s 6).2⟩
 | succ d ih=>
   intro n hn hd s a b hi ha hb hta htb heq
   obtain⟨n,rfl⟩:∃m,n=m+1:=⟨n - 1,by omega⟩
   have hl:=hi.len
   have hdown:Down V (d+1) (fun s a b=>wZ n w wh s a b (IntKind.i64.wrap (((d+1:Nat):Int) - 1))):=by
    rw [show IntKind.i64.wrap (((d+1:Nat):Int) - 1)=(d:Int)from by rw [wP _ (by omega) (by omega)];omega]
    exact ih n (by omega) (by omega)
   have hx:=hFq (fun c hc=>(hi.dt c hc).1) 60 a ha
   have hy:=hFq (fun c hc=>(hi.dt c hc).1) 60 b hb
   have tx:=gZc hi.hC5 60 a hta
   have ty:=gZc hi.hC5 60 b htb
   have dx:=gS8 hi.tri 60 0 a (hRg _ _) (by omega)
   have dy:=gS8 hi.tri 60 0 b (hRg _ _) (by omega)
   simp only [wZ]
   unfold gEu
   unfold zkF
   generalize zk s.bindings 60 a=x at *
   generalize zk s.bindings 60 b=y at *
   cases s.code != 0 with
   | true=>exact⟨_,rfl,hi,.same rfl rfl⟩
   | false=>
     rw [gP,pF ⟨hi.bok,ha.1.1⟩]
     simp only [lt_]
     rw [pF ⟨hi.bok,hb.1.1⟩]
     cases teq x y with
     | true=>exact⟨_,rfl,hi,.same rfl rfl⟩
     | false=>
       simp only [gP]
       rw [show decide (((d+1:Nat):Int)≤0)=false from decide_eq_false (by omega),gP,gDx x (by omega),gDx y (by omega),wP _ (by omega) (by omega)]
       cases hsz:decide (((tnd x:Int)+(tnd y:Int)) > 2000)with
       | true=>exact⟨_,rfl,hi.fail 6,.same (gHg s 6).1 (gHg s 6).2⟩
       | false=>
         have hsz:=of_decide_eq_false hsz
         have zx:zbd s.bindings x=false:=by
          rcases dx with h | h
          ·exact h
          ·rw [gDx x (by omega)] at h;omega
         have zy:zbd s.bindings y=false:=by
          rcases dy with h | h
          ·exact h
          ·rw [gDx y (by omega)] at h;omega
         have ox:=gZa hi.inf zx
         have oy:=gZa hi.inf zy
         rw [gP,gIq x]
         simp only [bnd]
         cases mx:(x.kind==1 && isInf x.name)with
         | true=>
           obtain⟨m1,m2,m3⟩:=gYc mx hx
           obtain⟨s',q1,q2,q3⟩:=bind_ok (d:=d+1+1) (p:=pj x+pj y) hi hV (ox _ m1) m2 m3 oy hy (by omega)
           rw [jH,q1]
           exact⟨s',rfl,q2,q3⟩
         | false=>
           rw [gP,gIq y]
           simp only
           cases my:(y.kind==1 && isInf y.name)with
           | true=>
             obtain⟨m1,m2,m3⟩:=gYc my hy
             obtain⟨s',q1,q2,q3⟩:=bind_ok (d:=d+1+1) (p:=pj x+pj y) hi hV (oy _ m1) m2 m3 ox hx (by omega)
             rw [jH,q1]
             exact⟨s',rfl,q2,q3⟩
           | false=>
             have heq2:s.equations.length+KQ*(d+1)*(6 - s.bindings.length)≤4294967295:=by
              have:KQ*(d+1)*(6 - s.bindings.length)≤KQ*(d+1+1)*(6 - s.bindings.length):=Nat.mul_le_mul_right _ (Nat.mul_le_mul_left _ (by omega))
              omega
             obtain⟨r,r1,r2⟩:=gOi hw hwh hwl hx (by omega)
             rw [gP,r1]
             simp only
             cases (!r.2.2)with
             | true=>exact⟨_,rfl,hi.fail 7,.same (gHg s 7).1 (gHg s 7).2⟩
             | false=>
               rw [gP]
               cases hr:r.2.1 with
               | true=>
                 obtain⟨u1,u2,u3⟩:=r2 hr
                 obtain⟨s',q1,q2,q3⟩:=hdown s r.1 y hi u1 hy (by omega) (by omega) heq2
                 unfold zkF at q3
                 rw [gK3 60 (.inl (gYb u3)),gK3 60 (.inl zy),hEo _ u3] at q3
                 have q1:wZ n w wh s r.1 y (IntKind.i64.wrap (((d+1:Nat):Int) - 1))=some s':=q1
                 rw [jH,q1]
                 exact⟨s',rfl,q2,q3.up (by omega) (by omega)⟩
               | false=>
                 rw [gP]
                 obtain⟨p,p1,p2⟩:=gOi hw hwh hwl hy (by omega)
                 rw [p1]
                 simp only
                 cases (!p.2.2)with
                 | true=>exact⟨_,rfl,hi.fail 7,.same (gHg s 7).1 (gHg s 7).2⟩
                 | false=>
                   rw [gP]
                   cases hp:p.2.1 with
                   | true=>
                     obtain⟨u1,u2,u3⟩:=p2 hp
                     obtain⟨s',q1,q2,q3⟩:=hdown s x p.1 hi hx u1 (by omega) (by omega) heq2
                     unfold zkF at q3
                     rw [gK3 60 (.inl (gYb u3)),gK3 60 (.inl zx),hEo _ u3] at q3
                     have q1:wZ n w wh s x p.1 (IntKind.i64.wrap (((d+1:Nat):Int) - 1))=some s':=q1
                     rw [jH,q1]
                     exact⟨s',rfl,q2,q3.up (by omega) (by omega)⟩
                   | false=>
                     rw [gP]
                     have hpx:=hEn x
                     have hpy:=hEn y
                     cases hdef:cnd (x.kind==3) (cnd (gLj x) true (cnd (y.kind==3) (gLj y) false)) (cnd (y.kind==3) (gLj y) false)with
                     | true=>
                       have hone:1≤pj x+pj y:=by
                        have hyc:cnd (y.kind==3) (gLj y) false=true→1≤pj y:=fun h=>by
                         cases h3:(y.kind==3)with
                         | false=>rw [h3] at h;cases h
                         | true=>rw [h3] at h;exact gYa (by simpa using h3) h
                        cases h3:(x.kind==3)with
                        | false=>rw [h3,gP] at hdef;have:=hyc hdef;omega
                        | true=>
                          rw [h3,jH] at hdef
                          cases h4:gLj x with
                          | true=>have:=gYa (by simpa using h3) h4;omega
                          | false=>rw [h4,gP] at hdef;have:=hyc hdef;omega
                       rw [jH]
                       have hk1:KQ*(d+1+1)*1≤KQ*(d+1+1)*(6 - s.bindings.length):=Nat.mul_le_mul_left _ (by omega)
                       have hk2:KQ*1≤KQ*(d+1+1):=Nat.mul_le_mul_left _ (by omega)
                       have hk3:=hA8
                       rw [pF (by simp only [List.length_nil];omega),pF (by simp only [List.nil_append,List.length_cons,List.length_nil];omega)]
                       refine⟨_,rfl,⟨hi.tri,hi.inf,hi.dt,hi.obl,fun q hq=>?_⟩,⟨⟨[],by simp⟩,by simp only [List.nil_append,List.length_append,List.length_cons,List.length_nil];omega,fun _=>by simp only [List.nil_append,List.length_append,List.length_cons,List.length_nil];omega⟩⟩
                       simp only [List.nil_append,List.mem_append,List.mem_singleton] at hq
                       rcases hq with hq | rfl
                       ·exact hi.eqs q hq
                       ·exact⟨hx.1.1,hy.1.1⟩
                     | false=>
                       rw [gP]
                       cases hmm:cnd (x.kind != y.kind) true (cnd (!(x.name==y.name)) true (cnd ((x.args.length:Int) !=(y.args.length:Int)) true (x.kind==3)))with
                       | true=>exact⟨_,rfl,hi.fail 1,.same (gHg s 1).1 (gHg s 1).2⟩
                       | false=>
                         have hlen:y.args.length=x.args.length:=by
                          cases h1:(x.kind != y.kind)with
                          | true=>rw [h1] at hmm;cases hmm
                          | false=>
                            rw [h1,gP] at hmm
                            cases h2:(!(x.name==y.name))with
                            | true=>rw [h2] at hmm;cases hmm
                            | false=>
                              rw [h2,gP] at hmm
                              cases h3:((x.args.length:Int) !=(y.args.length:Int))with
                              | true=>rw [h3] at hmm;cases hmm
                              | false=>
                                have:(x.args.length:Int)=(y.args.length:Int):=by simpa using h3
                                omega
                         rw [gP]
                         have hxa:=gKb x.args
                         have hxt:gA8 x.args+1=tnd x:=by obtain⟨e1,e2,e3⟩:=x;simp only [tnd];omega
                         have hj:0+x.args.length≤2000:=by omega
                         obtain⟨s',q1,q2,q3,q4,q5⟩:=hCw hV hd hdown s y heq x.args y.args 0 s 0 rfl hlen hi ⟨[],by simp⟩ (by omega) (fun _=>by omega)
                          (fun u hu=>⟨gK2 hx u hu,by have:=gT6 hu;omega,gT5 zx u hu⟩) (fun u hu=>⟨gK2 hy u hu,by have:=gT6 hu;omega,gT5 zy u hu⟩) hj
                         rw [q1]
                         refine⟨s',rfl,q2,⟨q3,?_,fun hz=>?_⟩⟩
                         ·have hpa:=gPq x
                          have hpb:=gPq y
                          have hk3:=hA8
                          have e1:KQ*(d+1+1)*(s'.bindings.length - s.bindings.length)=KQ*(d+1)*(s'.bindings.length - s.bindings.length)+KQ*(s'.bindings.length - s.bindings.length):=by rw [Nat.mul_add KQ (d+1) 1,Nat.add_mul,Nat.mul_one]
                          rcases Nat.eq_zero_or_pos (s'.bindings.length - s.bindings.length)with h0 | h0
                          ·obtain⟨l3,q3⟩:=q3
                           have h3:s.bindings.length≤s'.bindings.length:=by rw [q3];simp
                           have:=q5 (by omega)
                           omega
                          ·have e2:KQ*1≤KQ*(s'.bindings.length - s.bindings.length):=Nat.mul_le_mul_left _ h0
                           omega
                         ·have hpa:=gPq x
                          have hpb:=gPq y
                          have:=q5 hz
                          omega
end Go.Proofs.YtfaplndgbgoaaaaGreatDoor
