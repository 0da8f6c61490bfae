import Derived.Test.YtegahmhnmjnhhaaGreatIu
set_option maxHeartbeats 4000000
set_option linter.unusedVariables false
set_option linter.unusedSimpArgs false
set_option linter.unusedSectionVars false
namespace Go.Proofs.YtegahmhnmjnhhaaGreat
open Go Go.Eng
attribute [local irreducible] V VO VQ VY Quiet QR jC kT Rng mU mV mI
theorem gKm{p:gG→Option Bool}{q:gG→Bool}(hp:∀x,p x=some (q x)):∀(l:List gG) (k:Nat),∃i,yR p l k=some i∧(0≤i↔l.any q=true)
 | [],k=>⟨-1,rfl,by simp⟩
 | x::l,k=>by
   obtain⟨i,c,f⟩:=gKm hp l (k+1);simp only [yR,hp,bnd];cases hq:q x with
   | true=>exact⟨k,by simp [cnd],by simp [hq]⟩
   | false=>exact⟨i,by simpa [cnd] using c,by simpa [hq] using f⟩
theorem gP6{p:gG→Option Bool}{q:gG→Bool}(hp:∀x,p x=some (q x))(l:List gG):gCc l p=some (l.any q):=by
 obtain⟨i,f,c⟩:=gKm hp l 0;unfold gCc gIl;rw [f];simp only [bnd,Option.some.injEq];cases h:l.any q with
 | true=>exact decide_eq_true (c.2 h)
 | false=>exact decide_eq_false (fun hi=>by rw [c.1 hi] at h;cases h)
section
variable (next count node:Int) (bs:List gG) (es:List jB) (os:List jN) (code att:Int)
theorem hLf(v:List UInt8):gS0 next count node bs es os code att v=some (zp bs v):=by
 unfold gS0 zp;rw [gI4,gP6 (q:=fun b=>gMi b v) (fun x=>rfl)];simp only [bnd];show bnd (cnd (isInf v) (some (hasB bs v)) (some false)) _=_;cases isInf v<;>rfl
theorem gNp:∀(l:List (List UInt8)) (k:Nat),∃i,gCd next count node bs es os code att l k=some i∧(0≤i↔l.any (zp bs)=true)
 | [],k=>⟨-1,rfl,by simp⟩
 | x::l,k=>by
   obtain⟨i,c,f⟩:=gNp l (k+1);simp only [gCd,hLf,bnd];cases hq:zp bs x with
   | true=>exact⟨k,by simp [cnd],by simp [hq]⟩
   | false=>exact⟨i,by simpa [cnd] using c,by simpa [hq] using f⟩
theorem gU4(l:List (List UInt8)):gFu next count node bs es os code att l=some (l.any (zp bs)):=by
 obtain⟨i,f,c⟩:=gNp next count node bs es os code att l 0
 unfold gFu gOf;rw [f];simp only [bnd,Option.some.injEq];cases h:l.any (zp bs)with
 | true=>exact decide_eq_true (c.2 h)
 | false=>exact decide_eq_false (fun hi=>by rw [c.1 hi] at h;cases h)
theorem gRa{M:Nat}(hM:M≤1048577)(c:bok bs)(y:hDp M bs):∀(n:Nat) (t:gB),tok t→tnd t≤4000*M→gDt next count node bs es os code att n t.kind t.name t.args=some (zk bs n t)
 | 0,t,_,_=>by simp only [gDt,zk,gU3]
 | n+1,t,h3,h4=>by
   have hz:tsz t=tnd t:=yX t (by omega);simp only [gDt,zk,gU3];rw [gKv t (by omega)];simp only [bnd,gU4,gTj,List.any_nil,Bool.false_or,lt_];show cnd (cnd (!zbd bs t) true _) _ _=_;rw [mK ⟨c,h3⟩];cases hb:zbd bs t with
   | false=>rfl
   | true=>
     by_cases h5:tnd t < 4000
     ·have f:decide (tsz t≥4000)=false:=by rw [hz];simp;omega
      have h:decide (tsz t < 4000)=true:=by rw [hz];simp;omega
      have:=hBc y t
      have h6:M*tnd t≤M*4000:=Nat.mul_le_mul_left M (by omega);simp only [f,h,Bool.not_true,gK,Bool.and_self,gZ];exact gRa hM c y n _ (hA9 c t h3) (by omega)
     ·have f:decide (tsz t≥4000)=true:=by rw [hz];simp;omega
      have h:decide (tsz t < 4000)=false:=by rw [hz];simp;omega
      simp only [f,h,Bool.not_true,gK,Bool.and_false,gZ]
theorem hBh{M:Nat}(hM:M≤1048577)(f:bok bs)(h:hDp M bs){t:gB}(c:tok t)(y:tnd t≤4000*M):gPi next count node bs es os code att t=some (zk bs 60 t):=by
 unfold gPi;rw [mK c];exact gRa next count node bs es os code att hM f h 60 t c y
theorem gU5(e:Int):gI2 next count node bs es os code att e=((pO ⟨next,count,node,bs,es,os,code,att⟩ e).code,(pO ⟨next,count,node,bs,es,os,code,att⟩ e).at_):=by
 unfold gI2 pO;simp only;cases code==0<;>rfl
theorem gW3(t:gB):gMj t=some ((t.kind==1) && isInf t.name):=by
 unfold gMj;rw [gI4];cases t.kind==1<;>rfl
theorem hFu{t:gB}(h:tnd t≤4294967296):gS1 t=some ((t.kind==3) && gJp t):=by
 unfold gS1;rw [hF9 t h];cases t.kind==3<;>rfl
end
mutual
theorem hOk(v:List UInt8):∀(t:gB) (n:Nat),n+tnd t≤4294967296→ctc v (n:Int) t=((n+(tvs t).count v:Nat):Int)
 | ⟨k,s,ts⟩,n,h=>by
   simp only [tnd] at h;simp only [ctc,tvs];by_cases hk:k=1
   ·subst hk;rw [beq_self_eq_true,gZ,if_pos rfl];by_cases hs:s=v
    ·subst hs;rw [beq_self_eq_true,gZ,show IntKind.i64.wrap ((n:Int)+1)=((n+1:Nat):Int)from by rw [qR _ (by omega) (by omega)];omega,gU6 s ts (n+1) (by omega),List.count_append,List.count_singleton_self];congr 1;omega
    ·rw [beq_false_of_ne hs,gK,gU6 v ts n (by omega),List.count_append,List.count_singleton,if_neg (by simpa using hs)];congr 1;omega
   ·rw [beq_false_of_ne hk,gK,gK,if_neg hk,List.nil_append,gU6 v ts n (by omega)]
theorem gU6(v:List UInt8):∀(ts:List gB) (n:Nat),n+gA6 ts≤4294967296→hRx v (n:Int) ts=((n+(gH4 ts).count v:Nat):Int)
 | [],n,_=>by simp [hRx,gH4]
 | a::ts,n,h=>by
   simp only [gA6] at h;have c:=hAl a;have f:(tvs a).count v≤(tvs a).length:=List.count_le_length;simp only [hRx,gH4];rw [hOk v a n (by omega),gU6 v ts _ (by omega),List.count_append];congr 1;omega
end
theorem hD9{v:List UInt8}{t:gB}(h:tnd t≤4294967295):gJg v t=decide (v∈tvs t):=by
 unfold gJg gOg;simp only [lt_]
 have:=hOk v t 0 (by omega)
 rw [Nat.zero_add] at this;rw [show ctc v 0 t=_ from this];by_cases hm:v∈tvs t
 ·have:=List.count_pos_iff.2 hm
  rw [decide_eq_true hm];exact decide_eq_true (by omega)
 ·rw [List.count_eq_zero_of_not_mem hm,decide_eq_false hm];rfl
theorem hBi{s s':gJ}{v t:gB}(ht:tnd t≤5000)(h:gFo s v.name t=some s'):gPj s.next s.count s.node s.bindings s.equations s.obligations s.code s.at_ v t=some (s'.code,s'.at_,s'.bindings)∧s'.next=s.next∧s'.count=s.count∧s'.node=s.node∧s'.equations=s.equations∧s'.obligations=s.obligations∧(s'.bindings=s.bindings∨s'.bindings=s.bindings++[⟨v.name,t⟩]):=by
 unfold gFo at h;unfold gPj;rw [jQ (hOx (by omega))] at h;rw [hD9 (by omega)];by_cases hm:v.name∈tvs t
 ·rw [decide_eq_true hm,gZ] at h ⊢;cases h;refine⟨?_,?_⟩
  ·simp only [lt_,gU5,wE]
  ·unfold pO;cases s.code==0<;>exact⟨rfl,rfl,rfl,rfl,rfl,.inl rfl⟩
 ·rw [decide_eq_false hm,gK] at h ⊢;obtain⟨_,h⟩:=mW h;obtain⟨g,h⟩:=mW h;cases h;rw [mK (by simpa using g)];exact⟨rfl,rfl,rfl,rfl,rfl,rfl,.inr rfl⟩
theorem hFv{fs:List gU}:∀{d:Nat} {t:gB},tw fs d t→gJp t=false
 | 0,t,h=>by
   rcases h with rfl | ⟨n,c,rfl,_⟩
   ·rfl
   ·unfold gJp;simp [gH5,gW1,gGc,c]
 | d+1,t,h=>by
   rcases h with h | ⟨u,rfl,f⟩
   ·exact hFv (d:=0) h
   ·have ih:=hFv f;unfold gJp at ih ⊢;simp [gI5,gW1,gGc,ih]
theorem hFw{fs:List gU}:∀{d:Nat} {t:gB},tw fs d t→t.kind≠3→∀u∈t.args,tw fs d u
 | 0,t,h,c,u,hu=>by
   rcases h with rfl | ⟨n,f,rfl,_⟩
   ·simp [gAs] at hu
   ·exact absurd rfl c
 | d+1,t,h,c,u,hu=>by
   rcases h with h | ⟨v,rfl,y⟩
   ·rcases h with rfl | ⟨n,f,rfl,_⟩
    ·simp [gAs] at hu
    ·exact absurd rfl c
   ·simp only [gI5,List.mem_singleton] at hu;subst hu;exact hVp y
open Classical in
noncomputable def cz(fs:List gU)(t:gB):Nat:=if tw fs 12 t then 0 else 1
theorem hP5(fs:List gU)(t:gB):cz fs t≤1:=by unfold cz;split<;>omega
theorem hP6{fs:List gU}{t:gB}(h:tw fs 12 t):cz fs t=0:=by unfold cz;rw [if_pos h]
theorem hFx{fs:List gU}{t u:gB}(h:tw fs 12 t→tw fs 12 u):cz fs u≤cz fs t:=by
 by_cases ht:tw fs 12 t
 ·rw [hP6 (h ht)];omega
 ·have:=hP5 fs u
  have c:cz fs t=1:=by unfold cz;rw [if_neg ht]
  omega
theorem hTf{fs:List gU}(l:List gG)(n:Nat)(t:gB):cz fs (zk l n t)≤cz fs t:=hFx fun h=>by rw [gM6 n (.inl (hAd (hFv h)))];exact h
theorem hBj(s:gJ)(c:Int):(pO s c).next=s.next∧(pO s c).count=s.count∧(pO s c).node=s.node∧(pO s c).obligations=s.obligations:=by
 unfold pO;cases s.code==0<;>exact⟨rfl,rfl,rfl,rfl⟩
structure HSt (r:List UInt8→Nat) (s:gJ):Prop where
 hb:∀b∈s.bindings,HS 4 r b.type_
 he:∀q∈s.equations,HS 4 r q.a∧HS 4 r q.b
theorem HSt.of{r:List UInt8→Nat}{s s':gJ}(h:HSt r s)(c:s'.bindings=s.bindings)(f:s'.equations=s.equations):HSt r s':=⟨by rw [c];exact h.hb,by rw [f];exact h.he⟩
theorem HSt.lk{r:List UInt8→Nat}{s:gJ}(h:HSt r s):∀v,(lkp v s.bindings).2=true→HS 4 r (lkp v s.bindings).1:=fun v hv=>by
 obtain⟨c,hc,_,hc3⟩:=gLz hv;rw [hc3];exact h.hb c hc
def Rok(r:List UInt8→Nat):Prop:=∀v,isInf v=false→r v=0
structure Out (V:List (List UInt8)) (s s':gJ):Prop where
 inv:Inv V s'
 ext:∃l,s'.bindings=s.bindings++l
 nx:s'.next=s.next
 ct:s'.count=s.count
 nd:s'.node=s.node
 ob:s'.obligations=s.obligations
theorem Out.fail{V:List (List UInt8)}{s:gJ}(h:Inv V s)(c:Int):Out V s (pO s c):=⟨h.fail c,⟨[],by rw [(wE s c).1,List.append_nil]⟩,(hBj s c).1,(hBj s c).2.1,(hBj s c).2.2.1,(hBj s c).2.2.2⟩
theorem Out.refl{V:List (List UInt8)}{s:gJ}(h:Inv V s):Out V s s:=⟨h,⟨[],by simp⟩,rfl,rfl,rfl,rfl⟩
theorem Out.trans{V:List (List UInt8)}{s s' s'':gJ}(h:Out V s s')(h':Out V s' s''):Out V s s'':=by
 obtain⟨l,e⟩:=h.ext;obtain⟨l',e'⟩:=h'.ext;exact⟨h'.inv,⟨l++l',by rw [e',e,List.append_assoc]⟩,h'.nx.trans h.nx,h'.ct.trans h.ct,h'.nd.trans h.nd,h'.ob.trans h.ob⟩
def Imp(w:gI)(fs:List gU)(m d:Nat)(s s':gJ)(a b:gB):Prop:=∀r,Rok r→Slv r s'.bindings→HSt r s→HS 4 r a→HS 4 r b→HSt r s'∧(hg r a+cz fs a+cz fs b+1≤d→
 gC6 m s.next s.count s.node s.bindings s.equations s.obligations s.code s.at_ ⟨w,fs⟩ a b (40 - (d:Int))=some (s'.code,s'.at_,s'.bindings,s'.equations))
def phs(r:List UInt8→Nat):List jB→Nat
 | []=>0
 | q::l=>sn r q.a+sn r q.b+phs r l
theorem hFy(r:List UInt8→Nat):∀(l l':List jB),phs r (l++l')=phs r l+phs r l'
 | [],l'=>by simp [phs]
 | q::l,l'=>by simp only [List.cons_append,phs,hFy r l l'];omega
theorem gZf{r:List UInt8→Nat}(hr:∀v,1≤r v):∀(l:List jB),l.length≤phs r l
 | []=>Nat.zero_le _
 | q::l=>by
   have:=gZf hr l
   have:=hOt hr q.a
   simp only [List.length_cons,phs];omega
structure HZt (r:List UInt8→Nat) (s:gJ):Prop where
 hb:∀b∈s.bindings,HZ r b.type_
 he:∀q∈s.equations,HZ r q.a∧HZ r q.b
theorem HZt.of{r:List UInt8→Nat}{s s':gJ}(h:HZt r s)(c:s'.bindings=s.bindings)(f:s'.equations=s.equations):HZt r s':=⟨by rw [c];exact h.hb,by rw [f];exact h.he⟩
theorem HZt.lk{r:List UInt8→Nat}{s:gJ}(h:HZt r s):∀v,(lkp v s.bindings).2=true→HZ r (lkp v s.bindings).1:=fun v hv=>by
 obtain⟨c,hc,_,hc3⟩:=gLz hv;rw [hc3];exact h.hb c hc
def Phi(s s':gJ)(a b:gB):Prop:=∀r,Rz r→Slw r s'.bindings→HZt r s→HZ r a→HZ r b→HZt r s'∧phs r s'.equations≤phs r s.equations+sn r a+sn r b
theorem Phi.same{s s':gJ}{a b:gB}(f:s'.bindings=s.bindings)(c:s'.equations=s.equations):Phi s s' a b:=fun r _ _ h _ _=>⟨h.of f c,by rw [c];omega⟩
theorem Phi.fail(s:gJ)(c:Int){a b:gB}:Phi s (pO s c) a b:=.same (wE s c).1 (wE s c).2
theorem hBk{r:List UInt8→Nat}(t:gB):sns r t.args≤sn r t:=by obtain⟨k,n,ts⟩:=t;simp only [sn];omega
section
variable {w:gI} {k:Int} (hw:gOw w k) (hi:gYe w) {wh:List gY} {fs:List gU} (hf:pQ w wh=some fs) (hF:FV fs) {V:List (List UInt8)}
include hw hf hF
theorem hOl{d:Nat}{x:gB}(h:tw fs d x){r:gB × Bool × Bool}(hr:uA w wh x=some r):r.2.1=false:=by
 by_cases c:x.kind=3
 ·have:∃n,isInf n=false∧x=gH5 ⟨1,n,[]⟩∧0≤kH fs ⟨addN,⟨1,n,[]⟩⟩:=by
   match d,h with
   | 0,h=>
     rcases h with rfl | h
     ·cases c
     ·exact h
   | d+1,h=>
     rcases h with (rfl | h) | ⟨u,rfl,_⟩
     ·cases c
     ·exact h
     ·cases c
  obtain⟨n,f,rfl,y⟩:=this;rw [hQt hf f y] at hr;cases hr;rfl
 ·unfold uA at hr;simp only [lt_] at hr;rw [show (x.kind != 3)=true from bne_iff_ne.2 c] at hr;cases hr;rfl
theorem hOm{x:gB}(hx:DT V x)(hsz:tnd x≤2000){r:gB × Bool × Bool}(hr:uA w wh x=some r)(ht:r.2.1=true):tw fs 12 r.1∧(∀rr,hg rr r.1≤hg rr x)∧DT V r.1∧tnd r.1≤400∧∀rr,sn rr r.1≤sn rr x:=by
 unfold uA at hr;simp only [lt_] at hr;cases c:(x.kind != 3)with
 | true=>rw [c] at hr;cases hr;cases ht
 | false=>
   have hk:x.kind=3:=by simpa using c
   rw [c,gK] at hr;cases hh:gJp x with
   | true=>rw [hh] at hr;cases hr;cases ht
   | false=>
     obtain⟨y,f,h⟩:=gOp hw hf hF V 12 2000 100000 x hsz (by omega) (by omega) hx (by omega);have f:mE 100000 w wh x 12=some y:=f;unfold gBy at hr;rw [hh,gK,jQ f] at hr;simp only [bnd] at hr;cases hc:(y.2 != 0)with
     | true=>rw [hc] at hr;cases hr;cases ht
     | false=>
       rw [hc] at hr;cases hr;have q:=h (by simpa using hc);exact⟨q.tw hk,q.hg,q.dt,q.sz,q.s2⟩
include hi
theorem gRb{x:gB}(hx:DT V x)(hsz:tnd x≤2000)(next count node:Int)(bs:List gG)(es:List jB)(os:List jN)(code att:Int)(hcode:code=0){r:gB × Bool × Bool}(hr:uA w wh x=some r) :
  ∃p,gGx next count node bs es os code att ⟨w,fs⟩ x=some p∧((r.2.2=false∧p.2=(false,7,node))∨(r.2.2=true∧p.2=(r.2.1,code,att)∧(r.2.1=true→p.1=r.1))):=by
 subst hcode;unfold uA at hr;unfold gGx;rw [hF9 x (by omega)];simp only [lt_] at hr;cases f:(x.kind != 3)with
 | true=>
   rw [f] at hr;cases hr;exact⟨_,rfl,.inr ⟨rfl,rfl,fun h=>by cases h⟩⟩
 | false=>
   rw [f,gK] at hr;cases hh:gJp x with
   | true=>
     rw [hh] at hr;cases hr;exact⟨_,rfl,.inr ⟨rfl,rfl,fun h=>by cases h⟩⟩
   | false=>
     obtain⟨y,c,y2⟩:=gOp hw hf hF V 12 2000 100000 x hsz (by omega) (by omega) hx (by omega);have c:mE 100000 w wh x 12=some y:=c;have y3:qO 100000 ⟨w,fs⟩ x 0=some y:=(hNk hw hi hf hF V 12 2000 100000 100000 x hsz (by omega) (by omega) (by omega) hx (by omega)).trans c;unfold gBy at hr;rw [hh,gK,jQ c] at hr;simp only [bnd,gK] at hr ⊢;rw [y3];simp only;cases hc:(y.2 != 0)with
     | true=>
       rw [hc] at hr;cases hr;exact⟨_,rfl,.inl ⟨rfl,rfl⟩⟩
     | false=>
       rw [hc] at hr;cases hr;exact⟨_,rfl,.inr ⟨rfl,rfl,fun _=>rfl⟩⟩
end
end Go.Proofs.YtegahmhnmjnhhaaGreat
