import Derived.Test.YtegahmhnmjnhhaaGreatHg
set_option maxHeartbeats 4000000
set_option linter.unusedVariables false
set_option linter.unusedSimpArgs false
set_option linter.unusedSectionVars false
namespace Go.Proofs.YtegahmhnmjnhhaaGreat
open Go Go.Eng
attribute [local irreducible] V VO VQ VY Quiet QR jC kT Rng mU mV mI
def GdS(r:List UInt8→Nat)(h:Nat):Prop:=h≤15∨∃w,r w < h∧h≤15+4*r w
def HZ(r:List UInt8→Nat)(t:gB):Prop:=alS (fun y=>(y.kind=1∧y.args=[])∨(y.kind≠1∧GdS r (sn r y))) t
def Slw(r:List UInt8→Nat)(l:List gG):Prop:=∀v,(lkp v l).2=true→sn r (lkp v l).1=r v
def Rz(r:List UInt8→Nat):Prop:=(∀v,isInf v=false→r v=1)∧∀v,1≤r v
mutual
theorem hP7{r:List UInt8→Nat}{l:List gG}(hl:Slw r l):∀(t:gB),HZ r t→sn r (apT l t)=sn r t
 | ⟨k,n,ts⟩,h=>by
   have ih:=hOn hl ts h.2;simp only [apT];by_cases hk:k=1
   ·subst hk;have hts:ts=[]:=by
     rcases h.1 with c | c
     ·exact c.2
     ·exact absurd rfl c.1
    subst hts;cases hb:(lkp n l).2 with
    | true=>
      simp only [beq_self_eq_true,gZ];rw [hl n hb];simp [sn,sns]
    | false=>
      simp only [beq_self_eq_true,gZ,gK];rfl
   ·rw [beq_false_of_ne hk,gK];simp only [sn,if_neg hk,ih]
theorem hOn{r:List UInt8→Nat}{l:List gG}(hl:Slw r l):∀(ts:List gB),gUt (fun y=>(y.kind=1∧y.args=[])∨(y.kind≠1∧GdS r (sn r y))) ts→sns r (gNo l ts)=sns r ts
 | [],_=>rfl
 | a::ts,h=>by
   simp only [gNo,sns];rw [hP7 hl a h.1,hOn hl ts h.2]
end
mutual
theorem hTg{r:List UInt8→Nat}{l:List gG}(hl:Slw r l)(hb:∀v,(lkp v l).2=true→HZ r (lkp v l).1):∀(t:gB),HZ r t→HZ r (apT l t)
 | ⟨k,n,ts⟩,h=>by
   have ih:=hOo hl hb ts h.2;have e:=hP7 hl ⟨k,n,ts⟩ h;simp only [apT] at e ⊢;by_cases hk:k=1
   ·subst hk;have hts:ts=[]:=by
     rcases h.1 with c | c
     ·exact c.2
     ·exact absurd rfl c.1
    subst hts;cases hv:(lkp n l).2 with
    | true=>
      simp only [beq_self_eq_true,gZ];exact hb n hv
    | false=>
      simp only [beq_self_eq_true,gZ,gK];exact⟨.inl ⟨rfl,rfl⟩,trivial⟩
   ·rw [beq_false_of_ne hk,gK] at e ⊢;refine⟨.inr ⟨hk,?_⟩,ih⟩;rcases h.1 with c | c
    ·exact absurd c.1 hk
    ·rw [e];exact c.2
theorem hOo{r:List UInt8→Nat}{l:List gG}(hl:Slw r l)(hb:∀v,(lkp v l).2=true→HZ r (lkp v l).1):∀(ts:List gB),gUt (fun y=>(y.kind=1∧y.args=[])∨(y.kind≠1∧GdS r (sn r y))) ts→gUt (fun y=>(y.kind=1∧y.args=[])∨(y.kind≠1∧GdS r (sn r y))) (gNo l ts)
 | [],_=>trivial
 | a::ts,h=>⟨hTg hl hb a h.1,hOo hl hb ts h.2⟩
end
theorem hP8{r:List UInt8→Nat}{l:List gG}(hl:Slw r l)(hb:∀v,(lkp v l).2=true→HZ r (lkp v l).1):∀(n:Nat) (t:gB),HZ r t→HZ r (zk l n t)∧sn r (zk l n t)=sn r t
 | 0,t,h=>⟨h,rfl⟩
 | n+1,t,h=>by
   rw [zk];cases zbd l t && decide (tsz t < 4000)with
   | false=>exact⟨h,rfl⟩
   | true=>
     rw [gZ];obtain⟨c,f⟩:=hP8 hl hb n _ (hTg hl hb t h);exact⟨c,by rw [f,hP7 hl t h]⟩
def slw:List gG→List UInt8→Nat
 | [],_=>1
 | b::l,v=>if b.var_=v then sn (slw l) b.type_ else slw l v
mutual
theorem gU7{r r':List UInt8→Nat}:∀(t:gB),(∀v∈tvs t,r v=r' v)→sn r t=sn r' t
 | ⟨k,n,ts⟩,h=>by
   simp only [sn];rw [gW4 ts (fun v hv=>h v (by simp [tvs,hv]))];by_cases hk:k=1
   ·rw [if_pos hk,if_pos hk,h n (by simp [tvs,hk])]
   ·rw [if_neg hk,if_neg hk]
theorem gW4{r r':List UInt8→Nat}:∀(ts:List gB),(∀v∈gH4 ts,r v=r' v)→sns r ts=sns r' ts
 | [],_=>rfl
 | a::ts,h=>by
   simp only [sns];rw [gU7 a (fun v hv=>h v (by simp [gH4,hv])),gW4 ts (fun v hv=>h v (by simp [gH4,hv]))]
end
theorem gZg:∀{l:List gG} {v:List UInt8},v∉dom l→slw l v=1
 | [],v,_=>rfl
 | b::l,v,h=>by
   simp only [dom,List.map_cons,List.mem_cons,not_or] at h;rw [slw,if_neg (fun e=>h.1 e.symm)];exact gZg h.2
theorem hFz:∀{l:List gG},Tri l→Slw (slw l) l
 | [],_,v,hv=>by cases hv
 | b::l,h,v,hv=>by
   obtain⟨f,y,h3⟩:=gQt h;simp only [lkp] at hv ⊢;by_cases e:b.var_=v
   ·subst e;simp only [beq_self_eq_true,gZ];rw [slw,if_pos rfl];exact gU7 _ (fun u hu=>by rw [slw,if_neg (fun e=>f (by rw [e];exact hu))])
   ·rw [beq_false_of_ne e,gK] at hv ⊢;rw [slw,if_neg e,←hFz h3 v hv];obtain⟨c,hc,_,hc3⟩:=gLz hv;rw [hc3];exact gU7 _ (fun u hu=>by rw [slw,if_neg (fun e=>(y c hc).2 (by rw [e];exact hu))])
theorem Slw.pre{r:List UInt8→Nat}{l l':List gG}(h:Slw r (l++l')):Slw r l:=fun v hv=>by
 have:=h v (by rw [gSw hv];exact hv)
 rwa [gSw hv] at this
theorem hBn{r:List UInt8→Nat}{y:List gG}(hr:∀v,v∉dom y→r v=1):∀(l p:List gG),y=p++l→Tri l→(∀b∈l,HZ r b.type_∧r b.var_=sn r b.type_∧∀v∈tvs b.type_,v∉dom p)→∀v∈dom l,GdS r (r v)
 | [],_,_,_,_,v,hv=>by simp [dom] at hv
 | b::l,p,e,ht,h,v,hv=>by
   obtain⟨t1,t2,t3⟩:=gQt ht
   have ih:=hBn hr l (p++[b]) (by rw [e];simp) t3 (fun c hc=>⟨(h c (by simp [hc])).1,(h c (by simp [hc])).2.1,fun u hu hd=>by
    simp only [dom,List.map_append,List.mem_append,List.map_cons,List.map_nil,List.mem_singleton] at hd;rcases hd with hd | hd
    ·exact(h c (by simp [hc])).2.2 u hu hd
    ·subst hd;exact(t2 c hc).2 hu⟩)
   simp only [dom,List.map_cons,List.mem_cons] at hv;rcases hv with rfl | hv
   ·obtain⟨h1,h2,h3⟩:=h b (by simp);rw [h2];rcases gWp h1 with ⟨k1,f⟩ | ⟨_,f⟩
    ·have hb:b.type_=⟨1,b.type_.name,[]⟩:=by rw [←k1,←f];exact(gU3 _).symm
     have e1:sn r b.type_=r b.type_.name:=by rw [hb];simp [sn,sns]
     have hm:b.type_.name∈tvs b.type_:=by rw [hb];simp [tvs]
     rw [e1];by_cases hd:b.type_.name∈dom l
     ·exact ih _ hd
     ·left;rw [hr _ (fun hd0=>?_)]
      ·omega
      ·rw [e] at hd0;simp only [dom,List.map_append,List.mem_append,List.map_cons,List.mem_cons] at hd0;rcases hd0 with hd0 | hd0 | hd0
       ·exact h3 _ hm hd0
       ·exact t1 (by rw [←hd0];exact hm)
       ·exact hd hd0
    ·exact f
   ·exact ih v hv
theorem hF0{r:List UInt8→Nat}{D:List (List UInt8)}(hr:∀v,v∉D→r v=1)(h:∀v∈D,GdS r (r v)):∀(n:Nat) (v:List UInt8),D.countP (fun u=>decide (r u < r v))≤n→r v+5≤24*4^n
 | n,v,hn=>by
   have f:1≤4^n:=Nat.one_le_pow _ _ (by omega);by_cases hv:v∈D
   ·rcases h v hv with c | ⟨w,c,y⟩
    ·omega
    ·by_cases hw:w∈D
     ·have hlt:=gOe (l:=D) (p:=fun u=>decide (r u < r w)) (q:=fun u=>decide (r u < r v)) (fun x _ hx=>by have:=of_decide_eq_true hx;exact decide_eq_true (by omega)) hw (by simp) (by simpa using c)
      match n,hn with
      | 0,hn=>omega
      | n+1,hn=>
        have:=hF0 hr h n w (by omega)
        rw [Nat.pow_succ];omega
     ·have:=hr w hw
      omega
   ·rw [hr v hv];omega
theorem hF3{l:List gG}(ht:Tri l)(h:∀b∈l,HZ (slw l) b.type_){n:Nat}(hn:l.length≤n+1)(v:List UInt8):slw l v+5≤24*4^n:=by
 have hr:∀v,v∉dom l→slw l v=1:=fun v hv=>gZg hv;have hs:=hFz ht;have hb:∀b∈l,slw l b.var_=sn (slw l) b.type_:=fun b hb=>by
  obtain⟨i,hi⟩:=List.mem_iff_getElem?.1 hb;have hv:(lkp b.var_ l).2=true:=hJ4 (by unfold dom;exact List.mem_map.2 ⟨b,hb,rfl⟩);obtain⟨j,c,f,y,h3⟩:=hBy hv;rw [←hs _ hv,h3];have hij:i=j:=by
   rcases Nat.lt_trichotomy i j with hlt | heq | snt
   ·exfalso;refine(ht j c f).1 ?_
    rw [y];unfold dom;have sn:(l.take j)[i]? =some b:=by rw [List.getElem?_take,if_pos hlt];exact hi
    exact List.mem_map.2 ⟨b,List.mem_of_getElem? sn,rfl⟩
   ·exact heq
   ·exfalso;refine(ht i b hi).1 ?_
    rw [←y];unfold dom;have sn:(l.take i)[j]? =some c:=by rw [List.getElem?_take,if_pos snt];exact f
    exact List.mem_map.2 ⟨c,List.mem_of_getElem? sn,rfl⟩
  subst hij;rw [hi] at f;cases f;rfl
 have hl:=hBn hr l [] rfl ht (fun b hb'=>⟨h b hb',hb b hb',fun v _ hd=>by simp [dom] at hd⟩);by_cases hv:v∈dom l
 ·refine hF0 hr hl n v ?_;have f:=gOe (l:=dom l) (p:=fun u=>decide (slw l u < slw l v)) (q:=fun _=>true) (fun _ _ _=>rfl) hv (by simp) rfl;rw [List.countP_true] at f
  have:(dom l).length=l.length:=by simp [dom]
  omega
 ·have:1≤4^n:=Nat.one_le_pow _ _ (by omega)
  rw [hr v hv];omega
mutual
def nv:gB→Nat
 | ⟨k,_,ts⟩=>(if k=1 then 0 else 1)+nvs ts
def nvs:List gB→Nat
 | []=>0
 | a::ts=>nv a+nvs ts
end
mutual
def vo:gB→Nat
 | ⟨k,_,ts⟩=>(if k=1 then 1 else 0)+vos ts
def vos:List gB→Nat
 | []=>0
 | a::ts=>vo a+vos ts
end
mutual
theorem hLg{r:List UInt8→Nat}{m:Nat}:∀(t:gB),alS va t→(∀v∈tvs t,r v≤m)→sn r t≤nv t+vo t*m
 | ⟨k,n,ts⟩,h,hm=>by
   have ih:=hOp (r:=r) (m:=m) ts h.2 (fun v hv=>hm v (by simp [tvs,hv]));simp only [sn,nv,vo];by_cases hk:k=1
   ·have:=hm n (by simp [tvs,hk])
    rw [if_pos hk,if_pos hk,if_pos hk,Nat.add_mul];omega
   ·rw [if_neg hk,if_neg hk,if_neg hk,Nat.zero_add (vos ts)];omega
theorem hOp{r:List UInt8→Nat}{m:Nat}:∀(ts:List gB),gUt va ts→(∀v∈gH4 ts,r v≤m)→sns r ts≤nvs ts+vos ts*m
 | [],_,_=>by simp [sns]
 | a::ts,h,hm=>by
   have c:=hLg (r:=r) (m:=m) a h.1 (fun v hv=>hm v (by simp [gH4,hv]));have f:=hOp (r:=r) (m:=m) ts h.2 (fun v hv=>hm v (by simp [gH4,hv]));simp only [sns,nvs,vos,Nat.add_mul];omega
end
mutual
theorem hOq{r:List UInt8→Nat}{w:List UInt8}:∀(t:gB),w∈tvs t→r w≤sn r t∧(t.kind≠1→r w < sn r t)
 | ⟨k,n,ts⟩,h=>by
   simp only [tvs,List.mem_append] at h;simp only [sn];by_cases hk:k=1
   ·rw [if_pos hk] at h ⊢;refine⟨?_,fun h=>absurd hk h⟩;rcases h with h | h
    ·simp only [List.mem_singleton] at h;subst h;omega
    ·have:=gZh (r:=r) ts h;omega
   ·rw [if_neg hk] at h ⊢;rcases h with h | h
    ·simp at h
    ·have:=gZh (r:=r) ts h
     exact⟨by omega,fun _=>by omega⟩
theorem gZh{r:List UInt8→Nat}{w:List UInt8}:∀(ts:List gB),w∈gH4 ts→r w≤sns r ts
 | [],h=>by simp [gH4] at h
 | a::ts,h=>by
   simp only [gH4,List.mem_append] at h;simp only [sns];rcases h with h | h
   ·have:=(hOq (r:=r) a h).1;omega
   ·have:=gZh (r:=r) ts h;omega
end
theorem hTh(r:List UInt8→Nat):∀(l:List (List UInt8)),l=[]∨∃w∈l,∀v∈l,r v≤r w
 | []=>.inl rfl
 | a::l=>by
   rcases hTh r l with rfl | ⟨w,f,c⟩
   ·exact .inr ⟨a,by simp,fun v hv=>by simp only [List.mem_singleton] at hv;subst hv;omega⟩
   ·rcases Nat.lt_or_ge (r w) (r a)with h | h
    ·exact .inr ⟨a,by simp,fun v hv=>by
      rcases List.mem_cons.1 hv with rfl | hv
      ·omega
      ·have:=c v hv;omega⟩
    ·exact .inr ⟨w,by simp [f],fun v hv=>by
      rcases List.mem_cons.1 hv with rfl | hv
      ·omega
      ·exact c v hv⟩
theorem hTi{r:List UInt8→Nat}{t:gB}(h:alS va t)(h1:nv t≤15)(c:vo t≤4)(hk:t.kind≠1):GdS r (sn r t):=by
 rcases hTh r (tvs t)with f | ⟨w,y,h4⟩
 ·have:=hLg (r:=r) (m:=0) t h (fun v hv=>by rw [f] at hv;simp at hv)
  exact .inl (by omega)
 ·have h5:=hLg (r:=r) (m:=r w) t h h4;have h6:vo t*r w≤4*r w:=Nat.mul_le_mul_right _ c;exact .inr ⟨w,(hOq t y).2 hk,by omega⟩
mutual
theorem hP9{r:List UInt8→Nat}:∀(t:gB),alS va t→nv t≤15→vo t≤4→HZ r t
 | ⟨k,n,ts⟩,h,c,f=>by
   refine⟨?_,hOr ts h.2 (by simp only [nv] at c;omega) (by simp only [vo] at f;omega)⟩;by_cases hk:k=1
   ·exact .inl ⟨hk,h.1 hk⟩
   ·exact .inr ⟨hk,hTi h c f hk⟩
theorem hOr{r:List UInt8→Nat}:∀(ts:List gB),gUt va ts→nvs ts≤15→vos ts≤4→gUt (fun y=>(y.kind=1∧y.args=[])∨(y.kind≠1∧GdS r (sn r y))) ts
 | [],_,_,_=>trivial
 | a::ts,h,c,f=>by
   simp only [nvs] at c;simp only [vos] at f;exact⟨hP9 a h.1 (by omega) (by omega),hOr ts h.2 (by omega) (by omega)⟩
end
mutual
theorem hLh:∀(t:gB),n4 t→alS va t
 | ⟨k,n,ts⟩,h=>⟨h.1.2.2,hOs ts h.2⟩
theorem hOs:∀(ts:List gB),n4s ts→gUt va ts
 | [],_=>trivial
 | a::ts,h=>⟨hLh a h.1,hOs ts h.2⟩
end
theorem hQa{fs:List gU}:∀{d:Nat} {t:gB},tw fs d t→nv t≤d+1∧vo t≤1∧alS va t
 | 0,t,h=>by
   rcases h with rfl | ⟨n,y,rfl,_⟩
   ·exact⟨by decide,by decide,fun h=>absurd h (by decide),trivial⟩
   ·exact⟨by simp [gH5,nv,nvs],by simp [gH5,vo,vos],fun h=>absurd (show(3:Int)=1 from h) (by decide),⟨fun _=>rfl,trivial⟩,trivial⟩
 | d+1,t,h=>by
   rcases h with h | ⟨u,rfl,f⟩
   ·obtain⟨a,b,c⟩:=hQa (d:=0) h;exact⟨by omega,b,c⟩
   ·obtain⟨a,b,c⟩:=hQa f;refine⟨?_,?_,fun h=>absurd (show(2:Int)=1 from h) (by decide),c,trivial⟩
    ·simp only [gI5,nv,nvs,if_neg (show ¬ (2:Int)=1 from by decide)];omega
    ·simp only [gI5,vo,vos,if_neg (show ¬ (2:Int)=1 from by decide)];omega
theorem hTk{fs:List gU}{r:List UInt8→Nat}{d:Nat}(hd:d≤12){t:gB}(h:tw fs d t):HZ r t:=by
 obtain⟨a,b,c⟩:=hQa h;exact hP9 t c (by omega) (by omega)
mutual
theorem hOt{r:List UInt8→Nat}(hr:∀v,1≤r v):∀(t:gB),1≤sn r t
 | ⟨k,n,ts⟩=>by
   have:=hr n
   simp only [sn]
   split<;>omega
end
theorem gZi:∀(l:List gG) (v:List UInt8),1≤slw l v
 | [],_=>Nat.le_refl _
 | b::l,v=>by
   rw [slw];split
   ·exact hOt (gZi l) _
   ·exact gZi l v
def gRc(f:jH→Int→Option (gB × jH))(c:jH)(a1:Int):Option (gB × jH):=
bnd (gAi c 6) fun h=>
bnd ((cnd (h.1==0) (
(some (h.1==0))) (
(some (h.1==1))))) fun b2=>
(cnd b2 (
bnd (gAi h.2 4) fun x5=>
gd (gF7 x5.1) (gd (([63]:List UInt8).length+(Lib.itoa x5.1).length≤4294967296) (
lt_ (wG (([63]:List UInt8)++(Lib.itoa x5.1))) fun x8=>
(some (x8,x5.2))))) (
(cnd (h.1==2) (
bnd (gGm h.2 [[105,110,116],[98,111,111,108]]) fun aa=>
bnd (gI0 aa.1 []) fun ah=>
(some (ah,aa.2))) (
(cnd (h.1==3) (
lt_ (wG [63,49]) fun ai=>
bnd (gJw ) fun aj=>
lt_ (wG [97]) fun ak=>
bnd (gJw ) fun al=>
bnd (gI0 [98,111,120] [al]) fun am=>
bnd (gJj h.2 [ai,aj,ak,am]) fun ab=>
bnd (gQ7 [97,100,100] ab.1) fun an=>
(some (an,ab.2))) (
(cnd (decide (a1≤0)) (
lt_ (wG [97]) fun ao=>
(some (ao,h.2))) (
bnd (gC8 h.2 2) fun y=>
(cnd y.1 (
bnd (f y.2 (IntKind.i64.wrap (a1 - 1))) fun ac=>
bnd (gI0 [98,111,120] [ac.1]) fun ap=>
(some (ap,ac.2))) (
bnd (f y.2 (IntKind.i64.wrap (a1 - 1))) fun ad=>
bnd (f ad.2 (IntKind.i64.wrap (a1 - 1))) fun ae=>
bnd (gI0 [112,97,105,114] [ad.1,ae.1]) fun aq=>
(some (aq,ae.2))))))))))))
theorem hQb{ac:jH→Int→Option (gB × jH)}(f:∀(x0:jH) (x1:Int) {r:gB × jH},ac x0 x1=some r→Go.Eng.Spec Tryz.prog 21 [.ptr 0 0,.I x1] [bCu x0.b x0.i x0.h] (fun sv Lo=>sv=.d (jS r.1)∧Lo=[bCu r.2.b r.2.i r.2.h]))(c:jH)(a1:Int){r:gB × jH}(h:gRc ac c a1=some r):Go.Eng.Spec Tryz.prog 21 [.ptr 0 0,.I a1] [bCu c.b c.i c.h] (fun sv Lo=>sv=.d (jS r.1)∧Lo=[bCu r.2.b r.2.i r.2.h]):=by
 obtain⟨c0,c1,c2⟩:=c;unfold gRc at h;refine kM 1 Tryz.func21 rfl (by kernel_rfl) rfl rfl fun A _=>?_;refine goL ?_;obtain⟨⟨cc,⟨y,aa,ab⟩⟩,c5,h⟩:=gP h;refine gAr 0 (gEc (jH.mk c0 c1 c2) 6 c5) ?_;refine goL ?_;refine jE ?_;refine goL ?_;obtain⟨b2,hb2,h⟩:=gP h;refine gEf ⟨[(0,.ptr 0 0),(1,.I a1),(4,.ptr 1 0),(6,.I cc),(7,.B b2)],[bCu y aa ab,.box [.I 0,.S [],.nilsl]],Tryz.f21.ntmps⟩ ?_ ?_
 ·refine kX (fun c3=>?_) (fun c3=>?_)
  ·replace hb2:=kD c3 hb2;refine zA ?_;cases hb2;exact eJ
  ·replace hb2:=kE c3 hb2;refine goL ?_;cases hb2;exact eJ
 refine goC h ?_ ?_<;>intro c4 h
 ·refine goL ?_;obtain⟨⟨bt,⟨bp,bq,br⟩⟩,c7,h⟩:=gP h;refine gAr 0 (gEc (jH.mk y aa ab) 4 c7) ?_;obtain⟨g6,h⟩:=mW h;refine qI (gF (gLu bt g6)) ?_;obtain⟨g7,h⟩:=mW h;refine qI (wO g7) ?_;obtain⟨⟨cd,ce,cf⟩,c8,h⟩:=qB h;have sx8:=gM2 (([63]:List UInt8)++(Lib.itoa bt));rw [c8] at sx8;refine jL (gF (sx8)) ?_;refine jK ?_;obtain rfl:=Option.some.inj h;exact zB [.d (.st [.i .i64 cd,.s ce,.sl 3 (jJ cf)])] [bCu bp bq br] ⟨rfl,rfl⟩
 ·refine goC h ?_ ?_<;>intro c9 h
  ·refine goL ?_;refine gSp (us:=jP [[105,110,116],[98,111,111,108]]) ?_;refine uZ 2 rfl rfl ?_;obtain⟨⟨da,⟨aq,ar,au⟩⟩,cg,h⟩:=gP h;refine gAr 0 (gQl (jH.mk y aa ab) [[105,110,116],[98,111,111,108]] cg) ?_;obtain⟨⟨bu,bv,bw⟩,ch,h⟩:=gP h;refine jL (gF (gOy _ _ ch)) ?_;refine jK ?_;obtain rfl:=Option.some.inj h;exact zB [.d (.st [.i .i64 bu,.s bv,.sl 3 (jJ bw)])] [bCu aq ar au] ⟨rfl,rfl⟩
  ·refine goC h ?_ ?_<;>intro dg h
   ·refine goL ?_;obtain⟨⟨av,aw,ax⟩,ci,h⟩:=qB h;have sx13:=gM2 [63,49];rw [ci] at sx13;refine qI (gF (sx13)) ?_;obtain⟨⟨ay,a0,a3⟩,cj,h⟩:=gP h;refine qI (gF (gZr  cj)) ?_;obtain⟨⟨a4,a5,a6⟩,ck,h⟩:=qB h;have sx15:=gM2 [97];rw [ck] at sx15;refine qI (gF (sx15)) ?_;obtain⟨⟨a7,a8,a9⟩,cl,h⟩:=gP h;refine qI (gF (gZr  cl)) ?_;refine gAk (u:=(.st [.i .i64 a7,.s a8,.sl 3 (jJ a9)])) ?_;refine uZ 2 rfl rfl ?_;obtain⟨⟨ba,bb,bc⟩,cm,h⟩:=gP h;refine gAq (hHy (gOy [98,111,120] [(gB.mk a7 a8 a9)] cm)) ?_;refine gSp (us:=jJ [(gB.mk av aw ax),(gB.mk ay a0 a3),(gB.mk a4 a5 a6),(gB.mk ba bb bc)]) ?_;refine uZ 3 rfl rfl ?_;obtain⟨⟨⟨cn,co,cp⟩,⟨bd,be,bf⟩⟩,cq,h⟩:=gP h;refine gAr 0 (hFd (jH.mk y aa ab) [(gB.mk av aw ax),(gB.mk ay a0 a3),(gB.mk a4 a5 a6),(gB.mk ba bb bc)] cq) ?_;obtain⟨⟨bx,bz,b0⟩,cr,h⟩:=gP h;refine jL (gF (hOa _ _ cr)) ?_;refine jK ?_;obtain rfl:=Option.some.inj h;exact zB [.d (.st [.i .i64 bx,.s bz,.sl 3 (jJ b0)])] [bCu bd be bf] ⟨rfl,rfl⟩
   ·refine goS ?_;refine kX (fun b1=>?_) (fun b1=>?_)
    ·replace h:=kD b1 h;refine goL ?_;obtain⟨⟨b3,b4,b5⟩,cs,h⟩:=qB h;have sx21:=gM2 [97];rw [cs] at sx21;refine jL (gF (sx21)) ?_;refine jK ?_;obtain rfl:=Option.some.inj h;exact zB [.d (.st [.i .i64 b3,.s b4,.sl 3 (jJ b5)])] [bCu y aa ab] ⟨rfl,rfl⟩
    ·replace h:=kE b1 h;refine goS ?_;obtain⟨⟨db,⟨ad,ae,ag⟩⟩,ct,h⟩:=gP h;refine gAr 0 (gIw (jH.mk y aa ab) 2 ct) ?_;refine goC h ?_ ?_<;>intro dh h
     ·refine goL ?_;refine qI (pR) ?_;obtain⟨⟨⟨ah,ai,aj⟩,⟨bg,bh,bi⟩⟩,cu,h⟩:=gP h;refine gAr 0 (f (jH.mk ad ae ag) (IntKind.i64.wrap (a1 - 1)) cu) ?_;refine gAk (u:=(.st [.i .i64 ah,.s ai,.sl 3 (jJ aj)])) ?_;refine uZ 2 rfl rfl ?_;obtain⟨⟨b6,b7,b8⟩,cv,h⟩:=gP h;refine gBn (hHy (gOy [98,111,120] [(gB.mk ah ai aj)] cv)) ?_;refine jK ?_;obtain rfl:=Option.some.inj h;exact zB [.d (.st [.i .i64 b6,.s b7,.sl 3 (jJ b8)])] [bCu bg bh bi] ⟨rfl,rfl⟩
     ·refine goS ?_;refine qI (pR) ?_;obtain⟨⟨⟨ak,al,am⟩,⟨bj,bk,bl⟩⟩,cw,h⟩:=gP h;refine gAr 0 (f (jH.mk ad ae ag) (IntKind.i64.wrap (a1 - 1)) cw) ?_;refine goL ?_;refine qI (pR) ?_;obtain⟨⟨⟨an,ao,ap⟩,⟨bm,bn,bo⟩⟩,cx,h⟩:=gP h;refine gAr 0 (f (jH.mk bj bk bl) (IntKind.i64.wrap (a1 - 1)) cx) ?_;refine gSp (us:=jJ [(gB.mk ak al am),(gB.mk an ao ap)]) ?_;refine uZ 2 rfl rfl ?_;obtain⟨⟨b9,ca,cb⟩,cy,h⟩:=gP h;refine gBn (hHy (gOy [112,97,105,114] [(gB.mk ak al am),(gB.mk an ao ap)] cy)) ?_;refine jK ?_;obtain rfl:=Option.some.inj h;exact zB [.d (.st [.i .i64 b9,.s ca,.sl 3 (jJ cb)])] [bCu bm bn bo] ⟨rfl,rfl⟩
def gKz:Nat→jH→Int→Option (gB × jH)
 | 0,_,_=>none
 | n+1,c,f=>gRc (gKz n) c f
theorem kW:∀(n:Nat) (c:jH) (f:Int) {r:gB × jH},gKz n c f=some r→Go.Eng.Spec Tryz.prog 21 [.ptr 0 0,.I f] [bCu c.b c.i c.h] (fun sv Lo=>sv=.d (jS r.1)∧Lo=[bCu r.2.b r.2.i r.2.h]):=by
 intro n
 induction n with
 | zero=>intro c f r h;cases h
 | succ n ih=>intro c f r h;exact hQb ih c f h
end Go.Proofs.YtegahmhnmjnhhaaGreat
