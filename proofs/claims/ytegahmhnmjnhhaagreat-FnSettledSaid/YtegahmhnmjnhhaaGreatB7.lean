import Derived.Test.YtegahmhnmjnhhaaGreatTn
set_option maxHeartbeats 4000000
set_option linter.unusedVariables false
set_option linter.unusedSimpArgs false
set_option linter.unusedSectionVars false
namespace Go.Proofs.YtegahmhnmjnhhaaGreat
open Go Go.Eng
attribute [local irreducible] V VO VQ VY Quiet QR jC kT Rng mU mV mI
mutual
theorem hGl{l:List gG}{v:List UInt8}:∀(t:gB),v∈tvs (apT l t)→(v∈tvs t∧v∉dom l)∨∃u∈tvs t,(lkp u l).2=true∧v∈tvs (lkp u l).1
 | ⟨k,n,ts⟩,h=>by
   have key:v∈gH4 (gNo l ts)→(v∈tvs ⟨k,n,ts⟩∧v∉dom l)∨∃u∈tvs ⟨k,n,ts⟩,(lkp u l).2=true∧v∈tvs (lkp u l).1:=fun h=>(hBu ts h).imp (fun h=>⟨by simp [tvs,h.1],h.2⟩) (fun⟨u,c,f⟩=>⟨u,by simp [tvs,c],f⟩);simp only [apT] at h;by_cases hk:k=1
   ·subst hk;cases hb:(lkp n l).2 with
    | true=>
      rw [hb] at h;simp only [beq_self_eq_true,gZ] at h;exact .inr ⟨n,by simp [tvs],hb,h⟩
    | false=>
      rw [hb] at h;simp only [beq_self_eq_true,gZ,gK,tvs,if_true,List.mem_append,List.mem_singleton] at h;rcases h with rfl | h
      ·refine .inl ⟨by simp [tvs],fun hd=>?_⟩;rw [hJ4 hd] at hb;cases hb
      ·exact key h
   ·rw [beq_false_of_ne hk] at h;simp only [gK,tvs,if_neg hk,List.nil_append] at h;exact key h
theorem hBu{l:List gG}{v:List UInt8}:∀(ts:List gB),v∈gH4 (gNo l ts)→(v∈gH4 ts∧v∉dom l)∨∃u∈gH4 ts,(lkp u l).2=true∧v∈tvs (lkp u l).1
 | [],h=>by simp [gNo,gH4] at h
 | a::ts,h=>by
   simp only [gNo,gH4,List.mem_append] at h;rcases h with h | h
   ·exact(hGl a h).imp (fun h=>⟨by simp [gH4,h.1],h.2⟩) (fun⟨u,c,f⟩=>⟨u,by simp [gH4,c],f⟩)
   ·exact(hBu ts h).imp (fun h=>⟨by simp [gH4,h.1],h.2⟩) (fun⟨u,c,f⟩=>⟨u,by simp [gH4,c],f⟩)
end
mutual
theorem gGj{p:List UInt8→Bool}:∀(t:gB),gW1 p t=true↔∃v∈tvs t,p v=true
 | ⟨k,n,ts⟩=>by
   simp only [gW1,Bool.or_eq_true,Bool.and_eq_true,beq_iff_eq,gXd ts,tvs,List.mem_append];constructor
   ·rintro(⟨rfl,h⟩ | ⟨v,c,f⟩)
    ·exact⟨n,.inl (by simp),h⟩
    ·exact⟨v,.inr c,f⟩
   ·rintro⟨v,c | c,f⟩
    ·split at c
     ·simp only [List.mem_singleton] at c;subst c;exact .inl ⟨by assumption,f⟩
     ·simp at c
    ·exact .inr ⟨v,c,f⟩
theorem gXd{p:List UInt8→Bool}:∀(ts:List gB),gGc p ts=true↔∃v∈gH4 ts,p v=true
 | []=>by simp [gGc,gH4]
 | a::ts=>by
   simp only [gGc,Bool.or_eq_true,gGj a,gXd ts,gH4,List.mem_append];constructor
   ·rintro(⟨v,c,f⟩ | ⟨v,c,f⟩)
    ·exact⟨v,.inl c,f⟩
    ·exact⟨v,.inr c,f⟩
   ·rintro⟨v,c | c,f⟩
    ·exact .inl ⟨v,c,f⟩
    ·exact .inr ⟨v,c,f⟩
end
def Tri(l:List gG):Prop:=∀(i:Nat) (b:gG),l[i]? =some b→b.var_∉dom (l.take i)∧∀v∈tvs b.type_,v∉dom (l.take (i+1))
def low(l:List gG)(k:Nat)(t:gB):Prop:=∀v∈tvs t,v∉dom (l.take k)
theorem hBv{l:List gG}{v:List UInt8}{k:Nat}(h:v∈dom (l.take k)):v∈dom l:=by
 unfold dom at *;rw [List.map_take] at h;exact List.mem_of_mem_take h
theorem hMd{l:List gG}{v:List UInt8}{j k:Nat}(hjk:j≤k)(h:v∈dom (l.take j)):v∈dom (l.take k):=by
 have:l.take j=(l.take k).take j:=by rw [List.take_take,Nat.min_eq_left hjk]
 rw [this] at h;exact hBv h
theorem hBy{v:List UInt8}:∀{l:List gG},(lkp v l).2=true→∃(i:Nat) (b:gG),l[i]? =some b∧b.var_=v∧(lkp v l).1=b.type_
 | [],h=>by cases h
 | b::l,h=>by
   simp only [lkp] at h ⊢;cases hb:b.var_==v with
   | true=>exact⟨0,b,rfl,by simpa using hb,rfl⟩
   | false=>
     rw [hb] at h;obtain⟨i,c,f,y,h3⟩:=hBy (l:=l) h;exact⟨i+1,c,by simpa using f,y,h3⟩
theorem hTq{l:List gG}(hl:Tri l){k:Nat}{t:gB}(h:low l k t):low l (k+1) (apT l t):=by
 intro v hv hd;rcases hGl t hv with ⟨_,c⟩ | ⟨u,h1,c,f⟩
 ·exact c (hBv hd)
 ·obtain⟨i,b,y,g2,g3⟩:=hBy c;rw [g3] at f;have hik:k≤i:=by
   rcases Nat.lt_or_ge i k with hlt | hge
   ·exfalso;refine h u h1 ?_
    unfold dom;have hg:(l.take k)[i]? =some b:=by rw [List.getElem?_take];rw [if_pos hlt];exact y
    exact List.mem_map.2 ⟨b,List.mem_of_getElem? hg,g2⟩
   ·exact hge
  exact(hl i b y).2 v f (hMd (by omega) hd)
def jCj(l:List gG):Prop:=∀b∈l,isInf b.var_=true
theorem hBz(l:List gG)(v:List UInt8):hasB l v=true↔v∈dom l:=by
 unfold hasB dom;simp only [List.any_eq_true,beq_iff_eq,List.mem_map]
theorem hTt{l:List gG}{t:gB}(h:∀v∈tvs t,v∉dom l):zbd l t=false:=by
 cases hz:zbd l t with
 | false=>rfl
 | true=>
   obtain⟨v,f,c⟩:=(gGj t).1 hz;unfold zp at c;simp only [Bool.and_eq_true] at c;exact absurd ((hBz l v).1 c.2) (h v f)
theorem gVo{l:List gG}(hi:jCj l){t:gB}(h:zbd l t=false):∀v∈tvs t,v∉dom l:=by
 intro v hv hd
 have:zbd l t=true:=(gGj t).2 ⟨v,hv,by
  unfold zp;rw [(hBz l v).2 hd,Bool.and_true];obtain⟨b,c,rfl⟩:=List.mem_map.1 hd
  exact hi b c⟩
 rw [h] at this;cases this
theorem gRt{l:List gG}(hl:Tri l):∀(n k:Nat) (t:gB),low l k t→l.length≤k+n→zbd l (zk l n t)=false∨¬tsz (zk l n t) < 4000
 | 0,k,t,h,hk=>.inl (hTt (by rw [zk];intro v hv hd;exact h v hv (by rw [List.take_of_length_le (by omega)];exact hd)))
 | n+1,k,t,h,hk=>by
   rw [zk];cases hz:zbd l t with
   | false=>simp only [Bool.false_and,gK];exact .inl hz
   | true=>
     cases hs:decide (tsz t < 4000)with
     | false=>simp only [Bool.and_false,gK];exact .inr (of_decide_eq_false hs)
     | true=>simp only [Bool.and_self,gZ];exact gRt hl n (k+1) _ (hTq hl h) (by omega)
theorem gM6{l:List gG}{t:gB}(n:Nat)(h:zbd l t=false∨¬tsz t < 4000):zk l n t=t:=by
 cases n with
 | zero=>rfl
 | succ n=>
   rw [zk];rcases h with h | h
   ·rw [h];rfl
   ·rw [show decide (tsz t < 4000)=false from decide_eq_false h,Bool.and_false,gK]
mutual
theorem hOw{V:List (List UInt8)}{l:List gG}(hl:∀b∈l,DT V b.type_):∀(t:gB),DT V t→DT V (apT l t)
 | ⟨k,n,ts⟩,h=>by
   have c:DT V ⟨k,n,gNo l ts⟩:=hVm h (hGm hl ts (fun u hu=>gHy h u hu)) (hDm l ts);simp only [apT];cases k==1 with
   | false=>exact c
   | true=>
     rw [gZ];cases hb:(lkp n l).2 with
     | false=>exact c
     | true=>
       obtain⟨b,f,_,y⟩:=gLz hb;rw [gZ,y];exact hl b f
theorem hGm{V:List (List UInt8)}{l:List gG}(hl:∀b∈l,DT V b.type_):∀(ts:List gB),(∀t∈ts,DT V t)→∀t∈gNo l ts,DT V t
 | [],_,t,h=>by simp [gNo] at h
 | a::ts,h,t,ht=>by
   simp only [gNo,List.mem_cons] at ht;rcases ht with rfl | ht
   ·exact hOw hl a (h a (by simp))
   ·exact hGm hl ts (fun t ht=>h t (by simp [ht])) t ht
end
theorem hGo{V:List (List UInt8)}{l:List gG}(hl:∀b∈l,DT V b.type_):∀(n:Nat) (t:gB),DT V t→DT V (zk l n t)
 | 0,t,h=>h
 | n+1,t,h=>by
   rw [zk];cases zbd l t && decide (tsz t < 4000)with
   | false=>exact h
   | true=>exact hGo hl n _ (hOw hl t h)
theorem gXe{l:List gG}(c:hDp 2000 l):∀(n:Nat) (t:gB),tnd t≤8000000→tnd (zk l n t)≤8000000
 | 0,t,h=>h
 | n+1,t,h=>by
   rw [zk];cases hc:zbd l t && decide (tsz t < 4000)with
   | false=>exact h
   | true=>
     simp only [Bool.and_eq_true,decide_eq_true_eq] at hc;rw [yX t (by omega)] at hc;have f:=hBc c t;have y:2000*tnd t≤2000*4000:=Nat.mul_le_mul_left 2000 (by omega);exact gXe c n _ (by omega)
mutual
theorem hB5(v:List UInt8):∀(n:Nat) (t:gB),tnd t≤n→tnd t≤4294967296→qZ n t v=some (((tvs t).count v:Nat):Int)
 | 0,t,h,_=>by have:=gBq t;omega
 | n+1,⟨k,s,ts⟩,h,hb=>by
   simp only [tnd] at h hb;rw [qZ];unfold gAa;simp only [lt_];have key:∀y:Nat,y≤1→mP (qZ n) v ts (y:Int)=some ((y+(gH4 ts).count v:Nat):Int):=fun y hy=>gXf v n ts y (by omega) (by omega);by_cases hk:k=1
   ·subst hk;rw [beq_self_eq_true,gZ];by_cases hs:s=v
    ·subst hs;rw [beq_self_eq_true,gZ];simp only [bnd];rw [show (1:Int)=((1:Nat):Int)from rfl,key 1 (by omega)];simp [tvs];omega
    ·rw [beq_false_of_ne hs,gK];simp only [bnd];rw [show (0:Int)=((0:Nat):Int)from rfl,key 0 (by omega)];simp [tvs,List.count_cons,hs]
   ·rw [beq_false_of_ne hk,gK,gK];simp only [bnd];rw [show (0:Int)=((0:Nat):Int)from rfl,key 0 (by omega)];simp [tvs,hk]
theorem gXf(v:List UInt8):∀(n:Nat) (ts:List gB) (y:Nat),gA6 ts≤n→y+gA6 ts≤4294967296→mP (qZ n) v ts (y:Int)=some ((y+(gH4 ts).count v:Nat):Int)
 | n,[],y,_,_=>by simp [mP,gH4]
 | n,a::ts,y,h,hb=>by
   simp only [gA6] at h hb;have c:=hAl a;have f:(tvs a).count v≤(tvs a).length:=List.count_le_length;rw [mP,jQ (hB5 v n a (by omega) (by omega)),show IntKind.i64.wrap ((y:Int)+(((tvs a).count v:Nat):Int))=((y+(tvs a).count v:Nat):Int)from by rw [qR _ (by omega) (by omega)];omega];rw [gXf v n ts (y+(tvs a).count v) (by omega) (by omega)];simp only [gH4,List.count_append];congr 2;omega
end
theorem hOx{v:List UInt8}{t:gB}(h:tnd t≤5000):gEq v t=some (decide (v∈tvs t)):=by
 unfold gEq;rw [jQ (hB5 v 5000 t h (by omega))];congr 1;by_cases hm:v∈tvs t
 ·have:=List.count_pos_iff.2 hm
  rw [decide_eq_true hm];exact decide_eq_true (by omega)
 ·rw [decide_eq_false hm,List.count_eq_zero_of_not_mem hm];rfl
@[reducible] def kU:List UInt8:=[40,112,97,99,107,97,103,101,32,97,112,112,32,40,99,111,114,101,41,32,40,100,97,116,97,32,116,97,103,32,40,41,32,40,116,97,103,32,105,110,116,41,32,40,110,111,110,101,41,41]
@[reducible] def gCo:List UInt8:=[32,40,105,110,115,116,32,115,104,111,119,32,40,41,32,105,110,116,32,40,41,32,40,41,32,40,41,32,40,109,32,40,120,41,32,57,41,41]
@[reducible] def gCp:List UInt8:=[32,40,105,110,115,116,32,115,104,111,119,32,40,41,32,116,97,103,32,40,41,32,40,41,32,40,41,32,40,109,32,40,120,41,32,40,99,97,115,101,32,120,32,40,110,111,110,101,32,48,41,32,40,116,97,103,32,110,32,110,41,41,41,41]
@[reducible] def gCq:List UInt8:=List.append [32,40,105,110,115,116,32,115,104,111,119,32,40,41,32,40,108,105,115,116,32,116,97,103,41,32,40,41,32,40,41,32,40,41,32,40,109,32,40,120,41] [32,52,41,41,32,40,105,110,115,116,32,115,104,111,119,32,40,41,32,116,97,103,32,40,41,32,40,41,32,40,41,32,40,109,32,40,120,41,32,53,41,41]
@[reducible] def gCr:List UInt8:=[32,40,105,110,115,116,32,111,114,100,32,40,41,32,116,97,103,32,40,41,32,40,41,32,40,41,32,40,108,101,115,115,32,40,120,32,121,41,32,116,114,117,101,41,41]
@[reducible] def gCs:List UInt8:=List.append [32,40,105,110,115,116,32,101,113,32,40,41,32,116,97,103,32,40,41,32,40,41,32,40,41,32,40,115,97,109,101,32,40,120,32,121,41,32,116,114,117,101,41,41,32] [40,105,110,115,116,32,111,114,100,32,40,41,32,116,97,103,32,40,41,32,40,41,32,40,41,32,40,108,101,115,115,32,40,120,32,121,41,32,102,97,108,115,101,41,41]
@[reducible] def gCt:List UInt8:=[32,40,105,110,115,116,32,115,104,111,119,32,40,97,41,32,39,97,32,40,40,101,113,32,39,97,41,41,32,40,41,32,40,41,32,40,109,32,40,120,41,32,49,41,41]
@[reducible] def gCu:List UInt8:=[32,40,105,110,115,116,32,115,104,111,119,32,40,41,32,116,97,103,32,40,41,32,40,41,32,40,41,32,40,109,32,40,120,41,32,40,99,97,115,101,32,120,32,40,116,97,103,32,110,32,110,41,32,40,110,111,110,101,32,48,41,41,41,41]
@[reducible] def yH:List UInt8:=[32,40,102,110,32,109,97,105,110,32,40,41,32,40,41,32,40,41,32,105,110,116,32]
@[reducible] def gAu:List UInt8:=List.append [40,109,101,116,104,111,100,32,115,104,111,119,32,109,32,40,110,101,119,32,99,111,110,115,32,49,32,40,110,101,119,32,99,111] [110,115,32,50,32,40,116,104,101,32,40,108,105,115,116,32,105,110,116,41,32,40,110,101,119,32,110,105,108,41,41,41,41,41]
@[reducible] def gAv:List UInt8:=[40,99,97,108,108,32,98,111,116,104,32,40,110,101,119,32,112,97,105,114,32,51,32,116,114,117,101,41,41]
@[reducible] def gAw:List UInt8:=[40,43,32,40,99,97,108,108,32,105,100,32,52,41,32,40,109,101,116,104,111,100,32,115,104,111,119,32,109,32,40,110,101,119,32,116,97,103,32,55,41,41,41]
@[reducible] def gAx:List UInt8:=List.append [40,108,101,116,32,122,32,40,109,101,116,104,111,100,32,97,100,100,32,112,108,117,115,32,40,110,101,119,32,98,111,120,32,49] [41,32,40,110,101,119,32,98,111,120,32,50,41,41,32,40,99,97,115,101,32,122,32,40,98,111,120,32,110,32,110,41,41,41]
@[reducible] def gAy:List UInt8:=[40,109,101,116,104,111,100,32,115,104,111,119,32,109,32,40,110,101,119,32,110,105,108,41,41]
@[reducible] def gAz:List UInt8:=[40,109,101,116,104,111,100,32,115,104,111,119,32,109,32,40,112,97,99,107,32,115,104,111,119,32,51,41,41]
@[reducible] def gA0:List UInt8:=[40,105,102,32,40,109,101,116,104,111,100,32,111,114,100,32,108,101,115,115,32,49,32,50,41,32,40,99,97,108,108,32,98,111,116,104,32,116,114,117,101,41,32,48,41]
@[reducible] def gA1:List UInt8:=List.append [40,109,101,116,104,111,100,32,115,104,111,119,32,109,32,40,110,101,119,32,99,111,110,115,32,40,110,101,119,32,116,97] [103,32,49,41,32,40,116,104,101,32,40,108,105,115,116,32,116,97,103,41,32,40,110,101,119,32,110,105,108,41,41,41,41]
@[reducible] def gA2:List UInt8:=[40,99,97,108,108,32,98,111,116,104,32,40,99,97,108,108,32,105,100,32,40,99,97,108,108,32,105,100,32,40,110,101,119,32,116,97,103,32,50,41,41,41,41]
@[reducible] def gG9:List UInt8:=List.append [32,40,102,110,32,108,101,110,32,40,97,41,32,40,41,32,40,40,120,32,40,108,105,115,116,32,39,97,41,41,41,32,105,110,116,32,40,99,97,115,101] [32,120,32,40,110,105,108,32,48,41,32,40,99,111,110,115,32,104,32,116,32,40,43,32,49,32,40,99,97,108,108,32,108,101,110,32,116,41,41,41,41,41]
@[reducible] def gHa:List UInt8:=List.append [32,40,102,110,32,115,117,109,32,40,97,41,32,40,40,97,100,100,32,39,97,41,41,32,40,40,120,32,39,97,41,32,40,121,32,39,97,41] [41,32,40,97,115,115,111,99,32,97,100,100,32,39,97,41,32,40,109,101,116,104,111,100,32,97,100,100,32,112,108,117,115,32,120,32,121,41,41]
@[reducible] def gHb:List UInt8:=List.append [32,40,102,110,32,103,114,111,119,32,40,97,41,32,40,40,115,104,111,119,32,39,97,41,41,32,40,40,110,32,105,110,116,41,32,40,120,32,39,97,41,41,32,105,110,116,32,40,105,102,32,40,60,32,110,32] [49,41,32,40,109,101,116,104,111,100,32,115,104,111,119,32,109,32,120,41,32,40,99,97,108,108,32,103,114,111,119,32,40,45,32,110,32,49,41,32,40,110,101,119,32,112,97,105,114,32,120,32,120,41,41,41,41]
def gN0(c:jH):Option (List UInt8 × jH):=
bnd (gAi c 8) fun h=>
bnd ((cnd (h.1==0) (
gd (kU.length+gCo.length≤4294967296) (
(some (kU++gCo)))) (
(cnd (h.1==1) (
gd (kU.length+gCp.length≤4294967296) (
(some (kU++gCp)))) (
(cnd (h.1==2) (
gd (kU.length+gCq.length≤4294967296) (
(some (kU++gCq)))) (
(cnd (h.1==3) (
gd (kU.length+gCr.length≤4294967296) (
(some (kU++gCr)))) (
(cnd (h.1==4) (
gd (kU.length+gCs.length≤4294967296) (
(some (kU++gCs)))) (
(cnd (h.1==5) (
gd (kU.length+gCt.length≤4294967296) (
(some (kU++gCt)))) (
gd (kU.length+gCu.length≤4294967296) (
(some (kU++gCu)))))))))))))))) fun b2=>
gd (b2.length+yH.length≤4294967296) (
bnd (gGm h.2 [[40,99,97,108,108,32,98,111,116,104,32,53,41],gAu,gAv,gAw,gAx,gAy,gAz,gA0,gA1,gA2]) fun f=>
gd ((b2++yH).length+f.1.length≤4294967296) (
gd (((b2++yH)++f.1).length+([41]:List UInt8).length≤4294967296) (
bnd (gC8 f.2 2) fun ac=>
bnd ((cnd ac.1 (
gd ((((b2++yH)++f.1)++([41]:List UInt8)).length+gG9.length≤4294967296) (
(some ((((b2++yH)++f.1)++([41]:List UInt8))++gG9)))) (
(some (((b2++yH)++f.1)++([41]:List UInt8)))))) fun y=>
bnd (gC8 ac.2 3) fun ad=>
bnd ((cnd ad.1 (
gd (y.length+gHa.length≤4294967296) (
(some (y++gHa)))) (
(some y)))) fun aa=>
bnd (gC8 ad.2 4) fun ae=>
bnd ((cnd ae.1 (
gd (aa.length+gHb.length≤4294967296) (
(some (aa++gHb)))) (
(some aa)))) fun ag=>
gd (ag.length+([41]:List UInt8).length≤4294967296) (
(some ((ag++([41]:List UInt8)),ae.2))))))
set_option maxRecDepth 100000 in
theorem hMf(c:jH){r:List UInt8 × jH}(h:gN0 c=some r):Go.Eng.Spec Tryz.prog 74 [.ptr 0 0] [bCu c.b c.i c.h] (fun sv Lo=>sv=.S r.1∧Lo=[bCu r.2.b r.2.i r.2.h]):=by
 obtain⟨a3,a4,a5⟩:=c;unfold gN0 at h;refine kM 1 Tryz.func74 rfl (by kernel_rfl) rfl rfl fun A _=>?_;refine goL ?_;obtain⟨⟨bt,⟨ai,aj,ak⟩⟩,a6,h⟩:=gP h;refine gAr 0 (gEc (jH.mk a3 a4 a5) 8 a6) ?_;refine goL ?_;obtain⟨b2,hb2,h⟩:=gP h;refine gEf ⟨[(0,.ptr 0 0),(3,.S b2)],[bCu ai aj ak],Tryz.f74.ntmps⟩ ?_ ?_
 ·refine jE ?_;refine goL ?_;refine kX (fun c3=>?_) (fun c3=>?_)
  ·replace hb2:=kD c3 hb2;refine goL ?_;obtain⟨g4,hb2⟩:=mW hb2;refine jL (wO g4) ?_;cases hb2;exact eJ
  ·replace hb2:=kE c3 hb2;refine goL ?_;refine kX (fun c5=>?_) (fun c5=>?_)
   ·replace hb2:=kD c5 hb2;refine goL ?_;obtain⟨g6,hb2⟩:=mW hb2;refine jL (wO g6) ?_;cases hb2;exact eJ
   ·replace hb2:=kE c5 hb2;refine goL ?_;refine kX (fun c7=>?_) (fun c7=>?_)
    ·replace hb2:=kD c7 hb2;refine goL ?_;obtain⟨g8,hb2⟩:=mW hb2;refine jL (wO g8) ?_;cases hb2;exact eJ
    ·replace hb2:=kE c7 hb2;refine goL ?_;refine kX (fun c9=>?_) (fun c9=>?_)
     ·replace hb2:=kD c9 hb2;refine goL ?_;obtain⟨bb,hb2⟩:=mW hb2;refine jL (wO bb) ?_;cases hb2;exact eJ
     ·replace hb2:=kE c9 hb2;refine goL ?_;refine kX (fun ao=>?_) (fun ao=>?_)
      ·replace hb2:=kD ao hb2;refine goL ?_;obtain⟨bc,hb2⟩:=mW hb2;refine jL (wO bc) ?_;cases hb2;exact eJ
      ·replace hb2:=kE ao hb2;refine goL ?_;refine kX (fun ap=>?_) (fun ap=>?_)
       ·replace hb2:=kD ap hb2;refine goL ?_;obtain⟨bd,hb2⟩:=mW hb2;refine jL (wO bd) ?_;cases hb2;exact eJ
       ·replace hb2:=kE ap hb2;refine goL ?_;obtain⟨be,hb2⟩:=mW hb2;refine jL (wO be) ?_;cases hb2;exact eJ
 refine goL ?_;obtain⟨bf,h⟩:=mW h;refine jL (wO bf) ?_;refine gSp (us:=jP [[40,99,97,108,108,32,98,111,116,104,32,53,41],gAu,gAv,gAw,gAx,gAy,gAz,gA0,gA1,gA2]) ?_;refine uZ 1 rfl rfl ?_;obtain⟨⟨bg,⟨al,am,an⟩⟩,av,h⟩:=gP h;refine gAr 0 (gQl (jH.mk ai aj ak) [[40,99,97,108,108,32,98,111,116,104,32,53,41],gAu,gAv,gAw,gAx,gAy,gAz,gA0,gA1,gA2] av) ?_;obtain⟨bh,h⟩:=mW h;refine qI (wO bh) ?_;obtain⟨bi,h⟩:=mW h;refine jL (wO bi) ?_;obtain⟨⟨bj,⟨f,y,aa⟩⟩,aw,h⟩:=gP h;refine gAr 0 (gIw (jH.mk al am an) 2 aw) ?_;refine goL ?_;obtain⟨bk,hb21,h⟩:=gP h;refine gEf ⟨[(0,.ptr 0 0),(3,.S bk)],[bCu f y aa,.frz 9 1 0 (jP [[40,99,97,108,108,32,98,111,116,104,32,53,41],gAu,gAv,gAw,gAx,gAy,gAz,gA0,gA1,gA2])],Tryz.f74.ntmps⟩ ?_ ?_
 ·refine kX (fun aq=>?_) (fun aq=>?_)
  ·replace hb21:=kD aq hb21;refine goL ?_;obtain⟨bl,hb21⟩:=mW hb21;refine jL (wO bl) ?_;cases hb21;exact eJ
  ·replace hb21:=kE aq hb21;refine zA ?_;cases hb21;exact eJ
 refine goL ?_;obtain⟨⟨bm,⟨ab,ac,ad⟩⟩,ax,h⟩:=gP h;refine gAr 0 (gIw (jH.mk f y aa) 3 ax) ?_;refine goL ?_;obtain⟨bn,hb25,h⟩:=gP h;refine gEf ⟨[(0,.ptr 0 0),(3,.S bn)],[bCu ab ac ad,.frz 9 1 0 (jP [[40,99,97,108,108,32,98,111,116,104,32,53,41],gAu,gAv,gAw,gAx,gAy,gAz,gA0,gA1,gA2])],Tryz.f74.ntmps⟩ ?_ ?_
 ·refine kX (fun ar=>?_) (fun ar=>?_)
  ·replace hb25:=kD ar hb25;refine goL ?_;obtain⟨bo,hb25⟩:=mW hb25;refine jL (wO bo) ?_;cases hb25;exact eJ
  ·replace hb25:=kE ar hb25;refine zA ?_;cases hb25;exact eJ
 refine goL ?_;obtain⟨⟨bp,⟨ae,ag,ah⟩⟩,ay,h⟩:=gP h;refine gAr 0 (gIw (jH.mk ab ac ad) 4 ay) ?_;refine goL ?_;obtain⟨a0,hb29,h⟩:=gP h;refine gEf ⟨[(3,.S a0)],[bCu ae ag ah,.frz 9 1 0 (jP [[40,99,97,108,108,32,98,111,116,104,32,53,41],gAu,gAv,gAw,gAx,gAy,gAz,gA0,gA1,gA2])],Tryz.f74.ntmps⟩ ?_ ?_
 ·refine kX (fun au=>?_) (fun au=>?_)
  ·replace hb29:=kD au hb29;refine goL ?_;obtain⟨bq,hb29⟩:=mW hb29;refine jL (wO bq) ?_;cases hb29;exact eJ
  ·replace hb29:=kE au hb29;refine zA ?_;cases hb29;exact eJ
 refine goL ?_;obtain⟨br,h⟩:=mW h;refine jL (wO br) ?_;refine jK ?_;obtain rfl:=Option.some.inj h;exact zB [.d (.s (a0++([41]:List UInt8)))] [bCu ae ag ah] ⟨rfl,rfl⟩
def gCv(x1:Int × jH):Nat→(List UInt8)→Int→Int→(List gY)→Int→Option (List gY × jH)
 | 0,y2,y3,y4,y5,y7=>none
 | n8+1,y2,y3,y4,y5,y7=>(cnd (decide (y7 < x1.1)) (
bnd (gGm (jH.mk y2 y3 y4) [[115,104,111,119],[111,114,100],[97,100,100]]) fun f=>
bnd (gGm f.2 [[97],[98]]) fun c=>
lt_ (wG c.1) fun y=>
gd (y5.length+[(gY.mk f.1 y)].length≤4294967296) (
gCv x1 n8 c.2.b c.2.i c.2.h (y5++[(gY.mk f.1 y)]) (IntKind.i64.wrap (y7+1)))) (
(some (y5,(jH.mk y2 y3 y4)))))
def gL8(c:jH)(y:Nat):Option (List gY × jH):=
bnd (gAi c 3) fun f=>
gCv f y f.2.b f.2.i f.2.h [] 0
theorem hEm(c:jH){n0:Nat}{r:List gY × jH}(h:gL8 c n0=some r):Go.Eng.Spec Tryz.prog 19 [.ptr 0 0] [bCu c.b c.i c.h] (fun sv Lo=>sv=.L 4 (kV r.1)∧Lo=[bCu r.2.b r.2.i r.2.h]):=by
 obtain⟨a3,a4,a5⟩:=c;unfold gL8 at h;refine kM 1 Tryz.func19 rfl (by kernel_rfl) rfl rfl fun A _=>?_;refine goL ?_;refine gAl ?_;refine goL ?_;obtain⟨⟨am,⟨f,y,aa⟩⟩,a6,h⟩:=gP h;refine gAr 0 (gEc (jH.mk a3 a4 a5) 3 a6) ?_;refine goL ?_;refine noB ?_;refine hIc (fun(n8:Nat) (y2:List UInt8) (y3:Int) (y4:Int) (y5:List gY) (y7:Int) (v6:Nat)=>⟨[(0,.ptr 0 0),(3,.sl 1 v6),(4,.I am),(5,.I y7)],[bCu y2 y3 y4,.arr 73 4 v6 (kV y5)],Tryz.f19.ntmps⟩) (fun n8 y2 y3 y4 y5 y7 v6=>gCv (am,(jH.mk f y aa)) n8 y2 y3 y4 y5 y7=some r) (fun n8 y2 y3 y4 y5 y7 v6=>n8) n0 f y aa [] 0 0 eJ h ?_;rintro n8 y2 y3 y4 y5 y7 v6 h;rcases n8 with _ | n8
 ·cases h
 rw [gCv.eq_2] at h;refine goC h ?_ ?_<;>intro c9 h
 ·refine noS ?_;refine jW (jE ?_);refine goL ?_;refine gSp (us:=jP [[115,104,111,119],[111,114,100],[97,100,100]]) ?_;refine uZ 2 rfl rfl ?_;obtain⟨⟨ab,⟨ac,ad,ae⟩⟩,ax,h⟩:=gP h;refine gAr 0 (gQl (jH.mk y2 y3 y4) [[115,104,111,119],[111,114,100],[97,100,100]] ax) ?_;refine goL ?_;refine gSp (us:=jP [[97],[98]]) ?_;refine uZ 3 rfl rfl ?_;obtain⟨⟨au,⟨ag,ah,ai⟩⟩,ay,h⟩:=gP h;refine gAr 0 (gQl (jH.mk ac ad ae) [[97],[98]] ay) ?_;obtain⟨⟨aj,ak,al⟩,a0,h⟩:=qB h;have sx12:=gM2 au;rw [a0] at sx12;refine qI (gF (sx12)) ?_;refine gAq (jU TBd.h TZ.h rfl (by repeat constructor)) ?_;refine gAk (u:=(.st [.s ab,.st [.i .i64 aj,.s ak,.sl 3 (jJ al)]])) ?_;obtain⟨a7,h⟩:=mW h;refine gBd a7 ?_;refine goL ?_;refine jL (pR) ?_;exact⟨n8,ag,ah,ai,(y5++[(gY.mk ab (gB.mk aj ak al))]),(IntKind.i64.wrap (y7+1)),(v6+1),h,Nat.lt_succ_self _,eJ⟩
 ·refine goX ?_;refine kN 1 rfl rfl ?_;refine jK ?_;obtain rfl:=Option.some.inj h;exact hLc [.L 4 (kV y5)] [bCu y2 y3 y4] ⟨rfl,rfl⟩
def gRu(c:jH):Option (List gY × jH):=gL8 c 5000
def gJw  :Option (gB):=
bnd (gI0 [105,110,116] []) fun c=>
(some c)
theorem gZr  {r:gB}(h:gJw  =some r):jC Tryz.prog 32 [] [jS r]:=by
 unfold gJw at h;refine SpI Tryz.func32 fun A _=>?_;refine goL ?_;obtain⟨⟨f,y,aa⟩,c,h⟩:=gP h;refine qI (gF (gOy _ _ c)) ?_;exact goR h
end Go.Proofs.YtegahmhnmjnhhaaGreat
