import Derived.Test.YtfpdlnkkcnmebaaGreatWd2
import Derived.Test.YtfpdlnkkcnmebaaGreatF3
set_option maxHeartbeats 4000000
set_option linter.unusedVariables false
set_option linter.unusedSimpArgs false
set_option linter.unusedSectionVars false
namespace Go.Proofs.YtfpdlnkkcnmebaaGreat
open Go Go.Eng
attribute [local irreducible] V VO VQ VY Quiet QR jF mJ Rng qI qJ qB
def Dk{α:Type}(p:α→Prop)(o:Option (α × gN)):Prop:=∃x c',o=some (x,c')∧gBc c'∧p x
section
variable {α β:Type}{p:α→Prop}{q:β→Prop}
theorem dkB{f:Option (β × gN)}{k:β × gN→Option (α × gN)}(h:Dk q f)(hk:∀x c',gBc c'→q x→Dk p (k (x,c'))):Dk p (bnd f k):=by
 obtain⟨x,c',e,c,y⟩:=h;rw [kF e];exact hk x c' c y
theorem dkC{b:Bool}{x y:Option (α × gN)}(c:b=true→Dk p x)(f:b=false→Dk p y):Dk p (cnd b x y):=by
 cases b with
 | true=>exact c rfl
 | false=>exact f rfl
theorem dkG{P:Prop} [Decidable P]{x:Option (α × gN)}(hP:P)(h:Dk p x):Dk p (gd P x):=by rw [uF hP];exact h
theorem dkS{c:gN}{x:α}(hc:gBc c)(h:p x):Dk p (some (x,c)):=⟨x,c,rfl,hc,h⟩
theorem dkO{f:Option β}{k:β→Option (α × gN)}{x:β}(e:f=some x)(h:Dk p (k x)):Dk p (bnd f k):=by rw [kF e];exact h
end
theorem gRb{c:gN}{n:Int}(h:gBc c)(f:0 < n)(y:n≤256):Dk (fun x=>0≤x∧x < n) (mX c n):=by
 obtain⟨x,c',e,e1,e2,e3⟩:=gO7 c n h f y;exact⟨x,c',e,e3,e1,e2⟩
theorem gTi{c:gN}{l:LS}(h:gBc c)(f:0 < l.length)(y:l.length≤256):Dk (fun x=>x∈l) (qE c l):=by
 obtain⟨x,c',e,e1,e2⟩:=hDu c l h f y;exact⟨x,c',e,e1,e2⟩
theorem gZt{c:gN}{n:Int}(h:gBc c)(f:0 < n)(y:n≤256):Dk (fun _=>True) (vH c n):=by
 obtain⟨x,c',e,e1⟩:=gN0 c n h f y;exact⟨x,c',e,e1,trivial⟩
theorem hMr(d:Nat)(h:d≤8):IntKind.i64.wrap (((d+1:Nat):Int) - 1)=(d:Int):=by
 rw [gAb _ (by omega) (by omega)];omega
theorem gQr(s:LB)(args:List gB)(h:args.length≤4294967296):gCq s args=some ⟨2,s,args⟩:=by
 unfold gCq;rw [uF (by simpa using h)];rfl
theorem int_eq:gE3=some ⟨2,[105,110,116],[]⟩:=rfl
def TK(n:Nat)(t:gB):Prop:=tok t∧dyS t∧tnd t+1≤n
theorem TK.more{n m:Nat}{t:gB}(h:TK n t)(hm:n≤m):TK m t:=⟨h.1,h.2.1,Nat.le_trans h.2.2 hm⟩
theorem TK.mk{n:Nat}{k:Int}{s:LB}{ts:List gB}(hk:k=4→s=gJp)(h:∀t∈ts,tok t∧dyS t)(hl:ts.length≤10)(hn:gGj ts+2≤n):TK n ⟨k,s,ts⟩:=by
 refine⟨?_,⟨hk,gTr.2 fun t ht=>(h t ht).2⟩,by simp only [tnd];omega⟩;simp only [tok];exact⟨by omega,gI7.2 fun t ht=>(h t ht).1⟩
theorem TK.nil{k:Int}{s:LB}(hk:k=4→s=gJp):TK 2 ⟨k,s,[]⟩:=.mk hk (by simp) (by simp) (by simp [gGj])
theorem TK.one{n:Nat}{k:Int}{s:LB}{t:gB}(hk:k=4→s=gJp)(h:TK n t):TK (n+1) ⟨k,s,[t]⟩:=.mk hk (fun u hu=>by obtain rfl:=List.mem_singleton.1 hu;exact⟨h.1,h.2.1⟩) (by simp) (by have:=h.2.2;simp only [gGj];omega)
theorem tyK(vars:LS)(hv:vars.length≤256):∀(n d:Nat),d < n→d≤8→∀c,gBc c→Dk (TK (2^(d+1))) (gM0 n c vars (d:Int))
 | 0,d,h,_=>by omega
 | n+1,d,h,h8=>fun c hc=>by
   have hp:2≤2^(d+1):=by have:=Nat.one_le_two_pow (n:=d);rw [Nat.pow_succ];omega
   rw [gM0.eq_2];unfold gYf;refine dkB (gRb hc (by omega) (by omega)) fun x c1 h1 hx=>?_;simp only [lt_];refine dkC (fun e=>?_) fun _=>?_
   ·have hl:0 < vars.length:=by
     cases aa:decide (x < 3)with
     | true=>
       rw [aa] at e
       have:=of_decide_eq_true (show decide ((vars.length:Int) > 0)=true from e)
       omega
     | false=>
       rw [aa] at e;cases e
    refine dkB (gRb h1 (by omega) (by omega)) fun y c2 f hy=>?_
    have:at? vars y=some (vars[y.toNat]'(by omega)):=by unfold at?;rw [if_pos hy.1];exact List.getElem?_eq_getElem _
    exact dkO this (dkS f ((TK.nil (fun h=>absurd h (by decide))).more hp))
   ·refine dkC (fun _=>?_) fun e=>?_
    ·refine dkB (gTi h1 (by simp) (by simp)) fun y c2 f _=>?_;exact dkO (gQr _ _ (by simp)) (dkS f ((TK.nil (fun h=>absurd h (by decide))).more hp))
    ·have hd:0 < d:=by
      cases ab:decide (x < 5)with
      | true=>
        rw [ab] at e;cases e
      | false=>
        rw [ab] at e
        have:=of_decide_eq_false (show decide ((d:Int)≤0)=false from e)
        omega
     obtain⟨d,rfl⟩:∃e,d=e+1:=⟨d - 1,by omega⟩
     rw [hMr d (by omega)];have hq:2^(d+1+1)=2^(d+1)+2^(d+1):=by rw [Nat.pow_succ];omega
     have hp1:2≤2^(d+1):=by have:=Nat.one_le_two_pow (n:=d);rw [Nat.pow_succ];omega
     have hrec:=fun c hc=>tyK vars hv n d (by omega) (by omega) c hc;refine dkC (fun _=>?_) fun _=>?_
     ·refine dkB (hrec _ h1) fun t1 c2 f k1=>dkB (hrec _ f) fun t2 c3 h3 k2=>?_;refine dkO (gQr _ _ (by simp)) (dkS h3 (.mk (fun h=>absurd h (by decide)) (fun u hu=>?_) (by simp) ?_))
      ·simp only [List.mem_cons,List.not_mem_nil,or_false] at hu;rcases hu with rfl | rfl
       ·exact⟨k1.1,k1.2.1⟩
       ·exact⟨k2.1,k2.2.1⟩
      ·have:=k1.2.2
       have:=k2.2.2
       simp only [gGj];omega
     ·refine dkB (gTi h1 (by simp) (by simp)) fun y c2 f _=>dkB (hrec _ f) fun t1 c3 h3 k1=>?_;exact dkO (gQr _ _ (by simp)) (dkS h3 ((k1.one (fun h=>absurd h (by decide))).more (by omega)))
theorem gYb:∀n,gLw n=gM0 n
 | 0=>rfl
 | n+1=>by
   funext c vars d;rw [gLw.eq_2,gM0.eq_2,gYb n];rfl
theorem hCl(s:LB){t:gB}(h:tok t):gK5 s t=some ⟨3,s,[t]⟩:=by
 unfold gK5;rw [uF h];rfl
theorem hCm(d:Nat)(hd:d≤3){c:gN}(hc:gBc c):Dk (TK (2^(d+1)+2)) (zL c (d:Int)):=by
 have hp:2≤2^(d+1):=by have:=Nat.one_le_two_pow (n:=d);rw [Nat.pow_succ];omega
 unfold zL;refine dkB (tyK [[97],[98]] (by simp) 5000 d (by omega) (by omega) c hc) fun t c1 h1 k=>dkB (gRb h1 (by omega) (by omega)) fun x c2 f _=>?_;refine dkC (fun _=>?_) fun _=>dkC (fun _=>?_) fun _=>dkC (fun _=>?_) fun _=>?_
 ·refine dkB (gTi f (by simp) (by simp)) fun y c3 h3 _=>?_;exact dkO (hCl y k.1) (dkS h3 ((k.one (fun h=>absurd h (by decide))).more (by omega)))
 ·exact dkO (hCl _ k.1) (dkO (gQr _ _ (by simp)) (dkS f (((k.one (fun h=>absurd h (by decide))).one (fun h=>absurd h (by decide))).more (by omega))))
 ·exact dkS f ((TK.nil fun _=>rfl).more (by omega))
 ·exact dkS f (k.more (by omega))
def Cp(n:Nat)(e:gU):Prop:=∀m,n≤m→∃r,gIa m e=some r
theorem Cp.more{n m:Nat}{e:gU}(h:Cp n e)(hm:n≤m):Cp m e:=fun k hk=>h k (by omega)
theorem hCn{rec:gU→Option gU}(e:gU)(y:List gU):∀(az:List gH0)(acc:List gH0),(∀a∈az,a.vars.length≤1000∧∃r,rec a.body=some r)→acc.length+az.length≤100000→∃r,gBt rec e y az acc=some r
 | [],acc,_,_=>⟨_,rfl⟩
 | a::az,acc,h,hl=>by
   obtain⟨f,r,c⟩:=h a (by simp);simp only [List.length_cons] at hl;rw [gBt,uF (by simp;omega),kF c,uF (by simp;omega)];exact hCn e y az _ (fun b hb=>h b (by simp [hb])) (by simp;omega)
theorem hCo{rec:gU→Option gU}(e:gU)(hr:∀a∈e.arms,a.vars.length≤1000∧∃r,rec a.body=some r)(hn:e.arms.length≤1000):∀(az:List gU)(acc:List gU),(∀a∈az,∃r,rec a=some r)→acc.length+az.length≤100000→∃r,gBu rec e az acc=some r
 | [],acc,_,_=>hCn e acc e.arms [] hr (by simp;omega)
 | a::az,acc,h,hl=>by
   obtain⟨r,c⟩:=h a (by simp);simp only [List.length_cons] at hl;rw [gBu,kF c,uF (by simp;omega)];exact hCo e hr hn az _ (fun b hb=>h b (by simp [hb])) (by simp;omega)
theorem Cp.mk{n:Nat}{e:gU}(ht:gZn e.type_.args)(ha:∀a∈e.args,Cp n a)(hr:∀a∈e.arms,a.vars.length≤1000∧Cp n a.body)(f:e.args.length≤1000)(c:e.arms.length≤1000):Cp (n+1) e:=by
 intro m hm;obtain⟨m,rfl⟩:∃k,m=k+1:=⟨m - 1,by omega⟩
 rw [gIa];unfold gMf;rw [uF ht];exact hCo e (fun a h=>⟨(hr a h).1,(hr a h).2 m (by omega)⟩) c e.args [] (fun a h=>ha a h m (by omega)) (by simp;omega)
theorem Cp.args{n:Nat}{k i:Int}{s u v:LB}{j:Int}{l:List gU}(ha:∀a∈l,Cp n a)(c:l.length≤1000):Cp (n+1) ⟨k,s,u,i,⟨j,v,[]⟩,l,[]⟩:=.mk ⟨by simp,trivial⟩ ha (by simp) c (by simp)
theorem Cp.leaf{n:Nat}{k i:Int}{s u v:LB}{j:Int}:Cp (n+1) ⟨k,s,u,i,⟨j,v,[]⟩,[],[]⟩:=.args (by simp) (by simp)
theorem gZg(k:Int)(s:LB)(l:List gU)(h:l.length≤4294967296):gH4 k s l=some ⟨k,[],s,0,⟨0,[],[]⟩,l,[]⟩:=by
 unfold gH4;rw [uF (by simpa using h)];rfl
theorem exK:∀(n d:Nat)(vars:LS),d < n→d≤8→vars.length+2*d≤200→∀c,gBc c→Dk (Cp (d+1)) (gBy n c vars (d:Int))
 | 0,d,_,h,_,_=>by omega
 | n+1,d,vars,h,h8,hv=>fun c hc=>by
   rw [gBy.eq_2];unfold gMs;refine dkB (gRb hc (by omega) (by omega)) fun x c1 h1 hx=>?_;obtain⟨b2,e2,h2⟩:∃b2,(cnd (decide ((d:Int)≤0)) (gd ((3:Int)≠0) (some (Int.tmod x 3))) (some x))=some b2∧(d=0→b2 < 4):=by
    cases hd:decide ((d:Int)≤0)with
    | true=>exact⟨_,uF (by decide),fun _=>by have:=Int.tmod_lt_of_pos x (show(0:Int) < 3 by decide);omega⟩
    | false=>exact⟨_,rfl,fun e=>by have:=of_decide_eq_false hd;omega⟩
   refine dkO e2 ?_;have hrec:∀(vs:LS),vs.length≤vars.length+2→4≤b2→∀c,gBc c→Dk (Cp d) (gBy n c vs (IntKind.i64.wrap ((d:Int) - 1))):=fun vs hvs hb c hc=>by
    obtain⟨d,rfl⟩:∃e,d=e+1:=⟨d - 1,by have:d≠0:=fun e=>by have:=h2 e;omega
                                      omega⟩
    rw [hMr d (by omega)];exact exK n d vs (by omega) (by omega) (by omega) c hc
   have hr:=hrec vars (by omega);have hb:∀{k:Int},(b2==k)=true→4≤k→4≤b2:=fun e hk=>by have:=eq_of_beq e;omega
   have hint:Dk (Cp (d+1)) (bnd (mX c1 20) fun ak=>lt_ (gE5 (IntKind.i64.wrap (ak.1 - 5))) fun ap=>some (ap,ak.2)):=
    dkB (gRb h1 (by omega) (by omega)) fun y c2 h2 _=>dkS h2 .leaf
   refine dkC (fun _=>dkB (gRb h1 (by omega) (by omega)) fun y c2 h2 _=>dkS h2 .leaf) fun _=>?_;obtain⟨b7,e7⟩:∃b7,(cnd (b2==2) (some (b2==2)) (some (b2==3)):Option Bool)=some b7:=by
    cases (b2==2)with
    | true=>exact⟨_,rfl⟩
    | false=>exact⟨_,rfl⟩
   refine dkO e7 (dkC (fun _=>?_) fun _=>?_)
   ·refine dkC (fun e=>?_) fun _=>hint
    have:=of_decide_eq_true e
    exact dkB (gTi h1 (by omega) (by omega)) fun y c2 h2 _=>dkS h2 .leaf
   refine dkC (fun e=>?_) fun _=>dkC (fun e=>?_) fun _=>dkC (fun e=>?_) fun _=>dkC (fun e=>?_) fun _=>dkC (fun e=>?_) fun _=>dkC (fun e=>?_) fun _=>dkC (fun e=>?_) fun _=>dkC (fun e=>?_) fun _=>dkC (fun e=>?_) fun _=>hint
   ·have hr:=hr (hb e (by omega));refine dkB (gTi h1 (by simp) (by simp)) fun y c2 h2 _=>dkB (hr _ h2) fun t1 c3 f k1=>?_;exact dkO (gZg 4 y [t1] (by simp)) (dkS f (.args (by simpa using k1) (by simp)))
   ·have hr:=hr (hb e (by omega));exact dkB (gTi h1 (by simp) (by simp)) fun y c2 h2 _=>dkB (hr _ h2) fun t1 c3 f k1=>dkB (hr _ f) fun t2 c4 h4 k2=>dkS h4 (.args (by simp [k1,k2]) (by simp))
   ·have hr:=hr (hb e (by omega));refine dkB (hr _ h1) fun t1 c3 f k1=>dkB (hr _ f) fun t2 c4 h4 k2=>?_;exact dkO (gZg 6 [99,111,110,115] [t1,t2] (by simp)) (dkS h4 (.args (by simp [k1,k2]) (by simp)))
   ·have h4:=hb e (by omega);have hr:=hr h4;refine dkG (by simp;omega) (dkG (by simp;omega) ?_);refine dkB (hr _ h1) fun t1 c3 f k1=>dkB (hr _ f) fun t2 c4 h4' k2=>dkB (hrec _ (by simp) h4 _ h4') fun t3 c5 h5 k3=>dkS h5 (.mk ⟨by simp,trivial⟩ (by simpa using k1) (fun a ha=>?_) (by simp) (by simp));simp only [List.mem_cons,List.not_mem_nil,or_false] at ha;rcases ha with rfl | rfl
    ·exact⟨by simp,k2⟩
    ·exact⟨by simp,k3⟩
   ·have h4:=hb e (by omega);have hr:=hr h4;refine dkB (hr _ h1) fun t1 c3 f k1=>dkG (by simp;omega) (dkG (by simp;omega) ?_);refine dkB (hrec _ (by simp) h4 _ f) fun t3 c5 h5 k2=>?_;exact dkO (gZg 8 [121] [t1,t3] (by simp)) (dkS h5 (.args (by simp [k1,k2]) (by simp)))
   ·have hr:=hr (hb e (by omega));refine dkB (hr _ h1) fun t1 c3 f k1=>dkB (hr _ f) fun t2 c4 h4 k2=>dkB (hr _ h4) fun t3 c5 h5 k3=>?_;exact dkO (gZg 9 [] [t1,t2,t3] (by simp)) (dkS h5 (.args (by simp [k1,k2,k3]) (by simp)))
   ·have hr:=hr (hb e (by omega));refine dkB (gTi h1 (by simp) (by simp)) fun y c2 h2 _=>dkB (hr _ h2) fun t1 c3 f k1=>dkB (hr _ f) fun t2 c4 h4 k2=>?_;exact dkO (gZg 10 y [t1,t2] (by simp)) (dkS h4 (.args (by simp [k1,k2]) (by simp)))
   ·have hr:=hr (hb e (by omega));exact dkB (hr _ h1) fun t1 c3 f k1=>dkS f (.args (by simpa using k1) (by simp))
   ·have hr:=hr (hb e (by omega));refine dkB (tyK [[97]] (by simp) 5000 1 (by omega) (by omega) _ h1) fun t1 c3 f k0=>dkB (hr _ f) fun t2 c4 h4 k1=>dkS h4 (.mk ?_ (by simpa using k1) (by simp) (by simp) (by simp));obtain⟨a,b,ts⟩:=t1
    have:=k0.1
    simp only [tok] at this;exact this
end Go.Proofs.YtfpdlnkkcnmebaaGreat
