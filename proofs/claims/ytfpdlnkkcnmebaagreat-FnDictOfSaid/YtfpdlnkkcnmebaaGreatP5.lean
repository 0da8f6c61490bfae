import Derived.Test.YtfpdlnkkcnmebaaGreatP2
import Derived.Test.YtfpdlnkkcnmebaaGreatWd2
set_option maxHeartbeats 4000000
set_option linter.unusedVariables false
set_option linter.unusedSimpArgs false
set_option linter.unusedSectionVars false
namespace Go.Proofs.YtfpdlnkkcnmebaaGreat
open Go Go.Eng
attribute [local irreducible] V VO VQ VY Quiet QR jI mK Rng qE qA pX
def Dk{α:Type}(p:α→Prop)(o:Option (α × gK)):Prop:=∃x c',o=some (x,c')∧vX c'∧p x
section
variable {α β:Type}{p:α→Prop}{q:β→Prop}
theorem dkB{f:Option (β × gK)}{k:β × gK→Option (α × gK)}(h:Dk q f)(hk:∀x c',vX c'→q x→Dk p (k (x,c'))):Dk p (bnd f k):=by
 obtain⟨x,c',e,y,h2⟩:=h;rw [jV e];exact hk x c' y h2
theorem dkC{b:Bool}{x y:Option (α × gK)}(f:b=true→Dk p x)(h:b=false→Dk p y):Dk p (cnd b x y):=by
 cases b with
 | true=>exact f rfl
 | false=>exact h rfl
theorem dkG{P:Prop} [Decidable P]{x:Option (α × gK)}(hP:P)(h:Dk p x):Dk p (gd P x):=by rw [qN hP];exact h
theorem dkS{c:gK}{x:α}(hc:vX c)(h:p x):Dk p (some (x,c)):=⟨x,c,rfl,hc,h⟩
theorem dkO{f:Option β}{k:β→Option (α × gK)}{x:β}(e:f=some x)(h:Dk p (k x)):Dk p (bnd f k):=by rw [jV e];exact h
theorem dkM{p':α→Prop}{f:Option (α × gK)}(h:Dk p f)(hp:∀x,p x→p' x):Dk p' f:=by
 obtain⟨x,c',e,y,h2⟩:=h;exact⟨x,c',e,y,hp x h2⟩
end
theorem gMq{c:gK}{n:Int}(h:vX c)(f:0 < n)(y:n≤256):Dk (fun x=>0≤x∧x < n) (kW c n):=by
 obtain⟨x,c',e,e1,e2,e3⟩:=gOd c n h f y;exact⟨x,c',e,e3,e1,e2⟩
theorem gP7{c:gK}{l:LS}(h:vX c)(f:0 < l.length)(y:l.length≤256):Dk (fun x=>x∈l) (pK c l):=by
 obtain⟨x,c',e,e1,e2⟩:=hGt c l h f y;exact⟨x,c',e,e1,e2⟩
theorem gX1{c:gK}{n:Int}(h:vX c)(f:0 < n)(y:n≤256):Dk (fun _=>True) (uS c n):=by
 obtain⟨x,c',e,e1⟩:=gO2 c n h f y;exact⟨x,c',e,e1,trivial⟩
theorem hNo(d:Nat)(h:d≤8):IntKind.i64.wrap (((d+1:Nat):Int) - 1)=(d:Int):=by
 rw [zV _ (by omega) (by omega)];omega
theorem gMr(s:LB)(args:List gB)(h:args.length≤4294967296):gBa s args=some ⟨2,s,args⟩:=by
 unfold gBa;rw [qN (by simpa using h)];rfl
theorem int_eq:gFo=some ⟨2,[105,110,116],[]⟩:=rfl
def TK(n:Nat)(t:gB):Prop:=tok t∧dyS t∧tnd t+1≤n
theorem TK.more{n m:Nat}{t:gB}(h:TK n t)(hm:n≤m):TK m t:=⟨h.1,h.2.1,Nat.le_trans h.2.2 hm⟩
theorem TK.mk{n:Nat}{k:Int}{s:LB}{ts:List gB}(hk:k=4→s=gFj)(h:∀t∈ts,tok t∧dyS t)(hl:ts.length≤10)(hn:gHs ts+2≤n):TK n ⟨k,s,ts⟩:=by
 refine⟨?_,⟨hk,gP6.2 fun t ht=>(h t ht).2⟩,by simp only [tnd];omega⟩;simp only [tok];exact⟨by omega,gJ7.2 fun t ht=>(h t ht).1⟩
theorem TK.nil{k:Int}{s:LB}(hk:k=4→s=gFj):TK 2 ⟨k,s,[]⟩:=.mk hk (by simp) (by simp) (by simp [gHs])
theorem TK.one{n:Nat}{k:Int}{s:LB}{t:gB}(hk:k=4→s=gFj)(h:TK n t):TK (n+1) ⟨k,s,[t]⟩:=.mk hk (fun u hu=>by obtain rfl:=List.mem_singleton.1 hu;exact⟨h.1,h.2.1⟩) (by simp) (by have:=h.2.2;simp only [gHs];omega)
theorem tyK(vars:LS)(hv:vars.length≤256):∀(n d:Nat),d < n→d≤8→∀c,vX c→Dk (TK (2^(d+1))) (gN9 n c vars (d:Int))
 | 0,d,h,_=>by omega
 | n+1,d,h,h8=>fun c hc=>by
   have hp:2≤2^(d+1):=by have:=Nat.one_le_two_pow (n:=d);rw [Nat.pow_succ];omega
   rw [gN9.eq_2];unfold gZx;refine dkB (gMq hc (by omega) (by omega)) fun x c1 h1 hx=>?_;simp only [lt_];refine dkC (fun e=>?_) fun _=>?_
   ·have hl:0 < vars.length:=by
     cases aa:decide (x < 3)with
     | true=>
       rw [aa] at e
       have:=of_decide_eq_true (show decide ((vars.length:Int) > 0)=true from e)
       omega
     | false=>
       rw [aa] at e;cases e
    refine dkB (gMq h1 (by omega) (by omega)) fun y c2 f hy=>?_
    have:at? vars y=some (vars[y.toNat]'(by omega)):=by unfold at?;rw [if_pos hy.1];exact List.getElem?_eq_getElem _
    exact dkO this (dkS f ((TK.nil (fun h=>absurd h (by decide))).more hp))
   ·refine dkC (fun _=>?_) fun e=>?_
    ·refine dkB (gP7 h1 (by simp) (by simp)) fun y c2 f _=>?_;exact dkO (gMr _ _ (by simp)) (dkS f ((TK.nil (fun h=>absurd h (by decide))).more hp))
    ·have hd:0 < d:=by
      cases ab:decide (x < 5)with
      | true=>
        rw [ab] at e;cases e
      | false=>
        rw [ab] at e
        have:=of_decide_eq_false (show decide ((d:Int)≤0)=false from e)
        omega
     obtain⟨d,rfl⟩:∃e,d=e+1:=⟨d - 1,by omega⟩
     rw [hNo d (by omega)];have hq:2^(d+1+1)=2^(d+1)+2^(d+1):=by rw [Nat.pow_succ];omega
     have hp1:2≤2^(d+1):=by have:=Nat.one_le_two_pow (n:=d);rw [Nat.pow_succ];omega
     have hrec:=fun c hc=>tyK vars hv n d (by omega) (by omega) c hc;refine dkC (fun _=>?_) fun _=>?_
     ·refine dkB (hrec _ h1) fun t1 c2 f k1=>dkB (hrec _ f) fun t2 c3 h3 k2=>?_;refine dkO (gMr _ _ (by simp)) (dkS h3 (.mk (fun h=>absurd h (by decide)) (fun u hu=>?_) (by simp) ?_))
      ·simp only [List.mem_cons,List.not_mem_nil,or_false] at hu;rcases hu with rfl | rfl
       ·exact⟨k1.1,k1.2.1⟩
       ·exact⟨k2.1,k2.2.1⟩
      ·have:=k1.2.2
       have:=k2.2.2
       simp only [gHs];omega
     ·refine dkB (gP7 h1 (by simp) (by simp)) fun y c2 f _=>dkB (hrec _ f) fun t1 c3 h3 k1=>?_;exact dkO (gMr _ _ (by simp)) (dkS h3 ((k1.one (fun h=>absurd h (by decide))).more (by omega)))
theorem gV6:∀n,gLu n=gN9 n
 | 0=>rfl
 | n+1=>by
   funext c vars d;rw [gLu.eq_2,gN9.eq_2,gV6 n];rfl
theorem hF3(s:LB){t:gB}(h:tok t):gMc s t=some ⟨3,s,[t]⟩:=by
 unfold gMc;rw [qN h];rfl
theorem hA8(d:Nat)(hd:d≤3){c:gK}(hc:vX c):Dk (TK (2^(d+1)+2)) (zT c (d:Int)):=by
 have hp:2≤2^(d+1):=by have:=Nat.one_le_two_pow (n:=d);rw [Nat.pow_succ];omega
 unfold zT;refine dkB (tyK [[97],[98]] (by simp) 5000 d (by omega) (by omega) c hc) fun t c1 h1 k=>dkB (gMq h1 (by omega) (by omega)) fun x c2 f _=>?_;refine dkC (fun _=>?_) fun _=>dkC (fun _=>?_) fun _=>dkC (fun _=>?_) fun _=>?_
 ·refine dkB (gP7 f (by simp) (by simp)) fun y c3 h3 _=>?_;exact dkO (hF3 y k.1) (dkS h3 ((k.one (fun h=>absurd h (by decide))).more (by omega)))
 ·exact dkO (hF3 _ k.1) (dkO (gMr _ _ (by simp)) (dkS f (((k.one (fun h=>absurd h (by decide))).one (fun h=>absurd h (by decide))).more (by omega))))
 ·exact dkS f ((TK.nil fun _=>rfl).more (by omega))
 ·exact dkS f (k.more (by omega))
def Cp(_:Nat)(_:gY):Prop:=True
theorem Cp.more{n m:Nat}{e:gY}(_:Cp n e)(_:n≤m):Cp m e:=trivial
theorem Cp.mk{n:Nat}{e:gY}(_:hJo e.type_.args)(_:∀a∈e.args,Cp n a)(_:∀a∈e.arms,a.vars.length≤1000∧Cp n a.body)(_:e.args.length≤1000)(_:e.arms.length≤1000):Cp (n+1) e:=trivial
theorem Cp.args{n:Nat}{k i:Int}{s u v:LB}{j:Int}{l:List gY}(_:∀a∈l,Cp n a)(_:l.length≤1000):Cp (n+1) ⟨k,s,u,i,⟨j,v,[]⟩,l,[]⟩:=trivial
theorem Cp.leaf{n:Nat}{k i:Int}{s u v:LB}{j:Int}:Cp (n+1) ⟨k,s,u,i,⟨j,v,[]⟩,[],[]⟩:=trivial
theorem hA9(k:Int)(s:LB)(l:List gY)(h:l.length≤4294967296):gI0 k s l=some ⟨k,[],s,0,⟨0,[],[]⟩,l,[]⟩:=by
 unfold gI0;rw [qN (by simpa using h)];rfl
theorem exK:∀(n d:Nat)(vars:LS),d < n→d≤8→vars.length+2*d≤200→∀c,vX c→Dk (Cp (d+1)) (gB7 n c vars (d:Int))
 | 0,d,_,h,_,_=>by omega
 | n+1,d,vars,h,h8,hv=>fun c hc=>by
   rw [gB7.eq_2];unfold gNa;refine dkB (gMq hc (by omega) (by omega)) fun x c1 h1 hx=>?_;obtain⟨b2,e2,h2⟩:∃b2,(cnd (decide ((d:Int)≤0)) (gd ((3:Int)≠0) (some (Int.tmod x 3))) (some x))=some b2∧(d=0→b2 < 4):=by
    cases hd:decide ((d:Int)≤0)with
    | true=>exact⟨_,qN (by decide),fun _=>by have:=Int.tmod_lt_of_pos x (show(0:Int) < 3 by decide);omega⟩
    | false=>exact⟨_,rfl,fun e=>by have:=of_decide_eq_false hd;omega⟩
   refine dkO e2 ?_;have hrec:∀(vs:LS),vs.length≤vars.length+2→4≤b2→∀c,vX c→Dk (Cp d) (gB7 n c vs (IntKind.i64.wrap ((d:Int) - 1))):=fun vs hvs hb c hc=>by
    obtain⟨d,rfl⟩:∃e,d=e+1:=⟨d - 1,by have:d≠0:=fun e=>by have:=h2 e;omega
                                      omega⟩
    rw [hNo d (by omega)];exact exK n d vs (by omega) (by omega) (by omega) c hc
   have hr:=hrec vars (by omega);have hb:∀{k:Int},(b2==k)=true→4≤k→4≤b2:=fun e hk=>by have:=eq_of_beq e;omega
   have hint:Dk (Cp (d+1)) (bnd (kW c1 20) fun ak=>lt_ (gFr (IntKind.i64.wrap (ak.1 - 5))) fun ap=>some (ap,ak.2)):=
    dkB (gMq h1 (by omega) (by omega)) fun y c2 h2 _=>dkS h2 .leaf
   refine dkC (fun _=>dkB (gMq h1 (by omega) (by omega)) fun y c2 h2 _=>dkS h2 .leaf) fun _=>?_;obtain⟨b7,e7⟩:∃b7,(cnd (b2==2) (some (b2==2)) (some (b2==3)):Option Bool)=some b7:=by
    cases (b2==2)with
    | true=>exact⟨_,rfl⟩
    | false=>exact⟨_,rfl⟩
   refine dkO e7 (dkC (fun _=>?_) fun _=>?_)
   ·refine dkC (fun e=>?_) fun _=>hint
    have:=of_decide_eq_true e
    exact dkB (gP7 h1 (by omega) (by omega)) fun y c2 h2 _=>dkS h2 .leaf
   refine dkC (fun e=>?_) fun _=>dkC (fun e=>?_) fun _=>dkC (fun e=>?_) fun _=>dkC (fun e=>?_) fun _=>dkC (fun e=>?_) fun _=>dkC (fun e=>?_) fun _=>dkC (fun e=>?_) fun _=>dkC (fun e=>?_) fun _=>dkC (fun e=>?_) fun _=>hint
   ·have hr:=hr (hb e (by omega));refine dkB (gP7 h1 (by simp) (by simp)) fun y c2 h2 _=>dkB (hr _ h2) fun t1 c3 f k1=>?_;exact dkO (hA9 4 y [t1] (by simp)) (dkS f (.args (by simpa using k1) (by simp)))
   ·have hr:=hr (hb e (by omega));exact dkB (gP7 h1 (by simp) (by simp)) fun y c2 h2 _=>dkB (hr _ h2) fun t1 c3 f k1=>dkB (hr _ f) fun t2 c4 h4 k2=>dkS h4 (.args (by simp [k1,k2]) (by simp))
   ·have hr:=hr (hb e (by omega));refine dkB (hr _ h1) fun t1 c3 f k1=>dkB (hr _ f) fun t2 c4 h4 k2=>?_;exact dkO (hA9 6 [99,111,110,115] [t1,t2] (by simp)) (dkS h4 (.args (by simp [k1,k2]) (by simp)))
   ·have h4:=hb e (by omega);have hr:=hr h4;refine dkG (by simp;omega) (dkG (by simp;omega) ?_);refine dkB (hr _ h1) fun t1 c3 f k1=>dkB (hr _ f) fun t2 c4 h4' k2=>dkB (hrec _ (by simp) h4 _ h4') fun t3 c5 h5 k3=>dkS h5 (.mk ⟨by simp,trivial⟩ (by simpa using k1) (fun a ha=>?_) (by simp) (by simp));simp only [List.mem_cons,List.not_mem_nil,or_false] at ha;rcases ha with rfl | rfl
    ·exact⟨by simp,k2⟩
    ·exact⟨by simp,k3⟩
   ·have h4:=hb e (by omega);have hr:=hr h4;refine dkB (hr _ h1) fun t1 c3 f k1=>dkG (by simp;omega) (dkG (by simp;omega) ?_);refine dkB (hrec _ (by simp) h4 _ f) fun t3 c5 h5 k2=>?_;exact dkO (hA9 8 [121] [t1,t3] (by simp)) (dkS h5 (.args (by simp [k1,k2]) (by simp)))
   ·have hr:=hr (hb e (by omega));refine dkB (hr _ h1) fun t1 c3 f k1=>dkB (hr _ f) fun t2 c4 h4 k2=>dkB (hr _ h4) fun t3 c5 h5 k3=>?_;exact dkO (hA9 9 [] [t1,t2,t3] (by simp)) (dkS h5 (.args (by simp [k1,k2,k3]) (by simp)))
   ·have hr:=hr (hb e (by omega));refine dkB (gP7 h1 (by simp) (by simp)) fun y c2 h2 _=>dkB (hr _ h2) fun t1 c3 f k1=>dkB (hr _ f) fun t2 c4 h4 k2=>?_;exact dkO (hA9 10 y [t1,t2] (by simp)) (dkS h4 (.args (by simp [k1,k2]) (by simp)))
   ·have hr:=hr (hb e (by omega));exact dkB (hr _ h1) fun t1 c3 f k1=>dkS f (.args (by simpa using k1) (by simp))
   ·have hr:=hr (hb e (by omega));refine dkB (tyK [[97]] (by simp) 5000 1 (by omega) (by omega) _ h1) fun t1 c3 f k0=>dkB (hr _ f) fun t2 c4 h4 k1=>dkS h4 (.mk ?_ (by simpa using k1) (by simp) (by simp) (by simp));obtain⟨a,b,ts⟩:=t1
    have:=k0.1
    simp only [tok] at this;exact this
def hLm:LB:=[97,100,100]
structure IK (i:jD):Prop where
 tr:i.trait=gFj∨i.trait=eqN∨i.trait=hLm∨(i.trait=hBt∧i.where_=[]∧GI 0 i.head)
 hd:tok i.head
 hs:tnd i.head≤40000
 wh:i.where_.length≤4∧∀b∈i.where_,tok b.type_∧dyS b.type_∧tnd b.type_≤5
 weo:EO i.trait→∀b∈i.where_,EO b.trait
theorem IK.whr{i:jD}(h:IK i)(he:EO i.trait):i.where_.length≤4∧∀b∈i.where_,EO b.trait∧tok b.type_∧dyS b.type_∧tnd b.type_≤5:=⟨h.wh.1,fun b hb=>⟨h.weo he b hb,h.wh.2 b hb⟩⟩
def WK(s:LB)(W:List gP):Prop:=W.length≤4∧∀b∈W,(s=eqN→EO b.trait)∧TK 6 b.type_
theorem IK.mk'{s:LB}{vs:LS}{h a:gB}{W:List gP}{x y:Bool}{ms:List jG}(hs:s∈[gFj,eqN,hLm])(hv:vs.length≤1000)(hh:TK 40000 h)(hW:WK s W)(ha:tok a)(hm:∀m∈ms,m.vars.length≤1000∧Cp 5000 m.body)(hl:ms.length≤1000):IK ⟨s,vs,h,W,x,y,a,ms⟩:=by
 simp only [List.mem_cons,List.not_mem_nil,or_false] at hs;refine⟨?_,hh.1,by have:=hh.2.2;simp only;omega,⟨hW.1,fun b hb=>?_⟩,fun he b hb=>(hW.2 b hb).1 ?_⟩
 ·rcases hs with h | h | h
  ·exact .inl h
  ·exact .inr (.inl h)
  ·exact .inr (.inr (.inl h))
 ·obtain⟨h1,f,h3,h4⟩:=hW.2 b hb;exact⟨f,h3,by omega⟩
 ·rcases he with he | he
  ·exact he
  ·have he:s=hBt:=he;subst he;rcases hs with h | h | h<;>cases h
theorem hJc{n:Nat}{f:Option (gB × gK)}(h:Dk (TK n) f)(x:Bool)(c:gK)(hc:vX c):∃b,cnd x (bnd f fun y=>some (y.2.b,y.2.i,y.2.h,true,y.1.kind,y.1.name,y.1.args)) (some (c.b,c.i,c.h,false,(0:Int),([]:LB),([]:List gB)))=some b∧vX ⟨b.1,b.2.1,b.2.2.1⟩∧tok ⟨b.2.2.2.2.1,b.2.2.2.2.2.1,b.2.2.2.2.2.2⟩:=by
 obtain⟨⟨k,s,ts⟩,c',e,h1,h2⟩:=h;cases x with
 | true=>
   rw [jQ,jV e];exact⟨_,rfl,h1,h2.1⟩
 | false=>exact⟨_,rfl,hc,gOz _ _⟩
theorem hJf {n:Int}{c:gK}(hc:vX c){s:LB}{vs:LS}{H a:gB}{W:List gP}{x y:Bool}{f:gY}{V1:LB × gK→LS}{W2:gB × gK→List gP}
  {G1:LB × gK→Prop} [∀x,Decidable (G1 x)] {G2:gB × gK→Prop} [∀x,Decidable (G2 x)] (g1:∀x,G1 x) (g2:∀x,G2 x)
  (hs:s∈[gFj,eqN,hLm]) (hv:vs.length≤1000) (hH:TK 40000 H) (hW:WK s W) (ha:tok a) (he:Cp 5000 f) (h1:∀x,(V1 x).length≤1000) (h2:∀x,TK 6 x.1→WK s (W2 x)) :
  Dk IK (cnd (n==0) (bnd (zT c 2) fun ac=>some (jD.mk s vs ac.1 W x y a [jG.mk [109] [[120]] f],ac.2)) (cnd (n==1) (bnd (pK c [[97],[99]]) fun h=>gd (G1 h) (some (jD.mk s (V1 h) H W x y a [jG.mk [109] [[120]] f],h.2)))
   (cnd (n==2) (bnd (zT c 1) fun aa=>gd (G2 aa) (some (jD.mk s vs H (W2 aa) x y a [jG.mk [109] [[120]] f],aa.2))) (cnd (n==3) (bnd (gB7 5000 c [[120],[121]] 2) fun ad=>bnd (at? [jG.mk [109] [[120]] f] 0) fun ae=>some (jD.mk s vs H W x y a ([jG.mk [109] [[120]] f].set 0 (jG.mk ae.name ae.vars ad.1)),ad.2))
   (cnd (n==4) (bnd gFo fun ah=>some (jD.mk s vs H W x y ah [jG.mk [109] [[120]] f],c)) (cnd (n==5) (bnd (at? [jG.mk [109] [[120]] f] 0) fun ag=>some (jD.mk s vs H W x y a ([jG.mk [109] [[120]] f].set 0 (jG.mk ag.name [] ag.body)),c)) (some (jD.mk s vs H W x y a [jG.mk [109] [[120]] f],c)))))))):=by
 have hm:∀m∈[jG.mk [109] [[120]] f],m.vars.length≤1000∧Cp 5000 m.body:=fun m hm=>by obtain rfl:=List.mem_singleton.1 hm;exact⟨by simp,he⟩
 refine dkC (fun _=>?_) fun _=>dkC (fun _=>?_) fun _=>dkC (fun _=>?_) fun _=>dkC (fun _=>?_) fun _=>dkC (fun _=>?_) fun _=>dkC (fun _=>?_) fun _=>?_
 ·exact dkB (hA8 2 (by omega) hc) fun t c1 k1 ht=>dkS k1 (.mk' hs hv (ht.more (by omega)) hW ha hm (by simp))
 ·exact dkB (gP7 hc (by simp) (by simp)) fun t c1 k1 _=>dkG (g1 _) (dkS k1 (.mk' hs (h1 _) hH hW ha hm (by simp)))
 ·exact dkB (hA8 1 (by omega) hc) fun t c1 k1 ht=>dkG (g2 _) (dkS k1 (.mk' hs hv hH (h2 _ (ht.more (by omega))) ha hm (by simp)))
 ·refine dkB (exK 5000 2 [[120],[121]] (by omega) (by omega) (by simp) _ hc) fun t c1 k1 ht=>dkO (x:=jG.mk [109] [[120]] f) rfl (dkS k1 (.mk' hs hv hH hW ha (fun m hm=>?_) (by simp)));obtain rfl:=List.mem_singleton.1 (show m∈[jG.mk [109] [[120]] t] from hm);exact⟨by simp,ht.more (by omega)⟩
 ·exact dkO int_eq (dkS hc (.mk' hs hv hH hW (gOz _ _) hm (by simp)))
 ·refine dkO (x:=jG.mk [109] [[120]] f) rfl (dkS hc (.mk' hs hv hH hW ha (fun m hm=>?_) (by simp)));obtain rfl:=List.mem_singleton.1 (show m∈[jG.mk [109] [] f] from hm);exact⟨by simp,he⟩
 ·exact dkS hc (.mk' hs hv hH hW ha hm (by simp))
theorem WK.nil{s:LB}:WK s []:=⟨by simp,by simp⟩
theorem WK.eq{s:LB}{W:List gP}{t:gB}(h:WK s W)(hl:W.length≤3)(ht:TK 6 t):WK s (W++[⟨[101,113],t⟩]):=by
 refine⟨by simp;omega,fun b hb=>?_⟩;rcases List.mem_append.1 hb with hb | hb
 ·exact h.2 b hb
 ·obtain rfl:=List.mem_singleton.1 hb;exact⟨fun _=>.inl rfl,ht⟩
theorem WK.one{s r:LB}{v:LB}(h:s=eqN→EO r):WK s [⟨r,⟨1,v,[]⟩⟩]:=by
 refine⟨by simp,fun b hb=>?_⟩;obtain rfl:=List.mem_singleton.1 hb;exact⟨h,(TK.nil (fun h=>absurd h (by decide))).more (by omega)⟩
theorem instK{c:gK}(hc:vX c):Dk IK (gKr c):=by
 have va:∀v,TK 2 (vZ v):=fun v=>TK.nil (k:=1) (s:=v) (fun h=>absurd h (by decide));unfold gKr;refine dkB (gP7 hc (by simp) (by simp)) fun s c1 k1 hs=>dkB (gMq k1 (by omega) (by omega)) fun n1 c2 k2 _=>?_;simp only [lt_];have hs:s∈[gFj,eqN,hLm]:=hs;have he:Cp 5000 (gFr n1):=Cp.more (n:=1) .leaf (by omega);refine dkB (gMq k2 (by omega) (by omega)) fun n2 c3 k3 _=>dkC (fun _=>?_) fun _=>dkC (fun _=>?_) fun _=>dkC (fun _=>?_) fun _=>?_
 ·refine dkO int_eq (dkB (gX1 k3 (by omega) (by omega)) fun x c4 f _=>?_);obtain⟨b,e,k5,ka⟩:=hJc (tyK [] (by simp) 5000 1 (by omega) (by omega) _ f) x c4 f;refine dkO e (dkB (gX1 k5 (by omega) (by omega)) fun y c6 k6 _=>dkB (gMq k6 (by omega) (by omega)) fun n7 c7 k7 _=>?_);exact hJf k7 (fun _=>by simp) (fun _=>by simp) hs (by simp) ((TK.nil (fun h=>absurd h (by decide))).more (by omega)) .nil ka he (fun _=>by simp) (fun _ ht=>WK.eq .nil (by simp) ht)
 ·refine dkO (gMr _ _ (by simp)) (dkB (gX1 k3 (by omega) (by omega)) fun x c4 f _=>?_);obtain⟨b,e,k5,ka⟩:=hJc (tyK [[97]] (by simp) 5000 1 (by omega) (by omega) _ f) x c4 f;rw [gV6];refine dkO e (dkB (gX1 k5 (by omega) (by omega)) fun y c6 k6 _=>dkB (gMq k6 (by omega) (by omega)) fun n7 c7 k7 _=>?_);have hW:WK s [⟨s,vZ [97]⟩]:=WK.one fun h=>.inl h;exact hJf k7 (fun _=>by simp) (fun _=>by simp) hs (by simp) (((va [97]).one (fun h=>absurd h (by decide))).more (by omega)) hW ka he (fun _=>by simp) (fun _ ht=>hW.eq (by simp) ht)
 ·refine dkO (gMr _ _ (by simp)) (dkB (gX1 k3 (by omega) (by omega)) fun x c4 f _=>?_);obtain⟨b,e,k5,ka⟩:=hJc (tyK [[97],[98]] (by simp) 5000 1 (by omega) (by omega) _ f) x c4 f;rw [gV6];refine dkO e (dkB (gX1 k5 (by omega) (by omega)) fun y c6 k6 _=>dkB (gMq k6 (by omega) (by omega)) fun n7 c7 k7 _=>?_);refine hJf k7 (fun _=>by simp) (fun _=>by simp) hs (by simp) ((TK.mk (n:=4) (fun h=>absurd h (by decide)) (fun u hu=>?_) (by simp) (by simp [vZ,gHs,tnd])).more (by omega)) .nil ka he (fun _=>by simp) (fun _ ht=>WK.eq .nil (by simp) ht);simp only [List.mem_cons,List.not_mem_nil,or_false] at hu;rcases hu with rfl | rfl
  ·exact⟨(va _).1,(va _).2.1⟩
  ·exact⟨(va _).1,(va _).2.1⟩
 ·refine dkB (gX1 k3 (by omega) (by omega)) fun x c4 f _=>?_;obtain⟨b,e,k5,ka⟩:=hJc (tyK [[97]] (by simp) 5000 1 (by omega) (by omega) _ f) x c4 f;rw [gV6];refine dkO e (dkB (gX1 k5 (by omega) (by omega)) fun y c6 k6 _=>dkB (gMq k6 (by omega) (by omega)) fun n7 c7 k7 _=>?_);have hW:WK s [⟨[111,114,100],vZ [97]⟩]:=WK.one fun _=>.inr rfl;exact hJf k7 (fun _=>by simp) (fun _=>by simp) hs (by simp) ((va [97]).more (by omega)) hW ka he (fun _=>by simp) (fun _ ht=>hW.eq (by simp) ht)
theorem fnK{c:gK}(hc:vX c):Dk (fun _=>True) (gQf c):=by
 unfold gQf;refine dkB (gP7 hc (by simp) (by simp)) fun s c1 k1 _=>?_;simp only [lt_];refine dkO int_eq (dkB (gMq k1 (by omega) (by omega)) fun n c2 h _=>dkC (fun _=>?_) fun _=>dkC (fun _=>?_) fun _=>dkC (fun _=>?_) fun _=>dkC (fun _=>?_) fun _=>dkC (fun _=>?_) fun _=>dkS h trivial)
 ·exact dkB (hA8 2 (by omega) h) fun t y f _=>dkS f trivial
 ·exact dkB (gP7 h (by simp) (by simp)) fun t y f _=>dkO int_eq (dkG (by simp) (dkS f trivial))
 ·exact dkB (exK 5000 3 [[120],[121]] (by omega) (by omega) (by simp) _ h) fun t y f _=>dkS f trivial
 ·exact dkB (hA8 1 (by omega) h) fun t y f _=>dkO (x:=⟨[115,104,111,119],vZ [97]⟩) rfl (dkS f trivial)
 ·exact dkB (gP7 h (by simp) (by simp)) fun t y f _=>dkS f trivial
def DK(d:kG):Prop:=∀c∈d.constructors,∀f∈c.fields,tok f
theorem dk0(vs:LS):DK ⟨[108,105,115,116],vs,[⟨[110,105,108],[]⟩,⟨[99,111,110,115],[vZ [97],⟨2,[108,105,115,116],[vZ [97]]⟩]⟩]⟩:=fun c hc f hf=>by
 have h:tok (vZ [97]):=gOz _ _;simp only [List.mem_cons,List.not_mem_nil,or_false] at hc;rcases hc with rfl | rfl
 ·simp at hf
 ·simp only [List.mem_cons,List.not_mem_nil,or_false] at hf;rcases hf with rfl | rfl
  ·exact h
  ·exact⟨by simp,h,trivial⟩
theorem dk1{n:LB}{vs:LS}{l:List jC}{k:Nat}{x:jC}(h:DK ⟨n,vs,l⟩)(hx:∀f∈x.fields,tok f):DK ⟨n,vs,l.set k x⟩:=fun c hc=>by
 rcases List.mem_or_eq_of_mem_set hc with hc | rfl
 ·exact h c hc
 ·exact hx
theorem hWk{c:gK}(hc:vX c):Dk DK (gLt c):=by
 unfold gLt;simp only [lt_];refine dkO (gMr _ _ (by simp)) (dkB (gMq hc (by omega) (by omega)) fun n c1 y _=>dkC (fun _=>?_) fun _=>dkC (fun _=>?_) fun _=>dkC (fun _=>?_) fun _=>dkC (fun _=>?_) fun _=>dkS y (dk0 _))
 ·exact dkB (gP7 y (by simp) (by simp)) fun t c3 h _=>dkG (by simp) (dkS h (dk0 _))
 ·exact dkB (gMq y (by omega) (by omega)) fun t c3 h ht=>dkG ⟨ht.1,by simp;omega⟩ (dkS h fun c hc=>dk0 [[97]] c (List.mem_of_mem_take hc))
 ·exact dkB (hA8 2 (by omega) y) fun t c3 h ht=>dkO (x:=⟨[110,105,108],[]⟩) rfl (dkS h (dk1 (dk0 [[97]]) fun f hf=>by obtain rfl:=List.mem_singleton.1 hf;exact ht.1))
 ·exact dkB (gP7 y (by simp) (by simp)) fun t c3 h _=>dkO (x:=⟨[110,105,108],[]⟩) rfl (dkS h (dk1 (dk0 [[97]]) (by simp)))
theorem hP7{c:gK}(hc:vX c):Dk (fun _=>True) (gI2 c):=by
 unfold gI2;simp only [lt_];refine dkB (gP7 hc (by simp) (by simp)) fun s c1 k1 _=>dkB (gX1 k1 (by omega) (by omega)) fun x c2 k2 _=>dkO int_eq (dkB (gX1 k2 (by omega) (by omega)) fun y c3 k3 _=>?_);have hj:∀{A B:Option (List jT)}{f:List jT→Option (pM × gK)}(p q:jT),A=some [p,q]→B=some [p]→(∀(l:List jT),l.length≤2→at? l 0=some p→Dk (fun _=>True) (f l))→Dk (fun _=>True) (bnd (cnd y A B) f):=by
  intro A B f p q hA hB hf;subst hA hB;cases y
  ·exact hf _ (by simp) rfl
  ·exact hf _ (by simp) rfl
 refine hj _ _ (by rw [int_eq];simp only [bnd];rw [hA9 _ _ _ (by simp)];simp only [bnd];rw [qN (by simp)];rfl) rfl fun l hl h0=>?_;refine dkB (gX1 k3 (by omega) (by omega)) fun z c4 k4 _=>dkC (fun _=>dkB (gMq k4 (by omega) (by omega)) fun n c5 h _=>?_) fun _=>dkB (gMq k4 (by omega) (by omega)) fun n c5 h _=>?_
 all_goals
  refine dkC (fun _=>dkS h trivial) fun _=>dkC (fun _=>?_) fun _=>dkC (fun _=>?_) fun _=>dkC (fun _=>?_) fun _=>dkC (fun _=>?_) fun _=>dkC (fun _=>?_) fun _=>dkS h trivial
  ·exact dkB (gP7 h (by simp) (by simp)) fun t c6 k6 _=>dkS k6 trivial
  ·exact dkB (gP7 h (by simp) (by simp)) fun t c6 k6 _=>dkO h0 (dkS k6 trivial)
  ·exact dkO h0 (dkS h trivial)
  ·exact dkG (by simp) (dkS h trivial)
  ·exact dkO h0 (dkG (by simp;omega) (dkS h trivial))
def PK(p:jZ):Prop:=(p.instances.length≤100∧∀i∈p.instances,IK i)∧∀d∈p.dataTypes,DK d
theorem gV7(x1:Int × gK)(h4:x1.1≤5):∀(n k:Nat)(c:gK)(ts:List pM)(ds:List kG)(is:List jD)(fs:List kX),0 < n→x1.1 < k+n→vX c→k≤90→ts.length≤k→ds.length≤k→is.length≤k→fs.length≤k→(∀i∈is,IK i)→(∀d∈ds,DK d)→Dk PK (gBb x1 n c.b c.i c.h ts ds is fs (k:Int))
 | 0,k,c,ts,ds,is,fs,h,_,_,_,_,_,_,_,_,_=>by omega
 | n+1,k,c,ts,ds,is,fs,_,h,hc,hk,h1,h2,h3,h5,hI,hD=>by
   have hc:vX ⟨c.b,c.i,c.h⟩:=hc;rw [gBb];cases hd:decide ((k:Int) < x1.1)with
   | false=>
     rw [gW];refine dkB (gMq hc (by omega) (by omega)) fun x c2 k2 _=>?_;have hP:∀a b,PK ⟨a,b,ts,ds,is,fs⟩:=fun a b=>⟨⟨by show is.length≤100;omega,hI⟩,hD⟩
     cases (x==0)with
     | true=>
       obtain⟨y,c3,e,f,_⟩:=gP7 (l:=[[],[99,111,114,101]]) k2 (by simp) (by simp);simp only [jQ];rw [e];exact dkS f (hP _ _)
     | false=>
       simp only [gW];cases (x==1)with
       | true=>
         obtain⟨y,c3,e,f,_⟩:=gP7 (l:=[[99,111,114,101],[113],[112]]) k2 (by simp) (by simp);simp only [jQ];rw [e];simp only [bnd];rw [qN (by simp)];exact dkS f (hP _ _)
       | false=>exact dkS k2 (hP _ _)
   | true=>
     have hd:=of_decide_eq_true hd;have hw:IntKind.i64.wrap ((k:Int)+1)=((k+1:Nat):Int):=by rw [zV _ (by omega) (by omega)];omega
     rw [jQ];refine dkB (gMq hc (by omega) (by omega)) fun x c2 k2 _=>dkC (fun _=>?_) fun _=>dkC (fun _=>?_) fun _=>dkC (fun _=>?_) fun _=>?_
     ·refine dkB (hP7 k2) fun t c3 f _=>dkG (by simp;omega) ?_;simp only [hw];exact gV7 x1 h4 n (k+1) c3 _ _ _ _ (by omega) (by omega) f (by omega) (by simp;omega) (by omega) (by omega) (by omega) hI hD
     ·refine dkB (hWk k2) fun t c3 f ht=>dkG (by simp;omega) ?_;simp only [hw];refine gV7 x1 h4 n (k+1) c3 _ _ _ _ (by omega) (by omega) f (by omega) (by omega) (by simp;omega) (by omega) (by omega) hI (fun d hd=>?_);rcases List.mem_append.1 hd with hd | hd
      ·exact hD d hd
      ·obtain rfl:=List.mem_singleton.1 hd;exact ht
     ·refine dkB (instK k2) fun t c3 f ht=>dkG (by simp;omega) ?_;simp only [hw];refine gV7 x1 h4 n (k+1) c3 _ _ _ _ (by omega) (by omega) f (by omega) (by omega) (by omega) (by simp;omega) (by omega) (fun i hi=>?_) hD;rcases List.mem_append.1 hi with hi | hi
      ·exact hI i hi
      ·obtain rfl:=List.mem_singleton.1 hi;exact ht
     ·refine dkB (fnK k2) fun t c3 f _=>dkG (by simp;omega) ?_;simp only [hw];exact gV7 x1 h4 n (k+1) c3 _ _ _ _ (by omega) (by omega) f (by omega) (by omega) (by omega) (by omega) (by simp;omega) hI hD
theorem jAs{c:gK}(hc:vX c):Dk PK (gXz c):=by
 unfold gXz gP5;exact dkB (gMq hc (by omega) (by omega)) fun x f h hx=>gV7 (x,f) (by simp only;omega) 5000 0 f [] [] [] [] (by omega) (by simp only;omega) h (by omega) (by simp) (by simp) (by simp) (by simp) (by simp) (by simp)
end Go.Proofs.YtfpdlnkkcnmebaaGreat
