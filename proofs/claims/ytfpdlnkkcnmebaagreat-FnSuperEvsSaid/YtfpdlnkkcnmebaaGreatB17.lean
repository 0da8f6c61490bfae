import Derived.Test.YtfpdlnkkcnmebaaGreatP4
import Derived.Test.YtfpdlnkkcnmebaaGreatB16
set_option maxHeartbeats 4000000
set_option linter.unusedVariables false
set_option linter.unusedSimpArgs false
set_option linter.unusedSectionVars false
namespace Go.Proofs.YtfpdlnkkcnmebaaGreat
open Go Go.Eng
attribute [local irreducible] V VO VQ VY Quiet QR jF mJ Rng qI qJ qB
def hKj:LB:=[97,100,100]
structure IK (i:gY):Prop where
 tr:i.trait=gJp∨i.trait=eqN∨i.trait=hKj∨(i.trait=hF7∧i.where_=[]∧GI 0 i.head)
 hd:tok i.head
 hs:tnd i.head≤40000
 whr:EO i.trait→i.where_.length≤4∧∀b∈i.where_,EO b.trait∧tok b.type_∧dyS b.type_∧tnd b.type_≤5
 cp:∃j,gKd i=some j∧j.trait=i.trait∧j.head=i.head∧(i.where_=[]→j.where_=[])
theorem gT3:∀(l acc:List gT),(∀b∈l,tok b.type_)→acc.length+l.length≤100000→yB l acc=some (acc++l)
 | [],acc,_,_=>by simp [yB]
 | ⟨s,t⟩::l,acc,h,hl=>by
   have ht:tok t:=h ⟨s,t⟩ (by simp);simp only [List.length_cons] at hl;rw [yB];simp only [lt_,idT];rw [uF ht,uF (by simp;omega),gT3 l _ (fun b hb=>h b (by simp [hb])) (by simp;omega)];simp
theorem hGr{i:gY}(hh:tok i.head)(ha:tok i.assoc)(hv:i.vars.length≤1000)(hw:i.where_.length≤1000)(hb:∀b∈i.where_,tok b.type_):∀(ms acc:List gX),(∀m∈ms,m.vars.length≤1000∧Cp 5000 m.body)→acc.length+ms.length≤100000→∃j,gAh i ms acc=some j∧j.trait=i.trait∧j.head=i.head∧(i.where_=[]→j.where_=[])
 | [],acc,_,_=>by
   rw [gAh];unfold gIu;simp only [lt_,idT];rw [uF (by simp;omega),uF hh,gT3 i.where_ [] hb (by simp;omega)];simp only [bnd];rw [uF ha];exact⟨_,rfl,rfl,rfl,fun h=>by simpa using h⟩
 | m::ms,acc,h,hl=>by
   obtain⟨q,c⟩:=h m (by simp);obtain⟨r,f⟩:=c 5000 (by omega);simp only [List.length_cons] at hl;rw [gAh,uF (by simp;omega),kF f,uF (by simp;omega)];exact hGr hh ha hv hw hb ms _ (fun b hb=>h b (by simp [hb])) (by simp;omega)
def WK(s:LB)(W:List gT):Prop:=W.length≤4∧∀b∈W,(s=eqN→EO b.trait)∧TK 6 b.type_
theorem IK.mk'{s:LB}{vs:LS}{h a:gB}{W:List gT}{x y:Bool}{ms:List gX}(hs:s∈[gJp,eqN,hKj])(hv:vs.length≤1000)(hh:TK 40000 h)(hW:WK s W)(ha:tok a)(hm:∀m∈ms,m.vars.length≤1000∧Cp 5000 m.body)(hl:ms.length≤1000):IK ⟨s,vs,h,W,x,y,a,ms⟩:=by
 simp only [List.mem_cons,List.not_mem_nil,or_false] at hs;refine⟨?_,hh.1,by have:=hh.2.2;simp only;omega,fun he=>⟨hW.1,fun b hb=>?_⟩,hGr (i:=⟨s,vs,h,W,x,y,a,ms⟩) hh.1 ha hv (by have:=hW.1;simp only;omega) (fun b hb=>(hW.2 b hb).2.1) ms [] hm (by simp;omega)⟩
 ·rcases hs with h | h | h
  ·exact .inl h
  ·exact .inr (.inl h)
  ·exact .inr (.inr (.inl h))
 ·obtain⟨c,f,q,h4⟩:=hW.2 b hb;refine⟨c ?_,f,q,by omega⟩;rcases he with he | he
  ·exact he
  ·have he:s=hF7:=he;subst he;rcases hs with h | h | h<;>cases h
theorem hEb{n:Nat}{f:Option (gB × gN)}(h:Dk (TK n) f)(x:Bool)(c:gN)(hc:gBc c):∃b,cnd x (bnd f fun q=>some (q.2.b,q.2.i,q.2.h,true,q.1.kind,q.1.name,q.1.args)) (some (c.b,c.i,c.h,false,(0:Int),([]:LB),([]:List gB)))=some b∧gBc ⟨b.1,b.2.1,b.2.2.1⟩∧tok ⟨b.2.2.2.2.1,b.2.2.2.2.2.1,b.2.2.2.2.2.2⟩:=by
 obtain⟨⟨k,s,ts⟩,c',e,y,h2⟩:=h;cases x with
 | true=>
   rw [jV,kF e];exact⟨_,rfl,y,h2.1⟩
 | false=>exact⟨_,rfl,hc,gTx _ _⟩
theorem hEc {n:Int}{c:gN}(hc:gBc c){s:LB}{vs:LS}{H a:gB}{W:List gT}{x y:Bool}{f:gU}{V1:LB × gN→LS}{W2:gB × gN→List gT}
  {G1:LB × gN→Prop} [∀x,Decidable (G1 x)] {G2:gB × gN→Prop} [∀x,Decidable (G2 x)] (g1:∀x,G1 x) (g2:∀x,G2 x)
  (hs:s∈[gJp,eqN,hKj]) (hv:vs.length≤1000) (hH:TK 40000 H) (hW:WK s W) (ha:tok a) (he:Cp 5000 f) (h1:∀x,(V1 x).length≤1000) (h2:∀x,TK 6 x.1→WK s (W2 x)) :
  Dk IK (cnd (n==0) (bnd (zL c 2) fun ab=>some (gY.mk s vs ab.1 W x y a [gX.mk [109] [[120]] f],ab.2)) (cnd (n==1) (bnd (qE c [[97],[99]]) fun h=>gd (G1 h) (some (gY.mk s (V1 h) H W x y a [gX.mk [109] [[120]] f],h.2)))
   (cnd (n==2) (bnd (zL c 1) fun q=>gd (G2 q) (some (gY.mk s vs H (W2 q) x y a [gX.mk [109] [[120]] f],q.2))) (cnd (n==3) (bnd (gBy 5000 c [[120],[121]] 2) fun ac=>bnd (at? [gX.mk [109] [[120]] f] 0) fun ad=>some (gY.mk s vs H W x y a ([gX.mk [109] [[120]] f].set 0 (gX.mk ad.name ad.vars ac.1)),ac.2))
   (cnd (n==4) (bnd gE3 fun ag=>some (gY.mk s vs H W x y ag [gX.mk [109] [[120]] f],c)) (cnd (n==5) (bnd (at? [gX.mk [109] [[120]] f] 0) fun ae=>some (gY.mk s vs H W x y a ([gX.mk [109] [[120]] f].set 0 (gX.mk ae.name [] ae.body)),c)) (some (gY.mk s vs H W x y a [gX.mk [109] [[120]] f],c)))))))):=by
 have hm:∀m∈[gX.mk [109] [[120]] f],m.vars.length≤1000∧Cp 5000 m.body:=fun m hm=>by obtain rfl:=List.mem_singleton.1 hm;exact⟨by simp,he⟩
 refine dkC (fun _=>?_) fun _=>dkC (fun _=>?_) fun _=>dkC (fun _=>?_) fun _=>dkC (fun _=>?_) fun _=>dkC (fun _=>?_) fun _=>dkC (fun _=>?_) fun _=>?_
 ·exact dkB (hCm 2 (by omega) hc) fun t c1 k1 ht=>dkS k1 (.mk' hs hv (ht.more (by omega)) hW ha hm (by simp))
 ·exact dkB (gTi hc (by simp) (by simp)) fun t c1 k1 _=>dkG (g1 _) (dkS k1 (.mk' hs (h1 _) hH hW ha hm (by simp)))
 ·exact dkB (hCm 1 (by omega) hc) fun t c1 k1 ht=>dkG (g2 _) (dkS k1 (.mk' hs hv hH (h2 _ (ht.more (by omega))) ha hm (by simp)))
 ·refine dkB (exK 5000 2 [[120],[121]] (by omega) (by omega) (by simp) _ hc) fun t c1 k1 ht=>dkO (x:=gX.mk [109] [[120]] f) rfl (dkS k1 (.mk' hs hv hH hW ha (fun m hm=>?_) (by simp)));obtain rfl:=List.mem_singleton.1 (show m∈[gX.mk [109] [[120]] t] from hm);exact⟨by simp,ht.more (by omega)⟩
 ·exact dkO int_eq (dkS hc (.mk' hs hv hH hW (gTx _ _) hm (by simp)))
 ·refine dkO (x:=gX.mk [109] [[120]] f) rfl (dkS hc (.mk' hs hv hH hW ha (fun m hm=>?_) (by simp)));obtain rfl:=List.mem_singleton.1 (show m∈[gX.mk [109] [] f] from hm);exact⟨by simp,he⟩
 ·exact dkS hc (.mk' hs hv hH hW ha hm (by simp))
theorem WK.nil{s:LB}:WK s []:=⟨by simp,by simp⟩
theorem WK.eq{s:LB}{W:List gT}{t:gB}(h:WK s W)(hl:W.length≤3)(ht:TK 6 t):WK s (W++[⟨[101,113],t⟩]):=by
 refine⟨by simp;omega,fun b hb=>?_⟩;rcases List.mem_append.1 hb with hb | hb
 ·exact h.2 b hb
 ·obtain rfl:=List.mem_singleton.1 hb;exact⟨fun _=>.inl rfl,ht⟩
theorem WK.one{s r:LB}{v:LB}(h:s=eqN→EO r):WK s [⟨r,⟨1,v,[]⟩⟩]:=by
 refine⟨by simp,fun b hb=>?_⟩;obtain rfl:=List.mem_singleton.1 hb;exact⟨h,(TK.nil (fun h=>absurd h (by decide))).more (by omega)⟩
theorem instK{c:gN}(hc:gBc c):Dk IK (gJs c):=by
 have va:∀v,TK 2 (wX v):=fun v=>TK.nil (k:=1) (s:=v) (fun h=>absurd h (by decide));unfold gJs;refine dkB (gTi hc (by simp) (by simp)) fun s c1 k1 hs=>dkB (gRb k1 (by omega) (by omega)) fun n1 c2 k2 _=>?_;simp only [lt_];have hs:s∈[gJp,eqN,hKj]:=hs;have he:Cp 5000 (gE5 n1):=Cp.more (n:=1) .leaf (by omega);refine dkB (gRb k2 (by omega) (by omega)) fun n2 c3 k3 _=>dkC (fun _=>?_) fun _=>dkC (fun _=>?_) fun _=>dkC (fun _=>?_) fun _=>?_
 ·refine dkO int_eq (dkB (gZt k3 (by omega) (by omega)) fun x q f _=>?_);obtain⟨b,e,k5,ka⟩:=hEb (tyK [] (by simp) 5000 1 (by omega) (by omega) _ f) x q f;refine dkO e (dkB (gZt k5 (by omega) (by omega)) fun y c6 k6 _=>dkB (gRb k6 (by omega) (by omega)) fun n7 c7 k7 _=>?_);exact hEc k7 (fun _=>by simp) (fun _=>by simp) hs (by simp) ((TK.nil (fun h=>absurd h (by decide))).more (by omega)) .nil ka he (fun _=>by simp) (fun _ ht=>WK.eq .nil (by simp) ht)
 ·refine dkO (gQr _ _ (by simp)) (dkB (gZt k3 (by omega) (by omega)) fun x q f _=>?_);obtain⟨b,e,k5,ka⟩:=hEb (tyK [[97]] (by simp) 5000 1 (by omega) (by omega) _ f) x q f;rw [gYb];refine dkO e (dkB (gZt k5 (by omega) (by omega)) fun y c6 k6 _=>dkB (gRb k6 (by omega) (by omega)) fun n7 c7 k7 _=>?_);have hW:WK s [⟨s,wX [97]⟩]:=WK.one fun h=>.inl h;exact hEc k7 (fun _=>by simp) (fun _=>by simp) hs (by simp) (((va [97]).one (fun h=>absurd h (by decide))).more (by omega)) hW ka he (fun _=>by simp) (fun _ ht=>hW.eq (by simp) ht)
 ·refine dkO (gQr _ _ (by simp)) (dkB (gZt k3 (by omega) (by omega)) fun x q f _=>?_);obtain⟨b,e,k5,ka⟩:=hEb (tyK [[97],[98]] (by simp) 5000 1 (by omega) (by omega) _ f) x q f;rw [gYb];refine dkO e (dkB (gZt k5 (by omega) (by omega)) fun y c6 k6 _=>dkB (gRb k6 (by omega) (by omega)) fun n7 c7 k7 _=>?_);refine hEc k7 (fun _=>by simp) (fun _=>by simp) hs (by simp) ((TK.mk (n:=4) (fun h=>absurd h (by decide)) (fun u hu=>?_) (by simp) (by simp [wX,gGj,tnd])).more (by omega)) .nil ka he (fun _=>by simp) (fun _ ht=>WK.eq .nil (by simp) ht);simp only [List.mem_cons,List.not_mem_nil,or_false] at hu;rcases hu with rfl | rfl
  ·exact⟨(va _).1,(va _).2.1⟩
  ·exact⟨(va _).1,(va _).2.1⟩
 ·refine dkB (gZt k3 (by omega) (by omega)) fun x q f _=>?_;obtain⟨b,e,k5,ka⟩:=hEb (tyK [[97]] (by simp) 5000 1 (by omega) (by omega) _ f) x q f;rw [gYb];refine dkO e (dkB (gZt k5 (by omega) (by omega)) fun y c6 k6 _=>dkB (gRb k6 (by omega) (by omega)) fun n7 c7 k7 _=>?_);have hW:WK s [⟨[111,114,100],wX [97]⟩]:=WK.one fun _=>.inr rfl;exact hEc k7 (fun _=>by simp) (fun _=>by simp) hs (by simp) ((va [97]).more (by omega)) hW ka he (fun _=>by simp) (fun _ ht=>hW.eq (by simp) ht)
theorem fnK{c:gN}(hc:gBc c):Dk (fun _=>True) (gPb c):=by
 unfold gPb;refine dkB (gTi hc (by simp) (by simp)) fun s c1 y _=>?_;simp only [lt_];refine dkO int_eq (dkB (gRb y (by omega) (by omega)) fun n c2 h _=>dkC (fun _=>?_) fun _=>dkC (fun _=>?_) fun _=>dkC (fun _=>?_) fun _=>dkC (fun _=>?_) fun _=>dkC (fun _=>?_) fun _=>dkS h trivial)
 ·exact dkB (hCm 2 (by omega) h) fun t q f _=>dkS f trivial
 ·exact dkB (gTi h (by simp) (by simp)) fun t q f _=>dkO int_eq (dkG (by simp) (dkS f trivial))
 ·exact dkB (exK 5000 3 [[120],[121]] (by omega) (by omega) (by simp) _ h) fun t q f _=>dkS f trivial
 ·exact dkB (hCm 1 (by omega) h) fun t q f _=>dkO (x:=⟨[115,104,111,119],wX [97]⟩) rfl (dkS f trivial)
 ·exact dkB (gTi h (by simp) (by simp)) fun t q f _=>dkS f trivial
theorem hO8{c:gN}(hc:gBc c):Dk (fun _=>True) (gJr c):=by
 unfold gJr;simp only [lt_];refine dkO (gQr _ _ (by simp)) (dkB (gRb hc (by omega) (by omega)) fun n y h _=>dkC (fun _=>?_) fun _=>dkC (fun _=>?_) fun _=>dkC (fun _=>?_) fun _=>dkC (fun _=>?_) fun _=>dkS h trivial)
 ·exact dkB (gTi h (by simp) (by simp)) fun t q f _=>dkG (by simp) (dkS f trivial)
 ·exact dkB (gRb h (by omega) (by omega)) fun t q f ht=>dkG ⟨ht.1,by simp;omega⟩ (dkS f trivial)
 ·exact dkB (hCm 2 (by omega) h) fun t q f _=>dkO (x:=⟨[110,105,108],[]⟩) rfl (dkS f trivial)
 ·exact dkB (gTi h (by simp) (by simp)) fun t q f _=>dkO (x:=⟨[110,105,108],[]⟩) rfl (dkS f trivial)
theorem hKw{c:gN}(hc:gBc c):Dk (fun _=>True) (gH7 c):=by
 unfold gH7;simp only [lt_];refine dkB (gTi hc (by simp) (by simp)) fun s c1 k1 _=>dkB (gZt k1 (by omega) (by omega)) fun x c2 k2 _=>dkO int_eq (dkB (gZt k2 (by omega) (by omega)) fun y c3 k3 _=>?_);have hj:∀{A B:Option (List jD)}{f:List jD→Option (mE × gN)}(p q:jD),A=some [p,q]→B=some [p]→(∀(l:List jD),l.length≤2→at? l 0=some p→Dk (fun _=>True) (f l))→Dk (fun _=>True) (bnd (cnd y A B) f):=by
  intro A B f p q hA hB hf;subst hA hB;cases y
  ·exact hf _ (by simp) rfl
  ·exact hf _ (by simp) rfl
 refine hj _ _ (by rw [int_eq];simp only [bnd];rw [gZg _ _ _ (by simp)];simp only [bnd];rw [uF (by simp)];rfl) rfl fun l hl h0=>?_;refine dkB (gZt k3 (by omega) (by omega)) fun z c4 k4 _=>dkC (fun _=>dkB (gRb k4 (by omega) (by omega)) fun n c5 h _=>?_) fun _=>dkB (gRb k4 (by omega) (by omega)) fun n c5 h _=>?_
 all_goals
  refine dkC (fun _=>dkS h trivial) fun _=>dkC (fun _=>?_) fun _=>dkC (fun _=>?_) fun _=>dkC (fun _=>?_) fun _=>dkC (fun _=>?_) fun _=>dkC (fun _=>?_) fun _=>dkS h trivial
  ·exact dkB (gTi h (by simp) (by simp)) fun t c6 k6 _=>dkS k6 trivial
  ·exact dkB (gTi h (by simp) (by simp)) fun t c6 k6 _=>dkO h0 (dkS k6 trivial)
  ·exact dkO h0 (dkS h trivial)
  ·exact dkG (by simp) (dkS h trivial)
  ·exact dkO h0 (dkG (by simp;omega) (dkS h trivial))
def PK(p:jX):Prop:=p.instances.length≤100∧∀i∈p.instances,IK i
theorem gT4(x1:Int × gN)(h4:x1.1≤5):∀(n k:Nat)(c:gN)(ts:List mE)(ds:List kP)(is:List gY)(fs:List kI),0 < n→x1.1 < k+n→gBc c→k≤90→ts.length≤k→ds.length≤k→is.length≤k→fs.length≤k→(∀i∈is,IK i)→Dk PK (gAj x1 n c.b c.i c.h ts ds is fs (k:Int))
 | 0,k,c,ts,ds,is,fs,h,_,_,_,_,_,_,_,_=>by omega
 | n+1,k,c,ts,ds,is,fs,_,h,hc,hk,h1,h2,h3,h5,hI=>by
   have hc:gBc ⟨c.b,c.i,c.h⟩:=hc;rw [gAj];cases hd:decide ((k:Int) < x1.1)with
   | false=>
     rw [jC];refine dkB (gRb hc (by omega) (by omega)) fun x c2 k2 _=>?_;have hP:∀a b,PK ⟨a,b,ts,ds,is,fs⟩:=fun a b=>⟨by show is.length≤100;omega,hI⟩
     cases (x==0)with
     | true=>
       obtain⟨y,q,e,f,_⟩:=gTi (l:=[[],[99,111,114,101]]) k2 (by simp) (by simp);simp only [jV];rw [e];exact dkS f (hP _ _)
     | false=>
       simp only [jC];cases (x==1)with
       | true=>
         obtain⟨y,q,e,f,_⟩:=gTi (l:=[[99,111,114,101],[113],[112]]) k2 (by simp) (by simp);simp only [jV];rw [e];simp only [bnd];rw [uF (by simp)];exact dkS f (hP _ _)
       | false=>exact dkS k2 (hP _ _)
   | true=>
     have hd:=of_decide_eq_true hd;have hw:IntKind.i64.wrap ((k:Int)+1)=((k+1:Nat):Int):=by rw [gAb _ (by omega) (by omega)];omega
     rw [jV];refine dkB (gRb hc (by omega) (by omega)) fun x c2 k2 _=>dkC (fun _=>?_) fun _=>dkC (fun _=>?_) fun _=>dkC (fun _=>?_) fun _=>?_
     ·refine dkB (hKw k2) fun t q f _=>dkG (by simp;omega) ?_;simp only [hw];exact gT4 x1 h4 n (k+1) q _ _ _ _ (by omega) (by omega) f (by omega) (by simp;omega) (by omega) (by omega) (by omega) hI
     ·refine dkB (hO8 k2) fun t q f _=>dkG (by simp;omega) ?_;simp only [hw];exact gT4 x1 h4 n (k+1) q _ _ _ _ (by omega) (by omega) f (by omega) (by omega) (by simp;omega) (by omega) (by omega) hI
     ·refine dkB (instK k2) fun t q f ht=>dkG (by simp;omega) ?_;simp only [hw];refine gT4 x1 h4 n (k+1) q _ _ _ _ (by omega) (by omega) f (by omega) (by omega) (by omega) (by simp;omega) (by omega) (fun i hi=>?_);rcases List.mem_append.1 hi with hi | hi
      ·exact hI i hi
      ·obtain rfl:=List.mem_singleton.1 hi;exact ht
     ·refine dkB (fnK k2) fun t q f _=>dkG (by simp;omega) ?_;simp only [hw];exact gT4 x1 h4 n (k+1) q _ _ _ _ (by omega) (by omega) f (by omega) (by omega) (by omega) (by omega) (by simp;omega) hI
theorem hVn{c:gN}(hc:gBc c):Dk PK (gVz c):=by
 unfold gVz gOj;exact dkB (gRb hc (by omega) (by omega)) fun x f h hx=>gT4 (x,f) (by simp only;omega) 5000 0 f [] [] [] [] (by omega) (by simp only;omega) h (by omega) (by simp) (by simp) (by simp) (by simp) (by simp)
def gDp(f:LB):Option (gD × Bool):=
bnd (gBg 5000 (vJ.mk f 0 0 0 false)) fun c=>
bnd (gM4 c.2) fun h=>
bnd ((cnd h.bad ((some true)) ((cnd (h.at_ !=(f.length:Int)) ((some true)) (bnd (uC c.1) fun q=>
(some (!q))))))) fun y=>
(cnd y (
(some ((gD.mk [] []),false))) (
(some (c.1,true))))
theorem gSm(a0:LB){r:gD × Bool}(h:gDp a0=some r):jF Tryz.prog 163 [.S a0] [qC r.1,.b r.2]:=by
 unfold gDp at h;refine SpI Tryz.func163 fun A _=>?_;refine goL ?_;refine gAc (jU TBd.h TZ.h rfl (by repeat constructor)) ?_;obtain⟨⟨⟨c,f⟩,⟨q,y,aa,ab,ac⟩⟩,ak,h⟩:=gJ h;refine mZ 1 (hEh 5000 (vJ.mk a0 0 0 0 false) ak) ?_;refine goL ?_;obtain⟨⟨ad,ae,ag,ah,ai⟩,al,h⟩:=gJ h;refine mZ 1 (gSf (vJ.mk q y aa ab ac) al) ?_;refine goL ?_;obtain⟨b3,hb3,h⟩:=gJ h;refine kC ⟨[(2,.ptr 0 0),(5,.ptr 2 0),(30,.B b3)],[.box [.S [],.nilsl],bIp ad ae ag ah ai,bSx c f],Tryz.f163.ntmps⟩ ?_ ?_
 ·refine gqO 17 hb3 (fun c4 hb3=>?_);refine gqO 26 hb3 (fun c5 hb3=>?_);obtain⟨x6,am,hb3⟩:=gJ hb3;refine jK (gG (yT _ am)) ?_;cases hb3;exact eJ
 refine goC h ?_ ?_<;>intro c7 h
 ·refine goL ?_;refine yS (jU TBd.h TZ.h rfl (by repeat constructor)) ?_;exact goR h
 ·refine goS ?_;refine jG ?_;cases h;exact uA
def gFb(c:gB)(a1:LS):LS→Option (Bool)
 | []=>bnd (wZ c) fun f=>
(some f)
 | h::xs=>(cnd (!(wY a1 h)) (
(some false)) (
gFb c a1 xs ))
def gDq(c:gB)(a1:LS):Option (Bool):=
bnd (gA4 c) fun f=>
gFb c a1 f
theorem gGl(a0:gB)(a1:LS){r:Bool}(h:gDq a0 a1=some r):jF Tryz.prog 229 [.d (kZ a0),.L 1 (gP a1)] [.b r]:=by
 obtain⟨q,y,aa⟩:=a0;unfold gDq at h;refine SpI Tryz.func229 fun A _=>?_;refine goL ?_;obtain⟨x1,ae,h⟩:=gJ h;refine jK (gG (gJl _ ae)) ?_;refine noB ?_;refine gCm 5 (fun z3=>?_);refine qD (fun(f:Nat)=>⟨[(1,.L 1 (gP a1)),(2,.ptr 0 0),(5,.L 1 (gP x1)),(6,.N f)],[bTy q y aa],Tryz.f229.ntmps⟩) (fun f=>gFb (gB.mk q y aa) a1 (x1.drop f)  =some r) (fun f=>x1.length - f) 0 eJ h ?_;rintro f h;refine goL ?_;refine mQ (fun c4=>?_) (fun c4=>?_)
 ·have c:=vF c4;obtain⟨x5,ah,ab⟩:=drop_at c;rw [ab,gFb.eq_2] at h;refine noS ?_;refine kH (jE ?_);refine goL ?_;refine jK (jM f (gNp ah)) ?_;refine jK (gG (gF2 a1 x5)) ?_;refine mQ (fun c6=>?_) (fun c6=>?_)
  ·replace h:=kT c6 h;exact goR h
  ·replace h:=kU c6 h;refine goS ?_;refine jK (kD f (by omega)) ?_;exact⟨(f+1),h,by omega,eJ⟩
 ·have c:=vG c4;rw [jH c,gFb.eq_1] at h;refine goX ?_;obtain⟨x7,aj,h⟩:=gJ h;refine qM (gG (gA5 _ aj)) ?_;exact goR h
def gFc(c:gU→Option (Bool)):List gH0→Option (Bool)
 | []=>(some true)
 | f::xs=>bnd ((cnd (!(mO f.constructor)) ((some true)) ((cnd (!(gJ5 f.vars)) ((some true)) (bnd (yH f.vars) fun h=>
(cnd (!h) ((some true)) (bnd (c f.body) fun q=>
(some (!q))))))))) fun y=>
(cnd y (
(some false)) (
gFc c xs ))
def gFd(c:gU→Option (Bool))(q:gU):List gU→Option (Bool)
 | []=>gFc c q.arms
 | f::xs=>bnd (c f) fun h=>
(cnd (!h) (
(some false)) (
gFd c q xs ))
def gPc(h:gU→Option (Bool))(c:gU):Option (Bool):=
lt_ (gGa c.kind) fun f=>
lt_ ((cnd (!(gH6 c.kind 1 12)) (true) ((cnd (!((mO c.trait)==f.1)) (true) ((cnd (!f.1) ((cnd (!(c.trait==[])) (true) ((cnd (!f.2.2.1) ((cnd (c.n != 0) (true) ((!((decide ((c.arms.length:Int) > 0))==f.2.2.2.2.2))))) ((!((decide ((c.arms.length:Int) > 0))==f.2.2.2.2.2))))))) ((cnd (!f.2.2.1) ((cnd (c.n != 0) (true) ((!((decide ((c.arms.length:Int) > 0))==f.2.2.2.2.2))))) ((!((decide ((c.arms.length:Int) > 0))==f.2.2.2.2.2))))))))))) fun b2=>
(cnd b2 (
(some false)) (
lt_ ((cnd (c.kind==10) ((cnd (!(gMr c.name)) (true) ((cnd (c.kind != 10) ((cnd (!((mO c.name)==f.2.1)) (true) ((cnd (!f.2.1) ((!(c.name==[]))) (false))))) (false))))) ((cnd (c.kind != 10) ((cnd (!((mO c.name)==f.2.1)) (true) ((cnd (!f.2.1) ((!(c.name==[]))) (false))))) (false))))) fun q=>
(cnd q (
(some false)) (
bnd ((cnd (decide (f.2.2.2.2.1≥0)) ((cnd ((c.args.length:Int) != f.2.2.2.2.1) ((some true)) ((cnd (c.kind==5) ((cnd ((c.args.length:Int)==0) ((some true)) ((cnd f.2.2.2.1 (bnd (wZ c.type_) fun y=>
(cnd (!y) ((some true)) ((cnd (!f.2.2.2.1) ((some (!(gAe c.type_)))) ((some false)))))) ((cnd (!f.2.2.2.1) ((some (!(gAe c.type_)))) ((some false)))))))) ((cnd f.2.2.2.1 (bnd (wZ c.type_) fun aa=>
(cnd (!aa) ((some true)) ((cnd (!f.2.2.2.1) ((some (!(gAe c.type_)))) ((some false)))))) ((cnd (!f.2.2.2.1) ((some (!(gAe c.type_)))) ((some false)))))))))) ((cnd (c.kind==5) ((cnd ((c.args.length:Int)==0) ((some true)) ((cnd f.2.2.2.1 (bnd (wZ c.type_) fun ab=>
(cnd (!ab) ((some true)) ((cnd (!f.2.2.2.1) ((some (!(gAe c.type_)))) ((some false)))))) ((cnd (!f.2.2.2.1) ((some (!(gAe c.type_)))) ((some false)))))))) ((cnd f.2.2.2.1 (bnd (wZ c.type_) fun ac=>
(cnd (!ac) ((some true)) ((cnd (!f.2.2.2.1) ((some (!(gAe c.type_)))) ((some false)))))) ((cnd (!f.2.2.2.1) ((some (!(gAe c.type_)))) ((some false)))))))))) fun ad=>
(cnd ad (
(some false)) (
lt_ ((cnd (c.kind==1) ((cnd (!(gH6 c.n (-999999) 999999)) (true) ((cnd (c.kind==2) ((!(gH6 c.n 0 1))) (false))))) ((cnd (c.kind==2) ((!(gH6 c.n 0 1))) (false))))) fun ae=>
(cnd ae (
(some false)) (
gFd h c c.args ))))))))
theorem gZv{y:gU→Option (Bool)}(ac:∀(x0:gU){r:Bool},y x0=some r→jF Tryz.prog 250 [.d (zJ x0)] [.b r])(a0:gU){r:Bool}(h:gPc y a0=some r):jF Tryz.prog 250 [.d (zJ a0)] [.b r]:=by
 obtain⟨ad,ah,aa,ab,⟨c,f,q⟩,ae,ag⟩:=a0;unfold gPc at h;refine SpI Tryz.func250 fun A _=>?_;refine goL ?_;obtain⟨⟨b5,ba,b6,a3,a4,b7⟩,bo,h⟩:=qW h;have sx1:=hFl ad;rw [bo] at sx1;refine jK (gG (sx1)) ?_;refine jK (gG (gN1 ad 1 12)) ?_;obtain⟨b2,hb2,h⟩:=qW h;refine kC ⟨[(1,.ptr 0 0),(4,.B ba),(6,.B a3),(7,.I a4),(58,.B b2)],[bEx ad ah aa ab c f q ae ag],Tryz.f250.ntmps⟩ ?_ ?_
 ·refine gqO 26 hb2 (fun c3 hb2=>?_);refine jK (gG (qR ah)) ?_;refine gqO 33 hb2 (fun c4 hb2=>?_);refine gqV 36 hb2 ?_ ?_<;>intro c5 hb2
  ·refine gqO 42 hb2 (fun c6 hb2=>?_);refine gqA 45 hb2 (fun c7 hb2=>?_);exact gqZ 51 hb2
  ·refine gqA 45 hb2 (fun c9 hb2=>?_);exact gqZ 51 hb2
 refine goC h ?_ ?_<;>intro b9 h
 ·exact goR h
 ·refine goS ?_;obtain⟨bp,hb12,h⟩:=qW h;refine kC ⟨[(1,.ptr 0 0),(6,.B a3),(7,.I a4),(88,.B bp)],[bEx ad ah aa ab c f q ae ag],Tryz.f250.ntmps⟩ ?_ ?_
  ·refine gqV 62 hb12 ?_ ?_<;>intro ca hb12
   ·refine jK (gG (hCc aa)) ?_;refine gqO 68 hb12 (fun cb hb12=>?_);refine gqA 72 hb12 (fun cc hb12=>?_);refine jK (gG (qR aa)) ?_;refine gqO 78 hb12 (fun cd hb12=>?_);exact gqZ 81 hb12
   ·refine gqA 72 hb12 (fun ce hb12=>?_);refine jK (gG (qR aa)) ?_;refine gqO 78 hb12 (fun cf hb12=>?_);exact gqZ 81 hb12
  refine goC h ?_ ?_<;>intro cg h
  ·exact goR h
  ·refine goS ?_;obtain⟨bq,hb22,h⟩:=gJ h;refine kC ⟨[(1,.ptr 0 0),(127,.B bq)],[bEx ad ah aa ab c f q ae ag],Tryz.f250.ntmps⟩ ?_ ?_
   ·refine gqV 91 hb22 ?_ ?_<;>intro ch hb22
    ·refine gqO 98 hb22 (fun ci hb22=>?_);refine gqV 102 hb22 ?_ ?_<;>intro cj hb22
     ·refine gqO 109 hb22 (fun ck hb22=>?_);refine gqV 111 hb22 ?_ ?_<;>intro cl hb22
      ·obtain⟨cm,bb,hb22⟩:=gJ hb22;refine jK (gG (gA5 _ bb)) ?_;refine gqO 118 hb22 (fun cn hb22=>?_);refine gqA 121 hb22 (fun co hb22=>?_);refine jK (gG (gC0 (gB.mk c f q))) ?_;cases hb22;exact eJ
      ·refine gqA 121 hb22 (fun cp hb22=>?_);refine jK (gG (gC0 (gB.mk c f q))) ?_;cases hb22;exact eJ
     ·refine gqV 111 hb22 ?_ ?_<;>intro cq hb22
      ·obtain⟨cr,bc,hb22⟩:=gJ hb22;refine jK (gG (gA5 _ bc)) ?_;refine gqO 118 hb22 (fun cs hb22=>?_);refine gqA 121 hb22 (fun ct hb22=>?_);refine jK (gG (gC0 (gB.mk c f q))) ?_;cases hb22;exact eJ
      ·refine gqA 121 hb22 (fun cu hb22=>?_);refine jK (gG (gC0 (gB.mk c f q))) ?_;cases hb22;exact eJ
    ·refine gqV 102 hb22 ?_ ?_<;>intro cv hb22
     ·refine gqO 109 hb22 (fun cw hb22=>?_);refine gqV 111 hb22 ?_ ?_<;>intro cx hb22
      ·obtain⟨cy,bd,hb22⟩:=gJ hb22;refine jK (gG (gA5 _ bd)) ?_;refine gqO 118 hb22 (fun cz hb22=>?_);refine gqA 121 hb22 (fun c0 hb22=>?_);refine jK (gG (gC0 (gB.mk c f q))) ?_;cases hb22;exact eJ
      ·refine gqA 121 hb22 (fun c1 hb22=>?_);refine jK (gG (gC0 (gB.mk c f q))) ?_;cases hb22;exact eJ
     ·refine gqV 111 hb22 ?_ ?_<;>intro c2 hb22
      ·obtain⟨c8,be,hb22⟩:=gJ hb22;refine jK (gG (gA5 _ be)) ?_;refine gqO 118 hb22 (fun da hb22=>?_);refine gqA 121 hb22 (fun db hb22=>?_);refine jK (gG (gC0 (gB.mk c f q))) ?_;cases hb22;exact eJ
      ·refine gqA 121 hb22 (fun dc hb22=>?_);refine jK (gG (gC0 (gB.mk c f q))) ?_;cases hb22;exact eJ
   refine goC h ?_ ?_<;>intro dd h
   ·exact goR h
   ·refine goS ?_;obtain⟨br,hb50,h⟩:=qW h;refine kC ⟨[(1,.ptr 0 0),(147,.B br)],[bEx ad ah aa ab c f q ae ag],Tryz.f250.ntmps⟩ ?_ ?_
    ·refine gqV 131 hb50 ?_ ?_<;>intro de hb50
     ·refine jK (gG (gN1 ab (-999999) 999999)) ?_;refine gqO 137 hb50 (fun df hb50=>?_);refine gqA 141 hb50 (fun dg hb50=>?_);refine jK (gG (gN1 ab 0 1)) ?_;cases hb50;exact eJ
     ·refine gqA 141 hb50 (fun dh hb50=>?_);refine jK (gG (gN1 ab 0 1)) ?_;cases hb50;exact eJ
    refine goC h ?_ ?_<;>intro di h
    ·exact goR h
    ·refine goS ?_;refine noB ?_;refine yP 0 7 (fun dj=>?_);refine qD (fun(aj:Nat)=>⟨[(1,.ptr 0 0),(9,.N aj)],[bEx ad ah aa ab c f q ae ag],Tryz.f250.ntmps⟩) (fun aj=>gFd y (gU.mk ad ah aa ab (gB.mk c f q) ae ag) (ae.drop aj)  =some r) (fun aj=>ae.length - aj) 0 eJ h ?_;rintro aj h;refine goL ?_;refine mQ (fun a5=>?_) (fun a5=>?_)
     ·have ak:=vF a5;obtain⟨bt,bf,a6⟩:=drop_at ak;rw [a6,gFd.eq_2] at h;obtain⟨bu,bv,bw,bx,⟨bg,bh,bi⟩,bz,b0⟩:=bt;refine noS ?_;refine kH (jE ?_);refine goL ?_;refine jK (jM aj (gUp bf)) ?_;obtain⟨dk,bj,h⟩:=gJ h;refine jK (gG (ac _ bj)) ?_;refine mQ (fun a7=>?_) (fun a7=>?_)
      ·replace h:=kT a7 h;exact goR h
      ·replace h:=kU a7 h;refine goS ?_;refine jK (kD aj (by omega)) ?_;exact⟨(aj+1),h,by omega,eJ⟩
     ·have ak:=vG a5;rw [jH ak,gFd.eq_1] at h;refine goX ?_;refine noB ?_;refine yP 0 8 (fun dl=>?_);refine qD (fun(ai:Nat)=>⟨[(1,.ptr 0 0),(10,.N ai)],[bEx ad ah aa ab c f q ae ag],Tryz.f250.ntmps⟩) (fun ai=>gFc y (ag.drop ai)  =some r) (fun ai=>ag.length - ai) 0 eJ h ?_;rintro ai h;refine goL ?_;refine mQ (fun a8=>?_) (fun a8=>?_)
      ·have al:=vF a8;obtain⟨b1,bk,a9⟩:=drop_at al;rw [a9,gFc.eq_2] at h;obtain⟨ap,aq,⟨ar,au,av,aw,⟨am,an,ao⟩,ax,ay⟩⟩:=b1;refine noS ?_;refine kH (jE ?_);refine goL ?_;refine jK (jM ai (gXo bk)) ?_;refine jK (gG (qR ap)) ?_;obtain⟨b3,hb66,h⟩:=gJ h;refine kC ⟨[(1,.ptr 0 0),(10,.N ai),(195,.B b3)],[bEx ad ah aa ab c f q ae ag,.box [.S ap,.L 1 (gP aq),.I ar,.S au,.S av,.I aw,.I am,.S an,.L 3 (gK ao),.L 9 (jS ax),.L 11 (mW ay)]],Tryz.f250.ntmps⟩ ?_ ?_
       ·refine gqO 178 hb66 (fun dm hb66=>?_);refine jK (gG (gUb aq)) ?_;refine gqO 184 hb66 (fun dn hb66=>?_);obtain⟨dp,bl,hb66⟩:=gJ hb66;refine jK (gG (gBb _ bl)) ?_;refine gqO 190 hb66 (fun dq hb66=>?_);obtain⟨dr,bm,hb66⟩:=gJ hb66;refine jK (gG (ac _ bm)) ?_;cases hb66;exact eJ
       refine goC h ?_ ?_<;>intro ds h
       ·exact goR h
       ·refine goS ?_;refine jK (kD ai (by omega)) ?_;exact⟨(ai+1),h,by omega,eJ⟩
      ·have al:=vG a8;rw [jH al,gFc.eq_1] at h;refine goX ?_;refine jG ?_;cases h;exact uA
def gPd:Nat→gU→Option (Bool)
 | 0,_=>none
 | n+1,c=>gPc (gPd n) c
theorem gZw:∀(n:Nat)(c:gU){r:Bool},gPd n c=some r→jF Tryz.prog 250 [.d (zJ c)] [.b r]:=by
 intro n
 induction n with
 | zero=>intro c r h;cases h
 | succ n ih=>intro c r h;exact gZv ih c h
def gM6(c:Bool)(a1:gD):Option (gD):=
bnd ((cnd (!c) ((some true)) (bnd (uC a1) fun f=>
(some (!f))))) fun h=>
(cnd h (
(some (gD.mk [] []))) (
(some a1)))
theorem gSn(y:Bool)(a1:gD){r:gD}(h:gM6 y a1=some r):jF Tryz.prog 225 [.B y,.d (qC a1)] [qC r]:=by
 obtain⟨c,f⟩:=a1;unfold gM6 at h;refine SpI Tryz.func225 fun A _=>?_;refine goL ?_;obtain⟨b1,hb1,h⟩:=gJ h;refine kC ⟨[(3,.ptr 0 0),(4,.ptr 1 0),(11,.B b1)],[bSx c f,.box [.S [],.nilsl]],Tryz.f225.ntmps⟩ ?_ ?_
 ·refine gqO 7 hb1 (fun c2 hb1=>?_);obtain⟨x3,q,hb1⟩:=gJ hb1;refine jK (gG (yT _ q)) ?_;cases hb1;exact eJ
 refine goC h ?_ ?_<;>intro c4 h
 ·refine goL ?_;refine yS (jU TBd.h TZ.h rfl (by repeat constructor)) ?_;exact goR h
 ·refine goS ?_;refine jG ?_;cases h;exact uA
def gGm(c:gT):Option (Bool):=
bnd ((cnd (mO c.trait) (bnd (wZ c.type_) fun f=>
(some f)) ((some false)))) fun h=>
(some h)
theorem gPe(a0:gT){r:Bool}(h:gGm a0=some r):jF Tryz.prog 240 [.d (wU a0)] [.b r]:=by
 obtain⟨y,⟨c,f,q⟩⟩:=a0;unfold gGm at h;refine SpI Tryz.func240 fun A _=>?_;refine goL ?_;refine jK (gG (qR y)) ?_;obtain⟨b1,hb1,h⟩:=gJ h;refine kC ⟨[(2,.B b1)],[bBd y c f q],Tryz.f240.ntmps⟩ ?_ ?_
 ·refine gqA 6 hb1 (fun c2 hb1=>?_);obtain⟨x3,ab,hb1⟩:=gJ hb1;refine jK (gG (gA5 _ ab)) ?_;cases hb1;exact eJ
 exact goR h
def gGn(a1:LS):List gB→Option (Bool)
 | []=>(some true)
 | c::xs=>bnd (gDq c a1) fun f=>
(cnd (!f) (
(some false)) (
gGn a1 xs ))
def gOk(c:List gB)(a1:LS):Option (Bool):=
gGn a1 c
theorem gW9(q:List gB)(a1:LS){r:Bool}(h:gOk q a1=some r):jF Tryz.prog 228 [.L 3 (gK q),.L 1 (gP a1)] [.b r]:=by
 unfold gOk at h;refine SpI Tryz.func228 fun A _=>?_;refine goL ?_;refine noB ?_;refine gCm 0 (fun z2=>?_);refine qD (fun(f:Nat)=>⟨[(0,.L 3 (gK q)),(1,.L 1 (gP a1)),(5,.N f)],[],Tryz.f228.ntmps⟩) (fun f=>gGn a1 (q.drop f)  =some r) (fun f=>q.length - f) 0 eJ h ?_;rintro f h;refine goL ?_;refine mQ (fun c3=>?_) (fun c3=>?_)
 ·have c:=vF c3;obtain⟨x4,ab,y⟩:=drop_at c;rw [y,gGn.eq_2] at h;obtain⟨ae,ag,ah⟩:=x4;refine noS ?_;refine kH (jE ?_);refine goL ?_;refine jK (jM f (gEk ab)) ?_;obtain⟨x5,ac,h⟩:=gJ h;refine jK (gG (gGl _ _ ac)) ?_;refine mQ (fun c6=>?_) (fun c6=>?_)
  ·replace h:=kT c6 h;exact goR h
  ·replace h:=kU c6 h;refine goS ?_;refine jK (kD f (by omega)) ?_;exact⟨(f+1),h,by omega,eJ⟩
 ·have c:=vG c3;rw [jH c,gGn.eq_1] at h;refine goX ?_;refine jG ?_;cases h;exact uA
def gHw(c:gU):Option (Bool):=
bnd (gQo 5000 c 300) fun f=>
bnd ((cnd (decide (f≥0)) (bnd (gPd 5000 c) fun h=>
(some h)) ((some false)))) fun q=>
(some q)
theorem gRc(a0:gU){r:Bool}(h:gHw a0=some r):jF Tryz.prog 243 [.d (zJ a0)] [.b r]:=by
 obtain⟨y,aa,ab,ac,⟨c,f,q⟩,ad,ae⟩:=a0;unfold gHw at h;refine SpI Tryz.func243 fun A _=>?_;refine goL ?_;obtain⟨x1,ah,h⟩:=gJ h;refine jK (gG (hCb _ _ _ ah)) ?_;obtain⟨b2,hb2,h⟩:=gJ h;refine kC ⟨[(2,.B b2)],[bEx y aa ab ac c f q ad ae],Tryz.f243.ntmps⟩ ?_ ?_
 ·refine gqA 6 hb2 (fun c3 hb2=>?_);obtain⟨x4,ai,hb2⟩:=gJ hb2;refine jK (gG (gZw _ _ ai)) ?_;cases hb2;exact eJ
 exact goR h
def gDr(h:List gT)(a1:LS):List gT→Option (Bool)
 | []=>(some (decide ((h.length:Int)≤4)))
 | c::xs=>bnd (gGm c) fun q=>
bnd ((cnd (!q) ((some true)) (bnd (gDq c.type_ a1) fun y=>
(cnd (!y) ((some true)) (bnd (vD 5000 c.type_) fun f=>
(some f)))))) fun b6=>
(cnd b6 (
(some false)) (
gDr h a1 xs ))
def gKy(c:List gT)(a1:LS):Option (Bool):=
gDr c a1 c
theorem gRo(q:List gT)(a1:LS){r:Bool}(h:gKy q a1=some r):jF Tryz.prog 230 [.L 4 (jQ q),.L 1 (gP a1)] [.b r]:=by
 unfold gKy at h;refine SpI Tryz.func230 fun A _=>?_;refine goL ?_;refine noB ?_;refine gCm 0 (fun z2=>?_);refine qD (fun(f:Nat)=>⟨[(0,.L 4 (jQ q)),(1,.L 1 (gP a1)),(5,.N f)],[],Tryz.f230.ntmps⟩) (fun f=>gDr q a1 (q.drop f)  =some r) (fun f=>q.length - f) 0 eJ h ?_;rintro f h;refine goL ?_;refine mQ (fun c3=>?_) (fun c3=>?_)
 ·have c:=vF c3;obtain⟨x4,y,aa⟩:=drop_at c;rw [aa,gDr.eq_2] at h;obtain⟨aj,⟨ac,ad,ae⟩⟩:=x4;refine noS ?_;refine kH (jE ?_);refine goL ?_;refine jK (jM f (gDi y)) ?_;obtain⟨x5,ah,h⟩:=gJ h;refine jK (gG (gPe _ ah)) ?_;obtain⟨b6,hb6,h⟩:=gJ h;refine kC ⟨[(0,.L 4 (jQ q)),(1,.L 1 (gP a1)),(5,.N f),(35,.B b6)],[],Tryz.f230.ntmps⟩ ?_ ?_
  ·refine gqO 18 hb6 (fun c7 hb6=>?_);refine jK (jM f (gDi y)) ?_;refine gQc ?_;obtain⟨x8,ai,hb6⟩:=gJ hb6;refine jK (gG (gGl _ _ ai)) ?_;refine gqO 28 hb6 (fun c9 hb6=>?_);refine jK (jM f (gDi y)) ?_;refine gQc ?_;obtain⟨am,ab,hb6⟩:=gJ hb6;refine jK (gG (gFz _ _ ab)) ?_;cases hb6;exact eJ
  refine goC h ?_ ?_<;>intro an h
  ·exact goR h
  ·refine goS ?_;refine jK (kD f (by omega)) ?_;exact⟨(f+1),h,by omega,eJ⟩
 ·have c:=vG c3;rw [jH c,gDr.eq_1] at h;refine goX ?_;refine jG ?_;cases h;exact uA
end Go.Proofs.YtfpdlnkkcnmebaaGreat
