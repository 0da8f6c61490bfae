import Derived.Test.YtegahmhnmjnhhaaGreatB28
set_option maxHeartbeats 4000000
set_option linter.unusedVariables false
set_option linter.unusedSimpArgs false
set_option linter.unusedSectionVars false
namespace Go.Proofs.YtegahmhnmjnhhaaGreat
open Go Go.Eng
attribute [local irreducible] V VO VQ VY Quiet QR jC kT Rng mU mV mI
def VZ:List (List UInt8):=[[63,48],[63,49],[63,50],[63,51],[97]]
theorem gXq{V:List (List UInt8)}{n:List UInt8}(h:n∈V):DT V ⟨1,n,[]⟩:=⟨⟨gH1 _ _,⟨⟨by decide,by simp,fun _=>rfl⟩,trivial⟩,fun v hv=>by simp only [tvs,gH4,if_true,List.append_nil,List.mem_singleton] at hv;subst hv;exact h⟩,fun hk=>absurd hk (by decide),trivial⟩
theorem gXr{V:List (List UInt8)}{n:List UInt8}{ts:List gB}(h:∀t∈ts,DT V t)(hl:ts.length≤2):DT V ⟨2,n,ts⟩:=by
 refine⟨⟨⟨by omega,gIm.2 fun u hu=>(h u hu).1.1⟩,⟨⟨by decide,hl,fun h=>absurd h (by decide)⟩,gWo.2 fun u hu=>(h u hu).1.2.1⟩,fun v hv=>?_⟩,⟨fun hk=>absurd hk (by decide),gOo.2 fun u hu=>(h u hu).2⟩⟩;have hv:v∈gH4 ts:=by
  simp only [tvs] at hv;rw [if_neg (by decide),List.nil_append] at hv;exact hv
 obtain⟨u,c,f⟩:=gOk.1 hv;exact(h u c).1.2.2 v f
theorem hT5{V:List (List UInt8)}{u:gB}(h:DT V u):DT V (gH5 u):=⟨hPv h.1,fun _=>⟨rfl,rfl⟩,h.2,trivial⟩
theorem gT9(s:List UInt8)(args:List gB)(h:args.length≤4294967296):gI0 s args=some ⟨2,s,args⟩:=by
 unfold gI0;rw [mK (by simpa using h)];rfl
theorem hG8(c:jH)(l:List gB)(h:gB0 c)(h0:0 < l.length)(h1:l.length≤256):∃x c',gJj c l=some (x,c')∧gB0 c'∧x∈l:=by
 obtain⟨x,c',e,f,e2,y⟩:=gGf c l.length h (by omega) (by omega);unfold gJj;have hx:at? l x=some (l[x.toNat]'(by omega)):=by unfold at?;rw [if_pos f];exact List.getElem?_eq_getElem _
 rw [jQ e,jQ hx];exact⟨_,_,rfl,y,List.getElem_mem _⟩
theorem hQq{x:Int}(c:0≤x)(f:x < 4):(([63]:List UInt8)++Lib.itoa x)∈VZ∧(Lib.itoa x).length≤10:=by
 have:x=0∨x=1∨x=2∨x=3:=by omega
 rcases this with rfl | rfl | rfl | rfl
 ·have e:Lib.itoa 0=[48]:=by kernel_rfl
  rw [e];decide
 ·have e:Lib.itoa 1=[49]:=by kernel_rfl
  rw [e];decide
 ·have e:Lib.itoa 2=[50]:=by kernel_rfl
  rw [e];decide
 ·have e:Lib.itoa 3=[51]:=by kernel_rfl
  rw [e];decide
def SZ(d:Nat)(t:gB):Prop:=ed t≤d+2∧nv t+1≤4*2^d∧vo t≤2^d
theorem gPc{d:Nat}{t:gB}(c:ed t≤2)(f:nv t≤3)(h:vo t≤1):SZ d t:=by
 have:1≤2^d:=Nat.one_le_pow _ _ (by omega)
 exact⟨by omega,by omega,by omega⟩
theorem hT6{d:Nat}{n:List UInt8}{t:gB}(h:SZ d t):SZ (d+1) ⟨2,n,[t]⟩:=by
 obtain⟨c,f,y⟩:=h
 have:2^(d+1)=2^d*2:=Nat.pow_succ ..
 refine⟨?_,?_,?_⟩
 ·simp only [ed,eds];omega
 ·simp only [nv,nvs,if_neg (show ¬ (2:Int)=1 from by decide)];omega
 ·simp only [vo,vos,if_neg (show ¬ (2:Int)=1 from by decide)];omega
theorem hQr{d:Nat}{n:List UInt8}{t u:gB}(h:SZ d t)(g:SZ d u):SZ (d+1) ⟨2,n,[t,u]⟩:=by
 obtain⟨c,f,y⟩:=h;obtain⟨g1,g2,g3⟩:=g
 have:2^(d+1)=2^d*2:=Nat.pow_succ ..
 refine⟨?_,?_,?_⟩
 ·simp only [ed,eds];omega
 ·simp only [nv,nvs,if_neg (show ¬ (2:Int)=1 from by decide)];omega
 ·simp only [vo,vos,if_neg (show ¬ (2:Int)=1 from by decide)];omega
theorem hYk{rec:jH→Int→Option (gB × jH)}(d:Nat)(hd:d≤8)(hrec:∀e,d=e+1→∀c,gB0 c→∃t c',rec c (e:Int)=some (t,c')∧gB0 c'∧DT VZ t∧tnd t≤4^(e+1)∧SZ e t)(c:jH)(hc:gB0 c):∃t c',gRc rec c (d:Int)=some (t,c')∧gB0 c'∧DT VZ t∧tnd t≤4^(d+1)∧SZ d t:=by
 have hpow:4≤4^(d+1):=by rw [Nat.pow_succ];have:1≤4^d:=Nat.one_le_pow _ _ (by omega);omega
 obtain⟨x,c1,e1,e2,e3,e4⟩:=gGf c 6 hc (by omega) (by omega);unfold gRc;rw [jQ e1];have hb:∃b,cnd (x==0) (some (x==0)) (some (x==1))=some b:=by cases x==0<;>exact⟨_,rfl⟩
 obtain⟨b,hb⟩:=hb;rw [jQ hb];cases b with
 | true=>
   simp only [gZ];obtain⟨y,c2,f,h,f3,f4⟩:=gGf c1 4 e4 (by omega) (by omega);obtain⟨g1,g2⟩:=hQq h f3;rw [jQ f,mK (show gF7 y from⟨by omega,by omega⟩),mK (by simp only [List.length_cons,List.length_nil];omega)];exact⟨_,_,rfl,f4,gXq g1,by simp only [wG,tnd,gA6];omega,gPc (by simp [wG,ed,eds]) (by simp [wG,nv,nvs]) (by simp [wG,vo,vos])⟩
 | false=>
   simp only [gK];cases x==2 with
   | true=>
     simp only [gZ];obtain⟨s,c2,f,h,_⟩:=gVd c1 [[105,110,116],[98,111,111,108]] e4 (by simp) (by simp);rw [jQ f,jQ (gT9 _ [] (by simp))];exact⟨_,_,rfl,h,gXr (by simp) (by simp),by simp only [tnd,gA6];omega,gPc (by simp [ed,eds]) (by simp [nv,nvs]) (by simp [vo,vos])⟩
   | false=>
     simp only [gK];cases x==3 with
     | true=>
       simp only [gZ,lt_];have hI:gJw=some ⟨2,[105,110,116],[]⟩:=by unfold gJw;rw [jQ (gT9 _ [] (by simp))]
       rw [jQ hI,jQ hI,jQ (gT9 _ [⟨2,[105,110,116],[]⟩] (by simp))];obtain⟨t,c2,f,h,f3⟩:=hG8 c1 [wG [63,49],⟨2,[105,110,116],[]⟩,wG [97],⟨2,[98,111,120],[⟨2,[105,110,116],[]⟩]⟩] e4 (by simp) (by simp);rw [jQ f];have ht:DT VZ t∧tnd t≤2∧ed t≤1∧nv t≤2∧vo t≤1:=by
        have hi:DT VZ ⟨2,[105,110,116],[]⟩:=gXr (by simp) (by simp);simp only [List.mem_cons,List.not_mem_nil,or_false] at f3;rcases f3 with rfl | rfl | rfl | rfl
        ·exact⟨gXq (by decide),by decide,by decide,by decide,by decide⟩
        ·exact⟨hi,by decide,by decide,by decide,by decide⟩
        ·exact⟨gXq (by decide),by decide,by decide,by decide,by decide⟩
        ·exact⟨gXr (by simpa using hi) (by simp),by decide,by decide,by decide,by decide⟩
       unfold gQ7;rw [mK ht.1.1.1];exact⟨_,_,rfl,h,hT5 ht.1,by simp only [idT,tnd,gA6];omega,gPc (by simp only [idT,ed,eds];omega) (by simp only [idT,nv,nvs,if_neg (show ¬ (3:Int)=1 from by decide)];omega) (by simp only [idT,vo,vos,if_neg (show ¬ (3:Int)=1 from by decide)];omega)⟩
     | false=>
       simp only [gK];cases d with
       | zero=>
         rw [show decide (((0:Nat):Int)≤0)=true from by decide];exact⟨_,_,rfl,e4,gXq (by decide),by simp only [wG,tnd,gA6];omega,gPc (by simp [wG,ed,eds]) (by simp [wG,nv,nvs]) (by simp [wG,vo,vos])⟩
       | succ d=>
         rw [show decide (((d+1:Nat):Int)≤0)=false from decide_eq_false (by omega),gK,show IntKind.i64.wrap (((d+1:Nat):Int) - 1)=(d:Int)from by rw [qR _ (by omega) (by omega)];omega];have hp:4^(d+1+1)=4^(d+1)*4:=Nat.pow_succ ..;have hp1:1≤4^(d+1):=Nat.one_le_pow _ _ (by omega);obtain⟨y,c2,f,h⟩:=gK2 c1 2 e4 (by omega) (by omega);rw [jQ f];obtain⟨t1,c3,g1,g2,g3,g4,g5⟩:=hrec d rfl c2 h;cases y with
         | true=>
           simp only [gZ];rw [jQ g1,jQ (gT9 _ [t1] (by simp))];exact⟨_,_,rfl,g2,gXr (by simpa using g3) (by simp),by simp only [tnd,gA6];omega,hT6 g5⟩
         | false=>
           simp only [gK];obtain⟨t2,c4,k1,k2,k3,k4,k5⟩:=hrec d rfl c3 g2;rw [jQ g1,jQ k1,jQ (gT9 _ [t1,t2] (by simp))];exact⟨_,_,rfl,k2,gXr (by simp [g3,k3]) (by simp),by simp only [tnd,gA6];omega,hQr g5 k5⟩
theorem hO1:∀(n d:Nat),d < n→d≤8→∀c,gB0 c→∃t c',gKz n c (d:Int)=some (t,c')∧gB0 c'∧DT VZ t∧tnd t≤4^(d+1)∧SZ d t
 | 0,d,h,_=>by omega
 | n+1,d,h,f=>fun c hc=>by
   rw [gKz];exact hYk d f (fun e he c hc=>hO1 n e (by omega) (by omega) c hc) c hc
theorem hO5(c:jH)(hc:gB0 c):∃t c',gKz 5000 c 2=some (t,c')∧gB0 c'∧DT VZ t∧tnd t≤64∧SZ 2 t:=hO1 5000 2 (by omega) (by omega) c hc
theorem hT7(f:Int × jH)(h3:f.1≤3):∀(n k:Nat) (c:jH) (acc:List gY),0 < n→f.1 < k+n→gB0 c→acc.length=k→k≤900→gNl acc→∃l c',gCv f n c.b c.i c.h acc (k:Int)=some (l,c')∧gB0 c'∧gNl l∧l.length≤1000
 | 0,k,c,acc,h,_,_,_,_,_=>by omega
 | n+1,k,c,acc,_,h,hc,ha,hk,hw=>by
   rw [gCv];cases hd:decide ((k:Int) < f.1)with
   | false=>exact⟨_,_,rfl,hc,hw,by omega⟩
   | true=>
     have hd:=of_decide_eq_true hd;obtain⟨s,c1,y,f2,f3⟩:=gVd c [[115,104,111,119],[111,114,100],[97,100,100]] hc (by simp) (by simp);obtain⟨v,c2,g1,g2,g3⟩:=gVd c1 [[97],[98]] f2 (by simp) (by simp);have y:gGm ⟨c.b,c.i,c.h⟩ [[115,104,111,119],[111,114,100],[97,100,100]]=some (s,c1):=y;rw [gZ,jQ y,jQ g1];simp only [lt_];rw [mK (by simp;omega),show IntKind.i64.wrap ((k:Int)+1)=((k+1:Nat):Int)from gWx (by omega)];refine hT7 f h3 n (k+1) c2 _ (by omega) (by omega) g2 (by simp [ha]) (by omega) (fun b hb=>?_);rcases List.mem_append.1 hb with hb | hb
     ·exact hw b hb
     ·simp only [List.mem_singleton] at hb;subst hb;simp only [List.mem_cons,List.not_mem_nil,or_false] at f3 g3;exact⟨f3,v,by rcases g3 with rfl | rfl<;>rfl,rfl⟩
theorem hMr(c:jH)(hc:gB0 c):∃l c',gRu c=some (l,c')∧gB0 c'∧gNl l∧l.length≤1000:=by
 obtain⟨x,f,h,e2,e3,y⟩:=gGf c 3 hc (by omega) (by omega);unfold gRu gL8;rw [jQ h];exact hT7 (x,f) (by simp only;omega) 5000 0 f [] (by omega) (by simp only;omega) y rfl (by omega) (fun b hb=>by simp at hb)
theorem hQs(c:jH)(hc:gB0 c):∃w k c',gK4 c=some (w,c')∧gB0 c'∧gOw w k∧gYe w:=by
 obtain⟨b,c1,e1,e2⟩:=hQf c hc
 have hC:okC b=true:=by cases b;· exact jB0
                        ·exact jBz
 obtain⟨p,p1,p2,_,p4,p5,p6⟩:=hJp (by omega) hC;have hp:p=pC b:=by unfold pC;rw [p2]
 subst hp;obtain⟨y,c2,f1,f2⟩:=gK2 c1 5 e2 (by omega) (by omega);unfold gK4 gE5;rw [jQ e1,jQ f1];cases y with
 | true=>
   have hP:yS (fmt (gWz b))=some (⟨[pC b]⟩,-1):=by
    unfold yS;rw [jQ (hVc _ p5 (by omega))];simp only [uC,p4,gK,p1,bnd,lt_,Bool.not_true];rw [show (((([]:List kI).length:Nat):Int)==5)=false from by decide,gK,mK (by simp)];rfl
   simp only [gZ,bnd];rw [hP];exact⟨_,kC b,_,rfl,f2,hO0 b [] (.inl rfl),hPm b [] (.inl rfl)⟩
 | false=>
   simp only [gK];obtain⟨hd,m,h,o2,o3,c3,g1,g2,g3,g4,g5,g6,g7⟩:=hTn c2 f2;have hA:=hYi;unfold okA at hA;have h1:=List.all_eq_true.1 hA hd g3;have h2:=List.all_eq_true.1 h1 m g4;have h3:=List.all_eq_true.1 h2 h (by rcases g5 with rfl | rfl<;>simp);have h4:=List.all_eq_true.1 h3 o2 (by rcases g6 with rfl | rfl<;>simp);have h5:=List.all_eq_true.1 h4 o3 (by rcases g7 with rfl | rfl<;>simp);obtain⟨q,q1,_,f,q4,q5,q6⟩:=hJp (by omega) h5;simp only [Bool.and_eq_true,decide_eq_true_eq] at f;rw [mK (by simp;omega),jQ g1,mK (by simp;omega)];simp only [bnd];have hP:yS (fmt (gWz b)++[10]++fmt (hSx hd m h o2 o3))=some (⟨[pC b,q]⟩,-1):=by
    unfold yS;have hs:gEz (fmt (gWz b)++[10]++fmt (hSx hd m h o2 o3)) 10=some [fmt (gWz b),fmt (hSx hd m h o2 o3)]:=hVd _ _ p5 q5 (by omega);rw [jQ hs];simp only [uC,p4,q4,gK,p1,q1,bnd,lt_,Bool.not_true];rw [show (((([]:List kI).length:Nat):Int)==5)=false from by decide,gK,mK (by simp)];rw [show ((((([]++[pC b]):List kI).length:Nat):Int)==5)=false from by simp,gK,mK (by simp)];rfl
   rw [hP];exact⟨_,kC b,_,rfl,g2,hO0 b [q] (.inr ⟨q,rfl,f.1,f.2⟩),hPm b [q] (.inr ⟨q,rfl,f.1,f.2⟩)⟩
theorem gZv{w:gI}{wh:List gY}{fs:List gU}(hf:pQ w wh=some fs){t:gB}(h:0≤kH fs ⟨addN,t⟩):∃e,gE4 w wh ⟨addN,t⟩=some (e,0)∧e.kind≠1:=by
 unfold gE4;rw [jQ hf,show(5000:Nat)=4999+1 from rfl,uD];unfold gCk;rcases find_ok ⟨addN,t⟩ fs 0 with f | ⟨j,y,c,_⟩
 ·have f:kH fs ⟨addN,t⟩= -1:=f;omega
 ·have c:kH fs ⟨addN,t⟩=((0+j:Nat):Int):=c;obtain⟨e,q1,q2⟩:=gOm fs[j].steps 2 fs[j].from_ 0 0 [];rw [c,show decide (((0+j:Nat):Int)≥0)=true from decide_eq_true (by omega),gZ,yZ,Nat.zero_add,List.getElem?_eq_getElem y];simp only [bnd];unfold qM;rw [gJ7 _ rfl 4998];simp only [bnd,q1];exact⟨e,rfl,fun hk=>by rcases q2 with h | h<;>rw [h] at hk<;>cases hk⟩
theorem hT8{w:gI}{wh:List gY}{d:Int}{m:List UInt8}(n:Nat):mE (n+2) w wh ⟨1,m,[]⟩ d=some (⟨1,m,[]⟩,0):=by
 rw [mE];unfold zP;rw [gBr];rfl
theorem hQt{w:gI}{wh:List gY}{fs:List gU}(hf:pQ w wh=some fs){m:List UInt8}(hm:isInf m=false)(h:0≤kH fs ⟨addN,⟨1,m,[]⟩⟩):uA w wh (gH5 ⟨1,m,[]⟩)=some (gH5 ⟨1,m,[]⟩,false,true):=by
 obtain⟨e,c,f⟩:=gZv hf h;have hn:mE 100000 w wh (gH5 ⟨1,m,[]⟩) 12=some (gH5 ⟨1,m,[]⟩,0):=by
  rw [show (100000:Nat)=99998+1+1 from rfl,mE];unfold zP;rw [gBr];have ha:gQb (gBr 99998) (mE 99998) w wh (gH5 ⟨1,m,[]⟩).args 12=some ([⟨1,m,[]⟩],0):=by
   show yM (mE 99998) w wh 12 [⟨1,m,[]⟩] []=_;rw [yM,show(99998:Nat)=99996+2 from rfl,jQ (hT8 99996)];rfl
  rw [jQ ha];have hb:gE4 w wh (gY.mk (gH5 ⟨1,m,[]⟩).name ⟨1,m,[]⟩)=some (e,0):=c;show bnd (gE4 w wh (gY.mk (gH5 ⟨1,m,[]⟩).name ⟨1,m,[]⟩)) _=_;rw [jQ hb];simp only [bne_self_eq_false,gK];rw [show (e.kind != 1)=true from bne_iff_ne.2 f];rfl
 unfold uA;have hv:gJp (gH5 ⟨1,m,[]⟩)=false:=by
  unfold gJp;simp [gH5,gW1,gGc,hm]
 simp only [lt_];rw [hv];unfold gBy;show cnd false _ (bnd (bnd (mE 100000 w wh (gH5 ⟨1,m,[]⟩) 12) _) _)=_;have ht:=(gPn (gH5 ⟨1,m,[]⟩) (gH5 ⟨1,m,[]⟩)).2 rfl;rw [gK,jQ hn];simp only [bnd,ht,bne_self_eq_false,gK,Bool.not_true]
def zK(c:kP→gY→Int→Option (gQ × Int))(q:kP)(a2:Int)(ab:gH × Int)(y:List gG × Bool):List gY→(List gQ)→Option (gQ × Int)
 | [],f=>(some ((gQ.mk 1 0 ab.1 f),0))
 | aa::xs,f=>gd (bok y.1∧tok aa.type_) (lt_ (apT y.1 aa.type_) fun ac=>
bnd (c q (gY.mk aa.trait ac) (IntKind.i64.wrap (a2+1))) fun h=>
(cnd (h.2 != 0) (
(some ((gQ.mk 0 0 (gH.mk 0 0) []),h.2))) (
gd (f.length+[h.1].length≤4294967296) (
zK c q a2 ab y xs (f++[h.1])))))
def uB(c:kP→gY→Int→Option (gQ × Int))(q:kP)(a2:Int)(ab:gH × Int)(y:List gG × Bool):List gY→(List gQ)→Option (gQ × Int)
 | [],f=>(some ((gQ.mk 1 0 ab.1 f),0))
 | aa::xs,f=>gd (bok y.1∧tok aa.type_) (lt_ (apT y.1 aa.type_) fun ac=>
bnd (c q (gY.mk aa.trait ac) (IntKind.i64.wrap (a2+1))) fun h=>
(cnd (h.2 != 0) (
(some ((gQ.mk 0 0 (gH.mk 0 0) []),h.2))) (
gd (f.length+[h.1].length≤4294967296) (
uB c q a2 ab y xs (f++[h.1])))))
def gAj(c:kP→gY→Int→Option (gQ × Int))(q:kP)(a1:gY)(a2:Int):Option (gQ × Int):=
bnd (gN2 q.assumed a1) fun x1=>
(cnd (decide (x1≥0)) (
bnd (at? q.assumed x1) fun x3=>
bnd (gEt (gQ.mk 2 x3.from_ (gH.mk 0 0) []) x3.steps) fun x4=>
(some (x4,0))) (
(cnd (decide (a2≥12)) (
(some ((gQ.mk 0 0 (gH.mk 0 0) []),3))) (
lt_ (gCw q.w a1.trait) fun x6=>
lt_ ((cnd x6.2.2 (x6.1.auto) (false))) fun b7=>
(cnd b7 (
none) (
bnd ((cnd (a1.type_.kind==1) (
(some (a1.type_.kind==1))) (
(some (a1.type_.kind==3))))) fun ac=>
(cnd ac (
(some ((gQ.mk 0 0 (gH.mk 0 0) []),1))) (
(cnd (a1.type_.kind==4) (
bnd (yI q.w a1.type_.name a1.trait) fun y=>
(cnd y.2 (
bnd (gEt (gQ.mk 4 0 (gH.mk 0 0) []) y.1) fun ad=>
(some (ad,0))) (
bnd (gHf q.w a1) fun f=>
(cnd (f.2 != 0) (
(some ((gQ.mk 0 0 (gH.mk 0 0) []),f.2))) (
bnd (gHi q.w f.1) fun aa=>
bnd (gAg aa.1.head a1.type_) fun ae=>
zK c q a2 f ae aa.1.where_ []))))) (
bnd (gHf q.w a1) fun h=>
(cnd (h.2 != 0) (
(some ((gQ.mk 0 0 (gH.mk 0 0) []),h.2))) (
bnd (gHi q.w h.1) fun ab=>
bnd (gAg ab.1.head a1.type_) fun ag=>
uB c q a2 h ag ab.1.where_ []))))))))))))
theorem gR7{y:kP→gY→Int→Option (gQ × Int)}(f:∀(x0:kP) (x1:gY) (x2:Int) {r:gQ × Int},y x0 x1 x2=some r→Go.Eng.Spec Tryz.prog 98 [.ptr 0 0,.d (zY x1),.I x2] [.box [.L 6 (gX x0.w.packages),.L 6 (gM x0.assumed)]] (fun sv Lo=>sv=.tup [.d (pY r.1),.I r.2]∧Lo=[.box [.L 6 (gX x0.w.packages),.L 6 (gM x0.assumed)]]))(q:kP)(a1:gY)(a2:Int){r:gQ × Int}(h:gAj y q a1 a2=some r):Go.Eng.Spec Tryz.prog 98 [.ptr 0 0,.d (zY a1),.I a2] [.box [.L 6 (gX q.w.packages),.L 6 (gM q.assumed)]] (fun sv Lo=>sv=.tup [.d (pY r.1),.I r.2]∧Lo=[.box [.L 6 (gX q.w.packages),.L 6 (gM q.assumed)]]):=by
 obtain⟨⟨c⟩,ap⟩:=q;obtain⟨bb,⟨ah,ai,aj⟩⟩:=a1;unfold gAj at h;refine kM 1 Tryz.func98 rfl (by kernel_rfl) rfl rfl fun A _=>?_;refine goL ?_;obtain⟨x1,dx,h⟩:=gP h;refine gE7 (gF (hMn _ _ dx)) ?_;refine goC h ?_ ?_<;>intro c2 h
 ·refine goL ?_;obtain⟨x3,ct,h⟩:=gP h;obtain⟨dc,ct⟩:=gEd ct;obtain⟨⟨dv,⟨c7,c8,da⟩⟩,dd,de⟩:=x3;refine jL (qP dc (gHq ct)) ?_;refine gBn (jU TBd.h TZ.h rfl (by repeat constructor)) ?_;obtain⟨⟨df,dg,⟨cr,cs⟩,dh⟩,dy,h⟩:=gP h;refine gGa (gR1 (gQ.mk 2 dd (gH.mk 0 0) []) de dy) ?_;refine goL ?_;refine uH 4 rfl rfl ?_;refine jK ?_;obtain rfl:=Option.some.inj h;exact hLc [.d (.st [.i .i64 df,.i .i64 dg,.st [.i .i64 cr,.i .i64 cs],.sl 5 (jZ dh)]),.I 0] [.box [.L 6 (gX c),.L 6 (gM ap)]] ⟨rfl,rfl⟩
 ·refine goS ?_;refine kX (fun c5=>?_) (fun c5=>?_)
  ·replace h:=kD c5 h;refine goL ?_;refine gBn (jU TBd.h TZ.h rfl (by repeat constructor)) ?_;refine jK ?_;obtain rfl:=Option.some.inj h;exact zB [.d (.st [.i .i64 0,.i .i64 0,.st [.i .i64 0,.i .i64 0],.sl 5 []]),.I 3] [.box [.L 6 (gX c),.L 6 (gM ap)]] ⟨rfl,rfl⟩
  ·replace h:=kE c5 h;refine noS ?_;refine gH2 ?_;refine jO (P:=Tryz.prog) Mix.h [(0,true),(1,true),(2,true),(3,true),(4,true),(5,true),(6,true),(7,true),(8,true),(9,true),(10,true),(11,false),(12,false),(13,true),(14,true)] (by kernel_rfl) ?_;refine goY ?_;obtain⟨⟨⟨ak,al,am,an,ao⟩,ec,ed⟩,d0,h⟩:=qB h;have sx6:=gVs (gI.mk c) bb;rw [d0] at sx6;refine jI rfl (gF (sx6)) ?_;refine goY ?_;refine kQ ?_;refine goL ?_;obtain⟨b7,hb7,h⟩:=qB h;refine jT ⟨[(0,.ptr 0 0),(2,.I a2),(4,.ptr 1 0),(6,.ptr 2 0),(66,.B b7)],[.box [.L 6 (gX c),.L 6 (gM ap)],bBd bb ah ai aj,.box [.I 0,.I 0,.I 0,.I 0,.nilsl],bTr ak al am an ao],Tryz.f98.ntmps⟩ ?_ ?_
   ·exact gqZ 63 hb7
   refine goC h ?_ ?_<;>intro c9 h
   ·cases h
   ·refine goS ?_;refine jE ?_;refine goL ?_;obtain⟨d1,hb10,h⟩:=gP h;refine gEf ⟨[(0,.ptr 0 0),(2,.I a2),(4,.ptr 1 0),(6,.ptr 2 0),(80,.I ah),(81,.B d1)],[.box [.L 6 (gX c),.L 6 (gM ap)],bBd bb ah ai aj,.box [.I 0,.I 0,.I 0,.I 0,.nilsl],bTr ak al am an ao],Tryz.f98.ntmps⟩ ?_ ?_
    ·refine kX (fun cu=>?_) (fun cu=>?_)
     ·replace hb10:=kD cu hb10;refine zA ?_;cases hb10;exact eJ
     ·replace hb10:=kE cu hb10;refine goL ?_;cases hb10;exact eJ
    refine goC h ?_ ?_<;>intro eg h
    ·refine goL ?_;refine gBn (jU TBd.h TZ.h rfl (by repeat constructor)) ?_;refine jK ?_;obtain rfl:=Option.some.inj h;exact zB [.d (.st [.i .i64 0,.i .i64 0,.st [.i .i64 0,.i .i64 0],.sl 5 []]),.I 1] [.box [.L 6 (gX c),.L 6 (gM ap)]] ⟨rfl,rfl⟩
    ·refine goC h ?_ ?_<;>intro eh h
     ·refine goL ?_;obtain⟨⟨cv,d2⟩,di,h⟩:=gP h;refine gE7 (gF (gI8 _ _ _ di)) ?_;refine goC h ?_ ?_<;>intro ei h
      ·refine goL ?_;refine gBn (jU TBd.h TZ.h rfl (by repeat constructor)) ?_;obtain⟨⟨cw,cx,⟨cl,cm⟩,cy⟩,dj,h⟩:=gP h;refine gGa (gR1 (gQ.mk 4 0 (gH.mk 0 0) []) cv dj) ?_;refine goL ?_;refine uH 4 rfl rfl ?_;refine jK ?_;obtain rfl:=Option.some.inj h;exact hLc [.d (.st [.i .i64 cw,.i .i64 cx,.st [.i .i64 cl,.i .i64 cm],.sl 5 (jZ cy)]),.I 0] [.box [.L 6 (gX c),.L 6 (gM ap)]] ⟨rfl,rfl⟩
      ·refine noS ?_;refine jO (P:=Tryz.prog) Mix.h [(0,true),(1,true),(2,true),(3,true),(4,true),(5,true),(6,true),(7,true),(8,true),(9,false),(10,false),(11,true)] (by kernel_rfl) ?_;refine goY ?_;obtain⟨⟨⟨aa,ab⟩,cn⟩,dk,h⟩:=gP h;refine jI rfl (gF (gXk _ _ dk)) ?_;refine goY ?_;refine kQ ?_;refine goC h ?_ ?_<;>intro ej h
       ·refine goL ?_;refine gBn (jU TBd.h TZ.h rfl (by repeat constructor)) ?_;refine jK ?_;obtain rfl:=Option.some.inj h;exact zB [.d (.st [.i .i64 0,.i .i64 0,.st [.i .i64 0,.i .i64 0],.sl 5 []]),.I cn] [.box [.L 6 (gX c),.L 6 (gM ap)]] ⟨rfl,rfl⟩
       ·refine noS ?_;refine jO (P:=Tryz.prog) Mix.h [(0,true),(1,true),(2,true),(3,true),(4,true),(5,true),(6,true),(7,true),(8,true),(9,false),(10,false),(11,true)] (by kernel_rfl) ?_;refine goY ?_;obtain⟨⟨⟨bi,bj,⟨aw,ax,ay⟩,ae,bk,bl,⟨a0,a3,a4⟩,bm⟩,d3⟩,dl,h⟩:=gP h;refine jI rfl (gF (gO9 _ _ dl)) ?_;refine goY ?_;refine kQ ?_;refine goL ?_;obtain⟨⟨cd,cz⟩,dm,h⟩:=gP h;refine jL (gF (gN5 _ _ dm)) ?_;refine gBn (jU TBd.h TZ.h rfl (by repeat constructor)) ?_;refine noB ?_;refine wT 147 5 6 4 rfl rfl (by repeat constructor) (by repeat constructor) (by repeat constructor) (by repeat constructor) ?_;show V _ _ _ _ _;refine gBx 137 (fun ek=>?_);refine kS (fun(cb:Nat) (b6:List gQ) (b4:Nat)=>⟨[(0,.ptr 0 0),(2,.I a2),(6,.ptr 2 0),(20,.L 4 (gN cd)),(22,.ptr 6 0),(137,.L 4 (kV ae)),(138,.I (ae.length:Int)),(139,.N cb)],[.box [.L 6 (gX c),.L 6 (gM ap)],bBd bb ah ai aj,.box [.I 0,.I 0,.I 0,.I 0,.nilsl],bTr ak al am an ao,.box [.I aa,.I ab],bIn bi bj aw ax ay ae bk bl a0 a3 a4 bm,.box [.I 1,.I 0,.I aa,.I ab,.sl 7 b4],.arr 147 5 b4 (jZ b6)],Tryz.f98.ntmps⟩) (fun cb b6 b4=>zK y (kP.mk (gI.mk c) ap) a2 ((gH.mk aa ab),cn) (cd,cz) (ae.drop cb) b6=some r) (fun cb b6 b4=>ae.length - cb) 0 [] 0 eJ h ?_;rintro cb b6 b4 h;refine goL ?_;refine jW (kX (fun c0=>?_) (fun c0=>?_))
        ·have ce:=uR c0;obtain⟨d4,dn,c1⟩:=drop_at ce;rw [c1,zK.eq_2] at h;obtain⟨b0,⟨bn,bo,bp⟩⟩:=d4;refine noS ?_;refine jW (jE ?_);refine goL ?_;refine qI (jM cb (gHm dn)) ?_;refine gH2 ?_;obtain⟨d5,h⟩:=mW h;obtain⟨⟨ch,ci,b1⟩,dp,h⟩:=qB h;have sx28:=gQ6 cd (gB.mk bn bo bp) d5;rw [dp] at sx28;obtain⟨⟨⟨bc,bd,⟨aq,ar⟩,be⟩,b8⟩,co,h⟩:=gP h;refine qH (P:=Tryz.prog) Mix.h (.q 0 (.q 1 (.q 2 (.q 3 (.q 4 (.q 5 (.q 8 (.q 9 (.h 6 (.q 7 (.h 10 (.q 11 (.q 12 (.q 13 (.h 14 (.h 15 (.q 16 .nil) .nil) .nil)))) (.h 14 (.h 10 (.q 11 (.q 12 (.q 13 (.h 15 (.q 16 .nil) .nil)))) .nil) .nil))) (.h 14 (.h 6 (.q 7 (.h 10 (.q 11 (.q 12 (.q 13 (.h 15 (.q 16 .nil) .nil)))) .nil)) .nil) .nil)))))))))) ⟨[(0,.ptr 0 0),(2,.I a2),(6,.ptr 2 0),(20,.L 4 (gN cd)),(22,.ptr 6 0),(25,.ptr 10 0),(26,.I b8),(137,.L 4 (kV ae)),(138,.I (ae.length:Int)),(139,.N cb)],[.box [.L 6 (gX c),.L 6 (gM ap)],bBd bb ah ai aj,.box [.I 0,.I 0,.I 0,.I 0,.nilsl],bTr ak al am an ao,.box [.I aa,.I ab],bIn bi bj aw ax ay ae bk bl a0 a3 a4 bm,.box [.I 1,.I 0,.I aa,.I ab,.sl 7 b4],.arr 147 5 b4 (jZ b6),bBd b0 bn bo bp,.frz 35 3 0 (jJ b1),.box [.I bc,.I bd,.I aq,.I ar,.L 5 (jZ be)]],Tryz.f98.ntmps⟩ (by kernel_rfl) ?_ ?_
         ·refine gSu ?_;refine hE5 rfl (pR) ?_;refine vW (gNa (sx28) jX) ?_ ?_
          ·refine gSu ?_;refine vW (gJ2 9 rfl rfl (vH (sv:=.tup [.d (.st [.i .i64 bc,.i .i64 bd,.st [.i .i64 aq,.i .i64 ar],.sl 5 (jZ be)]),.I b8]) (L':=[.box [.L 6 (gX c),.L 6 (gM ap)],bBd bb ah ai aj,.box [.I 0,.I 0,.I 0,.I 0,.nilsl],bTr ak al am an ao,.box [.I aa,.I ab],bIn bi bj aw ax ay ae bk bl a0 a3 a4 bm,.box [.I 1,.I 0,.I aa,.I ab,.sl 7 b4],.arr 147 5 b4 (jZ b6),bBd b0 bn bo bp,.frz 35 3 0 (jJ b1)]) [0] (f (kP.mk (gI.mk c) ap) (gY.mk b0 (gB.mk ch ci b1)) (IntKind.i64.wrap (a2+1)) co) jX)) ?_ ?_
           ·refine gSu ?_;refine jY ?_;exact uK 1 [0,1,2,3,4,5,6,7,8,9,10]
           refine gSu ?_;refine jV (gJ2 9 rfl rfl (vH (sv:=.tup [.d (.st [.i .i64 bc,.i .i64 bd,.st [.i .i64 aq,.i .i64 ar],.sl 5 (jZ be)]),.I b8]) (L':=[.box [.L 6 (gX c),.L 6 (gM ap)],bBd bb ah ai aj,.box [.I 0,.I 0,.I 0,.I 0,.nilsl],bTr ak al am an ao,.box [.I aa,.I ab],bIn bi bj aw ax ay ae bk bl a0 a3 a4 bm,.box [.I 1,.I 0,.I aa,.I ab,.sl 7 b4],.arr 147 5 b4 (jZ b6),bBd b0 bn bo bp,.frz 35 3 0 (jJ b1),.box [.I 0,.I 0,.I 0,.I 0,.nilsl]]) [0] (f (kP.mk (gI.mk c) ap) (gY.mk b0 (gB.mk ch ci b1)) (IntKind.i64.wrap (a2+1)) co) jX)) ?_;refine gSu ?_;refine jY ?_;exact uK 1 [0,1,2,3,4,5,6,7,8,9,10]
          refine gSu ?_;refine jV (gNa (sx28) jX) ?_;refine gSu ?_;refine jV (gJ2 10 rfl rfl (vH (sv:=.tup [.d (.st [.i .i64 bc,.i .i64 bd,.st [.i .i64 aq,.i .i64 ar],.sl 5 (jZ be)]),.I b8]) (L':=[.box [.L 6 (gX c),.L 6 (gM ap)],bBd bb ah ai aj,.box [.I 0,.I 0,.I 0,.I 0,.nilsl],bTr ak al am an ao,.box [.I aa,.I ab],bIn bi bj aw ax ay ae bk bl a0 a3 a4 bm,.box [.I 1,.I 0,.I aa,.I ab,.sl 7 b4],.arr 147 5 b4 (jZ b6),bBd b0 bn bo bp,.box [.I 0,.I 0,.I 0,.I 0,.nilsl],.frz 35 3 0 (jJ b1)]) [0] (f (kP.mk (gI.mk c) ap) (gY.mk b0 (gB.mk ch ci b1)) (IntKind.i64.wrap (a2+1)) co) jX)) ?_;refine gSu ?_;refine jY ?_;exact uK 1 [0,1,2,3,4,5,6,7,8,10,9]
         refine goC h ?_ ?_<;>intro el h
         ·refine goL ?_;refine gBn (jU TBd.h TZ.h rfl (by repeat constructor)) ?_;refine jK ?_;obtain rfl:=Option.some.inj h;exact zB [.d (.st [.i .i64 0,.i .i64 0,.st [.i .i64 0,.i .i64 0],.sl 5 []]),.I b8] [.box [.L 6 (gX c),.L 6 (gM ap)]] ⟨rfl,rfl⟩
         ·refine goS ?_;refine gAk (u:=(.st [.i .i64 bc,.i .i64 bd,.st [.i .i64 aq,.i .i64 ar],.sl 5 (jZ be)])) ?_;obtain⟨d6,h⟩:=mW h;refine gBd d6 ?_;refine goL ?_;refine jL (jR cb (by omega)) ?_;exact⟨(cb+1),(b6++[(gQ.mk bc bd (gH.mk aq ar) be)]),(b4+1),h,by omega,eJ⟩
        ·have ce:=uS c0;rw [jF ce,zK.eq_1] at h;refine goX ?_;refine kN 7 rfl rfl ?_;refine jK ?_;obtain rfl:=Option.some.inj h;exact hLc [.d (.st [.i .i64 1,.i .i64 0,.st [.i .i64 aa,.i .i64 ab],.sl 5 (jZ b6)]),.I 0] [.box [.L 6 (gX c),.L 6 (gM ap)]] ⟨rfl,rfl⟩
     ·refine noS ?_;refine jO (P:=Tryz.prog) Mix.h [(0,true),(1,true),(2,true),(3,true),(4,true),(5,true),(6,true),(7,true),(8,true),(9,false),(10,false),(11,true)] (by kernel_rfl) ?_;refine goY ?_;obtain⟨⟨⟨ac,ad⟩,cp⟩,dq,h⟩:=gP h;refine jI rfl (gF (gXk _ _ dq)) ?_;refine goY ?_;refine kQ ?_;refine goC h ?_ ?_<;>intro em h
      ·refine goL ?_;refine gBn (jU TBd.h TZ.h rfl (by repeat constructor)) ?_;refine jK ?_;obtain rfl:=Option.some.inj h;exact zB [.d (.st [.i .i64 0,.i .i64 0,.st [.i .i64 0,.i .i64 0],.sl 5 []]),.I cp] [.box [.L 6 (gX c),.L 6 (gM ap)]] ⟨rfl,rfl⟩
      ·refine noS ?_;refine jO (P:=Tryz.prog) Mix.h [(0,true),(1,true),(2,true),(3,true),(4,true),(5,true),(6,true),(7,true),(8,true),(9,false),(10,false),(11,true)] (by kernel_rfl) ?_;refine goY ?_;obtain⟨⟨⟨bq,br,⟨a5,a6,a7⟩,ag,bt,bu,⟨a8,a9,ba⟩,bv⟩,d7⟩,dr,h⟩:=gP h;refine jI rfl (gF (gO9 _ _ dr)) ?_;refine goY ?_;refine kQ ?_;refine goL ?_;obtain⟨⟨cf,c3⟩,ds,h⟩:=gP h;refine jL (gF (gN5 _ _ ds)) ?_;refine gBn (jU TBd.h TZ.h rfl (by repeat constructor)) ?_;refine noB ?_;refine wT 147 5 6 4 rfl rfl (by repeat constructor) (by repeat constructor) (by repeat constructor) (by repeat constructor) ?_;show V _ _ _ _ _;refine gBx 137 (fun en=>?_);refine kS (fun(cc:Nat) (b9:List gQ) (b5:Nat)=>⟨[(0,.ptr 0 0),(2,.I a2),(6,.ptr 2 0),(20,.L 4 (gN cf)),(22,.ptr 6 0),(137,.L 4 (kV ag)),(138,.I (ag.length:Int)),(139,.N cc)],[.box [.L 6 (gX c),.L 6 (gM ap)],bBd bb ah ai aj,.box [.I 0,.I 0,.I 0,.I 0,.nilsl],bTr ak al am an ao,.box [.I ac,.I ad],bIn bq br a5 a6 a7 ag bt bu a8 a9 ba bv,.box [.I 1,.I 0,.I ac,.I ad,.sl 7 b5],.arr 147 5 b5 (jZ b9)],Tryz.f98.ntmps⟩) (fun cc b9 b5=>uB y (kP.mk (gI.mk c) ap) a2 ((gH.mk ac ad),cp) (cf,c3) (ag.drop cc) b9=some r) (fun cc b9 b5=>ag.length - cc) 0 [] 0 eJ h ?_;rintro cc b9 b5 h;refine goL ?_;refine jW (kX (fun c4=>?_) (fun c4=>?_))
       ·have cg:=uR c4;obtain⟨d8,dt,c6⟩:=drop_at cg;rw [c6,uB.eq_2] at h;obtain⟨b2,⟨bw,bx,bz⟩⟩:=d8;refine noS ?_;refine jW (jE ?_);refine goL ?_;refine qI (jM cc (gHm dt)) ?_;refine gH2 ?_;obtain⟨d9,h⟩:=mW h;obtain⟨⟨cj,ck,b3⟩,du,h⟩:=qB h;have sx43:=gQ6 cf (gB.mk bw bx bz) d9;rw [du] at sx43;obtain⟨⟨⟨bf,bg,⟨au,av⟩,bh⟩,ca⟩,cq,h⟩:=gP h;refine qH (P:=Tryz.prog) Mix.h (.q 0 (.q 1 (.q 2 (.q 3 (.q 4 (.q 5 (.q 8 (.q 9 (.h 6 (.q 7 (.h 10 (.q 11 (.q 12 (.q 13 (.h 14 (.h 15 (.q 16 .nil) .nil) .nil)))) (.h 14 (.h 10 (.q 11 (.q 12 (.q 13 (.h 15 (.q 16 .nil) .nil)))) .nil) .nil))) (.h 14 (.h 6 (.q 7 (.h 10 (.q 11 (.q 12 (.q 13 (.h 15 (.q 16 .nil) .nil)))) .nil)) .nil) .nil)))))))))) ⟨[(0,.ptr 0 0),(2,.I a2),(6,.ptr 2 0),(20,.L 4 (gN cf)),(22,.ptr 6 0),(25,.ptr 10 0),(26,.I ca),(137,.L 4 (kV ag)),(138,.I (ag.length:Int)),(139,.N cc)],[.box [.L 6 (gX c),.L 6 (gM ap)],bBd bb ah ai aj,.box [.I 0,.I 0,.I 0,.I 0,.nilsl],bTr ak al am an ao,.box [.I ac,.I ad],bIn bq br a5 a6 a7 ag bt bu a8 a9 ba bv,.box [.I 1,.I 0,.I ac,.I ad,.sl 7 b5],.arr 147 5 b5 (jZ b9),bBd b2 bw bx bz,.frz 35 3 0 (jJ b3),.box [.I bf,.I bg,.I au,.I av,.L 5 (jZ bh)]],Tryz.f98.ntmps⟩ (by kernel_rfl) ?_ ?_
        ·refine gSu ?_;refine hE5 rfl (pR) ?_;refine vW (gNa (sx43) jX) ?_ ?_
         ·refine gSu ?_;refine vW (gJ2 9 rfl rfl (vH (sv:=.tup [.d (.st [.i .i64 bf,.i .i64 bg,.st [.i .i64 au,.i .i64 av],.sl 5 (jZ bh)]),.I ca]) (L':=[.box [.L 6 (gX c),.L 6 (gM ap)],bBd bb ah ai aj,.box [.I 0,.I 0,.I 0,.I 0,.nilsl],bTr ak al am an ao,.box [.I ac,.I ad],bIn bq br a5 a6 a7 ag bt bu a8 a9 ba bv,.box [.I 1,.I 0,.I ac,.I ad,.sl 7 b5],.arr 147 5 b5 (jZ b9),bBd b2 bw bx bz,.frz 35 3 0 (jJ b3)]) [0] (f (kP.mk (gI.mk c) ap) (gY.mk b2 (gB.mk cj ck b3)) (IntKind.i64.wrap (a2+1)) cq) jX)) ?_ ?_
          ·refine gSu ?_;refine jY ?_;exact uK 1 [0,1,2,3,4,5,6,7,8,9,10]
          refine gSu ?_;refine jV (gJ2 9 rfl rfl (vH (sv:=.tup [.d (.st [.i .i64 bf,.i .i64 bg,.st [.i .i64 au,.i .i64 av],.sl 5 (jZ bh)]),.I ca]) (L':=[.box [.L 6 (gX c),.L 6 (gM ap)],bBd bb ah ai aj,.box [.I 0,.I 0,.I 0,.I 0,.nilsl],bTr ak al am an ao,.box [.I ac,.I ad],bIn bq br a5 a6 a7 ag bt bu a8 a9 ba bv,.box [.I 1,.I 0,.I ac,.I ad,.sl 7 b5],.arr 147 5 b5 (jZ b9),bBd b2 bw bx bz,.frz 35 3 0 (jJ b3),.box [.I 0,.I 0,.I 0,.I 0,.nilsl]]) [0] (f (kP.mk (gI.mk c) ap) (gY.mk b2 (gB.mk cj ck b3)) (IntKind.i64.wrap (a2+1)) cq) jX)) ?_;refine gSu ?_;refine jY ?_;exact uK 1 [0,1,2,3,4,5,6,7,8,9,10]
         refine gSu ?_;refine jV (gNa (sx43) jX) ?_;refine gSu ?_;refine jV (gJ2 10 rfl rfl (vH (sv:=.tup [.d (.st [.i .i64 bf,.i .i64 bg,.st [.i .i64 au,.i .i64 av],.sl 5 (jZ bh)]),.I ca]) (L':=[.box [.L 6 (gX c),.L 6 (gM ap)],bBd bb ah ai aj,.box [.I 0,.I 0,.I 0,.I 0,.nilsl],bTr ak al am an ao,.box [.I ac,.I ad],bIn bq br a5 a6 a7 ag bt bu a8 a9 ba bv,.box [.I 1,.I 0,.I ac,.I ad,.sl 7 b5],.arr 147 5 b5 (jZ b9),bBd b2 bw bx bz,.box [.I 0,.I 0,.I 0,.I 0,.nilsl],.frz 35 3 0 (jJ b3)]) [0] (f (kP.mk (gI.mk c) ap) (gY.mk b2 (gB.mk cj ck b3)) (IntKind.i64.wrap (a2+1)) cq) jX)) ?_;refine gSu ?_;refine jY ?_;exact uK 1 [0,1,2,3,4,5,6,7,8,10,9]
        refine goC h ?_ ?_<;>intro eo h
        ·refine goL ?_;refine gBn (jU TBd.h TZ.h rfl (by repeat constructor)) ?_;refine jK ?_;obtain rfl:=Option.some.inj h;exact zB [.d (.st [.i .i64 0,.i .i64 0,.st [.i .i64 0,.i .i64 0],.sl 5 []]),.I ca] [.box [.L 6 (gX c),.L 6 (gM ap)]] ⟨rfl,rfl⟩
        ·refine goS ?_;refine gAk (u:=(.st [.i .i64 bf,.i .i64 bg,.st [.i .i64 au,.i .i64 av],.sl 5 (jZ bh)])) ?_;obtain⟨ea,h⟩:=mW h;refine gBd ea ?_;refine goL ?_;refine jL (jR cc (by omega)) ?_;exact⟨(cc+1),(b9++[(gQ.mk bf bg (gH.mk au av) bh)]),(b5+1),h,by omega,eJ⟩
       ·have cg:=uS c4;rw [jF cg,uB.eq_1] at h;refine goX ?_;refine kN 7 rfl rfl ?_;refine jK ?_;obtain rfl:=Option.some.inj h;exact hLc [.d (.st [.i .i64 1,.i .i64 0,.st [.i .i64 ac,.i .i64 ad],.sl 5 (jZ b9)]),.I 0] [.box [.L 6 (gX c),.L 6 (gM ap)]] ⟨rfl,rfl⟩
def qN:Nat→kP→gY→Int→Option (gQ × Int)
 | 0,_,_,_=>none
 | n+1,c,f,h=>gAj (qN n) c f h
theorem gLj:∀(n:Nat) (c:kP) (f:gY) (y:Int) {r:gQ × Int},qN n c f y=some r→Go.Eng.Spec Tryz.prog 98 [.ptr 0 0,.d (zY f),.I y] [.box [.L 6 (gX c.w.packages),.L 6 (gM c.assumed)]] (fun sv Lo=>sv=.tup [.d (pY r.1),.I r.2]∧Lo=[.box [.L 6 (gX c.w.packages),.L 6 (gM c.assumed)]]):=by
 intro n
 induction n with
 | zero=>intro c f y r h;cases h
 | succ n ih=>intro c f y r h;exact gR7 ih c f y h
end Go.Proofs.YtegahmhnmjnhhaaGreat
