import Derived.Test.YtfpdlnkkcnmebaaGreatB28
set_option maxHeartbeats 4000000
set_option linter.unusedVariables false
set_option linter.unusedSimpArgs false
set_option linter.unusedSectionVars false
namespace Go.Proofs.YtfpdlnkkcnmebaaGreat
open Go Go.Eng
attribute [local irreducible] V VO VQ VY Quiet QR jF mJ Rng qI qJ qB
def gIf(c:gN):Option (gM × gN):=
bnd (gJv c) fun y=>
bnd (vH y.2 5) fun f=>
bnd ((cnd f.1 (
bnd (gVz f.2) fun q=>
gd (y.1.packages.length+[q.1].length≤4294967296) (
(some (q.2.b,q.2.i,q.2.h,(y.1.packages++[q.1]))))) (
(some (f.2.b,f.2.i,f.2.h,y.1.packages))))) fun b3=>
(some ((gM.mk b3.2.2.2),(gN.mk b3.1 b3.2.1 b3.2.2.1)))
theorem gZd(c:gN){r:gM × gN}(h:gIf c=some r):Go.Eng.Spec Tryz.prog 41 [.ptr 0 0] [bCu c.b c.i c.h] (fun sv Lo=>sv=.d (kW r.1)∧Lo=[bCu r.2.b r.2.i r.2.h]):=by
 obtain⟨ay,a0,a3⟩:=c;unfold gIf at h;refine kS 1 Tryz.func41 rfl (by kernel_rfl) rfl rfl fun A _=>?_;refine goL ?_;obtain⟨⟨⟨aj⟩,⟨ak,al,am⟩⟩,a4,h⟩:=gJ h;refine gCl [0] (gZ0 (gN.mk ay a0 a3) a4) ?_;rintro _ _ ⟨rfl,rfl⟩;show VO _ _ _ _ ⟨(_,.ag [.sl 2 0])::_,[bCu ak al am,.box [.nilsl],.arr 91 6 0 (kQ aj)],_⟩ _;refine goL ?_;obtain⟨⟨a8,⟨ae,ah,ai⟩⟩,a5,h⟩:=gJ h;refine mZ 0 (zD (gN.mk ak al am) 5 a5) ?_;refine goL ?_;obtain⟨⟨aq,ar,au,av⟩,hb3,h⟩:=gJ h;refine gIx (fun v4=>⟨[(2,.ptr 1 0),(3,.ptr 3 0)],[bCu aq ar au,.box [.nilsl],.arr 91 6 v4 (kQ av),.box [.sl 2 v4]],Tryz.f41.ntmps⟩) ?_ (fun v4=>?_)
 ·refine mQ (fun c5=>?_) (fun c5=>?_)
  ·replace hb3:=kT c5 hb3;obtain⟨⟨⟨f,y,aa,ab,ac,ad⟩,⟨an,ao,ap⟩⟩,aw,hb3⟩:=gJ hb3;obtain⟨g7,hb3⟩:=pO hb3;refine qQ (P:=Tryz.prog) Mix.h (.q 2 (.h 0 (.h 1 (.h 3 (.h 4 (.h 5 (.q 6 (.h 7 .nil .nil)) .nil) .nil) .nil) (.h 3 (.h 1 (.h 4 (.h 5 (.q 6 (.h 7 .nil .nil)) .nil) .nil) (.h 4 (.h 1 (.h 5 (.q 6 (.h 7 .nil .nil)) .nil) .nil) .nil)) .nil)) (.h 3 (.h 0 (.h 1 (.h 4 (.h 5 (.q 6 (.h 7 .nil .nil)) .nil) .nil) (.h 4 (.h 1 (.h 5 (.q 6 (.h 7 .nil .nil)) .nil) .nil) .nil)) (.h 4 (.h 0 (.h 1 (.h 5 (.q 6 (.h 7 .nil .nil)) .nil) .nil) .nil) .nil)) .nil))) ⟨[(2,.ptr 1 0),(3,.ptr 3 0)],[bCu an ao ap,.box [.nilsl],.arr 91 6 (0+1) (kQ (aj++[(jX.mk f y aa ab ac ad)])),.box [.sl 2 (0+1)],.arr 91 6 0 (kQ [(jX.mk f y aa ab ac ad)])],Tryz.f41.ntmps⟩ (by kernel_rfl) ?_ ?_
   ·refine goT ?_;refine pR (jJ gQ) ?_ ?_
    ·refine pR (jJ gQ) ?_ ?_
     ·refine gH (mH 0 (gSl (gN.mk ae ah ai) aw) gQ) ?_;refine gH (jT (T:=24) (us:=kQ [(jX.mk f y aa ab ac ad)]) gQ) ?_;refine gH (jR (T:=24) g7 gQ) ?_;refine goT ?_;refine jB ?_;exact mK 1 [0,1,2,3,4]
     refine gH (mH 0 (gSl (gN.mk ae ah ai) aw) gQ) ?_;refine pR (jJ gQ) ?_ ?_
     ·refine gH (jT (T:=24) (us:=kQ [(jX.mk f y aa ab ac ad)]) gQ) ?_;refine gH (jR (T:=24) g7 gQ) ?_;refine goT ?_;refine jB ?_;exact mK 1 [0,1,2,3,4]
     refine gH (jT (T:=24) (us:=kQ [(jX.mk f y aa ab ac ad)]) gQ) ?_;refine gH (jJ gQ) ?_;refine gH (jR (T:=24) g7 gQ) ?_;refine goT ?_;refine jB ?_;exact mK 1 [0,1,2,3,4]
    refine gH (mH 0 (gSl (gN.mk ae ah ai) aw) gQ) ?_;refine pR (jJ gQ) ?_ ?_
    ·refine pR (jJ gQ) ?_ ?_
     ·refine gH (jT (T:=24) (us:=kQ [(jX.mk f y aa ab ac ad)]) gQ) ?_;refine gH (jR (T:=24) g7 gQ) ?_;refine goT ?_;refine jB ?_;exact mK 1 [0,1,2,3,4]
     refine gH (jT (T:=24) (us:=kQ [(jX.mk f y aa ab ac ad)]) gQ) ?_;refine gH (jJ gQ) ?_;refine gH (jR (T:=24) g7 gQ) ?_;refine goT ?_;refine jB ?_;exact mK 1 [0,1,2,3,4]
    refine gH (jT (T:=24) (us:=kQ [(jX.mk f y aa ab ac ad)]) gQ) ?_;refine gH (jJ gQ) ?_;refine gH (jJ gQ) ?_;refine gH (jR (T:=24) g7 gQ) ?_;refine goT ?_;refine jB ?_;exact mK 1 [0,1,2,3,4]
   refine goL ?_;cases hb3;exact⟨(0+1),eJ⟩
  ·replace hb3:=kU c5 hb3;refine yE ?_;cases hb3;exact⟨0,eJ⟩
 refine goL ?_;refine gW 2 rfl rfl ?_;refine jG ?_;obtain rfl:=Option.some.inj h;exact gCo [.d (.st [.sl 6 (kQ av)])] [bCu aq ar au] ⟨rfl,rfl⟩
def gCa(h:LB):Option (gM × gF):=
lt_ (gJ6 h) fun q=>
bnd (gIf q) fun c=>
bnd (mX c.2 4) fun f=>
bnd (mX f.2 14) fun y=>
(some (c.1,(gF.mk (IntKind.i64.wrap (f.1 - 1)) (IntKind.i64.wrap (y.1 - 1)))))
theorem gNt(a0:LB){r:gM × gF}(h:gCa a0=some r):jF Tryz.prog 19 [.L 1 (gEb a0)] [kW r.1,qA r.2]:=by
 unfold gCa at h;refine SpI Tryz.func19 fun A _=>?_;refine goL ?_;obtain⟨⟨ac,ad,ae⟩,al,h⟩:=qW h;have sx1:=hIc a0;rw [al] at sx1;refine gCl [] (sx1) ?_;rintro _ _ ⟨rfl,rfl⟩;show VO _ _ _ _ ⟨(_,.ptr 2 0)::_,[.box [.nilsl],.box [.I 0,.I 0],bCu ac ad ae],_⟩ _;refine goL ?_;obtain⟨⟨⟨ag⟩,⟨c,f,q⟩⟩,am,h⟩:=gJ h;refine mZ 2 (gZd (gN.mk ac ad ae) am) ?_;refine goL ?_;obtain⟨⟨ap,⟨y,aa,ab⟩⟩,an,h⟩:=gJ h;refine mZ 2 (pU (gN.mk c f q) 4 an) ?_;refine jK (pV) ?_;obtain⟨⟨aq,⟨ah,ai,aj⟩⟩,ao,h⟩:=gJ h;refine mZ 2 (pU (gN.mk y aa ab) 14 ao) ?_;refine qM (pV) ?_;refine yS (jU TBd.h TZ.h rfl (by repeat constructor)) ?_;exact goR h
def uN(f:LB):Option (gM × gF):=
bnd (gCa f) fun c=>
(some (c.1,c.2))
theorem gH2(a0:LB){r:gM × gF}(h:uN a0=some r):jF Tryz.prog 6 [.L 1 (gEb a0)] [kW r.1,qA r.2]:=by
 unfold uN at h;refine SpI Tryz.func6 fun A _=>?_;refine goL ?_;obtain⟨⟨⟨c⟩,⟨f,q⟩⟩,y,h⟩:=gJ h;refine qM (gG (gNt _ y)) ?_;exact goR h
theorem hSh:okA=true:=by kernel_rfl
def pC(b:Bool):jX:=match yL (gT0 b)with
 | some (p,_)=>p
 | none=>⟨[],[],[],[],[],[]⟩
def trB(w:gM)(n:LB)(l:LS):Bool:=((zA w n).1.supertraits==l) && (((uD w n).1.supertraits==l) && ((match gDf w n with | some t=>t.1.supertraits==l | none=>false) && (!(zA w n).1.auto && !(uD w n).1.auto)))
def noP(o:Option (List Int × Bool)):Bool:=match o with | some q=> !q.2 | none=>false
theorem hI7(b:Bool)(rest:List jX):trB ⟨pC b::rest⟩ gJp []=true:=by cases b<;>kernel_rfl
theorem hMm(b:Bool)(rest:List jX):trB ⟨pC b::rest⟩ eqN []=true:=by cases b<;>kernel_rfl
theorem hMn(b:Bool)(rest:List jX):trB ⟨pC b::rest⟩ hKj []=true:=by cases b<;>kernel_rfl
theorem hHb(b:Bool)(rest:List jX):trB ⟨pC b::rest⟩ hF7 [eqN]=true:=by cases b<;>kernel_rfl
theorem hSi(b:Bool)(rest:List jX):(noP (vS ⟨pC b::rest⟩ gJp eqN) && noP (vN ⟨pC b::rest⟩ gJp eqN))=true:=by cases b<;>kernel_rfl
theorem hMo(b:Bool)(rest:List jX):(noP (vS ⟨pC b::rest⟩ gJp hF7) && noP (vN ⟨pC b::rest⟩ gJp hF7))=true:=by cases b<;>kernel_rfl
theorem gXz{o:Option (List Int × Bool)}(h:noP o=true):∃p,o=some (p,false):=by
 match o,h with
 | some (p,false),_=>exact⟨p,rfl⟩
structure TrB (w:gM)(n:LB)(l:LS):Prop where
 i:(zA w n).1.supertraits=l
 s:(uD w n).1.supertraits=l
 f:∃t,gDf w n=some t∧t.1.supertraits=l
 a:(uD w n).1.auto=false∧(zA w n).1.auto=false
theorem gR1{w:gM}{n:LB}{l:LS}(h:trB w n l=true):TrB w n l:=by
 unfold trB at h;simp only [Bool.and_eq_true,beq_iff_eq,Bool.not_eq_true'] at h;obtain⟨f,q,c,y,h5⟩:=h;refine⟨f,q,?_,h5,y⟩;split at c
 ·rename_i t ht;exact⟨t,ht,by simpa using c⟩
 ·cases c
def hDy(n:Nat):List gY→Nat→List gF
 | [],_=>[]
 | _::l,k=>⟨(n:Int),(k:Int)⟩::hDy n l (k+1)
theorem gOx(n:Nat):∀(l:List gY)(k:Nat),(hDy n l k).length=l.length
 | [],_=>rfl
 | _::l,k=>by simp [hDy,gOx n l (k+1)]
theorem hHe(n:Nat)(f:List gF→Option (List gF)):∀(l:List gY)(k:Nat)(acc:List gF),acc.length+l.length≤4294967296→qH n f l k acc=f (acc++hDy n l k)
 | [],k,acc,_=>by simp [qH,hDy]
 | x::l,k,acc,h=>by
   simp only [List.length_cons] at h;rw [qH,uF (by simp;omega),hHe n f l (k+1) _ (by simp;omega)];simp [hDy]
theorem gX0{n:Nat}{o:gF}:∀{l:List gY}{k:Nat},o∈hDy n l k→∃j:Nat,o=⟨(n:Int),((k+j:Nat):Int)⟩∧j < l.length
 | [],k,h=>by simp [hDy] at h
 | x::l,k,h=>by
   simp only [hDy,List.mem_cons] at h;rcases h with rfl | h
   ·exact⟨0,rfl,by simp⟩
   ·obtain⟨j,c,f⟩:=gX0 h;exact⟨j+1,by rw [c];congr 2;omega,by simp;omega⟩
def gX1:List jX→Nat→List gF
 | [],_=>[]
 | p::ps,n=>hDy n p.instances 0++gX1 ps (n+1)
theorem gX2:∀(ps:List jX)(n:Nat),(∀p∈ps,PK p)→(gX1 ps n).length≤100*ps.length
 | [],n,_=>by simp [gX1]
 | p::ps,n,h=>by
   have c:=(h p (by simp)).1;have f:=gX2 ps (n+1) fun q hq=>h q (by simp [hq]);simp only [gX1,List.length_append,gOx,List.length_cons];omega
theorem hHf:∀(ps:List jX)(n:Nat)(acc:List gF),acc.length+(gX1 ps n).length≤4294967296→pY ps n acc=some (acc++gX1 ps n)
 | [],n,acc,_=>by simp [pY,gX1]
 | p::ps,n,acc,h=>by
   simp only [gX1,List.length_append,gOx] at h;rw [pY,hHe n _ p.instances 0 acc (by omega)];rw [hHf ps (n+1) _ (by simp [gOx];omega)];simp [gX1]
theorem gX3{o:gF}:∀{ps:List jX}{n:Nat},o∈gX1 ps n→∃(j m:Nat)(p:jX)(i:gY),o=⟨((n+j:Nat):Int),(m:Int)⟩∧ps[j]? =some p∧p.instances[m]? =some i
 | [],n,h=>by simp [gX1] at h
 | p::ps,n,h=>by
   simp only [gX1,List.mem_append] at h;rcases h with h | h
   ·obtain⟨m,c,f⟩:=gX0 h;exact⟨0,m,p,p.instances[m],by rw [c];simp,rfl,List.getElem?_eq_getElem f⟩
   ·obtain⟨j,m,q,i,c,f,y⟩:=gX3 h;exact⟨j+1,m,q,i,by rw [c];congr 2;omega,f,y⟩
structure WD (w:gM):Prop where
 core:∃b rest,w=⟨pC b::rest⟩
 len:w.packages.length≤3
 pk:∀p∈w.packages,PK p
theorem WD.look{w:gM}(h:WD w){o:gF}{i:gY}(hi:gGc w o=some i):IK i:=by
 obtain⟨p,c,f⟩:=gKn hi;exact(h.pk p (List.mem_of_getElem? (gAz c).2)).2 i (List.mem_of_getElem? (gAz f).2)
theorem WD.sw{w:gM}(h:WD w):∃all,SW w all:=by
 have hl:=h.len;have hn:=gX2 w.packages 0 h.pk;have hlook:∀o∈gX1 w.packages 0,∃i,gGc w o=some i:=fun o ho=>by
  obtain⟨j,m,p,i,rfl,c,f⟩:=gX3 ho;refine⟨i,?_⟩;unfold gGc;simp only [Nat.zero_add];rw [gCk,c];simp only [bnd];rw [gCk,f]
 obtain⟨b,rest,rfl⟩:=h.core;dsimp only at hl hn;refine⟨gX1 (pC b::rest) 0,⟨by unfold gBs;rw [hHf _ 0 [] (by simp only [List.length_nil];omega)];rfl,by omega,fun o ho=>?_⟩,fun n hN=>?_,fun n hN=>?_,fun o ho i hi he=>(h.look hi).whr he⟩
 ·obtain⟨i,hi⟩:=hlook o ho;exact⟨i,hi,(h.look hi).hd,(h.look hi).hs⟩
 ·rcases hN with rfl | rfl
  ·exact(gR1 (hMm b rest)).a
  ·exact(gR1 (hHb b rest)).a
 ·rcases hN with rfl | rfl
  ·have:=hSi b rest
   rw [Bool.and_eq_true] at this;exact⟨gXz this.1,gXz this.2⟩
  ·have:=hMo b rest
   rw [Bool.and_eq_true] at this;exact⟨gXz this.1,gXz this.2⟩
theorem hSk{c:gN}(hc:gBc c):Dk (fun w=>WD w∧w.packages.length≤2) (gJv c):=by
 obtain⟨b,c1,e1,e2⟩:=hKi c hc
 have hC:okC b=true:=by cases b;· exact hPa
                        ·exact hO9
 obtain⟨p,p1,p2,p3,p4,p5,p6⟩:=gZz (by omega) hC;have hp:p=pC b:=by unfold pC;rw [p2]
 subst hp;have hk:=hGt p3;obtain⟨y,c2,f1,f2⟩:=gN0 c1 5 e2 (by omega) (by omega);unfold gJv gE8;rw [kF e1,kF f1];cases y with
 | true=>
   have hP:yU (fmt (gT0 b))=some (⟨[pC b]⟩,-1):=by
    unfold yU;rw [kF (hKy _ p5 (by omega))];simp only [uK,p4,jC,p1,bnd,lt_,Bool.not_true];rw [show (((([]:List jX).length:Nat):Int)==5)=false from by decide,jC,uF (by simp)];rfl
   simp only [jV,bnd];rw [hP];exact dkS f2 ⟨⟨⟨b,[],rfl⟩,by simp,fun p hp=>by obtain rfl:=List.mem_singleton.1 hp;exact hk⟩,by simp⟩
 | false=>
   simp only [jC];obtain⟨hd,m,f,h,o3,c3,g1,g2,g3,g4,g5,g6,g7⟩:=hM9 c2 f2;have hA:=hSh;unfold okA at hA;have h1:=List.all_eq_true.1 hA hd g3;have h2:=List.all_eq_true.1 h1 m g4;have h3:=List.all_eq_true.1 h2 f (by rcases g5 with rfl | rfl<;>simp);have h4:=List.all_eq_true.1 h3 h (by rcases g6 with rfl | rfl<;>simp);have h5:=List.all_eq_true.1 h4 o3 (by rcases g7 with rfl | rfl<;>simp);obtain⟨q,q1,_,q3,q4,q5,q6⟩:=gZz (by omega) h5;have hq:=hGt q3;rw [uF (by simp;omega),kF g1,uF (by simp;omega)];simp only [bnd];have hP:yU (fmt (gT0 b)++[10]++fmt (hKd hd m f h o3))=some (⟨[pC b,q]⟩,-1):=by
    unfold yU;have hs:gEl (fmt (gT0 b)++[10]++fmt (hKd hd m f h o3)) 10=some [fmt (gT0 b),fmt (hKd hd m f h o3)]:=hKz _ _ p5 q5 (by omega);rw [kF hs];simp only [uK,p4,q4,jC,p1,q1,bnd,lt_,Bool.not_true];rw [show (((([]:List jX).length:Nat):Int)==5)=false from by decide,jC,uF (by simp)];rw [show ((((([]++[pC b]):List jX).length:Nat):Int)==5)=false from by simp,jC,uF (by simp)];rfl
   rw [hP];refine dkS g2 ⟨⟨⟨b,[q],rfl⟩,by simp,fun p hp=>?_⟩,by simp⟩;simp only [List.mem_cons,List.not_mem_nil,or_false] at hp;rcases hp with rfl | rfl
   ·exact hk
   ·exact hq
theorem hMp{c:gN}(hc:gBc c):Dk WD (gIf c):=by
 unfold gIf;refine dkB (hSk hc) fun w c1 k1 hw=>dkB (gZt k1 (by omega) (by omega)) fun x f k2 _=>?_;cases x with
 | true=>
   obtain⟨p,y,e,k3,hp⟩:=hVn k2;refine dkO (x:=(y.b,y.i,y.h,w.packages++[p])) ?_ (dkS k3 ?_)
   ·show cnd true _ _=_;rw [jV];exact(kF e).trans (uF (by have:=hw.2;simp;omega))
   ·obtain⟨⟨⟨b,rest,rfl⟩,h1,h2⟩,h3⟩:=hw;dsimp only at h1 h2 h3;refine⟨⟨b,rest++[p],rfl⟩,by simp only [List.length_append,List.length_singleton];omega,fun q hq=>?_⟩;rcases List.mem_append.1 hq with hq | hq
    ·exact h2 q hq
    ·obtain rfl:=List.mem_singleton.1 hq;exact hp
 | false=>exact dkO (x:=(f.b,f.i,f.h,w.packages)) rfl (dkS k2 hw.1)
theorem hSl(code:LB)(hc:gBc (gJ6 code)):∃w o,uN code=some (w,o)∧WD w:=by
 obtain⟨w,c1,e,c,hw⟩:=hMp hc;obtain⟨x,c2,f,h,_⟩:=gRb (n:=4) c (by omega) (by omega);obtain⟨y,c3,q,k3,_⟩:=gRb (n:=14) h (by omega) (by omega);unfold uN gCa;simp only [lt_];rw [kF e,kF f,kF q];exact⟨_,_,rfl,hw⟩
theorem Al2.right{α β:Type}{R:α→β→Prop}{l:List α}{l':List β}(h:Al2 R l l'):∀b∈l',∃a,R a b:=by
 induction h with
 | nil=>intro b hb;simp at hb
 | cons h _ ih=>
   intro b hb;rcases List.mem_cons.1 hb with rfl | hb
   ·exact⟨_,h⟩
   ·exact ih b hb
theorem gX4{p:gI→Option Bool}:∀(l:List gI)(k:Nat),(∀x∈l,p x=some false)→kM p l k=some (-1)
 | [],_,_=>rfl
 | x::l,k,h=>by
   rw [kM,kF (h x (by simp)),jC];exact gX4 l (k+1) fun y hy=>h y (by simp [hy])
section
variable {w:gM}{all:List gF}
theorem gX5:∀(d n:Nat)(g:gT)(e:gI),2*d≤n→EvS w all d g e→vB n e=some true
 | 0,n,g,e,hn,h=>h.elim
 | d+1,n,g,e,hn,h=>by
   obtain⟨n,rfl⟩:∃m,n=m+2:=⟨n - 2,by omega⟩
   rw [EvS] at h;obtain⟨f,q,_,_,_,_,i,l,y,_,_,_,h4,_,c⟩:=h;obtain⟨p1,p2⟩:=hFp y;have hl:=c.len;have ha:∀a∈e.args,wV (n+1) a=some false:=fun a ha=>by
    obtain⟨b,hb⟩:=c.right a ha;rw [wV];unfold zT;rw [kF (gX5 d n _ a (by omega) hb)];rfl
   rw [vB];unfold gBj kN pW;rw [gX4 e.args 0 ha,f,q,decide_eq_true (show e.at_.package≥0 from p1),decide_eq_true (show e.at_.at_≥0 from p2),decide_eq_true (show(e.args.length:Int)≤4 by omega)];rfl
theorem gU4{rec:gI→Option Int}{d:Nat}(hd:d≤100):∀(l:List gI)(y:Int),(∀a∈l,∃k,rec a=some k∧0≤k∧k≤(d:Int))→0≤y→y≤((d+1:Nat):Int)→∃k,uR rec l y=some k∧0≤k∧k≤((d+1:Nat):Int)
 | [],y,_,c,f=>⟨y,rfl,c,f⟩
 | a::l,y,h,c,f=>by
   obtain⟨k,e,q,k1⟩:=h a (by simp);rw [uR,kF e,gAb (k+1) (by omega) (by omega)];refine gU4 hd l _ (fun b hb=>h b (by simp [hb])) ?_ ?_<;>split<;>omega
theorem gX6:∀(d n:Nat)(g:gT)(e:gI),d≤100→d≤n→EvS w all d g e→∃k,gA2 n e=some k∧0≤k∧k≤(d:Int)
 | 0,n,g,e,_,hn,h=>h.elim
 | d+1,n,g,e,hd,hn,h=>by
   obtain⟨n,rfl⟩:∃m,n=m+1:=⟨n - 1,by omega⟩
   rw [EvS] at h;obtain⟨_,_,_,_,_,_,i,l,_,_,_,_,_,_,c⟩:=h;rw [gA2];unfold gC3;refine gU4 (by omega) e.args 0 (fun a ha=>?_) (by omega) (by omega);obtain⟨b,hb⟩:=c.right a ha;exact gX6 d n _ a (by omega) (by omega) hb
theorem gU5{d n:Nat}(ih:∀(g:gT)(e:gI),EvS w all d g e→vO n w [] e g=some true){e:gI}{l:List gV}(hb:bok l) :
  ∀(bs:List gT)(az:List gI)(k:Nat),e.args.drop k=az→(∀b∈bs,tok b.type_)→Al2 (fun b a=>EvS w all d ⟨b.trait,apT l b.type_⟩ a) bs az→uJ (vO n) w [] e (l,true) bs k=some true
 | [],_,_,_,_,_=>rfl
 | b::bs,az,k,hk,ht,h=>by
   cases h with
   | @cons _ a _ az f q=>
     have ea:e.args[k]? =some a:=by
      have:=congrArg (fun l=>l[0]?) hk
      simpa [List.getElem?_drop] using this
     have hk2:e.args.drop (k+1)=az:=by
      have:=congrArg List.tail hk
      simpa [List.tail_drop] using this
     rw [uJ,gCk,ea];simp only [bnd];rw [uF ⟨hb,ht b (by simp)⟩];simp only [lt_];rw [ih _ _ f];simp only [Bool.not_true,jC];exact gU5 ih hb bs az (k+1) hk2 (fun c hc=>ht c (by simp [hc])) q
theorem gX7(hw:WI w all):∀(d n:Nat)(g:gT)(e:gI),d≤n→EvS w all d g e→vO n w [] e g=some true
 | 0,n,g,e,hn,h=>h.elim
 | d+1,n,g,e,hn,h=>by
   obtain⟨n,rfl⟩:∃m,n=m+1:=⟨n - 1,by omega⟩
   rw [EvS] at h;obtain⟨y,h2,c,t2,t3,hs,i,l,f,i2,i3,hb,i4,i5,q⟩:=h;obtain⟨j,j1,j2,j3⟩:=hw.look _ i2;obtain rfl:i=j:=Option.some.inj (f.symm.trans j1);have ig:=hCk hw (g:=g) c (hHo t2 t3);have c0:cnd ((0:Int) != 0) true (cnd (!(e.at_.package==e.at_.package && e.at_.at_==e.at_.at_)) true ((e.args.length:Int) !=(i.where_.length:Int)))=false:=by
    rw [q.len];simp [cnd]
   rw [vO];unfold gB8;rw [y,show((1:Int)==2)=false from rfl,show((1:Int)==5)=false from rfl,show((1:Int)==4)=false from rfl,show((1:Int)==3)=false from rfl];simp only [jC];rw [kF ig,hs];dsimp only;rw [kF (gI0 f)];dsimp only;simp only [lt_,c0,jC];rw [kF (gQp j3 c i3)];exact gU5 (fun g e h=>gX7 hw d n g e (by omega) h) hb i.where_ e.args 0 rfl i5 q
theorem hI8(hw:WI w all){d:Nat}(hd:d≤24){g:gT}{e:gI}(h:EvS w all d g e):gA3 w [] e g=some true:=by
 obtain⟨k,c,f,q⟩:=gX6 d 5000 g e (by omega) (by omega) h;unfold gA3;rw [kF (gX5 d 5000 g e (by omega) h)];simp only [jV];rw [kF c,decide_eq_true (show k≤24 by omega)];simp only [jV];rw [kF (gX7 hw d 5000 g e (by omega) h)];rfl
end
def qZ(q:gM)(h:gY × Bool):LS→(List gI)→Option (List gI × Int)
 | [],f=>(some (f,0))
 | y::xs,f=>bnd (gMh q h.1.where_ (gT.mk y h.1.head)) fun c=>
(cnd (c.2 != 0) (
(some ([],c.2))) (
gd (f.length+[c.1].length≤4294967296) (
qZ q h xs (f++[c.1]))))
def mU(c:gM)(a1:gF):Option (List gI × Int):=
bnd (gAk c a1) fun f=>
(cnd (!f.2) (
(some ([],1))) (
lt_ (uD c f.1.trait) fun h=>
qZ c f h.1.supertraits []))
theorem gKl(a0:gM)(a1:gF){r:List gI × Int}(h:mU a0 a1=some r):jF Tryz.prog 8 [.d (kW a0),.d (qA a1)] [.sl 5 (jP r.1),.i .i64 r.2]:=by
 obtain⟨aq⟩:=a0;obtain⟨a4,a5⟩:=a1;unfold mU at h;refine SpI Tryz.func8 fun A _=>?_;refine goL ?_;obtain⟨⟨⟨ae,al,⟨q,y,aa⟩,am,an,ao,⟨ab,ac,ad⟩,ap⟩,a6⟩,ba,h⟩:=gJ h;refine jK (gG (gPy _ _ ba)) ?_;refine mQ (fun c2=>?_) (fun c2=>?_)
 ·replace h:=kT c2 h;refine goL ?_;refine zS ?_;refine goL ?_;refine gW 3 rfl rfl ?_;refine jG ?_;cases h;exact uA
 ·replace h:=kU c2 h;refine goS ?_;obtain⟨⟨⟨ar,ag,au,av,aw⟩,bh,bi⟩,bc,h⟩:=qW h;have sx3:=gFk (gM.mk aq) ae;rw [bc] at sx3;refine jK (gG (sx3)) ?_;refine zS ?_;refine goL ?_;refine noB ?_;refine yP 3 1 (fun z7=>?_);refine kV (fun(y6:Nat)(y4:List gI)(v5:Nat)=>⟨[(2,.ptr 0 0),(6,.ptr 2 0),(8,.ptr 3 0),(11,.sl 4 v5),(12,.N y6)],[bPr aq,.box [.I a4,.I a5],bIn ae al q y aa am an ao ab ac ad ap,bTr ar ag au av aw,.arr 51 5 v5 (jP y4)],Tryz.f8.ntmps⟩) (fun y6 y4 v5=>qZ (gM.mk aq) ((gY.mk ae al (gB.mk q y aa) am an ao (gB.mk ab ac ad) ap),a6) (ag.drop y6) y4=some r) (fun y6 y4 v5=>ag.length - y6) 0 [] 0 eJ h ?_;rintro y6 y4 v5 h;refine goL ?_;refine mQ (fun c8=>?_) (fun c8=>?_)
  ·have ak:=vF c8;obtain⟨x9,be,a7⟩:=drop_at ak;rw [a7,qZ.eq_2] at h;refine noS ?_;refine kH (jE ?_);refine jL (P:=Tryz.prog) Mix.h [(0,true),(1,true),(2,true),(3,true),(4,true),(5,true),(6,true),(7,true),(8,true),(9,true),(10,true),(11,true),(12,true),(13,true),(14,true),(15,false),(16,false),(17,true)] (by kernel_rfl) ?_;refine goY ?_;refine jO rfl (jM y6 (gNp be)) ?_;refine goY ?_;obtain⟨⟨⟨ah,ai,⟨c,f⟩,aj⟩,bf⟩,a8,h⟩:=gJ h;refine jO rfl (gG (hEw _ _ _ a8)) ?_;refine goY ?_;refine kX ?_;refine goC h ?_ ?_<;>intro bj h
   ·refine goL ?_;refine zS ?_;refine goL ?_;refine gW 6 rfl rfl ?_;refine jG ?_;cases h;exact uA
   ·refine goS ?_;refine uQ (u:=(.st [.i .i64 ah,.i .i64 ai,.st [.i .i64 c,.i .i64 f],.sl 5 (jP aj)])) ?_;obtain⟨bg,h⟩:=pO h;refine gAi bg ?_;refine goL ?_;refine jK (kD y6 (by omega)) ?_;exact⟨(y6+1),(y4++[(gI.mk ah ai (gF.mk c f) aj)]),(v5+1),h,by omega,eJ⟩
  ·have ak:=vG c8;rw [jH ak,qZ.eq_1] at h;refine goX ?_;refine gW 4 rfl rfl ?_;refine jG ?_;cases h;exact uA
def uP(x2:gM × gF)(x3:List gI × Int)(c:gY × Bool)(f:mE × Int × Bool):List gI→Nat→Option (Bool)
 | [],h=>(some ((x3.1.length:Int)==(f.1.supertraits.length:Int)))
 | q::xs,h=>bnd (at? f.1.supertraits (h:Int)) fun y=>
bnd (gA3 x2.1 c.1.where_ q (gT.mk y c.1.head)) fun aa=>
(cnd (!aa) (
(some false)) (
uP x2 x3 c f xs (h+1)))
def gGb(y:LB):Option (Bool):=
(cnd (gUf y) (
(some true)) (
bnd (uN y) fun c=>
bnd (mR c.1 c.2) fun f=>
bnd (mU c.1 c.2) fun x4=>
lt_ ((cnd (f.2 != x4.2) (true) ((f.2 != 0)))) fun b5=>
(cnd b5 (
lt_ ((cnd (f.2==x4.2) (((f.1.length:Int)==0)) (false))) fun b8=>
(some b8)) (
bnd (gCb c.1 c.2) fun h=>
bnd (gDf c.1 h.1.trait) fun q=>
uP c f h q f.1 0))))
theorem gTf(a0:LB){r:Bool}(h:gGb a0=some r):jF Tryz.prog 3 [.L 1 (gEb a0)] [.b r]:=by
 unfold gGb at h;refine SpI Tryz.func3 fun A _=>?_;refine goL ?_;refine jK (gG (hK9 a0)) ?_;refine mQ (fun c1=>?_) (fun c1=>?_)
 ·replace h:=kT c1 h;exact goR h
 ·replace h:=kU c1 h;refine goS ?_;obtain⟨⟨⟨c⟩,⟨f,q⟩⟩,bg,h⟩:=gJ h;refine jK (gG (gH2 _ bg)) ?_;obtain⟨⟨ai,aw⟩,bh,h⟩:=gJ h;refine jK (gG (gJ9 _ _ bh)) ?_;obtain⟨⟨bn,a7⟩,bi,h⟩:=gJ h;refine jK (gG (gKl _ _ bi)) ?_;obtain⟨b5,hb5,h⟩:=qW h;refine kC ⟨[(3,.ptr 0 0),(4,.ptr 1 0),(5,.L 5 (jP ai)),(6,.I aw),(8,.I a7),(40,.B b5)],[bPr c,.box [.I f,.I q]],Tryz.f3.ntmps⟩ ?_ ?_
  ·exact gqZ 37 hb5
  refine goC h ?_ ?_<;>intro c7 h
  ·refine goL ?_;obtain⟨b8,hb8,h⟩:=qW h;refine kC ⟨[(2,.B b8)],[bPr c,.box [.I f,.I q]],Tryz.f3.ntmps⟩ ?_ ?_
   ·exact gqZ 44 hb8
   exact goR h
  ·refine goS ?_;obtain⟨⟨⟨aj,ak,⟨y,aa,ab⟩,al,am,an,⟨ac,ad,ae⟩,ao⟩,ay⟩,a8,h⟩:=gJ h;refine jK (gG (gTh _ _ a8)) ?_;obtain⟨⟨⟨ap,aq,ar,au,av⟩,a3,a4⟩,a9,h⟩:=gJ h;refine jK (gG (gUk _ _ a9)) ?_;refine noB ?_;refine gCm 5 (fun bq=>?_);refine qD (fun(ag:Nat)=>⟨[(3,.ptr 0 0),(5,.L 5 (jP ai)),(9,.ptr 2 0),(11,.ptr 3 0),(14,.N ag)],[bPr c,.box [.I f,.I q],bIn aj ak y aa ab al am an ac ad ae ao,bTr ap aq ar au av],Tryz.f3.ntmps⟩) (fun ag=>uP ((gM.mk c),(gF.mk f q)) (ai,aw) ((gY.mk aj ak (gB.mk y aa ab) al am an (gB.mk ac ad ae) ao),ay) ((mE.mk ap aq ar au av),a3,a4) (ai.drop ag) ag=some r) (fun ag=>ai.length - ag) 0 eJ h ?_;rintro ag h;refine goL ?_;refine mQ (fun a5=>?_) (fun a5=>?_)
   ·have ah:=vF a5;obtain⟨bj,ba,a6⟩:=drop_at ah;rw [a6,uP.eq_2] at h;obtain⟨bk,bl,⟨bb,bc⟩,bm⟩:=bj;refine noS ?_;refine kH (jE ?_);refine goL ?_;refine gCy (jM ag (gD9 ba)) ?_;refine goL ?_;obtain⟨br,ax,h⟩:=gJ h;rw [gCk] at ax;refine gCy (jM ag (gNp ax)) ?_;refine goL ?_;refine hPi (jU TBd.h TZ.h rfl (by repeat constructor)) ?_;obtain⟨bt,bd,h⟩:=gJ h;refine gCy (gG (gOf _ _ _ _ bd)) ?_;refine goC h ?_ ?_<;>intro bu h
    ·exact goR h
    ·refine goS ?_;refine jK (kD ag (by omega)) ?_;exact⟨(ag+1),h,by omega,eJ⟩
   ·have ah:=vG a5;rw [jH ah,uP.eq_1] at h;refine goX ?_;refine jG ?_;cases h;exact uA
theorem hFm{w:gM}{o:gF}(h:gGc w o=none):∃z,gC9 w o=some (z,false):=by
 unfold gC9;by_cases c:o.package < 0
 ·rw [decide_eq_true c];exact⟨_,rfl⟩
 rw [decide_eq_false c,jC];by_cases f:o.package≥(w.packages.length:Int)
 ·rw [decide_eq_true f];exact⟨_,rfl⟩
 rw [decide_eq_false f,jC];by_cases q:o.at_ < 0
 ·rw [decide_eq_true q];exact⟨_,rfl⟩
 rw [decide_eq_false q,jC];have hp:at? w.packages o.package=some (w.packages[o.package.toNat]'(by omega)):=by unfold at?;rw [if_pos (by omega)];exact List.getElem?_eq_getElem _
 rw [kF hp];by_cases y:o.at_≥((w.packages[o.package.toNat]'(by omega)).instances.length:Int)
 ·rw [decide_eq_true y];exact⟨_,rfl⟩
 exfalso;unfold gGc at h
 rw [kF hp] at h;unfold at? at h;rw [if_pos (by omega),List.getElem?_eq_getElem (by omega)] at h;cases h
theorem hHg(x:Int)(n:Nat)(hn:n≤1000):gH6 x 0 (IntKind.i64.wrap ((n:Int) - 1))=decide (0≤x∧x < n):=by
 unfold gH6 lt_;rw [gAb _ (by omega) (by omega)];by_cases c:x≥0
 ·rw [decide_eq_true c,jV];exact decide_eq_decide.2 (by omega)
 ·rw [decide_eq_false c,jC];exact(decide_eq_false (by omega)).symm
theorem hFo{w:gM}(hw:WD w)(o:gF):(∃z,gGc w o=none∧gAk w o=some (z,false))∨∃i,gGc w o=some i∧gAk w o=some (i,true):=by
 have hl:=hw.len;unfold gAk;rw [hHg _ _ (by omega)];by_cases c:0≤o.package∧o.package < (w.packages.length:Int)
 ·rw [decide_eq_true c,Bool.not_true,jC];have hp:at? w.packages o.package=some (w.packages[o.package.toNat]'(by omega)):=by unfold at?;rw [if_pos (by omega)];exact List.getElem?_eq_getElem _
  have hk:=(hw.pk _ (List.getElem_mem (by omega:o.package.toNat < w.packages.length))).1;rw [kF hp,hHg _ _ (by omega)];unfold gGc;rw [kF hp];by_cases f:0≤o.at_∧o.at_ < ((w.packages[o.package.toNat]'(by omega)).instances.length:Int)
  ·have hi:at? (w.packages[o.package.toNat]'(by omega)).instances o.at_=some ((w.packages[o.package.toNat]'(by omega)).instances[o.at_.toNat]'(by omega)):=by unfold at?;rw [if_pos (by omega)];exact List.getElem?_eq_getElem _
   rw [decide_eq_true f];simp only [Bool.not_true,bnd,jC];rw [hp];simp only;rw [hi];exact .inr ⟨_,rfl,rfl⟩
  ·rw [decide_eq_false f];refine .inl ⟨_,?_,rfl⟩;unfold at?;by_cases h:0≤o.at_
   ·rw [if_pos (by omega)];exact List.getElem?_eq_none (by omega)
   ·rw [if_neg (by omega)]
 ·rw [decide_eq_false c];refine .inl ⟨_,?_,rfl⟩
  have:at? w.packages o.package=none:=by
   unfold at?;by_cases h:0≤o.package
   ·rw [if_pos (by omega)];exact List.getElem?_eq_none (by omega)
   ·rw [if_neg (by omega)]
  unfold gGc;rw [this];rfl
theorem hI9{w:gM}{o:gF}{i:gY}(hi:gGc w o=some i)(hs:gAk w o=some (i,true))(ht:TrB w i.trait []):mR w o=some ([],0)∧mU w o=some ([],0):=by
 unfold mR mU;rw [kF (gI0 hi),kF hs];simp only [Bool.not_true,jC,lt_];rw [ht.i,ht.s];exact⟨rfl,rfl⟩
theorem hMq{w:gM}{all:List gF}(hw:SW w all){o:gF}{i:gY}(hi:gGc w o=some i)(hs:gAk w o=some (i,true))(ht:TrB w i.trait [eqN])(c:i.where_=[])(hg:GI 0 i.head) :
  (∃n:Int,(n != 0)=true∧mR w o=some ([],n)∧mU w o=some ([],n))∨∃e,EvS w all 12 ⟨eqN,i.head⟩ e∧mR w o=some ([e],0)∧mU w o=some ([e],0):=by
 obtain⟨r,f,h,q⟩:=hF9 hw 12 0 5000 5000 ⟨eqN,i.head⟩ (by omega) (by omega) (by omega) (.inl rfl) hg;have y:gMh w [] ⟨eqN,i.head⟩=some (r.1,r.2):=by
  unfold gMh;rw [show gE7 w []=some [] from rfl];simp only [bnd];rw [show zZ 5000 w [] ⟨eqN,i.head⟩ 12=some r from f]
 have e2:gMd w [] ⟨eqN,i.head⟩=some (r.1,r.2):=by
  unfold gMd;rw [show gGw w []=some ⟨w,[]⟩from rfl];simp only [bnd];rw [show uL 5000 ⟨w,[]⟩ ⟨eqN,i.head⟩ 0=some r from h]
 unfold mR mU;rw [kF (gI0 hi),kF hs];simp only [Bool.not_true,jC,lt_];rw [ht.i,ht.s,qX,qZ,c,kF y,kF e2];cases hc:(r.2 != 0)with
 | true=>exact .inl ⟨r.2,hc,rfl,rfl⟩
 | false=>
   have hc0:r.2=0:=by simpa using hc
   refine .inr ⟨r.1,q hc0,?_⟩;simp only [jC];rw [uF (by simp)];exact⟨rfl,rfl⟩
theorem gTg(code:LB)(h:code.length≤1048576→gBc (gJ6 code)):gGb code=some true:=by
 unfold gGb gUf;cases hb:decide ((code.length:Int) > 1048576)with
 | true=>rfl
 | false=>
   have hb:=of_decide_eq_false hb;obtain⟨w,o,e,hw⟩:=hSl code (h (by omega));rw [jC,kF e];simp only;rcases hFo hw o with ⟨z,h1,h2⟩ | ⟨i,h1,h2⟩
   ·obtain⟨z',h3⟩:=hFm h1;have c:mR w o=some ([],1):=by unfold mR;rw [kF h3];rfl
    have q:mU w o=some ([],1):=by unfold mU;rw [kF h2];rfl
    rw [kF c,kF q];rfl
   ·have hI:=hw.look h1;obtain⟨j,j1,j2,j3,j4⟩:=hI.cp;have hat:gCb w o=some (j,true):=by unfold gCb;rw [kF h2];simp only;rw [kF j1]
    obtain⟨b,rest,hC⟩:=hw.core;have hnil:TrB w i.trait []→(bnd (mR w o) fun y=>bnd (mU w o) fun x4=>lt_ (cnd (y.2 != x4.2) true (y.2 != 0)) fun b5=>cnd b5 (lt_ (cnd (y.2==x4.2) ((y.1.length:Int)==0) false) fun b8=>some b8) (bnd (gCb w o) fun ac=>bnd (gDf w ac.1.trait) fun ae=>uP (w,o) y ac ae y.1 0))=some true:=fun ht=>by
     obtain⟨c,q⟩:=hI9 h1 h2 ht;obtain⟨t,t1,t2⟩:=ht.f;rw [kF c,kF q,hat];simp only [bnd];rw [j2,t1];show some ((([]:List gI).length:Int)==(t.1.supertraits.length:Int))=some true;rw [t2];rfl
    rcases hI.tr with ht | ht | ht | ⟨ht,hwh,hg⟩
    ·exact hnil (by rw [ht,hC];exact gR1 (hI7 b rest))
    ·exact hnil (by rw [ht,hC];exact gR1 (hMm b rest))
    ·exact hnil (by rw [ht,hC];exact gR1 (hMn b rest))
    ·obtain⟨all,hS⟩:=hw.sw;have hT:TrB w i.trait [eqN]:=by rw [ht,hC];exact gR1 (hHb b rest)
     rcases hMq hS h1 h2 hT hwh hg with ⟨n,hn,c,q⟩ | ⟨ev,hev,c,q⟩
     ·rw [kF c,kF q];have hn2:(n != n)=false:=by simp
      simp only [lt_];rw [hn2,jC,hn,jV];simp [jV]
     ·obtain⟨t,t1,t2⟩:=hT.f;rw [kF c,kF q,hat];simp only [bnd];rw [j2,t1];show uP (w,o) ([ev],0) (j,true) t [ev] 0=some true;rw [uP,t2,gCk];simp only [List.getElem?_cons_zero,bnd];rw [j4 hwh,j3,hI8 hS.toWI (by omega) hev];simp only [Bool.not_true,jC];rw [uP,t2];rfl
end Go.Proofs.YtfpdlnkkcnmebaaGreat
