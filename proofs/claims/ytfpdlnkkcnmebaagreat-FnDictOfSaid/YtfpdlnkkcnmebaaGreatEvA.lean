import Derived.Test.YtfpdlnkkcnmebaaGreatCa
set_option maxHeartbeats 4000000
set_option linter.unusedVariables false
set_option linter.unusedSimpArgs false
set_option linter.unusedSectionVars false
namespace Go.Proofs.YtfpdlnkkcnmebaaGreat
open Go Go.Eng
attribute [local irreducible] V VO VQ VY Quiet QR jI mK Rng qE qA pX
theorem gGj{p:gD→Option Bool}{q:gD→Bool}:∀(l:List gD)(k:Nat),(∀x∈l,p x=some (q x))→(wV p l k=some (-1)∧l.filter (fun x=> !q x)=l∧l.any q=false)∨(l.any q=true∧∃(i:Nat),i < l.length∧wV p l k=some ((k+i:Nat):Int)∧l.filter (fun x=> !q x)=l.take i++(l.drop (i+1)).filter (fun x=> !q x))
 | [],k,_=>.inl ⟨rfl,rfl,rfl⟩
 | x::l,k,h=>by
   rw [wV,jV (h x (by simp))];cases hq:q x with
   | true=>exact .inr ⟨by simp [hq],0,by simp,rfl,by simp [hq]⟩
   | false=>
     simp only [gW];rcases gGj l (k+1) (fun y hy=>h y (by simp [hy]))with ⟨f,h2,h4⟩ | ⟨h4,i,f,h2,h3⟩
     ·exact .inl ⟨f,by simp [hq,h2],by simp [hq,h4]⟩
     ·exact .inr ⟨by simp [h4],i+1,by simpa using f,by rw [h2];congr 2;omega,by simp [hq,h3]⟩
theorem hM5{n:Nat}(h:n≤4611686018427387904):IntKind.i64.wrap ((n:Int)+1)=((n+1:Nat):Int):=by rw [zV _ (by omega) (by omega)];omega
theorem gRn{w:gM}{g:gP}{q:gD→Bool}:∀(m n i j:Nat)(l:List gD),l.length≤j+m→m < n→i < j→j≤l.length→l.length≤4000→(∀x∈l.drop j,gIu x w g=some (q x))→
  yK w g n l (i:Int) (j:Int)=some (l.take i++(l.drop j).filter (fun x=> !q x))
 | m,0,i,j,l,_,hn,_,_,_,_=>by omega
 | m,n+1,i,j,l,hm,hn,hi,hj,hl,h=>by
   rw [yK.eq_2];rcases Nat.lt_or_ge j l.length with hlt | hge
   ·match m,hm with
    | 0,hm=>omega
    | m+1,hm=>
      have hd:l.drop j=l[j]::l.drop (j+1):=List.drop_eq_getElem_cons hlt;have hw:IntKind.i64.wrap ((j:Int)+1)=((j+1:Nat):Int):=hM5 (by omega);have hw2:IntKind.i64.wrap ((i:Int)+1)=((i+1:Nat):Int):=hM5 (by omega);rw [show decide ((j:Int) < (l.length:Int))=true from decide_eq_true (by omega),jQ,gA4,List.getElem?_eq_getElem hlt,hw];simp only [bnd];rw [h l[j] (by rw [hd];exact List.mem_cons_self)];simp only;cases hq:q l[j] with
      | true=>
        rw [Bool.not_true,gW,gRn m n i (j+1) l (by omega) (by omega) (by omega) (by omega) hl (fun x hx=>h x (by rw [hd];exact List.mem_cons_of_mem _ hx)),hd,List.filter_cons_of_neg (by simp [hq])]
      | false=>
        have hil:i < l.length:=by omega
        have hdr:(l.set i l[j]).drop (j+1)=l.drop (j+1):=by rw [List.drop_set_of_lt (by omega)]
        rw [Bool.not_false,jQ,gA4,List.getElem?_eq_getElem hil,Int.toNat_natCast,hw2];simp only;rw [gRn m n (i+1) (j+1) (l.set i l[j]) (by simp;omega) (by omega) (by omega) (by simp;omega) (by simpa using hl) (fun x hx=>h x (by rw [hdr] at hx;rw [hd];exact List.mem_cons_of_mem _ hx)),hdr,hd,List.filter_cons_of_pos (by simp [hq])]
        have:(l.set i l[j]).take (i+1)=l.take i++[l[j]]:=by
         rw [List.take_succ_eq_append_getElem (by simpa using hil),List.take_set,List.set_eq_of_length_le (by rw [List.length_take];omega),List.getElem_set_self]
        rw [this,List.append_assoc];rfl
   ·obtain rfl:j=l.length:=by omega
    rw [show decide ((l.length:Int) < (l.length:Int))=false from decide_eq_false (by omega),gW,qN (by omega),qN (by simp only [List.length_append,List.length_take,List.length_replicate,Int.toNat_natCast];omega)];rw [Int.toNat_natCast,List.take_append_of_le_length (by rw [List.length_take];omega),List.take_take,Nat.min_self,List.drop_length];simp
theorem hPp{w:gM}{g:gP}{q:gD→Bool}(l:List gD)(hl:l.length≤4000)(h:∀x∈l,gIu x w g=some (q x)):gK8 l w g=some (l.filter (fun x=> !q x)):=by
 unfold gK8 gGr gD4;rcases gGj (p:=fun z=>gIu z w g) l 0 h with ⟨y,f,_⟩ | ⟨_,i,y,f,h3⟩
 ·rw [jV y];simp only [beq_self_eq_true,jQ,f]
 ·rw [jV f,Nat.zero_add,show((i:Int)== -1)=false from beq_false_of_ne (by omega),gW,hM5 (by omega),h3];exact gRn (l.length - (i+1)) 5000 i (i+1) l (by omega) (by omega) (by omega) (by omega) hl (fun x hx=>h x (List.mem_of_mem_drop hx))
def gVx(b:Bool)(u:gB):Bool:=
(cnd b (
true) (
(u.kind==3)))
theorem hPq(b:Bool)(u:gB):Go.Eng.Spec Tryz.prog 162 [.d (mM u),.ptr 0 0] [.box [.B b]] (fun sv Lo=>sv=.tup []∧Lo=[.box [.B (gVx b u)]]):=by
 obtain⟨r,h⟩:∃r,gVx b u=r:=⟨_,rfl⟩
 rw [h];obtain⟨f,q,y⟩:=u;unfold gVx at h;refine kJ 1 Tryz.func162 rfl (by kernel_rfl) rfl rfl fun A _=>?_;refine goL ?_;refine gqV 4 h ?_ ?_<;>intro c1 h
 ·subst h;exact hMq [] _ ⟨rfl,rfl⟩
 ·subst h;exact hMq [] _ ⟨rfl,rfl⟩
def gCi(f:Bool→gB→Option (Bool)):List gB→Bool→Option (Bool)
 | [],h=>(some h)
 | q::xs,h=>bnd (f h q) fun y=>
gCi f xs y
def gPy(f:Bool→gB→Option (Bool))(b:Bool)(u:gB):Option (Bool):=
lt_ (gVx b u) fun h=>
gCi f u.args h
theorem hIr{f:Bool→gB→Option (Bool)}(q:∀(x0:Bool)(x1:gB){r:Bool},f x0 x1=some r→Go.Eng.Spec Tryz.prog 161 [.d (mM x1),.fn 162 [.ptr 0 0]] [.box [.B x0]] (fun sv Lo=>sv=.tup []∧Lo=[.box [.B r]]))(b:Bool)(u:gB){r:Bool}(h:gPy f b u=some r):Go.Eng.Spec Tryz.prog 161 [.d (mM u),.fn 162 [.ptr 0 0]] [.box [.B b]] (fun sv Lo=>sv=.tup []∧Lo=[.box [.B r]]):=by
 obtain⟨ab,ac,y⟩:=u;unfold gPy at h;refine kJ 1 Tryz.func161 rfl (by kernel_rfl) rfl rfl fun A _=>?_;refine goL ?_;obtain⟨x1,al,h⟩:=uK h;have sx1:=hPq b (gB.mk ab ac y);rw [al] at sx1;refine gBz [0] (sx1) ?_;rintro _ _ ⟨rfl,rfl⟩;show VO _ _ _ _ ⟨(_,.tup [])::_,[.box [.B x1],bTy ab ac y],_⟩ _;refine goL ?_;refine noB ?_;refine gCw 10 (fun z4=>?_);refine gFc (fun(y3:Nat)(y2:Bool)=>⟨[(1,.fn 162 [.ptr 0 0]),(10,.L 3 (gN y)),(11,.I (y.length:Int)),(12,.N y3)],[.box [.B y2],bTy ab ac y],Tryz.f161.ntmps⟩) (fun y3 y2=>gCi f (y.drop y3) y2=some r) (fun y3 y2=>y.length - y3) 0 x1 eJ h ?_;rintro y3 y2 h;refine goL ?_;refine kI (mR (fun c5=>?_) (fun c5=>?_))
 ·have aa:=vR c5;obtain⟨x6,an,ak⟩:=drop_at aa;rw [ak,gCi.eq_2] at h;obtain⟨ae,ag,ah⟩:=x6;refine noS ?_;refine kI (jA ?_);refine goL ?_;refine jP (jR y3 (gDj an)) ?_;obtain⟨x7,ao,h⟩:=gJ h;refine gBz [0] (q y2 (gB.mk ae ag ah) ao) ?_;rintro _ _ ⟨rfl,rfl⟩;show VO _ _ _ _ ⟨(_,.tup [])::_,[.box [.B x7],bTy ab ac y,bTy ae ag ah],_⟩ _;refine goL ?_;refine jP (kD y3 (by omega)) ?_;exact⟨(y3+1),x7,h,by omega,eJ⟩
 ·have aa:=vS c5;rw [jK aa,gCi.eq_1] at h;refine gS5 ?_;show pX _ _ _ _ _ _;obtain rfl:=Option.some.inj h;exact hMq [] _ ⟨rfl,rfl⟩
def gMa:Nat→Bool→gB→Option (Bool)
 | 0,_,_=>none
 | n+1,f,h=>gPy (gMa n) f h
theorem hIt:∀(n:Nat)(f:Bool)(q:gB){r:Bool},gMa n f q=some r→Go.Eng.Spec Tryz.prog 161 [.d (mM q),.fn 162 [.ptr 0 0]] [.box [.B f]] (fun sv Lo=>sv=.tup []∧Lo=[.box [.B r]]):=by
 intro n
 induction n with
 | zero=>intro f q r h;cases h
 | succ n ih=>intro f q r h;exact hIr ih f q h
def gMb(f:gB):Option (Bool):=
bnd (gMa 5000 false f) fun h=>
(some h)
theorem hAw(a0:gB){r:Bool}(h:gMb a0=some r):jI Tryz.prog 134 [.d (mM a0)] [.b r]:=by
 obtain⟨f,q,y⟩:=a0;unfold gMb at h;refine SpI Tryz.func134 fun A _=>?_;refine goL ?_;refine uN (hDt) ?_;obtain⟨x1,ab,h⟩:=gJ h;refine gBz [1] (hIt 5000 false (gB.mk f q y) ab) ?_;rintro _ _ ⟨rfl,rfl⟩;show VO _ _ _ _ ⟨(_,.tup [])::_,[bTy f q y,.box [.B x1]],_⟩ _;exact goR h
def gDx(f:gB):Option (Bool):=
bnd (gCp f) fun h=>
bnd ((cnd ((h.length:Int)==0) (bnd (gMb f) fun q=>
(some (!q))) ((some false)))) fun y=>
(some y)
theorem gXq(a0:gB){r:Bool}(h:gDx a0=some r):jI Tryz.prog 88 [.d (mM a0)] [.b r]:=by
 obtain⟨f,q,y⟩:=a0;unfold gDx at h;refine SpI Tryz.func88 fun A _=>?_;refine goL ?_;obtain⟨x1,ab,h⟩:=gJ h;refine jP (gI ((gR5 (gB.mk f q y) ab).p)) ?_;obtain⟨b2,hb2,h⟩:=gJ h;refine kH ⟨[(2,.B b2)],[bTy f q y],Tryz.f88.ntmps⟩ ?_ ?_
 ·refine gqA 7 hb2 (fun c3 hb2=>?_);obtain⟨x4,ac,hb2⟩:=gJ hb2;refine jP (gI (hAw _ ac)) ?_;cases hb2;exact eJ
 exact goR h
def gLh(f:gB)(a1:gB):Option (Bool):=
bnd (gFa a1 f) fun h=>
bnd ((cnd h (bnd (gFa f a1) fun q=>
(some (!q))) ((some false)))) fun y=>
(some y)
theorem hEx(a0:gB)(a1:gB){r:Bool}(h:gLh a0 a1=some r):jI Tryz.prog 87 [.d (mM a0),.d (mM a1)] [.b r]:=by
 obtain⟨f,q,y⟩:=a0;obtain⟨aa,ab,ac⟩:=a1;unfold gLh at h;refine SpI Tryz.func87 fun A _=>?_;refine goL ?_;obtain⟨x1,ae,h⟩:=gJ h;refine jP (gI (gOm _ _ ae)) ?_;obtain⟨b2,hb2,h⟩:=gJ h;refine kH ⟨[(4,.B b2)],[bTy f q y,bTy aa ab ac],Tryz.f87.ntmps⟩ ?_ ?_
 ·refine gqA 8 hb2 (fun c3 hb2=>?_);obtain⟨x4,ag,hb2⟩:=gJ hb2;refine jP (gI (gOm _ _ ag)) ?_;cases hb2;exact eJ
 exact goR h
def gLi(f:gD)(a1:gM)(a2:jD):Option (Bool):=
bnd (gFb a1 f) fun h=>
bnd (gLh h.1.head a2.head) fun q=>
(some q)
theorem hM6(a0:gD)(a1:gM)(a2:jD){r:Bool}(h:gLi a0 a1 a2=some r):jI Tryz.prog 86 [.d (qO a0),.dp (mD a1),.dp (gBq a2)] [.b r]:=by
 obtain⟨av,aw⟩:=a0;obtain⟨ax⟩:=a1;obtain⟨ay,a3,⟨ad,ae,ag⟩,a4,a5,a6,⟨ah,ai,aj⟩,a7⟩:=a2;unfold gLi at h;refine SpI Tryz.func86 fun A _=>?_;refine goL ?_;obtain⟨⟨⟨ak,al,⟨f,q,y⟩,am,an,ao,⟨aa,ab,ac⟩,ap⟩,a8⟩,ar,h⟩:=gJ h;refine jP (gI (gOn _ _ ar)) ?_;obtain⟨x2,au,h⟩:=gJ h;refine uN (gI (hEx _ _ au)) ?_;exact goR h
def gCj(f:List gD)(a1:gD→Option Bool):Option (Bool):=
bnd (gD4 f a1) fun h=>
(some (decide (h≥0)))
theorem gRo(f:List gD){a1f:Nat}{a1c:List SV}{a1:gD→Option Bool}(a1_lt:∀n,SV.lts n a1c=true)(ha1:∀(y:gD)(r:Bool),a1 y=some r→jI Tryz.prog a1f ([.d (qO y)]++a1c) [.b r]){r:Bool}(h:gCj f a1=some r):jI Tryz.prog 85 [.L 2 (kR f),.fn a1f a1c] [.b r]:=by
 unfold gCj at h;refine SpI Tryz.func85 fun A _=>?_;refine goL ?_;obtain⟨x1,q,h⟩:=gJ h;refine uN (gI (gO4 f (a1:=a1) a1_lt ha1 q)) ?_;exact goR h
def gCk(f:gM)(a1:gP)(q:List gD):List gD→Option (gD × Int)
 | []=>(some ((gD.mk 0 0),1))
 | y::xs=>bnd (gFb f y) fun x6=>
bnd (gCj q (fun z0=>gLi z0 f x6.1)) fun x7=>
(cnd x7 (
gCk f a1 q xs ) (
bnd ((cnd x6.1.default_ (bnd (gDx a1.type_) fun h=>
(some (!h))) ((some false)))) fun b9=>
(cnd b9 (
(some ((gD.mk 0 0),2))) (
(some (y,0))))))
def gHn(f:gM)(a1:gP):Option (gD × Int):=
bnd (gQv f a1) fun h=>
gCk f a1 h h
theorem gVy(a0:gM)(a1:gP){r:gD × Int}(h:gHn a0 a1=some r):jI Tryz.prog 57 [.d (mD a0),.d (yF a1)] [qO r.1,.i .i64 r.2]:=by
 obtain⟨an⟩:=a0;obtain⟨ap,⟨ad,ae,ag⟩⟩:=a1;unfold gHn at h;refine SpI Tryz.func57 fun A _=>?_;refine goL ?_;obtain⟨x1,a3,h⟩:=gJ h;refine jP (gI (hLy _ _ a3)) ?_;refine noB ?_;refine gCw 6 (fun z3=>?_);refine pY (fun(y2:Nat)=>⟨[(2,.ptr 0 0),(3,.ptr 1 0),(4,.ptr 2 0),(6,.L 2 (kR x1)),(15,.L 2 (kR x1)),(16,.I (x1.length:Int)),(17,.N y2)],[bPr an,bBd ap ad ae ag,.box [.I 0,.I 0]],Tryz.f57.ntmps⟩) (fun y2=>gCk (gM.mk an) (gP.mk ap (gB.mk ad ae ag)) x1 (x1.drop y2)  =some r) (fun y2=>x1.length - y2) 0 eJ h ?_;rintro y2 h;refine goL ?_;refine kI (mR (fun c4=>?_) (fun c4=>?_))
 ·have ao:=vR c4;obtain⟨x5,a5,au⟩:=drop_at ao;rw [au,gCk.eq_2] at h;obtain⟨av,aw⟩:=x5;refine noS ?_;refine kI (jA ?_);refine goL ?_;refine jP (jR y2 (zA a5)) ?_;obtain⟨⟨⟨ah,ai,⟨f,q,y⟩,aj,ak,al,⟨aa,ab,ac⟩,am⟩,ba⟩,a6,h⟩:=gJ h;refine jP (gI (gOn _ _ a6)) ?_;refine uN (hDt) ?_;obtain⟨x7,a7,h⟩:=gJ h;refine yT (hV3 (gRo x1 (a1:=(fun z0=>gLi z0 (gM.mk an) (jD.mk ah ai (gB.mk f q y) aj ak al (gB.mk aa ab ac) am))) (fun _=>rfl) (fun z0 r hr=>hM6 z0 (gM.mk an) (jD.mk ah ai (gB.mk f q y) aj ak al (gB.mk aa ab ac) am) hr) a7)) ?_;refine mR (fun c8=>?_) (fun c8=>?_)
  ·replace h:=kU c8 h;refine goX ?_;refine jP (kD y2 (by omega)) ?_;exact⟨(y2+1),h,by omega,eJ⟩
  ·replace h:=kV c8 h;refine goS ?_;obtain⟨b9,hb9,h⟩:=gJ h;refine kH ⟨[(4,.ptr 2 0),(8,.ptr 3 0),(38,.B b9)],[bPr an,bBd ap ad ae ag,.box [.I 0,.I 0],.box [.I av,.I aw],bIn ah ai f q y aj ak al aa ab ac am],Tryz.f57.ntmps⟩ ?_ ?_
   ·refine gqA 33 hb9 (fun bd hb9=>?_);obtain⟨be,ax,hb9⟩:=gJ hb9;refine jP (gI (gXq _ ax)) ?_;cases hb9;exact eJ
   refine goC h ?_ ?_<;>intro bf h
   ·refine goL ?_;refine vP (jN TBd.h TZ.h rfl (by repeat constructor)) ?_;exact goR h
   ·refine goS ?_;refine jF ?_;cases h;exact uM
 ·have ao:=vS c4;rw [jK ao,gCk.eq_1] at h;refine goX ?_;refine vP (jN TBd.h TZ.h rfl (by repeat constructor)) ?_;exact goR h
def gD8(f:gK→Int→Option (gH × gK))(a1:Int)(x7:Int × gK)(x8:Int × gK)(x9:Int × gK):Nat→LB→Int→Int→(List gH)→Int→Option (gH × gK)
 | 0,aa,ab,ac,y,ad=>none
 | ae+1,aa,ab,ac,y,ad=>(cnd (decide (ad < x9.1)) (
bnd (f (gK.mk aa ab ac) (IntKind.i64.wrap (a1 - 1))) fun q=>
gd (y.length+[q.1].length≤4294967296) (
gD8 f a1 x7 x8 x9 ae q.2.b q.2.i q.2.h (y++[q.1]) (IntKind.i64.wrap (ad+1)))) (
(some ((gH.mk 1 0 (gD.mk x7.1 x8.1) y),(gK.mk aa ab ac)))))
def gMz(f:gK→Int→Option (gH × gK))(c:gK)(a1:Int)(n0:Nat):Option (gH × gK):=
bnd (kW c 6) fun q=>
bnd ((cnd (decide (a1≤0)) (
(some 1)) (
(some q.1)))) fun y=>
bnd ((cnd (y==0) (
(some (y==0))) (
(some (y==4))))) fun b4=>
(cnd b4 (
bnd (kW q.2 2) fun x7=>
bnd (kW x7.2 8) fun x8=>
bnd (kW x8.2 3) fun x9=>
gD8 f a1 x7 x8 x9 n0 x9.2.b x9.2.i x9.2.h [] 0) (
(cnd (y==2) (
bnd (kW q.2 2) fun aa=>
bnd (f aa.2 (IntKind.i64.wrap (a1 - 1))) fun ab=>
(some ((gH.mk 3 aa.1 (gD.mk 0 0) [ab.1]),ab.2))) (
(cnd (y==3) (
(some ((gH.mk 4 0 (gD.mk 0 0) []),q.2))) (
(cnd (y==5) (
(some ((gH.mk 5 0 (gD.mk 0 0) []),q.2))) (
bnd (kW q.2 3) fun ac=>
(some ((gH.mk 2 ac.1 (gD.mk 0 0) []),ac.2))))))))))
theorem hM7{ae:gK→Int→Option (gH × gK)}(ad:∀(x0:gK)(x1:Int){r:gH × gK},ae x0 x1=some r→Go.Eng.Spec Tryz.prog 93 [.ptr 0 0,.I x1] [bCu x0.b x0.i x0.h] (fun sv Lo=>sv=.d (mZ r.1)∧Lo=[bCu r.2.b r.2.i r.2.h]))(c:gK)(a1:Int){n0:Nat}{r:gH × gK}(h:gMz ae c a1 n0=some r):Go.Eng.Spec Tryz.prog 93 [.ptr 0 0,.I a1] [bCu c.b c.i c.h] (fun sv Lo=>sv=.d (mZ r.1)∧Lo=[bCu r.2.b r.2.i r.2.h]):=by
 obtain⟨bx,bz,b0⟩:=c;unfold gMz at h;refine kJ 1 Tryz.func93 rfl (by kernel_rfl) rfl rfl fun A _=>?_;refine goL ?_;obtain⟨⟨cb,⟨ag,ah,ai⟩⟩,b1,h⟩:=gJ h;refine mI 0 (mH (gK.mk bx bz b0) 6 b1) ?_;refine goL ?_;obtain⟨b2,hb2,h⟩:=gJ h;refine wY ⟨[(0,.ptr 0 0),(1,.I a1),(4,.ptr 1 0),(5,.I b2)],[bCu ag ah ai,.box [.I 0,.I 0,.I 0,.I 0,.nilsl]],Tryz.f93.ntmps⟩ ?_ ?_
 ·refine mR (fun c3=>?_) (fun c3=>?_)
  ·replace hb2:=kU c3 hb2;refine goL ?_;cases hb2;exact eJ
  ·replace hb2:=kV c3 hb2;refine vN ?_;cases hb2;exact eJ
 refine goL ?_;refine jA ?_;refine goL ?_;obtain⟨b4,hb4,h⟩:=gJ h;refine wY ⟨[(0,.ptr 0 0),(1,.I a1),(4,.ptr 1 0),(13,.I b2),(14,.B b4)],[bCu ag ah ai,.box [.I 0,.I 0,.I 0,.I 0,.nilsl]],Tryz.f93.ntmps⟩ ?_ ?_
 ·refine mR (fun c5=>?_) (fun c5=>?_)
  ·replace hb4:=kU c5 hb4;refine vN ?_;cases hb4;exact eJ
  ·replace hb4:=kV c5 hb4;refine goL ?_;cases hb4;exact eJ
 refine goC h ?_ ?_<;>intro c6 h
 ·refine goL ?_;obtain⟨⟨a3,⟨a4,a5,a6⟩⟩,b6,h⟩:=gJ h;refine mI 0 (mH (gK.mk ag ah ai) 2 b6) ?_;refine goL ?_;obtain⟨⟨a7,⟨a8,a9,ba⟩⟩,b7,h⟩:=gJ h;refine mI 0 (mH (gK.mk a4 a5 a6) 8 b7) ?_;refine vP (jN TBd.h TZ.h rfl (by repeat constructor)) ?_;refine yT (jN TBd.h TZ.h rfl (by repeat constructor)) ?_;obtain⟨⟨be,⟨bb,bc,bd⟩⟩,b8,h⟩:=gJ h;refine mI 0 (mH (gK.mk a8 a9 ba) 3 b8) ?_;refine goL ?_;refine noB ?_;refine qZ 51 5 2 4 rfl rfl (by repeat constructor) (by repeat constructor) (by repeat constructor) (by repeat constructor) ?_;show V _ _ _ _ _;refine gXg (fun(al:Nat)(am:LB)(an:Int)(ao:Int)(ap:List gH)(a0:Int)(aq:Nat)=>⟨[(0,.ptr 0 0),(1,.I a1),(4,.ptr 1 0),(6,.ptr 2 0),(7,.I be),(8,.I a0)],[bCu am an ao,.box [.I 0,.I 0,.I 0,.I 0,.nilsl],.box [.I 1,.I 0,.I a3,.I a7,.sl 3 aq],.arr 51 5 aq (jE ap)],Tryz.f93.ntmps⟩) (fun al am an ao ap a0 aq=>gD8 ae a1 (a3,(gK.mk a4 a5 a6)) (a7,(gK.mk a8 a9 ba)) (be,(gK.mk bb bc bd)) al am an ao ap a0=some r) (fun al am an ao ap a0 aq=>al) n0 bb bc bd [] 0 0 eJ h ?_;rintro al am an ao ap a0 aq h;rcases al with _ | al
  ·cases h
  rw [gD8.eq_2] at h;refine goC h ?_ ?_<;>intro ce h
  ·refine noS ?_;refine kI (jA ?_);obtain⟨⟨⟨aa,ab,⟨f,y⟩,ac⟩,⟨ar,au,av⟩⟩,bl,h⟩:=gJ h;obtain⟨bm,h⟩:=pU h;refine qY (P:=Tryz.prog) Mix.h (.q 0 (q3T 2 (.h 1 (hcT 5 (hcT 6 (hcT 7 (.q 8 (hzT 9))))) (hcT 5 (.h 1 (hcT 6 (hcT 7 (.q 8 (hzT 9)))) (hcT 6 (hcT 1 (hcT 7 (.q 8 (hzT 9)))))))))) ⟨[(0,.ptr 0 0),(1,.I a1),(4,.ptr 1 0),(6,.ptr 2 0),(7,.I be),(8,.I a0)],[bCu ar au av,.box [.I 0,.I 0,.I 0,.I 0,.nilsl],.box [.I 1,.I 0,.I a3,.I a7,.sl 3 (aq+1)],.arr 51 5 (aq+1) (jE (ap++[(gH.mk aa ab (gD.mk f y) ac)])),.arr 51 5 0 (jE [(gH.mk aa ab (gD.mk f y) ac)])],Tryz.f93.ntmps⟩ (by kernel_rfl) ?_ ?_
   ·refine mU ?_;refine gXn rfl (pV) ?_;refine uD (kF gZ) ?_ ?_
    ·refine gQ (qU 0 (ad (gK.mk am an ao) (IntKind.i64.wrap (a1 - 1)) bl) gZ) ?_;refine gQ (kT (T:=31) (us:=jE [(gH.mk aa ab (gD.mk f y) ac)]) gZ) ?_;refine gQ (kN (T:=31) bm gZ) ?_;refine mU ?_;refine jL ?_;exact pQ 1 [0,1,2,3,4]
    refine gQ (qU 0 (ad (gK.mk am an ao) (IntKind.i64.wrap (a1 - 1)) bl) gZ) ?_;refine uD (kF gZ) ?_ ?_
    ·refine gQ (kT (T:=31) (us:=jE [(gH.mk aa ab (gD.mk f y) ac)]) gZ) ?_;refine gQ (kN (T:=31) bm gZ) ?_;refine mU ?_;refine jL ?_;exact pQ 1 [0,1,2,3,4]
    refine gQ (kT (T:=31) (us:=jE [(gH.mk aa ab (gD.mk f y) ac)]) gZ) ?_;refine gQ (kF gZ) ?_;refine gQ (kN (T:=31) bm gZ) ?_;refine mU ?_;refine jL ?_;exact pQ 1 [0,1,2,3,4]
   refine goL ?_;refine jP (pV) ?_;exact⟨al,ar,au,av,(ap++[(gH.mk aa ab (gD.mk f y) ac)]),(IntKind.i64.wrap (a0+1)),(aq+1),h,Nat.lt_succ_self _,eJ⟩
  ·refine goX ?_;refine gV 3 rfl rfl ?_;refine jF ?_;obtain rfl:=Option.some.inj h;exact gB5 [.d (.st [.i .i64 1,.i .i64 0,.st [.i .i64 a3,.i .i64 a7],.sl 5 (jE ap)])] [bCu am an ao] ⟨rfl,rfl⟩
 ·refine goC h ?_ ?_<;>intro cf h
  ·refine goL ?_;obtain⟨⟨bn,⟨bf,bg,bh⟩⟩,bp,h⟩:=gJ h;refine mI 0 (mH (gK.mk ag ah ai) 2 bp) ?_;refine goL ?_;refine uN (pV) ?_;obtain⟨⟨⟨aw,ax,⟨aj,ak⟩,ay⟩,⟨bi,bj,bk⟩⟩,bq,h⟩:=gJ h;refine mI 0 (ad (gK.mk bf bg bh) (IntKind.i64.wrap (a1 - 1)) bq) ?_;refine uO (u:=(.st [.i .i64 aw,.i .i64 ax,.st [.i .i64 aj,.i .i64 ak],.sl 5 (jE ay)])) ?_;refine yT (jN TBd.h TZ.h rfl (by repeat constructor)) ?_;refine gV 2 rfl rfl ?_;refine jF ?_;obtain rfl:=Option.some.inj h;exact gB5 [.d (.st [.i .i64 3,.i .i64 bn,.st [.i .i64 0,.i .i64 0],.sl 5 (jE [(gH.mk aw ax (gD.mk aj ak) ay)])])] [bCu bi bj bk] ⟨rfl,rfl⟩
  ·refine goC h ?_ ?_<;>intro cg h
   ·refine goL ?_;refine yT (jN TBd.h TZ.h rfl (by repeat constructor)) ?_;refine jF ?_;obtain rfl:=Option.some.inj h;exact gAg [.d (.st [.i .i64 4,.i .i64 0,.st [.i .i64 0,.i .i64 0],.sl 5 []])] _ ⟨rfl,rfl⟩
   ·refine goC h ?_ ?_<;>intro ch h
    ·refine goL ?_;refine yT (jN TBd.h TZ.h rfl (by repeat constructor)) ?_;refine jF ?_;obtain rfl:=Option.some.inj h;exact gAg [.d (.st [.i .i64 5,.i .i64 0,.st [.i .i64 0,.i .i64 0],.sl 5 []])] _ ⟨rfl,rfl⟩
    ·refine goS ?_;obtain⟨⟨bo,⟨br,bt,bu⟩⟩,bv,h⟩:=gJ h;refine mI 0 (mH (gK.mk ag ah ai) 3 bv) ?_;refine yT (jN TBd.h TZ.h rfl (by repeat constructor)) ?_;refine jF ?_;obtain rfl:=Option.some.inj h;exact gAg [.d (.st [.i .i64 2,.i .i64 bo,.st [.i .i64 0,.i .i64 0],.sl 5 []])] _ ⟨rfl,rfl⟩
def gLj:Nat→gK→Int→Option (gH × gK)
 | 0,_,_=>none
 | n+1,f,h=>gMz (gLj n) f h n
theorem gXr:∀(n:Nat)(f:gK)(q:Int){r:gH × gK},gLj n f q=some r→Go.Eng.Spec Tryz.prog 93 [.ptr 0 0,.I q] [bCu f.b f.i f.h] (fun sv Lo=>sv=.d (mZ r.1)∧Lo=[bCu r.2.b r.2.i r.2.h]):=by
 intro n
 induction n with
 | zero=>intro f q r h;cases h
 | succ n ih=>intro f q r h;exact hM7 ih f q h
def gFe(deep:Int)(x7:Int × gK)(x8:Int × gK)(x9:Int × gK):Nat→LB→Int→Int→(List gH)→Int→Option (gH × gK)
 | 0,y,aa,ab,q,ac=>none
 | ad+1,y,aa,ab,q,ac=>(cnd (decide (ac < x9.1)) (
bnd (gLj 5000 (gK.mk y aa ab) (IntKind.i64.wrap (deep - 1))) fun f=>
gd (q.length+[f.1].length≤4294967296) (
gFe deep x7 x8 x9 ad f.2.b f.2.i f.2.h (q++[f.1]) (IntKind.i64.wrap (ac+1)))) (
(some ((gH.mk 1 0 (gD.mk x7.1 x8.1) q),(gK.mk y aa ab)))))
def gPz(c:gK)(deep:Int)(n0:Nat):Option (gH × gK):=
bnd (kW c 6) fun f=>
bnd ((cnd (decide (deep≤0)) (
(some 1)) (
(some f.1)))) fun q=>
bnd ((cnd (q==0) (
(some (q==0))) (
(some (q==4))))) fun b4=>
(cnd b4 (
bnd (kW f.2 2) fun x7=>
bnd (kW x7.2 8) fun x8=>
bnd (kW x8.2 3) fun x9=>
gFe deep x7 x8 x9 n0 x9.2.b x9.2.i x9.2.h [] 0) (
(cnd (q==2) (
bnd (kW f.2 2) fun y=>
bnd (gLj 5000 y.2 (IntKind.i64.wrap (deep - 1))) fun aa=>
(some ((gH.mk 3 y.1 (gD.mk 0 0) [aa.1]),aa.2))) (
(cnd (q==3) (
(some ((gH.mk 4 0 (gD.mk 0 0) []),f.2))) (
(cnd (q==5) (
(some ((gH.mk 5 0 (gD.mk 0 0) []),f.2))) (
bnd (kW f.2 3) fun ab=>
(some ((gH.mk 2 ab.1 (gD.mk 0 0) []),ab.2))))))))))
theorem hIu(c:gK)(deep:Int){n0:Nat}{r:gH × gK}(h:gPz c deep n0=some r):Go.Eng.Spec Tryz.prog 93 [.ptr 0 0,.I deep] [bCu c.b c.i c.h] (fun sv Lo=>sv=.ag [.I r.1.kind,.I r.1.n,.I r.1.at_.package,.I r.1.at_.at_,.sl 1 0]∧Lo=[bCu r.2.b r.2.i r.2.h,.arr 51 5 0 (jE r.1.args)]):=by
 obtain⟨bv,bw,bx⟩:=c;unfold gPz at h;refine kJ 1 Tryz.func93 rfl (by kernel_rfl) rfl rfl fun A _=>?_;refine goL ?_;obtain⟨⟨b8,⟨ad,ae,ah⟩⟩,bz,h⟩:=gJ h;refine mI 0 (mH (gK.mk bv bw bx) 6 bz) ?_;refine goL ?_;obtain⟨b2,hb2,h⟩:=gJ h;refine wY ⟨[(0,.ptr 0 0),(1,.I deep),(4,.ptr 1 0),(5,.I b2)],[bCu ad ae ah,.box [.I 0,.I 0,.I 0,.I 0,.nilsl]],Tryz.f93.ntmps⟩ ?_ ?_
 ·refine mR (fun c3=>?_) (fun c3=>?_)
  ·replace hb2:=kU c3 hb2;refine goL ?_;cases hb2;exact eJ
  ·replace hb2:=kV c3 hb2;refine vN ?_;cases hb2;exact eJ
 refine goL ?_;refine jA ?_;refine goL ?_;obtain⟨b4,hb4,h⟩:=gJ h;refine wY ⟨[(0,.ptr 0 0),(1,.I deep),(4,.ptr 1 0),(13,.I b2),(14,.B b4)],[bCu ad ae ah,.box [.I 0,.I 0,.I 0,.I 0,.nilsl]],Tryz.f93.ntmps⟩ ?_ ?_
 ·refine mR (fun c5=>?_) (fun c5=>?_)
  ·replace hb4:=kU c5 hb4;refine vN ?_;cases hb4;exact eJ
  ·replace hb4:=kV c5 hb4;refine goL ?_;cases hb4;exact eJ
 refine goC h ?_ ?_<;>intro c6 h
 ·refine goL ?_;obtain⟨⟨al,⟨a4,a5,a6⟩⟩,b3,h⟩:=gJ h;refine mI 0 (mH (gK.mk ad ae ah) 2 b3) ?_;refine goL ?_;obtain⟨⟨am,⟨a7,a8,a9⟩⟩,b5,h⟩:=gJ h;refine mI 0 (mH (gK.mk a4 a5 a6) 8 b5) ?_;refine vP (jN TBd.h TZ.h rfl (by repeat constructor)) ?_;refine yT (jN TBd.h TZ.h rfl (by repeat constructor)) ?_;obtain⟨⟨bd,⟨ba,bb,bc⟩⟩,b6,h⟩:=gJ h;refine mI 0 (mH (gK.mk a7 a8 a9) 3 b6) ?_;refine goL ?_;refine noB ?_;refine qZ 51 5 2 4 rfl rfl (by repeat constructor) (by repeat constructor) (by repeat constructor) (by repeat constructor) ?_;show V _ _ _ _ _;refine gXg (fun(ar:Nat)(an:LB)(ao:Int)(ap:Int)(aq:List gH)(a3:Int)(ak:Nat)=>⟨[(0,.ptr 0 0),(1,.I deep),(4,.ptr 1 0),(6,.ptr 2 0),(7,.I bd),(8,.I a3)],[bCu an ao ap,.box [.I 0,.I 0,.I 0,.I 0,.nilsl],.box [.I 1,.I 0,.I al,.I am,.sl 3 ak],.arr 51 5 ak (jE aq)],Tryz.f93.ntmps⟩) (fun ar an ao ap aq a3 ak=>gFe deep (al,(gK.mk a4 a5 a6)) (am,(gK.mk a7 a8 a9)) (bd,(gK.mk ba bb bc)) ar an ao ap aq a3=some r) (fun ar an ao ap aq a3 ak=>ar) n0 ba bb bc [] 0 0 eJ h ?_;rintro ar an ao ap aq a3 ak h;rcases ar with _ | ar
  ·cases h
  rw [gFe.eq_2] at h;refine goC h ?_ ?_<;>intro cb h
  ·refine noS ?_;refine kI (jA ?_);obtain⟨⟨⟨aa,ab,⟨f,y⟩,ac⟩,⟨au,av,aw⟩⟩,bp,h⟩:=gJ h;obtain⟨bq,h⟩:=pU h;refine qY (P:=Tryz.prog) Mix.h (.q 0 (q3T 2 (.h 1 (hcT 5 (hcT 6 (hcT 7 (.q 8 (hzT 9))))) (hcT 5 (.h 1 (hcT 6 (hcT 7 (.q 8 (hzT 9)))) (hcT 6 (hcT 1 (hcT 7 (.q 8 (hzT 9)))))))))) ⟨[(0,.ptr 0 0),(1,.I deep),(4,.ptr 1 0),(6,.ptr 2 0),(7,.I bd),(8,.I a3)],[bCu au av aw,.box [.I 0,.I 0,.I 0,.I 0,.nilsl],.box [.I 1,.I 0,.I al,.I am,.sl 3 (ak+1)],.arr 51 5 (ak+1) (jE (aq++[(gH.mk aa ab (gD.mk f y) ac)])),.arr 51 5 0 (jE [(gH.mk aa ab (gD.mk f y) ac)])],Tryz.f93.ntmps⟩ (by kernel_rfl) ?_ ?_
   ·refine mU ?_;refine gXn rfl (pV) ?_;refine uD (kF gZ) ?_ ?_
    ·refine gQ (qU 0 (gXr 5000 (gK.mk an ao ap) (IntKind.i64.wrap (deep - 1)) bp) gZ) ?_;refine gQ (kT (T:=31) (us:=jE [(gH.mk aa ab (gD.mk f y) ac)]) gZ) ?_;refine gQ (kN (T:=31) bq gZ) ?_;refine mU ?_;refine jL ?_;exact pQ 1 [0,1,2,3,4]
    refine gQ (qU 0 (gXr 5000 (gK.mk an ao ap) (IntKind.i64.wrap (deep - 1)) bp) gZ) ?_;refine uD (kF gZ) ?_ ?_
    ·refine gQ (kT (T:=31) (us:=jE [(gH.mk aa ab (gD.mk f y) ac)]) gZ) ?_;refine gQ (kN (T:=31) bq gZ) ?_;refine mU ?_;refine jL ?_;exact pQ 1 [0,1,2,3,4]
    refine gQ (kT (T:=31) (us:=jE [(gH.mk aa ab (gD.mk f y) ac)]) gZ) ?_;refine gQ (kF gZ) ?_;refine gQ (kN (T:=31) bq gZ) ?_;refine mU ?_;refine jL ?_;exact pQ 1 [0,1,2,3,4]
   refine goL ?_;refine jP (pV) ?_;exact⟨ar,au,av,aw,(aq++[(gH.mk aa ab (gD.mk f y) ac)]),(IntKind.i64.wrap (a3+1)),(ak+1),h,Nat.lt_succ_self _,eJ⟩
  ·refine goX ?_;refine hEf (fr':=[(4,.ptr 2 0)]) (Lc:=[bCu an ao ap,.arr 51 5 ak (jE aq),.box [.I 1,.I 0,.I al,.I am,.sl 1 ak]]) 1 [0,3,1] ?_;refine hR7 (fr':=[(4,.ptr 2 0)]) (L':=[bCu an ao ap,.arr 51 5 0 (jE aq),.box [.I 1,.I 0,.I al,.I am,.sl 1 0]]) 1 1 ?_;refine jF ?_;obtain rfl:=Option.some.inj h;exact gAg [.ag [.I 1,.I 0,.I al,.I am,.sl 1 0]] _ ⟨rfl,rfl⟩
 ·refine goC h ?_ ?_<;>intro cc h
  ·refine goL ?_;obtain⟨⟨be,⟨bf,bg,bh⟩⟩,br,h⟩:=gJ h;refine mI 0 (mH (gK.mk ad ae ah) 2 br) ?_;refine goL ?_;refine uN (pV) ?_;obtain⟨⟨⟨ax,ay,⟨ai,aj⟩,a0⟩,⟨bi,bj,bk⟩⟩,bt,h⟩:=gJ h;refine mI 0 (gXr 5000 (gK.mk bf bg bh) (IntKind.i64.wrap (deep - 1)) bt) ?_;refine uO (u:=(.st [.i .i64 ax,.i .i64 ay,.st [.i .i64 ai,.i .i64 aj],.sl 5 (jE a0)])) ?_;refine yT (jN TBd.h TZ.h rfl (by repeat constructor)) ?_;refine hEf (fr':=[(4,.ptr 2 0)]) (Lc:=[bCu bi bj bk,.arr 51 5 0 (jE [(gH.mk ax ay (gD.mk ai aj) a0)]),.box [.I 3,.I be,.I 0,.I 0,.sl 1 0]]) 1 [0,2,1] ?_;refine jF ?_;obtain rfl:=Option.some.inj h;exact gAg [.ag [.I 3,.I be,.I 0,.I 0,.sl 1 0]] _ ⟨rfl,rfl⟩
  ·refine goC h ?_ ?_<;>intro cd h
   ·refine goL ?_;refine yT (jN TBd.h TZ.h rfl (by repeat constructor)) ?_;refine qZ 51 5 1 4 rfl rfl (by repeat constructor) (by repeat constructor) (by repeat constructor) (by repeat constructor) ?_;refine hEf (fr':=[(4,.ptr 2 0)]) (Lc:=[bCu ad ae ah,.arr 51 5 0 [],.box [.I 4,.I 0,.I 0,.I 0,.sl 1 0]]) 1 [0,2,1] ?_;refine jF ?_;obtain rfl:=Option.some.inj h;exact gAg [.ag [.I 4,.I 0,.I 0,.I 0,.sl 1 0]] _ ⟨rfl,rfl⟩
   ·refine goC h ?_ ?_<;>intro ce h
    ·refine goL ?_;refine yT (jN TBd.h TZ.h rfl (by repeat constructor)) ?_;refine qZ 51 5 1 4 rfl rfl (by repeat constructor) (by repeat constructor) (by repeat constructor) (by repeat constructor) ?_;refine hEf (fr':=[(4,.ptr 2 0)]) (Lc:=[bCu ad ae ah,.arr 51 5 0 [],.box [.I 5,.I 0,.I 0,.I 0,.sl 1 0]]) 1 [0,2,1] ?_;refine jF ?_;obtain rfl:=Option.some.inj h;exact gAg [.ag [.I 5,.I 0,.I 0,.I 0,.sl 1 0]] _ ⟨rfl,rfl⟩
    ·refine goS ?_;obtain⟨⟨bl,⟨bm,bn,bo⟩⟩,bu,h⟩:=gJ h;refine mI 0 (mH (gK.mk ad ae ah) 3 bu) ?_;refine yT (jN TBd.h TZ.h rfl (by repeat constructor)) ?_;refine qZ 51 5 1 4 rfl rfl (by repeat constructor) (by repeat constructor) (by repeat constructor) (by repeat constructor) ?_;refine hEf (fr':=[(4,.ptr 2 0)]) (Lc:=[bCu bm bn bo,.arr 51 5 0 [],.box [.I 2,.I bl,.I 0,.I 0,.sl 1 0]]) 1 [0,2,1] ?_;refine jF ?_;obtain rfl:=Option.some.inj h;exact gAg [.ag [.I 2,.I bl,.I 0,.I 0,.sl 1 0]] _ ⟨rfl,rfl⟩
def gUj(f:gK)(h:Int):Option (gH × gK):=gPz f h 5000
end Go.Proofs.YtfpdlnkkcnmebaaGreat
