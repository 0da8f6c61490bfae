import Derived.Test.YtegahmhnmjnhhaaGreatCa
set_option maxHeartbeats 4000000
set_option linter.unusedVariables false
set_option linter.unusedSimpArgs false
set_option linter.unusedSectionVars false
namespace Go.Proofs.YtegahmhnmjnhhaaGreat
open Go Go.Eng
attribute [local irreducible] V VO VQ VY Quiet QR jC kT Rng mU mV mI
theorem gKp{p:gH→Option Bool}{q:gH→Bool}:∀(l:List gH) (k:Nat),(∀x∈l,p x=some (q x))→(uV p l k=some (-1)∧l.filter (fun x=> !q x)=l∧l.any q=false)∨(l.any q=true∧∃(i:Nat),i < l.length∧uV p l k=some ((k+i:Nat):Int)∧l.filter (fun x=> !q x)=l.take i++(l.drop (i+1)).filter (fun x=> !q x))
 | [],k,_=>.inl ⟨rfl,rfl,rfl⟩
 | x::l,k,h=>by
   rw [uV,jQ (h x (by simp))];cases hq:q x with
   | true=>exact .inr ⟨by simp [hq],0,by simp,rfl,by simp [hq]⟩
   | false=>
     simp only [gK];rcases gKp l (k+1) (fun y hy=>h y (by simp [hy]))with ⟨c,f,h4⟩ | ⟨h4,i,c,f,h3⟩
     ·exact .inl ⟨c,by simp [hq,f],by simp [hq,h4]⟩
     ·exact .inr ⟨by simp [h4],i+1,by simpa using c,by rw [f];congr 2;omega,by simp [hq,h3]⟩
theorem hQk{n:Nat}(h:n≤4611686018427387904):IntKind.i64.wrap ((n:Int)+1)=((n+1:Nat):Int):=by rw [qR _ (by omega) (by omega)];omega
theorem gRz{w:gI}{g:gY}{q:gH→Bool}:∀(m n i j:Nat) (l:List gH),l.length≤j+m→m < n→i < j→j≤l.length→l.length≤4000→(∀x∈l.drop j,gEx x w g=some (q x))→
  wK w g n l (i:Int) (j:Int)=some (l.take i++(l.drop j).filter (fun x=> !q x))
 | m,0,i,j,l,_,hn,_,_,_,_=>by omega
 | m,n+1,i,j,l,hm,hn,hi,hj,hl,h=>by
   rw [wK.eq_2];rcases Nat.lt_or_ge j l.length with hlt | hge
   ·match m,hm with
    | 0,hm=>omega
    | m+1,hm=>
      have hd:l.drop j=l[j]::l.drop (j+1):=List.drop_eq_getElem_cons hlt;have hw:IntKind.i64.wrap ((j:Int)+1)=((j+1:Nat):Int):=hQk (by omega);have hw2:IntKind.i64.wrap ((i:Int)+1)=((i+1:Nat):Int):=hQk (by omega);rw [show decide ((j:Int) < (l.length:Int))=true from decide_eq_true (by omega),gZ,yZ,List.getElem?_eq_getElem hlt,hw];simp only [bnd];rw [h l[j] (by rw [hd];exact List.mem_cons_self)];simp only;cases hq:q l[j] with
      | true=>
        rw [Bool.not_true,gK,gRz m n i (j+1) l (by omega) (by omega) (by omega) (by omega) hl (fun x hx=>h x (by rw [hd];exact List.mem_cons_of_mem _ hx)),hd,List.filter_cons_of_neg (by simp [hq])]
      | false=>
        have hil:i < l.length:=by omega
        have hdr:(l.set i l[j]).drop (j+1)=l.drop (j+1):=by rw [List.drop_set_of_lt (by omega)]
        rw [Bool.not_false,gZ,yZ,List.getElem?_eq_getElem hil,Int.toNat_natCast,hw2];simp only;rw [gRz m n (i+1) (j+1) (l.set i l[j]) (by simp;omega) (by omega) (by omega) (by simp;omega) (by simpa using hl) (fun x hx=>h x (by rw [hdr] at hx;rw [hd];exact List.mem_cons_of_mem _ hx)),hdr,hd,List.filter_cons_of_pos (by simp [hq])]
        have:(l.set i l[j]).take (i+1)=l.take i++[l[j]]:=by
         rw [List.take_succ_eq_append_getElem (by simpa using hil),List.take_set,List.set_eq_of_length_le (by rw [List.length_take];omega),List.getElem_set_self]
        rw [this,List.append_assoc];rfl
   ·obtain rfl:j=l.length:=by omega
    rw [show decide ((l.length:Int) < (l.length:Int))=false from decide_eq_false (by omega),gK,mK (by omega),mK (by simp only [List.length_append,List.length_take,List.length_replicate,Int.toNat_natCast];omega)];rw [Int.toNat_natCast,List.take_append_of_le_length (by rw [List.length_take];omega),List.take_take,Nat.min_self,List.drop_length];simp
theorem hT3{w:gI}{g:gY}{q:gH→Bool}(l:List gH)(hl:l.length≤4000)(h:∀x∈l,gEx x w g=some (q x)):gLh l w g=some (l.filter (fun x=> !q x)):=by
 unfold gLh gGk gDq;rcases gKp (p:=fun z=>gEx z w g) l 0 h with ⟨f,c,_⟩ | ⟨_,i,f,c,y⟩
 ·rw [jQ f];simp only [beq_self_eq_true,gZ,c]
 ·rw [jQ c,Nat.zero_add,show((i:Int)== -1)=false from beq_false_of_ne (by omega),gK,hQk (by omega),y];exact gRz (l.length - (i+1)) 5000 i (i+1) l (by omega) (by omega) (by omega) (by omega) hl (fun x hx=>h x (List.mem_of_mem_drop hx))
def gN1(c:gB)(a1:gB):Option (Bool):=
bnd (gDp a1 c) fun f=>
bnd ((cnd f (bnd (gDp c a1) fun h=>
(some (!h))) ((some false)))) fun y=>
(some y)
theorem hGs(a0:gB)(a1:gB){r:Bool}(h:gN1 a0 a1=some r):jC Tryz.prog 155 [.d (jS a0),.d (jS a1)] [.b r]:=by
 obtain⟨c,f,y⟩:=a0;obtain⟨aa,ab,ac⟩:=a1;unfold gN1 at h;refine SpI Tryz.func155 fun A _=>?_;refine goL ?_;obtain⟨x1,ae,h⟩:=gP h;refine jL (gF (gO8 _ _ ae)) ?_;obtain⟨b2,hb2,h⟩:=gP h;refine jT ⟨[(4,.B b2)],[bTy c f y,bTy aa ab ac],Tryz.f155.ntmps⟩ ?_ ?_
 ·refine gqA 8 hb2 (fun c3 hb2=>?_);obtain⟨x4,ag,hb2⟩:=gP hb2;refine jL (gF (gO8 _ _ ag)) ?_;cases hb2;exact eJ
 exact goR h
def gM7(c:gH)(a1:gI)(a2:kG):Option (Bool):=
bnd (gHi a1 c) fun f=>
bnd (gN1 f.1.head a2.head) fun h=>
(some h)
theorem hQl(a0:gH)(a1:gI)(a2:kG){r:Bool}(h:gM7 a0 a1 a2=some r):jC Tryz.prog 154 [.d (qG a0),.dp (kR a1),.dp (gCa a2)] [.b r]:=by
 obtain⟨av,aw⟩:=a0;obtain⟨ax⟩:=a1;obtain⟨ay,a3,⟨ad,ae,ag⟩,a4,a5,a6,⟨ah,ai,aj⟩,a7⟩:=a2;unfold gM7 at h;refine SpI Tryz.func154 fun A _=>?_;refine goL ?_;obtain⟨⟨⟨ak,al,⟨c,f,y⟩,am,an,ao,⟨aa,ab,ac⟩,ap⟩,a8⟩,ar,h⟩:=gP h;refine jL (gF (gO9 _ _ ar)) ?_;obtain⟨x2,au,h⟩:=gP h;refine qI (gF (hGs _ _ au)) ?_;exact goR h
def gB4(c:List gH)(a1:gH→Option Bool):Option (Bool):=
bnd (gDq c a1) fun f=>
(some (decide (f≥0)))
theorem gR0(c:List gH){a1f:Nat}{a1c:List SV}{a1:gH→Option Bool}(a1_lt:∀n,SV.lts n a1c=true)(ha1:∀(y:gH) (r:Bool),a1 y=some r→jC Tryz.prog a1f ([.d (qG y)]++a1c) [.b r]){r:Bool}(h:gB4 c a1=some r):jC Tryz.prog 153 [.L 2 (kF c),.fn a1f a1c] [.b r]:=by
 unfold gB4 at h;refine SpI Tryz.func153 fun A _=>?_;refine goL ?_;obtain⟨x1,f,h⟩:=gP h;refine qI (gF (gPu c (a1:=a1) a1_lt ha1 f)) ?_;exact goR h
def gB5(c:gI)(f:List gH):List gH→Option (gH × Int)
 | []=>(some ((gH.mk 0 0),1))
 | h::xs=>bnd (gHi c h) fun y=>
bnd (gB4 f (fun z0=>gM7 z0 c y.1)) fun x7=>
(cnd x7 (
gB5 c f xs ) (
bnd ((cnd y.1.default_ (none) ((some false)))) fun b9=>
(cnd b9 (
(some ((gH.mk 0 0),2))) (
(some (h,0))))))
def gHf(c:gI)(a1:gY):Option (gH × Int):=
bnd (gR4 c a1) fun f=>
gB5 c f f
theorem gXk(a0:gI)(a1:gY){r:gH × Int}(h:gHf a0 a1=some r):jC Tryz.prog 121 [.d (kR a0),.d (zY a1)] [qG r.1,.i .i64 r.2]:=by
 obtain⟨ak⟩:=a0;obtain⟨aq,⟨am,an,ao⟩⟩:=a1;unfold gHf at h;refine SpI Tryz.func121 fun A _=>?_;refine goL ?_;obtain⟨x1,ay,h⟩:=gP h;refine jL (gF (hQm _ _ ay)) ?_;refine noB ?_;refine gBx 6 (fun z3=>?_);refine mQ (fun(y2:Nat)=>⟨[(2,.ptr 0 0),(3,.ptr 1 0),(4,.ptr 2 0),(6,.L 2 (kF x1)),(15,.L 2 (kF x1)),(16,.I (x1.length:Int)),(17,.N y2)],[bPr ak,bBd aq am an ao,.box [.I 0,.I 0]],Tryz.f121.ntmps⟩) (fun y2=>gB5 (gI.mk ak) x1 (x1.drop y2)  =some r) (fun y2=>x1.length - y2) 0 eJ h ?_;rintro y2 h;refine goL ?_;refine jW (kX (fun c4=>?_) (fun c4=>?_))
 ·have al:=uR c4;obtain⟨x5,a4,au⟩:=drop_at al;rw [au,gB5.eq_2] at h;obtain⟨av,aw⟩:=x5;refine noS ?_;refine jW (jE ?_);refine goL ?_;refine jL (jM y2 (wZ a4)) ?_;obtain⟨⟨⟨ad,ae,⟨c,f,y⟩,ag,ah,ai,⟨aa,ab,ac⟩,aj⟩,a9⟩,a5,h⟩:=gP h;refine jL (gF (gO9 _ _ a5)) ?_;refine qI (gZ1) ?_;obtain⟨x7,a6,h⟩:=gP h;refine gBn (hXw (gR0 x1 (a1:=(fun z0=>gM7 z0 (gI.mk ak) (kG.mk ad ae (gB.mk c f y) ag ah ai (gB.mk aa ab ac) aj))) (fun _=>rfl) (fun z0 r hr=>hQl z0 (gI.mk ak) (kG.mk ad ae (gB.mk c f y) ag ah ai (gB.mk aa ab ac) aj) hr) a6)) ?_;refine kX (fun c8=>?_) (fun c8=>?_)
  ·replace h:=kD c8 h;refine goX ?_;refine jL (jR y2 (by omega)) ?_;exact⟨(y2+1),h,by omega,eJ⟩
  ·replace h:=kE c8 h;refine goS ?_;obtain⟨b9,hb9,h⟩:=gP h;refine jT ⟨[(4,.ptr 2 0),(8,.ptr 3 0),(38,.B b9)],[bPr ak,bBd aq am an ao,.box [.I 0,.I 0],.box [.I av,.I aw],bIn ad ae c f y ag ah ai aa ab ac aj],Tryz.f121.ntmps⟩ ?_ ?_
   ·refine gqA 33 hb9 (fun bc hb9=>?_);cases hb9
   refine goC h ?_ ?_<;>intro bd h
   ·refine goL ?_;refine gAq (jU TBd.h TZ.h rfl (by repeat constructor)) ?_;exact goR h
   ·refine goS ?_;refine jK ?_;cases h;exact qA
 ·have al:=uS c4;rw [jF al,gB5.eq_1] at h;refine goX ?_;refine gAq (jU TBd.h TZ.h rfl (by repeat constructor)) ?_;exact goR h
def gIb(c:gY)(a1:gY):Bool:=
lt_ ((cnd (c.trait==a1.trait) ((teq c.type_ a1.type_)) (false))) fun f=>
f
theorem gXl(a0:gY)(a1:gY):jC Tryz.prog 144 [.d (zY a0),.d (zY a1)] [.b (gIb a0 a1)]:=by
 obtain⟨r,h⟩:∃r,gIb a0 a1=r:=⟨_,rfl⟩
 rw [h];obtain⟨ad,⟨c,f,y⟩⟩:=a0;obtain⟨ae,⟨aa,ab,ac⟩⟩:=a1;unfold gIb at h;refine SpI Tryz.func144 fun A _=>?_;refine goL ?_;obtain⟨b1,hb1,h⟩:=qB h;refine jT ⟨[(4,.B b1)],[bBd ad c f y,bBd ae aa ab ac],Tryz.f144.ntmps⟩ ?_ ?_
 ·refine gqA 10 hb1 (fun c2 hb1=>?_);refine jL (gF (gIt (gB.mk c f y) (gB.mk aa ab ac))) ?_;cases hb1;exact eJ
 refine goL ?_;refine jK ?_;subst h;exact qA
def gJx(c:gU)(a1:gY):Bool:=
(gIb c.goal a1)
theorem hMm(a0:gU)(a1:gY):jC Tryz.prog 143 [.d (gDe a0),.dp (zY a1)] [.b (gJx a0 a1)]:=by
 obtain⟨r,h⟩:∃r,gJx a0 a1=r:=⟨_,rfl⟩
 rw [h];obtain⟨⟨aa,⟨c,f,y⟩⟩,ah,ai⟩:=a0;obtain⟨ae,⟨ab,ac,ad⟩⟩:=a1;unfold gJx at h;refine SpI Tryz.func143 fun A _=>?_;refine goL ?_;refine jL (gF (gXl (gY.mk aa (gB.mk c f y)) (gY.mk ae (gB.mk ab ac ad)))) ?_;refine jK ?_;subst h;exact qA
def yP(a1:gU→Option Bool):List gU→Nat→Option (Int)
 | [],c=>(some (-1))
 | f::xs,c=>bnd (a1 f) fun h=>
(cnd h (
(some (c:Int))) (
yP a1 xs (c+1)))
def gIc(c:List gU)(a1:gU→Option Bool):Option (Int):=
yP a1 c 0
theorem gXm(y:List gU){a1f:Nat}{a1c:List SV}{a1:gU→Option Bool}(a1_lt:∀n,SV.lts n a1c=true)(ha1:∀(x0:gU) (r:Bool),a1 x0=some r→jC Tryz.prog a1f ([.d (gDe x0)]++a1c) [.b r]){r:Int}(h:gIc y a1=some r):jC Tryz.prog 142 [.L 6 (gM y),.fn a1f a1c] [.i .i64 r]:=by
 unfold gIc at h;refine SpI Tryz.func142 fun A _=>?_;refine goL ?_;refine noB ?_;refine gBx 0 (fun z2=>?_);refine mQ (fun(f:Nat)=>⟨[(0,.L 6 (gM y)),(1,.fn a1f a1c),(7,.I (y.length:Int)),(8,.N f)],[],Tryz.f142.ntmps⟩) (fun f=>yP a1 (y.drop f) f=some r) (fun f=>y.length - f) 0 ⟨rfl,⟨⟨rfl,rfl⟩,⟨rfl,a1_lt _⟩,⟨rfl,rfl⟩,⟨rfl,rfl⟩,trivial⟩,⟨[],rfl⟩,rfl⟩ h ?_;rintro f h;refine goL ?_;refine jW (kX (fun c3=>?_) (fun c3=>?_))
 ·have c:=uR c3;obtain⟨x4,ah,ad⟩:=drop_at c;rw [ad,yP.eq_2] at h;obtain⟨⟨ae,⟨aa,ab,ac⟩⟩,al,am⟩:=x4;refine noS ?_;refine jW (jE ?_);refine goL ?_;refine jL (jM f (gHq ah)) ?_;obtain⟨x5,ai,h⟩:=gP h;refine jL (gN9 (ha1 _ _ ai) (a1_lt 0)) ?_;refine kX (fun c6=>?_) (fun c6=>?_)
  ·replace h:=kD c6 h;exact goR h
  ·replace h:=kE c6 h;refine goS ?_;refine jL (jR f (by omega)) ?_;exact⟨(f+1),h,by omega,⟨rfl,⟨⟨rfl,rfl⟩,⟨rfl,a1_lt _⟩,⟨rfl,rfl⟩,⟨rfl,rfl⟩,trivial⟩,⟨_,rfl⟩,rfl⟩⟩
 ·have c:=uS c3;rw [jF c,yP.eq_1] at h;refine goX ?_;refine jK ?_;cases h;exact qA
def gN2(c:List gU)(a1:gY):Option (Int):=
bnd (gIc c (fun f=>some (gJx f a1))) fun h=>
(some h)
theorem hMn(a0:List gU)(a1:gY){r:Int}(h:gN2 a0 a1=some r):jC Tryz.prog 117 [.L 6 (gM a0),.d (zY a1)] [.i .i64 r]:=by
 obtain⟨aa,⟨c,f,y⟩⟩:=a1;unfold gN2 at h;refine SpI Tryz.func117 fun A _=>?_;refine goL ?_;refine qI (gZ1) ?_;obtain⟨x1,ac,h⟩:=gP h;refine gAq (hXw (gXm a0 (a1:=(fun z0=>some (gJx z0 (gY.mk aa (gB.mk c f y))))) (fun _=>rfl) (fun z0 r hr=>by cases hr;exact hMm z0 (gY.mk aa (gB.mk c f y))) ac)) ?_;exact goR h
def gEa(c:gQ→Option (gQ)):List gQ→Nat→(List gQ)→Option (List gQ)
 | [],f,h=>(some h)
 | y::xs,f,h=>bnd (c y) fun x8=>
gd (f < h.length) (
gEa c xs (f+1) (h.set f x8))
def gMb(f:(List gQ)→Option (List gQ))(c:gQ→Option (gQ))(h:List gQ):Option (List gQ):=
gd (h.length≤4294967296) (
gEa c h 0 (List.replicate h.length (gQ.mk 0 0 (gH.mk 0 0) [])))
def gO5(c:(List gQ)→Option (List gQ)):Prop:=∀(f:List gQ) {r:List gQ},c f=some r→kT Tryz.prog 181 [.L 5 (jZ f)] [147] [.sl 5 (jZ r)]
def gN3(c:gQ→Option (gQ)):Prop:=∀(f:gQ) {r:gQ},c f=some r→kT Tryz.prog 145 [.d (pY f)] [147] [pY r]
theorem hEo{f}{c}(ae:gO5 f)(y:gN3 c)(a0:List gQ){r:List gQ}(h:gMb f c a0=some r):kT Tryz.prog 181 [.L 5 (jZ a0)] [147] [.sl 5 (jZ r)]:=by
 unfold gMb at h;refine pM Tryz.func181 rfl (by kernel_rfl) rfl (by simp) fun A _=>?_;refine goL ?_;obtain⟨g1,h⟩:=mW h;refine hIm (gQ.mk 0 0 (gH.mk 0 0) []) g1 ?_;refine goL ?_;refine noB ?_;refine gBx 9 (fun z5=>?_);refine kS (fun(y4:Nat) (y2:List gQ) (v3:Nat)=>⟨[(3,.sl 0 v3),(9,.L 5 (jZ a0)),(10,.I (a0.length:Int)),(11,.N y4)],[.own 147 5 v3 (jZ y2)],Tryz.f181.ntmps⟩) (fun y4 y2 v3=>gEa c (a0.drop y4) y4 y2=some r) (fun y4 y2 v3=>a0.length - y4) 0 (List.replicate a0.length (gQ.mk 0 0 (gH.mk 0 0) [])) 0 eJ h ?_;rintro y4 y2 v3 h;refine goL ?_;refine jW (kX (fun c6=>?_) (fun c6=>?_))
 ·have aa:=uR c6;obtain⟨x7,av,ao⟩:=drop_at aa;rw [ao,gEa.eq_2] at h;obtain⟨ap,aq,⟨ag,ah⟩,ar⟩:=x7;refine noS ?_;refine jW (jE ?_);refine goL ?_;refine jL (jM y4 (gX3 av)) ?_;obtain⟨⟨ai,aj,⟨ab,ac⟩,ak⟩,aw,h⟩:=gP h;refine gGa (y (gQ.mk ap aq (gH.mk ag ah) ar) aw) ?_;obtain⟨g9,h⟩:=mW h;refine gAq (hM5 y4 g9) ?_;refine hQ3 (gQ.mk ai aj (gH.mk ab ac) ak) g9 ?_;refine goL ?_;refine jL (jR y4 (by omega)) ?_;exact⟨(y4+1),(y2.set y4 (gQ.mk ai aj (gH.mk ab ac) ak)),v3,h,by omega,eJ⟩
 ·have aa:=uS c6;rw [jF aa,gEa.eq_1] at h;refine goX ?_;refine jK ?_;obtain rfl:=Option.some.inj h;exact gPw
def gN4(c:(List gQ)→Option (List gQ))(f:gQ→Option (gQ))(h:gQ):Option (gQ):=
bnd (c h.args) fun y=>
(some (gQ.mk h.kind h.n h.at_ y))
theorem hGt{c}{f}(y:gO5 c)(aa:gN3 f)(a0:gQ){r:gQ}(h:gN4 c f a0=some r):kT Tryz.prog 145 [.d (pY a0)] [147] [pY r]:=by
 obtain⟨ah,ai,⟨ac,ad⟩,ab⟩:=a0;unfold gN4 at h;refine pM Tryz.func145 rfl (by kernel_rfl) rfl (by simp) fun A _=>?_;refine goL ?_;obtain⟨x1,ag,h⟩:=gP h;refine gGa (y ab ag) ?_;refine goL ?_;refine jK ?_;obtain rfl:=Option.some.inj h;exact gPw
mutual
def gMc:Nat→(List gQ)→Option (List gQ)
 | 0,_=>none
 | n+1,c=>gMb (gMc n) (gHg n) c
def gHg:Nat→gQ→Option (gQ)
 | 0,_=>none
 | n+1,c=>gN4 (gMc n) (gHg n) c
end
theorem gZs:∀(n:Nat),gO5 (gMc n)∧gN3 (gHg n):=by
 intro n
 induction n with
 | zero=>exact⟨(by intro c r h;cases h),(by intro c r h;cases h)⟩
 | succ n ih=>
   obtain⟨ih0,ih1⟩:=ih;refine⟨(fun c r h=>hEo ih0 ih1 c h),(fun c r h=>hGt ih0 ih1 c h)⟩
theorem hGu:∀(n:Nat),gN3 (gHg n):=fun n=>(gZs n).2
def gBj:List Int→Int→Int→Int→Int→(List gQ)→Option (gQ)
 | [],c,f,h,y,y6=>(some (gQ.mk c f (gH.mk h y) y6))
 | ab::xs,c,f,h,y,y6=>gBj xs 3 ab 0 0 [(gQ.mk c f (gH.mk h y) y6)]
def gEt(f:gQ)(a1:List Int):Option (gQ):=
bnd (gHg 5000 f) fun c=>
gBj a1 c.kind c.n c.at_.package c.at_.at_ c.args
theorem gR1(a0:gQ)(a1:List Int){r:gQ}(h:gEt a0 a1=some r):kT Tryz.prog 118 [.d (pY a0),.L 1 (gJe a1)] [147] [pY r]:=by
 obtain⟨ad,ae,⟨f,y⟩,ag⟩:=a0;unfold gEt at h;refine pM Tryz.func118 rfl (by kernel_rfl) rfl (by simp) fun A _=>?_;refine goL ?_;obtain⟨⟨ao,ap,⟨aa,ab⟩,aq⟩,aw,h⟩:=gP h;refine gGa (hGu 5000 (gQ.mk ad ae (gH.mk f y) ag) aw) ?_;refine goL ?_;refine noB ?_;refine gBx 10 (fun z9=>?_);refine hCt (fun(y8:Nat) (y2:Int) (y3:Int) (y4:Int) (y5:Int) (y6:List gQ) (v7:Nat)=>⟨[(4,.ptr 1 0),(5,.ptr 3 0),(10,.L 1 (gJe a1)),(11,.I (a1.length:Int)),(12,.N y8)],[.box [.I ad,.I ae,.I f,.I y,.L 5 (jZ ag)],.box [.I 0,.I 0,.I 0,.I 0,.nilsl],.own 147 5 v7 (jZ y6),.box [.I y2,.I y3,.I y4,.I y5,.sl 2 v7]],Tryz.f118.ntmps⟩) (fun y8 y2 y3 y4 y5 y6 v7=>gBj (a1.drop y8) y2 y3 y4 y5 y6=some r) (fun y8 y2 y3 y4 y5 y6 v7=>a1.length - y8) 0 ao ap aa ab aq 0 eJ h ?_;rintro y8 y2 y3 y4 y5 y6 v7 h;refine goL ?_;refine jW (kX (fun am=>?_) (fun am=>?_))
 ·have c:=uR am;obtain⟨ax,au,an⟩:=drop_at c;rw [an,gBj.eq_2] at h;refine noS ?_;refine jW (jE ?_);refine goL ?_;refine jL (jM y8 (jCt au)) ?_;refine gBc (gQ.mk y2 y3 (gH.mk y4 y5) y6) ?_;refine gBn (jU TBd.h TZ.h rfl (by repeat constructor)) ?_;refine jL (jR y8 (by omega)) ?_;exact⟨(y8+1),3,ax,0,0,[(gQ.mk y2 y3 (gH.mk y4 y5) y6)],0,h,by omega,uK 0 [0,1,4,3]⟩
 ·have c:=uS am;rw [jF c,gBj.eq_1] at h;refine goX ?_;refine jK ?_;obtain rfl:=Option.some.inj h;exact gPw
def gHh(a1:List UInt8)(f:Nat)(c:qV × Int × Bool):List qV→qV × Int × Bool
 | []=>c
 | h::xs=>(cnd (h.name==a1) (
(h,(f:Int),true)) (
gHh a1 f c xs ))
def gEu(a1:List UInt8):List kI→Nat→qV × Int × Bool
 | [],c=>((qV.mk [] [] false false []),0,false)
 | f::xs,c=>gHh a1 c (gEu a1 xs (c+1)) f.traits
def gCw(c:gI)(a1:List UInt8):qV × Int × Bool:=
gEu a1 c.packages 0
theorem gVs(a0:gI)(a1:List UInt8):jC Tryz.prog 119 [.d (kR a0),.S a1] [gMu (gCw a0 a1).1,.i .i64 (gCw a0 a1).2.1,.b (gCw a0 a1).2.2]:=by
 obtain⟨r,h⟩:∃r,gCw a0 a1=r:=⟨_,rfl⟩
 rw [h];obtain⟨c⟩:=a0;unfold gCw at h;refine SpI Tryz.func119 fun A _=>?_;refine goL ?_;refine noB ?_;refine gBx 12 (fun z2=>?_);refine mQ (fun(y:Nat)=>⟨[(1,.S a1),(4,.ptr 1 0),(12,.L 6 (gX c)),(13,.I (c.length:Int)),(14,.N y)],[bPr c,.box [.S [],.nilsl,.B false,.B false,.nilsl]],Tryz.f119.ntmps⟩) (fun y=>gEu a1 (c.drop y) y=r) (fun y=>c.length - y) 0 eJ h ?_;rintro y h;refine goL ?_;refine jW (kX (fun c3=>?_) (fun c3=>?_))
 ·have aa:=uR c3;obtain⟨x4,an,ae⟩:=drop_at aa;rw [ae,gEu.eq_2] at h;obtain⟨ag,ah,f,ai,aj,ak⟩:=x4;refine noS ?_;refine jW (jE ?_);refine goL ?_;refine jL (jM y (gBw an)) ?_;refine noB ?_;refine gBx 20 (fun z6=>?_);refine mQ (fun(y5:Nat)=>⟨[(1,.S a1),(4,.ptr 1 0),(7,.N y),(12,.L 6 (gX c)),(13,.I (c.length:Int)),(14,.N y),(20,.L 5 (gBm f)),(21,.I (f.length:Int)),(22,.N y5)],[bPr c,.box [.S [],.nilsl,.B false,.B false,.nilsl],bPk ag ah f ai aj ak],Tryz.f119.ntmps⟩) (fun y5=>gHh a1 y (gEu a1 (c.drop (y+1)) (y+1)) (f.drop y5)  =r) (fun y5=>f.length - y5) 0 eJ h ?_;rintro y5 h;refine goL ?_;refine jW (kX (fun c7=>?_) (fun c7=>?_))
  ·have ab:=uR c7;obtain⟨x8,ap,al⟩:=drop_at ab;rw [al,gHh.eq_2] at h;obtain⟨ar,au,av,aw,ax⟩:=x8;refine noS ?_;refine jW (jE ?_);refine goL ?_;refine jL (jM y5 (gXw ap)) ?_;refine kX (fun c9=>?_) (fun c9=>?_)
   ·replace h:=kD c9 h;refine goL ?_;refine jK ?_;subst h;exact qA
   ·replace h:=kE c9 h;refine goS ?_;refine jL (jR y5 (by omega)) ?_;exact⟨(y5+1),h,by omega,eJ⟩
  ·have ab:=uS c7;rw [jF ab,gHh.eq_1] at h;refine goX ?_;refine jL (jR y (by omega)) ?_;exact⟨(y+1),h,by omega,eJ⟩
 ·have aa:=uS c3;rw [jF aa,gEu.eq_1] at h;refine goX ?_;refine gBn (jU TBd.h TZ.h rfl (by repeat constructor)) ?_;refine jK ?_;subst h;exact qA
def gFn(c:gI→(List (List UInt8))→(List UInt8)→Option (List (List UInt8)))(w:gI):List (List UInt8)→(List (List UInt8))→Option (List (List UInt8))
 | [],f=>(some f)
 | h::xs,f=>bnd ((cnd (!(gDm f h)) (
gd (f.length+[h].length≤4294967296) (
bnd (c w (f++[h]) h) fun y=>
(some y))) (
(some f)))) fun b8=>
gFn c w xs b8
def gR2(c:gI→(List (List UInt8))→(List UInt8)→Option (List (List UInt8)))(w:gI)(f:List (List UInt8))(name:List UInt8):Option (List (List UInt8)):=
lt_ (gCw w name) fun h=>
gFn c w h.1.supertraits f
theorem hGv{f:gI→(List (List UInt8))→(List UInt8)→Option (List (List UInt8))}(y:∀(x0:gI) (x1:List (List UInt8)) (x2:List UInt8) (w0:Nat) {r:List (List UInt8)},f x0 x1 x2=some r→Go.Eng.Spec Tryz.prog 100 [.d (kR x0),.sl 0 w0,.S x2] [.arr 9 1 w0 (jP x1)] (fun sv Lo=>∃v'0,sv=.sl 0 v'0∧Lo=[.arr 9 1 v'0 (jP r)]))(w:gI)(l0:List (List UInt8))(name:List UInt8)(v0:Nat){r:List (List UInt8)}(h:gR2 f w l0 name=some r):Go.Eng.Spec Tryz.prog 100 [.d (kR w),.sl 0 v0,.S name] [.arr 9 1 v0 (jP l0)] (fun sv Lo=>∃v'0,sv=.sl 0 v'0∧Lo=[.arr 9 1 v'0 (jP r)]):=by
 obtain⟨ag⟩:=w;unfold gR2 at h;refine kM 1 Tryz.func100 rfl (by kernel_rfl) rfl rfl fun A _=>?_;refine goL ?_;obtain⟨⟨⟨aa,c,ab,ac,ad⟩,a6,a7⟩,au,h⟩:=qB h;have sx1:=gVs (gI.mk ag) name;rw [au] at sx1;refine jL (gF (sx1)) ?_;refine noB ?_;refine gBx 20 (fun z5=>?_);refine kS (fun(y4:Nat) (y2:List (List UInt8)) (v3:Nat)=>⟨[(1,.sl 0 v3),(3,.ptr 1 0),(20,.L 1 (jP c)),(21,.I (c.length:Int)),(22,.N y4)],[.arr 9 1 v3 (jP y2),bPr ag,bTr aa c ab ac ad],Tryz.f100.ntmps⟩) (fun y4 y2 v3=>gFn f (gI.mk ag) (c.drop y4) y2=some r) (fun y4 y2 v3=>c.length - y4) 0 l0 v0 eJ h ?_;rintro y4 y2 v3 h;refine goL ?_;refine jW (kX (fun c6=>?_) (fun c6=>?_))
 ·have ae:=uR c6;obtain⟨x7,aw,an⟩:=drop_at ae;rw [an,gFn.eq_2] at h;refine noS ?_;refine jW ?_;obtain⟨b8,hb8,h⟩:=gP h;refine gNc (fun v9=>⟨[(1,.sl 0 v9),(3,.ptr 1 0),(20,.L 1 (jP c)),(21,.I (c.length:Int)),(22,.N y4)],[.arr 9 1 v9 (jP b8),bPr ag,bTr aa c ab ac ad],Tryz.f100.ntmps⟩) ?_ (fun v9=>?_)
  ·refine jE ?_;refine goL ?_;refine jL (jM y4 (gQq aw)) ?_;refine gBn (gW2 (gTf y2 x7)) ?_;refine kX (fun ak=>?_) (fun ak=>?_)
   ·replace hb8:=kD ak hb8;refine uF (P:=Tryz.prog) Mix.h [(0,true),(1,true),(2,true),(5,true),(3,false),(4,false),(6,false),(7,true)] (by kernel_rfl) ?_;refine goY ?_;refine qE (T:=57) (us:=jP [x7]) ?_;obtain⟨ax,hb8⟩:=mW hb8;refine pV (T:=57) ax ?_;obtain⟨ay,ao,hb8⟩:=gP hb8;refine gUg [0] (y (gI.mk ag) (y2++[x7]) x7 (v3+1) ao) ?_;rintro _ _ ⟨al,rfl,rfl⟩;refine gSt (sv:=.sl 0 al) (L':=[.arr 9 1 al (jP ay),bPr ag,bTr aa c ab ac ad,.arr 9 1 0 (jP [x7])]) (by repeat(first | exact vV.nil | (apply vV.keep;focus ((repeat constructor);done)) | (apply vV.dep;focus kernel_rfl))) ?_;refine goY ?_;refine kQ ?_;refine goL ?_;cases hb8;exact⟨al,eJ⟩
   ·replace hb8:=kE ak hb8;refine zA ?_;cases hb8;exact⟨v3,eJ⟩
  refine goL ?_;refine jL (jR y4 (by omega)) ?_;exact⟨(y4+1),b8,v9,h,by omega,eJ⟩
 ·have ae:=uS c6;rw [jF ae,gFn.eq_1] at h;refine goX ?_;refine jK ?_;obtain rfl:=Option.some.inj h;exact zB [.sl 0 v3] [.arr 9 1 v3 (jP y2)] ⟨v3,rfl,rfl⟩
def gR3:Nat→gI→(List (List UInt8))→(List UInt8)→Option (List (List UInt8))
 | 0,_,_,_=>none
 | n+1,c,f,h=>gR2 (gR3 n) c f h
theorem hGw:∀(n:Nat) (c:gI) (f:List (List UInt8)) (y:List UInt8) (w0:Nat) {r:List (List UInt8)},gR3 n c f y=some r→Go.Eng.Spec Tryz.prog 100 [.d (kR c),.sl 0 w0,.S y] [.arr 9 1 w0 (jP f)] (fun sv Lo=>∃v'0,sv=.sl 0 v'0∧Lo=[.arr 9 1 v'0 (jP r)]):=by
 intro n
 induction n with
 | zero=>intro c f y w0 r h;cases h
 | succ n ih=>intro c f y w0 r h;exact hGv ih c f y w0 h
def gT6(a:gI)(b:List UInt8):Option (List (List UInt8)):=gR3 5000 a [] b
theorem gXn(a:gI)(b:List UInt8){r:List (List UInt8)}(h:gT6 a b=some r):Go.Eng.Spec Tryz.prog 100 [.d (.st [.sl 6 (gX a.packages)]),.nilsl,.S b] [] (fun sv Lo=>sv=.L 1 (jP r)∧Lo=[]):=Spec.nilF1 (hGw 5000 a [] b 0 h)
def gEb(c:gI)(a1:List UInt8):Option (List (List UInt8)):=
bnd (gT6 c a1) fun f=>
(some f)
theorem hGx(f:gI)(a1:List UInt8){r:List (List UInt8)}(h:gEb f a1=some r):jC Tryz.prog 81 [.d (kR f),.S a1] [.sl 1 (jP r)]:=by
 obtain⟨c⟩:=f;unfold gEb at h;refine SpI Tryz.func81 fun A _=>?_;refine goL ?_;obtain⟨x1,y,h⟩:=gP h;refine yY [] (gXn (gI.mk c) a1 y) ?_;rintro _ _ ⟨rfl,rfl⟩;show VO _ _ _ _ ⟨(_,.L 1 (jP x1))::_,[bPr c],_⟩ _;exact goR h
def wM(c:gI→(List UInt8)→(List UInt8)→Int→Option (List Int × Bool))(y:gI)(a2:List UInt8)(a3:Int):List (List UInt8)→Nat→Option (List Int × Bool)
 | [],f=>(some ([],false))
 | x7::xs,f=>bnd (c y x7 a2 (IntKind.i64.wrap (a3 - 1))) fun h=>
(cnd h.2 (
gd ([(f:Int)].length+h.1.length≤4294967296) (
(some (([(f:Int)]++h.1),true)))) (
wM c y a2 a3 xs (f+1)))
def gEv(c:gI→(List UInt8)→(List UInt8)→Int→Option (List Int × Bool))(f:gI)(a1:List UInt8)(a2:List UInt8)(h:Int):Option (List Int × Bool):=
(cnd (a1==a2) (
(some ([],true))) (
(cnd (h==0) (
(some ([],false))) (
lt_ (gCw f a1) fun y=>
wM c f a2 h y.1.supertraits 0))))
theorem gO6{c:gI→(List UInt8)→(List UInt8)→Int→Option (List Int × Bool)}(f:∀(x0:gI) (x1:List UInt8) (x2:List UInt8) (x3:Int) {r:List Int × Bool},c x0 x1 x2 x3=some r→jC Tryz.prog 101 [.d (kR x0),.S x1,.S x2,.I x3] [.sl 1 (gJe r.1),.b r.2])(a0:gI)(a1:List UInt8)(a2:List UInt8)(a3:Int){r:List Int × Bool}(h:gEv c a0 a1 a2 a3=some r):jC Tryz.prog 101 [.d (kR a0),.S a1,.S a2,.I a3] [.sl 1 (gJe r.1),.b r.2]:=by
 obtain⟨ab⟩:=a0;unfold gEv at h;refine SpI Tryz.func101 fun A _=>?_;refine goC h ?_ ?_<;>intro c1 h
 ·refine goL ?_;refine gF9 ?_;refine goL ?_;refine uH 1 rfl rfl ?_;refine jK ?_;cases h;exact qA
 ·refine goS ?_;refine kX (fun c2=>?_) (fun c2=>?_)
  ·replace h:=kD c2 h;exact goR h
  ·replace h:=kE c2 h;refine goS ?_;obtain⟨⟨⟨ad,y,ae,ag,ah⟩,ay,a4⟩,am,h⟩:=qB h;have sx3:=gVs (gI.mk ab) a1;rw [am] at sx3;refine jL (gF (sx3)) ?_;refine noB ?_;refine gBx 31 (fun z5=>?_);refine mQ (fun(y4:Nat)=>⟨[(2,.S a2),(3,.I a3),(4,.ptr 0 0),(31,.L 1 (jP y)),(32,.I (y.length:Int)),(33,.N y4)],[bPr ab,bTr ad y ae ag ah],Tryz.f101.ntmps⟩) (fun y4=>wM c (gI.mk ab) a2 a3 (y.drop y4) y4=some r) (fun y4=>y.length - y4) 0 eJ h ?_;rintro y4 h;refine goL ?_;refine jW (kX (fun c6=>?_) (fun c6=>?_))
   ·have aa:=uR c6;obtain⟨x7,ao,ai⟩:=drop_at aa;rw [ai,wM.eq_2] at h;refine noS ?_;refine jW (jE ?_);refine goL ?_;refine jL (jM y4 (gQq ao)) ?_;refine qI (pR) ?_;obtain⟨⟨a5,a6⟩,ap,h⟩:=gP h;refine jL (gF (f _ _ _ _ ap)) ?_;refine kX (fun c9=>?_) (fun c9=>?_)
    ·replace h:=kD c9 h;refine goL ?_;refine gBc (y4:Int) ?_;refine goL ?_;obtain⟨ar,h⟩:=mW h;refine gH3 ar ?_;refine goL ?_;refine uH 2 rfl rfl ?_;refine jK ?_;cases h;exact qA
    ·replace h:=kE c9 h;refine goS ?_;refine jL (jR y4 (by omega)) ?_;exact⟨(y4+1),h,by omega,eJ⟩
   ·have aa:=uS c6;rw [jF aa,wM.eq_1] at h;refine goX ?_;refine jK ?_;cases h;exact qA
def gEw:Nat→gI→(List UInt8)→(List UInt8)→Int→Option (List Int × Bool)
 | 0,_,_,_,_=>none
 | n+1,c,f,h,y=>gEv (gEw n) c f h y
theorem gO7:∀(n:Nat) (c:gI) (f:List UInt8) (y:List UInt8) (x3:Int) {r:List Int × Bool},gEw n c f y x3=some r→jC Tryz.prog 101 [.d (kR c),.S f,.S y,.I x3] [.sl 1 (gJe r.1),.b r.2]:=by
 intro n
 induction n with
 | zero=>intro c f y x3 r h;cases h
 | succ n ih=>intro c f y x3 r h;exact gO6 ih c f y x3 h
def yI(f:gI)(a1:List UInt8)(a2:List UInt8):Option (List Int × Bool):=
bnd (gEw 5000 f a1 a2 8) fun c=>
(some (c.1,c.2))
theorem gI8(c:gI)(a1:List UInt8)(a2:List UInt8){r:List Int × Bool}(h:yI c a1 a2=some r):jC Tryz.prog 82 [.d (kR c),.S a1,.S a2] [.sl 1 (gJe r.1),.b r.2]:=by
 obtain⟨y⟩:=c;unfold yI at h;refine SpI Tryz.func82 fun A _=>?_;refine goL ?_;obtain⟨⟨aa,ab⟩,f,h⟩:=gP h;refine qI (gF (gO7 _ _ _ _ _ f)) ?_;exact goR h
end Go.Proofs.YtegahmhnmjnhhaaGreat
