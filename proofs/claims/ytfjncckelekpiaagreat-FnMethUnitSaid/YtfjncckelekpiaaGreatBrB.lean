import Derived.Test.YtfjncckelekpiaaGreatB40
set_option maxHeartbeats 4000000
set_option linter.unusedVariables false
set_option linter.unusedSimpArgs false
set_option linter.unusedSectionVars false
namespace Go.Proofs.YtfjncckelekpiaaGreat
open Go Go.Eng
attribute [local irreducible] V VO VQ VY Quiet QR gW pJ Rng vF uW uI
def gKd(a0:LB):Option (Bool):=
(cnd (hA7 a0) (some true) (
bnd (zG a0) fun f=>
bnd (gCp f.1 f.2.1 f.2.2.1 f.2.2.2.1 f.2.2.2.2) fun y=>
bnd (gCm f.1 f.2.1 f.2.2.1 f.2.2.2.1 f.2.2.2.2) fun x4=>
lt_ (cnd (y.1 != x4.1) (true) ((y.2.length:Int) !=(x4.2.length:Int))) fun b5=>
(cnd b5 (some false) (cnd (decide (y.1 < 0)) (some ((y.2.length:Int)==0)) (
bnd (bnd (at? f.2.1 y.1) fun q=>
(cnd (q.kind==2) (cnd (q.package==f.2.2.1.at_.package) (cnd (q.at_==f.2.2.1.at_.at_) (cnd ((y.2.length:Int)==(f.2.2.1.args.length:Int)) (some true) (cnd (q.kind==1) (cnd ((y.2.length:Int)==1) (bnd (at? y.2 0) fun aa=>
bnd (vS 5000 aa f.2.2.1) fun ab=>
some ab) (some false)) (some false))) (cnd (q.kind==1) (cnd ((y.2.length:Int)==1) (bnd (at? y.2 0) fun ac=>
bnd (vS 5000 ac f.2.2.1) fun ad=>
some ad) (some false)) (some false))) (cnd (q.kind==1) (cnd ((y.2.length:Int)==1) (bnd (at? y.2 0) fun ae=>
bnd (vS 5000 ae f.2.2.1) fun ag=>
some ag) (some false)) (some false))) (cnd (q.kind==1) (cnd ((y.2.length:Int)==1) (bnd (at? y.2 0) fun ah=>
bnd (vS 5000 ah f.2.2.1) fun ai=>
some ai) (some false)) (some false)))) fun b9=>
some b9)))))
theorem gZn(a0:LB){r:Bool}(h:gKd a0=some r):gW Tryz.prog 3 [.L 1 (gHs a0)] [.b r]:=by
 unfold gKd at h;refine SpI Tryz.func3 fun A _=>?_;refine goL ?_;refine gX (gD (hVm a0)) ?_;refine kN (fun c1=>?_) (fun c1=>?_)
 ·replace h:=jU c1 h;exact goR h
 ·replace h:=jV c1 h;refine goS ?_;obtain⟨⟨⟨ab⟩,a8,⟨ac,⟨y,aa⟩,ad,ae⟩,cw,cx⟩,b2,h⟩:=gK h;refine gX (gD (gP7 _ b2)) ?_;obtain⟨⟨a9,ba⟩,b3,h⟩:=gK h;refine gX (gD (gT5 _ _ _ _ _ b3)) ?_;obtain⟨⟨cy,cz⟩,b4,h⟩:=gK h;refine gX (gD (gTz _ _ _ _ _ b4)) ?_;obtain⟨b5,hb5,h⟩:=pI h;refine kG ⟨[(4,.L 21 (zR a8)),(5,.ptr 1 0),(8,.I a9),(9,.L 5 (jQ ba)),(49,.B b5)],[bPr ab,.box [.I ac,.I y,.I aa,.L 1 (yC ad),.L 5 (jQ ae)]],Tryz.f3.ntmps⟩ ?_ ?_
  ·exact gqZ 43 hb5
  refine goC h ?_ ?_<;>intro c7 h
  ·exact goR h
  ·refine goS ?_;refine kN (fun c8=>?_) (fun c8=>?_)
   ·replace h:=jU c8 h;exact goR h
   ·replace h:=jV c8 h;refine noS ?_;obtain⟨b9,hb9,h⟩:=gK h;refine qN (P:=Tryz.prog) Mix.h ⟨[(2,.B b9)],[bPr ab,.box [.I ac,.I y,.I aa,.L 1 (yC ad),.L 5 (jQ ae)]],Tryz.f3.ntmps⟩ (by kernel_rfl) ?_ ?_
    ·refine goL ?_;obtain⟨b7,q,hb9⟩:=gK hb9;obtain⟨f,q⟩:=yY q;obtain⟨b8,ca,cb,cc,cd,ce,cf,⟨bb,bc,bd⟩,⟨be,bf,bg,bh,⟨ak,al,am⟩,bi,bj,bk,bl⟩⟩:=b7;refine wC (kY f (gT6 q)) ?_;refine goL ?_;refine qE 61 (fun an=>?_) (fun an=>?_)
     ·replace hb9:=jU an hb9;refine goL ?_;refine wN (kY f (gT6 q)) ?_;refine goL ?_;refine qE 72 (fun ao=>?_) (fun ao=>?_)
      ·replace hb9:=jU ao hb9;refine goL ?_;refine wN (kY f (gT6 q)) ?_;refine goL ?_;refine qE 83 (fun ap=>?_) (fun ap=>?_)
       ·replace hb9:=jU ap hb9;refine goL ?_;refine qE 91 (fun aq=>?_) (fun aq=>?_)
        ·replace hb9:=jU aq hb9;refine goL ?_;cases hb9;exact eJ
        ·replace hb9:=jV aq hb9;refine goL ?_;refine wN (kY f (gT6 q)) ?_;refine goL ?_;refine qE 98 (fun ar=>?_) (fun ar=>?_)
         ·replace hb9:=jU ar hb9;refine goL ?_;refine qE 103 (fun au=>?_) (fun au=>?_)
          ·replace hb9:=jU au hb9;refine goL ?_;obtain⟨cg,ag,hb9⟩:=gK hb9;obtain⟨av,ag⟩:=yY ag;obtain⟨ch,⟨bm,bn⟩,ci,cj⟩:=cg;refine wN (kY av (gA7 ag)) ?_;refine goL ?_;obtain⟨c3,bo,hb9⟩:=gK hb9;refine wN (gD (gDh _ _ _ bo)) ?_;refine goL ?_;cases hb9;exact eJ
          ·replace hb9:=jV au hb9;refine goL ?_;cases hb9;exact eJ
         ·replace hb9:=jV ar hb9;refine goL ?_;cases hb9;exact eJ
       ·replace hb9:=jV ap hb9;refine goL ?_;refine wN (kY f (gT6 q)) ?_;refine goL ?_;refine qE 98 (fun aw=>?_) (fun aw=>?_)
        ·replace hb9:=jU aw hb9;refine goL ?_;refine qE 103 (fun ax=>?_) (fun ax=>?_)
         ·replace hb9:=jU ax hb9;refine goL ?_;obtain⟨ck,ah,hb9⟩:=gK hb9;obtain⟨ay,ah⟩:=yY ah;obtain⟨cl,⟨bp,bq⟩,cm,cn⟩:=ck;refine wN (kY ay (gA7 ah)) ?_;refine goL ?_;obtain⟨c4,br,hb9⟩:=gK hb9;refine wN (gD (gDh _ _ _ br)) ?_;refine goL ?_;cases hb9;exact eJ
         ·replace hb9:=jV ax hb9;refine goL ?_;cases hb9;exact eJ
        ·replace hb9:=jV aw hb9;refine goL ?_;cases hb9;exact eJ
      ·replace hb9:=jV ao hb9;refine goL ?_;refine wN (kY f (gT6 q)) ?_;refine goL ?_;refine qE 98 (fun a2=>?_) (fun a2=>?_)
       ·replace hb9:=jU a2 hb9;refine goL ?_;refine qE 103 (fun a3=>?_) (fun a3=>?_)
        ·replace hb9:=jU a3 hb9;refine goL ?_;obtain⟨co,ai,hb9⟩:=gK hb9;obtain⟨a4,ai⟩:=yY ai;obtain⟨cp,⟨bt,bu⟩,cq,cr⟩:=co;refine wN (kY a4 (gA7 ai)) ?_;refine goL ?_;obtain⟨c5,bv,hb9⟩:=gK hb9;refine wN (gD (gDh _ _ _ bv)) ?_;refine goL ?_;cases hb9;exact eJ
        ·replace hb9:=jV a3 hb9;refine goL ?_;cases hb9;exact eJ
       ·replace hb9:=jV a2 hb9;refine goL ?_;cases hb9;exact eJ
     ·replace hb9:=jV an hb9;refine goL ?_;refine wN (kY f (gT6 q)) ?_;refine goL ?_;refine qE 98 (fun a5=>?_) (fun a5=>?_)
      ·replace hb9:=jU a5 hb9;refine goL ?_;refine qE 103 (fun a6=>?_) (fun a6=>?_)
       ·replace hb9:=jU a6 hb9;refine goL ?_;obtain⟨cs,aj,hb9⟩:=gK hb9;obtain⟨a7,aj⟩:=yY aj;obtain⟨ct,⟨bw,bx⟩,cu,cv⟩:=cs;refine wN (kY a7 (gA7 aj)) ?_;refine goL ?_;obtain⟨c6,bz,hb9⟩:=gK hb9;refine wN (gD (gDh _ _ _ bz)) ?_;refine goL ?_;cases hb9;exact eJ
       ·replace hb9:=jV a6 hb9;refine goL ?_;cases hb9;exact eJ
      ·replace hb9:=jV a5 hb9;refine goL ?_;cases hb9;exact eJ
    exact goR h
theorem wrap_small{m:Int}(f: -4611686018427387904≤m)(q:m≤4611686018427387904):IntKind.i64.wrap m=m:=gD7 m (by omega) (by omega)
theorem hLt(x:jF)(n:LB):gSc x n=some (wB x n):=by
 have h:∀(l:List qX)(k:Nat),gCh (fun f=>some (gLh f n)) l k=some (gD8 n l k):=by
  intro l
  induction l with
  | nil=>intro k;rfl
  | cons a l ih=>
    intro k;simp only [gCh,gD8,bnd,ih];simp only [gLh];cases a.name==n<;>rfl
 unfold gSc gP2 wB;rw [h];rfl
theorem hP0(l:List pQ)(a b c d:Int):gP3 l a b c d=some (qF l a b c d):=by
 have h:∀(l:List pQ)(k:Nat),gFs (fun f=>some (gNp f a b c d)) l k=some (vE a b c d l k):=by
  intro l
  induction l with
  | nil=>intro k;rfl
  | cons x l ih=>
    intro k;simp only [gFs,vE,bnd,ih];simp only [gNp,lt_];cases (cnd (x.kind==a) (cnd (x.package==b) (cnd (x.at_==c) (x.sub==d) false) false) false)<;>rfl
 unfold gP3 gUy qF;rw [h];rfl
def tIx(n:LB):List mE→Nat→Int
 | [],_=> -1
 | x::xs,k=>cnd (x.name==n) (k:Int) (tIx n xs (k+1))
def hXz(p:jL)(n:LB):Int:=tIx n p.traits 0
theorem hHs(p:jL)(n:LB):gPd p n=some (hXz p n):=by
 have h:∀(l:List mE)(k:Nat),gEa (fun f=>some (gIb f n)) l k=some (tIx n l k):=by
  intro l
  induction l with
  | nil=>intro k;rfl
  | cons a l ih=>
    intro k;simp only [gEa,tIx,bnd,ih];simp only [gIb];cases a.name==n<;>rfl
 unfold gPd gSd hXz;rw [h];rfl
theorem gO1{α:Type}{l:List α}{i:Int}(h:i < 0∨i≥(l.length:Int)):at? l i=none:=by
 unfold at?;split
 ·exact List.getElem?_eq_none (by omega)
 ·rfl
theorem hP4{α:Type}{l:List α}{i:Int}(f:¬i < 0)(q:¬i≥(l.length:Int)):∃x,at? l i=some x∧x∈l:=by
 have h:i.toNat < l.length:=by omega
 refine⟨l[i.toNat],?_,List.getElem_mem h⟩;unfold at?;rw [if_pos (by omega),List.getElem?_eq_getElem h]
def instZ:jF × Bool:=(jF.mk [] [] (gF.mk 0 [] []) [] false false (gF.mk 0 [] []) [],false)
def instF(w:gG)(o:gI):jF × Bool:=match at? w.packages o.package with
 | none=>instZ
 | some p=>match at? p.instances o.at_ with
   | none=>instZ
   | some x=>(x,true)
theorem hP5(w:gG)(o:gI):gAc w o=some (instF w o):=by
 unfold gAc instF;by_cases f:o.package < 0
 ·rw [decide_eq_true f,gO1 (.inl f)];rfl
 rw [decide_eq_false f];by_cases q:o.package≥(w.packages.length:Int)
 ·rw [decide_eq_true q,gO1 (.inr q)];rfl
 rw [decide_eq_false q];obtain⟨p,hp,_⟩:=hP4 f q;rw [hp];by_cases y:o.at_ < 0
 ·rw [decide_eq_true y];simp only [bnd,kJ,gZ];rw [gO1 (.inl y)];rfl
 rw [decide_eq_false y];by_cases h4:o.at_≥(p.instances.length:Int)
 ·simp only [bnd,kJ,gZ];rw [decide_eq_true h4,gO1 (.inr h4)];rfl
 ·simp only [bnd,kJ,gZ];rw [decide_eq_false h4];obtain⟨x,hx,_⟩:=hP4 y h4;rw [hx];rfl
theorem hLu(a c:Int):gBa a 0 c=decide (0≤a∧a≤c):=by
 unfold gBa lt_;by_cases h:a≥0
 ·rw [decide_eq_true h];by_cases f:a≤c
  ·rw [decide_eq_true f,decide_eq_true ⟨h,f⟩];rfl
  ·rw [decide_eq_false f,decide_eq_false (fun q:0≤a∧a≤c=>f q.2)];rfl
 ·rw [decide_eq_false h,decide_eq_false (fun q:0≤a∧a≤c=>h q.1)];rfl
theorem hHt(w:gG)(o:gI)(h0:w.packages.length≤4294967296)(h:∀p∈w.packages,p.instances.length≤4294967296):yZ w o=some (instF w o):=by
 unfold yZ instF;rw [wrap_small (by omega) (by omega),hLu];by_cases f:o.package < 0
 ·rw [decide_eq_false (by omega),gO1 (.inl f)];rfl
 by_cases q:o.package≥(w.packages.length:Int)
 ·rw [decide_eq_false (by omega),gO1 (.inr q)];rfl
 obtain⟨p,hp,hm⟩:=hP4 f q;rw [hp,decide_eq_true (by omega)];have h5:=h p hm;simp only [bnd,Bool.not_true,gZ];rw [wrap_small (by omega) (by omega),hLu];by_cases y:o.at_ < 0
 ·rw [decide_eq_false (by omega),gO1 (.inl y)];rfl
 by_cases h4:o.at_≥(p.instances.length:Int)
 ·rw [decide_eq_false (by omega),gO1 (.inr h4)];rfl
 obtain⟨x,hx,_⟩:=hP4 y h4;rw [hx,decide_eq_true (by omega)];rfl
theorem hFx(n:LB)(y:Nat)(kI:mE × Int × Bool)(kS:Int × Int):∀(ts:List mE)(k:Nat),(∃(j:Nat)(t:mE),ts[j]? =some t∧uV n y kI ts=(t,(y:Int),true)∧gA0 n y kS ts k=((y:Int),((k+j:Nat):Int))∧tIx n ts k=((k+j:Nat):Int))∨(uV n y kI ts=kI∧gA0 n y kS ts k=kS)
 | [],k=>.inr ⟨rfl,rfl⟩
 | t::ts,k=>by
   simp only [uV,gA0,tIx];cases h:t.name==n with
   | true=>exact .inl ⟨0,t,rfl,rfl,rfl,rfl⟩
   | false=>
     rcases hFx n y kI kS ts (k+1)with ⟨j,t',f,q,h3,h4⟩ | ⟨f,q⟩
     ·exact .inl ⟨j+1,t',f,q,by rw [gZ,h3,show k+1+j=k+(j+1) by omega],by rw [gZ,h4,show k+1+j=k+(j+1) by omega]⟩
     ·exact .inr ⟨f,q⟩
def hLv:mE × Int × Bool:=(mE.mk [] [] false false [],0,false)
theorem gZo(n:LB):∀(ps:List jL)(y:Nat),(∃(i j:Nat)(p:jL)(t:mE),ps[i]? =some p∧p.traits[j]? =some t∧qM n ps y=(t,((y+i:Nat):Int),true)∧yE n ps y=(((y+i:Nat):Int),(j:Int))∧hXz p n=(j:Int))∨(qM n ps y=hLv∧yE n ps y=(-1,-1))
 | [],y=>.inr ⟨rfl,rfl⟩
 | p::ps,y=>by
   simp only [qM,yE];rcases hFx n y (qM n ps (y+1)) (yE n ps (y+1)) p.traits 0 with ⟨j,t,f,q,h3,h4⟩ | ⟨f,q⟩
   ·exact .inl ⟨0,j,p,t,rfl,f,q,by rw [h3,Nat.zero_add];rfl,by unfold hXz;rw [h4,Nat.zero_add]⟩
   ·rw [f,q];rcases gZo n ps (y+1)with ⟨i,j,p',t,k1,k2,k3,k4,k5⟩ | ⟨k1,k2⟩
    ·exact .inl ⟨i+1,j,p',t,k1,k2,by rw [k3,show y+1+i=y+(i+1) by omega],by rw [k4,show y+1+i=y+(i+1) by omega],k5⟩
    ·exact .inr ⟨k1,k2⟩
def hOn(w:gG)(l:List pQ)(tn n:LB):Int:=cnd ((mY w tn).2.2 && (pV (mY w tn).1 n).2.2) (qF l 1 (mY w tn).2.1 (gC2 w tn).2 (pV (mY w tn).1 n).2.1) (-1)
theorem gQe(w:gG)(l:List pQ)(n:LB)(x:Int × Int){p:jL}{t:mE}(hp:at? w.packages x.1=some p)(ht:at? p.traits x.2=some t)(hl:t.signatures.length≤4294967296):∀(xs:List kW)(m k:Nat),t.signatures.drop k=xs→xs.length < m→k≤t.signatures.length→gAd w l n x m (k:Int)=some (cnd (qJ n xs k).2.2 (qF l 1 x.1 x.2 (qJ n xs k).2.1) (-1))
 | [],m+1,k,h,_,hk=>by
   have hk2:t.signatures.length≤k:=List.drop_eq_nil_iff.1 h;simp only [gAd,hp,ht,bnd];rw [decide_eq_false (by omega)];rfl
 | s::xs,m+1,k,h,hm,hk=>by
   simp only [List.length_cons] at hm;have hk2:k < t.signatures.length:=by
    have:=congrArg List.length h
    simp only [List.length_drop,List.length_cons] at this;omega
   obtain⟨s',f,q⟩:=drop_at hk2;rw [q,List.cons.injEq] at h;obtain⟨rfl,y⟩:=h;simp only [gAd,hp,ht,bnd];rw [decide_eq_true (by omega),kJ,gBb,f];simp only [qJ];have e:IntKind.i64.wrap ((k:Int)+1)=((k+1:Nat):Int):=by rw [wrap_small (by omega) (by omega)];rfl
   rw [e];cases hs:s'.name==n with
   | true=>rfl
   | false=>exact gQe w l n x hp ht hl xs m (k+1) y (by omega) hk2
theorem hD8(w:gG)(l:List pQ)(tn n:LB)(h:∀p∈w.packages,∀t∈p.traits,t.signatures.length≤4000):gJo w l tn n 5000=some (hOn w l tn n):=by
 unfold gJo hOn lt_;rcases gZo tn w.packages 0 with ⟨i,j,p,t,f,q,h3,h4,h5⟩ | ⟨f,q⟩
 ·have y:mY w tn=(t,(i:Int),true):=by rw [Nat.zero_add] at h3;exact h3
  have e2:gC2 w tn=((i:Int),(j:Int)):=by rw [Nat.zero_add] at h4;exact h4
  have hs:=h p (List.mem_of_getElem? f) t (List.mem_of_getElem? q);rw [y,e2];simp only;rw [decide_eq_false (by omega),gZ];rw [show (0:Int)=((0:Nat):Int)from rfl,gQe w l n _ (p:=p) (t:=t) (by simp only;rw [gBb];exact f) (by simp only;rw [gBb];exact q) (Nat.le_trans hs (by decide)) t.signatures 5000 0 rfl (by omega) (by omega)];unfold pV;cases (qJ n t.signatures 0).2.2<;>rfl
 ·have y:mY w tn=hLv:=f;have e2:gC2 w tn=(-1,-1):=q;rw [y,e2];rfl
def rmF(w:gG)(l:List pQ)(d:gJ)(tn n:LB):Int × List gJ:=
 cnd (cnd (d.kind != 1) true (!(instF w d.at_).2)) (-1,[])
  (cnd (decide (wB (instF w d.at_).1 n≥0))
   (cnd (decide (qF l 2 d.at_.package d.at_.at_ (wB (instF w d.at_).1 n) < 0)) (-1,[]) (qF l 2 d.at_.package d.at_.at_ (wB (instF w d.at_).1 n),d.args))
   (cnd (decide (hOn w l tn n < 0)) (-1,[]) (hOn w l tn n,[d])))
theorem hR4(d:gJ):W (.sl 5 (jQ d.args))≤W (jP d):=by
 obtain⟨f,q,y,d3⟩:=d;simp only [jP,W,Ws];omega
theorem hV7(w:gG)(l:List pQ)(d:gJ)(tn n:LB)(hd:W (jP d)≤4294967296):gCp w l d tn n=some (rmF w l d tn n):=by
 have ha:=Nat.le_trans (hR4 d) hd;unfold gCp rmF;simp only [hP5,hLt,hP0,hHs,bnd,lt_,idX];cases (cnd (d.kind != 1) true (!(instF w d.at_).2))with
 | true=>rfl
 | false=>
   simp only [gZ];cases decide (wB (instF w d.at_).1 n≥0)with
   | true=>
     simp only [kJ];cases decide (qF l 2 d.at_.package d.at_.at_ (wB (instF w d.at_).1 n) < 0)with
     | true=>rfl
     | false=>simp only [gZ];rw [wI ha]
   | false=>
     simp only [gZ];unfold hOn;rcases gZo tn w.packages 0 with ⟨i,j,p,t,f,h2,h3,h4,h5⟩ | ⟨f,h2⟩
     ·have q:mY w tn=(t,(i:Int),true):=by rw [Nat.zero_add] at h3;exact h3
      have y:gC2 w tn=((i:Int),(j:Int)):=by rw [Nat.zero_add] at h4;exact h4
      rw [q,y];simp only;rw [gBb,f];simp only [h5];cases (pV t n).2.2 with
      | false=>rfl
      | true=>
        simp only [Bool.not_true,Bool.and_true,kJ,gZ];cases decide (qF l 1 (i:Int) (j:Int) (pV t n).2.1 < 0)with
        | true=>rfl
        | false=>simp only [gZ];rw [wI hd]
     ·have q:mY w tn=hLv:=f;have y:gC2 w tn=(-1,-1):=h2;rw [q,y];rfl
theorem hB7(l:List pQ)(d:gJ)(n:LB)(x:jF × Bool):∀(xs y:List gJ),(∀a∈xs,W (jP a)≤4294967296)→y.length+xs.length≤4294967296→uU l d n x xs y=some (cnd (decide (qF l 2 d.at_.package d.at_.at_ (wB x.1 n) < 0)) (-1,[]) (qF l 2 d.at_.package d.at_.at_ (wB x.1 n),y++xs))
 | [],y,_,_=>by
   rw [uU.eq_1,List.append_nil];cases decide (qF l 2 d.at_.package d.at_.at_ (wB x.1 n) < 0)<;>rfl
 | a::xs,y,h,f=>by
   simp only [List.length_cons] at f;rw [uU.eq_2,wI (h a (by simp))];simp only [lt_,idX];rw [wI (by simp;omega),hB7 l d n x xs _ (fun b hb=>h b (by simp [hb])) (by simp;omega),List.append_assoc];rfl
theorem hV8(w:gG)(hw:WD w)(l:List pQ)(d:gJ)(tn n:LB)(hd:W (jP d)≤4294967296):gCm w l d tn n=some (rmF w l d tn n):=by
 have ha:=Nat.le_trans (hR4 d) hd;have hl:(jQ d.args).length=d.args.length:=Enc.len d.args;have hp:=hw.len;have f:=hHt w d.at_ (by omega) (fun p h=>by have:=(hw.pk p h).1.1.1;omega);have q:gWj w l tn n=some (hOn w l tn n):=hD8 w l tn n (fun p h t ht=>by have:=(hw.pk p h).2 t ht;omega);unfold gCm rmF;rw [kX f];simp only [lt_,idX];cases (cnd (d.kind != 1) true (!(instF w d.at_).2))with
 | true=>rfl
 | false=>
   simp only [gZ];cases decide (wB (instF w d.at_).1 n≥0)with
   | true=>
     simp only [kJ];simp only [W] at ha;rw [hB7 l d n _ _ [] (fun a hm=>by have:=hNr hm;omega) (by simp;omega)];rfl
   | false=>
     simp only [gZ];rw [kX q,wI hd,wI (by simp)];cases decide (hOn w l tn n < 0)<;>rfl
theorem hLw(a b c e:Int):∀(l:List pQ)(k:Nat),¬vE a b c e l k < 0→∃(j:Nat)(u:pQ),vE a b c e l k=((k+j:Nat):Int)∧l[j]? =some u∧u.kind=a∧u.package=b∧u.at_=c
 | [],k,h=>absurd (show vE a b c e [] k < 0 by simp [vE]) h
 | x::l,k,h=>by
   rw [vE] at h ⊢;simp only [lt_] at h ⊢;cases hc:cnd (x.kind==a) (cnd (x.package==b) (cnd (x.at_==c) (x.sub==e) false) false) false with
   | true=>
     refine⟨0,x,by rw [kJ];simp,rfl,?_⟩;cases f:(x.kind==a)with
     | false=>rw [f] at hc;cases hc
     | true=>
       cases q:(x.package==b)with
       | false=>rw [f,q] at hc;cases hc
       | true=>
         cases y:(x.at_==c)with
         | false=>rw [f,q,y] at hc;cases hc
         | true=>exact⟨beq_iff_eq.1 f,beq_iff_eq.1 q,beq_iff_eq.1 y⟩
   | false=>
     rw [hc,gZ] at h;obtain⟨j,u,f,q,y⟩:=hLw a b c e l (k+1) h;exact⟨j+1,u,by rw [gZ,f];congr 1;omega,q,y⟩
theorem hLx{l:List pQ}{a b c e:Int}(h:¬qF l a b c e < 0):∃u,at? l (qF l a b c e)=some u∧u.kind=a∧u.package=b∧u.at_=c:=by
 obtain⟨j,u,f,q,y⟩:=hLw a b c e l 0 h;have f:qF l a b c e=((0+j:Nat):Int):=f;exact⟨u,by rw [f,gBb,Nat.zero_add];exact q,y⟩
theorem jAx(code:LB)(hc:gHv (gOo code)):∃w l d t n,zG code=some (w,l,d,t,n)∧WD w∧DOK d:=by
 obtain⟨w,c1,f,q,hw⟩:=jE6 hc;obtain⟨all,hS⟩:=hw.wd.sw;obtain⟨r,y,r2⟩:=hw.wc.elab;obtain⟨d,c2,e2,k2,hd⟩:=jAw hw.wd hS q;obtain⟨t,c3,e3,k3,_⟩:=hTi (l:=[[115,104,111,119],[101,113],[97,100,100]]) k2 (by simp) (by simp);obtain⟨n,c4,e4,k4,_⟩:=hTi (l:=[[109],[116,119,111],[115,97,109,101],[112,108,117,115]]) k3 (by simp) (by simp);refine⟨w,r.1,d,t,n,?_,hw.wd,hd⟩;unfold zG;simp only [lt_];rw [kX f,kX y,kX e2,kX e3,kX e4]
theorem gZp(code:LB)(h:code.length≤1048576→gHv (gOo code)):gKd code=some true:=by
 unfold gKd hA7;cases hb:decide ((code.length:Int) > 1048576)with
 | true=>rfl
 | false=>
   have hb:=of_decide_eq_false hb;obtain⟨w,l,d,t,n,y,hw,hd⟩:=jAx code (h (by omega));have hD:=hd.2;rw [gZ,kX y];dsimp only;rw [kX (hV7 w l d t n hd.1),kX (hV8 w hw l d t n hd.1)];simp only [lt_,bne_self_eq_false,gZ];unfold rmF;cases (cnd (d.kind != 1) true (!(instF w d.at_).2))with
   | true=>rfl
   | false=>
     simp only [gZ];cases decide (wB (instF w d.at_).1 n≥0)with
     | true=>
       simp only [kJ];cases hf:decide (qF l 2 d.at_.package d.at_.at_ (wB (instF w d.at_).1 n) < 0)with
       | true=>rfl
       | false=>
         obtain⟨u,f,q,u3,u4⟩:=hLx (of_decide_eq_false hf);simp only [gZ,hf];rw [kX f];simp only [q,u3,u4,beq_self_eq_true,kJ,bnd];refine(congrArg (fun c=>cnd c (some ((d.args.length:Int)==0)) (some true)) (?_:_=false)).trans rfl;exact hf
     | false=>
       simp only [gZ];cases hf:decide (hOn w l t n < 0)with
       | true=>rfl
       | false=>
         have hf0:=of_decide_eq_false hf;have hu:∃u,at? l (hOn w l t n)=some u∧u.kind=1:=by
          unfold hOn at hf0 ⊢;cases hq:((mY w t).2.2 && (pV (mY w t).1 n).2.2)with
          | false=>rw [hq,gZ] at hf0;omega
          | true=>
            rw [hq,kJ] at hf0;rw [kJ];obtain⟨u,f,q,_⟩:=hLx hf0;exact⟨u,f,q⟩
         obtain⟨u,f,q⟩:=hu;simp only [gZ,hf];rw [kX f];simp only [q];rw [show ((1:Int)==2)=false from rfl,show((1:Int)==1)=true from rfl,show((([d]:List gJ).length:Int)==1)=true from rfl];simp only [gZ,kJ];rw [kX (show at? [d] 0=some d from rfl),kX (hBs 5000 d (by omega))];refine(congrArg (fun c=>cnd c (some ((([d]:List gJ).length:Int)==0)) (some true)) (?_:_=false)).trans rfl;exact hf
end Go.Proofs.YtfjncckelekpiaaGreat
namespace Go.Proofs.YtfjncckelekpiaaGreat
open Go Go.Eng Go.RowKit
theorem hTw {H:Type}{enc:TypeId × Value→H}{P:Program}{w:World}{sp:Nat→Bool}{held:Bool}{T e:TypeId}{v:Value}{d:DataW H}{ps:List MemPlace}(hund:P.underlying T=some (.slice e))(he:P.underlying e=some (.int .u8))(hce:P.cellsOf e=1)(hbe:0 < P.bytesOf e)
  (h:DataW.Trod enc P w 0 sp held T v d ps) (hw:∀x∈d.weights P T,x≤reachBytes) (hna:∀cs,v≠.agg cs):∃code:LB,SVr (fun b=>b < w.heap.size) [] [] w (.d (.sl 1 (gHs code))) v:=by
 obtain⟨fuel,h⟩:=h;have hc:v.cells=#[v]:=by cases v<;>first | rfl | (exact absurd rfl (hna _))
 rw [hc] at h
 suffices hs:∃code:LB,Rd (fun b=>b < w.heap.size) w (.sl 1 (gHs code)) [v] by
  obtain⟨code,f⟩:=hs;refine⟨code,?_⟩;simp only [SVr];exact⟨[v],by simp [val,U.isSt],f⟩
 have hlenB:∀l:LB,(gHs l).length=l.length:=fun l=>Enc.len l;cases fuel with
 | zero=>simp [DataW.trod] at h
 | succ fuel=>
   rcases DataW.trod_slice hund h with ⟨q,hx⟩ | ⟨a,len,cap,elems,rest,n,hn,q,hx,_,hlc,_,hel,hget,_,_⟩
   ·simp at q;subst q;exact⟨[],by simp only [Rd,gHs];exact⟨by simp [gAy],none,0,rfl,.inl trivial⟩⟩
   ·obtain rfl:fuel=n:=by omega
    simp at q;subst q;simp only [Prod.mk.injEq] at hx;obtain⟨rfl,rfl⟩:=hx;simp only [DataW.weights,hund] at hw;have hlen:len≤big:=by
     have f:=hw _ (List.mem_cons_self);simp only [List.length_map] at f;refine hL9 (Nat.le_trans ?_ f);rw [hel]
     calc len≤len*P.bytesOf e:=Nat.le_mul_of_pos_right _ hbe
      _≤(len+rest.length)*P.bytesOf e:=Nat.mul_le_mul_right _ (by omega)
    have each:∀i,i < len→∃x:UInt8,(a.spot=none→At w a.block (a.off+i*1) [.int .u8 (x.toNat:Int)])∧(i=0→a.spot=none)∧a.block < w.heap.size:=by
     intro i hi;have f:=hget i hi;rw [List.getElem?_eq_getElem (by omega)] at f;cases hc:w.cells? 0 (a.add (i*P.cellsOf e)) (P.cellsOf e)with
     | none=>rw [hc] at f;simp at f
     | some cs=>
       rw [hc] at f;simp only [Option.bind_some] at f;rw [hce] at hc;obtain⟨k1,k2,y⟩:=hP6 (by omega) hc;obtain⟨m,rfl,_,hwf⟩:=DataW.trod_int he f;simp [Lit.wf,IntKind.min,IntKind.max,IntKind.bits,IntKind.signed] at hwf;have hblk:(a.add (i*1)).block=a.block:=by unfold Addr.add;split<;>rfl
       refine⟨UInt8.ofNat m.toNat,fun hsp=>?_,fun q=>?_,?_⟩
       ·have hoff:(a.add (i*1)).off=a.off+i*1:=by unfold Addr.add;split<;>simp_all
        rw [hblk,hoff] at y;have e1:((UInt8.ofNat m.toNat).toNat:Int)=m:=by
         rw [UInt8.toNat_ofNat'];omega
        rw [e1];exact y
       ·subst q;rw [Nat.zero_mul] at k2;exact k2
       ·rw [←hblk];exact y.lt
    obtain⟨us,hul,hus⟩:=gWm len each;refine⟨us,?_⟩;simp only [Rd];refine⟨by rw [hlenB,hul];exact hlen,some a,cap - len,by rw [hlenB,hul,Nat.add_sub_cancel' hlc],?_⟩;by_cases q:us=[]
    ·subst q;exact .inl rfl
    ·have hpos:0 < len:=by rw [←hul];exact List.length_pos_iff.2 q
     obtain⟨u0,_,hsp,hblt⟩:=each 0 hpos;have hsp:=hsp rfl;refine .inr ⟨a.block,a.off,?_,hblt,RdE.mk (gHs us) a.off (fun k u hk=>?_)⟩
     ·obtain⟨b,o,sp⟩:=a;simp only at hsp;subst hsp;rfl
     ·have hk2:k < us.length:=by rw [←hlenB];exact(List.getElem?_eq_some_iff.1 hk).1
      have hk3:=hUh (List.getElem?_eq_getElem hk2);rw [hk] at hk3;obtain rfl:=Option.some.inj hk3;obtain⟨k1,_,_⟩:=hus k _ (List.getElem?_eq_getElem hk2);exact⟨_,rfl,k1 hsp,by simp only [Rd]⟩
end Go.Proofs.YtfjncckelekpiaaGreat
