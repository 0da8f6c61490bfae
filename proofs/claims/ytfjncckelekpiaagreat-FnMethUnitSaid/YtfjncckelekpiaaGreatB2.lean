import Derived.Test.YtfjncckelekpiaaGreatTh
import Derived.Lib.ItoaLen
import Derived.Lib.AppendIntMem
import Derived.Lib.ItoaNum
set_option linter.unusedVariables false
set_option linter.unusedSimpArgs false
namespace Go.Proofs.YtfjncckelekpiaaGreat
open Go Go.Eng Go.RowKit
attribute [local irreducible] V VO VQ VY Quiet QR gW pJ Rng vF uW uI
instance (n:Int):Decidable (gK9 n):=inferInstanceAs (Decidable (_∧_))
def dgs(u:Nat):LB:=if u=0 then [] else Lib.decDigits u
theorem hOz{u:Nat}(h:u≠0):dgs u=dgs (u / 10)++[UInt8.ofNat (48+u % 10)]:=by
 unfold dgs;rw [if_neg h,Lib.decDigits];by_cases f:u < 10
 ·rw [dif_pos f,if_pos (by omega),Nat.mod_eq_of_lt f];rfl
 ·rw [dif_neg f,if_neg (by omega)]
theorem hTa{n:Int}(h:gK9 n):(dgs n.natAbs).length≤21:=by
 unfold dgs;split
 ·simp
 ·have:=Lib.itoa_length_le n h.1 h.2
  unfold Lib.itoa at this;split at this
  ·simp at this;omega
  ·have e:n.natAbs=n.toNat:=by omega
   rw [e];exact this
theorem itoa_neg{n:Int}(h:n < 0):Lib.itoa n=45::dgs n.natAbs:=by unfold Lib.itoa dgs;rw [if_pos h,if_neg (by omega)]
theorem hO0{n:Int}(h:0 < n):Lib.itoa n=dgs n.natAbs:=by unfold Lib.itoa dgs;rw [if_neg (by omega),if_neg (by omega)];congr 1;omega
theorem hI9:Lib.itoa 0=[48]:=by unfold Lib.itoa;rw [if_neg (by omega),Lib.decDigits];rfl
theorem hJa{m:Int}(h:m.tmod 10 < 0):IntKind.i64.wrap (0 - m.tmod 10)=((m.natAbs % 10:Nat):Int):=by
 have e:m.tmod 10= -((m.natAbs % 10:Nat):Int):=by
  rcases Int.natAbs_eq m with f | f
  ·rw [f] at h
   have:=Int.tmod_nonneg (a:=(m.natAbs:Int)) 10 (by omega)
   omega
  ·conv=>lhs;rw [f]
   rw [Int.neg_tmod]
   have:(m.natAbs:Int).tmod 10=((m.natAbs % 10:Nat):Int):=by rw [show (10:Int)=((10:Nat):Int)from rfl,←Int.ofNat_tmod];
   rw [this]
 rw [e,gD7 _ (by omega) (by omega)];omega
theorem hJb{m:Int}(h:¬m.tmod 10 < 0):m.tmod 10=((m.natAbs % 10:Nat):Int):=by
 have key:(m.natAbs:Int).tmod 10=((m.natAbs % 10:Nat):Int):=by rw [show (10:Int)=((10:Nat):Int)from rfl,←Int.ofNat_tmod]
 rcases Int.natAbs_eq m with f | f
 ·conv=>lhs;rw [f]
  exact key
 ·have e:m.tmod 10= -((m.natAbs % 10:Nat):Int):=by
   conv=>lhs;rw [f]
   rw [Int.neg_tmod,key]
  omega
theorem gYt(m:Int):(m.tdiv 10).natAbs=m.natAbs / 10:=by simp [Int.natAbs_tdiv];rfl
theorem gRb{m:Int}(h:gK9 m):gK9 (m.tdiv 10)∧IntKind.i64.wrap (m.tdiv 10)=m.tdiv 10:=by
 have:=gYt m
 have hr:gK9 (m.tdiv 10):=by
  obtain⟨f,q⟩:=h;unfold gK9;omega
 exact⟨hr,gD7 _ hr.1 hr.2⟩
theorem byte_of(u:Nat):UInt8.ofNat (IntKind.u8.wrap (IntKind.i64.wrap (48+((u % 10:Nat):Int)))).toNat=UInt8.ofNat (48+u % 10):=by
 have:u % 10 < 10:=Nat.mod_lt _ (by decide)
 generalize u % 10=k at this
 match k,this with
 | 0,_ | 1,_ | 2,_ | 3,_ | 4,_ | 5,_ | 6,_ | 7,_ | 8,_ | 9,_=>rfl
theorem round_eq{n m:Int}{out:LB}(hm:m≠0)(h:dgs n.natAbs=dgs m.natAbs++out):dgs n.natAbs=dgs (m.tdiv 10).natAbs++([UInt8.ofNat (48+m.natAbs % 10)]++out):=by
 rw [h,hOz (u:=m.natAbs) (by omega),gYt,List.append_assoc]
set_option maxHeartbeats 4000000 in
theorem gOa(n:Int)(hn:gK9 n):gW Tryz.prog 275 [.d (.i .i64 n)] [.s (Lib.itoa n)]:=by
 refine gWk Tryz.func275 rfl (by kernel_rfl) rfl fun A _=>?_;refine goL ?_;refine kN (fun q=>?_) (fun q=>?_)
 ·have:n=0:=by simpa using q
  subst this;rw [hI9];refine goL ?_;refine jH ?_;exact mM
 refine gCs ?_;show V _ _ _ _ _;have hn0:n≠0:=by simpa using q
 refine goL ?_;refine kC (gP ?_);refine kZ (fun(x:Int × LB)=>⟨[(0,.d (.i .i64 x.1)),(2,.d (.s [])),(3,.d (.b (decide (n < 0)))),(4,.d (.s x.2))],[],Tryz.f275.ntmps⟩) (fun x=>gK9 x.1∧dgs n.natAbs=dgs x.1.natAbs++x.2) (fun x=>x.1.natAbs) (n,[]) ⟨rfl,⟨⟨rfl,rfl⟩,⟨rfl,rfl⟩,⟨rfl,rfl⟩,⟨rfl,rfl⟩,trivial⟩,⟨_,rfl⟩,rfl⟩ ⟨hn,by simp⟩ ?_;rintro⟨m,out⟩ ⟨hr,hd⟩;have hl:=hTa hn;have hol:out.length≤21:=by rw [hd] at hl;simp at hl;omega
 dsimp only;refine goL ?_;refine kN (fun y=>?_) (fun y=>?_)
 ·have hm:m≠0:=by simpa using y
  refine gCs ?_;show V _ _ _ _ _;refine gP ?_;refine goL ?_;refine uX hW4 ?_;refine goL ?_;refine kN (fun f=>?_) (fun f=>?_)
  ·have hd3:=hJa (of_decide_eq_true f);refine goL ?_;refine pX pR ?_;rw [hd3];refine goL ?_;refine pX pR ?_;refine goL ?_;refine uX (hEd rfl Tryz.underlying3 Tryz.underlying5) ?_;refine goL ?_;refine hWx (u:=.i .u8 _) ?_;refine uX (hF9 rfl rfl Tryz.underlying22 Tryz.underlying5 Tryz.underlying9) ?_;rw [byte_of];refine goL ?_;refine pX (yS (a:=[_]) (b:=out) (by simp;omega)) ?_;refine goL ?_;refine uX (hSc (gRb hr).2) ?_;refine goL ?_;exact⟨(m.tdiv 10,_),⟨(gRb hr).1,round_eq hm hd⟩,by have:=gYt m;simp only;omega,⟨rfl,⟨⟨rfl,rfl⟩,⟨rfl,rfl⟩,⟨rfl,rfl⟩,⟨rfl,rfl⟩,trivial⟩,⟨_,rfl⟩,rfl⟩⟩
  ·have hd3:=hJb (of_decide_eq_false f);refine gCs ?_;show V _ _ _ _ _;refine goL ?_;rw [hd3];refine pX pR ?_;refine goL ?_;refine uX (hEd rfl Tryz.underlying3 Tryz.underlying5) ?_;refine goL ?_;refine hWx (u:=.i .u8 _) ?_;refine uX (hF9 rfl rfl Tryz.underlying22 Tryz.underlying5 Tryz.underlying9) ?_;rw [byte_of];refine goL ?_;refine pX (yS (a:=[_]) (b:=out) (by simp;omega)) ?_;refine goL ?_;refine uX (hSc (gRb hr).2) ?_;refine goL ?_;exact⟨(m.tdiv 10,_),⟨(gRb hr).1,round_eq hm hd⟩,by have:=gYt m;simp only;omega,⟨rfl,⟨⟨rfl,rfl⟩,⟨rfl,rfl⟩,⟨rfl,rfl⟩,⟨rfl,rfl⟩,trivial⟩,⟨_,rfl⟩,rfl⟩⟩
 ·have hm:m=0:=by simpa using y
  subst hm;refine hGb ?_;show V _ _ _ _ _;refine goL ?_;simp [dgs] at hd;refine kN (fun f=>?_) (fun f=>?_)
  ·have h0:=of_decide_eq_true f;rw [itoa_neg h0,show dgs n.natAbs=out by simp [dgs,hd]];refine goL ?_;refine pX (yS (a:=[45]) (b:=out) (by simp;omega)) ?_;refine goL ?_;refine jH ?_;exact mM
  ·have h0:=of_decide_eq_false f;rw [hO0 (by omega),show dgs n.natAbs=out by simp [dgs,hd]];refine gCs ?_;show V _ _ _ _ _;refine goL ?_;refine jH ?_;exact mM
end Go.Proofs.YtfjncckelekpiaaGreat
set_option maxHeartbeats 4000000
set_option linter.unusedSectionVars false
namespace Go.Proofs.YtfjncckelekpiaaGreat
open Go Go.Eng
attribute [local irreducible] V VO VQ VY Quiet QR gW pJ Rng vF uW uI
def hA7(f:LB):Bool:=
(decide ((f.length:Int) > 1048576))
theorem hVm(f:LB):gW Tryz.prog 4 [.L 1 (gHs f)] [.b (hA7 f)]:=by
 obtain⟨r,h⟩:∃r,hA7 f=r:=⟨_,rfl⟩
 rw [h];unfold hA7 at h;refine SpI Tryz.func4 fun A _=>?_;refine goL ?_;refine jH ?_;subst h;exact mM
def qG(q:LB)(a1:Int):Nat→LS→Int→Int→Option LS
 | 0,y1,y,f=>none
 | n5+1,y1,y,f=>(cnd (decide (f≤(q.length:Int))) (
bnd (cnd (f==(q.length:Int)) (some true) (bnd (at? q f) fun x9=>
some ((x9.toNat:Int)==a1))) fun b7=>
cnd b7 (
gd (0≤y∧y≤f∧f≤(q.length:Int)) (
gd (y1.length+[((q.drop (Int.toNat y)).take (Int.toNat f - Int.toNat y))].length≤4294967296) (
qG q a1 n5 (y1++[((q.drop (Int.toNat y)).take (Int.toNat f - Int.toNat y))]) (IntKind.i64.wrap (f+1)) (IntKind.i64.wrap (f+1))))) (
qG q a1 n5 y1 y (IntKind.i64.wrap (f+1)))) (some y1))
def gIu(f:LB)(a1:Int)(q:Nat):Option LS:=
qG f a1 q [] 0 0
theorem hA8(a0:LB)(a1:Int){n0:Nat}{r:LS}(h:gIu a0 a1 n0=some r):gW Tryz.prog 45 [.S a0,.d (.i .u8 a1)] [.sl 1 (kD r)]:=by
 unfold gIu at h;refine SpI Tryz.func45 fun A _=>?_;refine goL ?_;refine gFh ?_;refine goL ?_;refine noB ?_;refine gMj (fun(y:Nat)(y1:LS)(f:Int)(q:Int)(v2:Nat)=>⟨[(0,.S a0),(1,.d (.i .u8 a1)),(5,.sl 0 v2),(6,.I f),(7,.I q)],[.own 9 1 v2 (kD y1)],Tryz.f45.ntmps⟩) (fun y y1 f q v2=>qG a0 a1 y y1 f q=some r) (fun y y1 f q v2=>y) n0 [] 0 0 0 eJ h ?_;rintro y y1 f q v2 h;rcases y with _ | y
 ·cases h
 rw [qG.eq_2] at h;refine goC h ?_ ?_<;>intro c6 h
 ·refine noS ?_;refine kC (gP ?_);refine goL ?_;obtain⟨b7,hb7,h⟩:=gK h;refine kG ⟨[(0,.S a0),(1,.d (.i .u8 a1)),(5,.sl 0 v2),(6,.I f),(7,.I q),(25,.B b7)],[.own 9 1 v2 (kD y1)],Tryz.f45.ntmps⟩ ?_ ?_
  ·refine gqO 19 hb7 (fun c8 hb7=>?_);obtain⟨x9,ad,hb7⟩:=gK hb7;obtain⟨ae,ad⟩:=yY ad;refine gX (gO3 ae ad) ?_;cases hb7;exact eJ
  refine goC h ?_ ?_<;>intro ak h
  ·refine goL ?_;obtain⟨ag,h⟩:=mI h;refine pX (hSh ag) ?_;refine gAz ((a0.drop (Int.toNat f)).take (Int.toNat q - Int.toNat f)) ?_;obtain⟨ah,h⟩:=mI h;refine gDj ah ?_;refine goL ?_;refine gX (pR) ?_;refine gX (pR) ?_;exact⟨y,(y1++[((a0.drop (Int.toNat f)).take (Int.toNat q - Int.toNat f))]),(IntKind.i64.wrap (q+1)),(IntKind.i64.wrap (q+1)),(v2+1),h,Nat.lt_succ_self _,eJ⟩
  ·refine goS ?_;refine gX (pR) ?_;exact⟨y,y1,f,(IntKind.i64.wrap (q+1)),v2,h,Nat.lt_succ_self _,eJ⟩
 ·refine goX ?_;refine qW 0 rfl rfl ?_;refine jH ?_;cases h;exact mM
def gHt(f:LB)(q:Int):Option LS:=gIu f q 5000
def gGg:LB→Bool
 | []=>true
 | f::xs=>(cnd ((f.toNat:Int) != 32) (
false) (
gGg xs ))
def gHu(f:LB):Bool:=
gGg f
theorem hHg(y:LB):gW Tryz.prog 46 [.S y] [.b (gHu y)]:=by
 obtain⟨r,h⟩:∃r,gHu y=r:=⟨_,rfl⟩
 rw [h];unfold gHu at h;refine SpI Tryz.func46 fun A _=>?_;refine goL ?_;refine noB ?_;refine hQf 0 (fun z2=>?_);refine kZ (fun(q:Nat)=>⟨[(0,.S y),(3,.N q)],[],Tryz.f46.ntmps⟩) (fun q=>gGg (y.drop q)  =r) (fun q=>y.length - q) 0 eJ h ?_;rintro q h;refine goL ?_;refine kN (fun c3=>?_) (fun c3=>?_)
 ·have f:=hWo c3;obtain⟨x4,ac,aa⟩:=drop_at f;rw [aa,gGg.eq_2] at h;refine noS ?_;refine kC (gP ?_);refine goL ?_;refine gX (gLb q ac) ?_;refine kN (fun c5=>?_) (fun c5=>?_)
  ·replace h:=jU c5 h;refine goL ?_;refine jH ?_;subst h;exact mM
  ·replace h:=jV c5 h;refine goS ?_;refine gX (jK q (by omega)) ?_;exact⟨(q+1),h,by omega,eJ⟩
 ·have f:=hWp c3;rw [gT f,gGg.eq_1] at h;refine goX ?_;refine jH ?_;subst h;exact mM
def gA1(c:yT):Nat→Int→Option (yT)
 | 0,f=>none
 | y+1,f=>bnd (cnd (decide (f < (c.s.length:Int))) (bnd (at? c.s f) fun q=>
cnd ((q.toNat:Int)==32) (some true) (some ((q.toNat:Int)==10))) (some false)) fun b3=>
(cnd b3 (
gA1 c y (IntKind.i64.wrap (f+1))) (some (yT.mk c.s f c.deep c.size c.bad)))
def gYu(c:yT)(f:Nat):Option (yT):=
gA1 c f c.at_
theorem gYv(c:yT){n0:Nat}{r:yT}(h:gYu c n0=some r):Go.Eng.Spec Tryz.prog 91 [.ptr 0 0] [bIp c.s c.at_ c.deep c.size c.bad] (fun sv Lo=>sv=.tup []∧Lo=[bIp r.s r.at_ r.deep r.size r.bad]):=by
 obtain⟨aa,ag,ab,ac,ad⟩:=c;unfold gYu at h;refine pK 1 Tryz.func91 rfl (by kernel_rfl) rfl rfl fun A _=>?_;refine noB ?_;refine gAg (fun(q:Nat)(y1:Int)=>⟨[(0,.ptr 0 0)],[bIp aa y1 ab ac ad],Tryz.f91.ntmps⟩) (fun q y1=>gA1 (yT.mk aa ag ab ac ad) q y1=some r) (fun q y1=>q) n0 ag eJ h ?_;rintro q y1 h;rcases q with _ | q
 ·cases h
 rw [gA1.eq_2] at h;refine gCj ?_;obtain⟨b3,hb3,h⟩:=gK h;refine qN (P:=Tryz.prog) Mix.h ⟨[(0,.ptr 0 0),(35,.B b3)],[bIp aa y1 ab ac ad],Tryz.f91.ntmps⟩ (by kernel_rfl) ?_ ?_
 ·refine goL ?_;refine qE 12 (fun c4=>?_) (fun c4=>?_)
  ·replace hb3:=jU c4 hb3;refine goL ?_;obtain⟨x5,f,hb3⟩:=gK hb3;obtain⟨y,f⟩:=yY f;refine wN (gO3 y f) ?_;refine goL ?_;refine qE 23 (fun c6=>?_) (fun c6=>?_)
   ·replace hb3:=jU c6 hb3;refine goL ?_;cases hb3;exact eJ
   ·replace hb3:=jV c6 hb3;refine goL ?_;refine wN (gO3 y f) ?_;refine goL ?_;cases hb3;exact eJ
  ·replace hb3:=jV c4 hb3;refine goL ?_;cases hb3;exact eJ
 refine goC h ?_ ?_<;>intro c7 h
 ·refine noS ?_;refine gP ?_;refine goL ?_;refine gX (pR) ?_;exact⟨q,(IntKind.i64.wrap (y1+1)),h,Nat.lt_succ_self _,eJ⟩
 ·refine hGb ?_;show uI _ _ _ _ _ _;obtain rfl:=Option.some.inj h;exact jH5 [] _ ⟨rfl,rfl⟩
def gSn(f:yT):Option (yT):=gYu f 5000
def gJ7(f:Int):Bool:=
lt_ (cnd (decide (f≥97)) (cnd (decide (f≤122)) (true) (cnd (decide (f≥48)) (cnd (decide (f≤57)) (true) (cnd (f==39) (true) (cnd (f==45) (true) (cnd (f==43) (true) (cnd (f==42) (true) (cnd (f==60) (true) (cnd (f==61) (true) (f==46)))))))) (cnd (f==39) (true) (cnd (f==45) (true) (cnd (f==43) (true) (cnd (f==42) (true) (cnd (f==60) (true) (cnd (f==61) (true) (f==46))))))))) (cnd (decide (f≥48)) (cnd (decide (f≤57)) (true) (cnd (f==39) (true) (cnd (f==45) (true) (cnd (f==43) (true) (cnd (f==42) (true) (cnd (f==60) (true) (cnd (f==61) (true) (f==46)))))))) (cnd (f==39) (true) (cnd (f==45) (true) (cnd (f==43) (true) (cnd (f==42) (true) (cnd (f==60) (true) (cnd (f==61) (true) (f==46))))))))) fun q=>
q
theorem hFc(f:Int):gW Tryz.prog 140 [.d (.i .u8 f)] [.b (gJ7 f)]:=by
 obtain⟨r,h⟩:∃r,gJ7 f=r:=⟨_,rfl⟩
 rw [h];unfold gJ7 at h;refine SpI Tryz.func140 fun A _=>?_;refine goL ?_;obtain⟨q,hb1,h⟩:=pI h;refine kG ⟨[(2,.B q)],[],Tryz.f140.ntmps⟩ ?_ ?_
 ·refine gqV 5 hb1 ?_ ?_<;>intro c2 hb1
  ·refine gqO 9 hb1 (fun c3 hb1=>?_);refine gqV 12 hb1 ?_ ?_<;>intro c4 hb1
   ·refine gqO 17 hb1 (fun c5 hb1=>?_);refine gqO 21 hb1 (fun c6 hb1=>?_);refine gqO 25 hb1 (fun c7 hb1=>?_);refine gqO 29 hb1 (fun c8 hb1=>?_);refine gqO 33 hb1 (fun c9 hb1=>?_);refine gqO 37 hb1 (fun y hb1=>?_);exact gqZ 41 hb1
   ·refine gqO 21 hb1 (fun aa hb1=>?_);refine gqO 25 hb1 (fun ab hb1=>?_);refine gqO 29 hb1 (fun ac hb1=>?_);refine gqO 33 hb1 (fun ad hb1=>?_);refine gqO 37 hb1 (fun ae hb1=>?_);exact gqZ 41 hb1
  ·refine gqV 12 hb1 ?_ ?_<;>intro ag hb1
   ·refine gqO 17 hb1 (fun ah hb1=>?_);refine gqO 21 hb1 (fun ai hb1=>?_);refine gqO 25 hb1 (fun aj hb1=>?_);refine gqO 29 hb1 (fun ak hb1=>?_);refine gqO 33 hb1 (fun al hb1=>?_);refine gqO 37 hb1 (fun am hb1=>?_);exact gqZ 41 hb1
   ·refine gqO 21 hb1 (fun an hb1=>?_);refine gqO 25 hb1 (fun ao hb1=>?_);refine gqO 29 hb1 (fun ap hb1=>?_);refine gqO 33 hb1 (fun aq hb1=>?_);refine gqO 37 hb1 (fun ar hb1=>?_);exact gqZ 41 hb1
 refine goL ?_;refine jH ?_;subst h;exact mM
def gM2(f:gH→Int→Option (Int))(a0:gH):Nat→Int→Int→Option (Int)
 | 0,q,y=>none
 | n3+1,q,y=>lt_ (cnd (decide (y < (a0.list.length:Int))) (decide (q≥0)) (false)) fun b4=>
(cnd b4 (
bnd (at? a0.list y) fun x7=>
bnd (f x7 q) fun x8=>
gM2 f a0 n3 x8 (IntKind.i64.wrap (y+1))) (some q))
def gYw(f:gH→Int→Option (Int))(q:gH)(a1:Int)(y:Nat):Option (Int):=
gM2 f q y (IntKind.i64.wrap (a1 - 1)) 0
theorem hO1{f:gH→Int→Option (Int)}(q:∀(x0:gH)(x1:Int){r:Int},f x0 x1=some r→gW Tryz.prog 141 [.d (qL x0),.I x1] [.i .i64 r])(a0:gH)(a1:Int){n0:Nat}{r:Int}(h:gYw f a0 a1 n0=some r):gW Tryz.prog 141 [.d (qL a0),.I a1] [.i .i64 r]:=by
 obtain⟨y,aa⟩:=a0;unfold gYw at h;refine SpI Tryz.func141 fun A _=>?_;refine goL ?_;refine gX (pR) ?_;refine noB ?_;refine kQ (fun(n3:Nat)(y1:Int)(y2:Int)=>⟨[(1,.I y1),(2,.ptr 0 0),(5,.I y2)],[bSx y aa],Tryz.f141.ntmps⟩) (fun n3 y1 y2=>gM2 f (gH.mk y aa) n3 y1 y2=some r) (fun n3 y1 y2=>n3) n0 (IntKind.i64.wrap (a1 - 1)) 0 eJ h ?_;rintro n3 y1 y2 h;rcases n3 with _ | n3
 ·cases h
 rw [gM2.eq_2] at h;refine goL ?_;obtain⟨b4,hb4,h⟩:=pI h;refine kG ⟨[(1,.I y1),(2,.ptr 0 0),(5,.I y2),(16,.B b4)],[bSx y aa],Tryz.f141.ntmps⟩ ?_ ?_
 ·exact gqZ 13 hb4
 refine goC h ?_ ?_<;>intro c6 h
 ·refine noS ?_;refine kC (gP ?_);refine goL ?_;obtain⟨x7,ad,h⟩:=gK h;obtain⟨ag,ad⟩:=yY ad;obtain⟨am,an⟩:=x7;refine gX (kY ag (vW ad)) ?_;obtain⟨x8,ai,h⟩:=gK h;refine gX (gD (q _ _ ai)) ?_;refine gX (pR) ?_;exact⟨n3,x8,(IntKind.i64.wrap (y2+1)),h,Nat.lt_succ_self _,eJ⟩
 ·refine goX ?_;refine jH ?_;cases h;exact mM
def gYx:Nat→gH→Int→Option (Int)
 | 0,_,_=>none
 | n+1,f,q=>gYw (gYx n) f q n
theorem hO5:∀(n:Nat)(f:gH)(q:Int){r:Int},gYx n f q=some r→gW Tryz.prog 141 [.d (qL f),.I q] [.i .i64 r]:=by
 intro n
 induction n with
 | zero=>intro f q r h;cases h
 | succ n ih=>intro f q r h;exact hO1 ih f q h
def gBa(f:Int)(a1:Int)(q:Int):Bool:=
lt_ (cnd (decide (f≥a1)) (decide (f≤q)) (false)) fun y=>
y
theorem gIv(f:Int)(a1:Int)(q:Int):gW Tryz.prog 43 [.I f,.I a1,.I q] [.b (gBa f a1 q)]:=by
 obtain⟨r,h⟩:∃r,gBa f a1 q=r:=⟨_,rfl⟩
 rw [h];unfold gBa at h;refine SpI Tryz.func43 fun A _=>?_;refine goL ?_;obtain⟨y,hb1,h⟩:=pI h;refine kG ⟨[(6,.B y)],[],Tryz.f43.ntmps⟩ ?_ ?_
 ·exact gqZ 10 hb1
 refine goL ?_;refine jH ?_;subst h;exact mM
def gQl(f:Int)(a1:Int):Int:=
(cnd (decide (f > a1)) (
f) (
a1))
theorem hJc(f:Int)(a1:Int):gW Tryz.prog 194 [.I f,.I a1] [.i .i64 (gQl f a1)]:=by
 obtain⟨r,h⟩:∃r,gQl f a1=r:=⟨_,rfl⟩
 rw [h];unfold gQl at h;refine SpI Tryz.func194 fun A _=>?_;refine goC h ?_ ?_<;>intro q h
 ·refine goL ?_;refine jH ?_;subst h;exact mM
 ·refine goS ?_;refine jH ?_;subst h;exact mM
def gIw:List gH→LS→Option (LS × Bool)
 | [],f=>(some (f,true))
 | q::xs,f=>(cnd (q.atom==[]) (some ([],false)) (
gd (f.length+[q.atom].length≤4294967296) (
gIw xs (f++[q.atom]))))
def gOb(f:List gH):Option (LS × Bool):=
gIw f []
theorem gVh(a0:List gH){r:LS × Bool}(h:gOb a0=some r):gW Tryz.prog 93 [.L 2 (kE a0)] [.sl 1 (kD r.1),.b r.2]:=by
 unfold gOb at h;refine SpI Tryz.func93 fun A _=>?_;refine goL ?_;refine gFh ?_;refine goL ?_;refine noB ?_;refine gB0 0 (fun z4=>?_);refine kQ (fun(q:Nat)(y1:LS)(v2:Nat)=>⟨[(0,.L 2 (kE a0)),(4,.sl 0 v2),(5,.N q)],[.own 9 1 v2 (kD y1)],Tryz.f93.ntmps⟩) (fun q y1 v2=>gIw (a0.drop q) y1=some r) (fun q y1 v2=>a0.length - q) 0 [] 0 eJ h ?_;rintro q y1 v2 h;refine goL ?_;refine kN (fun c5=>?_) (fun c5=>?_)
 ·have f:=qB c5;obtain⟨x6,ad,ae⟩:=drop_at f;rw [ae,gIw.eq_2] at h;obtain⟨y,ai⟩:=x6;refine noS ?_;refine kC (gP ?_);refine goL ?_;refine gX (gV q (vW ad)) ?_;refine kN (fun c7=>?_) (fun c7=>?_)
  ·replace h:=jU c7 h;refine goL ?_;refine gFh ?_;refine goL ?_;refine qW 1 rfl rfl ?_;refine jH ?_;cases h;exact mM
  ·replace h:=jV c7 h;refine goS ?_;refine gX (gV q (vW ad)) ?_;refine gAz y ?_;obtain⟨g8,h⟩:=mI h;refine gDj g8 ?_;refine goL ?_;refine gX (jK q (by omega)) ?_;exact⟨(q+1),(y1++[y]),(v2+1),h,by omega,eJ⟩
 ·have f:=qC c5;rw [gT f,gIw.eq_1] at h;refine goX ?_;refine qW 0 rfl rfl ?_;refine jH ?_;cases h;exact mM
def uR(f:gH)(a1:Int):Option (gH):=
(cnd (decide (a1≥(f.list.length:Int))) (some (gH.mk [] [])) (
bnd (at? f.list a1) fun q=>
some q))
theorem vL(y:gH)(a1:Int){r:gH}(h:uR y a1=some r):gW Tryz.prog 94 [.d (qL y),.I a1] [qL r]:=by
 obtain⟨aa,ab⟩:=y;unfold uR at h;refine SpI Tryz.func94 fun A _=>?_;refine goC h ?_ ?_<;>intro c1 h
 ·refine goL ?_;refine uX (jI TBd.h TZ.h rfl (by repeat constructor)) ?_;exact goR h
 ·refine goS ?_;obtain⟨x2,f,h⟩:=gK h;obtain⟨q,f⟩:=yY f;obtain⟨ac,ad⟩:=x2;refine pX (kY q (vW f)) ?_;exact goR h
def wL(f:Int)(a1:Int):Int:=
(cnd (decide (f < a1)) (
f) (
a1))
theorem gM3(f:Int)(a1:Int):gW Tryz.prog 244 [.I f,.I a1] [.i .i64 (wL f a1)]:=by
 obtain⟨r,h⟩:∃r,wL f a1=r:=⟨_,rfl⟩
 rw [h];unfold wL at h;refine SpI Tryz.func244 fun A _=>?_;refine goC h ?_ ?_<;>intro q h
 ·refine goL ?_;refine jH ?_;subst h;exact mM
 ·refine goS ?_;refine jH ?_;subst h;exact mM
def gGh(f:LB)(a1:List gF):Option (gF):=
gd (([]:List gF).length+a1.length≤4294967296) (some (gF.mk 2 f ([]++a1)))
theorem gMa(f:LB)(a1:List gF){r:gF}(h:gGh f a1=some r):gW Tryz.prog 59 [.S f,.L 3 (jJ a1)] [kT r]:=by
 unfold gGh at h;refine SpI Tryz.func59 fun A _=>?_;refine goL ?_;refine qO ?_;refine goL ?_;obtain⟨q,h⟩:=mI h;refine vR q ?_;refine gC1 (jI TBd.h TZ.h rfl (by repeat constructor)) ?_;refine jS 1 rfl rfl ?_;refine jH ?_;cases h;exact mM
def gM4(f:LB):gF:=
(gF.mk 1 f [])
theorem gVi(f:LB):gW Tryz.prog 87 [.S f] [kT (gM4 f)]:=by
 obtain⟨r,h⟩:∃r,gM4 f=r:=⟨_,rfl⟩
 rw [h];unfold gM4 at h;refine SpI Tryz.func87 fun A _=>?_;refine goL ?_;refine gC1 (jI TBd.h TZ.h rfl (by repeat constructor)) ?_;refine jH ?_;subst h;exact mM
def gKs(a0:LB)(b1:Bool):LB→Int→Option (Int × Bool)
 | [],f=>bnd (cnd b1 (some (IntKind.i64.wrap ((0:Int) - f))) (some f)) fun q=>
gd (gK9 q) (cnd (!((Lib.itoa q)==a0)) (some (0,false)) (some (q,true)))
 | y::xs,f=>lt_ (cnd (decide ((y.toNat:Int) < 48)) (true) (decide ((y.toNat:Int) > 57))) fun aa=>
(cnd aa (some (0,false)) (
gKs a0 b1 xs (IntKind.i64.wrap ((IntKind.i64.wrap ((10:Int)*f))+(IntKind.i64.wrap (IntKind.u8.wrap ((y.toNat:Int) - 48)))))))
def gYy(f:LB)(a1:Int):Option (Int × Bool):=
bnd (cnd (decide ((f.length:Int) > 0)) (bnd (at? f 0) fun x3=>
some ((x3.toNat:Int)==45)) (some false)) fun y=>
bnd (cnd y (
gd (0≤(1:Int)∧1≤(f.length:Int)) (some (f.drop (Int.toNat 1)))) (some f)) fun q=>
lt_ (cnd (decide ((q.length:Int) < 1)) (true) (decide ((q.length:Int) > a1))) fun b7=>
(cnd b7 (some (0,false)) (
gKs f y q 0))
theorem hO6(a0:LB)(a1:Int){r:Int × Bool}(h:gYy a0 a1=some r):gW Tryz.prog 273 [.S a0,.I a1] [.i .i64 r.1,.b r.2]:=by
 unfold gYy at h;refine SpI Tryz.func273 fun A _=>?_;refine goL ?_;obtain⟨b1,hb1,h⟩:=gK h;refine kG ⟨[(0,.S a0),(1,.I a1),(6,.B b1)],[],Tryz.f273.ntmps⟩ ?_ ?_
 ·refine gqA 13 hb1 (fun c2 hb1=>?_);obtain⟨x3,ac,hb1⟩:=gK hb1;obtain⟨ak,ac⟩:=yY ac;refine gX (gO3 ak ac) ?_;cases hb1;exact eJ
 refine goL ?_;obtain⟨b4,hb4,h⟩:=gK h;refine gHf ⟨[(0,.S a0),(1,.I a1),(6,.B b1),(7,.S b4)],[],Tryz.f273.ntmps⟩ ?_ ?_
 ·refine kN (fun c5=>?_) (fun c5=>?_)
  ·replace hb4:=jU c5 hb4;refine goL ?_;obtain⟨g6,hb4⟩:=mI hb4;refine gX (hSi g6) ?_;cases hb4;exact eJ
  ·replace hb4:=jV c5 hb4;refine gCs ?_;cases hb4;exact eJ
 refine goL ?_;obtain⟨b7,hb7,h⟩:=pI h;refine kG ⟨[(0,.S a0),(6,.B b1),(7,.S b4),(30,.B b7)],[],Tryz.f273.ntmps⟩ ?_ ?_
 ·exact gqZ 25 hb7
 refine goC h ?_ ?_<;>intro c9 h
 ·exact goR h
 ·refine goS ?_;refine noB ?_;refine hQf 7 (fun au=>?_);refine gAg (fun(f:Nat)(y:Int)=>⟨[(0,.S a0),(6,.B b1),(7,.S b4),(8,.I y),(9,.N f)],[],Tryz.f273.ntmps⟩) (fun f y=>gKs a0 b1 (b4.drop f) y=some r) (fun f y=>b4.length - f) 0 0 eJ h ?_;rintro f y h;refine goL ?_;refine kN (fun ad=>?_) (fun ad=>?_)
  ·have q:=hWo ad;obtain⟨an,aa,ae⟩:=drop_at q;rw [ae,gKs.eq_2] at h;refine noS ?_;refine kC (gP ?_);refine goL ?_;refine gX (gLb f aa) ?_;obtain⟨ao,hb15,h⟩:=pI h;refine kG ⟨[(0,.S a0),(6,.B b1),(7,.S b4),(8,.I y),(9,.N f),(46,.B ao)],[],Tryz.f273.ntmps⟩ ?_ ?_
   ·refine gqO 41 hb15 (fun av hb15=>?_);refine gX (gLb f aa) ?_;cases hb15;exact eJ
   refine goC h ?_ ?_<;>intro aw h
   ·exact goR h
   ·refine goS ?_;refine gX (pR) ?_;refine pX (gLb f aa) ?_;refine pX (pR) ?_;refine pX (hUj Tryz.underlying5 Tryz.underlying3) ?_;refine gX (pR) ?_;refine gX (jK f (by omega)) ?_;exact⟨(f+1),(IntKind.i64.wrap ((IntKind.i64.wrap ((10:Int)*y))+(IntKind.i64.wrap (IntKind.u8.wrap ((an.toNat:Int) - 48))))),h,by omega,eJ⟩
  ·have q:=hWp ad;rw [gT q,gKs.eq_1] at h;refine goX ?_;obtain⟨al,hb18,h⟩:=gK h;refine gHf ⟨[(0,.S a0),(8,.I al)],[],Tryz.f273.ntmps⟩ ?_ ?_
   ·refine kN (fun ag=>?_) (fun ag=>?_)
    ·replace hb18:=jU ag hb18;refine goL ?_;refine gX (pR) ?_;cases hb18;exact eJ
    ·replace hb18:=jV ag hb18;refine gCs ?_;cases hb18;exact eJ
   refine goL ?_;obtain⟨ap,h⟩:=mI h;refine gX (gD (gOa al ap)) ?_;refine kN (fun ah=>?_) (fun ah=>?_)
   ·replace h:=jU ah h;exact goR h
   ·replace h:=jV ah h;refine goS ?_;refine jH ?_;cases h;exact mM
def gUc(f:Int):gY:=
(gY.mk 1 [] [] f (gF.mk 0 [] []) [] [])
theorem hO7(f:Int):gW Tryz.prog 246 [.I f] [vX (gUc f)]:=by
 obtain⟨r,h⟩:∃r,gUc f=r:=⟨_,rfl⟩
 rw [h];unfold gUc at h;refine SpI Tryz.func246 fun A _=>?_;refine goL ?_;refine gC1 (jI TBd.h TZ.h rfl (by repeat constructor)) ?_;refine jH ?_;subst h;exact mM
def gUd(f:LB):gY:=
(gY.mk 3 [] f 0 (gF.mk 0 [] []) [] [])
theorem hO8(f:LB):gW Tryz.prog 247 [.S f] [vX (gUd f)]:=by
 obtain⟨r,h⟩:∃r,gUd f=r:=⟨_,rfl⟩
 rw [h];unfold gUd at h;refine SpI Tryz.func247 fun A _=>?_;refine goL ?_;refine gC1 (jI TBd.h TZ.h rfl (by repeat constructor)) ?_;refine jH ?_;subst h;exact mM
def gCk(f:gH→gH→Option (Bool))(a1:gH):List gH→Nat→Option (Bool)
 | [],q=>(some true)
 | y::xs,q=>bnd (at? a1.list (q:Int)) fun x8=>
bnd (f y x8) fun x9=>
(cnd (!x9) (some false) (
gCk f a1 xs (q+1)))
def gM5(f:gH→gH→Option (Bool))(q:gH)(a1:gH):Option (Bool):=
lt_ (cnd (!(q.atom==a1.atom)) (true) ((q.list.length:Int) !=(a1.list.length:Int))) fun y=>
(cnd y (some false) (
gCk f a1 q.list 0))
theorem gYz{f:gH→gH→Option (Bool)}(q:∀(x0:gH)(x1:gH){r:Bool},f x0 x1=some r→gW Tryz.prog 200 [.d (qL x0),.d (qL x1)] [.b r])(a0:gH)(a1:gH){r:Bool}(h:gM5 f a0 a1=some r):gW Tryz.prog 200 [.d (qL a0),.d (qL a1)] [.b r]:=by
 obtain⟨ae,aa⟩:=a0;obtain⟨ab,ac⟩:=a1;unfold gM5 at h;refine SpI Tryz.func200 fun A _=>?_;refine goL ?_;obtain⟨b1,hb1,h⟩:=pI h;refine kG ⟨[(2,.ptr 0 0),(3,.ptr 1 0),(19,.B b1)],[bSx ae aa,bSx ab ac],Tryz.f200.ntmps⟩ ?_ ?_
 ·exact gqZ 11 hb1
 refine goC h ?_ ?_<;>intro c3 h
 ·exact goR h
 ·refine goS ?_;refine noB ?_;refine pG 0 1 (fun z5=>?_);refine kZ (fun(y4:Nat)=>⟨[(2,.ptr 0 0),(3,.ptr 1 0),(5,.N y4)],[bSx ae aa,bSx ab ac],Tryz.f200.ntmps⟩) (fun y4=>gCk f (gH.mk ab ac) (aa.drop y4) y4=some r) (fun y4=>aa.length - y4) 0 eJ h ?_;rintro y4 h;refine goL ?_;refine kN (fun c6=>?_) (fun c6=>?_)
  ·have y:=qB c6;obtain⟨x7,ak,ag⟩:=drop_at y;rw [ag,gCk.eq_2] at h;obtain⟨ao,ap⟩:=x7;refine noS ?_;refine kC (gP ?_);refine goL ?_;refine wC (gV y4 (vW ak)) ?_;refine goL ?_;obtain⟨x8,ah,h⟩:=gK h;rw [gBb] at ah;obtain⟨aq,ar⟩:=x8;refine wC (gV y4 (vW ah)) ?_;refine goL ?_;obtain⟨x9,al,h⟩:=gK h;refine wC (gD (q _ _ al)) ?_;refine goC h ?_ ?_<;>intro ax h
   ·exact goR h
   ·refine goS ?_;refine gX (jK y4 (by omega)) ?_;exact⟨(y4+1),h,by omega,eJ⟩
  ·have y:=qC c6;rw [gT y,gCk.eq_1] at h;refine goX ?_;refine jH ?_;cases h;exact mM
def gEo:Nat→gH→gH→Option (Bool)
 | 0,_,_=>none
 | n+1,f,q=>gM5 (gEo n) f q
theorem gJ8:∀(n:Nat)(f:gH)(q:gH){r:Bool},gEo n f q=some r→gW Tryz.prog 200 [.d (qL f),.d (qL q)] [.b r]:=by
 intro n
 induction n with
 | zero=>intro f q r h;cases h
 | succ n ih=>intro f q r h;exact gYz ih f q h
@[reducible] def zL0:LS:=[[105,110,116],[98,111,111,108],[97,115,115,111,99],[100,121,110],[105,102],[108,101,116],[99,97,115,101],[110,101,119],[109,101,116,104,111,100],[112,97,99,107],[116,114,117,101],[102,97,108,115,101]]
def gJ9(f:LB):Bool:=
(wM zL0 f)
theorem gY0(f:LB):gW Tryz.prog 206 [.S f] [.b (gJ9 f)]:=by
 obtain⟨r,h⟩:∃r,gJ9 f=r:=⟨_,rfl⟩
 rw [h];unfold gJ9 at h;refine SpI Tryz.func206 fun A _=>?_;refine goL ?_;refine gPb (us:=kD zL0) ?_;refine goL ?_;refine gC1 (gUn (gC5 zL0 f)) ?_;refine jH ?_;subst h;exact mM
def gBg(q:LS):LS→Nat→Option (Bool)
 | [],f=>(some true)
 | y::xs,f=>gd (0≤(f:Int)∧(f:Int)≤(q.length:Int)) (cnd (wM (q.take (Int.toNat (f:Int))) y) (some false) (
gBg q xs (f+1)))
def vD(f:LS):Option (Bool):=
gBg f f 0
theorem wO(y:LS){r:Bool}(h:vD y=some r):gW Tryz.prog 104 [.L 1 (kD y)] [.b r]:=by
 unfold vD at h;refine SpI Tryz.func104 fun A _=>?_;refine goL ?_;refine noB ?_;refine gB0 0 (fun z2=>?_);refine kZ (fun(q:Nat)=>⟨[(0,.L 1 (kD y)),(3,.N q)],[],Tryz.f104.ntmps⟩) (fun q=>gBg y (y.drop q) q=some r) (fun q=>y.length - q) 0 eJ h ?_;rintro q h;refine goL ?_;refine kN (fun c3=>?_) (fun c3=>?_)
 ·have f:=qB c3;obtain⟨x4,ac,aa⟩:=drop_at f;rw [aa,gBg.eq_2] at h;refine noS ?_;refine kC (gP ?_);refine goL ?_;obtain⟨g5,h⟩:=mI h;refine wC (hSg g5) ?_;refine goL ?_;refine wC (gV q (gN4 ac)) ?_;refine goL ?_;refine wC (gD (gC5 (y.take (Int.toNat (q:Int))) x4)) ?_;refine goC h ?_ ?_<;>intro c6 h
  ·exact goR h
  ·refine goS ?_;refine gX (jK q (by omega)) ?_;exact⟨(q+1),h,by omega,eJ⟩
 ·have f:=qC c3;rw [gT f,gBg.eq_1] at h;refine goX ?_;refine jH ?_;cases h;exact mM
def gM6(f:gF→Int→Option (Int))(a0:gF):Nat→Int→Int→Option (Int)
 | 0,q,y=>none
 | n3+1,q,y=>lt_ (cnd (decide (y < (a0.args.length:Int))) (decide (q≥0)) (false)) fun b4=>
(cnd b4 (
bnd (at? a0.args y) fun x7=>
bnd (f x7 q) fun x8=>
gM6 f a0 n3 x8 (IntKind.i64.wrap (y+1))) (some q))
def gY1(f:gF→Int→Option (Int))(q:gF)(a1:Int)(y:Nat):Option (Int):=
gM6 f q y (IntKind.i64.wrap (a1 - 1)) 0
theorem hO9{f:gF→Int→Option (Int)}(q:∀(x0:gF)(x1:Int){r:Int},f x0 x1=some r→gW Tryz.prog 219 [.d (kT x0),.I x1] [.i .i64 r])(a0:gF)(a1:Int){n0:Nat}{r:Int}(h:gY1 f a0 a1 n0=some r):gW Tryz.prog 219 [.d (kT a0),.I a1] [.i .i64 r]:=by
 obtain⟨y,aa,ab⟩:=a0;unfold gY1 at h;refine SpI Tryz.func219 fun A _=>?_;refine goL ?_;refine gX (pR) ?_;refine noB ?_;refine kQ (fun(n3:Nat)(y1:Int)(y2:Int)=>⟨[(1,.I y1),(2,.ptr 0 0),(5,.I y2)],[bTy y aa ab],Tryz.f219.ntmps⟩) (fun n3 y1 y2=>gM6 f (gF.mk y aa ab) n3 y1 y2=some r) (fun n3 y1 y2=>n3) n0 (IntKind.i64.wrap (a1 - 1)) 0 eJ h ?_;rintro n3 y1 y2 h;rcases n3 with _ | n3
 ·cases h
 rw [gM6.eq_2] at h;refine goL ?_;obtain⟨b4,hb4,h⟩:=pI h;refine kG ⟨[(1,.I y1),(2,.ptr 0 0),(5,.I y2),(16,.B b4)],[bTy y aa ab],Tryz.f219.ntmps⟩ ?_ ?_
 ·exact gqZ 13 hb4
 refine goC h ?_ ?_<;>intro c6 h
 ·refine noS ?_;refine kC (gP ?_);refine goL ?_;obtain⟨x7,ae,h⟩:=gK h;obtain⟨ah,ae⟩:=yY ae;obtain⟨an,ao,ap⟩:=x7;refine gX (kY ah (gAw ae)) ?_;obtain⟨x8,aj,h⟩:=gK h;refine gX (gD (q _ _ aj)) ?_;refine gX (pR) ?_;exact⟨n3,x8,(IntKind.i64.wrap (y2+1)),h,Nat.lt_succ_self _,eJ⟩
 ·refine goX ?_;refine jH ?_;cases h;exact mM
def gY2:Nat→gF→Int→Option (Int)
 | 0,_,_=>none
 | n+1,f,q=>gY1 (gY2 n) f q n
theorem hPa:∀(n:Nat)(f:gF)(q:Int){r:Int},gY2 n f q=some r→gW Tryz.prog 219 [.d (kT f),.I q] [.i .i64 r]:=by
 intro n
 induction n with
 | zero=>intro f q r h;cases h
 | succ n ih=>intro f q r h;exact hO9 ih f q h
def gKa(f:LB):Bool:=
lt_ (cnd (f==[105,110,116]) (true) (f==[98,111,111,108])) fun q=>
q
theorem gRc(f:LB):gW Tryz.prog 130 [.S f] [.b (gKa f)]:=by
 obtain⟨r,h⟩:∃r,gKa f=r:=⟨_,rfl⟩
 rw [h];unfold gKa at h;refine SpI Tryz.func130 fun A _=>?_;refine goL ?_;obtain⟨q,hb1,h⟩:=pI h;refine kG ⟨[(2,.B q)],[],Tryz.f130.ntmps⟩ ?_ ?_
 ·exact gqZ 5 hb1
 refine goL ?_;refine jH ?_;subst h;exact mM
def gLo(f:gY→Int→Option (Int))(a0:gY):Nat→Int→Int→Option (Int)
 | 0,y,q=>none
 | ab+1,y,q=>lt_ (cnd (decide (q < (a0.arms.length:Int))) (decide (y≥0)) (false)) fun ac=>
(cnd ac (
bnd (at? a0.arms q) fun ad=>
bnd (f ad.body y) fun ae=>
gLo f a0 ab ae (IntKind.i64.wrap (q+1))) (some y))
def gLp(f:gY→Int→Option (Int))(q:gY)(n0:Nat):Nat→Int→Int→Option (Int)
 | 0,y,y2=>none
 | n3+1,y,y2=>lt_ (cnd (decide (y2 < (q.args.length:Int))) (decide (y≥0)) (false)) fun b4=>
(cnd b4 (
bnd (at? q.args y2) fun x7=>
bnd (f x7 y) fun x8=>
gLp f q n0 n3 x8 (IntKind.i64.wrap (y2+1))) (
gLo f q n0 y 0))
def gVj(f:gY→Int→Option (Int))(y:gY)(a1:Int)(q:Nat):Option (Int):=
gLp f y q q (IntKind.i64.wrap (a1 - 1)) 0
theorem hJf{f:gY→Int→Option (Int)}(ab:∀(x0:gY)(x1:Int){r:Int},f x0 x1=some r→gW Tryz.prog 117 [.d (vX x0),.I x1] [.i .i64 r])(a0:gY)(a1:Int){n0:Nat}{r:Int}(h:gVj f a0 a1 n0=some r):gW Tryz.prog 117 [.d (vX a0),.I a1] [.i .i64 r]:=by
 obtain⟨ac,ad,ae,ag,⟨q,y,aa⟩,ah,ai⟩:=a0;unfold gVj at h;refine SpI Tryz.func117 fun A _=>?_;refine goL ?_;refine gX (pR) ?_;refine noB ?_;refine kQ (fun(n3:Nat)(y1:Int)(y2:Int)=>⟨[(1,.I y1),(2,.ptr 0 0),(5,.I y2)],[bEx ac ad ae ag q y aa ah ai],Tryz.f117.ntmps⟩) (fun n3 y1 y2=>gLp f (gY.mk ac ad ae ag (gF.mk q y aa) ah ai) n0 n3 y1 y2=some r) (fun n3 y1 y2=>n3) n0 (IntKind.i64.wrap (a1 - 1)) 0 eJ h ?_;rintro n3 y1 y2 h;rcases n3 with _ | n3
 ·cases h
 rw [gLp.eq_2] at h;refine goL ?_;obtain⟨b4,hb4,h⟩:=pI h;refine kG ⟨[(1,.I y1),(2,.ptr 0 0),(5,.I y2),(17,.B b4)],[bEx ac ad ae ag q y aa ah ai],Tryz.f117.ntmps⟩ ?_ ?_
 ·exact gqZ 14 hb4
 refine goC h ?_ ?_<;>intro c6 h
 ·refine noS ?_;refine kC (gP ?_);refine goL ?_;obtain⟨x7,ap,h⟩:=gK h;obtain⟨ax,ap⟩:=yY ap;obtain⟨bl,bm,bn,bo,⟨a9,ba,bb⟩,bp,bq⟩:=x7;refine gX (kY ax (gO4 ap)) ?_;obtain⟨x8,bd,h⟩:=gK h;refine gX (gD (ab _ _ bd)) ?_;refine gX (pR) ?_;exact⟨n3,x8,(IntKind.i64.wrap (y2+1)),h,Nat.lt_succ_self _,eJ⟩
 ·refine goX ?_;refine noB ?_;refine kQ (fun(aj:Nat)(y9:Int)(ak:Int)=>⟨[(1,.I y9),(2,.ptr 0 0),(6,.I ak)],[bEx ac ad ae ag q y aa ah ai],Tryz.f117.ntmps⟩) (fun aj y9 ak=>gLo f (gY.mk ac ad ae ag (gF.mk q y aa) ah ai) aj y9 ak=some r) (fun aj y9 ak=>aj) n0 y1 0 eJ h ?_;rintro aj y9 ak h;rcases aj with _ | aj
  ·cases h
  rw [gLo.eq_2] at h;refine goL ?_;obtain⟨be,hb12,h⟩:=pI h;refine kG ⟨[(1,.I y9),(2,.ptr 0 0),(6,.I ak),(35,.B be)],[bEx ac ad ae ag q y aa ah ai],Tryz.f117.ntmps⟩ ?_ ?_
  ·exact gqZ 32 hb12
  refine goC h ?_ ?_<;>intro bv h
  ·refine noS ?_;refine kC (gP ?_);refine goL ?_;obtain⟨bf,al,h⟩:=gK h;obtain⟨aq,al⟩:=yY al;obtain⟨bg,bh,⟨ay,a2,a3,a4,⟨ar,au,av⟩,a5,a6⟩⟩:=bf;refine gX (kY aq (gYd al)) ?_;obtain⟨bi,a7,h⟩:=gK h;refine gX (gD (ab _ _ a7)) ?_;refine gX (pR) ?_;exact⟨aj,bi,(IntKind.i64.wrap (ak+1)),h,Nat.lt_succ_self _,eJ⟩
  ·refine goX ?_;refine jH ?_;cases h;exact mM
def gVk:Nat→gY→Int→Option (Int)
 | 0,_,_=>none
 | n+1,f,q=>gVj (gVk n) f q n
theorem hJg:∀(n:Nat)(f:gY)(q:Int){r:Int},gVk n f q=some r→gW Tryz.prog 117 [.d (vX f),.I q] [.i .i64 r]:=by
 intro n
 induction n with
 | zero=>intro f q r h;cases h
 | succ n ih=>intro f q r h;exact hJf ih f q h
def gKb(f:Int):Bool × Bool × Bool × Bool × Int × Bool:=
(cnd (f==1) (false,false,true,false,0,false) (cnd (f==2) (false,false,true,false,0,false) (cnd (f==3) (false,true,false,false,0,false) (cnd (f==4) (false,true,false,false,(-1),false) (cnd (f==6) (false,true,false,false,(-1),false) (cnd (f==5) (true,true,false,false,(-1),false) (cnd (f==7) (false,false,false,false,1,true) (cnd (f==8) (false,true,false,false,2,false) (cnd (f==10) (false,true,false,false,2,false) (cnd (f==9) (false,false,false,false,3,false) (cnd (f==11) (true,false,false,false,1,false) (false,false,false,true,1,false))))))))))))
theorem hPb(f:Int):gW Tryz.prog 166 [.I f] [.b (gKb f).1,.b (gKb f).2.1,.b (gKb f).2.2.1,.b (gKb f).2.2.2.1,.i .i64 (gKb f).2.2.2.2.1,.b (gKb f).2.2.2.2.2]:=by
 obtain⟨r,h⟩:∃r,gKb f=r:=⟨_,rfl⟩
 rw [h];unfold gKb at h;refine SpI Tryz.func166 fun A _=>?_;refine goL ?_;refine gP ?_;refine goC h ?_ ?_<;>intro c1 h
 ·refine noS ?_;refine kN (fun c2=>?_) (fun c2=>?_)
  ·refine goL ?_;refine jH ?_;subst h;exact mM
  ·exact absurd (c1.symm.trans c2) (by decide)
 ·refine goC h ?_ ?_<;>intro c3 h
  ·refine goL ?_;refine jH ?_;subst h;exact mM
  ·refine goC h ?_ ?_<;>intro c4 h
   ·refine goL ?_;refine jH ?_;subst h;exact mM
   ·refine goC h ?_ ?_<;>intro c5 h
    ·refine noS ?_;refine kN (fun c6=>?_) (fun c6=>?_)
     ·refine goL ?_;refine jH ?_;subst h;exact mM
     ·exact absurd (c5.symm.trans c6) (by decide)
    ·refine goC h ?_ ?_<;>intro c7 h
     ·refine goL ?_;refine jH ?_;subst h;exact mM
     ·refine goC h ?_ ?_<;>intro c8 h
      ·refine goL ?_;refine jH ?_;subst h;exact mM
      ·refine goC h ?_ ?_<;>intro c9 h
       ·refine goL ?_;refine jH ?_;subst h;exact mM
       ·refine goC h ?_ ?_<;>intro y h
        ·refine noS ?_;refine kN (fun q=>?_) (fun q=>?_)
         ·refine goL ?_;refine jH ?_;subst h;exact mM
         ·exact absurd (y.symm.trans q) (by decide)
        ·refine goC h ?_ ?_<;>intro ae h
         ·refine goL ?_;refine jH ?_;subst h;exact mM
         ·refine goC h ?_ ?_<;>intro ag h
          ·refine goL ?_;refine jH ?_;subst h;exact mM
          ·refine goC h ?_ ?_<;>intro ah h
           ·refine goL ?_;refine jH ?_;subst h;exact mM
           ·refine goS ?_;refine jH ?_;subst h;exact mM
def gRd(f:LB):Bool:=
(wM [[43],[45],[42],[60],[61]] f)
theorem hJh(f:LB):gW Tryz.prog 167 [.S f] [.b (gRd f)]:=by
 obtain⟨r,h⟩:∃r,gRd f=r:=⟨_,rfl⟩
 rw [h];unfold gRd at h;refine SpI Tryz.func167 fun A _=>?_;refine goL ?_;refine gPb (us:=kD [[43],[45],[42],[60],[61]]) ?_;refine goL ?_;refine gC1 (gUn (gC5 [[43],[45],[42],[60],[61]] f)) ?_;refine jH ?_;subst h;exact mM
def gAp(f:gF):Bool:=
lt_ (cnd (f.kind==0) (cnd (f.name==[]) ((f.args.length:Int)==0) (false)) (false)) fun q=>
q
theorem gDm(a0:gF):gW Tryz.prog 169 [.d (kT a0)] [.b (gAp a0)]:=by
 obtain⟨r,h⟩:∃r,gAp a0=r:=⟨_,rfl⟩
 rw [h];obtain⟨f,q,y⟩:=a0;unfold gAp at h;refine SpI Tryz.func169 fun A _=>?_;refine goL ?_;obtain⟨b1,hb1,h⟩:=pI h;refine kG ⟨[(2,.B b1)],[bTy f q y],Tryz.f169.ntmps⟩ ?_ ?_
 ·refine uJ 6 (fun c2=>?_) (fun c2=>?_) (by first | rfl | (simp only [jG,gQ];rfl))
  ·replace hb1:=jU c2 hb1;refine goL ?_;refine uJ 11 (fun c3=>?_) (fun c3=>?_) (by first | rfl | (simp only [jG,gQ];rfl))
   ·replace hb1:=jU c3 hb1;refine goL ?_;cases hb1;exact⟨rfl,⟨⟨by first | rfl | (simp only [jG,gQ];rfl),rfl⟩,trivial⟩,⟨_,rfl⟩,rfl⟩
   ·replace hb1:=jV c3 hb1;refine goL ?_;cases hb1;exact⟨rfl,⟨⟨by first | rfl | (simp only [jG,gQ];rfl),rfl⟩,trivial⟩,⟨_,rfl⟩,rfl⟩
  ·replace hb1:=jV c2 hb1;refine goL ?_;cases hb1;exact⟨rfl,⟨⟨by first | rfl | (simp only [jG,gQ];rfl),rfl⟩,trivial⟩,⟨_,rfl⟩,rfl⟩
 refine goL ?_;refine jH ?_;subst h;exact mM
def gIx(f:gY→LS→LS→Option LS)(bound:LS):List gJs→LS→Option LS
 | [],q=>(some q)
 | y::xs,q=>gd (([]:LS).length+bound.length≤4294967296) (
gd (([]++bound).length+y.vars.length≤4294967296) (
bnd (f y.body (([]++bound)++y.vars) q) fun aa=>
gIx f bound xs aa))
def gIy(f:gY→LS→LS→Option LS)(e:gY)(bound:LS):List gY→Nat→LS→Option LS
 | [],q,y8=>gIx f bound e.arms y8
 | y::xs,q,y8=>bnd (lt_ (cnd (e.kind==8) ((q:Int)==1) (false)) fun ab=>
(cnd ab (
gd (([]:LS).length+bound.length≤4294967296) (
gd (([]++bound).length+[e.name].length≤4294967296) (
bnd (f y (([]++bound)++[e.name]) y8) fun ac=>
some ac))) (
bnd (f y bound y8) fun ad=>
some ad))) fun ae=>
gIy f e bound xs (q+1) ae
def gVl(f:gY→LS→LS→Option LS)(e:gY)(bound:LS)(q:LS):Option LS:=
lt_ (cnd (e.kind==3) (cnd (!(wM bound e.name)) (!(wM q e.name)) (false)) (false)) fun y=>
bnd (cnd y (
gd (q.length+[e.name].length≤4294967296) (some (q++[e.name]))) (some q)) fun b4=>
gIy f e bound e.args 0 b4
theorem hJi{f:gY→LS→LS→Option LS}(q:∀(x0:gY)(x1:LS)(x2:LS)(w0:Nat){r:LS},f x0 x1 x2=some r→Go.Eng.Spec Tryz.prog 283 [.d (vX x0),.L 1 (kD x1),.sl 0 w0] [.own 9 1 w0 (kD x2)] (fun sv Lo=>∃v'0,sv=.sl 0 v'0∧Lo=[.own 9 1 v'0 (kD r)]))(e:gY)(bound:LS)(l0:LS)(v0:Nat){r:LS}(h:gVl f e bound l0=some r):Go.Eng.Spec Tryz.prog 283 [.d (vX e),.L 1 (kD bound),.sl 0 v0] [.own 9 1 v0 (kD l0)] (fun sv Lo=>∃v'0,sv=.sl 0 v'0∧Lo=[.own 9 1 v'0 (kD r)]):=by
 obtain⟨ah,ai,ac,aj,⟨y,aa,ab⟩,ae,ag⟩:=e;unfold gVl at h;refine pK 1 Tryz.func283 rfl (by kernel_rfl) rfl rfl fun A _=>?_;refine goL ?_;obtain⟨b1,hb1,h⟩:=pI h;refine kG ⟨[(1,.L 1 (kD bound)),(2,.sl 0 v0),(3,.ptr 1 0),(26,.B b1)],[.own 9 1 v0 (kD l0),bEx ah ai ac aj y aa ab ae ag],Tryz.f283.ntmps⟩ ?_ ?_
 ·refine gqA 13 hb1 (fun c2 hb1=>?_);refine gX (gD (gC5 bound ac)) ?_;refine gqA 20 hb1 (fun c3 hb1=>?_);refine gC1 (gUn (gC5 l0 ac)) ?_;cases hb1;exact eJ
 refine goL ?_;obtain⟨b4,hb4,h⟩:=gK h;refine gTa (fun v5=>⟨[(1,.L 1 (kD bound)),(2,.sl 0 v5),(3,.ptr 1 0)],[.own 9 1 v5 (kD b4),bEx ah ai ac aj y aa ab ae ag],Tryz.f283.ntmps⟩) ?_ (fun v5=>?_)
 ·refine kN (fun c6=>?_) (fun c6=>?_)
  ·replace hb4:=jU c6 hb4;refine goL ?_;refine gAz ac ?_;obtain⟨g7,hb4⟩:=mI hb4;refine gDj g7 ?_;refine goL ?_;cases hb4;exact⟨(v0+1),eJ⟩
  ·replace hb4:=jV c6 hb4;refine gCs ?_;cases hb4;exact⟨v0,eJ⟩
 refine goL ?_;refine noB ?_;refine pG 1 7 (fun cj=>?_);refine kQ (fun(ad:Nat)(y8:LS)(v9:Nat)=>⟨[(1,.L 1 (kD bound)),(2,.sl 0 v9),(3,.ptr 1 0),(7,.N ad)],[.own 9 1 v9 (kD y8),bEx ah ai ac aj y aa ab ae ag],Tryz.f283.ntmps⟩) (fun ad y8 v9=>gIy f (gY.mk ah ai ac aj (gF.mk y aa ab) ae ag) bound (ae.drop ad) ad y8=some r) (fun ad y8 v9=>ae.length - ad) 0 b4 v5 eJ h ?_;rintro ad y8 v9 h;refine goL ?_;refine kN (fun bh=>?_) (fun bh=>?_)
 ·have al:=qB bh;obtain⟨b0,bf,bi⟩:=drop_at al;rw [bi,gIy.eq_2] at h;obtain⟨ax,ay,a0,a2,⟨an,ao,ap⟩,a3,a4⟩:=b0;refine noS ?_;refine kC ?_;obtain⟨bq,hb14,h⟩:=gK h;refine gTa (fun be=>⟨[(1,.L 1 (kD bound)),(2,.sl 0 be),(3,.ptr 1 0),(7,.N ad)],[.own 9 1 be (kD bq),bEx ah ai ac aj y aa ab ae ag],Tryz.f283.ntmps⟩) ?_ (fun be=>?_)
  ·refine gP ?_;refine goL ?_;obtain⟨b2,hb16,hb14⟩:=pI hb14;refine kG ⟨[(1,.L 1 (kD bound)),(2,.sl 0 v9),(3,.ptr 1 0),(7,.N ad),(8,.L 1 (kD bound)),(46,.B b2)],[.own 9 1 v9 (kD y8),bEx ah ai ac aj y aa ab ae ag],Tryz.f283.ntmps⟩ ?_ ?_
   ·exact gqZ 43 hb16
   refine goL ?_;refine kN (fun bj=>?_) (fun bj=>?_)
   ·replace hb14:=jU bj hb14;refine dZ 1 ?_;refine goW ?_;refine gTb ?_;refine goW ?_;obtain⟨b3,hb14⟩:=mI hb14;refine uL b3 ?_;refine goW ?_;refine uK (us:=kD [ac]) ?_;obtain⟨b5,hb14⟩:=mI hb14;refine uL b5 ?_;refine goW ?_;refine jY ?_;refine goL ?_;refine gX (gV ad (gO4 bf)) ?_;refine qV 2 rfl rfl ?_;obtain⟨b6,br,hb14⟩:=gK hb14;refine gLg [0] (q (gY.mk ax ay a0 a2 (gF.mk an ao ap) a3 a4) (([]++bound)++[ac]) y8 v9 br) ?_;rintro _ _ ⟨bk,rfl,rfl⟩;show VO _ _ _ _ ⟨(_,.sl 0 bk)::_,[.own 9 1 bk (kD b6),bEx ah ai ac aj y aa ab ae ag,.frz 9 1 ((1+1)+1) (kD (([]++bound)++[ac]))],_⟩ _;refine goL ?_;cases hb14;exact⟨bk,eJ⟩
   ·replace hb14:=jV bj hb14;refine goS ?_;refine gX (gV ad (gO4 bf)) ?_;obtain⟨b7,bt,hb14⟩:=gK hb14;refine gLg [0] (q (gY.mk ax ay a0 a2 (gF.mk an ao ap) a3 a4) bound y8 v9 bt) ?_;rintro _ _ ⟨bl,rfl,rfl⟩;show VO _ _ _ _ ⟨(_,.sl 0 bl)::_,[.own 9 1 bl (kD b7),bEx ah ai ac aj y aa ab ae ag],_⟩ _;refine goL ?_;cases hb14;exact⟨bl,eJ⟩
  refine goL ?_;refine gX (jK ad (by omega)) ?_;exact⟨(ad+1),bq,be,h,by omega,eJ⟩
 ·have al:=qC bh;rw [gT al,gIy.eq_1] at h;refine goX ?_;refine noB ?_;refine pG 1 8 (fun ck=>?_);refine kQ (fun(ak:Nat)(aw:LS)(aq:Nat)=>⟨[(1,.L 1 (kD bound)),(2,.sl 0 aq),(3,.ptr 1 0),(9,.N ak)],[.own 9 1 aq (kD aw),bEx ah ai ac aj y aa ab ae ag],Tryz.f283.ntmps⟩) (fun ak aw aq=>gIx f bound (ag.drop ak) aw=some r) (fun ak aw aq=>ag.length - ak) 0 y8 v9 eJ h ?_;rintro ak aw aq h;refine goL ?_;refine kN (fun bm=>?_) (fun bm=>?_)
  ·have am:=qB bm;obtain⟨b8,bg,bn⟩:=drop_at am;rw [bn,gIx.eq_2] at h;obtain⟨b9,a5,⟨a6,a7,a8,a9,⟨ar,au,av⟩,ba,bb⟩⟩:=b8;refine noS ?_;refine kC (gP ?_);refine gMh (P:=Tryz.prog) Mix.h [(0,true),(1,true),(2,true),(3,true),(4,true),(5,true),(7,true),(9,true),(10,true),(11,true),(12,true),(13,true),(14,true),(16,true),(6,false),(8,false),(15,false),(17,false),(18,true)] (by kernel_rfl) ?_;refine goY ?_;refine zL rfl (gV ak (gYd bg)) ?_;refine goY ?_;refine zL rfl (gV ak (gYd bg)) ?_;refine goY ?_;refine jEu ?_;obtain⟨ca,h⟩:=mI h;refine hUd (T:=38) ca ?_;obtain⟨cb,h⟩:=mI h;refine hUd (T:=38) cb ?_;refine hUk 2 rfl rfl ?_;obtain⟨bu,bv,h⟩:=gK h;refine gWz [0] (q (gY.mk a6 a7 a8 a9 (gF.mk ar au av) ba bb) (([]++bound)++a5) aw aq bv) ?_;rintro _ _ ⟨bo,rfl,rfl⟩;refine gTs (sv:=.sl 0 bo) (L':=[.own 9 1 bo (kD bu),bEx ah ai ac aj y aa ab ae ag,.frz 9 1 ((0+1)+1) (kD (([]++bound)++a5))]) (by repeat(first | exact gDf.nil | (apply gDf.keep;focus ((repeat constructor);done)) | (apply gDf.dep;focus kernel_rfl))) ?_;refine goY ?_;refine gD5 ?_;refine goL ?_;refine gX (jK ak (by omega)) ?_;exact⟨(ak+1),bu,bo,h,by omega,eJ⟩
  ·have am:=qC bm;rw [gT am,gIx.eq_1] at h;refine goX ?_;refine jH ?_;obtain rfl:=Option.some.inj h;exact gHr [.sl 0 aq] _ ⟨aq,rfl,rfl⟩
def gVm:Nat→gY→LS→LS→Option LS
 | 0,_,_,_=>none
 | n+1,f,q,y=>gVl (gVm n) f q y
theorem hJj:∀(n:Nat)(f:gY)(q:LS)(y:LS)(w0:Nat){r:LS},gVm n f q y=some r→Go.Eng.Spec Tryz.prog 283 [.d (vX f),.L 1 (kD q),.sl 0 w0] [.own 9 1 w0 (kD y)] (fun sv Lo=>∃v'0,sv=.sl 0 v'0∧Lo=[.own 9 1 v'0 (kD r)]):=by
 intro n
 induction n with
 | zero=>intro f q y w0 r h;cases h
 | succ n ih=>intro f q y w0 r h;exact hJi ih f q y w0 h
def gGi(a1:LS):LS→Nat→Option (Bool)
 | [],f=>(some true)
 | q::xs,f=>bnd (at? a1 (f:Int)) fun y=>
(cnd (!(q==y)) (some false) (
gGi a1 xs (f+1)))
def gSo(f:LS)(a1:LS):Option (Bool):=
(cnd ((f.length:Int) !=(a1.length:Int)) (some false) (
gGi a1 f 0))
theorem hHh(y:LS)(a1:LS){r:Bool}(h:gSo y a1=some r):gW Tryz.prog 285 [.L 1 (kD y),.L 1 (kD a1)] [.b r]:=by
 unfold gSo at h;refine SpI Tryz.func285 fun A _=>?_;refine goC h ?_ ?_<;>intro c1 h
 ·exact goR h
 ·refine goS ?_;refine noB ?_;refine gB0 0 (fun z3=>?_);refine kZ (fun(q:Nat)=>⟨[(0,.L 1 (kD y)),(1,.L 1 (kD a1)),(5,.N q)],[],Tryz.f285.ntmps⟩) (fun q=>gGi a1 (y.drop q) q=some r) (fun q=>y.length - q) 0 eJ h ?_;rintro q h;refine goL ?_;refine kN (fun c4=>?_) (fun c4=>?_)
  ·have f:=qB c4;obtain⟨x5,ad,aa⟩:=drop_at f;rw [aa,gGi.eq_2] at h;refine noS ?_;refine kC (gP ?_);refine goL ?_;refine wC (gV q (gN4 ad)) ?_;refine goL ?_;obtain⟨x6,ab,h⟩:=gK h;rw [gBb] at ab;refine wC (gV q (gN4 ab)) ?_;refine goC h ?_ ?_<;>intro c7 h
   ·exact goR h
   ·refine goS ?_;refine gX (jK q (by omega)) ?_;exact⟨(q+1),h,by omega,eJ⟩
  ·have f:=qC c4;rw [gT f,gGi.eq_1] at h;refine goX ?_;refine jH ?_;cases h;exact mM
def mZ(f:LB):gH:=
(gH.mk f [])
theorem pO(f:LB):gW Tryz.prog 251 [.S f] [qL (mZ f)]:=by
 obtain⟨r,h⟩:∃r,mZ f=r:=⟨_,rfl⟩
 rw [h];unfold mZ at h;refine SpI Tryz.func251 fun A _=>?_;refine goL ?_;refine gC1 (jI TBd.h TZ.h rfl (by repeat constructor)) ?_;refine jH ?_;subst h;exact mM
def wP(f:gF→LB→Option (Int))(a1:LB):List gF→Int→Option (Int)
 | [],q=>(some q)
 | x9::xs,q=>bnd (f x9 a1) fun y=>
wP f a1 xs (IntKind.i64.wrap (q+y))
def gEu(f:gF→LB→Option (Int))(q:gF)(a1:LB):Option (Int):=
lt_ (cnd (q.kind==1) (q.name==a1) (false)) fun y=>
bnd (cnd y (some 1) (some 0)) fun b3=>
wP f a1 q.args b3
theorem gP6{f:gF→LB→Option (Int)}(q:∀(x0:gF)(x1:LB){r:Int},f x0 x1=some r→gW Tryz.prog 217 [.d (kT x0),.S x1] [.i .i64 r])(a0:gF)(a1:LB){r:Int}(h:gEu f a0 a1=some r):gW Tryz.prog 217 [.d (kT a0),.S a1] [.i .i64 r]:=by
 obtain⟨ab,ac,y⟩:=a0;unfold gEu at h;refine SpI Tryz.func217 fun A _=>?_;refine goL ?_;obtain⟨b1,hb1,h⟩:=pI h;refine kG ⟨[(1,.S a1),(2,.ptr 0 0),(5,.I 0),(15,.B b1)],[bTy ab ac y],Tryz.f217.ntmps⟩ ?_ ?_
 ·exact gqZ 10 hb1
 refine goL ?_;obtain⟨b3,hb3,h⟩:=gK h;refine gHf ⟨[(1,.S a1),(2,.ptr 0 0),(5,.I b3)],[bTy ab ac y],Tryz.f217.ntmps⟩ ?_ ?_
 ·refine kN (fun c4=>?_) (fun c4=>?_)
  ·replace hb3:=jU c4 hb3;refine goL ?_;cases hb3;exact eJ
  ·replace hb3:=jV c4 hb3;refine gCs ?_;cases hb3;exact eJ
 refine goL ?_;refine noB ?_;refine pG 0 2 (fun z7=>?_);refine gAg (fun(y6:Nat)(y5:Int)=>⟨[(1,.S a1),(2,.ptr 0 0),(5,.I y5),(6,.N y6)],[bTy ab ac y],Tryz.f217.ntmps⟩) (fun y6 y5=>wP f a1 (y.drop y6) y5=some r) (fun y6 y5=>y.length - y6) 0 b3 eJ h ?_;rintro y6 y5 h;refine goL ?_;refine kN (fun c8=>?_) (fun c8=>?_)
 ·have aa:=qB c8;obtain⟨x9,al,ag⟩:=drop_at aa;rw [ag,wP.eq_2] at h;obtain⟨aq,ar,au⟩:=x9;refine noS ?_;refine kC (gP ?_);refine goL ?_;refine gX (gV y6 (gAw al)) ?_;obtain⟨am,ah,h⟩:=gK h;refine pX (gD (q _ _ ah)) ?_;refine gX (pR) ?_;refine gX (jK y6 (by omega)) ?_;exact⟨(y6+1),(IntKind.i64.wrap (y5+am)),h,by omega,eJ⟩
 ·have aa:=qC c8;rw [gT aa,wP.eq_1] at h;refine goX ?_;refine jH ?_;cases h;exact mM
def zD:Nat→gF→LB→Option (Int)
 | 0,_,_=>none
 | n+1,f,q=>gEu (zD n) f q
theorem gEv:∀(n:Nat)(f:gF)(q:LB){r:Int},zD n f q=some r→gW Tryz.prog 217 [.d (kT f),.S q] [.i .i64 r]:=by
 intro n
 induction n with
 | zero=>intro f q r h;cases h
 | succ n ih=>intro f q r h;exact gP6 ih f q h
def uS(f:gF→Option (Bool))(q:gF):List gF→Option (Bool)
 | []=>(some (q.kind==3))
 | y::xs=>bnd (f y) fun x5=>
(cnd x5 (some true) (
uS f q xs ))
def gFi(f:gF→Option (Bool))(q:gF):Option (Bool):=
uS f q q.args
theorem gTx{f:gF→Option (Bool)}(q:∀(x0:gF){r:Bool},f x0=some r→gW Tryz.prog 242 [.d (kT x0)] [.b r])(a0:gF){r:Bool}(h:gFi f a0=some r):gW Tryz.prog 242 [.d (kT a0)] [.b r]:=by
 obtain⟨ac,ad,aa⟩:=a0;unfold gFi at h;refine SpI Tryz.func242 fun A _=>?_;refine goL ?_;refine noB ?_;refine pG 0 2 (fun z2=>?_);refine kZ (fun(y1:Nat)=>⟨[(1,.ptr 0 0),(3,.N y1)],[bTy ac ad aa],Tryz.f242.ntmps⟩) (fun y1=>uS f (gF.mk ac ad aa) (aa.drop y1)  =some r) (fun y1=>aa.length - y1) 0 eJ h ?_;rintro y1 h;refine goL ?_;refine kN (fun c3=>?_) (fun c3=>?_)
 ·have y:=qB c3;obtain⟨x4,ai,ae⟩:=drop_at y;rw [ae,uS.eq_2] at h;obtain⟨am,an,ao⟩:=x4;refine noS ?_;refine kC (gP ?_);refine goL ?_;refine gX (gV y1 (gAw ai)) ?_;obtain⟨x5,aj,h⟩:=gK h;refine gX (gD (q _ aj)) ?_;refine kN (fun c6=>?_) (fun c6=>?_)
  ·replace h:=jU c6 h;exact goR h
  ·replace h:=jV c6 h;refine goS ?_;refine gX (jK y1 (by omega)) ?_;exact⟨(y1+1),h,by omega,eJ⟩
 ·have y:=qC c3;rw [gT y,uS.eq_1] at h;refine goX ?_;refine jH ?_;cases h;exact mM
def wT:Nat→gF→Option (Bool)
 | 0,_=>none
 | n+1,f=>gFi (wT n) f
theorem gJ0:∀(n:Nat)(f:gF){r:Bool},wT n f=some r→gW Tryz.prog 242 [.d (kT f)] [.b r]:=by
 intro n
 induction n with
 | zero=>intro f r h;cases h
 | succ n ih=>intro f r h;exact gTx ih f h
end Go.Proofs.YtfjncckelekpiaaGreat
