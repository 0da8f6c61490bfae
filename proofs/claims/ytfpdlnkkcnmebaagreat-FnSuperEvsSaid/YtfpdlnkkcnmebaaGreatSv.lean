import Derived.Test.YtfpdlnkkcnmebaaGreatUn1
import Derived.Lib.ItoaLen
import Derived.Lib.AppendIntMem
import Derived.Lib.ItoaNum
set_option linter.unusedVariables false
set_option linter.unusedSimpArgs false
namespace Go.Proofs.YtfpdlnkkcnmebaaGreat
open Go Go.Eng Go.RowKit
attribute [local irreducible] V VO VQ VY Quiet QR jF mJ Rng qI qJ qB
instance (n:Int):Decidable (gHz n):=inferInstanceAs (Decidable (_∧_))
def dgs(u:Nat):LB:=if u=0 then [] else Lib.decDigits u
theorem hFw{u:Nat}(h:u≠0):dgs u=dgs (u / 10)++[UInt8.ofNat (48+u % 10)]:=by
 unfold dgs;rw [if_neg h,Lib.decDigits];by_cases c:u < 10
 ·rw [dif_pos c,if_pos (by omega),Nat.mod_eq_of_lt c];rfl
 ·rw [dif_neg c,if_neg (by omega)]
theorem hJj{n:Int}(h:gHz n):(dgs n.natAbs).length≤21:=by
 unfold dgs;split
 ·simp
 ·have:=Lib.itoa_length_le n h.1 h.2
  unfold Lib.itoa at this;split at this
  ·simp at this;omega
  ·have e:n.natAbs=n.toNat:=by omega
   rw [e];exact this
theorem itoa_neg{n:Int}(h:n < 0):Lib.itoa n=45::dgs n.natAbs:=by unfold Lib.itoa dgs;rw [if_pos h,if_neg (by omega)]
theorem hFx{n:Int}(h:0 < n):Lib.itoa n=dgs n.natAbs:=by unfold Lib.itoa dgs;rw [if_neg (by omega),if_neg (by omega)];congr 1;omega
theorem hCv:Lib.itoa 0=[48]:=by unfold Lib.itoa;rw [if_neg (by omega),Lib.decDigits];rfl
theorem hCw{m:Int}(h:m.tmod 10 < 0):IntKind.i64.wrap (0 - m.tmod 10)=((m.natAbs % 10:Nat):Int):=by
 have e:m.tmod 10= -((m.natAbs % 10:Nat):Int):=by
  rcases Int.natAbs_eq m with c | c
  ·rw [c] at h
   have:=Int.tmod_nonneg (a:=(m.natAbs:Int)) 10 (by omega)
   omega
  ·conv=>lhs;rw [c]
   rw [Int.neg_tmod]
   have:((m.natAbs:Int)).tmod 10=((m.natAbs % 10:Nat):Int):=by rw [show (10:Int)=((10:Nat):Int)from rfl,←Int.ofNat_tmod];
   rw [this]
 rw [e,gAb _ (by omega) (by omega)];omega
theorem hCx{m:Int}(h:¬m.tmod 10 < 0):m.tmod 10=((m.natAbs % 10:Nat):Int):=by
 have key:((m.natAbs:Int)).tmod 10=((m.natAbs % 10:Nat):Int):=by rw [show (10:Int)=((10:Nat):Int)from rfl,←Int.ofNat_tmod]
 rcases Int.natAbs_eq m with c | c
 ·conv=>lhs;rw [c]
  exact key
 ·have e:m.tmod 10= -((m.natAbs % 10:Nat):Int):=by
   conv=>lhs;rw [c]
   rw [Int.neg_tmod,key]
  omega
theorem gTk(m:Int):(m.tdiv 10).natAbs=m.natAbs / 10:=by simp [Int.natAbs_tdiv];rfl
theorem gMv{m:Int}(h:gHz m):gHz (m.tdiv 10)∧IntKind.i64.wrap (m.tdiv 10)=m.tdiv 10:=by
 have:=gTk m
 have hr:gHz (m.tdiv 10):=by
  obtain⟨c,f⟩:=h;unfold gHz;omega
 exact⟨hr,gAb _ hr.1 hr.2⟩
theorem byte_of(u:Nat):UInt8.ofNat (IntKind.u8.wrap (IntKind.i64.wrap (48+((u % 10:Nat):Int)))).toNat=UInt8.ofNat (48+u % 10):=by
 have:u % 10 < 10:=Nat.mod_lt _ (by decide)
 generalize u % 10=k at this
 match k,this with
 | 0,_ | 1,_ | 2,_ | 3,_ | 4,_ | 5,_ | 6,_ | 7,_ | 8,_ | 9,_=>rfl
theorem round_eq{n m:Int}{out:LB}(hm:m≠0)(h:dgs n.natAbs=dgs m.natAbs++out):dgs n.natAbs=dgs (m.tdiv 10).natAbs++([UInt8.ofNat (48+m.natAbs % 10)]++out):=by
 rw [h,hFw (u:=m.natAbs) (by omega),gTk,List.append_assoc]
set_option maxHeartbeats 4000000 in
theorem gN7(n:Int)(hn:gHz n):jF Tryz.prog 236 [.d (.i .i64 n)] [.s (Lib.itoa n)]:=by
 refine gP2 Tryz.func236 rfl (by kernel_rfl) rfl fun A _=>?_;refine goL ?_;refine mQ (fun f=>?_) (fun f=>?_)
 ·have:n=0:=by simpa using f
  subst this;rw [hCv];refine goL ?_;refine jG ?_;exact uA
 refine yE ?_;show V _ _ _ _ _;have hn0:n≠0:=by simpa using f
 refine goL ?_;refine kH (jE ?_);refine qD (fun(x:Int × LB)=>⟨[(0,.d (.i .i64 x.1)),(2,.d (.s [])),(3,.d (.b (decide (n < 0)))),(4,.d (.s x.2))],[],Tryz.f236.ntmps⟩) (fun x=>gHz x.1∧dgs n.natAbs=dgs x.1.natAbs++x.2) (fun x=>x.1.natAbs) (n,[]) ⟨rfl,⟨⟨rfl,rfl⟩,⟨rfl,rfl⟩,⟨rfl,rfl⟩,⟨rfl,rfl⟩,trivial⟩,⟨_,rfl⟩,rfl⟩ ⟨hn,by simp⟩ ?_;rintro⟨m,out⟩ ⟨hr,hd⟩;have hl:=hJj hn;have hol:out.length≤21:=by rw [hd] at hl;simp at hl;omega
 dsimp only;refine goL ?_;refine mQ (fun h=>?_) (fun h=>?_)
 ·have hm:m≠0:=by simpa using h
  refine yE ?_;show V _ _ _ _ _;refine jE ?_;refine goL ?_;refine yS hL8 ?_;refine goL ?_;refine mQ (fun c=>?_) (fun c=>?_)
  ·have hd3:=hCw (of_decide_eq_true c);refine goL ?_;refine qM pV ?_;rw [hd3];refine goL ?_;refine qM pV ?_;refine goL ?_;refine yS (gWb rfl Tryz.underlying3 Tryz.underlying5) ?_;refine goL ?_;refine hLr (u:=.i .u8 _) ?_;refine yS (gXm rfl rfl Tryz.underlying22 Tryz.underlying5 Tryz.underlying9) ?_;rw [byte_of];refine goL ?_;refine qM (yG (a:=[_]) (b:=out) (by simp;omega)) ?_;refine goL ?_;refine yS (hG5 (gMv hr).2) ?_;refine goL ?_;exact⟨(m.tdiv 10,_),⟨(gMv hr).1,round_eq hm hd⟩,by have:=gTk m;simp only;omega,⟨rfl,⟨⟨rfl,rfl⟩,⟨rfl,rfl⟩,⟨rfl,rfl⟩,⟨rfl,rfl⟩,trivial⟩,⟨_,rfl⟩,rfl⟩⟩
  ·have hd3:=hCx (of_decide_eq_false c);refine yE ?_;show V _ _ _ _ _;refine goL ?_;rw [hd3];refine qM pV ?_;refine goL ?_;refine yS (gWb rfl Tryz.underlying3 Tryz.underlying5) ?_;refine goL ?_;refine hLr (u:=.i .u8 _) ?_;refine yS (gXm rfl rfl Tryz.underlying22 Tryz.underlying5 Tryz.underlying9) ?_;rw [byte_of];refine goL ?_;refine qM (yG (a:=[_]) (b:=out) (by simp;omega)) ?_;refine goL ?_;refine yS (hG5 (gMv hr).2) ?_;refine goL ?_;exact⟨(m.tdiv 10,_),⟨(gMv hr).1,round_eq hm hd⟩,by have:=gTk m;simp only;omega,⟨rfl,⟨⟨rfl,rfl⟩,⟨rfl,rfl⟩,⟨rfl,rfl⟩,⟨rfl,rfl⟩,trivial⟩,⟨_,rfl⟩,rfl⟩⟩
 ·have hm:m=0:=by simpa using h
  subst hm;refine gRw ?_;show V _ _ _ _ _;refine goL ?_;simp [dgs] at hd;refine mQ (fun c=>?_) (fun c=>?_)
  ·have q:=of_decide_eq_true c;rw [itoa_neg q,show dgs n.natAbs=out by simp [dgs,hd]];refine goL ?_;refine qM (yG (a:=[45]) (b:=out) (by simp;omega)) ?_;refine goL ?_;refine jG ?_;exact uA
  ·have q:=of_decide_eq_false c;rw [hFx (by omega),show dgs n.natAbs=out by simp [dgs,hd]];refine yE ?_;show V _ _ _ _ _;refine goL ?_;refine jG ?_;exact uA
end Go.Proofs.YtfpdlnkkcnmebaaGreat
set_option maxHeartbeats 4000000
set_option linter.unusedSectionVars false
namespace Go.Proofs.YtfpdlnkkcnmebaaGreat
open Go Go.Eng
attribute [local irreducible] V VO VQ VY Quiet QR jF mJ Rng qI qJ qB
def yY(a1:LB):LS→Nat→Int
 | [],c=>(-1)
 | f::xs,c=>(cnd (a1==f) (
(c:Int)) (
yY a1 xs (c+1)))
def gMw(c:LS)(a1:LB):Int:=
yY a1 c 0
theorem hFy(q:LS)(a1:LB):jF Tryz.prog 180 [.L 1 (gP q),.S a1] [.i .i64 (gMw q a1)]:=by
 obtain⟨r,h⟩:∃r,gMw q a1=r:=⟨_,rfl⟩
 rw [h];unfold gMw at h;refine SpI Tryz.func180 fun A _=>?_;refine goL ?_;refine noB ?_;refine gCm 0 (fun z2=>?_);refine qD (fun(f:Nat)=>⟨[(0,.L 1 (gP q)),(1,.S a1),(7,.I (q.length:Int)),(8,.N f)],[],Tryz.f180.ntmps⟩) (fun f=>yY a1 (q.drop f) f=r) (fun f=>q.length - f) 0 eJ h ?_;rintro f h;refine goL ?_;refine kH (mQ (fun c3=>?_) (fun c3=>?_))
 ·have c:=vF c3;obtain⟨x4,ab,y⟩:=drop_at c;rw [y,yY.eq_2] at h;refine noS ?_;refine kH (jE ?_);refine goL ?_;refine jK (jM f (gNp ab)) ?_;refine mQ (fun c5=>?_) (fun c5=>?_)
  ·replace h:=kT c5 h;refine goL ?_;refine jG ?_;subst h;exact uA
  ·replace h:=kU c5 h;refine goS ?_;refine jK (kD f (by omega)) ?_;exact⟨(f+1),h,by omega,eJ⟩
 ·have c:=vG c3;rw [jH c,yY.eq_1] at h;refine goX ?_;refine jG ?_;subst h;exact uA
def gDb(c:LS)(a1:LB):Bool:=
(decide ((gMw c a1)≥0))
theorem gQz(c:LS)(a1:LB):jF Tryz.prog 165 [.L 1 (gP c),.S a1] [.b (gDb c a1)]:=by
 obtain⟨r,h⟩:∃r,gDb c a1=r:=⟨_,rfl⟩
 rw [h];unfold gDb at h;refine SpI Tryz.func165 fun A _=>?_;refine goL ?_;refine jK (gG (hFy c a1)) ?_;refine jG ?_;subst h;exact uA
def gKs(u:gB)(c:LS):Option LS:=
lt_ ((cnd (u.kind==1) ((!(gDb c u.name))) (false))) fun f=>
(cnd f (
gd (c.length+[u.name].length≤4294967296) (
(some (c++[u.name])))) (
(some c)))
theorem hCy(u:gB)(q:LS)(f:Nat){r:LS}(h:gKs u q=some r):Go.Eng.Spec Tryz.prog 172 [.d (kZ u),.ptr 0 0] [.box [.sl 1 f],.own 9 1 f (gP q)] (fun sv Lo=>∃v'1,sv=.tup []∧Lo=[.box [.sl 1 v'1],.own 9 1 v'1 (gP r)]):=by
 obtain⟨y,c,aa⟩:=u;unfold gKs at h;refine kS 2 Tryz.func172 rfl (by kernel_rfl) rfl rfl fun A _=>?_;refine goL ?_;obtain⟨b1,hb1,h⟩:=qW h;refine kC ⟨[(1,.ptr 0 0),(2,.ptr 2 0),(12,.B b1)],[.box [.sl 1 f],.own 9 1 f (gP q),bTy y c aa],Tryz.f172.ntmps⟩ ?_ ?_
 ·refine gqA 6 hb1 (fun c2 hb1=>?_);refine gAc (gUo (gQz q c)) ?_;cases hb1;exact eJ
 refine goC h ?_ ?_<;>intro c3 h
 ·refine goL ?_;refine yF c ?_;obtain⟨g4,h⟩:=pO h;refine gDn g4 ?_;refine goL ?_;obtain rfl:=Option.some.inj h;exact hIy [] _ ⟨(f+1),rfl,rfl⟩
 ·refine yE ?_;show qB _ _ _ _ _ _;obtain rfl:=Option.some.inj h;exact hIy [] _ ⟨f,rfl,rfl⟩
def zN(c:gB→LS→Option LS):List gB→LS→Option LS
 | [],f=>(some f)
 | h::xs,f=>bnd (c h f) fun q=>
zN c xs q
def gK9(c:gB→LS→Option LS)(u:gB)(f:LS):Option LS:=
bnd (gKs u f) fun h=>
zN c u.args h
theorem gZj{c:gB→LS→Option LS}(f:∀(x0:gB)(x1:LS)(w0:Nat){r:LS},c x0 x1=some r→Go.Eng.Spec Tryz.prog 161 [.d (kZ x0),.fn 172 [.ptr 0 0]] [.box [.sl 1 w0],.own 9 1 w0 (gP x1)] (fun sv Lo=>∃v'1,sv=.tup []∧Lo=[.box [.sl 1 v'1],.own 9 1 v'1 (gP r)]))(u:gB)(l1:LS)(v1:Nat){r:LS}(h:gK9 c u l1=some r):Go.Eng.Spec Tryz.prog 161 [.d (kZ u),.fn 172 [.ptr 0 0]] [.box [.sl 1 v1],.own 9 1 v1 (gP l1)] (fun sv Lo=>∃v'1,sv=.tup []∧Lo=[.box [.sl 1 v'1],.own 9 1 v'1 (gP r)]):=by
 obtain⟨aa,ab,q⟩:=u;unfold gK9 at h;refine kS 2 Tryz.func161 rfl (by kernel_rfl) rfl rfl fun A _=>?_;refine goL ?_;obtain⟨x1,ao,h⟩:=gJ h;refine gCl [0,1] (hCy (gB.mk aa ab q) l1 v1 ao) ?_;rintro _ _ ⟨v2,rfl,rfl⟩;show VO _ _ _ _ ⟨(_,.tup [])::_,[.box [.sl 1 v2],.own 9 1 v2 (gP x1),bTy aa ab q],_⟩ _;refine goL ?_;refine noB ?_;refine gCm 10 (fun z6=>?_);refine kV (fun(y5:Nat)(y3:LS)(v4:Nat)=>⟨[(1,.fn 172 [.ptr 0 0]),(10,.L 3 (gK q)),(11,.I (q.length:Int)),(12,.N y5)],[.box [.sl 1 v4],.own 9 1 v4 (gP y3),bTy aa ab q],Tryz.f161.ntmps⟩) (fun y5 y3 v4=>zN c (q.drop y5) y3=some r) (fun y5 y3 v4=>q.length - y5) 0 x1 v2 eJ h ?_;rintro y5 y3 v4 h;refine goL ?_;refine kH (mQ (fun c7=>?_) (fun c7=>?_))
 ·have y:=vF c7;obtain⟨x8,ar,al⟩:=drop_at y;rw [al,zN.eq_2] at h;obtain⟨ad,ae,ag⟩:=x8;refine noS ?_;refine kH (jE ?_);refine goL ?_;refine jK (jM y5 (gEk ar)) ?_;obtain⟨x9,au,h⟩:=gJ h;refine gCl [0,1] (f (gB.mk ad ae ag) y3 v4 au) ?_;rintro _ _ ⟨ai,rfl,rfl⟩;show VO _ _ _ _ ⟨(_,.tup [])::_,[.box [.sl 1 ai],.own 9 1 ai (gP x9),bTy aa ab q,bTy ad ae ag],_⟩ _;refine goL ?_;refine jK (kD y5 (by omega)) ?_;exact⟨(y5+1),x9,ai,h,by omega,eJ⟩
 ·have y:=vG c7;rw [jH y,zN.eq_1] at h;refine gRw ?_;show qB _ _ _ _ _ _;obtain rfl:=Option.some.inj h;exact hIy [] _ ⟨v4,rfl,rfl⟩
def gGh:Nat→gB→LS→Option LS
 | 0,_,_=>none
 | n+1,c,f=>gK9 (gGh n) c f
theorem gZk:∀(n:Nat)(c:gB)(f:LS)(q:Nat){r:LS},gGh n c f=some r→Go.Eng.Spec Tryz.prog 161 [.d (kZ c),.fn 172 [.ptr 0 0]] [.box [.sl 1 q],.own 9 1 q (gP f)] (fun sv Lo=>∃v'1,sv=.tup []∧Lo=[.box [.sl 1 v'1],.own 9 1 v'1 (gP r)]):=by
 intro n
 induction n with
 | zero=>intro c f q r h;cases h
 | succ n ih=>intro c f q r h;exact gZj ih c f q h
def gN8(k:Int)(n:LB)(l:LS):LS:=if k=1∧n∉l then l++[n] else l
mutual
def gI1:gB→LS→LS
 | ⟨k,n,ts⟩,l=>gKt ts (gN8 k n l)
def gKt:List gB→LS→LS
 | [],l=>l
 | a::ts,l=>gKt ts (gI1 a l)
end
theorem gR4(k:Int)(n:LB)(l:LS):(gN8 k n l).length≤l.length+1:=by
 unfold gN8;split
 ·simp
 ·omega
mutual
theorem gQ0:∀(t:gB)(l:LS),(gI1 t l).length≤l.length+tnd t
 | ⟨k,n,ts⟩,l=>by
   simp only [gI1,tnd];have c:=gR5 ts (gN8 k n l);have f:=gR4 k n l;omega
theorem gR5:∀(ts:List gB)(l:LS),(gKt ts l).length≤l.length+gGj ts
 | [],l=>by simp [gKt]
 | a::ts,l=>by
   simp only [gKt,gGj];have c:=gR5 ts (gI1 a l);have f:=gQ0 a l;omega
end
theorem gR6(a:LB):∀(l:LS)(k:Nat),0≤yY a l k↔a∈l
 | [],k=>by simp [yY]
 | x::l,k=>by
   by_cases h:a=x
   ·subst h;simp [yY,cnd]
   ·have c:(a==x)=false:=by simpa using h
    have f:yY a (x::l) k=yY a l (k+1):=by simp [yY,c,cnd]
    rw [f,gR6 a l (k+1)];simp [h]
theorem gU8(l:LS)(a:LB):gDb l a=decide (a∈l):=by
 unfold gDb gMw;exact decide_eq_decide.2 (gR6 a l 0)
theorem gZl(u:gB)(l:LS)(h:l.length+1≤4294967296):gKs u l=some (gN8 u.kind u.name l):=by
 unfold gKs lt_ gN8;rw [gU8];by_cases c:u.kind=1
 ·by_cases f:u.name∈l
  ·simp [c,f,cnd]
  ·simp only [c,f,decide_false,Bool.not_false,beq_self_eq_true,jV,not_false_eq_true,and_self,if_true];rw [uF (by simpa using h)]
 ·have:(u.kind==1)=false:=by simpa using c
  simp [this,c,cnd]
theorem gLl{n:Nat}(ih:∀(t:gB)(l:LS),tnd t≤n→l.length+tnd t≤4294967296→gGh n t l=some (gI1 t l)) :
  ∀(xs:List gB)(l:LS),gGj xs≤n→l.length+gGj xs≤4294967296→zN (gGh n) xs l=some (gKt xs l)
 | [],l,_,_=>by simp [zN,gKt]
 | x::xs,l,c,f=>by
   simp only [gGj] at c f;simp only [zN,gKt];rw [ih x l (by omega) (by omega)]
   have:=gQ0 x l
   exact gLl ih xs _ (by omega) (by omega)
theorem gQ1:∀(n:Nat)(t:gB)(l:LS),tnd t≤n→l.length+tnd t≤4294967296→gGh n t l=some (gI1 t l)
 | 0,⟨k,nm,ts⟩,l,h,_=>by simp only [tnd] at h;omega
 | n+1,⟨k,nm,ts⟩,l,c,f=>by
   simp only [tnd] at c f;simp only [gGh,gK9,gI1];rw [gZl _ _ (by omega)]
   have:=gR4 k nm l
   exact gLl (gQ1 n) ts (gN8 k nm l) (by omega) (by omega)
theorem gZm(c:gB)(f:LS)(q:Nat)(h:f.length+tnd c≤4294967296):Go.Eng.Spec Tryz.prog 161 [.d (kZ c),.fn 172 [.ptr 0 0]] [.box [.sl 1 q],.own 9 1 q (gP f)] (fun sv Lo=>∃v'1,sv=.tup []∧Lo=[.box [.sl 1 v'1],.own 9 1 v'1 (gP (gI1 c f))]):=gZk (tnd c) c f q (gQ1 _ _ _ (Nat.le_refl _) h)
def zC:List gB→LS→Option LS
 | [],c=>(some c)
 | f::xs,c=>gd (c.length+tnd f≤4294967296) (lt_ (gI1 f c) fun h=>
zC xs h)
def gGe(c:List gB):Option LS:=
zC c []
theorem gTl(a0:List gB){r:LS}(h:gGe a0=some r):mJ Tryz.prog 160 [.L 3 (gK a0)] [9] [.sl 1 (gP r)]:=by
 unfold gGe at h;refine qV Tryz.func160 rfl (by kernel_rfl) rfl (by simp) fun A _=>?_;refine goL ?_;refine gB9 ?_;refine goL ?_;refine noB ?_;refine gCm 7 (fun z4=>?_);refine kV (fun(f:Nat)(y1:LS)(v2:Nat)=>⟨[(3,.ptr 1 0),(7,.L 3 (gK a0)),(8,.I (a0.length:Int)),(9,.N f)],[.own 9 1 v2 (gP y1),.box [.sl 0 v2]],Tryz.f160.ntmps⟩) (fun f y1 v2=>zC (a0.drop f) y1=some r) (fun f y1 v2=>a0.length - f) 0 [] 0 eJ h ?_;rintro f y1 v2 h;refine goL ?_;refine kH (mQ (fun c5=>?_) (fun c5=>?_))
 ·have c:=vF c5;obtain⟨x6,ah,ae⟩:=drop_at c;rw [ae,zC.eq_2] at h;obtain⟨q,y,aa⟩:=x6;refine noS ?_;refine kH (jE ?_);refine goL ?_;refine jK (jM f (gEk ah)) ?_;refine qM (hA8) ?_;obtain⟨g8,h⟩:=pO h;obtain⟨x7,ai,h⟩:=qW h;have sx7:=gZm (gB.mk q y aa) y1 v2 g8;rw [ai] at sx7;refine gCl [1,0] (sx7) ?_;rintro _ _ ⟨v9,rfl,rfl⟩;show VO _ _ _ _ ⟨(_,.tup [])::_,[.own 9 1 v9 (gP x7),.box [.sl 0 v9],bTy q y aa],_⟩ _;refine goL ?_;refine jK (kD f (by omega)) ?_;exact⟨(f+1),x7,v9,h,by omega,eJ⟩
 ·have c:=vG c5;rw [jH c,zC.eq_1] at h;refine goX ?_;refine jG ?_;obtain rfl:=Option.some.inj h;exact gOs
def gB2(c:gB):Option LS:=
bnd (gGe [c]) fun f=>
(some f)
theorem gQ2(y:gB){r:LS}(h:gB2 y=some r):mJ Tryz.prog 133 [.d (kZ y)] [9] [.sl 1 (gP r)]:=by
 obtain⟨c,f,q⟩:=y;unfold gB2 at h;refine qV Tryz.func133 rfl (by kernel_rfl) rfl (by simp) fun A _=>?_;refine goL ?_;refine uQ (u:=(.st [.i .i64 c,.s f,.sl 3 (gK q)])) ?_;obtain⟨x1,aa,h⟩:=gJ h;refine gIe (gTl [(gB.mk c f q)] aa) ?_;refine goL ?_;refine jG ?_;obtain rfl:=Option.some.inj h;exact gOs
def gEx(a1:LB):LS→Bool
 | []=>false
 | c::xs=>(cnd (c==a1) (
true) (
gEx a1 xs ))
def wY(c:LS)(a1:LB):Bool:=
gEx a1 c
theorem gF2(q:LS)(a1:LB):jF Tryz.prog 159 [.L 1 (gP q),.S a1] [.b (wY q a1)]:=by
 obtain⟨r,h⟩:∃r,wY q a1=r:=⟨_,rfl⟩
 rw [h];unfold wY at h;refine SpI Tryz.func159 fun A _=>?_;refine goL ?_;refine noB ?_;refine gCm 0 (fun z2=>?_);refine qD (fun(f:Nat)=>⟨[(0,.L 1 (gP q)),(1,.S a1),(5,.N f)],[],Tryz.f159.ntmps⟩) (fun f=>gEx a1 (q.drop f)  =r) (fun f=>q.length - f) 0 eJ h ?_;rintro f h;refine goL ?_;refine mQ (fun c3=>?_) (fun c3=>?_)
 ·have c:=vF c3;obtain⟨x4,ab,y⟩:=drop_at c;rw [y,gEx.eq_2] at h;refine noS ?_;refine kH (jE ?_);refine goL ?_;refine jK (jM f (gNp ab)) ?_;refine mQ (fun c5=>?_) (fun c5=>?_)
  ·replace h:=kT c5 h;refine goL ?_;refine jG ?_;subst h;exact uA
  ·replace h:=kU c5 h;refine goS ?_;refine jK (kD f (by omega)) ?_;exact⟨(f+1),h,by omega,eJ⟩
 ·have c:=vG c3;rw [jH c,gEx.eq_1] at h;refine goX ?_;refine jG ?_;subst h;exact uA
def gDc(c:gB→LS→Option LS):List gB→LS→Option LS
 | [],f=>(some f)
 | h::xs,f=>bnd (c h f) fun q=>
gDc c xs q
def gDd(c:gB→LS→Option LS):List gB→LS→Option LS
 | [],f=>(some f)
 | h::xs,f=>bnd (c h f) fun q=>
gDd c xs q
def gOz(c:gB→LS→Option LS)(t:gB)(f:LS):Option LS:=
lt_ ((cnd (t.kind==1) ((!(wY f t.name))) (false))) fun h=>
(cnd h (
gd (f.length+[t.name].length≤4294967296) (
gDc c t.args (f++[t.name]))) (
gDd c t.args f))
theorem hFz{c:gB→LS→Option LS}(f:∀(x0:gB)(x1:LS)(w0:Nat){r:LS},c x0 x1=some r→Go.Eng.Spec Tryz.prog 181 [.d (kZ x0),.sl 0 w0] [.own 9 1 w0 (gP x1)] (fun sv Lo=>∃v'0,sv=.sl 0 v'0∧Lo=[.own 9 1 v'0 (gP r)]))(t:gB)(l0:LS)(v0:Nat){r:LS}(h:gOz c t l0=some r):Go.Eng.Spec Tryz.prog 181 [.d (kZ t),.sl 0 v0] [.own 9 1 v0 (gP l0)] (fun sv Lo=>∃v'0,sv=.sl 0 v'0∧Lo=[.own 9 1 v'0 (gP r)]):=by
 obtain⟨ag,ab,q⟩:=t;unfold gOz at h;refine kS 1 Tryz.func181 rfl (by kernel_rfl) rfl rfl fun A _=>?_;refine goL ?_;obtain⟨b1,hb1,h⟩:=qW h;refine kC ⟨[(1,.sl 0 v0),(2,.ptr 1 0),(15,.B b1)],[.own 9 1 v0 (gP l0),bTy ag ab q],Tryz.f181.ntmps⟩ ?_ ?_
 ·refine gqA 9 hb1 (fun c2 hb1=>?_);refine gAc (gUo (gF2 l0 ab)) ?_;cases hb1;exact eJ
 refine goC h ?_ ?_<;>intro c3 h
 ·refine goL ?_;refine yF ab ?_;obtain⟨g4,h⟩:=pO h;refine gDn g4 ?_;refine goL ?_;refine noB ?_;refine yP 1 2 (fun z8=>?_);refine kV (fun(y7:Nat)(y5:LS)(v6:Nat)=>⟨[(1,.sl 0 v6),(2,.ptr 1 0),(5,.N y7)],[.own 9 1 v6 (gP y5),bTy ag ab q,.dead 1],Tryz.f181.ntmps⟩) (fun y7 y5 v6=>gDc c (q.drop y7) y5=some r) (fun y7 y5 v6=>q.length - y7) 0 (l0++[ab]) (v0+1) eJ h ?_;rintro y7 y5 v6 h;refine goL ?_;refine mQ (fun c9=>?_) (fun c9=>?_)
  ·have ad:=vF c9;obtain⟨a9,a0,aj⟩:=drop_at ad;rw [aj,gDc.eq_2] at h;obtain⟨ak,al,am⟩:=a9;refine noS ?_;refine kH (jE ?_);refine goL ?_;refine jK (jM y7 (gEk a0)) ?_;obtain⟨a3,a4,h⟩:=gJ h;refine gCl [0] (f (gB.mk ak al am) y5 v6 a4) ?_;rintro _ _ ⟨an,rfl,rfl⟩;show VO _ _ _ _ ⟨(_,.sl 0 an)::_,[.own 9 1 an (gP a3),bTy ag ab q,.dead 1],_⟩ _;refine goL ?_;refine jK (kD y7 (by omega)) ?_;exact⟨(y7+1),a3,an,h,by omega,eJ⟩
  ·have ad:=vG c9;rw [jH ad,gDc.eq_1] at h;refine goX ?_;refine jG ?_;obtain rfl:=Option.some.inj h;exact gBa [.sl 0 v6] _ ⟨v6,rfl,rfl⟩
 ·refine goS ?_;refine noB ?_;refine yP 1 2 (fun bg=>?_);refine kV (fun(y:Nat)(ae:LS)(ac:Nat)=>⟨[(1,.sl 0 ac),(2,.ptr 1 0),(5,.N y)],[.own 9 1 ac (gP ae),bTy ag ab q],Tryz.f181.ntmps⟩) (fun y ae ac=>gDd c (q.drop y) ae=some r) (fun y ae ac=>q.length - y) 0 l0 v0 eJ h ?_;rintro y ae ac h;refine goL ?_;refine mQ (fun ao=>?_) (fun ao=>?_)
  ·have aa:=vF ao;obtain⟨ba,a5,ap⟩:=drop_at aa;rw [ap,gDd.eq_2] at h;obtain⟨aq,ar,au⟩:=ba;refine noS ?_;refine kH (jE ?_);refine goL ?_;refine jK (jM y (gEk a5)) ?_;obtain⟨a6,a7,h⟩:=gJ h;refine gCl [0] (f (gB.mk aq ar au) ae ac a7) ?_;rintro _ _ ⟨av,rfl,rfl⟩;show VO _ _ _ _ ⟨(_,.sl 0 av)::_,[.own 9 1 av (gP a6),bTy ag ab q],_⟩ _;refine goL ?_;refine jK (kD y (by omega)) ?_;exact⟨(y+1),a6,av,h,by omega,eJ⟩
  ·have aa:=vG ao;rw [jH aa,gDd.eq_1] at h;refine goX ?_;refine jG ?_;obtain rfl:=Option.some.inj h;exact gBa [.sl 0 ac] _ ⟨ac,rfl,rfl⟩
def gMx:Nat→gB→LS→Option LS
 | 0,_,_=>none
 | n+1,c,f=>gOz (gMx n) c f
theorem hF0:∀(n:Nat)(c:gB)(f:LS)(q:Nat){r:LS},gMx n c f=some r→Go.Eng.Spec Tryz.prog 181 [.d (kZ c),.sl 0 q] [.own 9 1 q (gP f)] (fun sv Lo=>∃v'0,sv=.sl 0 v'0∧Lo=[.own 9 1 v'0 (gP r)]):=by
 intro n
 induction n with
 | zero=>intro c f q r h;cases h
 | succ n ih=>intro c f q r h;exact hFz ih c f q h
theorem gYc(a:LB):∀l:LS,gEx a l=decide (a∈l)
 | []=>rfl
 | x::l=>by
   simp only [gEx,gYc a l];by_cases h:x=a
   ·subst h;simp [jV]
   ·rw [beq_false_of_ne h];have h':¬a=x:=fun e=>h e.symm;simp [jC,h']
theorem hF3(l:LS)(a:LB):wY l a=decide (a∈l):=gYc a l
theorem gMy{rec:gB→LS→Option LS}:∀(xs:List gB)(y:LS),(∀x∈xs,∀l,l.length+tnd x≤4294967296→rec x l=some (gI1 x l))→y.length+gGj xs≤4294967296→gDc rec xs y=some (gKt xs y)∧gDd rec xs y=some (gKt xs y)
 | [],y,_,_=>⟨rfl,rfl⟩
 | x::xs,y,h,hl=>by
   simp only [gGj] at hl;have c:=gQ0 x y;simp only [gDc,gDd,gKt];rw [h x (by simp) y (by omega)];exact gMy xs _ (fun z hz=>h z (by simp [hz])) (by omega)
theorem gU9:∀(n:Nat)(t:gB)(l:LS),tnd t≤n→l.length+tnd t≤4294967296→gMx n t l=some (gI1 t l)
 | 0,t,l,h,_=>by have:=gI9 t;omega
 | n+1,⟨k,s,ts⟩,l,h,hl=>by
   simp only [tnd] at h hl;have hr:∀x∈ts,∀l,l.length+tnd x≤4294967296→gMx n x l=some (gI1 x l):=fun x hx l hl=>gU9 n x l (by have:=gI8 hx;omega) hl;simp only [gMx,gOz,lt_,hF3,gI1,gN8];by_cases hk:k=1
   ·by_cases hs:s∈l
    ·simp only [hk,hs,beq_self_eq_true,jV,decide_true,Bool.not_true,jC];simp only [not_true,and_false,if_false];exact(gMy ts l hr (by omega)).2
    ·simp only [hk,hs,beq_self_eq_true,jV,decide_false,Bool.not_false];simp only [not_false_eq_true,and_self,if_true];rw [uF (by simp;omega)];exact(gMy ts (l++[s]) hr (by simp;omega)).1
   ·simp only [beq_false_of_ne hk,jC,hk,false_and,if_false];exact(gMy ts l hr (by omega)).2
theorem hF4(c:gB)(f:LS)(q:Nat)(h:(f:LS).length+tnd c≤4294967296):Go.Eng.Spec Tryz.prog 181 [.d (kZ c),.sl 0 q] [.own 9 1 q (gP f)] (fun sv Lo=>∃v'0,sv=.sl 0 v'0∧Lo=[.own 9 1 v'0 (gP (gI1 c f))]):=hF0 (tnd c) c f q (gU9 _ _ _ (Nat.le_refl _) h)
def gA4(c:gB):Option LS:=
gd (([]:LS).length+tnd c≤4294967296) (lt_ (gI1 c []) fun f=>
(some f))
theorem gJl(y:gB){r:LS}(h:gA4 y=some r):jF Tryz.prog 169 [.d (kZ y)] [.sl 1 (gP r)]:=by
 obtain⟨c,f,q⟩:=y;unfold gA4 at h;refine SpI Tryz.func169 fun A _=>?_;refine goL ?_;refine gB9 ?_;obtain⟨g2,h⟩:=pO h;obtain⟨x1,aa,h⟩:=qW h;have sx1:=hF4 (gB.mk c f q) [] 0 g2;rw [aa] at sx1;refine gCl [1] (sx1) ?_;rintro _ _ ⟨v3,rfl,rfl⟩;show VO _ _ _ _ ⟨(_,.sl 1 v3)::_,[bTy c f q,.own 9 1 v3 (gP x1)],_⟩ _;refine goL ?_;refine mI 1 rfl rfl ?_;refine jG ?_;cases h;exact uA
end Go.Proofs.YtfpdlnkkcnmebaaGreat
