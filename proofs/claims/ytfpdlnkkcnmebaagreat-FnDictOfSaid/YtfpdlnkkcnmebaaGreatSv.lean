import Derived.Test.YtfpdlnkkcnmebaaGreatUn1
import Derived.Lib.ItoaLen
import Derived.Lib.AppendIntMem
import Derived.Lib.ItoaNum
set_option linter.unusedVariables false
set_option linter.unusedSimpArgs false
namespace Go.Proofs.YtfpdlnkkcnmebaaGreat
open Go Go.Eng Go.RowKit
attribute [local irreducible] V VO VQ VY Quiet QR jI mK Rng qE qA pX
instance (n:Int):Decidable (gIw n):=inferInstanceAs (Decidable (_∧_))
def dgs(u:Nat):LB:=if u=0 then [] else Lib.decDigits u
theorem hJh{u:Nat}(h:u≠0):dgs u=dgs (u / 10)++[UInt8.ofNat (48+u % 10)]:=by
 unfold dgs;rw [if_neg h,Lib.decDigits];by_cases f:u < 10
 ·rw [dif_pos f,if_pos (by omega),Nat.mod_eq_of_lt f];rfl
 ·rw [dif_neg f,if_neg (by omega)]
theorem hNp{n:Int}(h:gIw n):(dgs n.natAbs).length≤21:=by
 unfold dgs;split
 ·simp
 ·have:=Lib.itoa_length_le n h.1 h.2
  unfold Lib.itoa at this;split at this
  ·simp at this;omega
  ·have e:n.natAbs=n.toNat:=by omega
   rw [e];exact this
theorem itoa_neg{n:Int}(h:n < 0):Lib.itoa n=45::dgs n.natAbs:=by unfold Lib.itoa dgs;rw [if_pos h,if_neg (by omega)]
theorem hJi{n:Int}(h:0 < n):Lib.itoa n=dgs n.natAbs:=by unfold Lib.itoa dgs;rw [if_neg (by omega),if_neg (by omega)];congr 1;omega
theorem hF9:Lib.itoa 0=[48]:=by unfold Lib.itoa;rw [if_neg (by omega),Lib.decDigits];rfl
theorem hGa{m:Int}(h:m.tmod 10 < 0):IntKind.i64.wrap (0 - m.tmod 10)=((m.natAbs % 10:Nat):Int):=by
 have e:m.tmod 10= -((m.natAbs % 10:Nat):Int):=by
  rcases Int.natAbs_eq m with f | f
  ·rw [f] at h
   have:=Int.tmod_nonneg (a:=(m.natAbs:Int)) 10 (by omega)
   omega
  ·conv=>lhs;rw [f]
   rw [Int.neg_tmod]
   have:((m.natAbs:Int)).tmod 10=((m.natAbs % 10:Nat):Int):=by rw [show (10:Int)=((10:Nat):Int)from rfl,←Int.ofNat_tmod];
   rw [this]
 rw [e,zV _ (by omega) (by omega)];omega
theorem hGb{m:Int}(h:¬m.tmod 10 < 0):m.tmod 10=((m.natAbs % 10:Nat):Int):=by
 have key:((m.natAbs:Int)).tmod 10=((m.natAbs % 10:Nat):Int):=by rw [show (10:Int)=((10:Nat):Int)from rfl,←Int.ofNat_tmod]
 rcases Int.natAbs_eq m with f | f
 ·conv=>lhs;rw [f]
  exact key
 ·have e:m.tmod 10= -((m.natAbs % 10:Nat):Int):=by
   conv=>lhs;rw [f]
   rw [Int.neg_tmod,key]
  omega
theorem gUq(m:Int):(m.tdiv 10).natAbs=m.natAbs / 10:=by simp [Int.natAbs_tdiv];rfl
theorem gN5{m:Int}(h:gIw m):gIw (m.tdiv 10)∧IntKind.i64.wrap (m.tdiv 10)=m.tdiv 10:=by
 have:=gUq m
 have hr:gIw (m.tdiv 10):=by
  obtain⟨f,q⟩:=h;unfold gIw;omega
 exact⟨hr,zV _ hr.1 hr.2⟩
theorem byte_of(u:Nat):UInt8.ofNat (IntKind.u8.wrap (IntKind.i64.wrap (48+((u % 10:Nat):Int)))).toNat=UInt8.ofNat (48+u % 10):=by
 have:u % 10 < 10:=Nat.mod_lt _ (by decide)
 generalize u % 10=k at this
 match k,this with
 | 0,_ | 1,_ | 2,_ | 3,_ | 4,_ | 5,_ | 6,_ | 7,_ | 8,_ | 9,_=>rfl
theorem round_eq{n m:Int}{out:LB}(hm:m≠0)(h:dgs n.natAbs=dgs m.natAbs++out):dgs n.natAbs=dgs (m.tdiv 10).natAbs++([UInt8.ofNat (48+m.natAbs % 10)]++out):=by
 rw [h,hJh (u:=m.natAbs) (by omega),gUq,List.append_assoc]
set_option maxHeartbeats 4000000 in
theorem gO9(n:Int)(hn:gIw n):jI Tryz.prog 236 [.d (.i .i64 n)] [.s (Lib.itoa n)]:=by
 refine gQ2 Tryz.func236 rfl (by kernel_rfl) rfl fun A _=>?_;refine goL ?_;refine mR (fun h=>?_) (fun h=>?_)
 ·have:n=0:=by simpa using h
  subst this;rw [hF9];refine goL ?_;refine jF ?_;exact uM
 refine vN ?_;show V _ _ _ _ _;have hn0:n≠0:=by simpa using h
 refine goL ?_;refine kI (jA ?_);refine pY (fun(x:Int × LB)=>⟨[(0,.d (.i .i64 x.1)),(2,.d (.s [])),(3,.d (.b (decide (n < 0)))),(4,.d (.s x.2))],[],Tryz.f236.ntmps⟩) (fun x=>gIw x.1∧dgs n.natAbs=dgs x.1.natAbs++x.2) (fun x=>x.1.natAbs) (n,[]) ⟨rfl,⟨⟨rfl,rfl⟩,⟨rfl,rfl⟩,⟨rfl,rfl⟩,⟨rfl,rfl⟩,trivial⟩,⟨_,rfl⟩,rfl⟩ ⟨hn,by simp⟩ ?_;rintro⟨m,out⟩ ⟨hr,hd⟩;have hl:=hNp hn;have hol:out.length≤21:=by rw [hd] at hl;simp at hl;omega
 dsimp only;refine goL ?_;refine mR (fun q=>?_) (fun q=>?_)
 ·have hm:m≠0:=by simpa using q
  refine vN ?_;show V _ _ _ _ _;refine jA ?_;refine goL ?_;refine vP hPc ?_;refine goL ?_;refine mR (fun f=>?_) (fun f=>?_)
  ·have hd3:=hGa (of_decide_eq_true f);refine goL ?_;refine uN pV ?_;rw [hd3];refine goL ?_;refine uN pV ?_;refine goL ?_;refine vP (gXa rfl Tryz.underlying3 Tryz.underlying5) ?_;refine goL ?_;refine hO6 (u:=.i .u8 _) ?_;refine vP (gY4 rfl rfl Tryz.underlying22 Tryz.underlying5 Tryz.underlying9) ?_;rw [byte_of];refine goL ?_;refine uN (zB (a:=[_]) (b:=out) (by simp;omega)) ?_;refine goL ?_;refine vP (hKp (gN5 hr).2) ?_;refine goL ?_;exact⟨(m.tdiv 10,_),⟨(gN5 hr).1,round_eq hm hd⟩,by have:=gUq m;simp only;omega,⟨rfl,⟨⟨rfl,rfl⟩,⟨rfl,rfl⟩,⟨rfl,rfl⟩,⟨rfl,rfl⟩,trivial⟩,⟨_,rfl⟩,rfl⟩⟩
  ·have hd3:=hGb (of_decide_eq_false f);refine vN ?_;show V _ _ _ _ _;refine goL ?_;rw [hd3];refine uN pV ?_;refine goL ?_;refine vP (gXa rfl Tryz.underlying3 Tryz.underlying5) ?_;refine goL ?_;refine hO6 (u:=.i .u8 _) ?_;refine vP (gY4 rfl rfl Tryz.underlying22 Tryz.underlying5 Tryz.underlying9) ?_;rw [byte_of];refine goL ?_;refine uN (zB (a:=[_]) (b:=out) (by simp;omega)) ?_;refine goL ?_;refine vP (hKp (gN5 hr).2) ?_;refine goL ?_;exact⟨(m.tdiv 10,_),⟨(gN5 hr).1,round_eq hm hd⟩,by have:=gUq m;simp only;omega,⟨rfl,⟨⟨rfl,rfl⟩,⟨rfl,rfl⟩,⟨rfl,rfl⟩,⟨rfl,rfl⟩,trivial⟩,⟨_,rfl⟩,rfl⟩⟩
 ·have hm:m=0:=by simpa using q
  subst hm;refine gS5 ?_;show V _ _ _ _ _;refine goL ?_;simp [dgs] at hd;refine mR (fun f=>?_) (fun f=>?_)
  ·have y:=of_decide_eq_true f;rw [itoa_neg y,show dgs n.natAbs=out by simp [dgs,hd]];refine goL ?_;refine uN (zB (a:=[45]) (b:=out) (by simp;omega)) ?_;refine goL ?_;refine jF ?_;exact uM
  ·have y:=of_decide_eq_false f;rw [hJi (by omega),show dgs n.natAbs=out by simp [dgs,hd]];refine vN ?_;show V _ _ _ _ _;refine goL ?_;refine jF ?_;exact uM
end Go.Proofs.YtfpdlnkkcnmebaaGreat
set_option maxHeartbeats 4000000
set_option linter.unusedSectionVars false
namespace Go.Proofs.YtfpdlnkkcnmebaaGreat
open Go Go.Eng
attribute [local irreducible] V VO VQ VY Quiet QR jI mK Rng qE qA pX
def zP(a1:LB):LS→Nat→Int
 | [],f=>(-1)
 | h::xs,f=>(cnd (a1==h) (
(f:Int)) (
zP a1 xs (f+1)))
def gN6(f:LS)(a1:LB):Int:=
zP a1 f 0
theorem hJj(y:LS)(a1:LB):jI Tryz.prog 180 [.L 1 (gT y),.S a1] [.i .i64 (gN6 y a1)]:=by
 obtain⟨r,h⟩:∃r,gN6 y a1=r:=⟨_,rfl⟩
 rw [h];unfold gN6 at h;refine SpI Tryz.func180 fun A _=>?_;refine goL ?_;refine noB ?_;refine gCw 0 (fun z2=>?_);refine pY (fun(q:Nat)=>⟨[(0,.L 1 (gT y)),(1,.S a1),(7,.I (y.length:Int)),(8,.N q)],[],Tryz.f180.ntmps⟩) (fun q=>zP a1 (y.drop q) q=r) (fun q=>y.length - q) 0 eJ h ?_;rintro q h;refine goL ?_;refine kI (mR (fun c3=>?_) (fun c3=>?_))
 ·have f:=vR c3;obtain⟨x4,ac,aa⟩:=drop_at f;rw [aa,zP.eq_2] at h;refine noS ?_;refine kI (jA ?_);refine goL ?_;refine jP (jR q (gO7 ac)) ?_;refine mR (fun c5=>?_) (fun c5=>?_)
  ·replace h:=kU c5 h;refine goL ?_;refine jF ?_;subst h;exact uM
  ·replace h:=kV c5 h;refine goS ?_;refine jP (kD q (by omega)) ?_;exact⟨(q+1),h,by omega,eJ⟩
 ·have f:=vS c3;rw [jK f,zP.eq_1] at h;refine goX ?_;refine jF ?_;subst h;exact uM
def gD1(f:LS)(a1:LB):Bool:=
(decide ((gN6 f a1)≥0))
theorem gR2(f:LS)(a1:LB):jI Tryz.prog 165 [.L 1 (gT f),.S a1] [.b (gD1 f a1)]:=by
 obtain⟨r,h⟩:∃r,gD1 f a1=r:=⟨_,rfl⟩
 rw [h];unfold gD1 at h;refine SpI Tryz.func165 fun A _=>?_;refine goL ?_;refine jP (gI (hJj f a1)) ?_;refine jF ?_;subst h;exact uM
def gLr(u:gB)(f:LS):Option LS:=
lt_ ((cnd (u.kind==1) ((!(gD1 f u.name))) (false))) fun h=>
(cnd h (
gd (f.length+[u.name].length≤4294967296) (
(some (f++[u.name])))) (
(some f)))
theorem hGc(u:gB)(y:LS)(q:Nat){r:LS}(h:gLr u y=some r):Go.Eng.Spec Tryz.prog 172 [.d (mM u),.ptr 0 0] [.box [.sl 1 q],.own 9 1 q (gT y)] (fun sv Lo=>∃v'1,sv=.tup []∧Lo=[.box [.sl 1 v'1],.own 9 1 v'1 (gT r)]):=by
 obtain⟨aa,f,ab⟩:=u;unfold gLr at h;refine kJ 2 Tryz.func172 rfl (by kernel_rfl) rfl rfl fun A _=>?_;refine goL ?_;obtain⟨b1,hb1,h⟩:=uK h;refine kH ⟨[(1,.ptr 0 0),(2,.ptr 2 0),(12,.B b1)],[.box [.sl 1 q],.own 9 1 q (gT y),bTy aa f ab],Tryz.f172.ntmps⟩ ?_ ?_
 ·refine gqA 6 hb1 (fun c2 hb1=>?_);refine yT (gUa (gR2 y f)) ?_;cases hb1;exact eJ
 refine goC h ?_ ?_<;>intro c3 h
 ·refine goL ?_;refine wX f ?_;obtain⟨g4,h⟩:=pU h;refine gDl g4 ?_;refine goL ?_;obtain rfl:=Option.some.inj h;exact hMq [] _ ⟨(q+1),rfl,rfl⟩
 ·refine vN ?_;show pX _ _ _ _ _ _;obtain rfl:=Option.some.inj h;exact hMq [] _ ⟨q,rfl,rfl⟩
def gAf(f:gB→LS→Option LS):List gB→LS→Option LS
 | [],h=>(some h)
 | q::xs,h=>bnd (f q h) fun y=>
gAf f xs y
def gMg(f:gB→LS→Option LS)(u:gB)(h:LS):Option LS:=
bnd (gLr u h) fun q=>
gAf f u.args q
theorem hBc{f:gB→LS→Option LS}(q:∀(x0:gB)(x1:LS)(w0:Nat){r:LS},f x0 x1=some r→Go.Eng.Spec Tryz.prog 161 [.d (mM x0),.fn 172 [.ptr 0 0]] [.box [.sl 1 w0],.own 9 1 w0 (gT x1)] (fun sv Lo=>∃v'1,sv=.tup []∧Lo=[.box [.sl 1 v'1],.own 9 1 v'1 (gT r)]))(u:gB)(l1:LS)(v1:Nat){r:LS}(h:gMg f u l1=some r):Go.Eng.Spec Tryz.prog 161 [.d (mM u),.fn 172 [.ptr 0 0]] [.box [.sl 1 v1],.own 9 1 v1 (gT l1)] (fun sv Lo=>∃v'1,sv=.tup []∧Lo=[.box [.sl 1 v'1],.own 9 1 v'1 (gT r)]):=by
 obtain⟨ab,ac,y⟩:=u;unfold gMg at h;refine kJ 2 Tryz.func161 rfl (by kernel_rfl) rfl rfl fun A _=>?_;refine goL ?_;obtain⟨x1,ap,h⟩:=gJ h;refine gBz [0,1] (hGc (gB.mk ab ac y) l1 v1 ap) ?_;rintro _ _ ⟨v2,rfl,rfl⟩;show VO _ _ _ _ ⟨(_,.tup [])::_,[.box [.sl 1 v2],.own 9 1 v2 (gT x1),bTy ab ac y],_⟩ _;refine goL ?_;refine noB ?_;refine gCw 10 (fun z6=>?_);refine mG (fun(y5:Nat)(y3:LS)(v4:Nat)=>⟨[(1,.fn 172 [.ptr 0 0]),(10,.L 3 (gN y)),(11,.I (y.length:Int)),(12,.N y5)],[.box [.sl 1 v4],.own 9 1 v4 (gT y3),bTy ab ac y],Tryz.f161.ntmps⟩) (fun y5 y3 v4=>gAf f (y.drop y5) y3=some r) (fun y5 y3 v4=>y.length - y5) 0 x1 v2 eJ h ?_;rintro y5 y3 v4 h;refine goL ?_;refine kI (mR (fun c7=>?_) (fun c7=>?_))
 ·have aa:=vR c7;obtain⟨x8,au,am⟩:=drop_at aa;rw [am,gAf.eq_2] at h;obtain⟨ae,ag,ah⟩:=x8;refine noS ?_;refine kI (jA ?_);refine goL ?_;refine jP (jR y5 (gDj au)) ?_;obtain⟨x9,av,h⟩:=gJ h;refine gBz [0,1] (q (gB.mk ae ag ah) y3 v4 av) ?_;rintro _ _ ⟨aj,rfl,rfl⟩;show VO _ _ _ _ ⟨(_,.tup [])::_,[.box [.sl 1 aj],.own 9 1 aj (gT x9),bTy ab ac y,bTy ae ag ah],_⟩ _;refine goL ?_;refine jP (kD y5 (by omega)) ?_;exact⟨(y5+1),x9,aj,h,by omega,eJ⟩
 ·have aa:=vS c7;rw [jK aa,gAf.eq_1] at h;refine gS5 ?_;show pX _ _ _ _ _ _;obtain rfl:=Option.some.inj h;exact hMq [] _ ⟨v4,rfl,rfl⟩
def gG2:Nat→gB→LS→Option LS
 | 0,_,_=>none
 | n+1,f,h=>gMg (gG2 n) f h
theorem hBe:∀(n:Nat)(f:gB)(q:LS)(y:Nat){r:LS},gG2 n f q=some r→Go.Eng.Spec Tryz.prog 161 [.d (mM f),.fn 172 [.ptr 0 0]] [.box [.sl 1 y],.own 9 1 y (gT q)] (fun sv Lo=>∃v'1,sv=.tup []∧Lo=[.box [.sl 1 v'1],.own 9 1 v'1 (gT r)]):=by
 intro n
 induction n with
 | zero=>intro f q y r h;cases h
 | succ n ih=>intro f q y r h;exact hBc ih f q y h
def gPa(k:Int)(n:LB)(l:LS):LS:=if k=1∧n∉l then l++[n] else l
mutual
def gJ6:gB→LS→LS
 | ⟨k,n,ts⟩,l=>gLs ts (gPa k n l)
def gLs:List gB→LS→LS
 | [],l=>l
 | a::ts,l=>gLs ts (gJ6 a l)
end
theorem gTd(k:Int)(n:LB)(l:LS):(gPa k n l).length≤l.length+1:=by
 unfold gPa;split
 ·simp
 ·omega
mutual
theorem gR3:∀(t:gB)(l:LS),(gJ6 t l).length≤l.length+tnd t
 | ⟨k,n,ts⟩,l=>by
   simp only [gJ6,tnd];have f:=gTe ts (gPa k n l);have h:=gTd k n l;omega
theorem gTe:∀(ts:List gB)(l:LS),(gLs ts l).length≤l.length+gHs ts
 | [],l=>by simp [gLs]
 | a::ts,l=>by
   simp only [gLs,gHs];have f:=gTe ts (gJ6 a l);have h:=gR3 a l;omega
end
theorem gTf(a:LB):∀(l:LS)(k:Nat),0≤zP a l k↔a∈l
 | [],k=>by simp [zP]
 | x::l,k=>by
   by_cases h:a=x
   ·subst h;simp [zP,cnd]
   ·have f:(a==x)=false:=by simpa using h
    have q:zP a (x::l) k=zP a l (k+1):=by simp [zP,f,cnd]
    rw [q,gTf a l (k+1)];simp [h]
theorem gV9(l:LS)(a:LB):gD1 l a=decide (a∈l):=by
 unfold gD1 gN6;exact decide_eq_decide.2 (gTf a l 0)
theorem hBf(u:gB)(l:LS)(h:l.length+1≤4294967296):gLr u l=some (gPa u.kind u.name l):=by
 unfold gLr lt_ gPa;rw [gV9];by_cases f:u.kind=1
 ·by_cases q:u.name∈l
  ·simp [f,q,cnd]
  ·simp only [f,q,decide_false,Bool.not_false,beq_self_eq_true,jQ,not_false_eq_true,and_self,if_true];rw [qN (by simpa using h)]
 ·have:(u.kind==1)=false:=by simpa using f
  simp [this,f,cnd]
theorem gMs{n:Nat}(ih:∀(t:gB)(l:LS),tnd t≤n→l.length+tnd t≤4294967296→gG2 n t l=some (gJ6 t l)) :
  ∀(xs:List gB)(l:LS),gHs xs≤n→l.length+gHs xs≤4294967296→gAf (gG2 n) xs l=some (gLs xs l)
 | [],l,_,_=>by simp [gAf,gLs]
 | x::xs,l,f,h=>by
   simp only [gHs] at f h;simp only [gAf,gLs];rw [ih x l (by omega) (by omega)]
   have:=gR3 x l
   exact gMs ih xs _ (by omega) (by omega)
theorem gR4:∀(n:Nat)(t:gB)(l:LS),tnd t≤n→l.length+tnd t≤4294967296→gG2 n t l=some (gJ6 t l)
 | 0,⟨k,nm,ts⟩,l,h,_=>by simp only [tnd] at h;omega
 | n+1,⟨k,nm,ts⟩,l,f,q=>by
   simp only [tnd] at f q;simp only [gG2,gMg,gJ6];rw [hBf _ _ (by omega)]
   have:=gTd k nm l
   exact gMs (gR4 n) ts (gPa k nm l) (by omega) (by omega)
theorem hBh(f:gB)(q:LS)(y:Nat)(h:q.length+tnd f≤4294967296):Go.Eng.Spec Tryz.prog 161 [.d (mM f),.fn 172 [.ptr 0 0]] [.box [.sl 1 y],.own 9 1 y (gT q)] (fun sv Lo=>∃v'1,sv=.tup []∧Lo=[.box [.sl 1 v'1],.own 9 1 v'1 (gT (gJ6 f q))]):=hBe (tnd f) f q y (gR4 _ _ _ (Nat.le_refl _) h)
def zW:List gB→LS→Option LS
 | [],f=>(some f)
 | h::xs,f=>gd (f.length+tnd h≤4294967296) (lt_ (gJ6 h f) fun q=>
zW xs q)
def gGw(f:List gB):Option LS:=
zW f []
theorem gUr(a0:List gB){r:LS}(h:gGw a0=some r):mK Tryz.prog 160 [.L 3 (gN a0)] [9] [.sl 1 (gT r)]:=by
 unfold gGw at h;refine qB Tryz.func160 rfl (by kernel_rfl) rfl (by simp) fun A _=>?_;refine goL ?_;refine gC1 ?_;refine goL ?_;refine noB ?_;refine gCw 7 (fun z4=>?_);refine mG (fun(q:Nat)(y1:LS)(v2:Nat)=>⟨[(3,.ptr 1 0),(7,.L 3 (gN a0)),(8,.I (a0.length:Int)),(9,.N q)],[.own 9 1 v2 (gT y1),.box [.sl 0 v2]],Tryz.f160.ntmps⟩) (fun q y1 v2=>zW (a0.drop q) y1=some r) (fun q y1 v2=>a0.length - q) 0 [] 0 eJ h ?_;rintro q y1 v2 h;refine goL ?_;refine kI (mR (fun c5=>?_) (fun c5=>?_))
 ·have f:=vR c5;obtain⟨x6,ai,ag⟩:=drop_at f;rw [ag,zW.eq_2] at h;obtain⟨y,aa,ab⟩:=x6;refine noS ?_;refine kI (jA ?_);refine goL ?_;refine jP (jR q (gDj ai)) ?_;refine uN (hDt) ?_;obtain⟨g8,h⟩:=pU h;obtain⟨x7,aj,h⟩:=uK h;have sx7:=hBh (gB.mk y aa ab) y1 v2 g8;rw [aj] at sx7;refine gBz [1,0] (sx7) ?_;rintro _ _ ⟨v9,rfl,rfl⟩;show VO _ _ _ _ ⟨(_,.tup [])::_,[.own 9 1 v9 (gT x7),.box [.sl 0 v9],bTy y aa ab],_⟩ _;refine goL ?_;refine jP (kD q (by omega)) ?_;exact⟨(q+1),x7,v9,h,by omega,eJ⟩
 ·have f:=vS c5;rw [jK f,zW.eq_1] at h;refine goX ?_;refine jF ?_;obtain rfl:=Option.some.inj h;exact gNw
def gCp(f:gB):Option LS:=
bnd (gGw [f]) fun h=>
(some h)
theorem gR5(a0:gB){r:LS}(h:gCp a0=some r):mK Tryz.prog 133 [.d (mM a0)] [9] [.sl 1 (gT r)]:=by
 obtain⟨f,q,y⟩:=a0;unfold gCp at h;refine qB Tryz.func133 rfl (by kernel_rfl) rfl (by simp) fun A _=>?_;refine goL ?_;refine uO (u:=(.st [.i .i64 f,.s q,.sl 3 (gN y)])) ?_;obtain⟨x1,ab,h⟩:=gJ h;refine gE3 (gUr [(gB.mk f q y)] ab) ?_;refine goL ?_;refine jF ?_;obtain rfl:=Option.some.inj h;exact gNw
def gFk(a1:LB):LS→Bool
 | []=>false
 | f::xs=>(cnd (f==a1) (
true) (
gFk a1 xs ))
def yV(f:LS)(a1:LB):Bool:=
gFk a1 f
theorem gGl(y:LS)(a1:LB):jI Tryz.prog 159 [.L 1 (gT y),.S a1] [.b (yV y a1)]:=by
 obtain⟨r,h⟩:∃r,yV y a1=r:=⟨_,rfl⟩
 rw [h];unfold yV at h;refine SpI Tryz.func159 fun A _=>?_;refine goL ?_;refine noB ?_;refine gCw 0 (fun z2=>?_);refine pY (fun(q:Nat)=>⟨[(0,.L 1 (gT y)),(1,.S a1),(5,.N q)],[],Tryz.f159.ntmps⟩) (fun q=>gFk a1 (y.drop q)  =r) (fun q=>y.length - q) 0 eJ h ?_;rintro q h;refine goL ?_;refine mR (fun c3=>?_) (fun c3=>?_)
 ·have f:=vR c3;obtain⟨x4,ac,aa⟩:=drop_at f;rw [aa,gFk.eq_2] at h;refine noS ?_;refine kI (jA ?_);refine goL ?_;refine jP (jR q (gO7 ac)) ?_;refine mR (fun c5=>?_) (fun c5=>?_)
  ·replace h:=kU c5 h;refine goL ?_;refine jF ?_;subst h;exact uM
  ·replace h:=kV c5 h;refine goS ?_;refine jP (kD q (by omega)) ?_;exact⟨(q+1),h,by omega,eJ⟩
 ·have f:=vS c3;rw [jK f,gFk.eq_1] at h;refine goX ?_;refine jF ?_;subst h;exact uM
def gD2(f:gB→LS→Option LS):List gB→LS→Option LS
 | [],h=>(some h)
 | q::xs,h=>bnd (f q h) fun y=>
gD2 f xs y
def gD3(f:gB→LS→Option LS):List gB→LS→Option LS
 | [],h=>(some h)
 | q::xs,h=>bnd (f q h) fun y=>
gD3 f xs y
def gP8(f:gB→LS→Option LS)(t:gB)(h:LS):Option LS:=
lt_ ((cnd (t.kind==1) ((!(yV h t.name))) (false))) fun q=>
(cnd q (
gd (h.length+[t.name].length≤4294967296) (
gD2 f t.args (h++[t.name]))) (
gD3 f t.args h))
theorem hJk{f:gB→LS→Option LS}(q:∀(x0:gB)(x1:LS)(w0:Nat){r:LS},f x0 x1=some r→Go.Eng.Spec Tryz.prog 181 [.d (mM x0),.sl 0 w0] [.own 9 1 w0 (gT x1)] (fun sv Lo=>∃v'0,sv=.sl 0 v'0∧Lo=[.own 9 1 v'0 (gT r)]))(t:gB)(l0:LS)(v0:Nat){r:LS}(h:gP8 f t l0=some r):Go.Eng.Spec Tryz.prog 181 [.d (mM t),.sl 0 v0] [.own 9 1 v0 (gT l0)] (fun sv Lo=>∃v'0,sv=.sl 0 v'0∧Lo=[.own 9 1 v'0 (gT r)]):=by
 obtain⟨ah,ac,y⟩:=t;unfold gP8 at h;refine kJ 1 Tryz.func181 rfl (by kernel_rfl) rfl rfl fun A _=>?_;refine goL ?_;obtain⟨b1,hb1,h⟩:=uK h;refine kH ⟨[(1,.sl 0 v0),(2,.ptr 1 0),(15,.B b1)],[.own 9 1 v0 (gT l0),bTy ah ac y],Tryz.f181.ntmps⟩ ?_ ?_
 ·refine gqA 9 hb1 (fun c2 hb1=>?_);refine yT (gUa (gGl l0 ac)) ?_;cases hb1;exact eJ
 refine goC h ?_ ?_<;>intro c3 h
 ·refine goL ?_;refine wX ac ?_;obtain⟨g4,h⟩:=pU h;refine gDl g4 ?_;refine goL ?_;refine noB ?_;refine yC 1 2 (fun z8=>?_);refine mG (fun(y7:Nat)(y5:LS)(v6:Nat)=>⟨[(1,.sl 0 v6),(2,.ptr 1 0),(5,.N y7)],[.own 9 1 v6 (gT y5),bTy ah ac y,.dead 1],Tryz.f181.ntmps⟩) (fun y7 y5 v6=>gD2 f (y.drop y7) y5=some r) (fun y7 y5 v6=>y.length - y7) 0 (l0++[ac]) (v0+1) eJ h ?_;rintro y7 y5 v6 h;refine goL ?_;refine mR (fun c9=>?_) (fun c9=>?_)
  ·have ae:=vR c9;obtain⟨ba,a3,ak⟩:=drop_at ae;rw [ak,gD2.eq_2] at h;obtain⟨al,am,an⟩:=ba;refine noS ?_;refine kI (jA ?_);refine goL ?_;refine jP (jR y7 (gDj a3)) ?_;obtain⟨a4,a5,h⟩:=gJ h;refine gBz [0] (q (gB.mk al am an) y5 v6 a5) ?_;rintro _ _ ⟨ao,rfl,rfl⟩;show VO _ _ _ _ ⟨(_,.sl 0 ao)::_,[.own 9 1 ao (gT a4),bTy ah ac y,.dead 1],_⟩ _;refine goL ?_;refine jP (kD y7 (by omega)) ?_;exact⟨(y7+1),a4,ao,h,by omega,eJ⟩
  ·have ae:=vS c9;rw [jK ae,gD2.eq_1] at h;refine goX ?_;refine jF ?_;obtain rfl:=Option.some.inj h;exact gAg [.sl 0 v6] _ ⟨v6,rfl,rfl⟩
 ·refine goS ?_;refine noB ?_;refine yC 1 2 (fun bh=>?_);refine mG (fun(aa:Nat)(ag:LS)(ad:Nat)=>⟨[(1,.sl 0 ad),(2,.ptr 1 0),(5,.N aa)],[.own 9 1 ad (gT ag),bTy ah ac y],Tryz.f181.ntmps⟩) (fun aa ag ad=>gD3 f (y.drop aa) ag=some r) (fun aa ag ad=>y.length - aa) 0 l0 v0 eJ h ?_;rintro aa ag ad h;refine goL ?_;refine mR (fun ap=>?_) (fun ap=>?_)
  ·have ab:=vR ap;obtain⟨bb,a6,aq⟩:=drop_at ab;rw [aq,gD3.eq_2] at h;obtain⟨ar,au,av⟩:=bb;refine noS ?_;refine kI (jA ?_);refine goL ?_;refine jP (jR aa (gDj a6)) ?_;obtain⟨a7,a8,h⟩:=gJ h;refine gBz [0] (q (gB.mk ar au av) ag ad a8) ?_;rintro _ _ ⟨aw,rfl,rfl⟩;show VO _ _ _ _ ⟨(_,.sl 0 aw)::_,[.own 9 1 aw (gT a7),bTy ah ac y],_⟩ _;refine goL ?_;refine jP (kD aa (by omega)) ?_;exact⟨(aa+1),a7,aw,h,by omega,eJ⟩
  ·have ab:=vS ap;rw [jK ab,gD3.eq_1] at h;refine goX ?_;refine jF ?_;obtain rfl:=Option.some.inj h;exact gAg [.sl 0 ad] _ ⟨ad,rfl,rfl⟩
def gN7:Nat→gB→LS→Option LS
 | 0,_,_=>none
 | n+1,f,h=>gP8 (gN7 n) f h
theorem hJl:∀(n:Nat)(f:gB)(q:LS)(y:Nat){r:LS},gN7 n f q=some r→Go.Eng.Spec Tryz.prog 181 [.d (mM f),.sl 0 y] [.own 9 1 y (gT q)] (fun sv Lo=>∃v'0,sv=.sl 0 v'0∧Lo=[.own 9 1 v'0 (gT r)]):=by
 intro n
 induction n with
 | zero=>intro f q y r h;cases h
 | succ n ih=>intro f q y r h;exact hJk ih f q y h
theorem gZw(a:LB):∀l:LS,gFk a l=decide (a∈l)
 | []=>rfl
 | x::l=>by
   simp only [gFk,gZw a l];by_cases h:x=a
   ·subst h;simp [jQ]
   ·rw [beq_false_of_ne h];have h':¬a=x:=fun e=>h e.symm;simp [gW,h']
theorem hJm(l:LS)(a:LB):yV l a=decide (a∈l):=gZw a l
theorem gN8{rec:gB→LS→Option LS}:∀(xs:List gB)(y:LS),(∀x∈xs,∀l,l.length+tnd x≤4294967296→rec x l=some (gJ6 x l))→y.length+gHs xs≤4294967296→gD2 rec xs y=some (gLs xs y)∧gD3 rec xs y=some (gLs xs y)
 | [],y,_,_=>⟨rfl,rfl⟩
 | x::xs,y,h,hl=>by
   simp only [gHs] at hl;have f:=gR3 x y;simp only [gD2,gD3,gLs];rw [h x (by simp) y (by omega)];exact gN8 xs _ (fun z hz=>h z (by simp [hz])) (by omega)
theorem gWa:∀(n:Nat)(t:gB)(l:LS),tnd t≤n→l.length+tnd t≤4294967296→gN7 n t l=some (gJ6 t l)
 | 0,t,l,h,_=>by have:=gIz t;omega
 | n+1,⟨k,s,ts⟩,l,h,hl=>by
   simp only [tnd] at h hl;have hr:∀x∈ts,∀l,l.length+tnd x≤4294967296→gN7 n x l=some (gJ6 x l):=fun x hx l hl=>gWa n x l (by have:=gHt hx;omega) hl;simp only [gN7,gP8,lt_,hJm,gJ6,gPa];by_cases hk:k=1
   ·by_cases hs:s∈l
    ·simp only [hk,hs,beq_self_eq_true,jQ,decide_true,Bool.not_true,gW];simp only [not_true,and_false,if_false];exact(gN8 ts l hr (by omega)).2
    ·simp only [hk,hs,beq_self_eq_true,jQ,decide_false,Bool.not_false];simp only [not_false_eq_true,and_self,if_true];rw [qN (by simp;omega)];exact(gN8 ts (l++[s]) hr (by simp;omega)).1
   ·simp only [beq_false_of_ne hk,gW,hk,false_and,if_false];exact(gN8 ts l hr (by omega)).2
theorem hJn(f:gB)(q:LS)(y:Nat)(h:(q:LS).length+tnd f≤4294967296):Go.Eng.Spec Tryz.prog 181 [.d (mM f),.sl 0 y] [.own 9 1 y (gT q)] (fun sv Lo=>∃v'0,sv=.sl 0 v'0∧Lo=[.own 9 1 v'0 (gT (gJ6 f q))]):=hJl (tnd f) f q y (gWa _ _ _ (Nat.le_refl _) h)
def gBs(f:gB):Option LS:=
gd (([]:LS).length+tnd f≤4294967296) (lt_ (gJ6 f []) fun h=>
(some h))
theorem gKl(a0:gB){r:LS}(h:gBs a0=some r):jI Tryz.prog 169 [.d (mM a0)] [.sl 1 (gT r)]:=by
 obtain⟨f,q,y⟩:=a0;unfold gBs at h;refine SpI Tryz.func169 fun A _=>?_;refine goL ?_;refine gC1 ?_;obtain⟨g2,h⟩:=pU h;obtain⟨x1,ab,h⟩:=uK h;have sx1:=hJn (gB.mk f q y) [] 0 g2;rw [ab] at sx1;refine gBz [1] (sx1) ?_;rintro _ _ ⟨v3,rfl,rfl⟩;show VO _ _ _ _ ⟨(_,.sl 1 v3)::_,[bTy f q y,.own 9 1 v3 (gT x1)],_⟩ _;refine goL ?_;refine mP 1 rfl rfl ?_;refine jF ?_;cases h;exact uM
end Go.Proofs.YtfpdlnkkcnmebaaGreat
