import Derived.Test.YtfpdlnkkcnmebaaGreatSv
set_option maxHeartbeats 4000000
set_option linter.unusedVariables false
set_option linter.unusedSimpArgs false
set_option linter.unusedSectionVars false
namespace Go.Proofs.YtfpdlnkkcnmebaaGreat
open Go Go.Eng
attribute [local irreducible] V VO VQ VY Quiet QR jF mJ Rng qI qJ qB
def vH(c:gN)(a1:Int):Option (Bool × gN):=
bnd (mX c a1) fun f=>
(some ((f.1==0),f.2))
theorem zD(c:gN)(a1:Int){r:Bool × gN}(h:vH c a1=some r):Go.Eng.Spec Tryz.prog 61 [.ptr 0 0,.I a1] [bCu c.b c.i c.h] (fun sv Lo=>sv=.B r.1∧Lo=[bCu r.2.b r.2.i r.2.h]):=by
 obtain⟨ab,ac,ad⟩:=c;unfold vH at h;refine kS 1 Tryz.func61 rfl (by kernel_rfl) rfl rfl fun A _=>?_;refine goL ?_;obtain⟨⟨f,⟨q,y,aa⟩⟩,ae,h⟩:=gJ h;refine mZ 0 (pU (gN.mk ab ac ad) a1 ae) ?_;refine goL ?_;refine jG ?_;obtain rfl:=Option.some.inj h;exact gBa [.B (f==0)] _ ⟨rfl,rfl⟩
def pX(f:LB)(a1:Int):Nat→LS→Int→Int→Option LS
 | 0,q,h,c=>none
 | y+1,q,h,c=>(cnd (decide (c≤(f.length:Int))) (
bnd ((cnd (c==(f.length:Int)) ((some true)) (bnd (at? f c) fun x9=>
(some ((x9.toNat:Int)==a1))))) fun b7=>
(cnd b7 (
gd (0≤h∧h≤c∧c≤(f.length:Int)) (
gd (q.length+[((f.drop (Int.toNat h)).take (Int.toNat c - Int.toNat h))].length≤4294967296) (
pX f a1 y (q++[((f.drop (Int.toNat h)).take (Int.toNat c - Int.toNat h))]) (IntKind.i64.wrap (c+1)) (IntKind.i64.wrap (c+1))))) (
pX f a1 y q h (IntKind.i64.wrap (c+1))))) (
(some q)))
def gE9(c:LB)(a1:Int)(f:Nat):Option LS:=
pX c a1 f [] 0 0
theorem gT2(a0:LB)(a1:Int){n0:Nat}{r:LS}(h:gE9 a0 a1 n0=some r):jF Tryz.prog 138 [.S a0,.d (.i .u8 a1)] [.sl 1 (gP r)]:=by
 unfold gE9 at h;refine SpI Tryz.func138 fun A _=>?_;refine goL ?_;refine gB9 ?_;refine goL ?_;refine noB ?_;refine gWg (fun(q:Nat)(y1:LS)(c:Int)(f:Int)(y:Nat)=>⟨[(0,.S a0),(1,.d (.i .u8 a1)),(5,.sl 0 y),(6,.I c),(7,.I f)],[.own 9 1 y (gP y1)],Tryz.f138.ntmps⟩) (fun q y1 c f y=>pX a0 a1 q y1 c f=some r) (fun q y1 c f y=>q) n0 [] 0 0 0 eJ h ?_;rintro q y1 c f y h;rcases q with _ | q
 ·cases h
 rw [pX.eq_2] at h;refine goC h ?_ ?_<;>intro c6 h
 ·refine noS ?_;refine kH (jE ?_);refine goL ?_;obtain⟨b7,hb7,h⟩:=gJ h;refine kC ⟨[(0,.S a0),(1,.d (.i .u8 a1)),(5,.sl 0 y),(6,.I c),(7,.I f),(25,.B b7)],[.own 9 1 y (gP y1)],Tryz.f138.ntmps⟩ ?_ ?_
  ·refine gqO 19 hb7 (fun c8 hb7=>?_);obtain⟨x9,ac,hb7⟩:=gJ hb7;obtain⟨ad,ac⟩:=gAz ac;refine jK (gMk ad ac) ?_;cases hb7;exact eJ
  refine goC h ?_ ?_<;>intro aj h
  ·refine goL ?_;obtain⟨ae,h⟩:=pO h;refine qM (hG8 ae) ?_;refine yF ((a0.drop (Int.toNat c)).take (Int.toNat f - Int.toNat c)) ?_;obtain⟨ag,h⟩:=pO h;refine gDn ag ?_;refine goL ?_;refine jK (pV) ?_;refine jK (pV) ?_;exact⟨q,(y1++[((a0.drop (Int.toNat c)).take (Int.toNat f - Int.toNat c))]),(IntKind.i64.wrap (f+1)),(IntKind.i64.wrap (f+1)),(y+1),h,Nat.lt_succ_self _,eJ⟩
  ·refine goS ?_;refine jK (pV) ?_;exact⟨q,y1,c,(IntKind.i64.wrap (f+1)),y,h,Nat.lt_succ_self _,eJ⟩
 ·refine goX ?_;refine mI 0 rfl rfl ?_;refine jG ?_;cases h;exact uA
def gEl(c:LB)(f:Int):Option LS:=gE9 c f 5000
def gDo:LB→Bool
 | []=>true
 | c::xs=>(cnd ((c.toNat:Int) != 32) (
false) (
gDo xs ))
def gGf(c:LB):Bool:=
gDo c
theorem gYs(q:LB):jF Tryz.prog 139 [.S q] [.b (gGf q)]:=by
 obtain⟨r,h⟩:∃r,gGf q=r:=⟨_,rfl⟩
 rw [h];unfold gGf at h;refine SpI Tryz.func139 fun A _=>?_;refine goL ?_;refine noB ?_;refine hE9 0 (fun z2=>?_);refine qD (fun(f:Nat)=>⟨[(0,.S q),(3,.N f)],[],Tryz.f139.ntmps⟩) (fun f=>gDo (q.drop f)  =r) (fun f=>q.length - f) 0 eJ h ?_;rintro f h;refine goL ?_;refine mQ (fun c3=>?_) (fun c3=>?_)
 ·have c:=hNg c3;obtain⟨x4,ab,y⟩:=drop_at c;rw [y,gDo.eq_2] at h;refine noS ?_;refine kH (jE ?_);refine goL ?_;refine jK (gIw f ab) ?_;refine mQ (fun c5=>?_) (fun c5=>?_)
  ·replace h:=kT c5 h;refine goL ?_;refine jG ?_;subst h;exact uA
  ·replace h:=kU c5 h;refine goS ?_;refine jK (kD f (by omega)) ?_;exact⟨(f+1),h,by omega,eJ⟩
 ·have c:=hNh c3;rw [jH c,gDo.eq_1] at h;refine goX ?_;refine jG ?_;subst h;exact uA
def zO(c:vJ):Nat→Int→Option (vJ)
 | 0,f=>none
 | q+1,f=>bnd ((cnd (decide (f < (c.s.length:Int))) (bnd (at? c.s f) fun h=>
(cnd ((h.toNat:Int)==32) ((some true)) ((some ((h.toNat:Int)==10))))) ((some false)))) fun y=>
(cnd y (
zO c q (IntKind.i64.wrap (f+1))) (
(some (vJ.mk c.s f c.deep c.size c.bad))))
def gSe(c:vJ)(f:Nat):Option (vJ):=
zO c f c.at_
theorem gSf(c:vJ){n0:Nat}{r:vJ}(h:gSe c n0=some r):Go.Eng.Spec Tryz.prog 174 [.ptr 0 0] [bIp c.s c.at_ c.deep c.size c.bad] (fun sv Lo=>sv=.tup []∧Lo=[bIp r.s r.at_ r.deep r.size r.bad]):=by
 obtain⟨aa,ag,ab,ac,ad⟩:=c;unfold gSe at h;refine kS 1 Tryz.func174 rfl (by kernel_rfl) rfl rfl fun A _=>?_;refine noB ?_;refine gEt (fun(q:Nat)(y1:Int)=>⟨[(0,.ptr 0 0)],[bIp aa y1 ab ac ad],Tryz.f174.ntmps⟩) (fun q y1=>zO (vJ.mk aa ag ab ac ad) q y1=some r) (fun q y1=>q) n0 ag eJ h ?_;rintro q y1 h;rcases q with _ | q
 ·cases h
 rw [zO.eq_2] at h;refine gHi ?_;obtain⟨b3,hb3,h⟩:=gJ h;refine uT (P:=Tryz.prog) Mix.h ⟨[(0,.ptr 0 0),(35,.B b3)],[bIp aa y1 ab ac ad],Tryz.f174.ntmps⟩ (by kernel_rfl) ?_ ?_
 ·refine goL ?_;refine wN 12 (fun c4=>?_) (fun c4=>?_)
  ·replace hb3:=kT c4 hb3;refine goL ?_;obtain⟨x5,f,hb3⟩:=gJ hb3;obtain⟨y,f⟩:=gAz f;refine gEa (gMk y f) ?_;refine goL ?_;refine wN 23 (fun c6=>?_) (fun c6=>?_)
   ·replace hb3:=kT c6 hb3;refine goL ?_;cases hb3;exact eJ
   ·replace hb3:=kU c6 hb3;refine goL ?_;refine gEa (gMk y f) ?_;refine goL ?_;cases hb3;exact eJ
  ·replace hb3:=kU c4 hb3;refine goL ?_;cases hb3;exact eJ
 refine goC h ?_ ?_<;>intro c7 h
 ·refine noS ?_;refine jE ?_;refine goL ?_;refine jK (pV) ?_;exact⟨q,(IntKind.i64.wrap (y1+1)),h,Nat.lt_succ_self _,eJ⟩
 ·refine gRw ?_;show qB _ _ _ _ _ _;obtain rfl:=Option.some.inj h;exact hIy [] _ ⟨rfl,rfl⟩
def gM4(c:vJ):Option (vJ):=gSe c 5000
def gF5(c:Int):Bool:=
lt_ ((cnd (decide (c≥97)) ((cnd (decide (c≤122)) (true) ((cnd (decide (c≥48)) ((cnd (decide (c≤57)) (true) ((cnd (c==39) (true) ((cnd (c==45) (true) ((cnd (c==43) (true) ((cnd (c==42) (true) ((cnd (c==60) (true) ((cnd (c==61) (true) ((c==46)))))))))))))))) ((cnd (c==39) (true) ((cnd (c==45) (true) ((cnd (c==43) (true) ((cnd (c==42) (true) ((cnd (c==60) (true) ((cnd (c==61) (true) ((c==46)))))))))))))))))) ((cnd (decide (c≥48)) ((cnd (decide (c≤57)) (true) ((cnd (c==39) (true) ((cnd (c==45) (true) ((cnd (c==43) (true) ((cnd (c==42) (true) ((cnd (c==60) (true) ((cnd (c==61) (true) ((c==46)))))))))))))))) ((cnd (c==39) (true) ((cnd (c==45) (true) ((cnd (c==43) (true) ((cnd (c==42) (true) ((cnd (c==60) (true) ((cnd (c==61) (true) ((c==46)))))))))))))))))) fun f=>
f
theorem gW8(c:Int):jF Tryz.prog 183 [.d (.i .u8 c)] [.b (gF5 c)]:=by
 obtain⟨r,h⟩:∃r,gF5 c=r:=⟨_,rfl⟩
 rw [h];unfold gF5 at h;refine SpI Tryz.func183 fun A _=>?_;refine goL ?_;obtain⟨f,hb1,h⟩:=qW h;refine kC ⟨[(2,.B f)],[],Tryz.f183.ntmps⟩ ?_ ?_
 ·refine gqV 5 hb1 ?_ ?_<;>intro c2 hb1
  ·refine gqO 9 hb1 (fun c3 hb1=>?_);refine gqV 12 hb1 ?_ ?_<;>intro c4 hb1
   ·refine gqO 17 hb1 (fun c5 hb1=>?_);refine gqO 21 hb1 (fun c6 hb1=>?_);refine gqO 25 hb1 (fun c7 hb1=>?_);refine gqO 29 hb1 (fun c8 hb1=>?_);refine gqO 33 hb1 (fun c9 hb1=>?_);refine gqO 37 hb1 (fun q hb1=>?_);exact gqZ 41 hb1
   ·refine gqO 21 hb1 (fun y hb1=>?_);refine gqO 25 hb1 (fun aa hb1=>?_);refine gqO 29 hb1 (fun ab hb1=>?_);refine gqO 33 hb1 (fun ac hb1=>?_);refine gqO 37 hb1 (fun ad hb1=>?_);exact gqZ 41 hb1
  ·refine gqV 12 hb1 ?_ ?_<;>intro ae hb1
   ·refine gqO 17 hb1 (fun ag hb1=>?_);refine gqO 21 hb1 (fun ah hb1=>?_);refine gqO 25 hb1 (fun ai hb1=>?_);refine gqO 29 hb1 (fun aj hb1=>?_);refine gqO 33 hb1 (fun ak hb1=>?_);refine gqO 37 hb1 (fun al hb1=>?_);exact gqZ 41 hb1
   ·refine gqO 21 hb1 (fun am hb1=>?_);refine gqO 25 hb1 (fun an hb1=>?_);refine gqO 29 hb1 (fun ao hb1=>?_);refine gqO 33 hb1 (fun ap hb1=>?_);refine gqO 37 hb1 (fun aq hb1=>?_);exact gqZ 41 hb1
 refine goL ?_;refine jG ?_;subst h;exact uA
def gIn(c:gD→Int→Option (Int))(q:gD):Nat→Int→Int→Option (Int)
 | 0,f,h=>none
 | y+1,f,h=>lt_ ((cnd (decide (h < (q.list.length:Int))) ((decide (f≥0))) (false))) fun b4=>
(cnd b4 (
bnd (at? q.list h) fun x7=>
bnd (c x7 f) fun x8=>
gIn c q y x8 (IntKind.i64.wrap (h+1))) (
(some f)))
def gSg(c:gD→Int→Option (Int))(f:gD)(a1:Int)(h:Nat):Option (Int):=
gIn c f h (IntKind.i64.wrap (a1 - 1)) 0
theorem hDz{c:gD→Int→Option (Int)}(f:∀(x0:gD)(x1:Int){r:Int},c x0 x1=some r→jF Tryz.prog 184 [.d (qC x0),.I x1] [.i .i64 r])(a0:gD)(a1:Int){n0:Nat}{r:Int}(h:gSg c a0 a1 n0=some r):jF Tryz.prog 184 [.d (qC a0),.I a1] [.i .i64 r]:=by
 obtain⟨q,y⟩:=a0;unfold gSg at h;refine SpI Tryz.func184 fun A _=>?_;refine goL ?_;refine jK (pV) ?_;refine noB ?_;refine kV (fun(n3:Nat)(y1:Int)(y2:Int)=>⟨[(1,.I y1),(2,.ptr 0 0),(5,.I y2)],[bSx q y],Tryz.f184.ntmps⟩) (fun n3 y1 y2=>gIn c (gD.mk q y) n3 y1 y2=some r) (fun n3 y1 y2=>n3) n0 (IntKind.i64.wrap (a1 - 1)) 0 eJ h ?_;rintro n3 y1 y2 h;rcases n3 with _ | n3
 ·cases h
 rw [gIn.eq_2] at h;refine goL ?_;obtain⟨b4,hb4,h⟩:=qW h;refine kC ⟨[(1,.I y1),(2,.ptr 0 0),(5,.I y2),(16,.B b4)],[bSx q y],Tryz.f184.ntmps⟩ ?_ ?_
 ·exact gqZ 13 hb4
 refine goC h ?_ ?_<;>intro c6 h
 ·refine noS ?_;refine kH (jE ?_);refine goL ?_;obtain⟨x7,ac,h⟩:=gJ h;obtain⟨ae,ac⟩:=gAz ac;obtain⟨al,am⟩:=x7;refine jK (qY ae (uM ac)) ?_;obtain⟨x8,ah,h⟩:=gJ h;refine jK (gG (f _ _ ah)) ?_;refine jK (pV) ?_;exact⟨n3,x8,(IntKind.i64.wrap (y2+1)),h,Nat.lt_succ_self _,eJ⟩
 ·refine goX ?_;refine jG ?_;cases h;exact uA
def gSh:Nat→gD→Int→Option (Int)
 | 0,_,_=>none
 | n+1,c,f=>gSg (gSh n) c f n
theorem hD8:∀(n:Nat)(c:gD)(f:Int){r:Int},gSh n c f=some r→jF Tryz.prog 184 [.d (qC c),.I f] [.i .i64 r]:=by
 intro n
 induction n with
 | zero=>intro c f r h;cases h
 | succ n ih=>intro c f r h;exact hDz ih c f h
def gH6(c:Int)(a1:Int)(a2:Int):Bool:=
lt_ ((cnd (decide (c≥a1)) ((decide (c≤a2))) (false))) fun f=>
f
theorem gN1(c:Int)(a1:Int)(a2:Int):jF Tryz.prog 35 [.I c,.I a1,.I a2] [.b (gH6 c a1 a2)]:=by
 obtain⟨r,h⟩:∃r,gH6 c a1 a2=r:=⟨_,rfl⟩
 rw [h];unfold gH6 at h;refine SpI Tryz.func35 fun A _=>?_;refine goL ?_;obtain⟨f,hb1,h⟩:=qW h;refine kC ⟨[(6,.B f)],[],Tryz.f35.ntmps⟩ ?_ ?_
 ·exact gqZ 10 hb1
 refine goL ?_;refine jG ?_;subst h;exact uA
def gLm(c:Int)(a1:Int):Int:=
(cnd (decide (c > a1)) (
c) (
a1))
theorem gZu(c:Int)(a1:Int):jF Tryz.prog 197 [.I c,.I a1] [.i .i64 (gLm c a1)]:=by
 obtain⟨r,h⟩:∃r,gLm c a1=r:=⟨_,rfl⟩
 rw [h];unfold gLm at h;refine SpI Tryz.func197 fun A _=>?_;refine goC h ?_ ?_<;>intro f h
 ·refine goL ?_;refine jG ?_;subst h;exact uA
 ·refine goS ?_;refine jG ?_;subst h;exact uA
def gFa:List gD→LS→Option (LS × Bool)
 | [],c=>(some (c,true))
 | f::xs,c=>(cnd (f.atom==[]) (
(some ([],false))) (
gd (c.length+[f.atom].length≤4294967296) (
gFa xs (c++[f.atom]))))
def gJq(c:List gD):Option (LS × Bool):=
gFa c []
theorem gO8(a0:List gD){r:LS × Bool}(h:gJq a0=some r):jF Tryz.prog 176 [.L 2 (jA a0)] [.sl 1 (gP r.1),.b r.2]:=by
 unfold gJq at h;refine SpI Tryz.func176 fun A _=>?_;refine goL ?_;refine gB9 ?_;refine goL ?_;refine noB ?_;refine gCm 0 (fun z4=>?_);refine kV (fun(f:Nat)(y:LS)(v2:Nat)=>⟨[(0,.L 2 (jA a0)),(4,.sl 0 v2),(5,.N f)],[.own 9 1 v2 (gP y)],Tryz.f176.ntmps⟩) (fun f y v2=>gFa (a0.drop f) y=some r) (fun f y v2=>a0.length - f) 0 [] 0 eJ h ?_;rintro f y v2 h;refine goL ?_;refine mQ (fun c5=>?_) (fun c5=>?_)
 ·have c:=vF c5;obtain⟨x6,ac,ad⟩:=drop_at c;rw [ad,gFa.eq_2] at h;obtain⟨q,ah⟩:=x6;refine noS ?_;refine kH (jE ?_);refine goL ?_;refine jK (jM f (uM ac)) ?_;refine mQ (fun c7=>?_) (fun c7=>?_)
  ·replace h:=kT c7 h;refine goL ?_;refine gB9 ?_;refine goL ?_;refine mI 1 rfl rfl ?_;refine jG ?_;cases h;exact uA
  ·replace h:=kU c7 h;refine goS ?_;refine jK (jM f (uM ac)) ?_;refine yF q ?_;obtain⟨g8,h⟩:=pO h;refine gDn g8 ?_;refine goL ?_;refine jK (kD f (by omega)) ?_;exact⟨(f+1),(y++[q]),(v2+1),h,by omega,eJ⟩
 ·have c:=vG c5;rw [jH c,gFa.eq_1] at h;refine goX ?_;refine mI 0 rfl rfl ?_;refine jG ?_;cases h;exact uA
def uB(c:gD)(a1:Int):Option (gD):=
(cnd (decide (a1≥(c.list.length:Int))) (
(some (gD.mk [] []))) (
bnd (at? c.list a1) fun f=>
(some f)))
theorem uI(q:gD)(a1:Int){r:gD}(h:uB q a1=some r):jF Tryz.prog 177 [.d (qC q),.I a1] [qC r]:=by
 obtain⟨y,aa⟩:=q;unfold uB at h;refine SpI Tryz.func177 fun A _=>?_;refine goC h ?_ ?_<;>intro c1 h
 ·refine goL ?_;refine yS (jU TBd.h TZ.h rfl (by repeat constructor)) ?_;exact goR h
 ·refine goS ?_;obtain⟨x2,c,h⟩:=gJ h;obtain⟨f,c⟩:=gAz c;obtain⟨ab,ac⟩:=x2;refine qM (qY f (uM c)) ?_;exact goR h
def uV(c:Int)(a1:Int):Int:=
(cnd (decide (c < a1)) (
c) (
a1))
theorem gIo(c:Int)(a1:Int):jF Tryz.prog 215 [.I c,.I a1] [.i .i64 (uV c a1)]:=by
 obtain⟨r,h⟩:∃r,uV c a1=r:=⟨_,rfl⟩
 rw [h];unfold uV at h;refine SpI Tryz.func215 fun A _=>?_;refine goC h ?_ ?_<;>intro f h
 ·refine goL ?_;refine jG ?_;subst h;exact uA
 ·refine goS ?_;refine jG ?_;subst h;exact uA
def gIp(c:LB):gU:=
(gU.mk 3 [] c 0 (gB.mk 0 [] []) [] [])
theorem gOi(c:LB):jF Tryz.prog 145 [.S c] [zJ (gIp c)]:=by
 obtain⟨r,h⟩:∃r,gIp c=r:=⟨_,rfl⟩
 rw [h];unfold gIp at h;refine SpI Tryz.func145 fun A _=>?_;refine goL ?_;refine gAc (jU TBd.h TZ.h rfl (by repeat constructor)) ?_;refine jG ?_;subst h;exact uA
def gE5(c:Int):gU:=
(gU.mk 1 [] [] c (gB.mk 0 [] []) [] [])
theorem gL0(c:Int):jF Tryz.prog 146 [.I c] [zJ (gE5 c)]:=by
 obtain⟨r,h⟩:∃r,gE5 c=r:=⟨_,rfl⟩
 rw [h];unfold gE5 at h;refine SpI Tryz.func146 fun A _=>?_;refine goL ?_;refine gAc (jU TBd.h TZ.h rfl (by repeat constructor)) ?_;refine jG ?_;subst h;exact uA
def gGk(y:LB)(b1:Bool):LB→Int→Option (Int × Bool)
 | [],c=>bnd ((cnd b1 (
(some (IntKind.i64.wrap ((0:Int) - c)))) (
(some c)))) fun f=>
gd (gHz f) ((cnd (!((Lib.itoa f)==y)) (
(some (0,false))) (
(some (f,true)))))
 | h::xs,c=>lt_ ((cnd (decide ((h.toNat:Int) < 48)) (true) ((decide ((h.toNat:Int) > 57))))) fun q=>
(cnd q (
(some (0,false))) (
gGk y b1 xs (IntKind.i64.wrap ((IntKind.i64.wrap ((10:Int)*c))+(IntKind.i64.wrap (IntKind.u8.wrap ((h.toNat:Int) - 48)))))))
def gSi(c:LB)(a1:Int):Option (Int × Bool):=
bnd ((cnd (decide ((c.length:Int) > 0)) (bnd (at? c 0) fun q=>
(some ((q.toNat:Int)==45))) ((some false)))) fun h=>
bnd ((cnd h (
gd (0≤(1:Int)∧1≤(c.length:Int)) (
(some (c.drop (Int.toNat 1))))) (
(some c)))) fun f=>
lt_ ((cnd (decide ((f.length:Int) < 1)) (true) ((decide ((f.length:Int) > a1))))) fun y=>
(cnd y (
(some (0,false))) (
gGk c h f 0))
theorem hD9(a0:LB)(a1:Int){r:Int × Bool}(h:gSi a0 a1=some r):jF Tryz.prog 234 [.S a0,.I a1] [.i .i64 r.1,.b r.2]:=by
 unfold gSi at h;refine SpI Tryz.func234 fun A _=>?_;refine goL ?_;obtain⟨b1,hb1,h⟩:=gJ h;refine kC ⟨[(0,.S a0),(1,.I a1),(6,.B b1)],[],Tryz.f234.ntmps⟩ ?_ ?_
 ·refine gqA 13 hb1 (fun c2 hb1=>?_);obtain⟨x3,ab,hb1⟩:=gJ hb1;obtain⟨aj,ab⟩:=gAz ab;refine jK (gMk aj ab) ?_;cases hb1;exact eJ
 refine goL ?_;obtain⟨b4,hb4,h⟩:=gJ h;refine gAn ⟨[(0,.S a0),(1,.I a1),(6,.B b1),(7,.S b4)],[],Tryz.f234.ntmps⟩ ?_ ?_
 ·refine mQ (fun c5=>?_) (fun c5=>?_)
  ·replace hb4:=kT c5 hb4;refine goL ?_;obtain⟨g6,hb4⟩:=pO hb4;refine jK (hG9 g6) ?_;cases hb4;exact eJ
  ·replace hb4:=kU c5 hb4;refine yE ?_;cases hb4;exact eJ
 refine goL ?_;obtain⟨b7,hb7,h⟩:=qW h;refine kC ⟨[(0,.S a0),(6,.B b1),(7,.S b4),(30,.B b7)],[],Tryz.f234.ntmps⟩ ?_ ?_
 ·exact gqZ 25 hb7
 refine goC h ?_ ?_<;>intro c9 h
 ·exact goR h
 ·refine goS ?_;refine noB ?_;refine hE9 7 (fun ar=>?_);refine gEt (fun(c:Nat)(q:Int)=>⟨[(0,.S a0),(6,.B b1),(7,.S b4),(8,.I q),(9,.N c)],[],Tryz.f234.ntmps⟩) (fun c q=>gGk a0 b1 (b4.drop c) q=some r) (fun c q=>b4.length - c) 0 0 eJ h ?_;rintro c q h;refine goL ?_;refine mQ (fun ac=>?_) (fun ac=>?_)
  ·have f:=hNg ac;obtain⟨am,y,ad⟩:=drop_at f;rw [ad,gGk.eq_2] at h;refine noS ?_;refine kH (jE ?_);refine goL ?_;refine jK (gIw c y) ?_;obtain⟨an,hb15,h⟩:=qW h;refine kC ⟨[(0,.S a0),(6,.B b1),(7,.S b4),(8,.I q),(9,.N c),(46,.B an)],[],Tryz.f234.ntmps⟩ ?_ ?_
   ·refine gqO 41 hb15 (fun au hb15=>?_);refine jK (gIw c y) ?_;cases hb15;exact eJ
   refine goC h ?_ ?_<;>intro av h
   ·exact goR h
   ·refine goS ?_;refine jK (pV) ?_;refine qM (gIw c y) ?_;refine qM (pV) ?_;refine qM (hI3 Tryz.underlying5 Tryz.underlying3) ?_;refine jK (pV) ?_;refine jK (kD c (by omega)) ?_;exact⟨(c+1),(IntKind.i64.wrap ((IntKind.i64.wrap ((10:Int)*q))+(IntKind.i64.wrap (IntKind.u8.wrap ((am.toNat:Int) - 48))))),h,by omega,eJ⟩
  ·have f:=hNh ac;rw [jH f,gGk.eq_1] at h;refine goX ?_;obtain⟨ak,hb18,h⟩:=gJ h;refine gAn ⟨[(0,.S a0),(8,.I ak)],[],Tryz.f234.ntmps⟩ ?_ ?_
   ·refine mQ (fun ae=>?_) (fun ae=>?_)
    ·replace hb18:=kT ae hb18;refine goL ?_;refine jK (pV) ?_;cases hb18;exact eJ
    ·replace hb18:=kU ae hb18;refine yE ?_;cases hb18;exact eJ
   refine goL ?_;obtain⟨ao,h⟩:=pO h;refine jK (gG (gN7 ak ao)) ?_;refine mQ (fun ag=>?_) (fun ag=>?_)
   ·replace h:=kT ag h;exact goR h
   ·replace h:=kU ag h;refine goS ?_;refine jG ?_;cases h;exact uA
def gA0(c:gD→gD→Option (Bool))(a1:gD):List gD→Nat→Option (Bool)
 | [],f=>(some true)
 | h::xs,f=>bnd (at? a1.list (f:Int)) fun q=>
bnd (c h q) fun y=>
(cnd (!y) (
(some false)) (
gA0 c a1 xs (f+1)))
def gIq(c:gD→gD→Option (Bool))(f:gD)(a1:gD):Option (Bool):=
lt_ ((cnd (!(f.atom==a1.atom)) (true) (((f.list.length:Int) !=(a1.list.length:Int))))) fun h=>
(cnd h (
(some false)) (
gA0 c a1 f.list 0))
theorem gSj{c:gD→gD→Option (Bool)}(f:∀(x0:gD)(x1:gD){r:Bool},c x0 x1=some r→jF Tryz.prog 203 [.d (qC x0),.d (qC x1)] [.b r])(a0:gD)(a1:gD){r:Bool}(h:gIq c a0 a1=some r):jF Tryz.prog 203 [.d (qC a0),.d (qC a1)] [.b r]:=by
 obtain⟨ad,y⟩:=a0;obtain⟨aa,ab⟩:=a1;unfold gIq at h;refine SpI Tryz.func203 fun A _=>?_;refine goL ?_;obtain⟨b1,hb1,h⟩:=qW h;refine kC ⟨[(2,.ptr 0 0),(3,.ptr 1 0),(19,.B b1)],[bSx ad y,bSx aa ab],Tryz.f203.ntmps⟩ ?_ ?_
 ·exact gqZ 11 hb1
 refine goC h ?_ ?_<;>intro c3 h
 ·exact goR h
 ·refine goS ?_;refine noB ?_;refine yP 0 1 (fun z5=>?_);refine qD (fun(y4:Nat)=>⟨[(2,.ptr 0 0),(3,.ptr 1 0),(5,.N y4)],[bSx ad y,bSx aa ab],Tryz.f203.ntmps⟩) (fun y4=>gA0 c (gD.mk aa ab) (y.drop y4) y4=some r) (fun y4=>y.length - y4) 0 eJ h ?_;rintro y4 h;refine goL ?_;refine mQ (fun c6=>?_) (fun c6=>?_)
  ·have q:=vF c6;obtain⟨x7,aj,ae⟩:=drop_at q;rw [ae,gA0.eq_2] at h;obtain⟨an,ao⟩:=x7;refine noS ?_;refine kH (jE ?_);refine goL ?_;refine gCy (jM y4 (uM aj)) ?_;refine goL ?_;obtain⟨x8,ag,h⟩:=gJ h;rw [gCk] at ag;obtain⟨ap,aq⟩:=x8;refine gCy (jM y4 (uM ag)) ?_;refine goL ?_;obtain⟨x9,ak,h⟩:=gJ h;refine gCy (gG (f _ _ ak)) ?_;refine goC h ?_ ?_<;>intro aw h
   ·exact goR h
   ·refine goS ?_;refine jK (kD y4 (by omega)) ?_;exact⟨(y4+1),h,by omega,eJ⟩
  ·have q:=vG c6;rw [jH q,gA0.eq_1] at h;refine goX ?_;refine jG ?_;cases h;exact uA
def gB6:Nat→gD→gD→Option (Bool)
 | 0,_,_=>none
 | n+1,c,f=>gIq (gB6 n) c f
theorem gF6:∀(n:Nat)(c:gD)(f:gD){r:Bool},gB6 n c f=some r→jF Tryz.prog 203 [.d (qC c),.d (qC f)] [.b r]:=by
 intro n
 induction n with
 | zero=>intro c f r h;cases h
 | succ n ih=>intro c f r h;exact gSj ih c f h
@[reducible] def zL0:LS:=[[105,110,116],[98,111,111,108],[97,115,115,111,99],[100,121,110],[105,102],[108,101,116],[99,97,115,101],[110,101,119],[109,101,116,104,111,100],[112,97,99,107],[116,114,117,101],[102,97,108,115,101]]
def gF7(c:LB):Bool:=
(wY zL0 c)
theorem gSk(c:LB):jF Tryz.prog 209 [.S c] [.b (gF7 c)]:=by
 obtain⟨r,h⟩:∃r,gF7 c=r:=⟨_,rfl⟩
 rw [h];unfold gF7 at h;refine SpI Tryz.func209 fun A _=>?_;refine goL ?_;refine gAg (us:=gP zL0) ?_;refine goL ?_;refine gAc (gUo (gF2 zL0 c)) ?_;refine jG ?_;subst h;exact uA
end Go.Proofs.YtfpdlnkkcnmebaaGreat
