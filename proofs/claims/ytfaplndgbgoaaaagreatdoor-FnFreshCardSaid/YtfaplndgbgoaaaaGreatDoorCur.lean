import Derived.Test.YtfaplndgbgoaaaaGreatDoorEng38
import Derived.Test.YtfaplndgbgoaaaaGreatDoorEng67
import Derived.Test.YtfaplndgbgoaaaaGreatDoorUn1
import Derived.Test.YtfaplndgbgoaaaaGreatDoorZz
set_option maxHeartbeats 4000000
set_option linter.unusedVariables false
set_option linter.unusedSimpArgs false
set_option linter.unusedSectionVars false
namespace Go.Proofs.YtfaplndgbgoaaaaGreatDoor
open Go Go.Eng
attribute [local irreducible] V VO VQ VY Quiet QR jB kX Rng uJ uY qW
def gLp(rec_sMatch:gD→gD→(List gI)→Option (Bool × List gI))(rec_s7All:(List gD)→(List gD)→(List gI)→Option (Bool × List gI))(p:gD)(t:gD)(l0:List gI):Option (Bool × List gI):=
(cnd (p.kind==1) (
bnd (gDv l0 p.name) fun x2=>
(cnd x2.2 (
(some ((teq x2.1 t),l0))) (
gd (tok t) (lt_ (idT t) fun x6=>
gd (l0.length+[(gI.mk p.name x6)].length≤4294967296) (
(some (true,(l0++[(gI.mk p.name x6)])))))))) (
lt_ ((cnd (p.kind != t.kind) (true) ((cnd (!(p.name==t.name)) (true) (((p.args.length:Int) !=(t.args.length:Int))))))) fun b8=>
(cnd b8 (
(some (false,[]))) (
bnd (rec_s7All p.args t.args l0) fun x12=>
(cnd x12.1 (
(some (true,x12.2))) (
(some (false,[]))))))))
theorem hAd{rec_sMatch:gD→gD→(List gI)→Option (Bool × List gI)}{rec_s7All:(List gD)→(List gD)→(List gI)→Option (Bool × List gI)}(hrec_sMatch:∀(x0:gD) (x1:gD) (x2:List gI) (w0:Nat) {r:Bool × List gI},rec_sMatch x0 x1 x2=some r→Go.Eng.Spec Tryz.prog 193 [.d (jP x0),.d (jP x1),.sl 0 w0] [.arr 92 4 w0 (gQ x2)] (fun sv Lo=>∃(u'0 v'0:Nat) (j'0:List gI),(r.1=true∧sv=.tup [.sl 0 v'0,.B true]∧Lo=[.arr 92 4 v'0 (gQ r.2)])∨(r.1=false∧sv=.tup [.sl 0 u'0,.B false]∧Lo=[.arr 92 4 v'0 (gQ j'0)])))(hrec_s7All:∀(x0:List gD) (x1:List gD) (x2:List gI) (w0:Nat) {r:Bool × List gI},rec_s7All x0 x1 x2=some r→Go.Eng.Spec Tryz.prog 180 [.L 3 (gJ x0),.L 3 (gJ x1),.sl 0 w0] [.arr 92 4 w0 (gQ x2)] (fun sv Lo=>∃(u'0 v'0:Nat) (j'0:List gI),(r.1=true∧sv=.tup [.sl 0 v'0,.B true]∧Lo=[.arr 92 4 v'0 (gQ r.2)])∨(r.1=false∧sv=.tup [.sl 0 u'0,.B false]∧Lo=[.arr 92 4 v'0 (gQ j'0)])))(p:gD)(t:gD)(l0:List gI)(v0:Nat){r:Bool × List gI}(h:gLp rec_sMatch rec_s7All p t l0=some r):Go.Eng.Spec Tryz.prog 193 [.d (jP p),.d (jP t),.sl 0 v0] [.arr 92 4 v0 (gQ l0)] (fun sv Lo=>∃(u'0 v'0:Nat) (j'0:List gI),(r.1=true∧sv=.tup [.sl 0 v'0,.B true]∧Lo=[.arr 92 4 v'0 (gQ r.2)])∨(r.1=false∧sv=.tup [.sl 0 u'0,.B false]∧Lo=[.arr 92 4 v'0 (gQ j'0)])):=by
 obtain⟨p_0,p_1,p_2⟩:=p
 obtain⟨t_0,t_1,t_2⟩:=t
 unfold gLp at h
 refine mP 1 Tryz.func193 rfl (by kernel_rfl) rfl rfl fun A _=>?_
 refine goC h ?_ ?_<;>intro c1 h
 ·refine goL ?_
  obtain⟨⟨⟨x2_0_0,x2_0_1,x2_0_2⟩,x2_1⟩,hx2,h⟩:=gK h
  refine gJd (gNh l0 p_1 hx2) ?_
  refine goC h ?_ ?_<;>intro c3 h
  ·refine goL ?_
   refine gFl (gSj (gBw (gD.mk x2_0_0 x2_0_1 x2_0_2) (gD.mk t_0 t_1 t_2))) ?_
   refine jN ?_
   obtain rfl:=Option.some.inj h
   rcases Bool.eq_false_or_eq_true (teq (gD.mk x2_0_0 x2_0_1 x2_0_2) (gD.mk t_0 t_1 t_2))with q4 | q4
   ·exact gFk [.sl 0 v0,.d (.b (teq (gD.mk x2_0_0 x2_0_1 x2_0_2) (gD.mk t_0 t_1 t_2)))] [.arr 92 4 v0 (gQ l0)] ⟨v0,v0,[],.inl ⟨q4,congrArg (fun z=>SV.tup [.sl 0 v0,.B z]) q4,rfl⟩⟩
   ·exact gFk [.sl 0 v0,.d (.b (teq (gD.mk x2_0_0 x2_0_1 x2_0_2) (gD.mk t_0 t_1 t_2)))] [.arr 92 4 v0 (gQ l0)] ⟨v0,v0,l0,.inr ⟨q4,congrArg (fun z=>SV.tup [.sl 0 v0,.B z]) q4,rfl⟩⟩
  ·refine noS ?_
   refine jL (P:=Tryz.prog) Mix.h [(0,true),(1,true),(2,true),(3,true),(4,false),(5,true),(6,false),(7,false),(8,true),(9,true)] (by kernel_rfl) ?_
   refine goY ?_
   obtain⟨g5,h⟩:=mZ h
   obtain⟨⟨x6_0,x6_1,x6_2⟩,hx6,h⟩:=qR h
   have sx6:=yD (gD.mk t_0 t_1 t_2) g5
   rw [hx6] at sx6
   refine gSo (sx6) ?_
   refine goY ?_
   refine gXz 5 rfl rfl ?_
   refine pY (T:=24) (us:=gQ [(gI.mk p_1 (gD.mk x6_0 x6_1 x6_2))]) ?_
   obtain⟨g7,h⟩:=mZ h
   refine pV (T:=24) g7 ?_
   refine goY ?_
   refine kS ?_
   refine goL ?_
   refine jN ?_
   obtain rfl:=Option.some.inj h
   exact gFk [.sl 0 (v0+1),.B true] [.arr 92 4 (v0+1) (gQ (l0++[(gI.mk p_1 (gD.mk x6_0 x6_1 x6_2))]))] ⟨(v0+1),(v0+1),[],.inl ⟨rfl,rfl,rfl⟩⟩
 ·refine goS ?_
  obtain⟨b8,hb8,h⟩:=qR h
  refine jU ⟨[(2,.sl 0 v0),(3,.ptr 1 0),(4,.ptr 2 0),(53,.B b8)],[.arr 92 4 v0 (gQ l0),.box [.I p_0,.S p_1,.L 3 (gJ p_2)],.box [.I t_0,.S t_1,.L 3 (gJ t_2)]],Tryz.f193.ntmps⟩ ?_ ?_
  ·refine gN 38 (fun c9=>?_) (fun c9=>?_) (by first | rfl | (simp only [jG,gU];rfl))
   ·replace hb8:=gX c9 hb8
    refine goL ?_
    cases hb8
    exact⟨rfl,⟨⟨rfl,rfl⟩,⟨rfl,rfl⟩,⟨rfl,rfl⟩,⟨by first | rfl | (simp only [jG,gU];rfl),rfl⟩,trivial⟩,⟨_,rfl⟩,rfl⟩
   ·replace hb8:=gY c9 hb8
    refine goL ?_
    refine gN 45 (fun c10=>?_) (fun c10=>?_) (by first | rfl | (simp only [jG,gU];rfl))
    ·replace hb8:=gX c10 hb8
     refine goL ?_
     cases hb8
     exact⟨rfl,⟨⟨rfl,rfl⟩,⟨rfl,rfl⟩,⟨rfl,rfl⟩,⟨by first | rfl | (simp only [jG,gU];rfl),rfl⟩,trivial⟩,⟨_,rfl⟩,rfl⟩
    ·replace hb8:=gY c10 hb8
     refine goL ?_
     cases hb8
     exact⟨rfl,⟨⟨rfl,rfl⟩,⟨rfl,rfl⟩,⟨rfl,rfl⟩,⟨by first | rfl | (simp only [jG,gU];rfl),rfl⟩,trivial⟩,⟨_,rfl⟩,rfl⟩
  refine goC h ?_ ?_<;>intro c11 h
  ·refine goL ?_
   refine jN ?_
   obtain rfl:=Option.some.inj h
   exact gFk [.sl 0 v0,.B false] [.arr 92 4 v0 (gQ l0)] ⟨v0,v0,l0,.inr ⟨rfl,rfl,rfl⟩⟩
  ·refine goS ?_
   obtain⟨⟨x12_0,x12_1⟩,hx12,h⟩:=gK h
   refine gG0 [0] (hrec_s7All p_2 t_2 l0 v0 hx12) ?_
   rintro _ _ ⟨u14,v13,j15,⟨q16,rfl,rfl⟩ | ⟨q16,rfl,rfl⟩⟩
   ·replace h:=gX q16 h
    show VO _ _ _ _ ⟨(_,.tup [.sl 0 v13,.B true])::_,[.arr 92 4 v13 (gQ x12_1),.box [.I p_0,.S p_1,.L 3 (gJ p_2)],.box [.I t_0,.S t_1,.L 3 (gJ t_2)]],_⟩ _
    refine goL ?_
    refine jN ?_
    obtain rfl:=Option.some.inj h
    exact gFk [.sl 0 v13,.B true] [.arr 92 4 v13 (gQ x12_1)] ⟨v13,v13,[],.inl ⟨rfl,rfl,rfl⟩⟩
   ·replace h:=gY q16 h
    show VO _ _ _ _ ⟨(_,.tup [.sl 0 u14,.B false])::_,[.arr 92 4 v13 (gQ j15),.box [.I p_0,.S p_1,.L 3 (gJ p_2)],.box [.I t_0,.S t_1,.L 3 (gJ t_2)]],_⟩ _
    refine goL ?_
    refine jN ?_
    obtain rfl:=Option.some.inj h
    exact gFk [.sl 0 u14,.B false] [.arr 92 4 v13 (gQ j15)] ⟨u14,v13,j15,.inr ⟨rfl,rfl,rfl⟩⟩
def gCu(rec_sMatch:gD→gD→(List gI)→Option (Bool × List gI))(all:List gD):List gD→Nat→(List gI)→Option (Bool × List gI)
 | [],y3,y1=>(some (true,y1))
 | x6::xs,y3,y1=>bnd (at? all (y3:Int)) fun x7=>
bnd (rec_sMatch x6 x7 y1) fun x8=>
(cnd x8.1 (
gCu rec_sMatch all xs (y3+1) x8.2) (
(some (false,[]))))
def gO8(rec_sMatch:gD→gD→(List gI)→Option (Bool × List gI))(rec_s7All:(List gD)→(List gD)→(List gI)→Option (Bool × List gI))(p:List gD)(all:List gD)(l0:List gI):Option (Bool × List gI):=
gCu rec_sMatch all p 0 l0
theorem hDi{rec_sMatch:gD→gD→(List gI)→Option (Bool × List gI)}{rec_s7All:(List gD)→(List gD)→(List gI)→Option (Bool × List gI)}(hrec_sMatch:∀(x0:gD) (x1:gD) (x2:List gI) (w0:Nat) {r:Bool × List gI},rec_sMatch x0 x1 x2=some r→Go.Eng.Spec Tryz.prog 193 [.d (jP x0),.d (jP x1),.sl 0 w0] [.arr 92 4 w0 (gQ x2)] (fun sv Lo=>∃(u'0 v'0:Nat) (j'0:List gI),(r.1=true∧sv=.tup [.sl 0 v'0,.B true]∧Lo=[.arr 92 4 v'0 (gQ r.2)])∨(r.1=false∧sv=.tup [.sl 0 u'0,.B false]∧Lo=[.arr 92 4 v'0 (gQ j'0)])))(hrec_s7All:∀(x0:List gD) (x1:List gD) (x2:List gI) (w0:Nat) {r:Bool × List gI},rec_s7All x0 x1 x2=some r→Go.Eng.Spec Tryz.prog 180 [.L 3 (gJ x0),.L 3 (gJ x1),.sl 0 w0] [.arr 92 4 w0 (gQ x2)] (fun sv Lo=>∃(u'0 v'0:Nat) (j'0:List gI),(r.1=true∧sv=.tup [.sl 0 v'0,.B true]∧Lo=[.arr 92 4 v'0 (gQ r.2)])∨(r.1=false∧sv=.tup [.sl 0 u'0,.B false]∧Lo=[.arr 92 4 v'0 (gQ j'0)])))(p:List gD)(all:List gD)(l0:List gI)(v0:Nat){r:Bool × List gI}(h:gO8 rec_sMatch rec_s7All p all l0=some r):Go.Eng.Spec Tryz.prog 180 [.L 3 (gJ p),.L 3 (gJ all),.sl 0 v0] [.arr 92 4 v0 (gQ l0)] (fun sv Lo=>∃(u'0 v'0:Nat) (j'0:List gI),(r.1=true∧sv=.tup [.sl 0 v'0,.B true]∧Lo=[.arr 92 4 v'0 (gQ r.2)])∨(r.1=false∧sv=.tup [.sl 0 u'0,.B false]∧Lo=[.arr 92 4 v'0 (gQ j'0)])):=by
 unfold gO8 at h
 refine mP 1 Tryz.func180 rfl (by kernel_rfl) rfl rfl fun A _=>?_
 refine goL ?_
 refine noB ?_
 refine gFj 0 (fun z4=>?_)
 refine kR (fun(y3:Nat) (y1:List gI) (v2:Nat)=>⟨[(0,.L 3 (gJ p)),(1,.L 3 (gJ all)),(2,.sl 0 v2),(8,.N y3)],[.arr 92 4 v2 (gQ y1)],Tryz.f180.ntmps⟩) (fun y3 y1 v2=>gCu rec_sMatch all (p.drop y3) y3 y1=some r) (fun y3 y1 v2=>p.length - y3) 0 l0 v0 eJ h ?_
 rintro y3 y1 v2 h
 refine goL ?_
 refine mO (fun c5=>?_) (fun c5=>?_)
 ·have hky32:=wE c5
  obtain⟨x6,hx6,hdx6⟩:=drop_at hky32
  rw [hdx6,gCu.eq_2] at h
  obtain⟨x6_0,x6_1,x6_2⟩:=x6
  refine noS ?_
  refine kI (jE ?_)
  refine jL (P:=Tryz.prog) Mix.h [(0,true),(1,true),(2,true),(3,true),(4,true),(5,true),(6,true),(7,true),(8,true),(9,false),(10,true),(11,true),(12,true),(13,true),(14,true)] (by kernel_rfl) ?_
  refine goY ?_
  refine jC rfl (jJ y3 (gBb hx6)) ?_
  refine goY ?_
  obtain⟨x7,hx7,h⟩:=gK h
  rw [gD7] at hx7
  obtain⟨x7_0,x7_1,x7_2⟩:=x7
  refine jC rfl (jJ y3 (gBb hx7)) ?_
  refine goY ?_
  obtain⟨⟨x8_0,x8_1⟩,hx8,h⟩:=gK h
  refine gX3 [0] (hrec_sMatch (gD.mk x6_0 x6_1 x6_2) (gD.mk x7_0 x7_1 x7_2) y1 v2 hx8) ?_
  rintro _ _ ⟨u10,v9,j11,⟨q12,rfl,rfl⟩ | ⟨q12,rfl,rfl⟩⟩
  ·replace h:=gX q12 h
   refine gT2 (sv:=.tup [.sl 0 v9,.B true]) (L':=[.arr 92 4 v9 (gQ x8_1)]) (by repeat(first | exact yG.nil | (apply yG.keep;focus ((repeat constructor);done)) | (apply yG.dep;focus kernel_rfl))) ?_
   refine goY ?_
   refine kS ?_
   refine goL ?_
   refine hLb ?_
   refine goS ?_
   refine jI (jS y3 (by omega)) ?_
   exact⟨(y3+1),x8_1,v9,h,by omega,eJ⟩
  ·replace h:=gY q12 h
   refine gT2 (sv:=.tup [.sl 0 u10,.B false]) (L':=[.arr 92 4 v9 (gQ j11)]) (by repeat(first | exact yG.nil | (apply yG.keep;focus ((repeat constructor);done)) | (apply yG.dep;focus kernel_rfl))) ?_
   refine goY ?_
   refine kS ?_
   refine goL ?_
   refine hIk ?_
   refine goL ?_
   refine jN ?_
   obtain rfl:=Option.some.inj h
   exact gFk [.sl 0 v2,.B false] [.arr 92 4 v9 (gQ j11)] ⟨v2,v9,j11,.inr ⟨rfl,rfl,rfl⟩⟩
 ·have hky32:=wF c5
  rw [jF hky32,gCu.eq_1] at h
  refine goX ?_
  refine jN ?_
  obtain rfl:=Option.some.inj h
  exact gFk [.sl 0 v2,.B true] [.arr 92 4 v2 (gQ y1)] ⟨v2,v2,[],.inl ⟨rfl,rfl,rfl⟩⟩
mutual
def gGx:Nat→gD→gD→(List gI)→Option (Bool × List gI)
 | 0,_,_,_=>none
 | n+1,x0,x1,x2=>gLp (gGx n) (gI9 n) x0 x1 x2
def gI9:Nat→(List gD)→(List gD)→(List gI)→Option (Bool × List gI)
 | 0,_,_,_=>none
 | n+1,x0,x1,x2=>gO8 (gGx n) (gI9 n) x0 x1 x2
end
theorem gWt:∀(n:Nat),(∀(x0:gD) (x1:gD) (x2:List gI) (w0:Nat) {r:Bool × List gI},gGx n x0 x1 x2=some r→Go.Eng.Spec Tryz.prog 193 [.d (jP x0),.d (jP x1),.sl 0 w0] [.arr 92 4 w0 (gQ x2)] (fun sv Lo=>∃(u'0 v'0:Nat) (j'0:List gI),(r.1=true∧sv=.tup [.sl 0 v'0,.B true]∧Lo=[.arr 92 4 v'0 (gQ r.2)])∨(r.1=false∧sv=.tup [.sl 0 u'0,.B false]∧Lo=[.arr 92 4 v'0 (gQ j'0)])))∧(∀(x0:List gD) (x1:List gD) (x2:List gI) (w0:Nat) {r:Bool × List gI},gI9 n x0 x1 x2=some r→Go.Eng.Spec Tryz.prog 180 [.L 3 (gJ x0),.L 3 (gJ x1),.sl 0 w0] [.arr 92 4 w0 (gQ x2)] (fun sv Lo=>∃(u'0 v'0:Nat) (j'0:List gI),(r.1=true∧sv=.tup [.sl 0 v'0,.B true]∧Lo=[.arr 92 4 v'0 (gQ r.2)])∨(r.1=false∧sv=.tup [.sl 0 u'0,.B false]∧Lo=[.arr 92 4 v'0 (gQ j'0)]))):=by
 intro n
 induction n with
 | zero=>exact⟨(by intro x0 x1 x2 w0 r h;cases h),(by intro x0 x1 x2 w0 r h;cases h)⟩
 | succ n ih=>
   obtain⟨ih0,ih1⟩:=ih
   refine⟨(fun x0 x1 x2 w0 r h=>hAd ih0 ih1 x0 x1 x2 w0 h),(fun x0 x1 x2 w0 r h=>hDi ih0 ih1 x0 x1 x2 w0 h)⟩
theorem hDj:∀(n:Nat) (x0:List gD) (x1:List gD) (x2:List gI) (w0:Nat) {r:Bool × List gI},gI9 n x0 x1 x2=some r→Go.Eng.Spec Tryz.prog 180 [.L 3 (gJ x0),.L 3 (gJ x1),.sl 0 w0] [.arr 92 4 w0 (gQ x2)] (fun sv Lo=>∃(u'0 v'0:Nat) (j'0:List gI),(r.1=true∧sv=.tup [.sl 0 v'0,.B true]∧Lo=[.arr 92 4 v'0 (gQ r.2)])∨(r.1=false∧sv=.tup [.sl 0 u'0,.B false]∧Lo=[.arr 92 4 v'0 (gQ j'0)])):=fun n=>(gWt n).2
def gE4(a0:List gD)(a1:List gD):Option (List gI × Bool):=
(cnd ((a0.length:Int) !=(a1.length:Int)) (
(some ([],false))) (
bnd (gI9 100000 a0 a1 []) fun x2=>
(cnd x2.1 (
(some (x2.2,true))) (
(some ([],false))))))
theorem gSf(a0:List gD)(a1:List gD){r:List gI × Bool}(h:gE4 a0 a1=some r):jB Tryz.prog 163 [.L 3 (gJ a0),.L 3 (gJ a1)] [.sl 4 (gQ r.1),.b r.2]:=by
 unfold gE4 at h
 refine SpI Tryz.func163 fun A _=>?_
 refine goC h ?_ ?_<;>intro c1 h
 ·refine goL ?_
  refine zN ?_
  refine goL ?_
  refine kK 0 rfl rfl ?_
  refine jN ?_
  cases h
  exact qK
 ·refine goS ?_
  refine zN ?_
  obtain⟨⟨x2_0,x2_1⟩,hx2,h⟩:=gK h
  refine gG0 [0] (hDj 100000 a0 a1 [] 0 hx2) ?_
  rintro _ _ ⟨u4,v3,j5,⟨q6,rfl,rfl⟩ | ⟨q6,rfl,rfl⟩⟩
  ·replace h:=gX q6 h
   show VO _ _ _ _ ⟨(_,.tup [.sl 0 v3,.B true])::_,[.arr 92 4 v3 (gQ x2_1)],_⟩ _
   refine goL ?_
   refine hLb ?_
   refine goS ?_
   refine kK 0 rfl rfl ?_
   refine jN ?_
   cases h
   exact qK
  ·replace h:=gY q6 h
   show VO _ _ _ _ ⟨(_,.tup [.sl 0 u4,.B false])::_,[.arr 92 4 v3 (gQ j5)],_⟩ _
   refine goL ?_
   refine hIk ?_
   refine goL ?_
   refine zN ?_
   refine goL ?_
   refine kK 1 rfl rfl ?_
   refine jN ?_
   cases h
   exact qK
def gDl(a0:gD)(a1:gD):Option (List gI × Bool):=
bnd (gE4 [a0] [a1]) fun x1=>
(some (x1.1,x1.2))
theorem gMm(a0:gD)(a1:gD){r:List gI × Bool}(h:gDl a0 a1=some r):jB Tryz.prog 134 [.d (jP a0),.d (jP a1)] [.sl 4 (gQ r.1),.b r.2]:=by
 obtain⟨a0_0,a0_1,a0_2⟩:=a0
 obtain⟨a1_0,a1_1,a1_2⟩:=a1
 unfold gDl at h
 refine SpI Tryz.func134 fun A _=>?_
 refine goL ?_
 refine gBc (u:=(.st [.i .i64 a0_0,.s a0_1,.sl 3 (gJ a0_2)])) ?_
 refine goL ?_
 refine gBc (u:=(.st [.i .i64 a1_0,.s a1_1,.sl 3 (gJ a1_2)])) ?_
 refine vO 2 rfl rfl ?_
 refine vO 3 rfl rfl ?_
 obtain⟨⟨x1_0,x1_1⟩,hx1,h⟩:=gK h
 refine gA6 (gXe (gSf [(gD.mk a0_0 a0_1 a0_2)] [(gD.mk a1_0 a1_1 a1_2)] hx1)) ?_
 exact goR h
def zV(a0:gD)(a1:gD):Option (Bool):=
bnd (gDl a0 a1) fun x1=>
(some x1.2)
theorem gN9(a0:gD)(a1:gD){r:Bool}(h:zV a0 a1=some r):jB Tryz.prog 198 [.d (jP a0),.d (jP a1)] [.b r]:=by
 obtain⟨a0_0,a0_1,a0_2⟩:=a0
 obtain⟨a1_0,a1_1,a1_2⟩:=a1
 unfold zV at h
 refine SpI Tryz.func198 fun A _=>?_
 refine goL ?_
 obtain⟨⟨x1_0,x1_1⟩,hx1,h⟩:=gK h
 refine qP (gF (gMm (gD.mk a0_0 a0_1 a0_2) (gD.mk a1_0 a1_1 a1_2) hx1)) ?_
 exact goR h
end Go.Proofs.YtfaplndgbgoaaaaGreatDoor
set_option maxHeartbeats 4000000
set_option linter.unusedVariables false
set_option linter.unusedSimpArgs false
set_option linter.unusedSectionVars false
namespace Go.Proofs.YtfaplndgbgoaaaaGreatDoor
open Go Go.Eng
attribute [local irreducible] V VO VQ VY Quiet QR jB kX Rng uJ uY qW
mutual
def tvs:gD→List (List UInt8)
 | ⟨k,n,ts⟩=>(if k=1 then [n] else [])++gJj ts
def gJj:List gD→List (List UInt8)
 | []=>[]
 | a::ts=>tvs a++gJj ts
end
theorem gJz{v:List UInt8}:∀{ts:List gD},v∈gJj ts↔∃t∈ts,v∈tvs t
 | []=>by simp [gJj]
 | a::ts=>by simp [gJj,gJz (ts:=ts)]
mutual
theorem gWu:∀(t:gD),(tvs t).length≤tnd t
 | ⟨k,n,ts⟩=>by
   have:=gTh ts
   simp only [tvs,tnd,List.length_append]
   split<;>simp<;>omega
theorem gTh:∀(ts:List gD),(gJj ts).length≤gA8 ts
 | []=>by simp [gJj]
 | a::ts=>by
   have h1:=gWu a
   have h2:=gTh ts
   simp only [gJj,gA8,List.length_append]
   omega
end
def dom(l:List gI):List (List UInt8):=l.map gI.var_
theorem hGa{v:List UInt8}{l:List gI}(h:v∈dom l):(lkp v l).2=true:=by
 cases hb:(lkp v l).2 with
 | true=>rfl
 | false=>
   exfalso
   induction l with
   | nil=>simp [dom] at h
   | cons b l ih=>
     simp only [lkp] at hb
     by_cases e:b.var_=v
     ·subst e;simp [jH] at hb
     ·rw [beq_false_of_ne e] at hb
      simp only [dom,List.map_cons,List.mem_cons] at h
      exact ih (h.resolve_left (fun e'=>e e'.symm)) hb
mutual
def mtT:gD→gD→List gI→Option (List gI)
 | ⟨k,n,ps⟩,t,l=>cnd (k==1) (cnd (lkp n l).2 (cnd (teq (lkp n l).1 t) (some l) none) (some (l++[⟨n,t⟩])))
   (cnd (cnd (k != t.kind) true (cnd (!(n==t.name)) true ((ps.length:Int) !=(t.args.length:Int)))) none (gV2 ps t.args l))
def gV2:List gD→List gD→List gI→Option (List gI)
 | [],_,l=>some l
 | _::_,[],_=>none
 | p::ps,t::ts,l=>bnd (mtT p t l) fun l'=>gV2 ps ts l'
end
def Agr:Option (List gI)→Bool × List gI→Prop
 | none,q=>q.1=false
 | some l,q=>q=(true,l)
mutual
theorem gWv{Q:gD→Prop}(hQ:∀x,Q x→∀y∈x.args,Q y):∀(p t:gD) (l l':List gI),Q t→(∀b∈l,Q b.type_)→mtT p t l=some l'→(∀b∈l',Q b.type_)∧l'.length≤l.length+tnd p
 | ⟨k,n,ps⟩,t,l,l',ht,hl,h=>by
   simp only [mtT] at h
   simp only [tnd]
   cases hk:(k==1)with
   | true=>
     simp only [hk,jH] at h
     cases hb:(lkp n l).2 with
     | true=>
       simp only [hb,jH] at h
       cases he:teq (lkp n l).1 t with
       | true=>simp only [he,jH,Option.some.injEq] at h;subst h;exact⟨hl,by omega⟩
       | false=>simp [he,gP] at h
     | false=>
       simp only [hb,gP,Option.some.injEq] at h
       subst h
       refine⟨fun b hb'=>?_,by simp only [List.length_append,List.length_cons,List.length_nil];omega⟩
       rcases List.mem_append.1 hb' with hb' | hb'
       ·exact hl b hb'
       ·simp only [List.mem_singleton] at hb'
        subst hb'
        exact ht
   | false=>
     simp only [hk,gP] at h
     cases hc:(cnd (k != t.kind) true (cnd (!(n==t.name)) true ((ps.length:Int) !=(t.args.length:Int))))with
     | true=>simp [hc,jH] at h
     | false=>
       simp only [hc,gP] at h
       have:=gTi hQ ps t.args l l' (hQ t ht) hl h
       exact⟨this.1,by omega⟩
theorem gTi{Q:gD→Prop}(hQ:∀x,Q x→∀y∈x.args,Q y):∀(ps ts:List gD) (l l':List gI),(∀t∈ts,Q t)→(∀b∈l,Q b.type_)→gV2 ps ts l=some l'→(∀b∈l',Q b.type_)∧l'.length≤l.length+gA8 ps
 | [],_,l,l',_,hl,h=>by simp only [gV2,Option.some.injEq] at h;subst h;exact⟨hl,by simp⟩
 | _::_,[],_,_,_,_,h=>by simp [gV2] at h
 | p::ps,t::ts,l,l',ht,hl,h=>by
   simp only [gV2] at h
   obtain⟨l1,h1,h2⟩:=gK h
   obtain⟨q1,q2⟩:=gWv hQ p t l l1 (ht t (by simp)) hl h1
   obtain⟨q3,q4⟩:=gTi hQ ps ts l1 l' (fun t h=>ht t (by simp [h])) q1 h2
   simp only [gA8]
   exact⟨q3,by omega⟩
end
theorem hGb:∀x,tok x→∀y∈x.args,tok y:=fun x hx y hy=>by
 obtain⟨k,n,ts⟩:=x
 simp only [tok] at hx
 exact gG2.1 hx.2 y hy
theorem gOa{n:Nat}(ih:∀(p t:gD) (l:List gI),2*tnd p≤n→bok l→tok t→l.length+tnd p≤4000000→∃q,gGx n p t l=some q∧Agr (mtT p t l) q)(all:List gD)(hall:∀t∈all,tok t) :
  ∀(xs:List gD) (k:Nat) (l:List gI),2*gA8 xs≤n→bok l→all.length=k+xs.length→l.length+gA8 xs≤4000000→∃q,gCu (gGx n) all xs k l=some q∧Agr (gV2 xs (all.drop k) l) q
 | [],k,l,_,_,h,_=>⟨_,rfl,rfl⟩
 | x::xs,k,l,hn,hb,h,hl=>by
   simp only [List.length_cons] at h
   simp only [gA8] at hn hl
   have hk:k < all.length:=by omega
   have hx:all[k]? =some all[k]:=List.getElem?_eq_getElem hk
   obtain⟨q,e1,e2⟩:=ih x all[k] l (by omega) hb (hall _ (List.getElem_mem hk)) (by omega)
   rw [gCu.eq_2,gD7,hx,List.drop_eq_getElem_cons hk]
   simp only [bnd,e1,gV2]
   cases hm:mtT x all[k] l with
   | none=>
     rw [hm] at e2
     have e3:q.1=false:=e2
     simp only [e3,gP]
     exact⟨_,rfl,rfl⟩
   | some l1=>
     rw [hm] at e2
     have e3:q=(true,l1):=e2
     subst e3
     simp only [jH]
     obtain⟨r1,r2⟩:=gWv hGb x all[k] l l1 (hall _ (List.getElem_mem hk)) hb hm
     exact gOa ih all hall xs (k+1) l1 (by omega) r1 (by omega) (by omega)
theorem gMn:∀(n:Nat),(∀(p t:gD) (l:List gI),2*tnd p≤n→bok l→tok t→l.length+tnd p≤4000000→∃q,gGx n p t l=some q∧Agr (mtT p t l) q)∧
  (∀(ps ts:List gD) (l:List gI),2*gA8 ps+1≤n→bok l→(∀t∈ts,tok t)→ts.length=ps.length→l.length+gA8 ps≤4000000→∃q,gI9 n ps ts l=some q∧Agr (gV2 ps ts l) q)
 | 0=>⟨fun p t l h=>by have:=gD5 p;omega,fun ps ts l h=>by omega⟩
 | n+1=>by
   obtain⟨ih1,ih2⟩:=gMn n
   refine⟨fun p t l hn hb ht hl=>?_,fun ps ts l hn hb ht hlen hl=>?_⟩
   ·obtain⟨k,nm,ps⟩:=p
    simp only [tnd] at hn hl
    rw [gGx.eq_2]
    unfold gLp
    simp only [lt_,idT,mtT]
    cases hk:(k==1)with
    | true=>
      simp only [jH]
      have hlk:gDv l nm=some (lkp nm l):=gEh nm l hb
      rw [kG hlk]
      cases (lkp nm l).2 with
      | true=>
        simp only [jH]
        refine⟨_,rfl,?_⟩
        cases teq (lkp nm l).1 t<;>rfl
      | false=>
        simp only [gP]
        rw [pF ht,pF (by simp;omega)]
        exact⟨_,rfl,rfl⟩
    | false=>
      simp only [gP]
      cases h1:(cnd (k != t.kind) true (cnd (!(nm==t.name)) true ((ps.length:Int) !=(t.args.length:Int))))with
      | true=>simp only [jH];exact⟨_,rfl,rfl⟩
      | false=>
        simp only [gP]
        have hlen:t.args.length=ps.length:=by
         cases h2:(k != t.kind)with
         | true=>rw [h2] at h1;simp [jH] at h1
         | false=>
           rw [h2] at h1
           simp only [gP] at h1
           cases h3:(!(nm==t.name))with
           | true=>rw [h3] at h1;simp [jH] at h1
           | false=>
             rw [h3] at h1
             simp only [gP] at h1
             have:((ps.length:Int))=t.args.length:=by simpa using h1
             omega
        obtain⟨q,e1,e2⟩:=ih2 ps t.args l (by omega) hb (hGb t ht) hlen (by omega)
        rw [kG e1]
        cases hm:gV2 ps t.args l with
        | none=>
          rw [hm] at e2
          have e3:q.1=false:=e2
          simp only [e3,gP]
          exact⟨_,rfl,rfl⟩
        | some l1=>
          rw [hm] at e2
          have e3:q=(true,l1):=e2
          subst e3
          exact⟨_,rfl,rfl⟩
   ·rw [gI9.eq_2]
    unfold gO8
    have:=gOa ih1 ts ht ps 0 l (by omega) hb (by omega) (by omega)
    rwa [List.drop_zero] at this
theorem gGy(p t:gD)(hp:tnd p≤40000)(ht:tok t):zV p t=some (mtT p t []).isSome:=by
 obtain⟨q,e1,e2⟩:=(gMn 100000).2 [p] [t] [] (by simp only [gA8];omega) (fun b hb=>by simp at hb) (by simpa using ht) rfl (by simp [gA8];omega)
 have h0:((([p]:List gD).length:Int) !=(([t]:List gD).length:Int))=false:=by simp
 unfold zV gDl gE4
 rw [h0,gP,kG e1]
 simp only [gV2] at e2
 cases hm:mtT p t [] with
 | none=>
   rw [hm] at e2
   have e3:q.1=false:=e2
   rw [e3]
   rfl
 | some l=>
   rw [hm] at e2
   have e3:q=(true,l):=e2
   subst e3
   rfl
end Go.Proofs.YtfaplndgbgoaaaaGreatDoor
set_option maxHeartbeats 4000000
set_option linter.unusedVariables false
set_option linter.unusedSimpArgs false
set_option linter.unusedSectionVars false
namespace Go.Proofs.YtfaplndgbgoaaaaGreatDoor
open Go Go.Eng
attribute [local irreducible] V VO VQ VY Quiet QR jB kX Rng uJ uY qW
def gEl(code:List UInt8):Nat→Int→Int→Option (jA)
 | 0,y1,y2=>none
 | n3+1,y1,y2=>lt_ ((cnd (decide (y2 < (code.length:Int))) ((decide (y2 < 4000))) (false))) fun b4=>
(cnd b4 (
bnd (at? code y2) fun x7=>
gEl code n3 (gV4 (IntKind.i64.wrap ((IntKind.i64.wrap ((IntKind.i64.wrap (y1*131))+(IntKind.i64.wrap (x7.toNat:Int))))+7)) 1073741823) (IntKind.i64.wrap (y2+1))) (
(some (jA.mk code 0 y1))))
def gMo(code:List UInt8)(n0:Nat):Option (jA):=
gEl code n0 (IntKind.i64.wrap ((28803:Int)+(code.length:Int))) 0
theorem hDk(code:List UInt8){n0:Nat}{r:jA}(h:gMo code n0=some r):Go.Eng.Spec Tryz.prog 10 [.L 1 (kQ code)] [] (fun sv Lo=>sv=.ptr 0 0∧Lo=[.box [.L 1 (kQ r.b),.I r.i,.I r.h]]):=by
 unfold gMo at h
 refine mP 0 Tryz.func10 rfl (by kernel_rfl) rfl rfl fun A _=>?_
 refine goL ?_
 refine jI (hEd) ?_
 refine jI (qC) ?_
 refine noB ?_
 refine kR (fun(n3:Nat) (y1:Int) (y2:Int)=>⟨[(0,.L 1 (kQ code)),(3,.I y1),(4,.I y2)],[],Tryz.f10.ntmps⟩) (fun n3 y1 y2=>gEl code n3 y1 y2=some r) (fun n3 y1 y2=>n3) n0 (IntKind.i64.wrap ((28803:Int)+(code.length:Int))) 0 eJ h ?_
 rintro n3 y1 y2 h
 rcases n3 with _ | n3
 ·cases h
 rw [gEl.eq_2] at h
 refine goL ?_
 obtain⟨b4,hb4,h⟩:=qR h
 refine jU ⟨[(0,.L 1 (kQ code)),(3,.I y1),(4,.I y2),(15,.B b4)],[],Tryz.f10.ntmps⟩ ?_ ?_
 ·refine gN 12 (fun c5=>?_) (fun c5=>?_)
  ·replace hb4:=gX c5 hb4
   refine goL ?_
   cases hb4
   exact eJ
  ·replace hb4:=gY c5 hb4
   refine goL ?_
   cases hb4
   exact eJ
 refine goC h ?_ ?_<;>intro c6 h
 ·refine noS ?_
  refine kI (jE ?_)
  refine goL ?_
  refine jI (qC) ?_
  obtain⟨x7,hx7,h⟩:=gK h
  obtain⟨hx70,hx7⟩:=gD6 hx7
  refine jI (qU hx70 (hEc hx7)) ?_
  refine qP (hEf Tryz.underlying5 Tryz.underlying3) ?_
  refine qP (qC) ?_
  refine qP (qC) ?_
  refine jI (gXu) ?_
  refine jI (qC) ?_
  exact⟨n3,(gV4 (IntKind.i64.wrap ((IntKind.i64.wrap ((IntKind.i64.wrap (y1*131))+(IntKind.i64.wrap (x7.toNat:Int))))+7)) 1073741823),(IntKind.i64.wrap (y2+1)),h,Nat.lt_succ_self _,eJ⟩
 ·refine goX ?_
  refine gFl (kD TBd.h TZ.h rfl (by repeat constructor)) ?_
  refine jN ?_
  obtain rfl:=Option.some.inj h
  exact gFk [.ptr 0 0] [.box [.L 1 (kQ code),.I 0,.I y1]] ⟨rfl,rfl⟩
def gH0(code:List UInt8):jA:=(gMo code 4001).getD ⟨[],0,0⟩
theorem gMp(code:List UInt8):∀(n:Nat) (y1 y2:Int),0≤y2→y2≤4000→(4001 - y2).toNat≤n→∃h,gEl code n y1 y2=some ⟨code,0,h⟩
 | 0,y1,y2,h0,h1,hn=>by omega
 | n+1,y1,y2,h0,h1,hn=>by
   simp only [gEl,lt_]
   cases hc:decide (y2 < (code.length:Int))with
   | false=>exact⟨y1,rfl⟩
   | true=>
     simp only [jH]
     cases hd:decide (y2 < 4000)with
     | false=>exact⟨y1,rfl⟩
     | true=>
       have h3:=of_decide_eq_true hc
       have h4:=of_decide_eq_true hd
       have hx:at? code y2=some (code[y2.toNat]'(by omega)):=by unfold at?;rw [if_pos h0];exact List.getElem?_eq_getElem _
       simp only [jH]
       rw [kG hx,wP (y2+1) (by omega) (by omega)]
       exact gMp code n _ (y2+1) (by omega) (by omega) (by omega)
theorem gTj(code:List UInt8):gMo code 4001=some (gH0 code)∧(gH0 code).b=code∧(gH0 code).i=0:=by
 obtain⟨h,e⟩:=gMp code 4001 (IntKind.i64.wrap ((28803:Int)+(code.length:Int))) 0 (by omega) (by omega) (by omega)
 have e':gMo code 4001=some ⟨code,0,h⟩:=e
 unfold gH0
 rw [e']
 exact⟨rfl,rfl,rfl⟩
theorem hDm(code:List UInt8):Go.Eng.Spec Tryz.prog 10 [.L 1 (kQ code)] [] (fun sv Lo=>sv=.ptr 0 0∧Lo=[.box [.d (.sl 1 (kQ (gH0 code).b)),.d (.i .i64 (gH0 code).i),.d (.i .i64 (gH0 code).h)]]):=hDk code (gTj code).1
def gEe(c:jA):Option (Int × jA):=
(cnd (decide (c.i < (c.b.length:Int))) (
bnd (at? c.b c.i) fun x2=>
(some ((gV4 (IntKind.i64.wrap ((gV4 (hGv (hAz (IntKind.i64.wrap ((IntKind.i64.wrap (c.h*6364136223846793005))+1442695040888963407)) 33) (hAz (IntKind.i64.wrap ((IntKind.i64.wrap (c.h*6364136223846793005))+1442695040888963407)) 45)) 255)+(IntKind.i64.wrap (x2.toNat:Int)))) 255),(jA.mk c.b (IntKind.i64.wrap (c.i+1)) (IntKind.i64.wrap ((IntKind.i64.wrap (c.h*6364136223846793005))+1442695040888963407)))))) (
(some ((gV4 (hGv (hAz (IntKind.i64.wrap ((IntKind.i64.wrap (c.h*6364136223846793005))+1442695040888963407)) 33) (hAz (IntKind.i64.wrap ((IntKind.i64.wrap (c.h*6364136223846793005))+1442695040888963407)) 45)) 255),(jA.mk c.b c.i (IntKind.i64.wrap ((IntKind.i64.wrap (c.h*6364136223846793005))+1442695040888963407)))))))
theorem gJ0(c:jA){r:Int × jA}(h:gEe c=some r):Go.Eng.Spec Tryz.prog 36 [.ptr 0 0] [.box [.L 1 (kQ c.b),.I c.i,.I c.h]] (fun sv Lo=>sv=.I r.1∧Lo=[.box [.L 1 (kQ r.2.b),.I r.2.i,.I r.2.h]]):=by
 obtain⟨c_0,c_1,c_2⟩:=c
 unfold gEe at h
 refine mP 1 Tryz.func36 rfl (by kernel_rfl) rfl rfl fun A _=>?_
 refine goL ?_
 refine qP (qC) ?_
 refine jI (qC) ?_
 refine gDm (hCm) ?_
 refine goL ?_
 refine gDm (hCm) ?_
 refine gDm (hGw) ?_
 refine gDm (gXu) ?_
 refine goC h ?_ ?_<;>intro c1 h
 ·refine goL ?_
  obtain⟨x2,hx2,h⟩:=gK h
  obtain⟨hx20,hx2⟩:=gD6 hx2
  refine gDm (qU hx20 (hEc hx2)) ?_
  refine goL ?_
  refine gDm (hEf Tryz.underlying5 Tryz.underlying3) ?_
  refine gDm (qC) ?_
  refine gDm (gXu) ?_
  refine goL ?_
  refine jI (qC) ?_
  refine jN ?_
  obtain rfl:=Option.some.inj h
  exact gFk [.d (.i .i64 (gV4 (IntKind.i64.wrap ((gV4 (hGv (hAz (IntKind.i64.wrap ((IntKind.i64.wrap (c_2*6364136223846793005))+1442695040888963407)) 33) (hAz (IntKind.i64.wrap ((IntKind.i64.wrap (c_2*6364136223846793005))+1442695040888963407)) 45)) 255)+(IntKind.i64.wrap (x2.toNat:Int)))) 255))] [.box [.L 1 (kQ c_0),.d (.i .i64 (IntKind.i64.wrap (c_1+1))),.d (.i .i64 (IntKind.i64.wrap ((IntKind.i64.wrap (c_2*6364136223846793005))+1442695040888963407)))]] ⟨rfl,rfl⟩
 ·refine goS ?_
  refine jN ?_
  obtain rfl:=Option.some.inj h
  exact gFk [.d (.i .i64 (gV4 (hGv (hAz (IntKind.i64.wrap ((IntKind.i64.wrap (c_2*6364136223846793005))+1442695040888963407)) 33) (hAz (IntKind.i64.wrap ((IntKind.i64.wrap (c_2*6364136223846793005))+1442695040888963407)) 45)) 255))] [.box [.L 1 (kQ c_0),.I c_1,.d (.i .i64 (IntKind.i64.wrap ((IntKind.i64.wrap (c_2*6364136223846793005))+1442695040888963407)))]] ⟨rfl,rfl⟩
def yQ(c:jA)(n:Int):Option (Int × jA):=
(cnd (decide (n≤0)) (
(some (0,c))) (
(cnd (decide (n≤256)) (
bnd (gEe c) fun x3=>
gd (n≠0) (
(some ((Int.tmod x3.1 n),x3.2)))) (
bnd (gEe c) fun x5=>
bnd (gEe x5.2) fun x6=>
bnd (gEe x6.2) fun x7=>
bnd (gEe x7.2) fun x8=>
gd (n≠0) (
(some ((Int.tmod (IntKind.i64.wrap ((IntKind.i64.wrap ((IntKind.i64.wrap ((IntKind.i64.wrap (x5.1*16777216))+(IntKind.i64.wrap (x6.1*65536))))+(IntKind.i64.wrap (x7.1*256))))+x8.1)) n),x8.2)))))))
theorem gCk(c:jA)(n:Int){r:Int × jA}(h:yQ c n=some r):Go.Eng.Spec Tryz.prog 21 [.ptr 0 0,.I n] [.box [.L 1 (kQ c.b),.I c.i,.I c.h]] (fun sv Lo=>sv=.I r.1∧Lo=[.box [.L 1 (kQ r.2.b),.I r.2.i,.I r.2.h]]):=by
 obtain⟨c_0,c_1,c_2⟩:=c
 unfold yQ at h
 refine mP 1 Tryz.func21 rfl (by kernel_rfl) rfl rfl fun A _=>?_
 refine goC h ?_ ?_<;>intro c1 h
 ·refine goL ?_
  refine jN ?_
  obtain rfl:=Option.some.inj h
  exact gFk [.I 0] [.box [.L 1 (kQ c_0),.I c_1,.I c_2]] ⟨rfl,rfl⟩
 ·refine goS ?_
  refine mO (fun c2=>?_) (fun c2=>?_)
  ·replace h:=gX c2 h
   refine goL ?_
   obtain⟨⟨x3_0,⟨x3_1_0,x3_1_1,x3_1_2⟩⟩,hx3,h⟩:=gK h
   refine zI 0 (gJ0 (jA.mk c_0 c_1 c_2) hx3) ?_
   refine goL ?_
   obtain⟨g4,h⟩:=mZ h
   refine jI (hCn g4) ?_
   refine jN ?_
   obtain rfl:=Option.some.inj h
   exact gFk [.I (Int.tmod x3_0 n)] [.box [.L 1 (kQ x3_1_0),.I x3_1_1,.I x3_1_2]] ⟨rfl,rfl⟩
  ·replace h:=gY c2 h
   refine goS ?_
   obtain⟨⟨x5_0,⟨x5_1_0,x5_1_1,x5_1_2⟩⟩,hx5,h⟩:=gK h
   refine zI 0 (gJ0 (jA.mk c_0 c_1 c_2) hx5) ?_
   refine goL ?_
   obtain⟨⟨x6_0,⟨x6_1_0,x6_1_1,x6_1_2⟩⟩,hx6,h⟩:=gK h
   refine zI 0 (gJ0 (jA.mk x5_1_0 x5_1_1 x5_1_2) hx6) ?_
   refine goL ?_
   obtain⟨⟨x7_0,⟨x7_1_0,x7_1_1,x7_1_2⟩⟩,hx7,h⟩:=gK h
   refine zI 0 (gJ0 (jA.mk x6_1_0 x6_1_1 x6_1_2) hx7) ?_
   refine goL ?_
   obtain⟨⟨x8_0,⟨x8_1_0,x8_1_1,x8_1_2⟩⟩,hx8,h⟩:=gK h
   refine zI 0 (gJ0 (jA.mk x7_1_0 x7_1_1 x7_1_2) hx8) ?_
   refine goL ?_
   refine jI (qC) ?_
   refine qP (qC) ?_
   refine jI (qC) ?_
   refine qP (qC) ?_
   refine jI (qC) ?_
   refine jI (qC) ?_
   obtain⟨g9,h⟩:=mZ h
   refine jI (hCn g9) ?_
   refine jN ?_
   obtain rfl:=Option.some.inj h
   exact gFk [.d (.i .i64 (Int.tmod (IntKind.i64.wrap ((IntKind.i64.wrap ((IntKind.i64.wrap ((IntKind.i64.wrap (x5_0*16777216))+(IntKind.i64.wrap (x6_0*65536))))+(IntKind.i64.wrap (x7_0*256))))+x8_0)) n))] [.box [.L 1 (kQ x8_1_0),.I x8_1_1,.I x8_1_2]] ⟨rfl,rfl⟩
def gEf(c:jA)(l:List (List UInt8)):Option (List UInt8 × jA):=
bnd (yQ c (l.length:Int)) fun x1=>
bnd (at? l x1.1) fun x2=>
(some (x2,x1.2))
theorem gLq(c:jA)(l:List (List UInt8)){r:List UInt8 × jA}(h:gEf c l=some r):Go.Eng.Spec Tryz.prog 27 [.ptr 0 0,.L 1 (gZ l)] [.box [.L 1 (kQ c.b),.I c.i,.I c.h]] (fun sv Lo=>sv=.S r.1∧Lo=[.box [.L 1 (kQ r.2.b),.I r.2.i,.I r.2.h]]):=by
 obtain⟨c_0,c_1,c_2⟩:=c
 unfold gEf at h
 refine mP 1 Tryz.func27 rfl (by kernel_rfl) rfl rfl fun A _=>?_
 refine goL ?_
 obtain⟨⟨x1_0,⟨x1_1_0,x1_1_1,x1_1_2⟩⟩,hx1,h⟩:=gK h
 refine zI 0 (gCk (jA.mk c_0 c_1 c_2) (l.length:Int) hx1) ?_
 obtain⟨x2,hx2,h⟩:=gK h
 obtain⟨hx20,hx2⟩:=gD6 hx2
 refine jI (qU hx20 (gOe hx2)) ?_
 refine jN ?_
 obtain rfl:=Option.some.inj h
 exact gFk [.S x2] [.box [.L 1 (kQ x1_1_0),.I x1_1_1,.I x1_1_2]] ⟨rfl,rfl⟩
end Go.Proofs.YtfaplndgbgoaaaaGreatDoor
