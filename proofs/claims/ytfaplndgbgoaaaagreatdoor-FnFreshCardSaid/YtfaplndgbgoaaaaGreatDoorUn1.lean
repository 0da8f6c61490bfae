import Derived.Test.YtfaplndgbgoaaaaGreatDoorEng38
import Derived.Test.YtfaplndgbgoaaaaGreatDoorEng67
set_option maxHeartbeats 4000000
set_option linter.unusedVariables false
set_option linter.unusedSimpArgs false
set_option linter.unusedSectionVars false
namespace Go.Proofs.YtfaplndgbgoaaaaGreatDoor
open Go Go.Eng
attribute [local irreducible] V VO VQ VY Quiet QR jB kX Rng uJ uY qW
mutual
def tnd:gD→Nat
 | ⟨_,_,ts⟩=>1+gA8 ts
def gA8:List gD→Nat
 | []=>0
 | a::ts=>tnd a+gA8 ts
end
mutual
def tok:gD→Prop
 | ⟨_,_,ts⟩=>ts.length≤4294967296∧gPv ts
def gPv:List gD→Prop
 | []=>True
 | a::ts=>tok a∧gPv ts
end
def hFu(ts:List gD):Prop:=ts.length≤4294967296∧gPv ts
theorem gG2:∀{ts:List gD},gPv ts↔∀t∈ts,tok t
 | []=>by simp [gPv]
 | a::ts=>by simp [gPv,gG2 (ts:=ts)]
theorem gCo{x:gD}:∀{ts:List gD},x∈ts→tnd x≤gA8 ts
 | [],h=>by simp at h
 | a::ts,h=>by
   simp only [gA8]
   rcases List.mem_cons.1 h with rfl | h
   ·omega
   ·have:=gCo h
    omega
theorem gD5(t:gD):1≤tnd t:=by cases t;simp only [tnd];omega
def idT(t:gD):gD:=t
def hKj(t:List gD):List gD:=t
mutual
def hO5:gD→Bool
 | ⟨_,_,ts⟩=>decide (ts.length≤4294967296) && gYo ts
def gYo:List gD→Bool
 | []=>true
 | a::ts=>hO5 a && gYo ts
end
mutual
theorem gT9:∀(t:gD),hO5 t=true↔tok t
 | ⟨k,n,ts⟩=>by simp only [hO5,tok,Bool.and_eq_true,decide_eq_true_eq,gRi ts]
theorem gRi:∀(ts:List gD),gYo ts=true↔gPv ts
 | []=>by simp [gYo,gPv]
 | a::ts=>by simp only [gYo,gPv,Bool.and_eq_true,gT9 a,gRi ts]
end
instance (t:gD):Decidable (tok t):=decidable_of_iff _ (gT9 t)
def gG3(rec_iCopyType:gD→Option (gD))(rec_iCopyTypes:(List gD)→Option (List gD))(a0:gD):Option (gD):=
bnd (rec_iCopyTypes a0.args) fun x1=>
(some (gD.mk a0.kind a0.name x1))
theorem gSy{rec_iCopyType:gD→Option (gD)}{rec_iCopyTypes:(List gD)→Option (List gD)}(hrec_iCopyType:∀(x0:gD) {r:gD},rec_iCopyType x0=some r→kX Tryz.prog 30 [.d (jP x0)] [32] [jP r])(hrec_iCopyTypes:∀(x0:List gD) {r:List gD},rec_iCopyTypes x0=some r→kX Tryz.prog 50 [.L 3 (gJ x0)] [32] [.sl 3 (gJ r)])(a0:gD){r:gD}(h:gG3 rec_iCopyType rec_iCopyTypes a0=some r):kX Tryz.prog 30 [.d (jP a0)] [32] [jP r]:=by
 obtain⟨a0_0,a0_1,a0_2⟩:=a0
 unfold gG3 at h
 refine qI Tryz.func30 rfl (by kernel_rfl) rfl (by simp) fun A _=>?_
 refine goL ?_
 obtain⟨x1,hx1,h⟩:=gK h
 refine gJd (hrec_iCopyTypes a0_2 hx1) ?_
 refine goL ?_
 refine jN ?_
 obtain rfl:=Option.some.inj h
 exact gPi
def vE(rec_iCopyType:gD→Option (gD)):List gD→Nat→(List gD)→Option (List gD)
 | [],y4,y2=>(some y2)
 | x7::xs,y4,y2=>bnd (rec_iCopyType x7) fun x8=>
gd (y4 < y2.length) (
vE rec_iCopyType xs (y4+1) (y2.set y4 x8))
def gFy(rec_iCopyType:gD→Option (gD))(rec_iCopyTypes:(List gD)→Option (List gD))(a0:List gD):Option (List gD):=
gd (a0.length≤4294967296) (
vE rec_iCopyType a0 0 (List.replicate a0.length (gD.mk 0 [] [])))
theorem gRj{rec_iCopyType:gD→Option (gD)}{rec_iCopyTypes:(List gD)→Option (List gD)}(hrec_iCopyType:∀(x0:gD) {r:gD},rec_iCopyType x0=some r→kX Tryz.prog 30 [.d (jP x0)] [32] [jP r])(hrec_iCopyTypes:∀(x0:List gD) {r:List gD},rec_iCopyTypes x0=some r→kX Tryz.prog 50 [.L 3 (gJ x0)] [32] [.sl 3 (gJ r)])(a0:List gD){r:List gD}(h:gFy rec_iCopyType rec_iCopyTypes a0=some r):kX Tryz.prog 50 [.L 3 (gJ a0)] [32] [.sl 3 (gJ r)]:=by
 unfold gFy at h
 refine qI Tryz.func50 rfl (by kernel_rfl) rfl (by simp) fun A _=>?_
 refine goL ?_
 obtain⟨g1,h⟩:=mZ h
 refine hDz (gD.mk 0 [] []) g1 ?_
 refine goL ?_
 refine noB ?_
 refine gFj 9 (fun z5=>?_)
 refine kR (fun(y4:Nat) (y2:List gD) (v3:Nat)=>⟨[(3,.sl 0 v3),(9,.L 3 (gJ a0)),(10,.I (a0.length:Int)),(11,.N y4)],[.own 32 3 v3 (gJ y2)],Tryz.f50.ntmps⟩) (fun y4 y2 v3=>vE rec_iCopyType (a0.drop y4) y4 y2=some r) (fun y4 y2 v3=>a0.length - y4) 0 (List.replicate a0.length (gD.mk 0 [] [])) 0 eJ h ?_
 rintro y4 y2 v3 h
 refine goL ?_
 refine kI (mO (fun c6=>?_) (fun c6=>?_))
 ·have hky42:=wE c6
  obtain⟨x7,hx7,hdx7⟩:=drop_at hky42
  rw [hdx7,vE.eq_2] at h
  obtain⟨x7_0,x7_1,x7_2⟩:=x7
  refine noS ?_
  refine kI (jE ?_)
  refine goL ?_
  refine jI (jJ y4 (gBb hx7)) ?_
  obtain⟨⟨x8_0,x8_1,x8_2⟩,hx8,h⟩:=gK h
  refine gJd (hrec_iCopyType (gD.mk x7_0 x7_1 x7_2) hx8) ?_
  obtain⟨g9,h⟩:=mZ h
  refine gA6 (hGs y4 g9) ?_
  refine hOo (gD.mk x8_0 x8_1 x8_2) g9 ?_
  refine goL ?_
  refine jI (jS y4 (by omega)) ?_
  exact⟨(y4+1),(y2.set y4 (gD.mk x8_0 x8_1 x8_2)),v3,h,by omega,eJ⟩
 ·have hky42:=wF c6
  rw [jF hky42,vE.eq_1] at h
  refine goX ?_
  refine jN ?_
  obtain rfl:=Option.some.inj h
  exact gPi
mutual
def gCz:Nat→gD→Option (gD)
 | 0,_=>none
 | n+1,x0=>gG3 (gCz n) (gDt n) x0
def gDt:Nat→(List gD)→Option (List gD)
 | 0,_=>none
 | n+1,x0=>gFy (gCz n) (gDt n) x0
end
theorem gRk:∀(n:Nat),(∀(x0:gD) {r:gD},gCz n x0=some r→kX Tryz.prog 30 [.d (jP x0)] [32] [jP r])∧(∀(x0:List gD) {r:List gD},gDt n x0=some r→kX Tryz.prog 50 [.L 3 (gJ x0)] [32] [.sl 3 (gJ r)]):=by
 intro n
 induction n with
 | zero=>exact⟨(by intro x0 r h;cases h),(by intro x0 r h;cases h)⟩
 | succ n ih=>
   obtain⟨ih0,ih1⟩:=ih
   refine⟨(fun x0 r h=>gSy ih0 ih1 x0 h),(fun x0 r h=>gRj ih0 ih1 x0 h)⟩
theorem gSz:∀(n:Nat) (x0:gD) {r:gD},gCz n x0=some r→kX Tryz.prog 30 [.d (jP x0)] [32] [jP r]:=fun n=>(gRk n).1
def gG4(rec_sCopyType:gD→Option (gD))(rec_sCopyTypes:(List gD)→Option (List gD))(a0:gD):Option (gD):=
bnd (rec_sCopyTypes a0.args) fun x1=>
(some (gD.mk a0.kind a0.name x1))
theorem gS0{rec_sCopyType:gD→Option (gD)}{rec_sCopyTypes:(List gD)→Option (List gD)}(hrec_sCopyType:∀(x0:gD) {r:gD},rec_sCopyType x0=some r→kX Tryz.prog 56 [.d (jP x0)] [32] [jP r])(hrec_sCopyTypes:∀(x0:List gD) {r:List gD},rec_sCopyTypes x0=some r→kX Tryz.prog 71 [.L 3 (gJ x0)] [32] [.sl 3 (gJ r)])(a0:gD){r:gD}(h:gG4 rec_sCopyType rec_sCopyTypes a0=some r):kX Tryz.prog 56 [.d (jP a0)] [32] [jP r]:=by
 obtain⟨a0_0,a0_1,a0_2⟩:=a0
 unfold gG4 at h
 refine qI Tryz.func56 rfl (by kernel_rfl) rfl (by simp) fun A _=>?_
 refine gHk ?_
 refine jL (P:=Tryz.prog) Mix.h [(0,true),(1,true),(2,true),(3,true),(4,true),(5,true),(6,false),(7,true),(8,false)] (by kernel_rfl) ?_
 refine goY ?_
 obtain⟨x1,hx1,h⟩:=gK h
 refine gSo (hrec_sCopyTypes a0_2 hx1) ?_
 refine goY ?_
 refine kS ?_
 refine goL ?_
 refine jN ?_
 obtain rfl:=Option.some.inj h
 exact gPi
def vF(rec_sCopyType:gD→Option (gD)):List gD→(List gD)→Option (List gD)
 | [],y1=>(some y1)
 | x6::xs,y1=>bnd (rec_sCopyType x6) fun x7=>
gd (y1.length+[x7].length≤4294967296) (
vF rec_sCopyType xs (y1++[x7]))
def gFz(rec_sCopyType:gD→Option (gD))(rec_sCopyTypes:(List gD)→Option (List gD))(a0:List gD):Option (List gD):=
vF rec_sCopyType a0 []
theorem gRl{rec_sCopyType:gD→Option (gD)}{rec_sCopyTypes:(List gD)→Option (List gD)}(hrec_sCopyType:∀(x0:gD) {r:gD},rec_sCopyType x0=some r→kX Tryz.prog 56 [.d (jP x0)] [32] [jP r])(hrec_sCopyTypes:∀(x0:List gD) {r:List gD},rec_sCopyTypes x0=some r→kX Tryz.prog 71 [.L 3 (gJ x0)] [32] [.sl 3 (gJ r)])(a0:List gD){r:List gD}(h:gFz rec_sCopyType rec_sCopyTypes a0=some r):kX Tryz.prog 71 [.L 3 (gJ a0)] [32] [.sl 3 (gJ r)]:=by
 unfold gFz at h
 refine qI Tryz.func71 rfl (by kernel_rfl) rfl (by simp) fun A _=>?_
 refine goL ?_
 refine gFc ?_
 refine goL ?_
 refine noB ?_
 refine gFj 0 (fun z4=>?_)
 refine kR (fun(y3:Nat) (y1:List gD) (v2:Nat)=>⟨[(0,.L 3 (gJ a0)),(3,.sl 0 v2),(4,.N y3)],[.own 32 3 v2 (gJ y1)],Tryz.f71.ntmps⟩) (fun y3 y1 v2=>vF rec_sCopyType (a0.drop y3) y1=some r) (fun y3 y1 v2=>a0.length - y3) 0 [] 0 eJ h ?_
 rintro y3 y1 v2 h
 refine goL ?_
 refine mO (fun c5=>?_) (fun c5=>?_)
 ·have hky32:=wE c5
  obtain⟨x6,hx6,hdx6⟩:=drop_at hky32
  rw [hdx6,vF.eq_2] at h
  obtain⟨x6_0,x6_1,x6_2⟩:=x6
  refine noS ?_
  refine kI (jE ?_)
  refine goL ?_
  refine jI (jJ y3 (gBb hx6)) ?_
  obtain⟨⟨x7_0,x7_1,x7_2⟩,hx7,h⟩:=gK h
  refine gJd (hrec_sCopyType (gD.mk x6_0 x6_1 x6_2) hx7) ?_
  refine gA7 (gD.mk x7_0 x7_1 x7_2) ?_
  obtain⟨g8,h⟩:=mZ h
  refine gGg g8 ?_
  refine goL ?_
  refine jI (jS y3 (by omega)) ?_
  exact⟨(y3+1),(y1++[(gD.mk x7_0 x7_1 x7_2)]),(v2+1),h,by omega,eJ⟩
 ·have hky32:=wF c5
  rw [jF hky32,vF.eq_1] at h
  refine goX ?_
  refine jN ?_
  obtain rfl:=Option.some.inj h
  exact gPi
mutual
def gC0:Nat→gD→Option (gD)
 | 0,_=>none
 | n+1,x0=>gG4 (gC0 n) (gDu n) x0
def gDu:Nat→(List gD)→Option (List gD)
 | 0,_=>none
 | n+1,x0=>gFz (gC0 n) (gDu n) x0
end
theorem gRm:∀(n:Nat),(∀(x0:gD) {r:gD},gC0 n x0=some r→kX Tryz.prog 56 [.d (jP x0)] [32] [jP r])∧(∀(x0:List gD) {r:List gD},gDu n x0=some r→kX Tryz.prog 71 [.L 3 (gJ x0)] [32] [.sl 3 (gJ r)]):=by
 intro n
 induction n with
 | zero=>exact⟨(by intro x0 r h;cases h),(by intro x0 r h;cases h)⟩
 | succ n ih=>
   obtain⟨ih0,ih1⟩:=ih
   refine⟨(fun x0 r h=>gS0 ih0 ih1 x0 h),(fun x0 r h=>gRl ih0 ih1 x0 h)⟩
theorem gS1:∀(n:Nat) (x0:gD) {r:gD},gC0 n x0=some r→kX Tryz.prog 56 [.d (jP x0)] [32] [jP r]:=fun n=>(gRm n).1
theorem gG5{α:Type}{l:List α}{k:Nat}{x:α}(h:k < l.length):(l.set k x).take (k+1)=l.take k++[x]:=by
 apply List.ext_getElem?
 intro i
 rw [List.getElem?_take,List.getElem?_append,List.length_take,List.getElem?_take,List.getElem?_set]
 have hm:min k l.length=k:=Nat.min_eq_left (by omega)
 rw [hm]
 by_cases h1:i < k
 ·rw [if_pos (by omega),if_neg (by omega),if_pos h1,if_pos h1]
 ·rw [if_neg h1]
  by_cases h2:i=k
  ·subst h2
   rw [if_pos (by omega),if_pos rfl,if_pos h]
   simp
  ·rw [if_neg (by omega),List.getElem?_eq_none (by simp;omega)]
theorem gHh{rec:gD→Option gD}:∀(xs:List gD) (k:Nat) (y:List gD),(∀x∈xs,rec x=some x)→y.length=k+xs.length→vE rec xs k y=some (y.take k++xs)
 | [],k,y,_,h=>by
   simp only [vE,List.append_nil]
   rw [List.take_of_length_le (by simp at h;omega)]
 | x::xs,k,y,h1,h2=>by
   simp only [vE]
   rw [h1 x (by simp)]
   simp only [bnd,List.length_cons] at h2 ⊢
   rw [pF (by omega),gHh xs (k+1) _ (fun z hz=>h1 z (by simp [hz])) (by simp;omega),gG5 (by omega)]
   simp
theorem gUa:∀(n:Nat),(∀t:gD,2*tnd t≤n→tok t→gCz n t=some (idT t))∧(∀ts:List gD,2*gA8 ts+1≤n→hFu ts→gDt n ts=some (hKj ts))
 | 0=>⟨fun t h=>by have:=gD5 t;omega,fun ts h=>by omega⟩
 | n+1=>by
   obtain⟨h1,h2⟩:=gUa n
   refine⟨fun t hn ht=>?_,fun ts hn ht=>?_⟩
   ·obtain⟨k,s,ts⟩:=t
    simp only [tnd] at hn
    simp only [gCz,gG3]
    rw [h2 ts (by omega) (by simpa only [tok,hFu] using ht)]
    rfl
   ·simp only [gDt,gFy]
    rw [pF ht.1,gHh ts 0 _ (fun x hx=>h1 x (by have:=gCo hx;omega) (gG2.1 ht.2 x hx)) (by simp)]
    simp [hKj]
theorem gHi{rec:gD→Option gD}:∀(xs:List gD) (y:List gD),(∀x∈xs,rec x=some x)→y.length+xs.length≤4294967296→vF rec xs y=some (y++xs)
 | [],y,_,h=>by simp [vF]
 | x::xs,y,h1,h2=>by
   simp only [vF]
   rw [h1 x (by simp)]
   simp only [bnd,List.length_cons,List.length_nil] at h2 ⊢
   rw [pF (by omega),gHi xs _ (fun z hz=>h1 z (by simp [hz])) (by simp;omega)]
   simp
theorem gUb:∀(n:Nat),(∀t:gD,2*tnd t≤n→tok t→gC0 n t=some (idT t))∧(∀ts:List gD,2*gA8 ts+1≤n→hFu ts→gDu n ts=some (hKj ts))
 | 0=>⟨fun t h=>by have:=gD5 t;omega,fun ts h=>by omega⟩
 | n+1=>by
   obtain⟨h1,h2⟩:=gUb n
   refine⟨fun t hn ht=>?_,fun ts hn ht=>?_⟩
   ·obtain⟨k,s,ts⟩:=t
    simp only [tnd] at hn
    simp only [gC0,gG4]
    rw [h2 ts (by omega) (by simpa only [tok,hFu] using ht)]
    rfl
   ·simp only [gDu,gFz]
    rw [gHi ts _ (fun x hx=>h1 x (by have:=gCo hx;omega) (gG2.1 ht.2 x hx)) (by simpa using ht.1)]
    simp [hKj]
theorem gG6(x0:gD)(h:tok x0):kX Tryz.prog 30 [.d (jP x0)] [32] [jP (idT x0)]:=gSz (2*tnd x0) x0 ((gUa _).1 _ (Nat.le_refl _) h)
theorem yD(x0:gD)(h:tok x0):kX Tryz.prog 56 [.d (jP x0)] [32] [jP (idT x0)]:=gS1 (2*tnd x0) x0 ((gUb _).1 _ (Nat.le_refl _) h)
def gF0(rec_sEqualType:gD→gD→Option (Bool))(rec_sSame:(List gD)→(List gD)→Option (Bool))(a0:gD)(a1:gD):Option (Bool):=
bnd ((cnd (a0.kind==a1.kind) ((cnd (a0.name==a1.name) (bnd (rec_sSame a0.args a1.args) fun x4=>
(some x4)) ((some false)))) ((some false)))) fun b1=>
(some b1)
theorem gRn{rec_sEqualType:gD→gD→Option (Bool)}{rec_sSame:(List gD)→(List gD)→Option (Bool)}(hrec_sEqualType:∀(x0:gD) (x1:gD) {r:Bool},rec_sEqualType x0 x1=some r→jB Tryz.prog 8 [.d (jP x0),.d (jP x1)] [.b r])(hrec_sSame:∀(x0:List gD) (x1:List gD) {r:Bool},rec_sSame x0 x1=some r→jB Tryz.prog 19 [.L 3 (gJ x0),.L 3 (gJ x1)] [.b r])(a0:gD)(a1:gD){r:Bool}(h:gF0 rec_sEqualType rec_sSame a0 a1=some r):jB Tryz.prog 8 [.d (jP a0),.d (jP a1)] [.b r]:=by
 obtain⟨a0_0,a0_1,a0_2⟩:=a0
 obtain⟨a1_0,a1_1,a1_2⟩:=a1
 unfold gF0 at h
 refine SpI Tryz.func8 fun A _=>?_
 refine goL ?_
 obtain⟨b1,hb1,h⟩:=gK h
 refine jU ⟨[(4,.B b1)],[.box [.I a0_0,.S a0_1,.L 3 (gJ a0_2)],.box [.I a1_0,.S a1_1,.L 3 (gJ a1_2)]],Tryz.f8.ntmps⟩ ?_ ?_
 ·refine gN 10 (fun c2=>?_) (fun c2=>?_)
  ·replace hb1:=gX c2 hb1
   refine goL ?_
   refine gN 17 (fun c3=>?_) (fun c3=>?_)
   ·replace hb1:=gX c3 hb1
    refine goL ?_
    refine uD ?_
    obtain⟨x4,hx4,hb1⟩:=gK hb1
    refine jI (gF (hrec_sSame a0_2 a1_2 hx4)) ?_
    cases hb1
    exact eJ
   ·replace hb1:=gY c3 hb1
    refine goL ?_
    cases hb1
    exact eJ
  ·replace hb1:=gY c2 hb1
   refine goL ?_
   cases hb1
   exact eJ
 exact goR h
def gC1(rec_sEqualType:gD→gD→Option (Bool))(a1:List gD):List gD→Nat→Option (Bool)
 | [],y2=>(some true)
 | x5::xs,y2=>bnd (at? a1 (y2:Int)) fun x6=>
bnd (rec_sEqualType x5 x6) fun x7=>
(cnd (!x7) (
(some false)) (
gC1 rec_sEqualType a1 xs (y2+1)))
def gPw(rec_sEqualType:gD→gD→Option (Bool))(rec_sSame:(List gD)→(List gD)→Option (Bool))(a0:List gD)(a1:List gD):Option (Bool):=
(cnd ((a0.length:Int) !=(a1.length:Int)) (
(some false)) (
gC1 rec_sEqualType a1 a0 0))
theorem hEv{rec_sEqualType:gD→gD→Option (Bool)}{rec_sSame:(List gD)→(List gD)→Option (Bool)}(hrec_sEqualType:∀(x0:gD) (x1:gD) {r:Bool},rec_sEqualType x0 x1=some r→jB Tryz.prog 8 [.d (jP x0),.d (jP x1)] [.b r])(hrec_sSame:∀(x0:List gD) (x1:List gD) {r:Bool},rec_sSame x0 x1=some r→jB Tryz.prog 19 [.L 3 (gJ x0),.L 3 (gJ x1)] [.b r])(a0:List gD)(a1:List gD){r:Bool}(h:gPw rec_sEqualType rec_sSame a0 a1=some r):jB Tryz.prog 19 [.L 3 (gJ a0),.L 3 (gJ a1)] [.b r]:=by
 unfold gPw at h
 refine SpI Tryz.func19 fun A _=>?_
 refine goC h ?_ ?_<;>intro c1 h
 ·exact goR h
 ·refine goS ?_
  refine noB ?_
  refine gFj 0 (fun z3=>?_)
  refine pJ (fun(y2:Nat)=>⟨[(0,.L 3 (gJ a0)),(1,.L 3 (gJ a1)),(5,.N y2)],[],Tryz.f19.ntmps⟩) (fun y2=>gC1 rec_sEqualType a1 (a0.drop y2) y2=some r) (fun y2=>a0.length - y2) 0 eJ h ?_
  rintro y2 h
  refine goL ?_
  refine mO (fun c4=>?_) (fun c4=>?_)
  ·have hky22:=wE c4
   obtain⟨x5,hx5,hdx5⟩:=drop_at hky22
   rw [hdx5,gC1.eq_2] at h
   obtain⟨x5_0,x5_1,x5_2⟩:=x5
   refine noS ?_
   refine kI (jE ?_)
   refine goL ?_
   refine gDm (jJ y2 (gBb hx5)) ?_
   refine goL ?_
   obtain⟨x6,hx6,h⟩:=gK h
   rw [gD7] at hx6
   obtain⟨x6_0,x6_1,x6_2⟩:=x6
   refine gDm (jJ y2 (gBb hx6)) ?_
   refine goL ?_
   obtain⟨x7,hx7,h⟩:=gK h
   refine gDm (gF (hrec_sEqualType (gD.mk x5_0 x5_1 x5_2) (gD.mk x6_0 x6_1 x6_2) hx7)) ?_
   refine goC h ?_ ?_<;>intro c8 h
   ·exact goR h
   ·refine goS ?_
    refine jI (jS y2 (by omega)) ?_
    exact⟨(y2+1),h,by omega,eJ⟩
  ·have hky22:=wF c4
   rw [jF hky22,gC1.eq_1] at h
   refine goX ?_
   refine jN ?_
   cases h
   exact qK
mutual
def gBv:Nat→gD→gD→Option (Bool)
 | 0,_,_=>none
 | n+1,x0,x1=>gF0 (gBv n) (gNf n) x0 x1
def gNf:Nat→(List gD)→(List gD)→Option (Bool)
 | 0,_,_=>none
 | n+1,x0,x1=>gPw (gBv n) (gNf n) x0 x1
end
theorem gPx:∀(n:Nat),(∀(x0:gD) (x1:gD) {r:Bool},gBv n x0 x1=some r→jB Tryz.prog 8 [.d (jP x0),.d (jP x1)] [.b r])∧(∀(x0:List gD) (x1:List gD) {r:Bool},gNf n x0 x1=some r→jB Tryz.prog 19 [.L 3 (gJ x0),.L 3 (gJ x1)] [.b r]):=by
 intro n
 induction n with
 | zero=>exact⟨(by intro x0 x1 r h;cases h),(by intro x0 x1 r h;cases h)⟩
 | succ n ih=>
   obtain⟨ih0,ih1⟩:=ih
   refine⟨(fun x0 x1 r h=>gRn ih0 ih1 x0 x1 h),(fun x0 x1 r h=>hEv ih0 ih1 x0 x1 h)⟩
theorem gRo:∀(n:Nat) (x0:gD) (x1:gD) {r:Bool},gBv n x0 x1=some r→jB Tryz.prog 8 [.d (jP x0),.d (jP x1)] [.b r]:=fun n=>(gPx n).1
mutual
def teq:gD→gD→Bool
 | ⟨k,n,ts⟩,⟨k',n',ts'⟩=>(k==k') && ((n==n') && gVr ts ts')
def gVr:List gD→List gD→Bool
 | [],[]=>true
 | a::ts,b::ts'=>teq a b && gVr ts ts'
 | _,_=>false
end
mutual
theorem gPy:∀(a b:gD),teq a b=true↔a=b
 | ⟨k,n,ts⟩,⟨k',n',ts'⟩=>by
   simp only [teq,Bool.and_eq_true,beq_iff_eq,gD.mk.injEq]
   rw [gUc ts ts']
theorem gUc:∀(a b:List gD),gVr a b=true↔a=b
 | [],[]=>by simp [gVr]
 | a::ts,b::ts'=>by
   simp only [gVr,Bool.and_eq_true,List.cons.injEq]
   rw [gPy a b,gUc ts ts']
 | [],_::_=>by simp [gVr]
 | _::_,[]=>by simp [gVr]
end
theorem gUd:∀{a b:List gD},a.length≠b.length→gVr a b=false
 | [],[],h=>by simp at h
 | a::ts,b::ts',h=>by
   simp only [gVr]
   rw [gUd (a:=ts) (b:=ts') (by simpa using h),Bool.and_false]
 | [],_::_,_=>rfl
 | _::_,[],_=>rfl
theorem gNg{p:gD→gD→Option Bool}(b:List gD):∀(xs:List gD) (k:Nat),(∀x∈xs,∀y,p x y=some (teq x y))→b.length=k+xs.length→gC1 p b xs k=some (gVr xs (b.drop k))
 | [],k,_,h=>by
   rw [List.drop_eq_nil_of_le (by simp at h;omega)]
   rfl
 | x::xs,k,hp,h=>by
   simp only [List.length_cons] at h
   have hk:k < b.length:=by omega
   simp only [gC1,gD7]
   rw [List.getElem?_eq_getElem hk,List.drop_eq_getElem_cons hk]
   simp only [bnd,hp x (by simp),gVr]
   cases hq:teq x b[k] with
   | true=>simp only [Bool.not_true,gP,Bool.true_and];exact gNg b xs (k+1) (fun z hz=>hp z (by simp [hz])) (by omega)
   | false=>rfl
theorem gRp:∀(n:Nat),(∀a b:gD,2*tnd a≤n→gBv n a b=some (teq a b))∧(∀a b:List gD,2*gA8 a+1≤n→gNf n a b=some (gVr a b))
 | 0=>⟨fun t _ h=>by have:=gD5 t;omega,fun ts _ h=>by omega⟩
 | n+1=>by
   obtain⟨h1,h2⟩:=gRp n
   refine⟨fun a b hn=>?_,fun a b hn=>?_⟩
   ·obtain⟨k,s,ts⟩:=a
    obtain⟨k',s',ts'⟩:=b
    simp only [tnd] at hn
    simp only [gBv,gF0,teq]
    rw [h2 ts ts' (by omega)]
    cases h1:k==k'<;>cases h2:s==s'<;>cases gVr ts ts'<;>rfl
   ·simp only [gNf,gPw]
    by_cases h:a.length=b.length
    ·have:((a.length:Int) !=(b.length:Int))=false:=by simp [h]
     rw [this,gP,gNg b a 0 (fun x hx y=>h1 x y (by have:=gCo hx;omega)) (by omega)]
     rfl
    ·have:((a.length:Int) !=(b.length:Int))=true:=by simp;omega
     rw [this,jH,gUd h]
theorem gBw(x0:gD)(x1:gD):jB Tryz.prog 8 [.d (jP x0),.d (jP x1)] [.b (teq x0 x1)]:=gRo (2*tnd x0) x0 x1 ((gRp _).1 _ _ (Nat.le_refl _))
mutual
def tsz:gD→Int
 | ⟨_,_,ts⟩=>hEw ts 1
def hEw:List gD→Int→Int
 | [],y=>y
 | a::ts,y=>hEw ts (IntKind.i64.wrap (y+tsz a))
end
def yE(rec_sTypeSize:gD→Option (Int)):List gD→Int→Option (Int)
 | [],y1=>(some y1)
 | x5::xs,y1=>bnd (rec_sTypeSize x5) fun x6=>
yE rec_sTypeSize xs (IntKind.i64.wrap (y1+x6))
def gG7(rec_sTypeSize:gD→Option (Int))(a0:gD):Option (Int):=
yE rec_sTypeSize a0.args 1
theorem gS2{rec_sTypeSize:gD→Option (Int)}(hrec_sTypeSize:∀(x0:gD) {r:Int},rec_sTypeSize x0=some r→jB Tryz.prog 58 [.d (jP x0)] [.i .i64 r])(a0:gD){r:Int}(h:gG7 rec_sTypeSize a0=some r):jB Tryz.prog 58 [.d (jP a0)] [.i .i64 r]:=by
 obtain⟨a0_0,a0_1,a0_2⟩:=a0
 unfold gG7 at h
 refine SpI Tryz.func58 fun A _=>?_
 refine goL ?_
 refine noB ?_
 refine vN 0 2 (fun z3=>?_)
 refine gD3 (fun(y2:Nat) (y1:Int)=>⟨[(1,.ptr 0 0),(3,.I y1),(4,.N y2)],[.box [.I a0_0,.S a0_1,.L 3 (gJ a0_2)]],Tryz.f58.ntmps⟩) (fun y2 y1=>yE rec_sTypeSize (a0_2.drop y2) y1=some r) (fun y2 y1=>a0_2.length - y2) 0 1 eJ h ?_
 rintro y2 y1 h
 refine goL ?_
 refine mO (fun c4=>?_) (fun c4=>?_)
 ·have hky22:=wE c4
  obtain⟨x5,hx5,hdx5⟩:=drop_at hky22
  rw [hdx5,yE.eq_2] at h
  obtain⟨x5_0,x5_1,x5_2⟩:=x5
  refine noS ?_
  refine kI (jE ?_)
  refine goL ?_
  refine jI (jJ y2 (gBb hx5)) ?_
  obtain⟨x6,hx6,h⟩:=gK h
  refine qP (gF (hrec_sTypeSize (gD.mk x5_0 x5_1 x5_2) hx6)) ?_
  refine jI (qC) ?_
  refine jI (jS y2 (by omega)) ?_
  exact⟨(y2+1),(IntKind.i64.wrap (y1+x6)),h,by omega,eJ⟩
 ·have hky22:=wF c4
  rw [jF hky22,yE.eq_1] at h
  refine goX ?_
  refine jN ?_
  cases h
  exact qK
def gG8:Nat→gD→Option (Int)
 | 0,_=>none
 | n+1,x0=>gG7 (gG8 n) x0
theorem gS3:∀(n:Nat) (x0:gD) {r:Int},gG8 n x0=some r→jB Tryz.prog 58 [.d (jP x0)] [.i .i64 r]:=by
 intro n
 induction n with
 | zero=>intro x0 r h;cases h
 | succ n ih=>intro x0 r h;exact gS2 ih x0 h
theorem gH7{rec:gD→Option Int}:∀(xs:List gD) (y:Int),(∀x∈xs,rec x=some (tsz x))→yE rec xs y=some (hEw xs y)
 | [],y,_=>rfl
 | x::xs,y,h=>by
   simp only [yE,h x (by simp),bnd,hEw]
   exact gH7 xs _ (fun z hz=>h z (by simp [hz]))
theorem gLc:∀(n:Nat) (t:gD),tnd t≤n→gG8 n t=some (tsz t)
 | 0,t,h=>by have:=gD5 t;omega
 | n+1,⟨k,s,ts⟩,h=>by
   simp only [tnd] at h
   simp only [gG8,gG7,tsz]
   exact gH7 ts 1 (fun x hx=>gLc n x (by have:=gCo hx;omega))
theorem gG9(x0:gD):jB Tryz.prog 58 [.d (jP x0)] [.i .i64 (tsz x0)]:=gS3 (tnd x0) x0 (gLc _ _ (Nat.le_refl _))
def gAp(a1:List UInt8):List gI→Option (gD × Bool)
 | []=>(some ((gD.mk 0 [] []),false))
 | x4::xs=>(cnd (x4.var_==a1) (
gd (tok x4.type_) (lt_ (idT x4.type_) fun x7=>
(some (x7,true)))) (
gAp a1 xs ))
def gDv(a0:List gI)(a1:List UInt8):Option (gD × Bool):=
gAp a1 a0
theorem gNh(a0:List gI)(a1:List UInt8){r:gD × Bool}(h:gDv a0 a1=some r):kX Tryz.prog 88 [.L 4 (gQ a0),.S a1] [32] [jP r.1,.b r.2]:=by
 unfold gDv at h
 refine qI Tryz.func88 rfl (by kernel_rfl) rfl (by simp) fun A _=>?_
 refine goL ?_
 refine noB ?_
 refine gFj 0 (fun z2=>?_)
 refine pJ (fun(y1:Nat)=>⟨[(0,.L 4 (gQ a0)),(1,.S a1),(4,.ptr 0 0),(6,.N y1)],[.box [.I 0,.S [],.nilsl]],Tryz.f88.ntmps⟩) (fun y1=>gAp a1 (a0.drop y1)  =some r) (fun y1=>a0.length - y1) 0 eJ h ?_
 rintro y1 h
 refine goL ?_
 refine mO (fun c3=>?_) (fun c3=>?_)
 ·have hky12:=wE c3
  obtain⟨x4,hx4,hdx4⟩:=drop_at hky12
  rw [hdx4,gAp.eq_2] at h
  obtain⟨x4_0,⟨x4_1_0,x4_1_1,x4_1_2⟩⟩:=x4
  refine noS ?_
  refine kI (jE ?_)
  refine goL ?_
  refine jI (jJ y1 (gLu hx4)) ?_
  refine mO (fun c5=>?_) (fun c5=>?_)
  ·replace h:=gX c5 h
   refine goL ?_
   refine jI (jJ y1 (gLu hx4)) ?_
   obtain⟨g6,h⟩:=mZ h
   obtain⟨⟨x7_0,x7_1,x7_2⟩,hx7,h⟩:=qR h
   have sx7:=yD (gD.mk x4_1_0 x4_1_1 x4_1_2) g6
   rw [hx7] at sx7
   refine gJd (sx7) ?_
   refine goL ?_
   refine jN ?_
   obtain rfl:=Option.some.inj h
   exact gPi
  ·replace h:=gY c5 h
   refine goS ?_
   refine jI (jS y1 (by omega)) ?_
   exact⟨(y1+1),h,by omega,eJ⟩
 ·have hky12:=wF c3
  rw [jF hky12,gAp.eq_1] at h
  refine goX ?_
  refine gFl (kD TBd.h TZ.h rfl (by repeat constructor)) ?_
  refine gW9 32 3 0 2 rfl rfl (by repeat constructor) (by repeat constructor) (by repeat constructor) (by repeat constructor) ?_
  refine jN ?_
  obtain rfl:=Option.some.inj h
  exact gPi
def gLy(rec_sApply:(List gI)→gD→Option (gD))(rec_sApplyAll:(List gI)→(List gD)→Option (List gD))(a0:List gI)(a1:gD):Option (gD):=
(cnd (a1.kind==1) (
bnd (gDv a0 a1.name) fun x2=>
(cnd x2.2 (
(some x2.1)) (
bnd (rec_sApplyAll a0 a1.args) fun x4=>
(some (gD.mk a1.kind a1.name x4))))) (
bnd (rec_sApplyAll a0 a1.args) fun x5=>
(some (gD.mk a1.kind a1.name x5))))
theorem hBj{rec_sApply:(List gI)→gD→Option (gD)}{rec_sApplyAll:(List gI)→(List gD)→Option (List gD)}(hrec_sApply:∀(x0:List gI) (x1:gD) {r:gD},rec_sApply x0 x1=some r→kX Tryz.prog 73 [.L 4 (gQ x0),.d (jP x1)] [32] [jP r])(hrec_sApplyAll:∀(x0:List gI) (x1:List gD) {r:List gD},rec_sApplyAll x0 x1=some r→kX Tryz.prog 89 [.L 4 (gQ x0),.L 3 (gJ x1)] [32] [.sl 3 (gJ r)])(a0:List gI)(a1:gD){r:gD}(h:gLy rec_sApply rec_sApplyAll a0 a1=some r):kX Tryz.prog 73 [.L 4 (gQ a0),.d (jP a1)] [32] [jP r]:=by
 obtain⟨a1_0,a1_1,a1_2⟩:=a1
 unfold gLy at h
 refine qI Tryz.func73 rfl (by kernel_rfl) rfl (by simp) fun A _=>?_
 refine goC h ?_ ?_<;>intro c1 h
 ·refine goL ?_
  obtain⟨⟨⟨x2_0_0,x2_0_1,x2_0_2⟩,x2_1⟩,hx2,h⟩:=gK h
  refine gJd (gNh a0 a1_1 hx2) ?_
  refine goC h ?_ ?_<;>intro c3 h
  ·refine goL ?_
   refine jN ?_
   obtain rfl:=Option.some.inj h
   exact gPi
  ·refine noS ?_
   refine jL (P:=Tryz.prog) Mix.h [(0,true),(1,true),(2,true),(3,true),(4,true),(5,true),(6,true),(7,false),(8,true),(9,false)] (by kernel_rfl) ?_
   refine goY ?_
   obtain⟨x4,hx4,h⟩:=gK h
   refine gSo (hrec_sApplyAll a0 a1_2 hx4) ?_
   refine goY ?_
   refine kS ?_
   refine goL ?_
   refine jN ?_
   obtain rfl:=Option.some.inj h
   exact gPi
 ·refine noS ?_
  refine jL (P:=Tryz.prog) Mix.h [(0,true),(1,true),(2,true),(3,true),(4,true),(5,true),(6,true),(7,false),(8,true),(9,false)] (by kernel_rfl) ?_
  refine goY ?_
  obtain⟨x5,hx5,h⟩:=gK h
  refine gSo (hrec_sApplyAll a0 a1_2 hx5) ?_
  refine goY ?_
  refine kS ?_
  refine goL ?_
  refine jN ?_
  obtain rfl:=Option.some.inj h
  exact gPi
def vW(rec_sApply:(List gI)→gD→Option (gD))(a0:List gI):List gD→(List gD)→Option (List gD)
 | [],y1=>(some y1)
 | x6::xs,y1=>bnd (rec_sApply a0 x6) fun x7=>
gd (y1.length+[x7].length≤4294967296) (
vW rec_sApply a0 xs (y1++[x7]))
def gHa(rec_sApply:(List gI)→gD→Option (gD))(rec_sApplyAll:(List gI)→(List gD)→Option (List gD))(a0:List gI)(a1:List gD):Option (List gD):=
vW rec_sApply a0 a1 []
theorem gS4{rec_sApply:(List gI)→gD→Option (gD)}{rec_sApplyAll:(List gI)→(List gD)→Option (List gD)}(hrec_sApply:∀(x0:List gI) (x1:gD) {r:gD},rec_sApply x0 x1=some r→kX Tryz.prog 73 [.L 4 (gQ x0),.d (jP x1)] [32] [jP r])(hrec_sApplyAll:∀(x0:List gI) (x1:List gD) {r:List gD},rec_sApplyAll x0 x1=some r→kX Tryz.prog 89 [.L 4 (gQ x0),.L 3 (gJ x1)] [32] [.sl 3 (gJ r)])(a0:List gI)(a1:List gD){r:List gD}(h:gHa rec_sApply rec_sApplyAll a0 a1=some r):kX Tryz.prog 89 [.L 4 (gQ a0),.L 3 (gJ a1)] [32] [.sl 3 (gJ r)]:=by
 unfold gHa at h
 refine qI Tryz.func89 rfl (by kernel_rfl) rfl (by simp) fun A _=>?_
 refine goL ?_
 refine gFc ?_
 refine goL ?_
 refine noB ?_
 refine gFj 1 (fun z4=>?_)
 refine kR (fun(y3:Nat) (y1:List gD) (v2:Nat)=>⟨[(0,.L 4 (gQ a0)),(1,.L 3 (gJ a1)),(5,.sl 0 v2),(6,.N y3)],[.own 32 3 v2 (gJ y1)],Tryz.f89.ntmps⟩) (fun y3 y1 v2=>vW rec_sApply a0 (a1.drop y3) y1=some r) (fun y3 y1 v2=>a1.length - y3) 0 [] 0 eJ h ?_
 rintro y3 y1 v2 h
 refine goL ?_
 refine mO (fun c5=>?_) (fun c5=>?_)
 ·have hky32:=wE c5
  obtain⟨x6,hx6,hdx6⟩:=drop_at hky32
  rw [hdx6,vW.eq_2] at h
  obtain⟨x6_0,x6_1,x6_2⟩:=x6
  refine noS ?_
  refine kI (jE ?_)
  refine goL ?_
  refine jI (jJ y3 (gBb hx6)) ?_
  obtain⟨⟨x7_0,x7_1,x7_2⟩,hx7,h⟩:=gK h
  refine gJd (hrec_sApply a0 (gD.mk x6_0 x6_1 x6_2) hx7) ?_
  refine gA7 (gD.mk x7_0 x7_1 x7_2) ?_
  obtain⟨g8,h⟩:=mZ h
  refine gGg g8 ?_
  refine goL ?_
  refine jI (jS y3 (by omega)) ?_
  exact⟨(y3+1),(y1++[(gD.mk x7_0 x7_1 x7_2)]),(v2+1),h,by omega,eJ⟩
 ·have hky32:=wF c5
  rw [jF hky32,vW.eq_1] at h
  refine goX ?_
  refine jN ?_
  obtain rfl:=Option.some.inj h
  exact gPi
mutual
def gIm:Nat→(List gI)→gD→Option (gD)
 | 0,_,_=>none
 | n+1,x0,x1=>gLy (gIm n) (gFf n) x0 x1
def gFf:Nat→(List gI)→(List gD)→Option (List gD)
 | 0,_,_=>none
 | n+1,x0,x1=>gHa (gIm n) (gFf n) x0 x1
end
theorem gYp:∀(n:Nat),(∀(x0:List gI) (x1:gD) {r:gD},gIm n x0 x1=some r→kX Tryz.prog 73 [.L 4 (gQ x0),.d (jP x1)] [32] [jP r])∧(∀(x0:List gI) (x1:List gD) {r:List gD},gFf n x0 x1=some r→kX Tryz.prog 89 [.L 4 (gQ x0),.L 3 (gJ x1)] [32] [.sl 3 (gJ r)]):=by
 intro n
 induction n with
 | zero=>exact⟨(by intro x0 x1 r h;cases h),(by intro x0 x1 r h;cases h)⟩
 | succ n ih=>
   obtain⟨ih0,ih1⟩:=ih
   refine⟨(fun x0 x1 r h=>hBj ih0 ih1 x0 x1 h),(fun x0 x1 r h=>gS4 ih0 ih1 x0 x1 h)⟩
theorem hBk:∀(n:Nat) (x0:List gI) (x1:gD) {r:gD},gIm n x0 x1=some r→kX Tryz.prog 73 [.L 4 (gQ x0),.d (jP x1)] [32] [jP r]:=fun n=>(gYp n).1
def lkp(v:List UInt8):List gI→gD × Bool
 | []=>(⟨0,[],[]⟩,false)
 | b::l=>cnd (b.var_==v) (b.type_,true) (lkp v l)
def bok(l:List gI):Prop:=∀b∈l,tok b.type_
instance (l:List gI):Decidable (bok l):=inferInstanceAs (Decidable (∀b∈l,tok b.type_))
theorem gJg(k:Int)(n:List UInt8):tok ⟨k,n,[]⟩:=by simp [tok,gPv]
theorem gPz{v:List UInt8}:∀{l:List gI},(lkp v l).2=true→∃b∈l,b.var_=v∧(lkp v l).1=b.type_
 | [],h=>by cases h
 | b::l,h=>by
   simp only [lkp] at h ⊢
   cases hb:b.var_==v with
   | true=>exact⟨b,by simp,by simpa using hb,rfl⟩
   | false=>
     rw [hb] at h
     obtain⟨c,h1,h2,h3⟩:=gPz (l:=l) h
     exact⟨c,by simp [h1],h2,h3⟩
theorem gYq{v:List UInt8}:∀{l:List gI},(lkp v l).2=false→(lkp v l).1=⟨0,[],[]⟩
 | [],h=>rfl
 | b::l,h=>by
   simp only [lkp] at h ⊢
   cases hb:b.var_==v with
   | true=>rw [hb] at h;cases h
   | false=>rw [hb] at h;exact gYq (l:=l) h
theorem hEx{v:List UInt8}{l:List gI}(h:bok l):tok (lkp v l).1:=by
 cases hb:(lkp v l).2 with
 | true=>
   obtain⟨b,h1,_,h3⟩:=gPz hb
   rw [h3]
   exact h b h1
 | false=>rw [gYq hb];exact gJg _ _
mutual
def apT(l:List gI):gD→gD
 | ⟨k,n,ts⟩=>cnd (k==1) (cnd (lkp n l).2 (lkp n l).1 ⟨k,n,gNi l ts⟩) ⟨k,n,gNi l ts⟩
def gNi(l:List gI):List gD→List gD
 | []=>[]
 | a::ts=>apT l a::gNi l ts
end
theorem gP0(l:List gI):∀ts:List gD,gNi l ts=ts.map (apT l)
 | []=>rfl
 | a::ts=>by simp only [gNi,List.map_cons,gP0 l ts]
theorem gUe(l:List gI)(ts:List gD):(gNi l ts).length=ts.length:=by rw [gP0,List.length_map]
theorem gEh(v:List UInt8):∀(l:List gI),bok l→gAp v l=some (lkp v l)
 | [],_=>rfl
 | b::l,h=>by
   simp only [gAp,lkp]
   rw [pF (h b (by simp)),gEh v l (fun c hc=>h c (by simp [hc]))]
   cases b.var_==v<;>rfl
theorem gH8{rec:List gI→gD→Option gD}(l:List gI)(f:gD→gD):∀(xs:List gD) (y:List gD),(∀x∈xs,rec l x=some (f x))→y.length+xs.length≤4294967296→vW rec l xs y=some (y++xs.map f)
 | [],y,_,h=>by simp [vW]
 | x::xs,y,h1,h2=>by
   simp only [vW]
   rw [h1 x (by simp)]
   simp only [bnd,List.length_cons,List.length_nil] at h2 ⊢
   rw [pF (by omega),gH8 l f xs _ (fun z hz=>h1 z (by simp [hz])) (by simp;omega)]
   simp
theorem gRq:∀(n:Nat),(∀(l:List gI) (t:gD),bok l→tok t→2*tnd t≤n→gIm n l t=some (apT l t))∧(∀(l:List gI) (ts:List gD),bok l→hFu ts→2*gA8 ts+1≤n→gFf n l ts=some (gNi l ts))
 | 0=>⟨fun _ t _ _ h=>by have:=gD5 t;omega,fun _ ts _ _ h=>by omega⟩
 | n+1=>by
   obtain⟨h1,h2⟩:=gRq n
   refine⟨fun l t hl ht hn=>?_,fun l ts hl ht hn=>?_⟩
   ·obtain⟨k,s,ts⟩:=t
    simp only [tnd] at hn
    simp only [gIm,gLy,gDv,apT]
    rw [h2 l ts hl (by simpa only [tok,hFu] using ht) (by omega),gEh s l hl]
    simp only [bnd]
    cases k==1<;>cases (lkp s l).2<;>rfl
   ·simp only [gFf,gHa]
    rw [gH8 l (apT l) ts _ (fun x hx=>h1 l x hl (gG2.1 ht.2 x hx) (by have:=gCo hx;omega)) (by simpa using ht.1)]
    simp [gP0]
mutual
theorem gYr{l:List gI}(hl:bok l):∀(t:gD),tok t→tok (apT l t)
 | ⟨k,n,ts⟩,h=>by
   simp only [tok] at h
   have h1:=gUf hl ts h.2
   have h2:tok ⟨k,n,gNi l ts⟩:=by simp only [tok,gUe];exact⟨h.1,h1⟩
   simp only [apT]
   cases k==1 with
   | false=>exact h2
   | true=>
     simp only [jH]
     cases (lkp n l).2 with
     | false=>exact h2
     | true=>exact hEx hl
theorem gUf{l:List gI}(hl:bok l):∀(ts:List gD),gPv ts→gPv (gNi l ts)
 | [],_=>by simp [gNi,gPv]
 | a::ts,h=>by
   simp only [gPv] at h
   simp only [gNi,gPv]
   exact⟨gYr hl a h.1,gUf hl ts h.2⟩
end
def hC5(M:Nat)(l:List gI):Prop:=1≤M∧∀b∈l,tnd b.type_≤M
theorem hEy{M:Nat}{v:List UInt8}{l:List gI}(h:hC5 M l):tnd (lkp v l).1≤M:=by
 cases hb:(lkp v l).2 with
 | true=>
   obtain⟨b,h1,_,h3⟩:=gPz hb
   rw [h3]
   exact h.2 b h1
 | false=>rw [gYq hb];simp only [tnd,gA8];exact h.1
mutual
theorem gYs{M:Nat}{l:List gI}(hl:hC5 M l):∀(t:gD),tnd (apT l t)≤M*tnd t
 | ⟨k,n,ts⟩=>by
   have h1:=gUg hl ts
   have h0:=hl.1
   have h2:tnd ⟨k,n,gNi l ts⟩≤M*(1+gA8 ts):=by
    simp only [tnd,Nat.mul_add]
    omega
   have h3:tnd (lkp n l).1≤M*(1+gA8 ts):=by
    have:=hEy (v:=n) hl
    rw [Nat.mul_add]
    omega
   simp only [apT]
   cases k==1 with
   | false=>exact h2
   | true=>
     simp only [jH]
     cases (lkp n l).2 with
     | false=>exact h2
     | true=>exact h3
theorem gUg{M:Nat}{l:List gI}(hl:hC5 M l):∀(ts:List gD),gA8 (gNi l ts)≤M*gA8 ts
 | []=>by simp [gNi,gA8]
 | a::ts=>by
   have h1:=gYs hl a
   have h2:=gUg hl ts
   simp only [gNi,gA8,Nat.mul_add]
   omega
end
theorem gP1(x0:List gI)(x1:gD)(h:bok x0∧tok x1):kX Tryz.prog 73 [.L 4 (gQ x0),.d (jP x1)] [32] [jP (apT x0 x1)]:=hBk (2*tnd x1) x0 x1 ((gRq _).1 _ _ h.1 h.2 (Nat.le_refl _))
end Go.Proofs.YtfaplndgbgoaaaaGreatDoor
