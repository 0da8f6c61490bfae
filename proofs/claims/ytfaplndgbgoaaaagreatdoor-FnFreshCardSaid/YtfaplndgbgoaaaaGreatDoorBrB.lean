import Derived.Test.YtfaplndgbgoaaaaGreatDoorEng38
import Derived.Test.YtfaplndgbgoaaaaGreatDoorEng67
import Derived.Test.YtfaplndgbgoaaaaGreatDoorSfi0
import Derived.Test.YtfaplndgbgoaaaaGreatDoorB27
import Derived.Test.YtfaplndgbgoaaaaGreatDoorFs
import Derived.Test.YtfaplndgbgoaaaaGreatDoorB15
import Derived.Test.YtfaplndgbgoaaaaGreatDoorUn1
import Derived.KernelRfl
import Derived.Test.YtfaplndgbgoaaaaGreatDoorEq2
import Derived.Test.YtfaplndgbgoaaaaGreatDoorEng50
set_option maxHeartbeats 4000000
set_option linter.unusedVariables false
set_option linter.unusedSimpArgs false
set_option linter.unusedSectionVars false
namespace Go.Proofs.YtfaplndgbgoaaaaGreatDoor
open Go Go.Eng
attribute [local irreducible] V VO VQ VY Quiet QR jB kX Rng uJ uY qW
def gIg(a0:List UInt8):Option (Bool):=
(cnd (gRe a0) (
(some true)) (
bnd (vM a0) fun x2=>
bnd (gIl x2) fun x3=>
bnd (gIl x3.1) fun x4=>
bnd (bnd (gN6 x3.2) fun x6=>
(cnd x6 (bnd (gN6 x4.2) fun x8=>
(cnd x8 ((cnd (!(teq x3.2 x4.2)) ((cnd (x4.1.next==(IntKind.i64.wrap (x2.next+2))) ((cnd ((x3.1.bindings.length:Int)==(x2.bindings.length:Int)) (bnd (gAk x2.next) fun x13=>
gd (([63]:List UInt8).length+x13.length≤4294967296) (
(some (x3.2.name==(([63]:List UInt8)++x13))))) ((some false)))) ((some false)))) ((some false)))) ((some false)))) ((some false)))) fun b5=>
(some b5)))
theorem gVc(a0:List UInt8){r:Bool}(h:gIg a0=some r):jB Tryz.prog 3 [.L 1 (kQ a0)] [.b r]:=by
 unfold gIg at h
 refine SpI Tryz.func3 fun A _=>?_
 refine goL ?_
 refine jI (gF (hHp a0)) ?_
 refine mO (fun c1=>?_) (fun c1=>?_)
 ·replace h:=gX c1 h
  exact goR h
 ·replace h:=gY c1 h
  refine goS ?_
  obtain⟨⟨x2_0,x2_1,x2_2,x2_3,x2_4,x2_5,x2_6,x2_7⟩,hx2,h⟩:=gK h
  refine jI (gF (gIs a0 hx2)) ?_
  obtain⟨⟨⟨x3_0_0,x3_0_1,x3_0_2,x3_0_3,x3_0_4,x3_0_5,x3_0_6,x3_0_7⟩,⟨x3_1_0,x3_1_1,x3_1_2⟩⟩,hx3,h⟩:=gK h
  refine jI (gF ((gT8 (gG.mk x2_0 x2_1 x2_2 x2_3 x2_4 x2_5 x2_6 x2_7) hx3).p)) ?_
  obtain⟨⟨⟨x4_0_0,x4_0_1,x4_0_2,x4_0_3,x4_0_4,x4_0_5,x4_0_6,x4_0_7⟩,⟨x4_1_0,x4_1_1,x4_1_2⟩⟩,hx4,h⟩:=gK h
  refine qP (gF ((gT8 (gG.mk x3_0_0 x3_0_1 x3_0_2 x3_0_3 x3_0_4 x3_0_5 x3_0_6 x3_0_7) hx4).p)) ?_
  refine gHk ?_
  obtain⟨b5,hb5,h⟩:=gK h
  refine qZ (P:=Tryz.prog) Mix.h ⟨[(2,.B b5)],[.box [.I x2_0,.I x2_1,.I x2_2,.L 4 (gQ x2_3),.L 7 (jY x2_4),.L 5 (jR x2_5),.I x2_6,.I x2_7],.box [.I x3_0_0,.I x3_0_1,.I x3_0_2,.L 4 (gQ x3_0_3),.L 7 (jY x3_0_4),.L 5 (jR x3_0_5),.I x3_0_6,.I x3_0_7],.box [.I x3_1_0,.S x3_1_1,.L 3 (gJ x3_1_2)],.box [.I x4_0_0,.I x4_0_1,.I x4_0_2,.L 4 (gQ x4_0_3),.L 7 (jY x4_0_4),.L 5 (jR x4_0_5),.I x4_0_6,.I x4_0_7],.box [.I x4_1_0,.S x4_1_1,.L 3 (gJ x4_1_2)]],Tryz.f3.ntmps⟩ (by kernel_rfl) ?_ ?_
  ·refine goL ?_
   obtain⟨x6,hx6,hb5⟩:=gK hb5
   refine gDm (gF (hCe (gD.mk x3_1_0 x3_1_1 x3_1_2) hx6)) ?_
   refine goL ?_
   refine vR 24 (fun c7=>?_) (fun c7=>?_) (by first | rfl | (simp only [jG,gU];rfl))
   ·replace hb5:=gX c7 hb5
    refine goL ?_
    obtain⟨x8,hx8,hb5⟩:=gK hb5
    refine gBe (gF (hCe (gD.mk x4_1_0 x4_1_1 x4_1_2) hx8)) ?_
    refine goL ?_
    refine vR 28 (fun c9=>?_) (fun c9=>?_) (by first | rfl | (simp only [jG,gU];rfl))
    ·replace hb5:=gX c9 hb5
     refine goL ?_
     refine gBe (gF (gBw (gD.mk x3_1_0 x3_1_1 x3_1_2) (gD.mk x4_1_0 x4_1_1 x4_1_2))) ?_
     refine goL ?_
     refine vR 34 (fun c10=>?_) (fun c10=>?_) (by first | rfl | (simp only [jG,gU];rfl))
     ·replace hb5:=gX c10 hb5
      refine goL ?_
      refine gBe (qC) ?_
      refine goL ?_
      refine vR 42 (fun c11=>?_) (fun c11=>?_) (by first | rfl | (simp only [jG,gU];rfl))
      ·replace hb5:=gX c11 hb5
       refine goL ?_
       refine vR 51 (fun c12=>?_) (fun c12=>?_) (by first | rfl | (simp only [jG,gU];rfl))
       ·replace hb5:=gX c12 hb5
        refine goL ?_
        obtain⟨x13,hx13,hb5⟩:=gK hb5
        refine gBe (gF (gLa x2_0 hx13)) ?_
        obtain⟨g14,hb5⟩:=mZ hb5
        refine gBe (vB g14) ?_
        refine goL ?_
        cases hb5
        exact⟨rfl,⟨⟨by first | rfl | (simp only [jG,gU];rfl),rfl⟩,trivial⟩,⟨_,rfl⟩,rfl⟩
       ·replace hb5:=gY c12 hb5
        refine goL ?_
        cases hb5
        exact⟨rfl,⟨⟨by first | rfl | (simp only [jG,gU];rfl),rfl⟩,trivial⟩,⟨_,rfl⟩,rfl⟩
      ·replace hb5:=gY c11 hb5
       refine goL ?_
       cases hb5
       exact⟨rfl,⟨⟨by first | rfl | (simp only [jG,gU];rfl),rfl⟩,trivial⟩,⟨_,rfl⟩,rfl⟩
     ·replace hb5:=gY c10 hb5
      refine goL ?_
      cases hb5
      exact⟨rfl,⟨⟨by first | rfl | (simp only [jG,gU];rfl),rfl⟩,trivial⟩,⟨_,rfl⟩,rfl⟩
    ·replace hb5:=gY c9 hb5
     refine goL ?_
     cases hb5
     exact⟨rfl,⟨⟨by first | rfl | (simp only [jG,gU];rfl),rfl⟩,trivial⟩,⟨_,rfl⟩,rfl⟩
   ·replace hb5:=gY c7 hb5
    refine goL ?_
    cases hb5
    exact⟨rfl,⟨⟨by first | rfl | (simp only [jG,gU];rfl),rfl⟩,trivial⟩,⟨_,rfl⟩,rfl⟩
  exact goR h
end Go.Proofs.YtfaplndgbgoaaaaGreatDoor
set_option maxHeartbeats 4000000
set_option linter.unusedVariables false
set_option linter.unusedSimpArgs false
set_option linter.unusedSectionVars false
namespace Go.Proofs.YtfaplndgbgoaaaaGreatDoor
open Go Go.Eng
attribute [local irreducible] V VO VQ VY Quiet QR jB kX Rng uJ uY qW
def VZ:List (List UInt8):=[[63,48],[63,49],[63,50],[63,51],[97]]
theorem gTg{V:List (List UInt8)}{n:List UInt8}(h:n∈V):DT V ⟨1,n,[]⟩:=⟨⟨gJg _ _,⟨by decide,trivial⟩,fun v hv=>by simp only [tvs,gJj,if_true,List.append_nil,List.mem_singleton] at hv;subst hv;exact h⟩,fun hk=>absurd hk (by decide),trivial⟩
theorem gQn{V:List (List UInt8)}{n:List UInt8}{ts:List gD}(h:∀t∈ts,DT V t)(hl:ts.length≤4294967296):DT V ⟨2,n,ts⟩:=by
 refine⟨⟨⟨hl,gG2.2 fun u hu=>(h u hu).1.1⟩,⟨by decide,gP9.2 fun u hu=>(h u hu).1.2.1⟩,fun v hv=>?_⟩,⟨fun hk=>absurd hk (by decide),gKc.2 fun u hu=>(h u hu).2⟩⟩
 have hv:v∈gJj ts:=by
  simp only [tvs] at hv
  rw [if_neg (by decide),List.nil_append] at hv
  exact hv
 obtain⟨u,h1,h2⟩:=gJz.1 hv
 exact(h u h1).1.2.2 v h2
theorem hF8{V:List (List UInt8)}{u:gD}(h:DT V u):DT V (gV5 u):=⟨hC8 h.1,fun _=>rfl,h.2,trivial⟩
theorem gQo(s:List UInt8)(args:List gD)(h:args.length≤4294967296):gF6 s args=some ⟨2,s,args⟩:=by
 unfold gF6
 rw [pF (by simpa using h)]
 rfl
theorem gWs(c:jA)(l:List gD)(h:gAq c)(h0:0 < l.length)(h1:l.length≤256):∃x c',gGi c l=some (x,c')∧gAq c'∧x∈l:=by
 obtain⟨x,c',e,e1,e2,e3⟩:=gEi c l.length h (by omega) (by omega)
 unfold gGi
 have hx:at? l x=some (l[x.toNat]'(by omega)):=by unfold at?;rw [if_pos e1];exact List.getElem?_eq_getElem _
 rw [kG e,kG hx]
 exact⟨_,_,rfl,e3,List.getElem_mem _⟩
theorem hDf{x:Int}(h0:0≤x)(h1:x < 4):(([63]:List UInt8)++Lib.itoa x)∈VZ∧(Lib.itoa x).length≤10:=by
 have:x=0∨x=1∨x=2∨x=3:=by omega
 rcases this with rfl | rfl | rfl | rfl
 ·have e:Lib.itoa 0=[48]:=by kernel_rfl
  rw [e];decide
 ·have e:Lib.itoa 1=[49]:=by kernel_rfl
  rw [e];decide
 ·have e:Lib.itoa 2=[50]:=by kernel_rfl
  rw [e];decide
 ·have e:Lib.itoa 3=[51]:=by kernel_rfl
  rw [e];decide
theorem hKz{rec:jA→Int→Option (gD × jA)}(d:Nat)(hd:d≤8)(hrec:∀e,d=e+1→∀c,gAq c→∃t c',rec c (e:Int)=some (t,c')∧gAq c'∧DT VZ t∧tnd t≤4^(e+1))(c:jA)(hc:gAq c):∃t c',gNj rec c (d:Int)=some (t,c')∧gAq c'∧DT VZ t∧tnd t≤4^(d+1):=by
 have hpow:4≤4^(d+1):=by rw [Nat.pow_succ];have:1≤4^d:=Nat.one_le_pow _ _ (by omega);omega
 obtain⟨x,c1,e1,e2,e3,e4⟩:=gEi c 6 hc (by omega) (by omega)
 unfold gNj
 rw [kG e1]
 have hb:∃b,cnd (x==0) (some (x==0)) (some (x==1))=some b:=by cases x==0<;>exact⟨_,rfl⟩
 obtain⟨b,hb⟩:=hb
 rw [kG hb]
 cases b with
 | true=>
   simp only [jH]
   obtain⟨y,c2,f1,f2,f3,f4⟩:=gEi c1 4 e4 (by omega) (by omega)
   obtain⟨g1,g2⟩:=hDf f2 f3
   rw [kG f1,pF (show zH y from⟨by omega,by omega⟩),pF (by simp only [List.length_cons,List.length_nil];omega)]
   exact⟨_,_,rfl,f4,gTg g1,by simp only [gCx,tnd,gA8];omega⟩
 | false=>
   simp only [gP]
   cases x==2 with
   | true=>
     simp only [jH]
     obtain⟨s,c2,f1,f2,_⟩:=gP7 c1 [[105,110,116],[98,111,111,108]] e4 (by simp) (by simp)
     rw [kG f1,kG (gQo _ [] (by simp))]
     exact⟨_,_,rfl,f2,gQn (by simp) (by simp),by simp only [tnd,gA8];omega⟩
   | false=>
     simp only [gP]
     cases x==3 with
     | true=>
       simp only [jH,lt_]
       have hI:gKn=some ⟨2,[105,110,116],[]⟩:=by unfold gKn;rw [kG (gQo _ [] (by simp))]
       rw [kG hI,kG hI,kG (gQo _ [⟨2,[105,110,116],[]⟩] (by simp))]
       obtain⟨t,c2,f1,f2,f3⟩:=gWs c1 [gCx [63,49],⟨2,[105,110,116],[]⟩,gCx [97],⟨2,[98,111,120],[⟨2,[105,110,116],[]⟩]⟩] e4 (by simp) (by simp)
       rw [kG f1]
       have ht:DT VZ t∧tnd t≤2:=by
        have hi:DT VZ ⟨2,[105,110,116],[]⟩:=gQn (by simp) (by simp)
        simp only [List.mem_cons,List.not_mem_nil,or_false] at f3
        rcases f3 with rfl | rfl | rfl | rfl
        ·exact⟨gTg (by decide),by decide⟩
        ·exact⟨hi,by decide⟩
        ·exact⟨gTg (by decide),by decide⟩
        ·exact⟨gQn (by simpa using hi) (by simp),by decide⟩
       unfold gLx
       rw [pF ht.1.1.1]
       exact⟨_,_,rfl,f2,hF8 ht.1,by simp only [idT,tnd,gA8];omega⟩
     | false=>
       simp only [gP]
       cases d with
       | zero=>
         rw [show decide (((0:Nat):Int)≤0)=true from by decide]
         exact⟨_,_,rfl,e4,gTg (by decide),by simp only [gCx,tnd,gA8];omega⟩
       | succ d=>
         rw [show decide (((d+1:Nat):Int)≤0)=false from decide_eq_false (by omega),gP,show IntKind.i64.wrap (((d+1:Nat):Int) - 1)=(d:Int)from by rw [wP _ (by omega) (by omega)];omega]
         have hp:4^(d+1+1)=4^(d+1)*4:=Nat.pow_succ ..
         have hp1:1≤4^(d+1):=Nat.one_le_pow _ _ (by omega)
         obtain⟨y,c2,f1,f2⟩:=gJh c1 2 e4 (by omega) (by omega)
         rw [kG f1]
         obtain⟨t1,c3,g1,g2,g3,g4⟩:=hrec d rfl c2 f2
         cases y with
         | true=>
           simp only [jH]
           rw [kG g1,kG (gQo _ [t1] (by simp))]
           exact⟨_,_,rfl,g2,gQn (by simpa using g3) (by simp),by simp only [tnd,gA8];omega⟩
         | false=>
           simp only [gP]
           obtain⟨t2,c4,k1,k2,k3,k4⟩:=hrec d rfl c3 g2
           rw [kG g1,kG k1,kG (gQo _ [t1,t2] (by simp))]
           exact⟨_,_,rfl,k2,gQn (by simp [g3,k3]) (by simp),by simp only [tnd,gA8];omega⟩
theorem hCf:∀(n d:Nat),d < n→d≤8→∀c,gAq c→∃t c',gH9 n c (d:Int)=some (t,c')∧gAq c'∧DT VZ t∧tnd t≤4^(d+1)
 | 0,d,h,_=>by omega
 | n+1,d,h,h8=>fun c hc=>by
   rw [gH9]
   exact hKz d h8 (fun e he c hc=>hCf n e (by omega) (by omega) c hc) c hc
theorem hCg(c:jA)(hc:gAq c):∃t c',gH9 5000 c 2=some (t,c')∧gAq c'∧DT VZ t∧tnd t≤64:=hCf 5000 2 (by omega) (by omega) c hc
theorem hF9(x1:Int × jA)(h3:x1.1≤3):∀(n k:Nat) (c:jA) (acc:List jD),0 < n→x1.1 < k+n→gAq c→acc.length=k→k≤900→gNl acc→∃l c',gA4 x1 n c.b c.i c.h acc (k:Int)=some (l,c')∧gAq c'∧gNl l∧l.length≤1000
 | 0,k,c,acc,h,_,_,_,_,_=>by omega
 | n+1,k,c,acc,_,h,hc,ha,hk,hw=>by
   rw [gA4]
   cases hd:decide ((k:Int) < x1.1)with
   | false=>exact⟨_,_,rfl,hc,hw,by omega⟩
   | true=>
     have hd:=of_decide_eq_true hd
     obtain⟨s,c1,f1,f2,f3⟩:=gP7 c [[115,104,111,119],[111,114,100],[97,100,100]] hc (by simp) (by simp)
     obtain⟨v,c2,g1,g2,_⟩:=gP7 c1 [[97],[98]] f2 (by simp) (by simp)
     have f1:gEf ⟨c.b,c.i,c.h⟩ [[115,104,111,119],[111,114,100],[97,100,100]]=some (s,c1):=f1
     rw [jH,kG f1,kG g1]
     simp only [lt_]
     rw [pF (by simp;omega),show IntKind.i64.wrap ((k:Int)+1)=((k+1:Nat):Int)from gP4 (by omega)]
     refine hF9 x1 h3 n (k+1) c2 _ (by omega) (by omega) g2 (by simp [ha]) (by omega) (fun b hb=>?_)
     rcases List.mem_append.1 hb with hb | hb
     ·exact hw b hb
     ·simp only [List.mem_singleton] at hb
      subst hb
      refine⟨?_,gJg _ _⟩
      simp only [List.mem_cons,List.not_mem_nil,or_false] at f3
      exact f3
theorem gZ8(c:jA)(hc:gAq c):∃l c',gMh c=some (l,c')∧gAq c'∧gNl l∧l.length≤1000:=by
 obtain⟨x,c1,e1,e2,e3,e4⟩:=gEi c 3 hc (by omega) (by omega)
 unfold gMh gIe
 rw [kG e1]
 exact hF9 (x,c1) (by simp only;omega) 5000 0 c1 [] (by omega) (by simp only;omega) e4 rfl (by omega) (fun b hb=>by simp at hb)
theorem hDg(c:jA)(hc:gAq c):∃w k c',gHp c=some (w,c')∧gAq c'∧gUt w k:=by
 obtain⟨b,c1,e1,e2⟩:=hFk c hc
 have hC:okC b=true:=by cases b;· exact hO1
                        ·exact hO0
 obtain⟨p,p1,p2,_,p4,p5,p6⟩:=gYi (by omega) hC
 have hp:p=pC b:=by unfold pC;rw [p2]
 subst hp
 obtain⟨y,c2,f1,f2⟩:=gJh c1 5 e2 (by omega) (by omega)
 unfold gHp gC4
 rw [kG e1,kG f1]
 cases y with
 | true=>
   have hP:wM (fmt (gP6 b))=some (⟨[pC b]⟩,-1):=by
    unfold wM
    rw [kG (hHm _ p5 (by omega))]
    simp only [qL,p4,gP,p1,bnd,lt_,Bool.not_true]
    rw [show (((([]:List jX).length:Nat):Int)==5)=false from by decide,gP,pF (by simp)]
    rfl
   simp only [jH,bnd]
   rw [hP]
   exact⟨_,kC b,_,rfl,f2,hC4 b [] (.inl rfl)⟩
 | false=>
   simp only [gP]
   obtain⟨hd,m,o1,o2,o3,c3,g1,g2,g3,g4,g5,g6,g7⟩:=hHx c2 f2
   have hA:=hOx
   unfold okA at hA
   have h1:=List.all_eq_true.1 hA hd g3
   have h2:=List.all_eq_true.1 h1 m g4
   have h3:=List.all_eq_true.1 h2 o1 (by rcases g5 with rfl | rfl<;>simp)
   have h4:=List.all_eq_true.1 h3 o2 (by rcases g6 with rfl | rfl<;>simp)
   have h5:=List.all_eq_true.1 h4 o3 (by rcases g7 with rfl | rfl<;>simp)
   obtain⟨q,q1,_,q3,q4,q5,q6⟩:=gYi (by omega) h5
   simp only [Bool.and_eq_true,decide_eq_true_eq] at q3
   rw [pF (by simp;omega),kG g1,pF (by simp;omega)]
   simp only [bnd]
   have hP:wM (fmt (gP6 b)++[10]++fmt (hFh hd m o1 o2 o3))=some (⟨[pC b,q]⟩,-1):=by
    unfold wM
    have hs:gCy (fmt (gP6 b)++[10]++fmt (hFh hd m o1 o2 o3)) 10=some [fmt (gP6 b),fmt (hFh hd m o1 o2 o3)]:=hHn _ _ p5 q5 (by omega)
    rw [kG hs]
    simp only [qL,p4,q4,gP,p1,q1,bnd,lt_,Bool.not_true]
    rw [show (((([]:List jX).length:Nat):Int)==5)=false from by decide,gP,pF (by simp)]
    rw [show ((((([]++[pC b]):List jX).length:Nat):Int)==5)=false from by simp,gP,pF (by simp)]
    rfl
   rw [hP]
   exact⟨_,kC b,_,rfl,g2,hC4 b [q] (.inr ⟨q,rfl,q3.1,q3.2⟩)⟩
theorem gK6:∀(xs y:List gI),(∀b∈xs,tok b.type_)→y.length+xs.length≤4294967296→gAm xs y=some (y++xs)
 | [],y,_,_=>by simp [gAm]
 | x::xs,y,h,hl=>by
   simp only [List.length_cons] at hl
   rw [gAm,pF (h x (by simp))]
   simp only [lt_,idT]
   rw [pF (by simp;omega),gK6 xs _ (fun b hb=>h b (by simp [hb])) (by simp;omega)]
   simp
theorem gMl(s:gG)(ho:s.obligations=[])(b:List gI):∀(xs y:List kE),(∀q∈xs,tok q.a∧tok q.b)→y.length+xs.length≤4294967296→wU s b xs y=some ⟨s.next,s.count,s.node,b,y++xs,[],s.code,s.at_⟩
 | [],y,_,_=>by simp [wU,ho,gAv]
 | x::xs,y,h,hl=>by
   simp only [List.length_cons] at hl
   rw [wU,pF (h x (by simp)).1]
   simp only [lt_,idT]
   rw [pF (h x (by simp)).2,pF (by simp;omega),gMl s ho b xs _ (fun q hq=>h q (by simp [hq])) (by simp;omega)]
   simp
theorem gZ9{V:List (List UInt8)}{s:gG}(h:Inv V s)(hV:V.length≤5)(he:s.equations.length≤4294967296):gF9 s=some s:=by
 have hl:=h.len
 unfold gF9 gLw
 rw [kG (gK6 s.bindings [] h.bok (by simp;omega)),gMl s h.obl.1 _ s.equations [] h.eqs (by simp;omega)]
 obtain⟨a,b,c,d,e,f,g,i⟩:=s
 have:=h.obl.1
 simp only at this
 subst this
 simp
def eqB(k:Nat):Nat:=1000000000*k
theorem hAa{w:gH}{k:Int}(hw:gUt w k){wh:List jD}(hwh:gNl wh)(hwl:wh.length≤1000){s:gG}(hi:Inv VZ s){a b:gD}(ha:DT VZ a)(hb:DT VZ b)(hta:tnd a≤64)(htb:tnd b≤64)(j:Nat)(hj:j≤2)(he:s.equations.length≤eqB j) :
  ∃s',zS w wh s a b=some s'∧Inv VZ s'∧s'.equations.length≤eqB (j+1):=by
 have hk:=hA8
 have hV:VZ.length≤5:=by decide
 unfold eqB at *
 have h6:KQ*(40+1)*(6 - s.bindings.length)≤KQ*(40+1)*6:=Nat.mul_le_mul_left _ (by omega)
 rw [hk] at h6
 obtain⟨s',q1,q2,q3⟩:=gYd hw hwh hwl hV 40 5000 (by omega) (by omega) s a b hi ha hb (by omega) (by omega) (by rw [hk];omega)
 have q1:wZ 5000 w wh s a b 40=some s':=q1
 have hl:=q2.len
 have hle:=q3.le
 have h5:KQ*(40+1)*(s'.bindings.length - s.bindings.length)≤KQ*(40+1)*5:=Nat.mul_le_mul_left _ (by omega)
 rw [hk] at h5 hle
 unfold zS
 rw [kG q1,kG (gZ9 q2 hV (by omega))]
 exact⟨s',rfl,q2,by omega⟩
theorem hAb{w:gH}{k:Int}(hw:gUt w k){wh:List jD}(hwh:gNl wh)(hwl:wh.length≤1000)(x2:Int × jA)(h3:x2.1≤3):∀(n j:Nat) (c:jA) (s:gG),0 < n→x2.1 < j+n→j≤3→gAq c→Inv VZ s→s.equations.length≤eqB j→
  ∃s' c',gBt w wh x2 n c.b c.i c.h s.next s.count s.node s.bindings s.equations s.obligations s.code s.at_ (j:Int)=some (s',c')∧gAq c'∧Inv VZ s'∧s'.equations.length≤3000000000
 | 0,j,c,s,h,_,_,_,_,_=>by omega
 | n+1,j,c,s,_,h,hj,hc,hi,he=>by
   rw [gBt]
   cases hd:decide ((j:Int) < x2.1)with
   | false=>exact⟨s,c,rfl,hc,hi,by unfold eqB at he;omega⟩
   | true=>
     have hd:=of_decide_eq_true hd
     obtain⟨a,c1,a1,a2,a3,a4⟩:=hCg c hc
     obtain⟨b,c2,b1,b2,b3,b4⟩:=hCg c1 a2
     have a1:gH9 5000 ⟨c.b,c.i,c.h⟩ 2=some (a,c1):=a1
     obtain⟨s',q1,q2,q3⟩:=hAa hw hwh hwl hi a3 b3 a4 b4 j (by omega) he
     have q1:zS w wh ⟨s.next,s.count,s.node,s.bindings,s.equations,s.obligations,s.code,s.at_⟩ a b=some s':=q1
     rw [jH,kG a1,kG b1]
     simp only
     rw [kG q1,show IntKind.i64.wrap ((j:Int)+1)=((j+1:Nat):Int)from gP4 (by omega)]
     have he':s.equations.length≤eqB (j+1):=by unfold eqB at *;omega
     cases s'.code==0 with
     | true=>exact hAb hw hwh hwl x2 h3 n (j+1) c2 s' (by omega) (by omega) (by omega) b2 q2 q3
     | false=>
       obtain⟨y,c3,f1,f2⟩:=gJh c2 12 b2 (by omega) (by omega)
       rw [gP,kG f1]
       cases y with
       | true=>exact hAb hw hwh hwl x2 h3 n (j+1) c3 s' (by omega) (by omega) (by omega) f2 q2 q3
       | false=>exact hAb hw hwh hwl x2 h3 n (j+1) c3 s (by omega) (by omega) (by omega) f2 hi he'
theorem Inv.start(V:List (List UInt8))(x:Int):Inv V ⟨4,0,x,[],[],[],0,0⟩:=⟨fun i b h=>by simp at h,fun b h=>by simp at h,fun b h=>by simp at h,⟨rfl,rfl⟩,fun q h=>by simp at h⟩
theorem hK0{w:gH}{k:Int}(hw:gUt w k){wh:List jD}(hwh:gNl wh)(hwl:wh.length≤1000)(c:jA)(hc:gAq c):∃s c',gWe c w wh=some (s,c')∧gAq c'∧Inv VZ s∧s.equations.length≤3000000000:=by
 obtain⟨x,c1,e1,_,_,e4⟩:=gEi c 5 hc (by omega) (by omega)
 obtain⟨y,c2,f1,f2,f3,f4⟩:=gEi c1 4 e4 (by omega) (by omega)
 unfold gWe gO2
 rw [kG e1,kG f1]
 exact hAb hw hwh hwl (y,c2) (by simp only;omega) 5000 0 c2 ⟨4,0,x,[],[],[],0,0⟩ (by omega) (by simp only;omega) (by omega) f4 (.start _ _) (by simp [eqB])
theorem hAc(code:List UInt8)(h:gAq (gH0 code)):∃s,vM code=some s∧Inv VZ s∧s.equations.length≤3000000000:=by
 obtain⟨w,k,c1,a1,a2,a3⟩:=hDg _ h
 obtain⟨wh,c2,b1,b2,b3,b4⟩:=gZ8 c1 a2
 obtain⟨s,c3,d1,d2,d3,d4⟩:=hK0 a3 b3 b4 c2 b2
 unfold vM
 simp only [lt_]
 rw [kG a1,kG b1,kG d1]
 exact⟨s,rfl,d3,d4⟩
theorem gVd(code:List UInt8)(h:code.length≤1048576→gAq (gH0 code)):gIg code=some true:=by
 unfold gIg gRe
 cases hb:decide ((code.length:Int) > 1048576)with
 | true=>rfl
 | false=>
   have hb:=of_decide_eq_false hb
   simp only [gP]
   obtain⟨s,e1,hi,he⟩:=hAc code (h (by omega))
   have hn:=hi.obl.2
   have hl:=hi.len
   have hV:VZ.length=5:=rfl
   have i1:hEt s:=⟨⟨by omega,hi.bok⟩,⟨by omega,hi.eqs⟩,by rw [hi.obl.1];simp,by rw [hi.obl.1];simp⟩
   have i2:hEt (nxS s):=i1
   have n2:(nxS s).next=5:=by simp only [nxS];rw [hn];decide
   have r1:zH s.next:=by rw [hn];exact⟨by decide,by decide⟩
   have r2:zH (nxS s).next:=by rw [n2];exact⟨by decide,by decide⟩
   have t4:Lib.itoa 4=[52]:=by kernel_rfl
   have t5:Lib.itoa 5=[53]:=by kernel_rfl
   have q1:nxT s=⟨1,[63,52],[]⟩:=by unfold nxT;rw [hn,t4];rfl
   have q2:nxT (nxS s)=⟨1,[63,53],[]⟩:=by unfold nxT;rw [n2,t5];rfl
   have v2:(nxS (nxS s)).next=6:=by rw [show (nxS (nxS s)).next=IntKind.i64.wrap ((nxS s).next+1)from rfl,n2];decide
   have b1:(nxS s).bindings=s.bindings:=rfl
   rw [kG e1,kG (gRc s i1 r1)]
   simp only
   rw [kG (gRc (nxS s) i2 r2)]
   simp only [q1,q2]
   rw [kG (gWb ⟨1,[63,52],[]⟩ (by decide))]
   rw [show gLj ⟨1,[63,52],[]⟩=true from by decide,jH]
   rw [kG (gWb ⟨1,[63,53],[]⟩ (by decide))]
   rw [show gLj ⟨1,[63,53],[]⟩=true from by decide,jH]
   rw [show teq ⟨1,[63,52],[]⟩ ⟨1,[63,53],[]⟩=false from by decide]
   simp only [Bool.not_false,jH,v2,hn,b1]
   rw [show ((6:Int)==IntKind.i64.wrap (4+2))=true from by decide,jH]
   simp only [beq_self_eq_true,jH]
   have f1:gAk 4=some [52]:=by unfold gAk;rw [pF (show zH 4 from⟨by decide,by decide⟩),t4]
   rw [kG f1]
   rfl
end Go.Proofs.YtfaplndgbgoaaaaGreatDoor
set_option linter.unusedVariables false
set_option linter.unusedSimpArgs false
namespace Go.Proofs.YtfaplndgbgoaaaaGreatDoor
open Go Go.Eng Go.RowKit
theorem hDh {H:Type} {enc:TypeId × Value→H} {P:Program} {w:World} {sp:Nat→Bool} {held:Bool} {T e:TypeId} {v:Value} {d:DataW H} {ps:List MemPlace} (hund:P.underlying T=some (.slice e)) (he:P.underlying e=some (.int .u8)) (hce:P.cellsOf e=1) (hbe:0 < P.bytesOf e)
  (h:DataW.Trod enc P w 0 sp held T v d ps) (hw:∀x∈d.weights P T,x≤reachBytes) (hna:∀cs,v≠.agg cs):∃code:List UInt8,SVr (fun b=>b < w.heap.size) [] [] w (.d (.sl 1 (kQ code))) v:=by
 obtain⟨fuel,h⟩:=h
 have hc:v.cells=#[v]:=by cases v<;>first | rfl | (exact absurd rfl (hna _))
 rw [hc] at h
 suffices hs:∃code:List UInt8,Rd (fun b=>b < w.heap.size) w (.sl 1 (kQ code)) [v] by
  obtain⟨code,h1⟩:=hs
  refine⟨code,?_⟩
  simp only [SVr]
  exact⟨[v],by simp [val,U.isSt],h1⟩
 have hlenB:∀l:List UInt8,(kQ l).length=l.length:=fun l=>Enc.len l
 cases fuel with
 | zero=>simp [DataW.trod] at h
 | succ fuel=>
   rcases DataW.trod_slice hund h with ⟨h0,hx⟩ | ⟨a,len,cap,elems,rest,n,hn,h0,hx,_,hlc,_,hel,hget,_,_⟩
   ·simp at h0
    subst h0
    exact⟨[],by simp only [Rd,kQ];exact⟨by simp [yH],none,0,rfl,.inl trivial⟩⟩
   ·obtain rfl:fuel=n:=by omega
    simp at h0
    subst h0
    simp only [Prod.mk.injEq] at hx
    obtain⟨rfl,rfl⟩:=hx
    simp only [DataW.weights,hund] at hw
    have hlen:len≤big:=by
     have h1:=hw _ (List.mem_cons_self)
     simp only [List.length_map] at h1
     refine gWy (Nat.le_trans ?_ h1)
     rw [hel]
     calc len≤len*P.bytesOf e:=Nat.le_mul_of_pos_right _ hbe
      _≤(len+rest.length)*P.bytesOf e:=Nat.mul_le_mul_right _ (by omega)
    have each:∀i,i < len→∃x:UInt8,(a.spot=none→At w a.block (a.off+i*1) [.int .u8 (x.toNat:Int)])∧(i=0→a.spot=none)∧a.block < w.heap.size:=by
     intro i hi
     have h1:=hget i hi
     rw [List.getElem?_eq_getElem (by omega)] at h1
     cases hc:w.cells? 0 (a.add (i*P.cellsOf e)) (P.cellsOf e)with
     | none=>rw [hc] at h1;simp at h1
     | some cs=>
       rw [hc] at h1
       simp only [Option.bind_some] at h1
       rw [hce] at hc
       obtain⟨k1,k2,k3⟩:=hAe (by omega) hc
       obtain⟨m,rfl,_,hwf⟩:=DataW.trod_int he h1
       simp [Lit.wf,IntKind.min,IntKind.max,IntKind.bits,IntKind.signed] at hwf
       have hblk:(a.add (i*1)).block=a.block:=by unfold Addr.add;split<;>rfl
       refine⟨UInt8.ofNat m.toNat,fun hsp=>?_,fun h0=>?_,?_⟩
       ·have hoff:(a.add (i*1)).off=a.off+i*1:=by unfold Addr.add;split<;>simp_all
        rw [hblk,hoff] at k3
        have e1:((UInt8.ofNat m.toNat).toNat:Int)=m:=by
         rw [UInt8.toNat_ofNat']
         omega
        rw [e1]
        exact k3
       ·subst h0
        rw [Nat.zero_mul] at k2
        exact k2
       ·rw [←hblk];exact k3.lt
    obtain⟨us,hul,hus⟩:=gMt len each
    refine⟨us,?_⟩
    simp only [Rd]
    refine⟨by rw [hlenB,hul];exact hlen,some a,cap - len,by rw [hlenB,hul,Nat.add_sub_cancel' hlc],?_⟩
    by_cases h0:us=[]
    ·subst h0;exact .inl rfl
    ·have hpos:0 < len:=by rw [←hul];exact List.length_pos_iff.2 h0
     obtain⟨u0,_,hsp,hblt⟩:=each 0 hpos
     have hsp:=hsp rfl
     refine .inr ⟨a.block,a.off,?_,hblt,RdE.mk (kQ us) a.off (fun k u hk=>?_)⟩
     ·obtain⟨b,o,sp⟩:=a
      simp only at hsp
      subst hsp
      rfl
     ·have hk2:k < us.length:=by rw [←hlenB];exact(List.getElem?_eq_some_iff.1 hk).1
      have hk3:=hEc (List.getElem?_eq_getElem hk2)
      rw [hk] at hk3
      obtain rfl:=Option.some.inj hk3
      obtain⟨k1,_,_⟩:=hus k _ (List.getElem?_eq_getElem hk2)
      exact⟨_,rfl,k1 hsp,by simp only [Rd]⟩
end Go.Proofs.YtfaplndgbgoaaaaGreatDoor
