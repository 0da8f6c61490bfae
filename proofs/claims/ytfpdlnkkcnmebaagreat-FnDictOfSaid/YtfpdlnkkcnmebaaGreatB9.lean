import Derived.Test.YtfpdlnkkcnmebaaGreatB5
set_option maxHeartbeats 4000000
set_option linter.unusedVariables false
set_option linter.unusedSimpArgs false
set_option linter.unusedSectionVars false
namespace Go.Proofs.YtfpdlnkkcnmebaaGreat
open Go Go.Eng
attribute [local irreducible] V VO VQ VY Quiet QR jI mK Rng qE qA pX
def gHb(f:gF→Option (Bool)):List gF→Option (Bool)
 | []=>(some true)
 | h::xs=>bnd (f h) fun q=>
(cnd (!q) (
(some false)) (
gHb f xs ))
def gTu(f:gF→Option (Bool))(h:gF):Option (Bool):=
(cnd (!(h.atom==[])) (
lt_ ((cnd (gFs h.atom) (((h.list.length:Int)==0)) (false))) fun q=>
(some q)) (
gHb f h.list ))
theorem hHb{f:gF→Option (Bool)}(q:∀(x0:gF){r:Bool},f x0=some r→jI Tryz.prog 185 [.d (qJ x0)] [.b r])(a0:gF){r:Bool}(h:gTu f a0=some r):jI Tryz.prog 185 [.d (qJ a0)] [.b r]:=by
 obtain⟨ab,aa⟩:=a0;unfold gTu at h;refine SpI Tryz.func185 fun A _=>?_;refine goC h ?_ ?_<;>intro c1 h
 ·refine goL ?_;refine jP (gI (gSj ab)) ?_;obtain⟨b2,hb2,h⟩:=uK h;refine kH ⟨[(2,.B b2)],[bSx ab aa],Tryz.f185.ntmps⟩ ?_ ?_
  ·exact gqZ 10 hb2
  exact goR h
 ·refine goS ?_;refine noB ?_;refine yC 0 1 (fun z5=>?_);refine pY (fun(y4:Nat)=>⟨[(1,.ptr 0 0),(3,.N y4)],[bSx ab aa],Tryz.f185.ntmps⟩) (fun y4=>gHb f (aa.drop y4)  =some r) (fun y4=>aa.length - y4) 0 eJ h ?_;rintro y4 h;refine goL ?_;refine mR (fun c6=>?_) (fun c6=>?_)
  ·have y:=vR c6;obtain⟨x7,ah,ad⟩:=drop_at y;rw [ad,gHb.eq_2] at h;obtain⟨al,am⟩:=x7;refine noS ?_;refine kI (jA ?_);refine goL ?_;refine jP (jR y4 (vH ah)) ?_;obtain⟨x8,ai,h⟩:=gJ h;refine jP (gI (q _ ai)) ?_;refine mR (fun c9=>?_) (fun c9=>?_)
   ·replace h:=kU c9 h;exact goR h
   ·replace h:=kV c9 h;refine goS ?_;refine jP (kD y4 (by omega)) ?_;exact⟨(y4+1),h,by omega,eJ⟩
  ·have y:=vS c6;rw [jK y,gHb.eq_1] at h;refine goX ?_;refine jF ?_;cases h;exact uM
def gTv:Nat→gF→Option (Bool)
 | 0,_=>none
 | n+1,f=>gTu (gTv n) f
theorem hHe:∀(n:Nat)(f:gF){r:Bool},gTv n f=some r→jI Tryz.prog 185 [.d (qJ f)] [.b r]:=by
 intro n
 induction n with
 | zero=>intro f r h;cases h
 | succ n ih=>intro f r h;exact hHb ih f h
def gHc:List gF→(List gB)→Option (List gB)
 | [],f=>(some f)
 | q::xs,f=>bnd (gMn 5000 q) fun h=>
gd (f.length+[h].length≤4294967296) (
gHc xs (f++[h]))
def gPk(f:List gF):Option (List gB):=
gHc f []
theorem gYq(a0:List gF){r:List gB}(h:gPk a0=some r):jI Tryz.prog 200 [.L 2 (jB a0)] [.sl 3 (gN r)]:=by
 unfold gPk at h;refine SpI Tryz.func200 fun A _=>?_;refine goL ?_;refine gAu ?_;refine goL ?_;refine noB ?_;refine gCw 0 (fun z4=>?_);refine mG (fun(q:Nat)(y1:List gB)(v2:Nat)=>⟨[(0,.L 2 (jB a0)),(3,.sl 0 v2),(4,.N q)],[.arr 37 3 v2 (gN y1)],Tryz.f200.ntmps⟩) (fun q y1 v2=>gHc (a0.drop q) y1=some r) (fun q y1 v2=>a0.length - q) 0 [] 0 eJ h ?_;rintro q y1 v2 h;refine goL ?_;refine mR (fun c5=>?_) (fun c5=>?_)
 ·have f:=vR c5;obtain⟨x6,ai,ag⟩:=drop_at f;rw [ag,gHc.eq_2] at h;obtain⟨ak,al⟩:=x6;refine noS ?_;refine kI (jA ?_);refine goL ?_;refine jP (jR q (vH ai)) ?_;obtain⟨⟨y,aa,ab⟩,aj,h⟩:=gJ h;refine uN (gI (gO3 _ _ aj)) ?_;refine uO (u:=(.st [.i .i64 y,.s aa,.sl 3 (gN ab)])) ?_;obtain⟨g8,h⟩:=pU h;refine gAd g8 ?_;refine goL ?_;refine jP (kD q (by omega)) ?_;exact⟨(q+1),(y1++[(gB.mk y aa ab)]),(v2+1),h,by omega,eJ⟩
 ·have f:=vS c5;rw [jK f,gHc.eq_1] at h;refine goX ?_;refine gV 0 rfl rfl ?_;refine jF ?_;cases h;exact uM
def gTw(y:gF→Option (gL8))(h:(List gF)→Option (List gY))(f:gF→Option (gY))(q:gF):Option (gL8):=
(cnd (decide ((q.list.length:Int) < 2)) (
(some (gL8.mk [] [] (gY.mk 0 [] [] 0 (gB.mk 0 [] []) [] [])))) (
gd (0≤(1:Int)∧(1:Int)≤(IntKind.i64.wrap ((q.list.length:Int) - 1))∧(IntKind.i64.wrap ((q.list.length:Int) - 1))≤(q.list.length:Int)) (
bnd (gKp ((q.list.drop (Int.toNat 1)).take (Int.toNat (IntKind.i64.wrap ((q.list.length:Int) - 1)) - Int.toNat 1))) fun x3=>
bnd (at? q.list 0) fun x4=>
bnd (at? q.list (IntKind.i64.wrap ((q.list.length:Int) - 1))) fun x5=>
bnd (f x5) fun x6=>
(some (gL8.mk x4.atom x3.1 x6)))))
def gPl(f:gF→Option (gL8)):Prop:=∀(h:gF){r:gL8},f h=some r→jI Tryz.prog 218 [.d (qJ h)] [hMi r]
def gL4(f:(List gF)→Option (List gY)):Prop:=∀(h:List gF){r:List gY},f h=some r→jI Tryz.prog 217 [.L 2 (jB h)] [.sl 9 (kQ r)]
def gK6(f:gF→Option (gY)):Prop:=∀(h:gF){r:gY},f h=some r→jI Tryz.prog 202 [.d (qJ h)] [gBp r]
theorem hHf{y}{f}{q}(ac:gPl y)(ab:gL4 f)(aa:gK6 q)(a0:gF){r:gL8}(h:gTw y f q a0=some r):jI Tryz.prog 218 [.d (qJ a0)] [hMi r]:=by
 obtain⟨ap,ad⟩:=a0;unfold gTw at h;refine SpI Tryz.func218 fun A _=>?_;refine goC h ?_ ?_<;>intro c1 h
 ·refine goL ?_;refine vP (jN TBd.h TZ.h rfl (by repeat constructor)) ?_;exact goR h
 ·refine goS ?_;refine uN (pV) ?_;obtain⟨g2,h⟩:=pU h;refine uN (hKz g2) ?_;obtain⟨⟨aq,ar⟩,an,h⟩:=gJ h;refine uN (gI (gQe ((ad.drop (Int.toNat 1)).take (Int.toNat (IntKind.i64.wrap ((ad.length:Int) - 1)) - Int.toNat 1)) an)) ?_;refine gIb ?_;refine jS (P:=Tryz.prog) Mix.h [(0,true),(1,true),(2,true),(3,true),(4,true),(5,true),(6,true),(7,true),(8,true),(9,true),(10,true),(11,true),(12,true),(13,true),(14,false)] (by kernel_rfl) ?_;refine goY ?_;obtain⟨x4,ae,h⟩:=gJ h;obtain⟨ah,ae⟩:=gBm ae;obtain⟨au,av⟩:=x4;refine jW rfl (uL ah (vH ae)) ?_;refine goY ?_;refine jW rfl (pV) ?_;obtain⟨x5,ag,h⟩:=gJ h;obtain⟨ai,ag⟩:=gBm ag;obtain⟨aw,ax⟩:=x5;refine jW rfl (uL ai (vH ag)) ?_;refine goY ?_;obtain⟨⟨ay,a3,a4,a5,⟨aj,ak,al⟩,a6,a7⟩,ao,h⟩:=gJ h;refine jW rfl (gI (aa _ ao)) ?_;refine goY ?_;refine mJ ?_;exact goR h
def gEp(f:gF→Option (gY)):List gF→(List gY)→Option (List gY)
 | [],h=>(some h)
 | y::xs,h=>bnd (f y) fun q=>
gd (h.length+[q].length≤4294967296) (
gEp f xs (h++[q]))
def gOl(q:gF→Option (gL8))(h:(List gF)→Option (List gY))(f:gF→Option (gY))(y:List gF):Option (List gY):=
gEp f y []
theorem hAe{y}{q}{f}(ah:gPl y)(ag:gL4 q)(aa:gK6 f)(a0:List gF){r:List gY}(h:gOl y q f a0=some r):jI Tryz.prog 217 [.L 2 (jB a0)] [.sl 9 (kQ r)]:=by
 unfold gOl at h;refine SpI Tryz.func217 fun A _=>?_;refine goL ?_;refine gAu ?_;refine goL ?_;refine noB ?_;refine gCw 0 (fun z4=>?_);refine mG (fun(y3:Nat)(y1:List gY)(v2:Nat)=>⟨[(0,.L 2 (jB a0)),(3,.sl 0 v2),(4,.N y3)],[.arr 101 9 v2 (kQ y1)],Tryz.f217.ntmps⟩) (fun y3 y1 v2=>gEp f (a0.drop y3) y1=some r) (fun y3 y1 v2=>a0.length - y3) 0 [] 0 eJ h ?_;rintro y3 y1 v2 h;refine goL ?_;refine mR (fun c5=>?_) (fun c5=>?_)
 ·have ab:=vR c5;obtain⟨x6,aw,au⟩:=drop_at ab;rw [au,gEp.eq_2] at h;obtain⟨ay,a3⟩:=x6;refine noS ?_;refine kI (jA ?_);refine goL ?_;refine jP (jR y3 (vH aw)) ?_;obtain⟨⟨aj,ak,al,am,⟨ac,ad,ae⟩,an,ao⟩,ax,h⟩:=gJ h;refine uN (gI (aa _ ax)) ?_;refine uO (u:=(.st [.i .i64 aj,.s ak,.s al,.i .i64 am,.st [.i .i64 ac,.s ad,.sl 3 (gN ae)],.sl 9 (kQ an),.sl 11 (uZ ao)])) ?_;obtain⟨g8,h⟩:=pU h;refine gAd g8 ?_;refine goL ?_;refine jP (kD y3 (by omega)) ?_;exact⟨(y3+1),(y1++[(gY.mk aj ak al am (gB.mk ac ad ae) an ao)]),(v2+1),h,by omega,eJ⟩
 ·have ab:=vS c5;rw [jK ab,gEp.eq_1] at h;refine goX ?_;refine gV 0 rfl rfl ?_;refine jF ?_;cases h;exact uM
def gF1(f:gF→Option (gL8))(q:List gY):List gF→(List gL8)→Option (gY)
 | [],h=>(some (gY.mk 7 [] [] 0 (gB.mk 0 [] []) q h))
 | aa::xs,h=>bnd (f aa) fun y=>
gd (h.length+[y].length≤4294967296) (
gF1 f q xs (h++[y]))
def gQq(y:gF→Option (gL8))(f:(List gF)→Option (List gY))(ab:gF→Option (gY))(h:gF):Option (gY):=
(cnd (!(h.atom==[])) (
bnd (gMw h.atom) fun x2=>
(cnd x2.2 (
lt_ (gFr x2.1) fun x4=>
(some x4)) (
(cnd (h.atom==[116,114,117,101]) (
(some (gY.mk 2 [] [] 1 (gB.mk 0 [] []) [] []))) (
(cnd (h.atom==[102,97,108,115,101]) (
(some (gY.mk 2 [] [] 0 (gB.mk 0 [] []) [] []))) (
lt_ (gJn h.atom) fun x7=>
(some x7)))))))) (
gd (([]:List gF).length+h.list.length≤4294967296) (
gd (([]++h.list).length+[(gF.mk [] []),(gF.mk [] []),(gF.mk [] [])].length≤4294967296) (
bnd (at? (([]++h.list)++[(gF.mk [] []),(gF.mk [] []),(gF.mk [] [])]) 1) fun aa=>
bnd (at? (([]++h.list)++[(gF.mk [] []),(gF.mk [] []),(gF.mk [] [])]) 0) fun q=>
(cnd (q.atom==[99,97,108,108]) (
gd (0≤(vO 2 (h.list.length:Int))∧(vO 2 (h.list.length:Int))≤(h.list.length:Int)) (
bnd (f (h.list.drop (Int.toNat (vO 2 (h.list.length:Int))))) fun ac=>
(some (gY.mk 4 [] aa.atom 0 (gB.mk 0 [] []) ac [])))) (
(cnd (q.atom==[109,101,116,104,111,100]) (
bnd (at? (([]++h.list)++[(gF.mk [] []),(gF.mk [] []),(gF.mk [] [])]) 2) fun ad=>
gd (0≤(vO 3 (h.list.length:Int))∧(vO 3 (h.list.length:Int))≤(h.list.length:Int)) (
bnd (f (h.list.drop (Int.toNat (vO 3 (h.list.length:Int))))) fun ae=>
(some (gY.mk 5 aa.atom ad.atom 0 (gB.mk 0 [] []) ae [])))) (
(cnd (q.atom==[110,101,119]) (
gd (0≤(vO 2 (h.list.length:Int))∧(vO 2 (h.list.length:Int))≤(h.list.length:Int)) (
bnd (f (h.list.drop (Int.toNat (vO 2 (h.list.length:Int))))) fun ag=>
(some (gY.mk 6 [] aa.atom 0 (gB.mk 0 [] []) ag [])))) (
(cnd (q.atom==[108,101,116]) (
gd (0≤(vO 2 (h.list.length:Int))∧(vO 2 (h.list.length:Int))≤(h.list.length:Int)) (
bnd (f (h.list.drop (Int.toNat (vO 2 (h.list.length:Int))))) fun ah=>
(some (gY.mk 8 [] aa.atom 0 (gB.mk 0 [] []) ah [])))) (
(cnd (q.atom==[105,102]) (
gd (0≤(1:Int)∧1≤(h.list.length:Int)) (
bnd (f (h.list.drop (Int.toNat 1))) fun ai=>
(some (gY.mk 9 [] [] 0 (gB.mk 0 [] []) ai [])))) (
(cnd (q.atom==[112,97,99,107]) (
gd (0≤(vO 2 (h.list.length:Int))∧(vO 2 (h.list.length:Int))≤(h.list.length:Int)) (
bnd (f (h.list.drop (Int.toNat (vO 2 (h.list.length:Int))))) fun aj=>
(some (gY.mk 11 aa.atom [] 0 (gB.mk 0 [] []) aj [])))) (
(cnd (q.atom==[116,104,101]) (
bnd (gMn 5000 aa) fun ak=>
gd (0≤(vO 2 (h.list.length:Int))∧(vO 2 (h.list.length:Int))≤(h.list.length:Int)) (
bnd (f (h.list.drop (Int.toNat (vO 2 (h.list.length:Int))))) fun al=>
(some (gY.mk 12 [] [] 0 ak al [])))) (
(cnd (q.atom==[99,97,115,101]) (
gd (0≤(1:Int)∧(1:Int)≤(vO 2 (h.list.length:Int))∧(vO 2 (h.list.length:Int))≤(h.list.length:Int)) (
bnd (f ((h.list.drop (Int.toNat 1)).take (Int.toNat (vO 2 (h.list.length:Int)) - Int.toNat 1))) fun am=>
gF1 y am (h.list.drop 2) [])) (
gd (0≤(vO 1 (h.list.length:Int))∧(vO 1 (h.list.length:Int))≤(h.list.length:Int)) (
bnd (f (h.list.drop (Int.toNat (vO 1 (h.list.length:Int))))) fun an=>
(some (gY.mk 10 [] q.atom 0 (gB.mk 0 [] []) an [])))))))))))))))))))))))
theorem hCx{y}{aa}{ab}(ag:gPl y)(f:gL4 aa)(a4:gK6 ab)(a0:gF){r:gY}(h:gQq y aa ab a0=some r):jI Tryz.prog 202 [.d (qJ a0)] [gBp r]:=by
 obtain⟨a5,q⟩:=a0;unfold gQq at h;refine SpI Tryz.func202 fun A _=>?_;refine goC h ?_ ?_<;>intro c1 h
 ·refine goL ?_;obtain⟨⟨a9,co⟩,bv,h⟩:=gJ h;refine jP (gI (gWy _ bv)) ?_;refine kI (jA ?_);refine goC h ?_ ?_<;>intro c3 h
  ·refine goL ?_;obtain⟨⟨cp,cq,cr,cs,⟨bn,bo,bp⟩,ct,cu⟩,bw,h⟩:=uK h;have sx4:=gM9 a9;rw [bw] at sx4;refine uN (gI (sx4)) ?_;exact goR h
  ·refine goC h ?_ ?_<;>intro c5 h
   ·refine goL ?_;refine vP (jN TBd.h TZ.h rfl (by repeat constructor)) ?_;exact goR h
   ·refine goC h ?_ ?_<;>intro c6 h
    ·refine goL ?_;refine vP (jN TBd.h TZ.h rfl (by repeat constructor)) ?_;exact goR h
    ·refine goS ?_;obtain⟨⟨cv,cw,cx,cy,⟨bq,br,bt⟩,cz,c0⟩,bx,h⟩:=uK h;have sx7:=gPh a5;rw [bx] at sx7;refine uN (gI (sx7)) ?_;exact goR h
 ·refine goS ?_;refine gAu ?_;refine goL ?_;obtain⟨g8,h⟩:=pU h;refine gAd g8 ?_;refine vP (jN TBd.h TZ.h rfl (by repeat constructor)) ?_;refine vP (jN TBd.h TZ.h rfl (by repeat constructor)) ?_;refine vP (jN TBd.h TZ.h rfl (by repeat constructor)) ?_;refine yQ (us:=jB [(gF.mk [] []),(gF.mk [] []),(gF.mk [] [])]) ?_;obtain⟨g9,h⟩:=pU h;refine gAd g9 ?_;refine goL ?_;refine kS 2 rfl rfl ?_;refine hAv ?_;obtain⟨bz,ap,h⟩:=gJ h;obtain⟨av,ap⟩:=gBm ap;obtain⟨b0,b1⟩:=bz;refine jP (uL av (vH ap)) ?_;obtain⟨b2,aq,h⟩:=gJ h;obtain⟨aw,aq⟩:=gBm aq;obtain⟨b3,b4⟩:=b2;refine jP (uL aw (vH aq)) ?_;refine jA ?_;refine goC h ?_ ?_<;>intro c7 h
  ·refine jS (P:=Tryz.prog) Mix.h [(0,true),(1,true),(2,true),(3,true),(4,true),(5,true),(6,true),(7,true),(8,false)] (by kernel_rfl) ?_;refine goY ?_;refine jW rfl (gI (gJm 2 (q.length:Int))) ?_;obtain⟨b5,h⟩:=pU h;refine jW rfl (gMp b5) ?_;obtain⟨c8,ba,h⟩:=gJ h;refine jW rfl (gI (f _ ba)) ?_;refine goY ?_;refine mJ ?_;exact goR h
  ·refine goC h ?_ ?_<;>intro c9 h
   ·refine jS (P:=Tryz.prog) Mix.h [(0,true),(1,true),(2,true),(3,true),(4,true),(5,true),(6,true),(7,true),(8,true),(9,true),(10,true),(11,true),(12,false)] (by kernel_rfl) ?_;refine goY ?_;obtain⟨b6,ax,h⟩:=gJ h;obtain⟨a6,ax⟩:=gBm ax;obtain⟨b7,b8⟩:=b6;refine jW rfl (uL a6 (vH ax)) ?_;refine goY ?_;refine jW rfl (gI (gJm 3 (q.length:Int))) ?_;obtain⟨b9,h⟩:=pU h;refine jW rfl (gMp b9) ?_;obtain⟨da,bb,h⟩:=gJ h;refine jW rfl (gI (f _ bb)) ?_;refine goY ?_;refine mJ ?_;exact goR h
   ·refine goC h ?_ ?_<;>intro db h
    ·refine jS (P:=Tryz.prog) Mix.h [(0,true),(1,true),(2,true),(3,true),(4,true),(5,true),(6,true),(7,true),(8,false)] (by kernel_rfl) ?_;refine goY ?_;refine jW rfl (gI (gJm 2 (q.length:Int))) ?_;obtain⟨ca,h⟩:=pU h;refine jW rfl (gMp ca) ?_;obtain⟨dc,bc,h⟩:=gJ h;refine jW rfl (gI (f _ bc)) ?_;refine goY ?_;refine mJ ?_;exact goR h
    ·refine goC h ?_ ?_<;>intro dd h
     ·refine jS (P:=Tryz.prog) Mix.h [(0,true),(1,true),(2,true),(3,true),(4,true),(5,true),(6,true),(7,true),(8,false)] (by kernel_rfl) ?_;refine goY ?_;refine jW rfl (gI (gJm 2 (q.length:Int))) ?_;obtain⟨cb,h⟩:=pU h;refine jW rfl (gMp cb) ?_;obtain⟨de,bd,h⟩:=gJ h;refine jW rfl (gI (f _ bd)) ?_;refine goY ?_;refine mJ ?_;exact goR h
     ·refine goC h ?_ ?_<;>intro df h
      ·refine goL ?_;obtain⟨cc,h⟩:=pU h;refine uN (gMp cc) ?_;obtain⟨dg,be,h⟩:=gJ h;refine uN (gI (f _ be)) ?_;refine vP (jN TBd.h TZ.h rfl (by repeat constructor)) ?_;exact goR h
      ·refine goC h ?_ ?_<;>intro dh h
       ·refine jS (P:=Tryz.prog) Mix.h [(0,true),(1,true),(2,true),(3,true),(4,true),(5,true),(6,true),(7,true),(8,false)] (by kernel_rfl) ?_;refine goY ?_;refine jW rfl (gI (gJm 2 (q.length:Int))) ?_;obtain⟨cd,h⟩:=pU h;refine jW rfl (gMp cd) ?_;obtain⟨di,bf,h⟩:=gJ h;refine jW rfl (gI (f _ bf)) ?_;refine goY ?_;refine mJ ?_;exact goR h
       ·refine goC h ?_ ?_<;>intro dj h
        ·refine jS (P:=Tryz.prog) Mix.h [(0,true),(1,true),(2,true),(3,true),(4,true),(5,true),(6,true),(7,true),(8,true),(9,true),(10,true),(11,false)] (by kernel_rfl) ?_;refine goY ?_;refine jW rfl (uL av (vH ap)) ?_;refine goY ?_;obtain⟨⟨ce,cf,cg⟩,bg,h⟩:=gJ h;refine jW rfl (gI (gO3 _ _ bg)) ?_;refine goY ?_;refine jW rfl (gI (gJm 2 (q.length:Int))) ?_;obtain⟨ch,h⟩:=pU h;refine jW rfl (gMp ch) ?_;obtain⟨dk,bh,h⟩:=gJ h;refine jW rfl (gI (f _ bh)) ?_;refine goY ?_;refine mJ ?_;exact goR h
        ·refine goC h ?_ ?_<;>intro dl h
         ·refine jS (P:=Tryz.prog) Mix.h [(0,true),(1,true),(2,true),(3,true),(4,true),(5,true),(6,true),(7,false),(8,false)] (by kernel_rfl) ?_;refine goY ?_;refine jW rfl (gI (gJm 2 (q.length:Int))) ?_;obtain⟨ci,h⟩:=pU h;refine jW rfl (hKz ci) ?_;obtain⟨bi,bj,h⟩:=gJ h;refine jW rfl (gI (f _ bj)) ?_;refine goY ?_;refine mJ ?_;refine goL ?_;refine noB ?_;refine qZ 147 11 4 8 rfl rfl (by repeat constructor) (by repeat constructor) (by repeat constructor) (by repeat constructor) ?_;show V _ _ _ _ _;refine gCw 38 (fun dm=>?_);refine mG (fun(ah:Nat)(ar:List gL8)(au:Nat)=>⟨[(1,.ptr 0 0),(2,.ptr 1 0),(6,.I (q.length:Int)),(8,.ptr 4 0),(9,.N ah)],[bSx a5 q,.box [.I 0,.S [],.S [],.I 0,.I 0,.S [],.nilsl,.nilsl,.nilsl],.frz 223 2 ((0+1)+1) (jB (([]++q)++[(gF.mk [] []),(gF.mk [] []),(gF.mk [] [])])),.arr 223 2 0 (jB [(gF.mk [] []),(gF.mk [] []),(gF.mk [] [])]),.box [.I 7,.S [],.S [],.I 0,.I 0,.S [],.nilsl,.L 9 (kQ bi),.sl 5 au],.arr 147 11 au (uZ ar)],Tryz.f202.ntmps⟩) (fun ah ar au=>gF1 y bi (q.drop ah) ar=some r) (fun ah ar au=>q.length - ah) 2 [] 0 eJ h ?_;rintro ah ar au h;refine goL ?_;refine mR (fun a7=>?_) (fun a7=>?_)
          ·have ai:=vR a7;obtain⟨cj,bk,a8⟩:=drop_at ai;rw [a8,gF1.eq_2] at h;obtain⟨ck,cl⟩:=cj;refine noS ?_;refine kI (jA ?_);refine yL (P:=Tryz.prog) Mix.h [(0,true),(1,true),(2,true),(3,true),(4,true),(5,true),(6,true),(7,true),(8,false),(9,false),(10,true),(11,false)] (by kernel_rfl) ?_;refine goY ?_;refine jW rfl (jR ah (vH bk)) ?_;refine goY ?_;obtain⟨⟨ay,a3,⟨aj,ak,al,am,⟨ac,ad,ae⟩,an,ao⟩⟩,bl,h⟩:=gJ h;refine jW rfl (gI (ag _ bl)) ?_;refine kT (T:=99) (us:=uZ [(gL8.mk ay a3 (gY.mk aj ak al am (gB.mk ac ad ae) an ao))]) ?_;obtain⟨cm,h⟩:=pU h;refine kN (T:=99) cm ?_;refine goY ?_;refine mJ ?_;refine goL ?_;refine jP (kD ah (by omega)) ?_;exact⟨(ah+1),(ar++[(gL8.mk ay a3 (gY.mk aj ak al am (gB.mk ac ad ae) an ao))]),(au+1),h,by omega,eJ⟩
          ·have ai:=vS a7;rw [jK ai,gF1.eq_1] at h;refine goX ?_;refine gV 5 rfl rfl ?_;refine jF ?_;cases h;exact uM
         ·refine noS ?_;refine jS (P:=Tryz.prog) Mix.h [(0,true),(1,true),(2,true),(3,true),(4,true),(5,true),(6,true),(7,true),(8,true),(9,true),(10,true),(11,false)] (by kernel_rfl) ?_;refine goY ?_;refine jW rfl (uL aw (vH aq)) ?_;refine goY ?_;refine jW rfl (gI (gJm 1 (q.length:Int))) ?_;obtain⟨cn,h⟩:=pU h;refine jW rfl (gMp cn) ?_;obtain⟨dn,bm,h⟩:=gJ h;refine jW rfl (gI (f _ bm)) ?_;refine goY ?_;refine mJ ?_;exact goR h
mutual
def gPm:Nat→gF→Option (gL8)
 | 0,_=>none
 | n+1,f=>gTw (gPm n) (gL5 n) (gF2 n) f
def gL5:Nat→(List gF)→Option (List gY)
 | 0,_=>none
 | n+1,f=>gOl (gPm n) (gL5 n) (gF2 n) f
def gF2:Nat→gF→Option (gY)
 | 0,_=>none
 | n+1,f=>gQq (gPm n) (gL5 n) (gF2 n) f
end
theorem hCy:∀(n:Nat),gPl (gPm n)∧gL4 (gL5 n)∧gK6 (gF2 n):=by
 intro n
 induction n with
 | zero=>exact⟨(by intro f r h;cases h),(by intro f r h;cases h),(by intro f r h;cases h)⟩
 | succ n ih=>
   obtain⟨ih0,ih1,ih2⟩:=ih;refine⟨(fun f r h=>hHf ih0 ih1 ih2 f h),(fun f r h=>hAe ih0 ih1 ih2 f h),(fun f r h=>hCx ih0 ih1 ih2 f h)⟩
theorem gQr:∀(n:Nat),gK6 (gF2 n):=fun n=>(hCy n).2.2
def gF3:LS→Bool
 | []=>true
 | f::xs=>(cnd (!(pF f)) (
false) (
gF3 xs ))
def gK7(f:LS):Bool:=
gF3 f
theorem gVa(y:LS):jI Tryz.prog 210 [.L 1 (gT y)] [.b (gK7 y)]:=by
 obtain⟨r,h⟩:∃r,gK7 y=r:=⟨_,rfl⟩
 rw [h];unfold gK7 at h;refine SpI Tryz.func210 fun A _=>?_;refine goL ?_;refine noB ?_;refine gCw 0 (fun z2=>?_);refine pY (fun(q:Nat)=>⟨[(0,.L 1 (gT y)),(3,.N q)],[],Tryz.f210.ntmps⟩) (fun q=>gF3 (y.drop q)  =r) (fun q=>y.length - q) 0 eJ h ?_;rintro q h;refine goL ?_;refine mR (fun c3=>?_) (fun c3=>?_)
 ·have f:=vR c3;obtain⟨x4,ac,aa⟩:=drop_at f;rw [aa,gF3.eq_2] at h;refine noS ?_;refine kI (jA ?_);refine goL ?_;refine jP (jR q (gO7 ac)) ?_;refine jP (gI (uH x4)) ?_;refine mR (fun c5=>?_) (fun c5=>?_)
  ·replace h:=kU c5 h;refine goL ?_;refine jF ?_;subst h;exact uM
  ·replace h:=kV c5 h;refine goS ?_;refine jP (kD q (by omega)) ?_;exact⟨(q+1),h,by omega,eJ⟩
 ·have f:=vS c3;rw [jK f,gF3.eq_1] at h;refine goX ?_;refine jF ?_;subst h;exact uM
def gHd(f:gB→Option (Bool)):List gB→Bool→Option (Bool)
 | [],h=>(some h)
 | q::xs,h=>bnd ((cnd h (bnd (f q) fun y=>
(some y)) ((some false)))) fun aa=>
gHd f xs aa
def gHe(f:gB→Option (Bool)):List gB→Bool→Option (Bool)
 | [],h=>(some h)
 | q::xs,h=>bnd ((cnd h (bnd (f q) fun y=>
(some y)) ((some false)))) fun aa=>
gHe f xs aa
def gHf(f:gB→Option (Bool)):List gB→Bool→Option (Bool)
 | [],h=>(some h)
 | q::xs,h=>bnd ((cnd h (bnd (f q) fun y=>
(some y)) ((some false)))) fun aa=>
gHf f xs aa
def gTx(f:gB→Option (Bool))(h:gB):Option (Bool):=
bnd ((cnd (h.kind==1) (
(some (h.kind==1))) (
(some (h.kind==4))))) fun b1=>
(cnd b1 (
lt_ ((cnd (pF h.name) (((h.args.length:Int)==0)) (false))) fun b4=>
gHd f h.args b4) (
(cnd (h.kind==3) (
lt_ ((cnd (pF h.name) (((h.args.length:Int)==1)) (false))) fun q=>
gHe f h.args q) (
(cnd (h.kind==2) (
lt_ ((cnd (pF h.name) ((cnd (decide ((h.args.length:Int)≤3)) (true) ((cnd (gJ1 h.name) (((h.args.length:Int)==0)) (false))))) ((cnd (gJ1 h.name) (((h.args.length:Int)==0)) (false))))) fun y=>
gHf f h.args y) (
(some false)))))))
theorem hHg{f:gB→Option (Bool)}(aa:∀(x0:gB){r:Bool},f x0=some r→jI Tryz.prog 247 [.d (mM x0)] [.b r])(a0:gB){r:Bool}(h:gTx f a0=some r):jI Tryz.prog 247 [.d (mM a0)] [.b r]:=by
 obtain⟨ab,y,q⟩:=a0;unfold gTx at h;refine SpI Tryz.func247 fun A _=>?_;refine goL ?_;refine jP (gI (uH y)) ?_;refine jA ?_;refine goL ?_;obtain⟨b1,hb1,h⟩:=gJ h;refine wY ⟨[(1,.ptr 0 0),(3,.B (pF y)),(9,.I ab),(10,.B b1)],[bTy ab y q],Tryz.f247.ntmps⟩ ?_ ?_
 ·refine mR (fun c2=>?_) (fun c2=>?_)
  ·replace hb1:=kU c2 hb1;refine vN ?_;cases hb1;exact eJ
  ·replace hb1:=kV c2 hb1;refine goL ?_;cases hb1;exact eJ
 refine goC h ?_ ?_<;>intro c3 h
 ·refine goL ?_;obtain⟨b4,hb4,h⟩:=uK h;refine kH ⟨[(1,.ptr 0 0),(3,.B b4)],[bTy ab y q],Tryz.f247.ntmps⟩ ?_ ?_
  ·refine wW 14 (fun c5=>?_) (fun c5=>?_) (by first | rfl | (simp only [kE,jO];rfl))
   ·replace hb4:=kU c5 hb4;refine goL ?_;cases hb4;exact⟨rfl,⟨⟨rfl,rfl⟩,⟨by first | rfl | (simp only [kE,jO];rfl),rfl⟩,trivial⟩,⟨_,rfl⟩,rfl⟩
   ·replace hb4:=kV c5 hb4;refine goL ?_;cases hb4;exact⟨rfl,⟨⟨rfl,rfl⟩,⟨by first | rfl | (simp only [kE,jO];rfl),rfl⟩,trivial⟩,⟨_,rfl⟩,rfl⟩
  refine goL ?_;refine noB ?_;refine yC 0 2 (fun z8=>?_);refine gFc (fun(y7:Nat)(y6:Bool)=>⟨[(1,.ptr 0 0),(3,.B y6),(4,.N y7)],[bTy ab y q],Tryz.f247.ntmps⟩) (fun y7 y6=>gHd f (q.drop y7) y6=some r) (fun y7 y6=>q.length - y7) 0 b4 eJ h ?_;rintro y7 y6 h;refine goL ?_;refine mR (fun c9=>?_) (fun c9=>?_)
  ·have ah:=vR c9;obtain⟨bh,ay,al⟩:=drop_at ah;rw [al,gHd.eq_2] at h;obtain⟨bi,bj,bk⟩:=bh;refine noS ?_;refine kI (jA ?_);refine goL ?_;obtain⟨a3,hb11,h⟩:=gJ h;refine kH ⟨[(1,.ptr 0 0),(4,.N y7),(3,.B a3)],[bTy ab y q],Tryz.f247.ntmps⟩ ?_ ?_
   ·refine gqA 57 hb11 (fun bx hb11=>?_);refine jP (jR y7 (gDj ay)) ?_;refine gRd ?_;obtain⟨bz,a4,hb11⟩:=gJ hb11;refine jP (gI (aa _ a4)) ?_;cases hb11;exact eJ
   refine goL ?_;refine jP (kD y7 (by omega)) ?_;exact⟨(y7+1),a3,h,by omega,eJ⟩
  ·have ah:=vS c9;rw [jK ah,gHd.eq_1] at h;refine goX ?_;refine jF ?_;cases h;exact uM
 ·refine goC h ?_ ?_<;>intro b0 h
  ·refine goL ?_;obtain⟨a5,hb15,h⟩:=uK h;refine kH ⟨[(1,.ptr 0 0),(3,.B a5)],[bTy ab y q],Tryz.f247.ntmps⟩ ?_ ?_
   ·refine wW 23 (fun am=>?_) (fun am=>?_) (by first | rfl | (simp only [kE,jO];rfl))
    ·replace hb15:=kU am hb15;refine goL ?_;cases hb15;exact⟨rfl,⟨⟨rfl,rfl⟩,⟨by first | rfl | (simp only [kE,jO];rfl),rfl⟩,trivial⟩,⟨_,rfl⟩,rfl⟩
    ·replace hb15:=kV am hb15;refine goL ?_;cases hb15;exact⟨rfl,⟨⟨rfl,rfl⟩,⟨by first | rfl | (simp only [kE,jO];rfl),rfl⟩,trivial⟩,⟨_,rfl⟩,rfl⟩
   refine goL ?_;refine noB ?_;refine yC 0 2 (fun b2=>?_);refine gFc (fun(ac:Nat)(ai:Bool)=>⟨[(1,.ptr 0 0),(3,.B ai),(4,.N ac)],[bTy ab y q],Tryz.f247.ntmps⟩) (fun ac ai=>gHe f (q.drop ac) ai=some r) (fun ac ai=>q.length - ac) 0 a5 eJ h ?_;rintro ac ai h;refine goL ?_;refine mR (fun an=>?_) (fun an=>?_)
   ·have ae:=vR an;obtain⟨bl,a6,ao⟩:=drop_at ae;rw [ao,gHe.eq_2] at h;obtain⟨bm,bn,bo⟩:=bl;refine noS ?_;refine kI (jA ?_);refine goL ?_;obtain⟨a7,hb22,h⟩:=gJ h;refine kH ⟨[(1,.ptr 0 0),(4,.N ac),(3,.B a7)],[bTy ab y q],Tryz.f247.ntmps⟩ ?_ ?_
    ·refine gqA 57 hb22 (fun b3 hb22=>?_);refine jP (jR ac (gDj a6)) ?_;refine gRd ?_;obtain⟨b5,a8,hb22⟩:=gJ hb22;refine jP (gI (aa _ a8)) ?_;cases hb22;exact eJ
    refine goL ?_;refine jP (kD ac (by omega)) ?_;exact⟨(ac+1),a7,h,by omega,eJ⟩
   ·have ae:=vS an;rw [jK ae,gHe.eq_1] at h;refine goX ?_;refine jF ?_;cases h;exact uM
  ·refine goC h ?_ ?_<;>intro b6 h
   ·refine goL ?_;obtain⟨a9,hb26,h⟩:=uK h;refine kH ⟨[(1,.ptr 0 0),(3,.B a9)],[bTy ab y q],Tryz.f247.ntmps⟩ ?_ ?_
    ·refine wW 32 (fun ap=>?_) (fun ap=>?_) (by first | rfl | (simp only [kE,jO];rfl))
     ·replace hb26:=kU ap hb26;refine goL ?_;refine wW 38 (fun aq=>?_) (fun aq=>?_) (by first | rfl | (simp only [kE,jO];rfl))
      ·replace hb26:=kU aq hb26;refine goL ?_;cases hb26;exact⟨rfl,⟨⟨rfl,rfl⟩,⟨by first | rfl | (simp only [kE,jO];rfl),rfl⟩,trivial⟩,⟨_,rfl⟩,rfl⟩
      ·replace hb26:=kV aq hb26;refine goL ?_;refine gRd ?_;refine jP (gI (gUm y)) ?_;refine wW 42 (fun ar=>?_) (fun ar=>?_) (by first | rfl | (simp only [kE,jO];rfl))
       ·replace hb26:=kU ar hb26;refine goL ?_;cases hb26;exact⟨rfl,⟨⟨rfl,rfl⟩,⟨by first | rfl | (simp only [kE,jO];rfl),rfl⟩,trivial⟩,⟨_,rfl⟩,rfl⟩
       ·replace hb26:=kV ar hb26;refine goL ?_;cases hb26;exact⟨rfl,⟨⟨rfl,rfl⟩,⟨by first | rfl | (simp only [kE,jO];rfl),rfl⟩,trivial⟩,⟨_,rfl⟩,rfl⟩
     ·replace hb26:=kV ap hb26;refine goL ?_;refine gRd ?_;refine jP (gI (gUm y)) ?_;refine wW 42 (fun au=>?_) (fun au=>?_) (by first | rfl | (simp only [kE,jO];rfl))
      ·replace hb26:=kU au hb26;refine goL ?_;cases hb26;exact⟨rfl,⟨⟨rfl,rfl⟩,⟨by first | rfl | (simp only [kE,jO];rfl),rfl⟩,trivial⟩,⟨_,rfl⟩,rfl⟩
      ·replace hb26:=kV au hb26;refine goL ?_;cases hb26;exact⟨rfl,⟨⟨rfl,rfl⟩,⟨by first | rfl | (simp only [kE,jO];rfl),rfl⟩,trivial⟩,⟨_,rfl⟩,rfl⟩
    refine goL ?_;refine noB ?_;refine yC 0 2 (fun b7=>?_);refine gFc (fun(ad:Nat)(aj:Bool)=>⟨[(1,.ptr 0 0),(3,.B aj),(4,.N ad)],[bTy ab y q],Tryz.f247.ntmps⟩) (fun ad aj=>gHf f (q.drop ad) aj=some r) (fun ad aj=>q.length - ad) 0 a9 eJ h ?_;rintro ad aj h;refine goL ?_;refine mR (fun av=>?_) (fun av=>?_)
    ·have ag:=vR av;obtain⟨bp,ba,aw⟩:=drop_at ag;rw [aw,gHf.eq_2] at h;obtain⟨bq,br,bt⟩:=bp;refine noS ?_;refine kI (jA ?_);refine goL ?_;obtain⟨bb,hb36,h⟩:=gJ h;refine kH ⟨[(1,.ptr 0 0),(4,.N ad),(3,.B bb)],[bTy ab y q],Tryz.f247.ntmps⟩ ?_ ?_
     ·refine gqA 57 hb36 (fun b8 hb36=>?_);refine jP (jR ad (gDj ba)) ?_;refine gRd ?_;obtain⟨b9,bc,hb36⟩:=gJ hb36;refine jP (gI (aa _ bc)) ?_;cases hb36;exact eJ
     refine goL ?_;refine jP (kD ad (by omega)) ?_;exact⟨(ad+1),bb,h,by omega,eJ⟩
    ·have ag:=vS av;rw [jK ag,gHf.eq_1] at h;refine goX ?_;refine jF ?_;cases h;exact uM
   ·exact goR h
def gTy:Nat→gB→Option (Bool)
 | 0,_=>none
 | n+1,f=>gTx (gTy n) f
theorem hHh:∀(n:Nat)(f:gB){r:Bool},gTy n f=some r→jI Tryz.prog 247 [.d (mM f)] [.b r]:=by
 intro n
 induction n with
 | zero=>intro f r h;cases h
 | succ n ih=>intro f r h;exact hHg ih f h
def gQs(f:gY):Option (Bool):=
bnd (gK2 5000 f (gY.mk 0 [] [] 0 (gB.mk 0 [] []) [] [])) fun h=>
(some h)
theorem hCz(a0:gY){r:Bool}(h:gQs a0=some r):jI Tryz.prog 238 [.d (gBp a0)] [.b r]:=by
 obtain⟨ac,ad,ae,ag,⟨f,q,y⟩,ah,ai⟩:=a0;unfold gQs at h;refine SpI Tryz.func238 fun A _=>?_;refine goL ?_;refine vP (jN TBd.h TZ.h rfl (by repeat constructor)) ?_;obtain⟨x1,ab,h⟩:=gJ h;refine uN (gI (gU8 _ _ _ ab)) ?_;exact goR h
def gBu(f:LS):Option (gF):=
bnd (gNk f) fun h=>
(some (gF.mk [] h))
theorem vL(q:LS){r:gF}(h:gBu q=some r):jI Tryz.prog 221 [.L 1 (gT q)] [qJ r]:=by
 unfold gBu at h;refine SpI Tryz.func221 fun A _=>?_;refine goL ?_;obtain⟨y,f,h⟩:=gJ h;refine uN (gI (gU9 _ f)) ?_;refine vP (jN TBd.h TZ.h rfl (by repeat constructor)) ?_;exact goR h
def gEq:List gB→(List gF)→Option (List gF)
 | [],f=>(some f)
 | q::xs,f=>bnd (gMo 5000 q) fun h=>
gd (f.length+[h].length≤4294967296) (
gEq xs (f++[h]))
def gL6(f:List gB):Option (List gF):=
gEq f []
theorem gSv(a0:List gB){r:List gF}(h:gL6 a0=some r):jI Tryz.prog 222 [.L 3 (gN a0)] [.sl 2 (jB r)]:=by
 unfold gL6 at h;refine SpI Tryz.func222 fun A _=>?_;refine goL ?_;refine gAu ?_;refine goL ?_;refine noB ?_;refine gCw 0 (fun z4=>?_);refine mG (fun(q:Nat)(y1:List gF)(v2:Nat)=>⟨[(0,.L 3 (gN a0)),(3,.sl 0 v2),(4,.N q)],[.arr 223 2 v2 (jB y1)],Tryz.f222.ntmps⟩) (fun q y1 v2=>gEq (a0.drop q) y1=some r) (fun q y1 v2=>a0.length - q) 0 [] 0 eJ h ?_;rintro q y1 v2 h;refine goL ?_;refine mR (fun c5=>?_) (fun c5=>?_)
 ·have f:=vR c5;obtain⟨x6,ah,ae⟩:=drop_at f;rw [ae,gEq.eq_2] at h;obtain⟨aj,ak,al⟩:=x6;refine noS ?_;refine kI (jA ?_);refine goL ?_;refine jP (jR q (gDj ah)) ?_;obtain⟨⟨y,aa⟩,ai,h⟩:=gJ h;refine uN (gI (gKk _ _ ai)) ?_;refine uO (u:=(.st [.s y,.sl 2 (jB aa)])) ?_;obtain⟨g8,h⟩:=pU h;refine gAd g8 ?_;refine goL ?_;refine jP (kD q (by omega)) ?_;exact⟨(q+1),(y1++[(gF.mk y aa)]),(v2+1),h,by omega,eJ⟩
 ·have f:=vS c5;rw [jK f,gEq.eq_1] at h;refine goX ?_;refine gV 0 rfl rfl ?_;refine jF ?_;cases h;exact uM
end Go.Proofs.YtfpdlnkkcnmebaaGreat
