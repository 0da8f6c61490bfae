import Derived.Test.YtfpdlnkkcnmebaaGreatB5
set_option maxHeartbeats 4000000
set_option linter.unusedVariables false
set_option linter.unusedSimpArgs false
set_option linter.unusedSectionVars false
namespace Go.Proofs.YtfpdlnkkcnmebaaGreat
open Go Go.Eng
attribute [local irreducible] V VO VQ VY Quiet QR jF mJ Rng qI qJ qB
def gGq(c:gD→Option (Bool)):List gD→Option (Bool)
 | []=>(some true)
 | f::xs=>bnd (c f) fun h=>
(cnd (!h) (
(some false)) (
gGq c xs ))
def gSr(c:gD→Option (Bool))(f:gD):Option (Bool):=
(cnd (!(f.atom==[])) (
lt_ ((cnd (gE6 f.atom) (((f.list.length:Int)==0)) (false))) fun h=>
(some h)) (
gGq c f.list ))
theorem hEj{c:gD→Option (Bool)}(f:∀(x0:gD){r:Bool},c x0=some r→jF Tryz.prog 185 [.d (qC x0)] [.b r])(a0:gD){r:Bool}(h:gSr c a0=some r):jF Tryz.prog 185 [.d (qC a0)] [.b r]:=by
 obtain⟨aa,y⟩:=a0;unfold gSr at h;refine SpI Tryz.func185 fun A _=>?_;refine goC h ?_ ?_<;>intro c1 h
 ·refine goL ?_;refine jK (gG (gRd aa)) ?_;obtain⟨b2,hb2,h⟩:=qW h;refine kC ⟨[(2,.B b2)],[bSx aa y],Tryz.f185.ntmps⟩ ?_ ?_
  ·exact gqZ 10 hb2
  exact goR h
 ·refine goS ?_;refine noB ?_;refine yP 0 1 (fun z5=>?_);refine qD (fun(y4:Nat)=>⟨[(1,.ptr 0 0),(3,.N y4)],[bSx aa y],Tryz.f185.ntmps⟩) (fun y4=>gGq c (y.drop y4)  =some r) (fun y4=>y.length - y4) 0 eJ h ?_;rintro y4 h;refine goL ?_;refine mQ (fun c6=>?_) (fun c6=>?_)
  ·have q:=vF c6;obtain⟨x7,ag,ac⟩:=drop_at q;rw [ac,gGq.eq_2] at h;obtain⟨ak,al⟩:=x7;refine noS ?_;refine kH (jE ?_);refine goL ?_;refine jK (jM y4 (uM ag)) ?_;obtain⟨x8,ah,h⟩:=gJ h;refine jK (gG (f _ ah)) ?_;refine mQ (fun c9=>?_) (fun c9=>?_)
   ·replace h:=kT c9 h;exact goR h
   ·replace h:=kU c9 h;refine goS ?_;refine jK (kD y4 (by omega)) ?_;exact⟨(y4+1),h,by omega,eJ⟩
  ·have q:=vG c6;rw [jH q,gGq.eq_1] at h;refine goX ?_;refine jG ?_;cases h;exact uA
def gSs:Nat→gD→Option (Bool)
 | 0,_=>none
 | n+1,c=>gSr (gSs n) c
theorem hEm:∀(n:Nat)(c:gD){r:Bool},gSs n c=some r→jF Tryz.prog 185 [.d (qC c)] [.b r]:=by
 intro n
 induction n with
 | zero=>intro c r h;cases h
 | succ n ih=>intro c r h;exact hEj ih c h
def gGr:List gD→(List gB)→Option (List gB)
 | [],c=>(some c)
 | h::xs,c=>bnd (gLh 5000 h) fun f=>
gd (c.length+[f].length≤4294967296) (
gGr xs (c++[f]))
def gOm(c:List gD):Option (List gB):=
gGr c []
theorem gXa(a0:List gD){r:List gB}(h:gOm a0=some r):jF Tryz.prog 200 [.L 2 (jA a0)] [.sl 3 (gK r)]:=by
 unfold gOm at h;refine SpI Tryz.func200 fun A _=>?_;refine goL ?_;refine zS ?_;refine goL ?_;refine noB ?_;refine gCm 0 (fun z4=>?_);refine kV (fun(f:Nat)(y1:List gB)(v2:Nat)=>⟨[(0,.L 2 (jA a0)),(3,.sl 0 v2),(4,.N f)],[.arr 37 3 v2 (gK y1)],Tryz.f200.ntmps⟩) (fun f y1 v2=>gGr (a0.drop f) y1=some r) (fun f y1 v2=>a0.length - f) 0 [] 0 eJ h ?_;rintro f y1 v2 h;refine goL ?_;refine mQ (fun c5=>?_) (fun c5=>?_)
 ·have c:=vF c5;obtain⟨x6,ah,ae⟩:=drop_at c;rw [ae,gGr.eq_2] at h;obtain⟨aj,ak⟩:=x6;refine noS ?_;refine kH (jE ?_);refine goL ?_;refine jK (jM f (uM ah)) ?_;obtain⟨⟨q,y,aa⟩,ai,h⟩:=gJ h;refine qM (gG (gN2 _ _ ai)) ?_;refine uQ (u:=(.st [.i .i64 q,.s y,.sl 3 (gK aa)])) ?_;obtain⟨g8,h⟩:=pO h;refine gAi g8 ?_;refine goL ?_;refine jK (kD f (by omega)) ?_;exact⟨(f+1),(y1++[(gB.mk q y aa)]),(v2+1),h,by omega,eJ⟩
 ·have c:=vG c5;rw [jH c,gGr.eq_1] at h;refine goX ?_;refine gW 0 rfl rfl ?_;refine jG ?_;cases h;exact uA
def gSt(q:gD→Option (gH0))(f:(List gD)→Option (List gU))(c:gD→Option (gU))(h:gD):Option (gH0):=
(cnd (decide ((h.list.length:Int) < 2)) (
(some (gH0.mk [] [] (gU.mk 0 [] [] 0 (gB.mk 0 [] []) [] [])))) (
gd (0≤(1:Int)∧(1:Int)≤(IntKind.i64.wrap ((h.list.length:Int) - 1))∧(IntKind.i64.wrap ((h.list.length:Int) - 1))≤(h.list.length:Int)) (
bnd (gJq ((h.list.drop (Int.toNat 1)).take (Int.toNat (IntKind.i64.wrap ((h.list.length:Int) - 1)) - Int.toNat 1))) fun y=>
bnd (at? h.list 0) fun x4=>
bnd (at? h.list (IntKind.i64.wrap ((h.list.length:Int) - 1))) fun x5=>
bnd (c x5) fun x6=>
(some (gH0.mk x4.atom y.1 x6)))))
def gOn(c:gD→Option (gH0)):Prop:=∀(f:gD){r:gH0},c f=some r→jF Tryz.prog 218 [.d (qC f)] [hIl r]
def gKz(c:(List gD)→Option (List gU)):Prop:=∀(f:List gD){r:List gU},c f=some r→jF Tryz.prog 217 [.L 2 (jA f)] [.sl 9 (jS r)]
def gJ4(c:gD→Option (gU)):Prop:=∀(f:gD){r:gU},c f=some r→jF Tryz.prog 202 [.d (qC f)] [zJ r]
theorem hEn{q}{c}{f}(ab:gOn q)(aa:gKz c)(y:gJ4 f)(a0:gD){r:gH0}(h:gSt q c f a0=some r):jF Tryz.prog 218 [.d (qC a0)] [hIl r]:=by
 obtain⟨ao,ac⟩:=a0;unfold gSt at h;refine SpI Tryz.func218 fun A _=>?_;refine goC h ?_ ?_<;>intro c1 h
 ·refine goL ?_;refine yS (jU TBd.h TZ.h rfl (by repeat constructor)) ?_;exact goR h
 ·refine goS ?_;refine qM (pV) ?_;obtain⟨g2,h⟩:=pO h;refine qM (hHa g2) ?_;obtain⟨⟨ap,aq⟩,am,h⟩:=gJ h;refine qM (gG (gO8 ((ac.drop (Int.toNat 1)).take (Int.toNat (IntKind.i64.wrap ((ac.length:Int) - 1)) - Int.toNat 1)) am)) ?_;refine gHi ?_;refine jL (P:=Tryz.prog) Mix.h [(0,true),(1,true),(2,true),(3,true),(4,true),(5,true),(6,true),(7,true),(8,true),(9,true),(10,true),(11,true),(12,true),(13,true),(14,false)] (by kernel_rfl) ?_;refine goY ?_;obtain⟨x4,ad,h⟩:=gJ h;obtain⟨ag,ad⟩:=gAz ad;obtain⟨ar,au⟩:=x4;refine jO rfl (qY ag (uM ad)) ?_;refine goY ?_;refine jO rfl (pV) ?_;obtain⟨x5,ae,h⟩:=gJ h;obtain⟨ah,ae⟩:=gAz ae;obtain⟨av,aw⟩:=x5;refine jO rfl (qY ah (uM ae)) ?_;refine goY ?_;obtain⟨⟨ax,ay,a3,a4,⟨ai,aj,ak⟩,a5,a6⟩,an,h⟩:=gJ h;refine jO rfl (gG (y _ an)) ?_;refine goY ?_;refine kX ?_;exact goR h
def gD3(c:gD→Option (gU)):List gD→(List gU)→Option (List gU)
 | [],f=>(some f)
 | q::xs,f=>bnd (c q) fun h=>
gd (f.length+[h].length≤4294967296) (
gD3 c xs (f++[h]))
def gNa(h:gD→Option (gH0))(f:(List gD)→Option (List gU))(c:gD→Option (gU))(q:List gD):Option (List gU):=
gD3 c q []
theorem gYu{q}{f}{c}(ag:gOn q)(ae:gKz f)(y:gJ4 c)(a0:List gD){r:List gU}(h:gNa q f c a0=some r):jF Tryz.prog 217 [.L 2 (jA a0)] [.sl 9 (jS r)]:=by
 unfold gNa at h;refine SpI Tryz.func217 fun A _=>?_;refine goL ?_;refine zS ?_;refine goL ?_;refine noB ?_;refine gCm 0 (fun z4=>?_);refine kV (fun(y3:Nat)(y1:List gU)(v2:Nat)=>⟨[(0,.L 2 (jA a0)),(3,.sl 0 v2),(4,.N y3)],[.arr 101 9 v2 (jS y1)],Tryz.f217.ntmps⟩) (fun y3 y1 v2=>gD3 c (a0.drop y3) y1=some r) (fun y3 y1 v2=>a0.length - y3) 0 [] 0 eJ h ?_;rintro y3 y1 v2 h;refine goL ?_;refine mQ (fun c5=>?_) (fun c5=>?_)
 ·have aa:=vF c5;obtain⟨x6,av,ar⟩:=drop_at aa;rw [ar,gD3.eq_2] at h;obtain⟨ax,ay⟩:=x6;refine noS ?_;refine kH (jE ?_);refine goL ?_;refine jK (jM y3 (uM av)) ?_;obtain⟨⟨ai,aj,ak,al,⟨ab,ac,ad⟩,am,an⟩,aw,h⟩:=gJ h;refine qM (gG (y _ aw)) ?_;refine uQ (u:=(.st [.i .i64 ai,.s aj,.s ak,.i .i64 al,.st [.i .i64 ab,.s ac,.sl 3 (gK ad)],.sl 9 (jS am),.sl 11 (mW an)])) ?_;obtain⟨g8,h⟩:=pO h;refine gAi g8 ?_;refine goL ?_;refine jK (kD y3 (by omega)) ?_;exact⟨(y3+1),(y1++[(gU.mk ai aj ak al (gB.mk ab ac ad) am an)]),(v2+1),h,by omega,eJ⟩
 ·have aa:=vG c5;rw [jH aa,gD3.eq_1] at h;refine goX ?_;refine gW 0 rfl rfl ?_;refine jG ?_;cases h;exact uA
def gFg(c:gD→Option (gH0))(h:List gU):List gD→(List gH0)→Option (gU)
 | [],f=>(some (gU.mk 7 [] [] 0 (gB.mk 0 [] []) h f))
 | y::xs,f=>bnd (c y) fun q=>
gd (f.length+[q].length≤4294967296) (
gFg c h xs (f++[q]))
def gPl(q:gD→Option (gH0))(c:(List gD)→Option (List gU))(aa:gD→Option (gU))(f:gD):Option (gU):=
(cnd (!(f.atom==[])) (
bnd (gLn f.atom) fun x2=>
(cnd x2.2 (
lt_ (gE5 x2.1) fun x4=>
(some x4)) (
(cnd (f.atom==[116,114,117,101]) (
(some (gU.mk 2 [] [] 1 (gB.mk 0 [] []) [] []))) (
(cnd (f.atom==[102,97,108,115,101]) (
(some (gU.mk 2 [] [] 0 (gB.mk 0 [] []) [] []))) (
lt_ (gIp f.atom) fun x7=>
(some x7)))))))) (
gd (([]:List gD).length+f.list.length≤4294967296) (
gd (([]++f.list).length+[(gD.mk [] []),(gD.mk [] []),(gD.mk [] [])].length≤4294967296) (
bnd (at? (([]++f.list)++[(gD.mk [] []),(gD.mk [] []),(gD.mk [] [])]) 1) fun y=>
bnd (at? (([]++f.list)++[(gD.mk [] []),(gD.mk [] []),(gD.mk [] [])]) 0) fun h=>
(cnd (h.atom==[99,97,108,108]) (
gd (0≤(uV 2 (f.list.length:Int))∧(uV 2 (f.list.length:Int))≤(f.list.length:Int)) (
bnd (c (f.list.drop (Int.toNat (uV 2 (f.list.length:Int))))) fun ab=>
(some (gU.mk 4 [] y.atom 0 (gB.mk 0 [] []) ab [])))) (
(cnd (h.atom==[109,101,116,104,111,100]) (
bnd (at? (([]++f.list)++[(gD.mk [] []),(gD.mk [] []),(gD.mk [] [])]) 2) fun ac=>
gd (0≤(uV 3 (f.list.length:Int))∧(uV 3 (f.list.length:Int))≤(f.list.length:Int)) (
bnd (c (f.list.drop (Int.toNat (uV 3 (f.list.length:Int))))) fun ad=>
(some (gU.mk 5 y.atom ac.atom 0 (gB.mk 0 [] []) ad [])))) (
(cnd (h.atom==[110,101,119]) (
gd (0≤(uV 2 (f.list.length:Int))∧(uV 2 (f.list.length:Int))≤(f.list.length:Int)) (
bnd (c (f.list.drop (Int.toNat (uV 2 (f.list.length:Int))))) fun ae=>
(some (gU.mk 6 [] y.atom 0 (gB.mk 0 [] []) ae [])))) (
(cnd (h.atom==[108,101,116]) (
gd (0≤(uV 2 (f.list.length:Int))∧(uV 2 (f.list.length:Int))≤(f.list.length:Int)) (
bnd (c (f.list.drop (Int.toNat (uV 2 (f.list.length:Int))))) fun ag=>
(some (gU.mk 8 [] y.atom 0 (gB.mk 0 [] []) ag [])))) (
(cnd (h.atom==[105,102]) (
gd (0≤(1:Int)∧1≤(f.list.length:Int)) (
bnd (c (f.list.drop (Int.toNat 1))) fun ah=>
(some (gU.mk 9 [] [] 0 (gB.mk 0 [] []) ah [])))) (
(cnd (h.atom==[112,97,99,107]) (
gd (0≤(uV 2 (f.list.length:Int))∧(uV 2 (f.list.length:Int))≤(f.list.length:Int)) (
bnd (c (f.list.drop (Int.toNat (uV 2 (f.list.length:Int))))) fun ai=>
(some (gU.mk 11 y.atom [] 0 (gB.mk 0 [] []) ai [])))) (
(cnd (h.atom==[116,104,101]) (
bnd (gLh 5000 y) fun aj=>
gd (0≤(uV 2 (f.list.length:Int))∧(uV 2 (f.list.length:Int))≤(f.list.length:Int)) (
bnd (c (f.list.drop (Int.toNat (uV 2 (f.list.length:Int))))) fun ak=>
(some (gU.mk 12 [] [] 0 aj ak [])))) (
(cnd (h.atom==[99,97,115,101]) (
gd (0≤(1:Int)∧(1:Int)≤(uV 2 (f.list.length:Int))∧(uV 2 (f.list.length:Int))≤(f.list.length:Int)) (
bnd (c ((f.list.drop (Int.toNat 1)).take (Int.toNat (uV 2 (f.list.length:Int)) - Int.toNat 1))) fun al=>
gFg q al (f.list.drop 2) [])) (
gd (0≤(uV 1 (f.list.length:Int))∧(uV 1 (f.list.length:Int))≤(f.list.length:Int)) (
bnd (c (f.list.drop (Int.toNat (uV 1 (f.list.length:Int))))) fun am=>
(some (gU.mk 10 [] h.atom 0 (gB.mk 0 [] []) am [])))))))))))))))))))))))
theorem gZ4{q}{y}{aa}(ae:gOn q)(c:gKz y)(a3:gJ4 aa)(a0:gD){r:gU}(h:gPl q y aa a0=some r):jF Tryz.prog 202 [.d (qC a0)] [zJ r]:=by
 obtain⟨a4,f⟩:=a0;unfold gPl at h;refine SpI Tryz.func202 fun A _=>?_;refine goC h ?_ ?_<;>intro c1 h
 ·refine goL ?_;obtain⟨⟨a8,cn⟩,bu,h⟩:=gJ h;refine jK (gG (gV0 _ bu)) ?_;refine kH (jE ?_);refine goC h ?_ ?_<;>intro c3 h
  ·refine goL ?_;obtain⟨⟨co,cp,cq,cr,⟨bm,bn,bo⟩,cs,ct⟩,bv,h⟩:=qW h;have sx4:=gL0 a8;rw [bv] at sx4;refine qM (gG (sx4)) ?_;exact goR h
  ·refine goC h ?_ ?_<;>intro c5 h
   ·refine goL ?_;refine yS (jU TBd.h TZ.h rfl (by repeat constructor)) ?_;exact goR h
   ·refine goC h ?_ ?_<;>intro c6 h
    ·refine goL ?_;refine yS (jU TBd.h TZ.h rfl (by repeat constructor)) ?_;exact goR h
    ·refine goS ?_;obtain⟨⟨cu,cv,cw,cx,⟨bp,bq,br⟩,cy,cz⟩,bw,h⟩:=qW h;have sx7:=gOi a4;rw [bw] at sx7;refine qM (gG (sx7)) ?_;exact goR h
 ·refine goS ?_;refine zS ?_;refine goL ?_;obtain⟨g8,h⟩:=pO h;refine gAi g8 ?_;refine yS (jU TBd.h TZ.h rfl (by repeat constructor)) ?_;refine yS (jU TBd.h TZ.h rfl (by repeat constructor)) ?_;refine yS (jU TBd.h TZ.h rfl (by repeat constructor)) ?_;refine gAg (us:=jA [(gD.mk [] []),(gD.mk [] []),(gD.mk [] [])]) ?_;obtain⟨g9,h⟩:=pO h;refine gAi g9 ?_;refine goL ?_;refine mD 2 rfl rfl ?_;refine gZb ?_;obtain⟨bx,ao,h⟩:=gJ h;obtain⟨au,ao⟩:=gAz ao;obtain⟨bz,b0⟩:=bx;refine jK (qY au (uM ao)) ?_;obtain⟨b1,ap,h⟩:=gJ h;obtain⟨av,ap⟩:=gAz ap;obtain⟨b2,b3⟩:=b1;refine jK (qY av (uM ap)) ?_;refine jE ?_;refine goC h ?_ ?_<;>intro c4 h
  ·refine jL (P:=Tryz.prog) Mix.h [(0,true),(1,true),(2,true),(3,true),(4,true),(5,true),(6,true),(7,true),(8,false)] (by kernel_rfl) ?_;refine goY ?_;refine jO rfl (gG (gIo 2 (f.length:Int))) ?_;obtain⟨b4,h⟩:=pO h;refine jO rfl (gLk b4) ?_;obtain⟨c7,a9,h⟩:=gJ h;refine jO rfl (gG (c _ a9)) ?_;refine goY ?_;refine kX ?_;exact goR h
  ·refine goC h ?_ ?_<;>intro c8 h
   ·refine jL (P:=Tryz.prog) Mix.h [(0,true),(1,true),(2,true),(3,true),(4,true),(5,true),(6,true),(7,true),(8,true),(9,true),(10,true),(11,true),(12,false)] (by kernel_rfl) ?_;refine goY ?_;obtain⟨b5,aw,h⟩:=gJ h;obtain⟨a5,aw⟩:=gAz aw;obtain⟨b6,b7⟩:=b5;refine jO rfl (qY a5 (uM aw)) ?_;refine goY ?_;refine jO rfl (gG (gIo 3 (f.length:Int))) ?_;obtain⟨b8,h⟩:=pO h;refine jO rfl (gLk b8) ?_;obtain⟨c9,ba,h⟩:=gJ h;refine jO rfl (gG (c _ ba)) ?_;refine goY ?_;refine kX ?_;exact goR h
   ·refine goC h ?_ ?_<;>intro da h
    ·refine jL (P:=Tryz.prog) Mix.h [(0,true),(1,true),(2,true),(3,true),(4,true),(5,true),(6,true),(7,true),(8,false)] (by kernel_rfl) ?_;refine goY ?_;refine jO rfl (gG (gIo 2 (f.length:Int))) ?_;obtain⟨b9,h⟩:=pO h;refine jO rfl (gLk b9) ?_;obtain⟨db,bb,h⟩:=gJ h;refine jO rfl (gG (c _ bb)) ?_;refine goY ?_;refine kX ?_;exact goR h
    ·refine goC h ?_ ?_<;>intro dc h
     ·refine jL (P:=Tryz.prog) Mix.h [(0,true),(1,true),(2,true),(3,true),(4,true),(5,true),(6,true),(7,true),(8,false)] (by kernel_rfl) ?_;refine goY ?_;refine jO rfl (gG (gIo 2 (f.length:Int))) ?_;obtain⟨ca,h⟩:=pO h;refine jO rfl (gLk ca) ?_;obtain⟨dd,bc,h⟩:=gJ h;refine jO rfl (gG (c _ bc)) ?_;refine goY ?_;refine kX ?_;exact goR h
     ·refine goC h ?_ ?_<;>intro de h
      ·refine goL ?_;obtain⟨cb,h⟩:=pO h;refine qM (gLk cb) ?_;obtain⟨df,bd,h⟩:=gJ h;refine qM (gG (c _ bd)) ?_;refine yS (jU TBd.h TZ.h rfl (by repeat constructor)) ?_;exact goR h
      ·refine goC h ?_ ?_<;>intro dg h
       ·refine jL (P:=Tryz.prog) Mix.h [(0,true),(1,true),(2,true),(3,true),(4,true),(5,true),(6,true),(7,true),(8,false)] (by kernel_rfl) ?_;refine goY ?_;refine jO rfl (gG (gIo 2 (f.length:Int))) ?_;obtain⟨cc,h⟩:=pO h;refine jO rfl (gLk cc) ?_;obtain⟨dh,be,h⟩:=gJ h;refine jO rfl (gG (c _ be)) ?_;refine goY ?_;refine kX ?_;exact goR h
       ·refine goC h ?_ ?_<;>intro di h
        ·refine jL (P:=Tryz.prog) Mix.h [(0,true),(1,true),(2,true),(3,true),(4,true),(5,true),(6,true),(7,true),(8,true),(9,true),(10,true),(11,false)] (by kernel_rfl) ?_;refine goY ?_;refine jO rfl (qY au (uM ao)) ?_;refine goY ?_;obtain⟨⟨cd,ce,cf⟩,bf,h⟩:=gJ h;refine jO rfl (gG (gN2 _ _ bf)) ?_;refine goY ?_;refine jO rfl (gG (gIo 2 (f.length:Int))) ?_;obtain⟨cg,h⟩:=pO h;refine jO rfl (gLk cg) ?_;obtain⟨dj,bg,h⟩:=gJ h;refine jO rfl (gG (c _ bg)) ?_;refine goY ?_;refine kX ?_;exact goR h
        ·refine goC h ?_ ?_<;>intro dk h
         ·refine jL (P:=Tryz.prog) Mix.h [(0,true),(1,true),(2,true),(3,true),(4,true),(5,true),(6,true),(7,false),(8,false)] (by kernel_rfl) ?_;refine goY ?_;refine jO rfl (gG (gIo 2 (f.length:Int))) ?_;obtain⟨ch,h⟩:=pO h;refine jO rfl (hHa ch) ?_;obtain⟨bh,bi,h⟩:=gJ h;refine jO rfl (gG (c _ bi)) ?_;refine goY ?_;refine kX ?_;refine goL ?_;refine noB ?_;refine uO 147 11 4 8 rfl rfl (by repeat constructor) (by repeat constructor) (by repeat constructor) (by repeat constructor) ?_;show V _ _ _ _ _;refine gCm 38 (fun dl=>?_);refine kV (fun(ag:Nat)(aq:List gH0)(ar:Nat)=>⟨[(1,.ptr 0 0),(2,.ptr 1 0),(6,.I (f.length:Int)),(8,.ptr 4 0),(9,.N ag)],[bSx a4 f,.box [.I 0,.S [],.S [],.I 0,.I 0,.S [],.nilsl,.nilsl,.nilsl],.frz 223 2 ((0+1)+1) (jA (([]++f)++[(gD.mk [] []),(gD.mk [] []),(gD.mk [] [])])),.arr 223 2 0 (jA [(gD.mk [] []),(gD.mk [] []),(gD.mk [] [])]),.box [.I 7,.S [],.S [],.I 0,.I 0,.S [],.nilsl,.L 9 (jS bh),.sl 5 ar],.arr 147 11 ar (mW aq)],Tryz.f202.ntmps⟩) (fun ag aq ar=>gFg q bh (f.drop ag) aq=some r) (fun ag aq ar=>f.length - ag) 2 [] 0 eJ h ?_;rintro ag aq ar h;refine goL ?_;refine mQ (fun a6=>?_) (fun a6=>?_)
          ·have ah:=vF a6;obtain⟨ci,bj,a7⟩:=drop_at ah;rw [a7,gFg.eq_2] at h;obtain⟨cj,ck⟩:=ci;refine noS ?_;refine kH (jE ?_);refine vP (P:=Tryz.prog) Mix.h [(0,true),(1,true),(2,true),(3,true),(4,true),(5,true),(6,true),(7,true),(8,false),(9,false),(10,true),(11,false)] (by kernel_rfl) ?_;refine goY ?_;refine jO rfl (jM ag (uM bj)) ?_;refine goY ?_;obtain⟨⟨ax,ay,⟨ai,aj,ak,al,⟨ab,ac,ad⟩,am,an⟩⟩,bk,h⟩:=gJ h;refine jO rfl (gG (ae _ bk)) ?_;refine jT (T:=99) (us:=mW [(gH0.mk ax ay (gU.mk ai aj ak al (gB.mk ab ac ad) am an))]) ?_;obtain⟨cl,h⟩:=pO h;refine jR (T:=99) cl ?_;refine goY ?_;refine kX ?_;refine goL ?_;refine jK (kD ag (by omega)) ?_;exact⟨(ag+1),(aq++[(gH0.mk ax ay (gU.mk ai aj ak al (gB.mk ab ac ad) am an))]),(ar+1),h,by omega,eJ⟩
          ·have ah:=vG a6;rw [jH ah,gFg.eq_1] at h;refine goX ?_;refine gW 5 rfl rfl ?_;refine jG ?_;cases h;exact uA
         ·refine noS ?_;refine jL (P:=Tryz.prog) Mix.h [(0,true),(1,true),(2,true),(3,true),(4,true),(5,true),(6,true),(7,true),(8,true),(9,true),(10,true),(11,false)] (by kernel_rfl) ?_;refine goY ?_;refine jO rfl (qY av (uM ap)) ?_;refine goY ?_;refine jO rfl (gG (gIo 1 (f.length:Int))) ?_;obtain⟨cm,h⟩:=pO h;refine jO rfl (gLk cm) ?_;obtain⟨dm,bl,h⟩:=gJ h;refine jO rfl (gG (c _ bl)) ?_;refine goY ?_;refine kX ?_;exact goR h
mutual
def gOo:Nat→gD→Option (gH0)
 | 0,_=>none
 | n+1,c=>gSt (gOo n) (gK0 n) (gFh n) c
def gK0:Nat→(List gD)→Option (List gU)
 | 0,_=>none
 | n+1,c=>gNa (gOo n) (gK0 n) (gFh n) c
def gFh:Nat→gD→Option (gU)
 | 0,_=>none
 | n+1,c=>gPl (gOo n) (gK0 n) (gFh n) c
end
theorem gZ5:∀(n:Nat),gOn (gOo n)∧gKz (gK0 n)∧gJ4 (gFh n):=by
 intro n
 induction n with
 | zero=>exact⟨(by intro c r h;cases h),(by intro c r h;cases h),(by intro c r h;cases h)⟩
 | succ n ih=>
   obtain⟨ih0,ih1,ih2⟩:=ih;refine⟨(fun c r h=>hEn ih0 ih1 ih2 c h),(fun c r h=>gYu ih0 ih1 ih2 c h),(fun c r h=>gZ4 ih0 ih1 ih2 c h)⟩
theorem gPm:∀(n:Nat),gJ4 (gFh n):=fun n=>(gZ5 n).2.2
def gFi:LS→Bool
 | []=>true
 | c::xs=>(cnd (!(mO c)) (
false) (
gFi xs ))
def gJ5(c:LS):Bool:=
gFi c
theorem gUb(q:LS):jF Tryz.prog 210 [.L 1 (gP q)] [.b (gJ5 q)]:=by
 obtain⟨r,h⟩:∃r,gJ5 q=r:=⟨_,rfl⟩
 rw [h];unfold gJ5 at h;refine SpI Tryz.func210 fun A _=>?_;refine goL ?_;refine noB ?_;refine gCm 0 (fun z2=>?_);refine qD (fun(f:Nat)=>⟨[(0,.L 1 (gP q)),(3,.N f)],[],Tryz.f210.ntmps⟩) (fun f=>gFi (q.drop f)  =r) (fun f=>q.length - f) 0 eJ h ?_;rintro f h;refine goL ?_;refine mQ (fun c3=>?_) (fun c3=>?_)
 ·have c:=vF c3;obtain⟨x4,ab,y⟩:=drop_at c;rw [y,gFi.eq_2] at h;refine noS ?_;refine kH (jE ?_);refine goL ?_;refine jK (jM f (gNp ab)) ?_;refine jK (gG (qR x4)) ?_;refine mQ (fun c5=>?_) (fun c5=>?_)
  ·replace h:=kT c5 h;refine goL ?_;refine jG ?_;subst h;exact uA
  ·replace h:=kU c5 h;refine goS ?_;refine jK (kD f (by omega)) ?_;exact⟨(f+1),h,by omega,eJ⟩
 ·have c:=vG c3;rw [jH c,gFi.eq_1] at h;refine goX ?_;refine jG ?_;subst h;exact uA
def gGs(c:gB→Option (Bool)):List gB→Bool→Option (Bool)
 | [],f=>(some f)
 | h::xs,f=>bnd ((cnd f (bnd (c h) fun q=>
(some q)) ((some false)))) fun y=>
gGs c xs y
def gGt(c:gB→Option (Bool)):List gB→Bool→Option (Bool)
 | [],f=>(some f)
 | h::xs,f=>bnd ((cnd f (bnd (c h) fun q=>
(some q)) ((some false)))) fun y=>
gGt c xs y
def gGu(c:gB→Option (Bool)):List gB→Bool→Option (Bool)
 | [],f=>(some f)
 | h::xs,f=>bnd ((cnd f (bnd (c h) fun q=>
(some q)) ((some false)))) fun y=>
gGu c xs y
def gSu(c:gB→Option (Bool))(f:gB):Option (Bool):=
bnd ((cnd (f.kind==1) (
(some (f.kind==1))) (
(some (f.kind==4))))) fun y=>
(cnd y (
lt_ ((cnd (mO f.name) (((f.args.length:Int)==0)) (false))) fun b4=>
gGs c f.args b4) (
(cnd (f.kind==3) (
lt_ ((cnd (mO f.name) (((f.args.length:Int)==1)) (false))) fun h=>
gGt c f.args h) (
(cnd (f.kind==2) (
lt_ ((cnd (mO f.name) ((cnd (decide ((f.args.length:Int)≤3)) (true) ((cnd (gMq f.name) (((f.args.length:Int)==0)) (false))))) ((cnd (gMq f.name) (((f.args.length:Int)==0)) (false))))) fun q=>
gGu c f.args q) (
(some false)))))))
theorem hEo{c:gB→Option (Bool)}(y:∀(x0:gB){r:Bool},c x0=some r→jF Tryz.prog 247 [.d (kZ x0)] [.b r])(a0:gB){r:Bool}(h:gSu c a0=some r):jF Tryz.prog 247 [.d (kZ a0)] [.b r]:=by
 obtain⟨aa,q,f⟩:=a0;unfold gSu at h;refine SpI Tryz.func247 fun A _=>?_;refine goL ?_;refine jK (gG (qR q)) ?_;refine jE ?_;refine goL ?_;obtain⟨b1,hb1,h⟩:=gJ h;refine gAn ⟨[(1,.ptr 0 0),(3,.B (mO q)),(9,.I aa),(10,.B b1)],[bTy aa q f],Tryz.f247.ntmps⟩ ?_ ?_
 ·refine mQ (fun c2=>?_) (fun c2=>?_)
  ·replace hb1:=kT c2 hb1;refine yE ?_;cases hb1;exact eJ
  ·replace hb1:=kU c2 hb1;refine goL ?_;cases hb1;exact eJ
 refine goC h ?_ ?_<;>intro c3 h
 ·refine goL ?_;obtain⟨b4,hb4,h⟩:=qW h;refine kC ⟨[(1,.ptr 0 0),(3,.B b4)],[bTy aa q f],Tryz.f247.ntmps⟩ ?_ ?_
  ·refine wW 14 (fun c5=>?_) (fun c5=>?_) (by first | rfl | (simp only [kE,jN];rfl))
   ·replace hb4:=kT c5 hb4;refine goL ?_;cases hb4;exact⟨rfl,⟨⟨rfl,rfl⟩,⟨by first | rfl | (simp only [kE,jN];rfl),rfl⟩,trivial⟩,⟨_,rfl⟩,rfl⟩
   ·replace hb4:=kU c5 hb4;refine goL ?_;cases hb4;exact⟨rfl,⟨⟨rfl,rfl⟩,⟨by first | rfl | (simp only [kE,jN];rfl),rfl⟩,trivial⟩,⟨_,rfl⟩,rfl⟩
  refine goL ?_;refine noB ?_;refine yP 0 2 (fun z8=>?_);refine gEt (fun(y7:Nat)(y6:Bool)=>⟨[(1,.ptr 0 0),(3,.B y6),(4,.N y7)],[bTy aa q f],Tryz.f247.ntmps⟩) (fun y7 y6=>gGs c (f.drop y7) y6=some r) (fun y7 y6=>f.length - y7) 0 b4 eJ h ?_;rintro y7 y6 h;refine goL ?_;refine mQ (fun c9=>?_) (fun c9=>?_)
  ·have ag:=vF c9;obtain⟨bg,ax,ak⟩:=drop_at ag;rw [ak,gGs.eq_2] at h;obtain⟨bh,bi,bj⟩:=bg;refine noS ?_;refine kH (jE ?_);refine goL ?_;obtain⟨ay,hb11,h⟩:=gJ h;refine kC ⟨[(1,.ptr 0 0),(4,.N y7),(3,.B ay)],[bTy aa q f],Tryz.f247.ntmps⟩ ?_ ?_
   ·refine gqA 57 hb11 (fun bw hb11=>?_);refine jK (jM y7 (gEk ax)) ?_;refine gQc ?_;obtain⟨bx,a3,hb11⟩:=gJ hb11;refine jK (gG (y _ a3)) ?_;cases hb11;exact eJ
   refine goL ?_;refine jK (kD y7 (by omega)) ?_;exact⟨(y7+1),ay,h,by omega,eJ⟩
  ·have ag:=vG c9;rw [jH ag,gGs.eq_1] at h;refine goX ?_;refine jG ?_;cases h;exact uA
 ·refine goC h ?_ ?_<;>intro bz h
  ·refine goL ?_;obtain⟨a4,hb15,h⟩:=qW h;refine kC ⟨[(1,.ptr 0 0),(3,.B a4)],[bTy aa q f],Tryz.f247.ntmps⟩ ?_ ?_
   ·refine wW 23 (fun al=>?_) (fun al=>?_) (by first | rfl | (simp only [kE,jN];rfl))
    ·replace hb15:=kT al hb15;refine goL ?_;cases hb15;exact⟨rfl,⟨⟨rfl,rfl⟩,⟨by first | rfl | (simp only [kE,jN];rfl),rfl⟩,trivial⟩,⟨_,rfl⟩,rfl⟩
    ·replace hb15:=kU al hb15;refine goL ?_;cases hb15;exact⟨rfl,⟨⟨rfl,rfl⟩,⟨by first | rfl | (simp only [kE,jN];rfl),rfl⟩,trivial⟩,⟨_,rfl⟩,rfl⟩
   refine goL ?_;refine noB ?_;refine yP 0 2 (fun b0=>?_);refine gEt (fun(ab:Nat)(ah:Bool)=>⟨[(1,.ptr 0 0),(3,.B ah),(4,.N ab)],[bTy aa q f],Tryz.f247.ntmps⟩) (fun ab ah=>gGt c (f.drop ab) ah=some r) (fun ab ah=>f.length - ab) 0 a4 eJ h ?_;rintro ab ah h;refine goL ?_;refine mQ (fun am=>?_) (fun am=>?_)
   ·have ad:=vF am;obtain⟨bk,a5,an⟩:=drop_at ad;rw [an,gGt.eq_2] at h;obtain⟨bl,bm,bn⟩:=bk;refine noS ?_;refine kH (jE ?_);refine goL ?_;obtain⟨a6,hb22,h⟩:=gJ h;refine kC ⟨[(1,.ptr 0 0),(4,.N ab),(3,.B a6)],[bTy aa q f],Tryz.f247.ntmps⟩ ?_ ?_
    ·refine gqA 57 hb22 (fun b2 hb22=>?_);refine jK (jM ab (gEk a5)) ?_;refine gQc ?_;obtain⟨b3,a7,hb22⟩:=gJ hb22;refine jK (gG (y _ a7)) ?_;cases hb22;exact eJ
    refine goL ?_;refine jK (kD ab (by omega)) ?_;exact⟨(ab+1),a6,h,by omega,eJ⟩
   ·have ad:=vG am;rw [jH ad,gGt.eq_1] at h;refine goX ?_;refine jG ?_;cases h;exact uA
  ·refine goC h ?_ ?_<;>intro b5 h
   ·refine goL ?_;obtain⟨a8,hb26,h⟩:=qW h;refine kC ⟨[(1,.ptr 0 0),(3,.B a8)],[bTy aa q f],Tryz.f247.ntmps⟩ ?_ ?_
    ·refine wW 32 (fun ao=>?_) (fun ao=>?_) (by first | rfl | (simp only [kE,jN];rfl))
     ·replace hb26:=kT ao hb26;refine goL ?_;refine wW 38 (fun ap=>?_) (fun ap=>?_) (by first | rfl | (simp only [kE,jN];rfl))
      ·replace hb26:=kT ap hb26;refine goL ?_;cases hb26;exact⟨rfl,⟨⟨rfl,rfl⟩,⟨by first | rfl | (simp only [kE,jN];rfl),rfl⟩,trivial⟩,⟨_,rfl⟩,rfl⟩
      ·replace hb26:=kU ap hb26;refine goL ?_;refine gQc ?_;refine jK (gG (gXy q)) ?_;refine wW 42 (fun aq=>?_) (fun aq=>?_) (by first | rfl | (simp only [kE,jN];rfl))
       ·replace hb26:=kT aq hb26;refine goL ?_;cases hb26;exact⟨rfl,⟨⟨rfl,rfl⟩,⟨by first | rfl | (simp only [kE,jN];rfl),rfl⟩,trivial⟩,⟨_,rfl⟩,rfl⟩
       ·replace hb26:=kU aq hb26;refine goL ?_;cases hb26;exact⟨rfl,⟨⟨rfl,rfl⟩,⟨by first | rfl | (simp only [kE,jN];rfl),rfl⟩,trivial⟩,⟨_,rfl⟩,rfl⟩
     ·replace hb26:=kU ao hb26;refine goL ?_;refine gQc ?_;refine jK (gG (gXy q)) ?_;refine wW 42 (fun ar=>?_) (fun ar=>?_) (by first | rfl | (simp only [kE,jN];rfl))
      ·replace hb26:=kT ar hb26;refine goL ?_;cases hb26;exact⟨rfl,⟨⟨rfl,rfl⟩,⟨by first | rfl | (simp only [kE,jN];rfl),rfl⟩,trivial⟩,⟨_,rfl⟩,rfl⟩
      ·replace hb26:=kU ar hb26;refine goL ?_;cases hb26;exact⟨rfl,⟨⟨rfl,rfl⟩,⟨by first | rfl | (simp only [kE,jN];rfl),rfl⟩,trivial⟩,⟨_,rfl⟩,rfl⟩
    refine goL ?_;refine noB ?_;refine yP 0 2 (fun b6=>?_);refine gEt (fun(ac:Nat)(ai:Bool)=>⟨[(1,.ptr 0 0),(3,.B ai),(4,.N ac)],[bTy aa q f],Tryz.f247.ntmps⟩) (fun ac ai=>gGu c (f.drop ac) ai=some r) (fun ac ai=>f.length - ac) 0 a8 eJ h ?_;rintro ac ai h;refine goL ?_;refine mQ (fun au=>?_) (fun au=>?_)
    ·have ae:=vF au;obtain⟨bo,a9,av⟩:=drop_at ae;rw [av,gGu.eq_2] at h;obtain⟨bp,bq,br⟩:=bo;refine noS ?_;refine kH (jE ?_);refine goL ?_;obtain⟨ba,hb36,h⟩:=gJ h;refine kC ⟨[(1,.ptr 0 0),(4,.N ac),(3,.B ba)],[bTy aa q f],Tryz.f247.ntmps⟩ ?_ ?_
     ·refine gqA 57 hb36 (fun b7 hb36=>?_);refine jK (jM ac (gEk a9)) ?_;refine gQc ?_;obtain⟨b8,bb,hb36⟩:=gJ hb36;refine jK (gG (y _ bb)) ?_;cases hb36;exact eJ
     refine goL ?_;refine jK (kD ac (by omega)) ?_;exact⟨(ac+1),ba,h,by omega,eJ⟩
    ·have ae:=vG au;rw [jH ae,gGu.eq_1] at h;refine goX ?_;refine jG ?_;cases h;exact uA
   ·exact goR h
def gSv:Nat→gB→Option (Bool)
 | 0,_=>none
 | n+1,c=>gSu (gSv n) c
theorem hEp:∀(n:Nat)(c:gB){r:Bool},gSv n c=some r→jF Tryz.prog 247 [.d (kZ c)] [.b r]:=by
 intro n
 induction n with
 | zero=>intro c r h;cases h
 | succ n ih=>intro c r h;exact hEo ih c h
def gPn(c:gU):Option (Bool):=
bnd (gJ0 5000 c (gU.mk 0 [] [] 0 (gB.mk 0 [] []) [] [])) fun f=>
(some f)
theorem gZ6(y:gU){r:Bool}(h:gPn y=some r):jF Tryz.prog 238 [.d (zJ y)] [.b r]:=by
 obtain⟨ab,ac,ad,ae,⟨c,f,q⟩,ag,ah⟩:=y;unfold gPn at h;refine SpI Tryz.func238 fun A _=>?_;refine goL ?_;refine yS (jU TBd.h TZ.h rfl (by repeat constructor)) ?_;obtain⟨x1,aa,h⟩:=gJ h;refine qM (gG (gT9 _ _ _ aa)) ?_;exact goR h
def gA6(c:LS):Option (gD):=
bnd (gL9 c) fun f=>
(some (gD.mk [] f))
theorem uU(f:LS){r:gD}(h:gA6 f=some r):jF Tryz.prog 221 [.L 1 (gP f)] [qC r]:=by
 unfold gA6 at h;refine SpI Tryz.func221 fun A _=>?_;refine goL ?_;obtain⟨q,c,h⟩:=gJ h;refine qM (gG (gUa _ c)) ?_;refine yS (jU TBd.h TZ.h rfl (by repeat constructor)) ?_;exact goR h
def gD4:List gB→(List gD)→Option (List gD)
 | [],c=>(some c)
 | h::xs,c=>bnd (gLi 5000 h) fun f=>
gd (c.length+[f].length≤4294967296) (
gD4 xs (c++[f]))
def gK1(c:List gB):Option (List gD):=
gD4 c []
theorem gRp(a0:List gB){r:List gD}(h:gK1 a0=some r):jF Tryz.prog 222 [.L 3 (gK a0)] [.sl 2 (jA r)]:=by
 unfold gK1 at h;refine SpI Tryz.func222 fun A _=>?_;refine goL ?_;refine zS ?_;refine goL ?_;refine noB ?_;refine gCm 0 (fun z4=>?_);refine kV (fun(f:Nat)(y1:List gD)(v2:Nat)=>⟨[(0,.L 3 (gK a0)),(3,.sl 0 v2),(4,.N f)],[.arr 223 2 v2 (jA y1)],Tryz.f222.ntmps⟩) (fun f y1 v2=>gD4 (a0.drop f) y1=some r) (fun f y1 v2=>a0.length - f) 0 [] 0 eJ h ?_;rintro f y1 v2 h;refine goL ?_;refine mQ (fun c5=>?_) (fun c5=>?_)
 ·have c:=vF c5;obtain⟨x6,ag,ad⟩:=drop_at c;rw [ad,gD4.eq_2] at h;obtain⟨ai,aj,ak⟩:=x6;refine noS ?_;refine kH (jE ?_);refine goL ?_;refine jK (jM f (gEk ag)) ?_;obtain⟨⟨q,y⟩,ah,h⟩:=gJ h;refine qM (gG (gJk _ _ ah)) ?_;refine uQ (u:=(.st [.s q,.sl 2 (jA y)])) ?_;obtain⟨g8,h⟩:=pO h;refine gAi g8 ?_;refine goL ?_;refine jK (kD f (by omega)) ?_;exact⟨(f+1),(y1++[(gD.mk q y)]),(v2+1),h,by omega,eJ⟩
 ·have c:=vG c5;rw [jH c,gD4.eq_1] at h;refine goX ?_;refine gW 0 rfl rfl ?_;refine jG ?_;cases h;exact uA
end Go.Proofs.YtfpdlnkkcnmebaaGreat
