import Derived.Test.YtegahmhnmjnhhaaGreatB6
set_option maxHeartbeats 4000000
set_option linter.unusedVariables false
set_option linter.unusedSimpArgs false
set_option linter.unusedSectionVars false
namespace Go.Proofs.YtegahmhnmjnhhaaGreat
open Go Go.Eng
attribute [local irreducible] V VO VQ VY Quiet QR jC kT Rng mU mV mI
def gVp(y:gD→Option (gOv))(f:(List gD)→Option (List kJ))(c:gD→Option (kJ))(h:gD):Option (gOv):=
(cnd (decide ((h.list.length:Int) < 2)) (
(some (gOv.mk [] [] (kJ.mk 0 [] [] 0 (gB.mk 0 [] []) [] [])))) (
gd (0≤(1:Int)∧(1:Int)≤(IntKind.i64.wrap ((h.list.length:Int) - 1))∧(IntKind.i64.wrap ((h.list.length:Int) - 1))≤(h.list.length:Int)) (
bnd (gK3 ((h.list.drop (Int.toNat 1)).take (Int.toNat (IntKind.i64.wrap ((h.list.length:Int) - 1)) - Int.toNat 1))) fun x3=>
bnd (at? h.list 0) fun x4=>
bnd (at? h.list (IntKind.i64.wrap ((h.list.length:Int) - 1))) fun x5=>
bnd (c x5) fun x6=>
(some (gOv.mk x4.atom x3.1 x6)))))
def gQh(c:gD→Option (gOv)):Prop:=∀(f:gD) {r:gOv},c f=some r→jC Tryz.prog 203 [.d (pF f)] [hQ0 r]
def gL9(c:(List gD)→Option (List kJ)):Prop:=∀(f:List gD) {r:List kJ},c f=some r→jC Tryz.prog 202 [.L 2 (jA f)] [.sl 9 (gB8 r)]
def gLf(c:gD→Option (kJ)):Prop:=∀(f:gD) {r:kJ},c f=some r→jC Tryz.prog 168 [.d (pF f)] [gCx r]
theorem hMg{y}{c}{f}(ac:gQh y)(ab:gL9 c)(aa:gLf f)(a0:gD){r:gOv}(h:gVp y c f a0=some r):jC Tryz.prog 203 [.d (pF a0)] [hQ0 r]:=by
 obtain⟨ap,ad⟩:=a0;unfold gVp at h;refine SpI Tryz.func203 fun A _=>?_;refine goC h ?_ ?_<;>intro c1 h
 ·refine goL ?_;refine gAq (jU TBd.h TZ.h rfl (by repeat constructor)) ?_;exact goR h
 ·refine goS ?_;refine qI (pR) ?_;obtain⟨g2,h⟩:=mW h;refine qI (hPh g2) ?_;obtain⟨⟨aq,ar⟩,an,h⟩:=gP h;refine qI (gF (gRn ((ad.drop (Int.toNat 1)).take (Int.toNat (IntKind.i64.wrap ((ad.length:Int) - 1)) - Int.toNat 1)) an)) ?_;refine gH2 ?_;refine jO (P:=Tryz.prog) Mix.h [(0,true),(1,true),(2,true),(3,true),(4,true),(5,true),(6,true),(7,true),(8,true),(9,true),(10,true),(11,true),(12,true),(13,true),(14,false)] (by kernel_rfl) ?_;refine goY ?_;obtain⟨x4,ae,h⟩:=gP h;obtain⟨ah,ae⟩:=gEd ae;obtain⟨au,av⟩:=x4;refine jI rfl (qP ah (uG ae)) ?_;refine goY ?_;refine jI rfl (pR) ?_;obtain⟨x5,ag,h⟩:=gP h;obtain⟨ai,ag⟩:=gEd ag;obtain⟨aw,ax⟩:=x5;refine jI rfl (qP ai (uG ag)) ?_;refine goY ?_;obtain⟨⟨ay,a3,a4,a5,⟨aj,ak,al⟩,a6,a7⟩,ao,h⟩:=gP h;refine jI rfl (gF (aa _ ao)) ?_;refine goY ?_;refine kQ ?_;exact goR h
def gD9(c:gD→Option (kJ)):List gD→(List kJ)→Option (List kJ)
 | [],f=>(some f)
 | y::xs,f=>bnd (c y) fun h=>
gd (f.length+[h].length≤4294967296) (
gD9 c xs (f++[h]))
def gO3(h:gD→Option (gOv))(f:(List gD)→Option (List kJ))(c:gD→Option (kJ))(y:List gD):Option (List kJ):=
gD9 c y []
theorem hEn{y}{f}{c}(ah:gQh y)(ag:gL9 f)(aa:gLf c)(a0:List gD){r:List kJ}(h:gO3 y f c a0=some r):jC Tryz.prog 202 [.L 2 (jA a0)] [.sl 9 (gB8 r)]:=by
 unfold gO3 at h;refine SpI Tryz.func202 fun A _=>?_;refine goL ?_;refine gAl ?_;refine goL ?_;refine noB ?_;refine gBx 0 (fun z4=>?_);refine kS (fun(y3:Nat) (y1:List kJ) (v2:Nat)=>⟨[(0,.L 2 (jA a0)),(3,.sl 0 v2),(4,.N y3)],[.arr 203 9 v2 (gB8 y1)],Tryz.f202.ntmps⟩) (fun y3 y1 v2=>gD9 c (a0.drop y3) y1=some r) (fun y3 y1 v2=>a0.length - y3) 0 [] 0 eJ h ?_;rintro y3 y1 v2 h;refine goL ?_;refine kX (fun c5=>?_) (fun c5=>?_)
 ·have ab:=uR c5;obtain⟨x6,aw,au⟩:=drop_at ab;rw [au,gD9.eq_2] at h;obtain⟨ay,a3⟩:=x6;refine noS ?_;refine jW (jE ?_);refine goL ?_;refine jL (jM y3 (uG aw)) ?_;obtain⟨⟨aj,ak,al,am,⟨ac,ad,ae⟩,an,ao⟩,ax,h⟩:=gP h;refine qI (gF (aa _ ax)) ?_;refine gAk (u:=(.st [.i .i64 aj,.s ak,.s al,.i .i64 am,.st [.i .i64 ac,.s ad,.sl 3 (jJ ae)],.sl 9 (gB8 an),.sl 11 (gKw ao)])) ?_;obtain⟨g8,h⟩:=mW h;refine gBd g8 ?_;refine goL ?_;refine jL (jR y3 (by omega)) ?_;exact⟨(y3+1),(y1++[(kJ.mk aj ak al am (gB.mk ac ad ae) an ao)]),(v2+1),h,by omega,eJ⟩
 ·have ab:=uS c5;rw [jF ab,gD9.eq_1] at h;refine goX ?_;refine kN 0 rfl rfl ?_;refine jK ?_;cases h;exact qA
def gFk(c:gD→Option (gOv))(h:List kJ):List gD→(List gOv)→Option (kJ)
 | [],f=>(some (kJ.mk 7 [] [] 0 (gB.mk 0 [] []) h f))
 | aa::xs,f=>bnd (c aa) fun y=>
gd (f.length+[y].length≤4294967296) (
gFk c h xs (f++[y]))
def gRv(y:gD→Option (gOv))(c:(List gD)→Option (List kJ))(ab:gD→Option (kJ))(f:gD):Option (kJ):=
(cnd (!(f.atom==[])) (
bnd (gM5 f.atom) fun x2=>
(cnd x2.2 (
lt_ (gQe x2.1) fun x4=>
(some x4)) (
(cnd (f.atom==[116,114,117,101]) (
(some (kJ.mk 2 [] [] 1 (gB.mk 0 [] []) [] []))) (
(cnd (f.atom==[102,97,108,115,101]) (
(some (kJ.mk 2 [] [] 0 (gB.mk 0 [] []) [] []))) (
lt_ (gQf f.atom) fun x7=>
(some x7)))))))) (
gd (([]:List gD).length+f.list.length≤4294967296) (
gd (([]++f.list).length+[(gD.mk [] []),(gD.mk [] []),(gD.mk [] [])].length≤4294967296) (
bnd (at? (([]++f.list)++[(gD.mk [] []),(gD.mk [] []),(gD.mk [] [])]) 1) fun aa=>
bnd (at? (([]++f.list)++[(gD.mk [] []),(gD.mk [] []),(gD.mk [] [])]) 0) fun h=>
(cnd (h.atom==[99,97,108,108]) (
gd (0≤(uQ 2 (f.list.length:Int))∧(uQ 2 (f.list.length:Int))≤(f.list.length:Int)) (
bnd (c (f.list.drop (Int.toNat (uQ 2 (f.list.length:Int))))) fun ac=>
(some (kJ.mk 4 [] aa.atom 0 (gB.mk 0 [] []) ac [])))) (
(cnd (h.atom==[109,101,116,104,111,100]) (
bnd (at? (([]++f.list)++[(gD.mk [] []),(gD.mk [] []),(gD.mk [] [])]) 2) fun ad=>
gd (0≤(uQ 3 (f.list.length:Int))∧(uQ 3 (f.list.length:Int))≤(f.list.length:Int)) (
bnd (c (f.list.drop (Int.toNat (uQ 3 (f.list.length:Int))))) fun ae=>
(some (kJ.mk 5 aa.atom ad.atom 0 (gB.mk 0 [] []) ae [])))) (
(cnd (h.atom==[110,101,119]) (
gd (0≤(uQ 2 (f.list.length:Int))∧(uQ 2 (f.list.length:Int))≤(f.list.length:Int)) (
bnd (c (f.list.drop (Int.toNat (uQ 2 (f.list.length:Int))))) fun ag=>
(some (kJ.mk 6 [] aa.atom 0 (gB.mk 0 [] []) ag [])))) (
(cnd (h.atom==[108,101,116]) (
gd (0≤(uQ 2 (f.list.length:Int))∧(uQ 2 (f.list.length:Int))≤(f.list.length:Int)) (
bnd (c (f.list.drop (Int.toNat (uQ 2 (f.list.length:Int))))) fun ah=>
(some (kJ.mk 8 [] aa.atom 0 (gB.mk 0 [] []) ah [])))) (
(cnd (h.atom==[105,102]) (
gd (0≤(1:Int)∧1≤(f.list.length:Int)) (
bnd (c (f.list.drop (Int.toNat 1))) fun ai=>
(some (kJ.mk 9 [] [] 0 (gB.mk 0 [] []) ai [])))) (
(cnd (h.atom==[112,97,99,107]) (
gd (0≤(uQ 2 (f.list.length:Int))∧(uQ 2 (f.list.length:Int))≤(f.list.length:Int)) (
bnd (c (f.list.drop (Int.toNat (uQ 2 (f.list.length:Int))))) fun aj=>
(some (kJ.mk 11 aa.atom [] 0 (gB.mk 0 [] []) aj [])))) (
(cnd (h.atom==[116,104,101]) (
bnd (gMs 5000 aa) fun ak=>
gd (0≤(uQ 2 (f.list.length:Int))∧(uQ 2 (f.list.length:Int))≤(f.list.length:Int)) (
bnd (c (f.list.drop (Int.toNat (uQ 2 (f.list.length:Int))))) fun al=>
(some (kJ.mk 12 [] [] 0 ak al [])))) (
(cnd (h.atom==[99,97,115,101]) (
gd (0≤(1:Int)∧(1:Int)≤(uQ 2 (f.list.length:Int))∧(uQ 2 (f.list.length:Int))≤(f.list.length:Int)) (
bnd (c ((f.list.drop (Int.toNat 1)).take (Int.toNat (uQ 2 (f.list.length:Int)) - Int.toNat 1))) fun am=>
gFk y am (f.list.drop 2) [])) (
gd (0≤(uQ 1 (f.list.length:Int))∧(uQ 1 (f.list.length:Int))≤(f.list.length:Int)) (
bnd (c (f.list.drop (Int.toNat (uQ 1 (f.list.length:Int))))) fun an=>
(some (kJ.mk 10 [] h.atom 0 (gB.mk 0 [] []) an [])))))))))))))))))))))))
theorem hGp{y}{aa}{ab}(ag:gQh y)(c:gL9 aa)(a4:gLf ab)(a0:gD){r:kJ}(h:gRv y aa ab a0=some r):jC Tryz.prog 168 [.d (pF a0)] [gCx r]:=by
 obtain⟨a5,f⟩:=a0;unfold gRv at h;refine SpI Tryz.func168 fun A _=>?_;refine goC h ?_ ?_<;>intro c1 h
 ·refine goL ?_;obtain⟨⟨a9,co⟩,bv,h⟩:=gP h;refine jL (gF (gZq _ bv)) ?_;refine jW (jE ?_);refine goC h ?_ ?_<;>intro c3 h
  ·refine goL ?_;obtain⟨⟨cp,cq,cr,cs,⟨bn,bo,bp⟩,ct,cu⟩,bw,h⟩:=qB h;have sx4:=hLy a9;rw [bw] at sx4;refine qI (gF (sx4)) ?_;exact goR h
  ·refine goC h ?_ ?_<;>intro c5 h
   ·refine goL ?_;refine gAq (jU TBd.h TZ.h rfl (by repeat constructor)) ?_;exact goR h
   ·refine goC h ?_ ?_<;>intro c6 h
    ·refine goL ?_;refine gAq (jU TBd.h TZ.h rfl (by repeat constructor)) ?_;exact goR h
    ·refine goS ?_;obtain⟨⟨cv,cw,cx,cy,⟨bq,br,bt⟩,cz,c0⟩,bx,h⟩:=qB h;have sx7:=hL8 a5;rw [bx] at sx7;refine qI (gF (sx7)) ?_;exact goR h
 ·refine goS ?_;refine gAl ?_;refine goL ?_;obtain⟨g8,h⟩:=mW h;refine gBd g8 ?_;refine gAq (jU TBd.h TZ.h rfl (by repeat constructor)) ?_;refine gAq (jU TBd.h TZ.h rfl (by repeat constructor)) ?_;refine gAq (jU TBd.h TZ.h rfl (by repeat constructor)) ?_;refine gSp (us:=jA [(gD.mk [] []),(gD.mk [] []),(gD.mk [] [])]) ?_;obtain⟨g9,h⟩:=mW h;refine gBd g9 ?_;refine goL ?_;refine uZ 2 rfl rfl ?_;refine hI6 ?_;obtain⟨bz,ap,h⟩:=gP h;obtain⟨av,ap⟩:=gEd ap;obtain⟨b0,b1⟩:=bz;refine jL (qP av (uG ap)) ?_;obtain⟨b2,aq,h⟩:=gP h;obtain⟨aw,aq⟩:=gEd aq;obtain⟨b3,b4⟩:=b2;refine jL (qP aw (uG aq)) ?_;refine jE ?_;refine goC h ?_ ?_<;>intro c7 h
  ·refine jO (P:=Tryz.prog) Mix.h [(0,true),(1,true),(2,true),(3,true),(4,true),(5,true),(6,true),(7,true),(8,false)] (by kernel_rfl) ?_;refine goY ?_;refine jI rfl (gF (gJr 2 (f.length:Int))) ?_;obtain⟨b5,h⟩:=mW h;refine jI rfl (gMv b5) ?_;obtain⟨c8,ba,h⟩:=gP h;refine jI rfl (gF (c _ ba)) ?_;refine goY ?_;refine kQ ?_;exact goR h
  ·refine goC h ?_ ?_<;>intro c9 h
   ·refine jO (P:=Tryz.prog) Mix.h [(0,true),(1,true),(2,true),(3,true),(4,true),(5,true),(6,true),(7,true),(8,true),(9,true),(10,true),(11,true),(12,false)] (by kernel_rfl) ?_;refine goY ?_;obtain⟨b6,ax,h⟩:=gP h;obtain⟨a6,ax⟩:=gEd ax;obtain⟨b7,b8⟩:=b6;refine jI rfl (qP a6 (uG ax)) ?_;refine goY ?_;refine jI rfl (gF (gJr 3 (f.length:Int))) ?_;obtain⟨b9,h⟩:=mW h;refine jI rfl (gMv b9) ?_;obtain⟨da,bb,h⟩:=gP h;refine jI rfl (gF (c _ bb)) ?_;refine goY ?_;refine kQ ?_;exact goR h
   ·refine goC h ?_ ?_<;>intro db h
    ·refine jO (P:=Tryz.prog) Mix.h [(0,true),(1,true),(2,true),(3,true),(4,true),(5,true),(6,true),(7,true),(8,false)] (by kernel_rfl) ?_;refine goY ?_;refine jI rfl (gF (gJr 2 (f.length:Int))) ?_;obtain⟨ca,h⟩:=mW h;refine jI rfl (gMv ca) ?_;obtain⟨dc,bc,h⟩:=gP h;refine jI rfl (gF (c _ bc)) ?_;refine goY ?_;refine kQ ?_;exact goR h
    ·refine goC h ?_ ?_<;>intro dd h
     ·refine jO (P:=Tryz.prog) Mix.h [(0,true),(1,true),(2,true),(3,true),(4,true),(5,true),(6,true),(7,true),(8,false)] (by kernel_rfl) ?_;refine goY ?_;refine jI rfl (gF (gJr 2 (f.length:Int))) ?_;obtain⟨cb,h⟩:=mW h;refine jI rfl (gMv cb) ?_;obtain⟨de,bd,h⟩:=gP h;refine jI rfl (gF (c _ bd)) ?_;refine goY ?_;refine kQ ?_;exact goR h
     ·refine goC h ?_ ?_<;>intro df h
      ·refine goL ?_;obtain⟨cc,h⟩:=mW h;refine qI (gMv cc) ?_;obtain⟨dg,be,h⟩:=gP h;refine qI (gF (c _ be)) ?_;refine gAq (jU TBd.h TZ.h rfl (by repeat constructor)) ?_;exact goR h
      ·refine goC h ?_ ?_<;>intro dh h
       ·refine jO (P:=Tryz.prog) Mix.h [(0,true),(1,true),(2,true),(3,true),(4,true),(5,true),(6,true),(7,true),(8,false)] (by kernel_rfl) ?_;refine goY ?_;refine jI rfl (gF (gJr 2 (f.length:Int))) ?_;obtain⟨cd,h⟩:=mW h;refine jI rfl (gMv cd) ?_;obtain⟨di,bf,h⟩:=gP h;refine jI rfl (gF (c _ bf)) ?_;refine goY ?_;refine kQ ?_;exact goR h
       ·refine goC h ?_ ?_<;>intro dj h
        ·refine jO (P:=Tryz.prog) Mix.h [(0,true),(1,true),(2,true),(3,true),(4,true),(5,true),(6,true),(7,true),(8,true),(9,true),(10,true),(11,false)] (by kernel_rfl) ?_;refine goY ?_;refine jI rfl (qP av (uG ap)) ?_;refine goY ?_;obtain⟨⟨ce,cf,cg⟩,bg,h⟩:=gP h;refine jI rfl (gF (gPs _ _ bg)) ?_;refine goY ?_;refine jI rfl (gF (gJr 2 (f.length:Int))) ?_;obtain⟨ch,h⟩:=mW h;refine jI rfl (gMv ch) ?_;obtain⟨dk,bh,h⟩:=gP h;refine jI rfl (gF (c _ bh)) ?_;refine goY ?_;refine kQ ?_;exact goR h
        ·refine goC h ?_ ?_<;>intro dl h
         ·refine jO (P:=Tryz.prog) Mix.h [(0,true),(1,true),(2,true),(3,true),(4,true),(5,true),(6,true),(7,false),(8,false)] (by kernel_rfl) ?_;refine goY ?_;refine jI rfl (gF (gJr 2 (f.length:Int))) ?_;obtain⟨ci,h⟩:=mW h;refine jI rfl (hPh ci) ?_;obtain⟨bi,bj,h⟩:=gP h;refine jI rfl (gF (c _ bj)) ?_;refine goY ?_;refine kQ ?_;refine goL ?_;refine noB ?_;refine wT 266 11 4 8 rfl rfl (by repeat constructor) (by repeat constructor) (by repeat constructor) (by repeat constructor) ?_;show V _ _ _ _ _;refine gBx 38 (fun dm=>?_);refine kS (fun(ah:Nat) (ar:List gOv) (au:Nat)=>⟨[(1,.ptr 0 0),(2,.ptr 1 0),(6,.I (f.length:Int)),(8,.ptr 4 0),(9,.N ah)],[bSx a5 f,.box [.I 0,.S [],.S [],.I 0,.I 0,.S [],.nilsl,.nilsl,.nilsl],.frz 135 2 ((0+1)+1) (jA (([]++f)++[(gD.mk [] []),(gD.mk [] []),(gD.mk [] [])])),.arr 135 2 0 (jA [(gD.mk [] []),(gD.mk [] []),(gD.mk [] [])]),.box [.I 7,.S [],.S [],.I 0,.I 0,.S [],.nilsl,.L 9 (gB8 bi),.sl 5 au],.arr 266 11 au (gKw ar)],Tryz.f168.ntmps⟩) (fun ah ar au=>gFk y bi (f.drop ah) ar=some r) (fun ah ar au=>f.length - ah) 2 [] 0 eJ h ?_;rintro ah ar au h;refine goL ?_;refine kX (fun a7=>?_) (fun a7=>?_)
          ·have ai:=uR a7;obtain⟨cj,bk,a8⟩:=drop_at ai;rw [a8,gFk.eq_2] at h;obtain⟨ck,cl⟩:=cj;refine noS ?_;refine jW (jE ?_);refine uF (P:=Tryz.prog) Mix.h [(0,true),(1,true),(2,true),(3,true),(4,true),(5,true),(6,true),(7,true),(8,false),(9,false),(10,true),(11,false)] (by kernel_rfl) ?_;refine goY ?_;refine jI rfl (jM ah (uG bk)) ?_;refine goY ?_;obtain⟨⟨ay,a3,⟨aj,ak,al,am,⟨ac,ad,ae⟩,an,ao⟩⟩,bl,h⟩:=gP h;refine jI rfl (gF (ag _ bl)) ?_;refine qE (T:=201) (us:=gKw [(gOv.mk ay a3 (kJ.mk aj ak al am (gB.mk ac ad ae) an ao))]) ?_;obtain⟨cm,h⟩:=mW h;refine pV (T:=201) cm ?_;refine goY ?_;refine kQ ?_;refine goL ?_;refine jL (jR ah (by omega)) ?_;exact⟨(ah+1),(ar++[(gOv.mk ay a3 (kJ.mk aj ak al am (gB.mk ac ad ae) an ao))]),(au+1),h,by omega,eJ⟩
          ·have ai:=uS a7;rw [jF ai,gFk.eq_1] at h;refine goX ?_;refine kN 5 rfl rfl ?_;refine jK ?_;cases h;exact qA
         ·refine noS ?_;refine jO (P:=Tryz.prog) Mix.h [(0,true),(1,true),(2,true),(3,true),(4,true),(5,true),(6,true),(7,true),(8,true),(9,true),(10,true),(11,false)] (by kernel_rfl) ?_;refine goY ?_;refine jI rfl (qP aw (uG aq)) ?_;refine goY ?_;refine jI rfl (gF (gJr 1 (f.length:Int))) ?_;obtain⟨cn,h⟩:=mW h;refine jI rfl (gMv cn) ?_;obtain⟨dn,bm,h⟩:=gP h;refine jI rfl (gF (c _ bm)) ?_;refine goY ?_;refine kQ ?_;exact goR h
mutual
def gQi:Nat→gD→Option (gOv)
 | 0,_=>none
 | n+1,c=>gVp (gQi n) (gMa n) (gFl n) c
def gMa:Nat→(List gD)→Option (List kJ)
 | 0,_=>none
 | n+1,c=>gO3 (gQi n) (gMa n) (gFl n) c
def gFl:Nat→gD→Option (kJ)
 | 0,_=>none
 | n+1,c=>gRv (gQi n) (gMa n) (gFl n) c
end
theorem hGq:∀(n:Nat),gQh (gQi n)∧gL9 (gMa n)∧gLf (gFl n):=by
 intro n
 induction n with
 | zero=>exact⟨(by intro c r h;cases h),(by intro c r h;cases h),(by intro c r h;cases h)⟩
 | succ n ih=>
   obtain⟨ih0,ih1,ih2⟩:=ih;refine⟨(fun c r h=>hMg ih0 ih1 ih2 c h),(fun c r h=>hEn ih0 ih1 ih2 c h),(fun c r h=>hGp ih0 ih1 ih2 c h)⟩
theorem gRw:∀(n:Nat),gLf (gFl n):=fun n=>(hGq n).2.2
def gFm:List (List UInt8)→Bool
 | []=>true
 | c::xs=>(cnd (!(mF c)) (
false) (
gFm xs ))
def gLg(c:List (List UInt8)):Bool:=
gFm c
theorem gXg(y:List (List UInt8)):jC Tryz.prog 176 [.L 1 (jP y)] [.b (gLg y)]:=by
 obtain⟨r,h⟩:∃r,gLg y=r:=⟨_,rfl⟩
 rw [h];unfold gLg at h;refine SpI Tryz.func176 fun A _=>?_;refine goL ?_;refine noB ?_;refine gBx 0 (fun z2=>?_);refine mQ (fun(f:Nat)=>⟨[(0,.L 1 (jP y)),(3,.N f)],[],Tryz.f176.ntmps⟩) (fun f=>gFm (y.drop f)  =r) (fun f=>y.length - f) 0 eJ h ?_;rintro f h;refine goL ?_;refine kX (fun c3=>?_) (fun c3=>?_)
 ·have c:=uR c3;obtain⟨x4,ac,aa⟩:=drop_at c;rw [aa,gFm.eq_2] at h;refine noS ?_;refine jW (jE ?_);refine goL ?_;refine jL (jM f (gQq ac)) ?_;refine jL (gF (qD x4)) ?_;refine kX (fun c5=>?_) (fun c5=>?_)
  ·replace h:=kD c5 h;refine goL ?_;refine jK ?_;subst h;exact qA
  ·replace h:=kE c5 h;refine goS ?_;refine jL (jR f (by omega)) ?_;exact⟨(f+1),h,by omega,eJ⟩
 ·have c:=uS c3;rw [jF c,gFm.eq_1] at h;refine goX ?_;refine jK ?_;subst h;exact qA
def gHc(c:gB→Option (Bool)):List gB→Bool→Option (Bool)
 | [],f=>(some f)
 | h::xs,f=>bnd ((cnd f (bnd (c h) fun y=>
(some y)) ((some false)))) fun aa=>
gHc c xs aa
def gHd(c:gB→Option (Bool)):List gB→Bool→Option (Bool)
 | [],f=>(some f)
 | h::xs,f=>bnd ((cnd f (bnd (c h) fun y=>
(some y)) ((some false)))) fun aa=>
gHd c xs aa
def gHe(c:gB→Option (Bool)):List gB→Bool→Option (Bool)
 | [],f=>(some f)
 | h::xs,f=>bnd ((cnd f (bnd (c h) fun y=>
(some y)) ((some false)))) fun aa=>
gHe c xs aa
def gVq(c:gB→Option (Bool))(f:gB):Option (Bool):=
bnd ((cnd (f.kind==1) (
(some (f.kind==1))) (
(some (f.kind==4))))) fun b1=>
(cnd b1 (
lt_ ((cnd (mF f.name) (((f.args.length:Int)==0)) (false))) fun b4=>
gHc c f.args b4) (
(cnd (f.kind==3) (
lt_ ((cnd (mF f.name) (((f.args.length:Int)==1)) (false))) fun h=>
gHd c f.args h) (
(cnd (f.kind==2) (
lt_ ((cnd (mF f.name) ((cnd (decide ((f.args.length:Int)≤3)) (true) ((cnd (gNv f.name) (((f.args.length:Int)==0)) (false))))) ((cnd (gNv f.name) (((f.args.length:Int)==0)) (false))))) fun y=>
gHe c f.args y) (
(some false)))))))
theorem hMi{c:gB→Option (Bool)}(aa:∀(x0:gB) {r:Bool},c x0=some r→jC Tryz.prog 245 [.d (jS x0)] [.b r])(a0:gB){r:Bool}(h:gVq c a0=some r):jC Tryz.prog 245 [.d (jS a0)] [.b r]:=by
 obtain⟨ab,y,f⟩:=a0;unfold gVq at h;refine SpI Tryz.func245 fun A _=>?_;refine goL ?_;refine jL (gF (qD y)) ?_;refine jE ?_;refine goL ?_;obtain⟨b1,hb1,h⟩:=gP h;refine gEf ⟨[(1,.ptr 0 0),(3,.B (mF y)),(9,.I ab),(10,.B b1)],[bTy ab y f],Tryz.f245.ntmps⟩ ?_ ?_
 ·refine kX (fun c2=>?_) (fun c2=>?_)
  ·replace hb1:=kD c2 hb1;refine zA ?_;cases hb1;exact eJ
  ·replace hb1:=kE c2 hb1;refine goL ?_;cases hb1;exact eJ
 refine goC h ?_ ?_<;>intro c3 h
 ·refine goL ?_;obtain⟨b4,hb4,h⟩:=qB h;refine jT ⟨[(1,.ptr 0 0),(3,.B b4)],[bTy ab y f],Tryz.f245.ntmps⟩ ?_ ?_
  ·refine pX 14 (fun c5=>?_) (fun c5=>?_) (by first | rfl | (simp only [jG,gV];rfl))
   ·replace hb4:=kD c5 hb4;refine goL ?_;cases hb4;exact⟨rfl,⟨⟨rfl,rfl⟩,⟨by first | rfl | (simp only [jG,gV];rfl),rfl⟩,trivial⟩,⟨_,rfl⟩,rfl⟩
   ·replace hb4:=kE c5 hb4;refine goL ?_;cases hb4;exact⟨rfl,⟨⟨rfl,rfl⟩,⟨by first | rfl | (simp only [jG,gV];rfl),rfl⟩,trivial⟩,⟨_,rfl⟩,rfl⟩
  refine goL ?_;refine noB ?_;refine wN 0 2 (fun z8=>?_);refine gEe (fun(y7:Nat) (y6:Bool)=>⟨[(1,.ptr 0 0),(3,.B y6),(4,.N y7)],[bTy ab y f],Tryz.f245.ntmps⟩) (fun y7 y6=>gHc c (f.drop y7) y6=some r) (fun y7 y6=>f.length - y7) 0 b4 eJ h ?_;rintro y7 y6 h;refine goL ?_;refine kX (fun c9=>?_) (fun c9=>?_)
  ·have ah:=uR c9;obtain⟨bh,ay,al⟩:=drop_at ah;rw [al,gHc.eq_2] at h;obtain⟨bi,bj,bk⟩:=bh;refine noS ?_;refine jW (jE ?_);refine goL ?_;obtain⟨a3,hb11,h⟩:=gP h;refine jT ⟨[(1,.ptr 0 0),(4,.N y7),(3,.B a3)],[bTy ab y f],Tryz.f245.ntmps⟩ ?_ ?_
   ·refine gqA 57 hb11 (fun bx hb11=>?_);refine jL (jM y7 (zL ay)) ?_;refine gQp ?_;obtain⟨bz,a4,hb11⟩:=gP hb11;refine jL (gF (aa _ a4)) ?_;cases hb11;exact eJ
   refine goL ?_;refine jL (jR y7 (by omega)) ?_;exact⟨(y7+1),a3,h,by omega,eJ⟩
  ·have ah:=uS c9;rw [jF ah,gHc.eq_1] at h;refine goX ?_;refine jK ?_;cases h;exact qA
 ·refine goC h ?_ ?_<;>intro b0 h
  ·refine goL ?_;obtain⟨a5,hb15,h⟩:=qB h;refine jT ⟨[(1,.ptr 0 0),(3,.B a5)],[bTy ab y f],Tryz.f245.ntmps⟩ ?_ ?_
   ·refine pX 23 (fun am=>?_) (fun am=>?_) (by first | rfl | (simp only [jG,gV];rfl))
    ·replace hb15:=kD am hb15;refine goL ?_;cases hb15;exact⟨rfl,⟨⟨rfl,rfl⟩,⟨by first | rfl | (simp only [jG,gV];rfl),rfl⟩,trivial⟩,⟨_,rfl⟩,rfl⟩
    ·replace hb15:=kE am hb15;refine goL ?_;cases hb15;exact⟨rfl,⟨⟨rfl,rfl⟩,⟨by first | rfl | (simp only [jG,gV];rfl),rfl⟩,trivial⟩,⟨_,rfl⟩,rfl⟩
   refine goL ?_;refine noB ?_;refine wN 0 2 (fun b2=>?_);refine gEe (fun(ac:Nat) (ai:Bool)=>⟨[(1,.ptr 0 0),(3,.B ai),(4,.N ac)],[bTy ab y f],Tryz.f245.ntmps⟩) (fun ac ai=>gHd c (f.drop ac) ai=some r) (fun ac ai=>f.length - ac) 0 a5 eJ h ?_;rintro ac ai h;refine goL ?_;refine kX (fun an=>?_) (fun an=>?_)
   ·have ae:=uR an;obtain⟨bl,a6,ao⟩:=drop_at ae;rw [ao,gHd.eq_2] at h;obtain⟨bm,bn,bo⟩:=bl;refine noS ?_;refine jW (jE ?_);refine goL ?_;obtain⟨a7,hb22,h⟩:=gP h;refine jT ⟨[(1,.ptr 0 0),(4,.N ac),(3,.B a7)],[bTy ab y f],Tryz.f245.ntmps⟩ ?_ ?_
    ·refine gqA 57 hb22 (fun b3 hb22=>?_);refine jL (jM ac (zL a6)) ?_;refine gQp ?_;obtain⟨b5,a8,hb22⟩:=gP hb22;refine jL (gF (aa _ a8)) ?_;cases hb22;exact eJ
    refine goL ?_;refine jL (jR ac (by omega)) ?_;exact⟨(ac+1),a7,h,by omega,eJ⟩
   ·have ae:=uS an;rw [jF ae,gHd.eq_1] at h;refine goX ?_;refine jK ?_;cases h;exact qA
  ·refine goC h ?_ ?_<;>intro b6 h
   ·refine goL ?_;obtain⟨a9,hb26,h⟩:=qB h;refine jT ⟨[(1,.ptr 0 0),(3,.B a9)],[bTy ab y f],Tryz.f245.ntmps⟩ ?_ ?_
    ·refine pX 32 (fun ap=>?_) (fun ap=>?_) (by first | rfl | (simp only [jG,gV];rfl))
     ·replace hb26:=kD ap hb26;refine goL ?_;refine pX 38 (fun aq=>?_) (fun aq=>?_) (by first | rfl | (simp only [jG,gV];rfl))
      ·replace hb26:=kD aq hb26;refine goL ?_;cases hb26;exact⟨rfl,⟨⟨rfl,rfl⟩,⟨by first | rfl | (simp only [jG,gV];rfl),rfl⟩,trivial⟩,⟨_,rfl⟩,rfl⟩
      ·replace hb26:=kE aq hb26;refine goL ?_;refine gQp ?_;refine jL (gF (hBt y)) ?_;refine pX 42 (fun ar=>?_) (fun ar=>?_) (by first | rfl | (simp only [jG,gV];rfl))
       ·replace hb26:=kD ar hb26;refine goL ?_;cases hb26;exact⟨rfl,⟨⟨rfl,rfl⟩,⟨by first | rfl | (simp only [jG,gV];rfl),rfl⟩,trivial⟩,⟨_,rfl⟩,rfl⟩
       ·replace hb26:=kE ar hb26;refine goL ?_;cases hb26;exact⟨rfl,⟨⟨rfl,rfl⟩,⟨by first | rfl | (simp only [jG,gV];rfl),rfl⟩,trivial⟩,⟨_,rfl⟩,rfl⟩
     ·replace hb26:=kE ap hb26;refine goL ?_;refine gQp ?_;refine jL (gF (hBt y)) ?_;refine pX 42 (fun au=>?_) (fun au=>?_) (by first | rfl | (simp only [jG,gV];rfl))
      ·replace hb26:=kD au hb26;refine goL ?_;cases hb26;exact⟨rfl,⟨⟨rfl,rfl⟩,⟨by first | rfl | (simp only [jG,gV];rfl),rfl⟩,trivial⟩,⟨_,rfl⟩,rfl⟩
      ·replace hb26:=kE au hb26;refine goL ?_;cases hb26;exact⟨rfl,⟨⟨rfl,rfl⟩,⟨by first | rfl | (simp only [jG,gV];rfl),rfl⟩,trivial⟩,⟨_,rfl⟩,rfl⟩
    refine goL ?_;refine noB ?_;refine wN 0 2 (fun b7=>?_);refine gEe (fun(ad:Nat) (aj:Bool)=>⟨[(1,.ptr 0 0),(3,.B aj),(4,.N ad)],[bTy ab y f],Tryz.f245.ntmps⟩) (fun ad aj=>gHe c (f.drop ad) aj=some r) (fun ad aj=>f.length - ad) 0 a9 eJ h ?_;rintro ad aj h;refine goL ?_;refine kX (fun av=>?_) (fun av=>?_)
    ·have ag:=uR av;obtain⟨bp,ba,aw⟩:=drop_at ag;rw [aw,gHe.eq_2] at h;obtain⟨bq,br,bt⟩:=bp;refine noS ?_;refine jW (jE ?_);refine goL ?_;obtain⟨bb,hb36,h⟩:=gP h;refine jT ⟨[(1,.ptr 0 0),(4,.N ad),(3,.B bb)],[bTy ab y f],Tryz.f245.ntmps⟩ ?_ ?_
     ·refine gqA 57 hb36 (fun b8 hb36=>?_);refine jL (jM ad (zL ba)) ?_;refine gQp ?_;obtain⟨b9,bc,hb36⟩:=gP hb36;refine jL (gF (aa _ bc)) ?_;cases hb36;exact eJ
     refine goL ?_;refine jL (jR ad (by omega)) ?_;exact⟨(ad+1),bb,h,by omega,eJ⟩
    ·have ag:=uS av;rw [jF ag,gHe.eq_1] at h;refine goX ?_;refine jK ?_;cases h;exact qA
   ·exact goR h
def gVr:Nat→gB→Option (Bool)
 | 0,_=>none
 | n+1,c=>gVq (gVr n) c
theorem hMk:∀(n:Nat) (c:gB) {r:Bool},gVr n c=some r→jC Tryz.prog 245 [.d (jS c)] [.b r]:=by
 intro n
 induction n with
 | zero=>intro c r h;cases h
 | succ n ih=>intro c r h;exact hMi ih c h
def gRx(c:kJ):Option (Bool):=
bnd (gLb 5000 c (kJ.mk 0 [] [] 0 (gB.mk 0 [] []) [] [])) fun f=>
(some f)
theorem hGr(a0:kJ){r:Bool}(h:gRx a0=some r):jC Tryz.prog 230 [.d (gCx a0)] [.b r]:=by
 obtain⟨ac,ad,ae,ag,⟨c,f,y⟩,ah,ai⟩:=a0;unfold gRx at h;refine SpI Tryz.func230 fun A _=>?_;refine goL ?_;refine gAq (jU TBd.h TZ.h rfl (by repeat constructor)) ?_;obtain⟨x1,ab,h⟩:=gP h;refine qI (gF (gXb _ _ _ ab)) ?_;exact goR h
end Go.Proofs.YtegahmhnmjnhhaaGreat
