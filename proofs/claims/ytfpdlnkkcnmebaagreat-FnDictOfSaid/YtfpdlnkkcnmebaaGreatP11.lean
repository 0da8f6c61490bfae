import Derived.Test.YtfpdlnkkcnmebaaGreatB33
set_option maxHeartbeats 4000000
set_option linter.unusedVariables false
set_option linter.unusedSimpArgs false
set_option linter.unusedSectionVars false
namespace Go.Proofs.YtfpdlnkkcnmebaaGreat
open Go Go.Eng
attribute [local irreducible] V VO VQ VY Quiet QR jI mK Rng qE qA pX
def gLo(a0:LB):Option (gM × List gP × gH × gP):=
lt_ (gHg a0) fun x1=>
bnd (gKx a0) fun f=>
bnd (gGv f.1 f.2.1 f.2.2) fun x3=>
(cnd (x3.2 != 0) (
bnd (gI3 x1) fun x5=>
bnd (uS x5.2 8) fun x6=>
bnd ((cnd x6.1 (
bnd (pK x6.2 [[101,113],[111,114,100],[115,104,111,119]]) fun x9=>
(some (x9.2.b,x9.2.i,x9.2.h,x9.1))) (
(some (x6.2.b,x6.2.i,x6.2.h,f.2.2.trait))))) fun b7=>
(some (f.1,f.2.1,x5.1,(gP.mk b7.2.2.2 f.2.2.type_)))) (
bnd (uS x1 5) fun ac=>
(cnd ac.1 (
bnd (gI3 ac.2) fun ae=>
bnd (uS ae.2 8) fun q=>
bnd ((cnd q.1 (
bnd (pK q.2 [[101,113],[111,114,100],[115,104,111,119]]) fun aa=>
(some (aa.2.b,aa.2.i,aa.2.h,aa.1))) (
(some (q.2.b,q.2.i,q.2.h,f.2.2.trait))))) fun ah=>
(some (f.1,f.2.1,ae.1,(gP.mk ah.2.2.2 f.2.2.type_)))) (
bnd (uS ac.2 8) fun y=>
bnd ((cnd y.1 (
bnd (pK y.2 [[101,113],[111,114,100],[115,104,111,119]]) fun ab=>
(some (ab.2.b,ab.2.i,ab.2.h,ab.1))) (
(some (y.2.b,y.2.i,y.2.h,f.2.2.trait))))) fun ai=>
(some (f.1,f.2.1,x3.1,(gP.mk ai.2.2.2 f.2.2.type_)))))))
theorem hFq(a0:LB){r:gM × List gP × gH × gP}(h:gLo a0=some r):jI Tryz.prog 32 [.L 1 (gD6 a0)] [mD r.1,.sl 4 (kC r.2.1),mZ r.2.2.1,yF r.2.2.2]:=by
 unfold gLo at h;refine SpI Tryz.func32 fun A _=>?_;refine goL ?_;obtain⟨⟨a4,a5,a6⟩,ch,h⟩:=uK h;have sx1:=gW5 a0;rw [ch] at sx1;refine gBz [] (sx1) ?_;rintro _ _ ⟨rfl,rfl⟩;show VO _ _ _ _ ⟨(_,.ptr 3 0)::_,[.box [.nilsl],.box [.I 0,.I 0,.I 0,.I 0,.nilsl],.box [.S [],.I 0,.S [],.nilsl],bCu a4 a5 a6],_⟩ _;refine goL ?_;obtain⟨⟨⟨ab⟩,am,⟨cc,⟨f,y,aa⟩⟩⟩,ci,h⟩:=gJ h;refine jP (gI (hCt _ ci)) ?_;obtain⟨⟨⟨an,ao,⟨ae,ag⟩,ap⟩,ct⟩,cj,h⟩:=gJ h;refine jP (gI (gIi _ _ _ cj)) ?_;refine gqV 29 h ?_ ?_<;>intro c4 h
 ·refine hQk ?_;refine goL ?_;obtain⟨⟨⟨aq,ar,⟨ah,ai⟩,au⟩,⟨bn,bo,bp⟩⟩,ck,h⟩:=gJ h;refine mI 3 (gU2 (gK.mk a4 a5 a6) ck) ?_;refine goL ?_;obtain⟨⟨cu,⟨bq,br,bt⟩⟩,cl,h⟩:=gJ h;refine mI 3 (wB (gK.mk bn bo bp) 8 cl) ?_;refine goL ?_;obtain⟨⟨bu,bv,bw,a7⟩,hb7,h⟩:=gJ h;refine wY ⟨[(2,.ptr 0 0),(4,.ptr 1 0),(5,.ptr 2 0),(7,.ptr 4 0),(8,.L 4 (kC am)),(9,.ptr 5 0),(10,.ptr 6 0)],[.box [.nilsl],.box [.I 0,.I 0,.I 0,.I 0,.nilsl],.box [.S [],.I 0,.S [],.nilsl],bCu bu bv bw,bPr ab,bBd a7 f y aa,.box [.I aq,.I ar,.I ah,.I ai,.L 5 (jE au)]],Tryz.f32.ntmps⟩ ?_ ?_
  ·refine mR (fun c8=>?_) (fun c8=>?_)
   ·replace hb7:=kU c8 hb7;refine goL ?_;refine yQ (us:=gT [[101,113],[111,114,100],[115,104,111,119]]) ?_;refine kS 7 rfl rfl ?_;obtain⟨⟨cv,⟨cd,ce,cf⟩⟩,cn,hb7⟩:=gJ hb7;refine mI 3 (kZ (gK.mk bq br bt) [[101,113],[111,114,100],[115,104,111,119]] cn) ?_;refine goL ?_;cases hb7;exact eJ
   ·replace hb7:=kV c8 hb7;refine vN ?_;cases hb7;exact eJ
  refine gIb ?_;refine uC (P:=Tryz.prog) Mix.h (.q 1 (.h 0 (.h 2 (.h 3 (hcT 4 (.q 5 (hcT 6 (hzT 7)))) (hcT 4 (.q 5 (.h 3 (hcT 6 (hzT 7)) (hcT 6 (hcT 3 (hzT 7))))))) (.h 3 (.h 2 (hcT 4 (.q 5 (hcT 6 (hzT 7)))) (hcT 4 (.q 5 (hcT 2 (hcT 6 (hzT 7)))))) (hcT 4 (.q 5 (.h 2 (.h 3 (hcT 6 (hzT 7)) (hcT 6 (hcT 3 (hzT 7)))) (hcT 3 (hcT 2 (hcT 6 (hzT 7))))))))) (.h 2 (.h 0 (.h 3 (hcT 4 (.q 5 (hcT 6 (hzT 7)))) (hcT 4 (.q 5 (.h 3 (hcT 6 (hzT 7)) (hcT 6 (hcT 3 (hzT 7))))))) (hcT 3 (hcT 0 (hcT 4 (.q 5 (hcT 6 (hzT 7))))))) (hcT 3 (.h 0 (.h 2 (hcT 4 (.q 5 (hcT 6 (hzT 7)))) (hcT 4 (.q 5 (hcT 2 (hcT 6 (hzT 7)))))) (hcT 2 (hcT 0 (hcT 4 (.q 5 (hcT 6 (hzT 7))))))))))) ⟨[(2,.ptr 0 0),(3,.L 4 (kC am)),(4,.ptr 1 0),(5,.ptr 2 0)],[bPr ab,.box [.I aq,.I ar,.I ah,.I ai,.L 5 (jE au)],bBd a7 f y aa,bCu bu bv bw,bPr ab,bBd a7 f y aa,.box [.I aq,.I ar,.I ah,.I ai,.L 5 (jE au)]],Tryz.f32.ntmps⟩ (by kernel_rfl) ?_ ?_
  ·refine mU ?_;refine uD (kF gZ) ?_ ?_
   ·refine uD (kF gZ) ?_ ?_
    ·refine uD (kF gZ) ?_ ?_
     ·refine mU ?_;refine jL ?_;exact pQ 0 [0,1,2,3,4,5,6]
     refine mU ?_;refine uD (kF gZ) ?_ ?_
     ·refine mU ?_;refine jL ?_;exact pQ 0 [0,1,2,3,4,5,6]
     refine mU ?_;refine gQ (kF gZ) ?_;refine mU ?_;refine jL ?_;exact pQ 0 [0,1,2,3,4,5,6]
    refine uD (kF gZ) ?_ ?_
    ·refine uD (kF gZ) ?_ ?_
     ·refine mU ?_;refine jL ?_;exact pQ 0 [0,1,2,3,4,5,6]
     refine mU ?_;refine gQ (kF gZ) ?_;refine mU ?_;refine jL ?_;exact pQ 0 [0,1,2,3,4,5,6]
    refine mU ?_;refine uD (kF gZ) ?_ ?_
    ·refine uD (kF gZ) ?_ ?_
     ·refine mU ?_;refine jL ?_;exact pQ 0 [0,1,2,3,4,5,6]
     refine mU ?_;refine gQ (kF gZ) ?_;refine mU ?_;refine jL ?_;exact pQ 0 [0,1,2,3,4,5,6]
    refine gQ (kF gZ) ?_;refine gQ (kF gZ) ?_;refine mU ?_;refine jL ?_;exact pQ 0 [0,1,2,3,4,5,6]
   refine uD (kF gZ) ?_ ?_
   ·refine uD (kF gZ) ?_ ?_
    ·refine uD (kF gZ) ?_ ?_
     ·refine mU ?_;refine jL ?_;exact pQ 0 [0,1,2,3,4,5,6]
     refine mU ?_;refine uD (kF gZ) ?_ ?_
     ·refine mU ?_;refine jL ?_;exact pQ 0 [0,1,2,3,4,5,6]
     refine mU ?_;refine gQ (kF gZ) ?_;refine mU ?_;refine jL ?_;exact pQ 0 [0,1,2,3,4,5,6]
    refine gQ (kF gZ) ?_;refine gQ (kF gZ) ?_;refine mU ?_;refine jL ?_;exact pQ 0 [0,1,2,3,4,5,6]
   refine gQ (kF gZ) ?_;refine uD (kF gZ) ?_ ?_
   ·refine uD (kF gZ) ?_ ?_
    ·refine mU ?_;refine jL ?_;exact pQ 0 [0,1,2,3,4,5,6]
    refine mU ?_;refine gQ (kF gZ) ?_;refine mU ?_;refine jL ?_;exact pQ 0 [0,1,2,3,4,5,6]
   refine gQ (kF gZ) ?_;refine gQ (kF gZ) ?_;refine mU ?_;refine jL ?_;exact pQ 0 [0,1,2,3,4,5,6]
  exact goR h
 ·obtain⟨⟨co,⟨av,aw,ax⟩⟩,b0,h⟩:=gJ h;refine mI 3 (wB (gK.mk a4 a5 a6) 5 b0) ?_;refine goC h ?_ ?_<;>intro cw h
  ·refine goL ?_;obtain⟨⟨⟨aj,ak,⟨ac,ad⟩,al⟩,⟨a8,a9,ba⟩⟩,b1,h⟩:=gJ h;refine mI 3 (gU2 (gK.mk av aw ax) b1) ?_;refine goL ?_;obtain⟨⟨cp,⟨bb,bc,bd⟩⟩,b2,h⟩:=gJ h;refine mI 3 (wB (gK.mk a8 a9 ba) 8 b2) ?_;refine goL ?_;obtain⟨⟨be,bf,bg,ay⟩,hb14,h⟩:=gJ h;refine wY ⟨[(2,.ptr 0 0),(4,.ptr 1 0),(5,.ptr 2 0),(7,.ptr 4 0),(8,.L 4 (kC am)),(9,.ptr 5 0),(10,.ptr 6 0)],[.box [.nilsl],.box [.I 0,.I 0,.I 0,.I 0,.nilsl],.box [.S [],.I 0,.S [],.nilsl],bCu be bf bg,bPr ab,bBd ay f y aa,.box [.I aj,.I ak,.I ac,.I ad,.L 5 (jE al)]],Tryz.f32.ntmps⟩ ?_ ?_
   ·refine mR (fun bx=>?_) (fun bx=>?_)
    ·replace hb14:=kU bx hb14;refine goL ?_;refine yQ (us:=gT [[101,113],[111,114,100],[115,104,111,119]]) ?_;refine kS 7 rfl rfl ?_;obtain⟨⟨cq,⟨b3,b4,b5⟩⟩,b6,hb14⟩:=gJ hb14;refine mI 3 (kZ (gK.mk bb bc bd) [[101,113],[111,114,100],[115,104,111,119]] b6) ?_;refine goL ?_;cases hb14;exact eJ
    ·replace hb14:=kV bx hb14;refine vN ?_;cases hb14;exact eJ
   refine gIb ?_;refine uC (P:=Tryz.prog) Mix.h (.q 1 (.h 0 (.h 2 (.h 3 (hcT 4 (.q 5 (hcT 6 (hzT 7)))) (hcT 4 (.q 5 (.h 3 (hcT 6 (hzT 7)) (hcT 6 (hcT 3 (hzT 7))))))) (.h 3 (.h 2 (hcT 4 (.q 5 (hcT 6 (hzT 7)))) (hcT 4 (.q 5 (hcT 2 (hcT 6 (hzT 7)))))) (hcT 4 (.q 5 (.h 2 (.h 3 (hcT 6 (hzT 7)) (hcT 6 (hcT 3 (hzT 7)))) (hcT 3 (hcT 2 (hcT 6 (hzT 7))))))))) (.h 2 (.h 0 (.h 3 (hcT 4 (.q 5 (hcT 6 (hzT 7)))) (hcT 4 (.q 5 (.h 3 (hcT 6 (hzT 7)) (hcT 6 (hcT 3 (hzT 7))))))) (hcT 3 (hcT 0 (hcT 4 (.q 5 (hcT 6 (hzT 7))))))) (hcT 3 (.h 0 (.h 2 (hcT 4 (.q 5 (hcT 6 (hzT 7)))) (hcT 4 (.q 5 (hcT 2 (hcT 6 (hzT 7)))))) (hcT 2 (hcT 0 (hcT 4 (.q 5 (hcT 6 (hzT 7))))))))))) ⟨[(2,.ptr 0 0),(3,.L 4 (kC am)),(4,.ptr 1 0),(5,.ptr 2 0)],[bPr ab,.box [.I aj,.I ak,.I ac,.I ad,.L 5 (jE al)],bBd ay f y aa,bCu be bf bg,bPr ab,bBd ay f y aa,.box [.I aj,.I ak,.I ac,.I ad,.L 5 (jE al)]],Tryz.f32.ntmps⟩ (by kernel_rfl) ?_ ?_
   ·refine mU ?_;refine uD (kF gZ) ?_ ?_
    ·refine uD (kF gZ) ?_ ?_
     ·refine uD (kF gZ) ?_ ?_
      ·refine mU ?_;refine jL ?_;exact pQ 0 [0,1,2,3,4,5,6]
      refine mU ?_;refine uD (kF gZ) ?_ ?_
      ·refine mU ?_;refine jL ?_;exact pQ 0 [0,1,2,3,4,5,6]
      refine mU ?_;refine gQ (kF gZ) ?_;refine mU ?_;refine jL ?_;exact pQ 0 [0,1,2,3,4,5,6]
     refine uD (kF gZ) ?_ ?_
     ·refine uD (kF gZ) ?_ ?_
      ·refine mU ?_;refine jL ?_;exact pQ 0 [0,1,2,3,4,5,6]
      refine mU ?_;refine gQ (kF gZ) ?_;refine mU ?_;refine jL ?_;exact pQ 0 [0,1,2,3,4,5,6]
     refine mU ?_;refine uD (kF gZ) ?_ ?_
     ·refine uD (kF gZ) ?_ ?_
      ·refine mU ?_;refine jL ?_;exact pQ 0 [0,1,2,3,4,5,6]
      refine mU ?_;refine gQ (kF gZ) ?_;refine mU ?_;refine jL ?_;exact pQ 0 [0,1,2,3,4,5,6]
     refine gQ (kF gZ) ?_;refine gQ (kF gZ) ?_;refine mU ?_;refine jL ?_;exact pQ 0 [0,1,2,3,4,5,6]
    refine uD (kF gZ) ?_ ?_
    ·refine uD (kF gZ) ?_ ?_
     ·refine uD (kF gZ) ?_ ?_
      ·refine mU ?_;refine jL ?_;exact pQ 0 [0,1,2,3,4,5,6]
      refine mU ?_;refine uD (kF gZ) ?_ ?_
      ·refine mU ?_;refine jL ?_;exact pQ 0 [0,1,2,3,4,5,6]
      refine mU ?_;refine gQ (kF gZ) ?_;refine mU ?_;refine jL ?_;exact pQ 0 [0,1,2,3,4,5,6]
     refine gQ (kF gZ) ?_;refine gQ (kF gZ) ?_;refine mU ?_;refine jL ?_;exact pQ 0 [0,1,2,3,4,5,6]
    refine gQ (kF gZ) ?_;refine uD (kF gZ) ?_ ?_
    ·refine uD (kF gZ) ?_ ?_
     ·refine mU ?_;refine jL ?_;exact pQ 0 [0,1,2,3,4,5,6]
     refine mU ?_;refine gQ (kF gZ) ?_;refine mU ?_;refine jL ?_;exact pQ 0 [0,1,2,3,4,5,6]
    refine gQ (kF gZ) ?_;refine gQ (kF gZ) ?_;refine mU ?_;refine jL ?_;exact pQ 0 [0,1,2,3,4,5,6]
   exact goR h
  ·refine goS ?_;obtain⟨⟨cr,⟨bh,bi,bj⟩⟩,b7,h⟩:=gJ h;refine mI 3 (wB (gK.mk av aw ax) 8 b7) ?_;refine goL ?_;obtain⟨⟨bk,bl,bm,a3⟩,hb18,h⟩:=gJ h;refine wY ⟨[(2,.ptr 0 0),(4,.ptr 1 0),(5,.ptr 2 0),(7,.ptr 4 0),(8,.L 4 (kC am)),(9,.ptr 5 0),(10,.ptr 6 0)],[.box [.nilsl],.box [.I 0,.I 0,.I 0,.I 0,.nilsl],.box [.S [],.I 0,.S [],.nilsl],bCu bk bl bm,bPr ab,bBd a3 f y aa,.box [.I an,.I ao,.I ae,.I ag,.L 5 (jE ap)]],Tryz.f32.ntmps⟩ ?_ ?_
   ·refine mR (fun bz=>?_) (fun bz=>?_)
    ·replace hb18:=kU bz hb18;refine goL ?_;refine yQ (us:=gT [[101,113],[111,114,100],[115,104,111,119]]) ?_;refine kS 7 rfl rfl ?_;obtain⟨⟨cs,⟨b8,b9,ca⟩⟩,cb,hb18⟩:=gJ hb18;refine mI 3 (kZ (gK.mk bh bi bj) [[101,113],[111,114,100],[115,104,111,119]] cb) ?_;refine goL ?_;cases hb18;exact eJ
    ·replace hb18:=kV bz hb18;refine vN ?_;cases hb18;exact eJ
   refine gIb ?_;refine uC (P:=Tryz.prog) Mix.h (.q 1 (.h 0 (.h 2 (.h 3 (hcT 4 (.q 5 (hcT 6 (hzT 7)))) (hcT 4 (.q 5 (.h 3 (hcT 6 (hzT 7)) (hcT 6 (hcT 3 (hzT 7))))))) (.h 3 (.h 2 (hcT 4 (.q 5 (hcT 6 (hzT 7)))) (hcT 4 (.q 5 (hcT 2 (hcT 6 (hzT 7)))))) (hcT 4 (.q 5 (.h 2 (.h 3 (hcT 6 (hzT 7)) (hcT 6 (hcT 3 (hzT 7)))) (hcT 3 (hcT 2 (hcT 6 (hzT 7))))))))) (.h 2 (.h 0 (.h 3 (hcT 4 (.q 5 (hcT 6 (hzT 7)))) (hcT 4 (.q 5 (.h 3 (hcT 6 (hzT 7)) (hcT 6 (hcT 3 (hzT 7))))))) (hcT 3 (hcT 0 (hcT 4 (.q 5 (hcT 6 (hzT 7))))))) (hcT 3 (.h 0 (.h 2 (hcT 4 (.q 5 (hcT 6 (hzT 7)))) (hcT 4 (.q 5 (hcT 2 (hcT 6 (hzT 7)))))) (hcT 2 (hcT 0 (hcT 4 (.q 5 (hcT 6 (hzT 7))))))))))) ⟨[(2,.ptr 0 0),(3,.L 4 (kC am)),(4,.ptr 1 0),(5,.ptr 2 0)],[bPr ab,.box [.I an,.I ao,.I ae,.I ag,.L 5 (jE ap)],bBd a3 f y aa,bCu bk bl bm,bPr ab,bBd a3 f y aa,.box [.I an,.I ao,.I ae,.I ag,.L 5 (jE ap)]],Tryz.f32.ntmps⟩ (by kernel_rfl) ?_ ?_
   ·refine mU ?_;refine uD (kF gZ) ?_ ?_
    ·refine uD (kF gZ) ?_ ?_
     ·refine uD (kF gZ) ?_ ?_
      ·refine mU ?_;refine jL ?_;exact pQ 0 [0,1,2,3,4,5,6]
      refine mU ?_;refine uD (kF gZ) ?_ ?_
      ·refine mU ?_;refine jL ?_;exact pQ 0 [0,1,2,3,4,5,6]
      refine mU ?_;refine gQ (kF gZ) ?_;refine mU ?_;refine jL ?_;exact pQ 0 [0,1,2,3,4,5,6]
     refine uD (kF gZ) ?_ ?_
     ·refine uD (kF gZ) ?_ ?_
      ·refine mU ?_;refine jL ?_;exact pQ 0 [0,1,2,3,4,5,6]
      refine mU ?_;refine gQ (kF gZ) ?_;refine mU ?_;refine jL ?_;exact pQ 0 [0,1,2,3,4,5,6]
     refine mU ?_;refine uD (kF gZ) ?_ ?_
     ·refine uD (kF gZ) ?_ ?_
      ·refine mU ?_;refine jL ?_;exact pQ 0 [0,1,2,3,4,5,6]
      refine mU ?_;refine gQ (kF gZ) ?_;refine mU ?_;refine jL ?_;exact pQ 0 [0,1,2,3,4,5,6]
     refine gQ (kF gZ) ?_;refine gQ (kF gZ) ?_;refine mU ?_;refine jL ?_;exact pQ 0 [0,1,2,3,4,5,6]
    refine uD (kF gZ) ?_ ?_
    ·refine uD (kF gZ) ?_ ?_
     ·refine uD (kF gZ) ?_ ?_
      ·refine mU ?_;refine jL ?_;exact pQ 0 [0,1,2,3,4,5,6]
      refine mU ?_;refine uD (kF gZ) ?_ ?_
      ·refine mU ?_;refine jL ?_;exact pQ 0 [0,1,2,3,4,5,6]
      refine mU ?_;refine gQ (kF gZ) ?_;refine mU ?_;refine jL ?_;exact pQ 0 [0,1,2,3,4,5,6]
     refine gQ (kF gZ) ?_;refine gQ (kF gZ) ?_;refine mU ?_;refine jL ?_;exact pQ 0 [0,1,2,3,4,5,6]
    refine gQ (kF gZ) ?_;refine uD (kF gZ) ?_ ?_
    ·refine uD (kF gZ) ?_ ?_
     ·refine mU ?_;refine jL ?_;exact pQ 0 [0,1,2,3,4,5,6]
     refine mU ?_;refine gQ (kF gZ) ?_;refine mU ?_;refine jL ?_;exact pQ 0 [0,1,2,3,4,5,6]
    refine gQ (kF gZ) ?_;refine gQ (kF gZ) ?_;refine mU ?_;refine jL ?_;exact pQ 0 [0,1,2,3,4,5,6]
   exact goR h
def qP(q:gM × List gP × gH × gP):List gP→LB→Int→Int→(List gG)→Option (gM × List gG × gH)
 | [],y3,y4,y5,y=>(some (q.1,y,q.2.2.1))
 | ad::xs,y3,y4,y5,y=>bnd (gKw (gK.mk y3 y4 y5) q.1) fun f=>
gd (y.length+[f.1].length≤4294967296) (
qP q xs f.2.b f.2.i f.2.h (y++[f.1]))
def zO(q:LB):Option (gM × List gG × gH):=
lt_ (gHg q) fun f=>
bnd (gLo q) fun y=>
qP y y.2.1 f.b f.i f.h []
theorem gM1(a0:LB){r:gM × List gG × gH}(h:zO a0=some r):jI Tryz.prog 12 [.L 1 (gD6 a0)] [mD r.1,.sl 5 (jJ r.2.1),mZ r.2.2]:=by
 unfold zO at h;refine SpI Tryz.func12 fun A _=>?_;refine goL ?_;obtain⟨⟨av,aw,ax⟩,bf,h⟩:=uK h;have sx1:=gW5 a0;rw [bf] at sx1;refine gBz [] (sx1) ?_;rintro _ _ ⟨rfl,rfl⟩;show VO _ _ _ _ ⟨(_,.ptr 2 0)::_,[.box [.nilsl],.box [.I 0,.I 0,.I 0,.I 0,.nilsl],bCu av aw ax],_⟩ _;refine goL ?_;obtain⟨⟨⟨aa⟩,ap,⟨ae,ag,⟨f,y⟩,ah⟩,⟨ak,⟨ab,ac,ad⟩⟩⟩,bg,h⟩:=gJ h;refine jP (gI (hFq _ bg)) ?_;refine gAu ?_;refine goL ?_;refine noB ?_;refine gCw 7 (fun z9=>?_);refine hMl (fun(y8:Nat)(y3:LB)(y4:Int)(y5:Int)(y6:List gG)(v7:Nat)=>⟨[(2,.ptr 0 0),(4,.ptr 1 0),(5,.ptr 2 0),(6,.ptr 3 0),(7,.L 4 (kC ap)),(8,.ptr 4 0),(10,.sl 6 v7),(11,.N y8)],[.box [.nilsl],.box [.I 0,.I 0,.I 0,.I 0,.nilsl],bCu y3 y4 y5,bPr aa,.box [.I ae,.I ag,.I f,.I y,.L 5 (jE ah)],bBd ak ab ac ad,.arr 59 5 v7 (jJ y6)],Tryz.f12.ntmps⟩) (fun y8 y3 y4 y5 y6 v7=>qP ((gM.mk aa),ap,(gH.mk ae ag (gD.mk f y) ah),(gP.mk ak (gB.mk ab ac ad))) (ap.drop y8) y3 y4 y5 y6=some r) (fun y8 y3 y4 y5 y6 v7=>ap.length - y8) 0 av aw ax [] 0 eJ h ?_;rintro y8 y3 y4 y5 y6 v7 h;refine goL ?_;refine mR (fun a8=>?_) (fun a8=>?_)
 ·have ao:=vR a8;obtain⟨bh,bk,a9⟩:=drop_at ao;rw [a9,qP.eq_2] at h;obtain⟨bi,⟨ba,bb,bc⟩⟩:=bh;refine noS ?_;refine kI (jA ?_);refine goL ?_;obtain⟨⟨⟨al,⟨ai,aj⟩,am,an⟩,⟨aq,ar,au⟩⟩,bd,h⟩:=gJ h;refine mI 2 (hCr (gK.mk y3 y4 y5) (gM.mk aa) bd) ?_;refine uO (u:=(.st [.i .i64 al,.st [.i .i64 ai,.i .i64 aj],.sl 1 (vM am),.sl 5 (jJ an)])) ?_;obtain⟨bj,h⟩:=pU h;refine gAd bj ?_;refine goL ?_;refine jP (kD y8 (by first | omega | (dsimp only at *;omega))) ?_;exact⟨(y8+1),aq,ar,au,(y6++[(gG.mk al (gD.mk ai aj) am an)]),(v7+1),h,by omega,eJ⟩
 ·have ao:=vS a8;rw [jK ao,qP.eq_1] at h;refine noX ?_;refine uC (P:=Tryz.prog) Mix.h (.q 1 (.h 0 (.h 2 (hcT 3 (.q 4 (hzT 5))) (hcT 3 (.q 4 (hcT 2 (hzT 5))))) (hcT 2 (hcT 0 (hcT 3 (.q 4 (hzT 5))))))) ⟨[(2,.ptr 0 0),(3,.sl 6 v7),(4,.ptr 1 0)],[bPr aa,.box [.I ae,.I ag,.I f,.I y,.L 5 (jE ah)],bCu y3 y4 y5,bPr aa,.box [.I ae,.I ag,.I f,.I y,.L 5 (jE ah)],bBd ak ab ac ad,.arr 59 5 v7 (jJ y6)],Tryz.f12.ntmps⟩ (by kernel_rfl) ?_ ?_
  ·refine goT ?_;refine uD (kF gZ) ?_ ?_
   ·refine uD (kF gZ) ?_ ?_
    ·refine goT ?_;refine jL ?_;exact pQ 0 [0,1,2,3,4,5,6]
    refine goT ?_;refine gQ (kF gZ) ?_;refine goT ?_;refine jL ?_;exact pQ 0 [0,1,2,3,4,5,6]
   refine gQ (kF gZ) ?_;refine gQ (kF gZ) ?_;refine goT ?_;refine jL ?_;exact pQ 0 [0,1,2,3,4,5,6]
  refine goL ?_;refine gV 6 rfl rfl ?_;refine jF ?_;cases h;exact uM
theorem hNl(b:Bool)(rest:List jZ):vB ⟨pC b::rest⟩ gFj=some []:=by cases b<;>kernel_rfl
theorem hPw(b:Bool)(rest:List jZ):vB ⟨pC b::rest⟩ hLm=some []:=by cases b<;>kernel_rfl
theorem hPx(b:Bool)(rest:List jZ):vB ⟨pC b::rest⟩ hBt=some [eqN]:=by cases b<;>kernel_rfl
theorem hWb(b:Bool)(rest:List jZ):qW ⟨pC b::rest⟩ hBt eqN=some ([0],true):=by cases b<;>kernel_rfl
def WB(b:gP):Prop:=(b.trait=gFj∨b.trait=hBt∨b.trait=hLm)∧tok b.type_
theorem SF.snoc{l:List gX}(h:SF l){a:gX}(ha:a.steps.length≤6):SF (l++[a]):=fun b hb=>by
 rcases List.mem_append.1 hb with hb | hb
 ·exact h b hb
 ·obtain rfl:=List.mem_singleton.1 hb;exact ha
theorem hFr{w:gM}(hw:WD w):∀(l:List gP)(k:Nat)(acc:List gX),(∀b∈l,WB b)→acc.length+2*l.length≤1000→SF acc→∃r,vD w l k acc=some r∧SF r
 | [],k,acc,_,_,hS=>⟨acc,rfl,hS⟩
 | b::l,k,acc,h,hl,hS=>by
   obtain⟨f,h2⟩:=h b (by simp);simp only [List.length_cons] at hl;obtain⟨c,rest,hC⟩:=hw.core;rw [vD,qN h2];simp only [lt_,idT];rw [qN (by simp;omega)];have hS1:=hS.snoc (a:=⟨⟨b.trait,b.type_⟩,(k:Int),[]⟩) (by simp);have hnil:vB w b.trait=some []→∃r,(bnd (vB w b.trait) fun q=>vC w k b (fun y=>vD w l (k+1) y) q (acc++[⟨⟨b.trait,b.type_⟩,(k:Int),[]⟩]))=some r∧SF r:=fun e=>by
    rw [jV e,vC];exact hFr hw l (k+1) _ (fun x hx=>h x (by simp [hx])) (by simp;omega) hS1
   rcases f with f | f | f
   ·exact hnil (by rw [f,hC];exact hNl c rest)
   ·have e1:vB w b.trait=some [eqN]:=by rw [f,hC];exact hPx c rest
    have e2:qW w b.trait eqN=some ([0],true):=by rw [f,hC];exact hWb c rest
    rw [jV e1,vC,jV e2,qN h2];simp only [lt_,idT];rw [qN (by simp;omega),vC];exact hFr hw l (k+1) _ (fun x hx=>h x (by simp [hx])) (by simp;omega) (hS1.snoc (by simp))
   ·exact hnil (by rw [f,hC];exact hPw c rest)
section
variable {w:gM}(hw:WD w){all:List gD}(hS:SW w all)
include hw hS
theorem gV5{l:List gP}(hl:∀b∈l,WB b)(hn:l.length≤100){g:gP}(hg:GJ 0 g.type_):∃r,gGv w l g=some r∧EvA 22 r.1∧(l=[]→EZ w 12 r.1):=by
 obtain⟨f,q,y⟩:=hFr hw l 0 [] hl (by simp;omega) (fun a ha=>by simp at ha);obtain⟨r,r1,r2,r3⟩:=hCq hw hS y 12 0 5000 g (by omega) (by omega) hg;unfold gGv;rw [jV (show gDh w l=some f from q),show vK 5000 w f g 12=some r from r1];refine⟨_,rfl,r2,fun h=>r3 ?_⟩;subst h;cases q;rfl
end
theorem TK.gj{t:gB}(h:TK 17 t):GJ 0 t:=⟨h.1,h.2.1,by have:=h.2.2;simp only [Nat.pow_zero];omega,by have:=h.2.2;have:=gZs t;omega⟩
theorem hPy{c:gK}(hc:vX c):Dk (fun g=>GJ 0 g.type_) (gI5 c):=by
 have nn:∀{k:Int},(4:Int)≠k→k=4→(k=4→False):=fun h e=>absurd e.symm h;have hT:∀{s:LB},TK 2 ⟨2,s,[]⟩:=.nil fun h=>absurd h (by decide);unfold gI5;rw [gV6];refine dkB (tyK [[97],[98]] (by simp) 5000 3 (by omega) (by omega) _ hc) fun t c1 k1 ht=>dkB (gMq k1 (by omega) (by omega)) fun x c2 k2 _=>?_
 have fin:∀{f:Option (LB × Int × Int × Int × LB × List gB)}(q:gK)(u:gB),vX q→TK 17 u→f=some (q.b,q.i,q.h,u.kind,u.name,u.args)→
   Dk (fun g=>GJ 0 g.type_) (bnd f fun b3=>bnd (pK (gK.mk b3.1 b3.2.1 b3.2.2.1) [[115,104,111,119],[115,104,111,119],[101,113],[111,114,100],[97,100,100],[115,101,110,100],[122,122]]) fun ab=>some ((gP.mk ab.1 (gB.mk b3.2.2.2.1 b3.2.2.2.2.1 b3.2.2.2.2.2)),ab.2)):=fun q u k3 hu e=>by
  subst e;refine dkB (gP7 (c:=q) k3 (by simp) (by simp)) fun y c4 k4 _=>dkS k4 ?_;obtain⟨a,b,d⟩:=u;exact hu.gj
 cases h0:(x==0)with
 | true=>
   obtain⟨u,q,e,k3,hu⟩:=hA8 2 (by omega) k2;exact fin q u k3 (hu.more (by omega)) (by simp only [jQ];exact jV e)
 | false=>
   cases h1:(x==1)with
   | true=>exact fin c2 ⟨2,[116,97,103],[]⟩ k2 (hT.more (by omega)) (by simp only [jQ,gW];exact jV (gMr _ _ (by simp)))
   | false=>
     cases h2:(x==2)with
     | true=>
       obtain⟨s,q,e,k3,_⟩:=gP7 (l:=[[116,97,103],[105,110,116],[98,111,111,108]]) k2 (by simp) (by simp);exact fin q ⟨2,[108,105,115,116],[⟨2,s,[]⟩]⟩ k3 ((hT.one fun h=>absurd h (by decide)).more (by omega)) (by simp only [jQ,gW];rw [jV e,jV (gMr _ _ (by simp)),jV (gMr _ _ (by simp))])
     | false=>exact fin c2 t k2 (ht.more (by omega)) (by simp only [gW])
theorem gZq(f:Int × gK)(q:f.1≤5):∀(n k:Nat)(c:gK)(l:List gP),0 < n→f.1 < k+n→vX c→k≤90→l.length≤k→(∀b∈l,WB b)→Dk (fun l=>l.length≤100∧∀b∈l,WB b) (gDa f n c.b c.i c.h l (k:Int))
 | 0,k,c,l,h,_,_,_,_,_=>by omega
 | n+1,k,c,l,_,h,hc,hk,hl,hW=>by
   have hc:vX ⟨c.b,c.i,c.h⟩:=hc;rw [gDa];cases hd:decide ((k:Int) < f.1)with
   | false=>exact dkS hc ⟨by omega,hW⟩
   | true=>
     have hd:=of_decide_eq_true hd;have hw:IntKind.i64.wrap ((k:Int)+1)=((k+1:Nat):Int):=by rw [zV _ (by omega) (by omega)];omega
     rw [jQ];refine dkB (gP7 hc (by simp) (by simp)) fun s c1 y hs=>dkB (gP7 y (by simp) (by simp)) fun v c2 k2 _=>?_;simp only [lt_];refine dkG (by simp;omega) ?_;rw [hw];refine gZq f q n (k+1) c2 _ (by omega) (by omega) k2 (by omega) (by simp;omega) (fun b hb=>?_);rcases List.mem_append.1 hb with hb | hb
     ·exact hW b hb
     ·obtain rfl:=List.mem_singleton.1 hb;refine⟨?_,gOz _ _⟩;simp only [List.mem_cons,List.not_mem_nil,or_false] at hs;exact hs
theorem hPz{c:gK}(hc:vX c):Dk (fun l=>l.length≤100∧∀b∈l,WB b) (gSb c):=by
 unfold gSb gMj;exact dkB (gMq hc (by omega) (by omega)) fun x f h hx=>gZq (x,f) (by simp only;omega) 5000 0 f [] (by omega) (by simp only;omega) h (by omega) (by simp) (by simp)
theorem hP0{rec:gK→Int→Option (gH × gK)}(a1:Int)(q y f:Int × gK){d:Nat}(hr:∀c,vX c→Dk (EvA d) (rec c (IntKind.i64.wrap (a1 - 1))))(h4:f.1≤5):∀(n k:Nat)(c:gK)(l:List gH),0 < n→f.1 < k+n→vX c→k≤90→l.length≤k→(∀b∈l,EvA d b)→Dk (fun e=>EvA (d+1) e∧e.args.length≤90) (gD8 rec a1 q y f n c.b c.i c.h l (k:Int))
 | 0,k,c,l,h,_,_,_,_,_=>by omega
 | n+1,k,c,l,_,h,hc,hk,hl,hW=>by
   have hc:vX ⟨c.b,c.i,c.h⟩:=hc;rw [gD8];cases hd:decide ((k:Int) < f.1)with
   | false=>exact dkS hc ⟨⟨by show l.length≤100;omega,hW⟩,by show l.length≤90;omega⟩
   | true=>
     have hd:=of_decide_eq_true hd;have hw:IntKind.i64.wrap ((k:Int)+1)=((k+1:Nat):Int):=by rw [zV _ (by omega) (by omega)];omega
     rw [jQ];refine dkB (hr _ hc) fun e c1 k1 he=>dkG (by simp;omega) ?_;rw [hw];refine hP0 a1 q y f hr h4 n (k+1) c1 _ (by omega) (by omega) k1 (by omega) (by simp;omega) (fun b hb=>?_);rcases List.mem_append.1 hb with hb | hb
     ·exact hW b hb
     ·obtain rfl:=List.mem_singleton.1 hb;exact he
theorem hY3{rec:gK→Int→Option (gH × gK)}{d:Nat}(hr:0 < d→∀c,vX c→Dk (EvA d) (rec c (IntKind.i64.wrap ((d:Int) - 1)))){n0:Nat}(hn:4≤n0){c:gK}(hc:vX c):Dk (fun e=>EvA (d+1) e∧e.args.length≤90) (gMz rec c (d:Int) n0):=by
 have leaf:∀{k n:Int}{a:gD},EvA (d+1) ⟨k,n,a,[]⟩∧(⟨k,n,a,[]⟩:gH).args.length≤90:=⟨(gSu _ _ _).more (by omega),by simp⟩
 unfold gMz;refine dkB (gMq hc (by omega) (by omega)) fun x c1 q hx=>?_;obtain⟨f,e2,h2⟩:∃f,(cnd (decide ((d:Int)≤0)) (some 1) (some x))=some f∧(f≠1→0 < d):=by
  cases hd:decide ((d:Int)≤0)with
  | true=>exact⟨1,rfl,fun h=>absurd rfl h⟩
  | false=>exact⟨x,rfl,fun _=>by have:=of_decide_eq_false hd;omega⟩
 refine dkO e2 ?_;obtain⟨b4,e4,h4⟩:∃b4,(cnd (f==0) (some (f==0)) (some (f==4)):Option Bool)=some b4∧(b4=true→f≠1):=by
  cases h0:(f==0)with
  | true=>exact⟨true,rfl,fun _ h=>by rw [h] at h0;cases h0⟩
  | false=>exact⟨_,rfl,fun h h1=>by rw [h1] at h;cases h⟩
 refine dkO e4 (dkC (fun h=>?_) fun _=>dkC (fun h=>?_) fun _=>dkC (fun _=>dkS q leaf) fun _=>dkC (fun _=>dkS q leaf) fun _=>dkB (gMq q (by omega) (by omega)) fun y c2 k2 _=>dkS k2 leaf)
 ·have hr:=hr (h2 (h4 h));exact dkB (gMq q (by omega) (by omega)) fun y c2 k2 _=>dkB (gMq k2 (by omega) (by omega)) fun z c3 k3 _=>dkB (gMq k3 (by omega) (by omega)) fun v c4 k4 hv=>hP0 _ _ _ (v,c4) hr (by simp only;omega) n0 0 c4 [] (by omega) (by simp only;omega) k4 (by omega) (by simp) (by simp)
 ·have hr:=hr (h2 (by rintro rfl;cases h));exact dkB (gMq q (by omega) (by omega)) fun y c2 k2 _=>dkB (hr _ k2) fun e c3 k3 he=>dkS k3 ⟨⟨by simp,fun a ha=>by obtain rfl:=List.mem_singleton.1 ha;exact he⟩,by simp⟩
theorem evK:∀(n d:Nat),d+5≤n→d≤8→∀c,vX c→Dk (EvA (d+1)) (gLj n c (d:Int))
 | 0,d,h,_=>by omega
 | n+1,d,h,f=>fun c hc=>by
   rw [gLj.eq_2];refine dkM (hY3 (fun hd c hc=>?_) (by omega) hc) fun _ h=>h.1;obtain⟨d,rfl⟩:∃e,d=e+1:=⟨d - 1,by omega⟩
   rw [hNo d (by omega)];exact evK n d (by omega) (by omega) c hc
theorem hLa(a1:Int)(f q y:Int × gK):∀(n:Nat)(b:LB)(i h:Int)(l:List gH)(k:Int),gFe a1 f q y n b i h l k=gD8 (gLj 5000) a1 f q y n b i h l k
 | 0,_,_,_,_,_=>rfl
 | n+1,b,i,h,l,k=>by
   rw [gFe,gD8];simp only [hLa a1 f q y n]
theorem jAr{c:gK}(hc:vX c):Dk (fun e=>EvA 4 e∧e.args.length≤90) (gUj c 3):=by
 have e:gUj c 3=gMz (gLj 5000) c ((3:Nat):Int) 5000:=by
  unfold gUj gPz gMz;simp only [hLa];rfl
 rw [e];exact hY3 (fun _ c hc=>evK 5000 2 (by omega) (by omega) c hc) (by omega) hc
theorem hFs(q:gH × gK)(f:Int × gK):∀(m:Nat)(l:List gH),l.length+m≤100→(∀a∈l,EvA 3 a)→∃e,gB8 q f m l=some (e,f.2)∧EvA 4 e
 | 0,l,y,h=>⟨_,rfl,by show l.length≤100;omega,h⟩
 | m+1,l,y,h=>by
   rw [gB8,qN (by simp;omega)];refine hFs q f m _ (by simp;omega) (fun a ha=>?_);rcases List.mem_append.1 ha with ha | ha
   ·exact h a ha
   ·obtain rfl:=List.mem_singleton.1 ha;exact(gSu _ _ _).more (by omega)
theorem hA7(c:gK)(l:List Int)(h:vX c)(y:0 < l.length)(h1:l.length≤256):∃x c',gDu c l=some (x,c')∧vX c':=by
 obtain⟨x,c',e,f,e2,q⟩:=gOd c l.length h (by omega) (by omega);unfold gDu;have hx:at? l x=some (l[x.toNat]'(by omega)):=by unfold at?;rw [if_pos f];exact List.getElem?_eq_getElem _
 rw [jV e,jV hx];exact⟨_,_,rfl,q⟩
theorem hP4{c:gK}{l:List Int}(h:vX c)(f:0 < l.length)(q:l.length≤256):Dk (fun _=>True) (gDu c l):=by
 obtain⟨x,c',e,y⟩:=hA7 c l h f q;exact⟨x,c',e,y,trivial⟩
theorem hP5{c:gK}(hc:vX c):Dk (EvA 4) (gI3 c):=by
 unfold gI3;refine dkB (jAr hc) fun e c1 k1 he=>dkB (gMq k1 (by omega) (by omega)) fun x q f _=>?_;refine dkC (fun _=>dkB (gMq f (by omega) (by omega)) fun y c3 h _=>dkS h he.1) fun _=>dkC (fun _=>dkB (hP4 f (by simp) (by simp)) fun y c3 h _=>dkS h he.1) fun _=>dkC (fun _=>dkB (hP4 f (by simp) (by simp)) fun y c3 h _=>dkS h he.1) fun _=>dkC (fun _=>?_) fun _=>dkS f he.1;obtain⟨r,r1,r2⟩:=hFs (e,c1) (x,q) 4 e.args (by have:=he.2;omega) he.1.2;exact⟨r,q,r1,f,r2⟩
def DOK(d:gG):Prop:=W (jH d)≤4294967296∧Kd 50 d∧dd d≤100
section
variable {w:gM}(hw:WD w){all:List gD}(hS:SW w all)
include hw hS
theorem hWe{c:gK}(hc:vX c):Dk DOK (gKw c w):=by
 unfold gKw;refine dkB (gX1 hc (by omega) (by omega)) fun x c1 k1 _=>dkC (fun _=>?_) fun _=>?_
 ·refine dkB (gMq k1 (by omega) (by omega)) fun y c2 f _=>dkB (gMq f (by omega) (by omega)) fun z c3 k3 hz=>dkG ⟨hz.1,by simp;omega⟩ (dkS k3 ?_);have hW:∀k:Int,W (jH ⟨k,⟨0,0⟩,([0,1]:List Int).take (Int.toNat z),[]⟩)≤2:=fun k=>by
   rw [gLq]
   have:=List.length_take_le (Int.toNat z) ([0,1]:List Int)
   have h2:([0,1]:List Int).length=2:=rfl;simp only [jJ,Ws,List.length_nil]
   have:=List.length_take_le' (Int.toNat z) ([0,1]:List Int)
   omega
  exact⟨Nat.le_trans (hW _) (by omega),fun _=>Nat.le_trans (hW _) (by omega),by simp [dd,dds]⟩
 ·refine dkB (hPy k1) fun g c2 f hg=>?_;obtain⟨r,r1,r2,r3⟩:=gV5 hw hS (l:=[]) (by simp) (by simp) hg;obtain⟨q,q1,q2,q3⟩:=hJg hw hS (ds:=[]) (B:=0) (D:=12) (by omega) (by omega) (by simp) (by simp) 22 r.1 r2 (by omega);obtain⟨z,z1,z2⟩:=r3 rfl;have e1:=(q1 5000 (by omega)).2;have e2:=z1 5000 (by omega);obtain rfl:q=z:=Option.some.inj (e1.symm.trans e2);refine dkO r1 (dkO e1 (dkC (fun _=>dkS f ?_) fun _=>dkS f ?_))
  ·exact⟨by rw [gLq];simp [jJ,Ws],fun h=>(by cases h),by simp [dd,dds]⟩
  ·have:(4:Nat)^12=16777216:=by decide
   exact⟨by show W (jH q.1)≤_;omega,q2.more (by omega),by show dd q.1≤_;omega⟩
theorem hFt(f:gM × List gP × gH × gP)(hx:f.1=w):∀(l:List gP)(c:gK)(acc:List gG),vX c→acc.length+l.length≤100→(∀d∈acc,DOK d)→∃ds,qP f l c.b c.i c.h acc=some (w,ds,f.2.2.1)∧ds.length≤100∧∀d∈ds,DOK d
 | [],c,acc,_,hl,h=>⟨acc,by rw [qP,hx],by simpa using hl,h⟩
 | b::l,c,acc,hc,hl,h=>by
   simp only [List.length_cons] at hl;have hc:vX ⟨c.b,c.i,c.h⟩:=hc;obtain⟨d,q,e,y,hd⟩:=hWe hw hS hc;rw [qP,hx,jV e,qN (by simp;omega)];refine hFt f hx l q _ y (by simp;omega) (fun a ha=>?_);rcases List.mem_append.1 ha with ha | ha
   ·exact h a ha
   ·obtain rfl:=List.mem_singleton.1 ha;exact hd
end
theorem hFu(w:gM)(l:List gP)(e:gH)(t:gB)(s:LB){c:gK}(hc:vX c):∃g,(bnd (uS c 8) fun f=>bnd (cnd f.1 (bnd (pK f.2 [[101,113],[111,114,100],[115,104,111,119]]) fun q=>some (q.2.b,q.2.i,q.2.h,q.1)) (some (f.2.b,f.2.i,f.2.h,s))) fun b7=>some (w,l,e,gP.mk b7.2.2.2 t))=some (w,l,e,g):=by
 obtain⟨x,c1,e1,k1,_⟩:=gX1 (n:=8) hc (by omega) (by omega);rw [jV e1];cases x with
 | true=>
   obtain⟨y,c2,e2,k2,_⟩:=gP7 (l:=[[101,113],[111,114,100],[115,104,111,119]]) k1 (by simp) (by simp);simp only [jQ];rw [e2];exact⟨_,rfl⟩
 | false=>exact⟨_,rfl⟩
theorem hWg(code:LB)(hc:vX (gHg code)):∃w l e g,gLo code=some (w,l,e,g)∧WD w∧l.length≤100∧(∀b∈l,WB b)∧EvA 22 e:=by
 obtain⟨w,c1,y,k1,hw⟩:=hPu hc;obtain⟨l,c2,e2,k2,hl1,hl2⟩:=hPz k1;obtain⟨g,c3,e3,k3,hg⟩:=hPy k2;obtain⟨all,hS⟩:=hw.sw;have ea:gKx code=some (w,l,g):=by
  unfold gKx;simp only [lt_];rw [jV y,jV e2,jV e3]
 obtain⟨r,r1,r2,_⟩:=gV5 hw hS hl2 hl1 hg;unfold gLo;simp only [lt_];rw [jV ea,jV r1];cases (r.2 != 0)with
 | true=>
   obtain⟨v,c4,q,f,hv⟩:=hP5 hc;simp only [jQ];rw [jV q];obtain⟨g',h⟩:=hFu w l v g.type_ g.trait f;exact⟨w,l,v,g',h,hw,hl1,hl2,hv.more (by omega)⟩
 | false=>
   simp only [gW];obtain⟨x,c4,q,f,_⟩:=gX1 (n:=5) hc (by omega) (by omega);rw [jV q];cases x with
   | true=>
     obtain⟨v,c5,e5,k5,hv⟩:=hP5 f;simp only [jQ];rw [jV e5];obtain⟨g',h⟩:=hFu w l v g.type_ g.trait k5;exact⟨w,l,v,g',h,hw,hl1,hl2,hv.more (by omega)⟩
   | false=>
     simp only [gW];obtain⟨g',h⟩:=hFu w l r.1 g.type_ g.trait f;exact⟨w,l,r.1,g',h,hw,hl1,hl2,r2⟩
theorem hWi(code:LB)(hc:vX (gHg code)):∃w ds e,zO code=some (w,ds,e)∧WD w∧ds.length≤100∧(∀d∈ds,DOK d)∧EvA 22 e:=by
 obtain⟨w,l,e,g,f,hw,h,h2,q⟩:=hWg code hc;obtain⟨all,hS⟩:=hw.sw;obtain⟨ds,y,d2,d3⟩:=hFt hw hS (w,l,e,g) rfl l (gHg code) [] hc (by simpa using h) (by simp);refine⟨w,ds,e,?_,hw,d2,d3,q⟩;unfold zO;simp only [lt_];rw [jV f];exact y
end Go.Proofs.YtfpdlnkkcnmebaaGreat
