import Derived.Test.YtfpdlnkkcnmebaaGreatB5
set_option maxHeartbeats 4000000
set_option linter.unusedVariables false
set_option linter.unusedSimpArgs false
set_option linter.unusedSectionVars false
namespace Go.Proofs.YtfpdlnkkcnmebaaGreat
open Go Go.Eng
attribute [local irreducible] V VO VQ VY Quiet QR jF mJ Rng qI qJ qB
@[reducible] def kY:LB:=[40,112,97,99,107,97,103,101,32,97,112,112,32,40,99,111,114,101,41,32,40,100,97,116,97,32,116,97,103,32,40,41,32,40,116,97,103,32,105,110,116,41,32,40,110,111,110,101,41,41]
@[reducible] def gCd:LB:=[32,40,105,110,115,116,32,115,104,111,119,32,40,41,32,105,110,116,32,40,41,32,40,41,32,40,41,32,40,109,32,40,120,41,32,57,41,41]
@[reducible] def gCe:LB:=[32,40,105,110,115,116,32,115,104,111,119,32,40,41,32,116,97,103,32,40,41,32,40,41,32,40,41,32,40,109,32,40,120,41,32,40,99,97,115,101,32,120,32,40,110,111,110,101,32,48,41,32,40,116,97,103,32,110,32,110,41,41,41,41]
@[reducible] def gCf:LB:=List.append [32,40,105,110,115,116,32,115,104,111,119,32,40,41,32,40,108,105,115,116,32,116,97,103,41,32,40,41,32,40,41,32,40,41,32,40,109,32,40,120,41] [32,52,41,41,32,40,105,110,115,116,32,115,104,111,119,32,40,41,32,116,97,103,32,40,41,32,40,41,32,40,41,32,40,109,32,40,120,41,32,53,41,41]
@[reducible] def gCg:LB:=[32,40,105,110,115,116,32,111,114,100,32,40,41,32,116,97,103,32,40,41,32,40,41,32,40,41,32,40,108,101,115,115,32,40,120,32,121,41,32,116,114,117,101,41,41]
@[reducible] def gCh:LB:=List.append [32,40,105,110,115,116,32,101,113,32,40,41,32,116,97,103,32,40,41,32,40,41,32,40,41,32,40,115,97,109,101,32,40,120,32,121,41,32,116,114,117,101,41,41,32] [40,105,110,115,116,32,111,114,100,32,40,41,32,116,97,103,32,40,41,32,40,41,32,40,41,32,40,108,101,115,115,32,40,120,32,121,41,32,102,97,108,115,101,41,41]
@[reducible] def gCi:LB:=[32,40,105,110,115,116,32,115,104,111,119,32,40,97,41,32,39,97,32,40,40,101,113,32,39,97,41,41,32,40,41,32,40,41,32,40,109,32,40,120,41,32,49,41,41]
@[reducible] def gCj:LB:=[32,40,105,110,115,116,32,115,104,111,119,32,40,41,32,116,97,103,32,40,41,32,40,41,32,40,41,32,40,109,32,40,120,41,32,40,99,97,115,101,32,120,32,40,116,97,103,32,110,32,110,41,32,40,110,111,110,101,32,48,41,41,41,41]
@[reducible] def yQ:LB:=[32,40,102,110,32,109,97,105,110,32,40,41,32,40,41,32,40,41,32,105,110,116,32]
@[reducible] def gAq:LB:=List.append [40,109,101,116,104,111,100,32,115,104,111,119,32,109,32,40,110,101,119,32,99,111,110,115,32,49,32,40,110,101,119,32,99,111] [110,115,32,50,32,40,116,104,101,32,40,108,105,115,116,32,105,110,116,41,32,40,110,101,119,32,110,105,108,41,41,41,41,41]
@[reducible] def gAr:LB:=[40,99,97,108,108,32,98,111,116,104,32,40,110,101,119,32,112,97,105,114,32,51,32,116,114,117,101,41,41]
@[reducible] def gAs:LB:=[40,43,32,40,99,97,108,108,32,105,100,32,52,41,32,40,109,101,116,104,111,100,32,115,104,111,119,32,109,32,40,110,101,119,32,116,97,103,32,55,41,41,41]
@[reducible] def gAt:LB:=List.append [40,108,101,116,32,122,32,40,109,101,116,104,111,100,32,97,100,100,32,112,108,117,115,32,40,110,101,119,32,98,111,120,32,49] [41,32,40,110,101,119,32,98,111,120,32,50,41,41,32,40,99,97,115,101,32,122,32,40,98,111,120,32,110,32,110,41,41,41]
@[reducible] def gAu:LB:=[40,109,101,116,104,111,100,32,115,104,111,119,32,109,32,40,110,101,119,32,110,105,108,41,41]
@[reducible] def gAv:LB:=[40,109,101,116,104,111,100,32,115,104,111,119,32,109,32,40,112,97,99,107,32,115,104,111,119,32,51,41,41]
@[reducible] def gAw:LB:=[40,105,102,32,40,109,101,116,104,111,100,32,111,114,100,32,108,101,115,115,32,49,32,50,41,32,40,99,97,108,108,32,98,111,116,104,32,116,114,117,101,41,32,48,41]
@[reducible] def gAx:LB:=List.append [40,109,101,116,104,111,100,32,115,104,111,119,32,109,32,40,110,101,119,32,99,111,110,115,32,40,110,101,119,32,116,97] [103,32,49,41,32,40,116,104,101,32,40,108,105,115,116,32,116,97,103,41,32,40,110,101,119,32,110,105,108,41,41,41,41]
@[reducible] def gAy:LB:=[40,99,97,108,108,32,98,111,116,104,32,40,99,97,108,108,32,105,100,32,40,99,97,108,108,32,105,100,32,40,110,101,119,32,116,97,103,32,50,41,41,41,41]
@[reducible] def gG6:LB:=List.append [32,40,102,110,32,108,101,110,32,40,97,41,32,40,41,32,40,40,120,32,40,108,105,115,116,32,39,97,41,41,41,32,105,110,116,32,40,99,97,115,101] [32,120,32,40,110,105,108,32,48,41,32,40,99,111,110,115,32,104,32,116,32,40,43,32,49,32,40,99,97,108,108,32,108,101,110,32,116,41,41,41,41,41]
@[reducible] def gG7:LB:=List.append [32,40,102,110,32,115,117,109,32,40,97,41,32,40,40,97,100,100,32,39,97,41,41,32,40,40,120,32,39,97,41,32,40,121,32,39,97,41] [41,32,40,97,115,115,111,99,32,97,100,100,32,39,97,41,32,40,109,101,116,104,111,100,32,97,100,100,32,112,108,117,115,32,120,32,121,41,41]
@[reducible] def gG8:LB:=List.append [32,40,102,110,32,103,114,111,119,32,40,97,41,32,40,40,115,104,111,119,32,39,97,41,41,32,40,40,110,32,105,110,116,41,32,40,120,32,39,97,41,41,32,105,110,116,32,40,105,102,32,40,60,32,110,32] [49,41,32,40,109,101,116,104,111,100,32,115,104,111,119,32,109,32,120,41,32,40,99,97,108,108,32,103,114,111,119,32,40,45,32,110,32,49,41,32,40,110,101,119,32,112,97,105,114,32,120,32,120,41,41,41,41]
def gM3(c:gN):Option (LB × gN):=
bnd (mX c 8) fun h=>
bnd ((cnd (h.1==0) (
gd (kY.length+gCd.length≤4294967296) (
(some (kY++gCd)))) (
(cnd (h.1==1) (
gd (kY.length+gCe.length≤4294967296) (
(some (kY++gCe)))) (
(cnd (h.1==2) (
gd (kY.length+gCf.length≤4294967296) (
(some (kY++gCf)))) (
(cnd (h.1==3) (
gd (kY.length+gCg.length≤4294967296) (
(some (kY++gCg)))) (
(cnd (h.1==4) (
gd (kY.length+gCh.length≤4294967296) (
(some (kY++gCh)))) (
(cnd (h.1==5) (
gd (kY.length+gCi.length≤4294967296) (
(some (kY++gCi)))) (
gd (kY.length+gCj.length≤4294967296) (
(some (kY++gCj)))))))))))))))) fun b2=>
gd (b2.length+yQ.length≤4294967296) (
bnd (qE h.2 [[40,99,97,108,108,32,98,111,116,104,32,53,41],gAq,gAr,gAs,gAt,gAu,gAv,gAw,gAx,gAy]) fun f=>
gd ((b2++yQ).length+f.1.length≤4294967296) (
gd (((b2++yQ)++f.1).length+([41]:LB).length≤4294967296) (
bnd (vH f.2 2) fun ab=>
bnd ((cnd ab.1 (
gd ((((b2++yQ)++f.1)++([41]:LB)).length+gG6.length≤4294967296) (
(some ((((b2++yQ)++f.1)++([41]:LB))++gG6)))) (
(some (((b2++yQ)++f.1)++([41]:LB)))))) fun q=>
bnd (vH ab.2 3) fun ac=>
bnd ((cnd ac.1 (
gd (q.length+gG7.length≤4294967296) (
(some (q++gG7)))) (
(some q)))) fun y=>
bnd (vH ac.2 4) fun ad=>
bnd ((cnd ad.1 (
gd (y.length+gG8.length≤4294967296) (
(some (y++gG8)))) (
(some y)))) fun ae=>
gd (ae.length+([41]:LB).length≤4294967296) (
(some ((ae++([41]:LB)),ad.2))))))
set_option maxRecDepth 100000 in
theorem hGk(c:gN){r:LB × gN}(h:gM3 c=some r):Go.Eng.Spec Tryz.prog 142 [.ptr 0 0] [bCu c.b c.i c.h] (fun sv Lo=>sv=.S r.1∧Lo=[bCu r.2.b r.2.i r.2.h]):=by
 obtain⟨a0,a3,a4⟩:=c;unfold gM3 at h;refine kS 1 Tryz.func142 rfl (by kernel_rfl) rfl rfl fun A _=>?_;refine goL ?_;obtain⟨⟨br,⟨ad,ae,ag⟩⟩,a5,h⟩:=gJ h;refine mZ 0 (pU (gN.mk a0 a3 a4) 8 a5) ?_;refine goL ?_;obtain⟨b2,hb2,h⟩:=gJ h;refine gAn ⟨[(0,.ptr 0 0),(3,.S b2)],[bCu ad ae ag],Tryz.f142.ntmps⟩ ?_ ?_
 ·refine jE ?_;refine goL ?_;refine mQ (fun c3=>?_) (fun c3=>?_)
  ·replace hb2:=kT c3 hb2;refine goL ?_;obtain⟨g4,hb2⟩:=pO hb2;refine jK (yG g4) ?_;cases hb2;exact eJ
  ·replace hb2:=kU c3 hb2;refine goL ?_;refine mQ (fun c5=>?_) (fun c5=>?_)
   ·replace hb2:=kT c5 hb2;refine goL ?_;obtain⟨g6,hb2⟩:=pO hb2;refine jK (yG g6) ?_;cases hb2;exact eJ
   ·replace hb2:=kU c5 hb2;refine goL ?_;refine mQ (fun c7=>?_) (fun c7=>?_)
    ·replace hb2:=kT c7 hb2;refine goL ?_;obtain⟨g8,hb2⟩:=pO hb2;refine jK (yG g8) ?_;cases hb2;exact eJ
    ·replace hb2:=kU c7 hb2;refine goL ?_;refine mQ (fun c9=>?_) (fun c9=>?_)
     ·replace hb2:=kT c9 hb2;refine goL ?_;obtain⟨ba,hb2⟩:=pO hb2;refine jK (yG ba) ?_;cases hb2;exact eJ
     ·replace hb2:=kU c9 hb2;refine goL ?_;refine mQ (fun an=>?_) (fun an=>?_)
      ·replace hb2:=kT an hb2;refine goL ?_;obtain⟨bb,hb2⟩:=pO hb2;refine jK (yG bb) ?_;cases hb2;exact eJ
      ·replace hb2:=kU an hb2;refine goL ?_;refine mQ (fun ao=>?_) (fun ao=>?_)
       ·replace hb2:=kT ao hb2;refine goL ?_;obtain⟨bc,hb2⟩:=pO hb2;refine jK (yG bc) ?_;cases hb2;exact eJ
       ·replace hb2:=kU ao hb2;refine goL ?_;obtain⟨bd,hb2⟩:=pO hb2;refine jK (yG bd) ?_;cases hb2;exact eJ
 refine goL ?_;obtain⟨be,h⟩:=pO h;refine jK (yG be) ?_;refine gAg (us:=gP [[40,99,97,108,108,32,98,111,116,104,32,53,41],gAq,gAr,gAs,gAt,gAu,gAv,gAw,gAx,gAy]) ?_;refine mD 1 rfl rfl ?_;obtain⟨⟨bf,⟨ah,ai,aj⟩⟩,au,h⟩:=gJ h;refine mZ 0 (jZ (gN.mk ad ae ag) [[40,99,97,108,108,32,98,111,116,104,32,53,41],gAq,gAr,gAs,gAt,gAu,gAv,gAw,gAx,gAy] au) ?_;obtain⟨bg,h⟩:=pO h;refine qM (yG bg) ?_;obtain⟨bh,h⟩:=pO h;refine jK (yG bh) ?_;obtain⟨⟨bi,⟨f,q,y⟩⟩,av,h⟩:=gJ h;refine mZ 0 (zD (gN.mk ah ai aj) 2 av) ?_;refine goL ?_;obtain⟨bj,hb21,h⟩:=gJ h;refine gAn ⟨[(0,.ptr 0 0),(3,.S bj)],[bCu f q y,.frz 9 1 0 (gP [[40,99,97,108,108,32,98,111,116,104,32,53,41],gAq,gAr,gAs,gAt,gAu,gAv,gAw,gAx,gAy])],Tryz.f142.ntmps⟩ ?_ ?_
 ·refine mQ (fun ap=>?_) (fun ap=>?_)
  ·replace hb21:=kT ap hb21;refine goL ?_;obtain⟨bk,hb21⟩:=pO hb21;refine jK (yG bk) ?_;cases hb21;exact eJ
  ·replace hb21:=kU ap hb21;refine yE ?_;cases hb21;exact eJ
 refine goL ?_;obtain⟨⟨bl,⟨aa,ab,ac⟩⟩,aw,h⟩:=gJ h;refine mZ 0 (zD (gN.mk f q y) 3 aw) ?_;refine goL ?_;obtain⟨bm,hb25,h⟩:=gJ h;refine gAn ⟨[(0,.ptr 0 0),(3,.S bm)],[bCu aa ab ac,.frz 9 1 0 (gP [[40,99,97,108,108,32,98,111,116,104,32,53,41],gAq,gAr,gAs,gAt,gAu,gAv,gAw,gAx,gAy])],Tryz.f142.ntmps⟩ ?_ ?_
 ·refine mQ (fun aq=>?_) (fun aq=>?_)
  ·replace hb25:=kT aq hb25;refine goL ?_;obtain⟨bn,hb25⟩:=pO hb25;refine jK (yG bn) ?_;cases hb25;exact eJ
  ·replace hb25:=kU aq hb25;refine yE ?_;cases hb25;exact eJ
 refine goL ?_;obtain⟨⟨bo,⟨ak,al,am⟩⟩,ax,h⟩:=gJ h;refine mZ 0 (zD (gN.mk aa ab ac) 4 ax) ?_;refine goL ?_;obtain⟨ay,hb29,h⟩:=gJ h;refine gAn ⟨[(3,.S ay)],[bCu ak al am,.frz 9 1 0 (gP [[40,99,97,108,108,32,98,111,116,104,32,53,41],gAq,gAr,gAs,gAt,gAu,gAv,gAw,gAx,gAy])],Tryz.f142.ntmps⟩ ?_ ?_
 ·refine mQ (fun ar=>?_) (fun ar=>?_)
  ·replace hb29:=kT ar hb29;refine goL ?_;obtain⟨bp,hb29⟩:=pO hb29;refine jK (yG bp) ?_;cases hb29;exact eJ
  ·replace hb29:=kU ar hb29;refine yE ?_;cases hb29;exact eJ
 refine goL ?_;obtain⟨bq,h⟩:=pO h;refine jK (yG bq) ?_;refine jG ?_;obtain rfl:=Option.some.inj h;exact gBa [.d (.s (ay++([41]:LB)))] _ ⟨rfl,rfl⟩
def gE3  :Option (gB):=
bnd (gCq [105,110,116] []) fun c=>
(some c)
theorem gEi  {r:gB}(h:gE3  =some r):jF Tryz.prog 143 [] [kZ r]:=by
 unfold gE3 at h;refine SpI Tryz.func143 fun A _=>?_;refine goL ?_;obtain⟨⟨f,q,y⟩,c,h⟩:=gJ h;refine qM (gG (gF0 _ _ c)) ?_;exact goR h
def kA(s:LB):gD:=⟨s,[]⟩
def kL(l:List gD):gD:=⟨[],l⟩
def ka0:gD:=kA [112,97,99,107,97,103,101]
def ka1:gD:=kA [99,111,114,101]
def ka2:gD:=kA [116,114,97,105,116]
def ka3:gD:=kA [115,104,111,119]
def ka4:gD:=kA [109]
def ka5:gD:=kA [105,110,116]
def ka6:gD:=kA [116,119,111]
def ka7:gD:=kA [39,115,101,108,102]
def ka8:gD:=kA [120]
def ka9:gD:=kA [121]
def hKm:gD:=kA [43]
def gTz:gD:=kA [109,101,116,104,111,100]
def hHx:gD:=kA [101,113]
def hM3:gD:=kA [115,97,109,101]
def hSq:gD:=kA [98,111,111,108]
def hM4:gD:=kA [111,114,100]
def hM5:gD:=kA [108,101,115,115]
def hDk:gD:=kA [97,100,100]
def hOy:gD:=kA [97,115,115,111,99]
def hKp:gD:=kA [112,108,117,115]
def hW9:gD:=kA [115,101,110,100]
def hXa:gD:=kA [97,117,116,111]
def hM6:gD:=kA [100,97,116,97]
def hGl:gD:=kA [108,105,115,116]
def gYo:gD:=kA [97]
def hJ1:gD:=kA [110,105,108]
def hJ4:gD:=kA [99,111,110,115]
def gNz:gD:=kA [39,97]
def hKq:gD:=kA [112,97,105,114]
def hVb:gD:=kA [98]
def hSs:gD:=kA [39,98]
def gZp:gD:=kA [98,111,120]
def hVc:gD:=kA [117,110,105,116]
def gSd:gD:=kA [105,110,115,116]
def hSu:gD:=kA [105,102]
def hGm:gD:=kA [49]
def hJ5:gD:=kA [48]
def hDm:gD:=kA [99,97,115,101]
def hM7:gD:=kA [104]
def hKu:gD:=kA [116]
def hXb:gD:=kA [100,101,102,97,117,108,116]
def hVd:gD:=kA [55]
def hOz:gD:=kA [122]
def hVe:gD:=kA [45]
def hXc:gD:=kA [61]
def hVf:gD:=kA [60]
def hO0:gD:=kA [112]
def hO1:gD:=kA [113]
def gYp:gD:=kA [110,101,119]
def hKv:gD:=kA [102,110]
def hO5:gD:=kA [105,100]
def hM8:gD:=kA [98,111,116,104]
def hXd:gD:=kA [97,112,112]
def gW5:gD:=kA [116,97,103]
def hSv:gD:=kA [110,111,110,101]
def hXe:gD:=kA [57]
def hGo:gD:=kA [110]
def hVg:gD:=kA [52]
def hVh:gD:=kA [53]
def hO6:gD:=kA [116,114,117,101]
def hXf:gD:=kA [102,97,108,115,101]
def hXg:gD:=kA [109,97,105,110]
def hGp:gD:=kA [99,97,108,108]
def hO7:gD:=kA [50]
def hVi:gD:=kA [116,104,101]
def hVk:gD:=kA [51]
def hXh:gD:=kA [108,101,116]
def hXi:gD:=kA [112,97,99,107]
def hVl:gD:=kA [108,101,110]
def hXj:gD:=kA [115,117,109]
def hVm:gD:=kA [103,114,111,119]
def gVt:List gD:=[ka0,ka1,kL []]
def hDo:List gD:=[kL [ka2,ka3,kL [],kL [],kL [ka4,kL [],ka5],kL [ka6,kL [ka7],ka5,kL [ka8,ka9],kL [hKm,kL [gTz,ka3,ka4,ka8],kL [gTz,ka3,ka4,ka9]]]],kL [ka2,hHx,kL [],kL [],kL [hM3,kL [ka7],hSq]],kL [ka2,hM4,kL [hHx],kL [],kL [hM5,kL [ka7],hSq]],kL [ka2,hDk,kL [],kL [hOy],kL [hKp,kL [ka7],kL [hOy,hDk,ka7]]],kL [ka2,hW9,kL [],kL [hXa]],kL [hM6,hGl,kL [gYo],kL [hJ1],kL [hJ4,gNz,kL [hGl,gNz]]],kL [hM6,hKq,kL [gYo,hVb],kL [hKq,gNz,hSs]],kL [hM6,gZp,kL [gYo],kL [gZp,gNz]],kL [hM6,hVc,kL [],kL [hVc]],kL [gSd,ka3,kL [],ka5,kL [],kL [],kL [],kL [ka4,kL [ka8],ka8]],kL [gSd,ka3,kL [],hSq,kL [],kL [],kL [],kL [ka4,kL [ka8],kL [hSu,ka8,hGm,hJ5]]]]
def gYq:Bool→List gD
 | true=>[kL [gSd,ka3,kL [gYo],kL [hGl,gNz],kL [kL [ka3,gNz]],kL [],kL [],kL [ka4,kL [ka8],kL [hDm,ka8,kL [hJ1,hJ5],kL [hJ4,hM7,hKu,kL [hKm,kL [gTz,ka3,ka4,hM7],kL [gTz,ka3,ka4,hKu]]]]]]]
 | false=>[kL [gSd,ka3,kL [gYo],kL [hGl,gNz],kL [],kL [hXb],kL [],kL [ka4,kL [ka8],hVd]],kL [gSd,ka3,kL [],kL [hGl,ka5],kL [],kL [],kL [],kL [ka4,kL [ka8],kL [hDm,ka8,kL [hJ1,hJ5],kL [hJ4,hM7,hKu,kL [hKm,hM7,kL [gTz,ka3,ka4,hKu]]]]]]]
def hDp:List gD:=[kL [gSd,ka3,kL [gYo,hVb],kL [hKq,gNz,hSs],kL [kL [ka3,gNz],kL [ka3,hSs]],kL [],kL [],kL [ka4,kL [ka8],kL [hDm,ka8,kL [hKq,ka9,hOz,kL [hVe,kL [gTz,ka3,ka4,ka9],kL [gTz,ka3,ka4,hOz]]]]]],kL [gSd,hHx,kL [],ka5,kL [],kL [],kL [],kL [hM3,kL [ka8,ka9],kL [hXc,ka8,ka9]]],kL [gSd,hM4,kL [],ka5,kL [],kL [],kL [],kL [hM5,kL [ka8,ka9],kL [hVf,ka8,ka9]]],kL [gSd,hHx,kL [gYo],kL [gZp,gNz],kL [kL [hHx,gNz]],kL [],kL [],kL [hM3,kL [ka8,ka9],kL [hDm,ka8,kL [gZp,hO0,kL [hDm,ka9,kL [gZp,hO1,kL [gTz,hHx,hM3,hO0,hO1]]]]]]],kL [gSd,hDk,kL [],ka5,kL [],kL [],kL [ka5],kL [hKp,kL [ka8,ka9],kL [hKm,ka8,ka9]]],kL [gSd,hDk,kL [gYo],kL [gZp,gNz],kL [kL [hDk,gNz]],kL [],kL [kL [gZp,kL [hOy,hDk,gNz]]],kL [hKp,kL [ka8,ka9],kL [hDm,ka8,kL [gZp,hO0,kL [hDm,ka9,kL [gZp,hO1,kL [gYp,gZp,kL [gTz,hDk,hKp,hO0,hO1]]]]]]]],kL [hKv,hO5,kL [gYo],kL [],kL [kL [ka8,gNz]],gNz,ka8],kL [hKv,hM8,kL [gYo],kL [kL [ka3,gNz]],kL [kL [ka8,gNz]],ka5,kL [gTz,ka3,ka6,ka8,ka8]]]
def gVu:List gD:=[ka0,hXd,kL [ka1]]
def hJ6:List gD:=[kL [hM6,gW5,kL [],kL [gW5,ka5],kL [hSv]]]
def hDq:List (List gD):=[[kL [gSd,ka3,kL [],ka5,kL [],kL [],kL [],kL [ka4,kL [ka8],hXe]]],
 [kL [gSd,ka3,kL [],gW5,kL [],kL [],kL [],kL [ka4,kL [ka8],kL [hDm,ka8,kL [hSv,hJ5],kL [gW5,hGo,hGo]]]]],
 [kL [gSd,ka3,kL [],kL [hGl,gW5],kL [],kL [],kL [],kL [ka4,kL [ka8],hVg]],kL [gSd,ka3,kL [],gW5,kL [],kL [],kL [],kL [ka4,kL [ka8],hVh]]],
 [kL [gSd,hM4,kL [],gW5,kL [],kL [],kL [],kL [hM5,kL [ka8,ka9],hO6]]],
 [kL [gSd,hHx,kL [],gW5,kL [],kL [],kL [],kL [hM3,kL [ka8,ka9],hO6]],kL [gSd,hM4,kL [],gW5,kL [],kL [],kL [],kL [hM5,kL [ka8,ka9],hXf]]],
 [kL [gSd,ka3,kL [gYo],gNz,kL [kL [hHx,gNz]],kL [],kL [],kL [ka4,kL [ka8],hGm]]],
 [kL [gSd,ka3,kL [],gW5,kL [],kL [],kL [],kL [ka4,kL [ka8],kL [hDm,ka8,kL [gW5,hGo,hGo],kL [hSv,hJ5]]]]]]
def gVv(m:gD):gD:=kL [hKv,hXg,kL [],kL [],kL [],ka5,m]
def hDr:List gD:=[kL [hGp,hM8,hVh],kL [gTz,ka3,ka4,kL [gYp,hJ4,hGm,kL [gYp,hJ4,hO7,kL [hVi,kL [hGl,ka5],kL [gYp,hJ1]]]]],kL [hGp,hM8,kL [gYp,hKq,hVk,hO6]],kL [hKm,kL [hGp,hO5,hVg],kL [gTz,ka3,ka4,kL [gYp,gW5,hVd]]],kL [hXh,hOz,kL [gTz,hDk,hKp,kL [gYp,gZp,hGm],kL [gYp,gZp,hO7]],kL [hDm,hOz,kL [gZp,hGo,hGo]]],kL [gTz,ka3,ka4,kL [gYp,hJ1]],kL [gTz,ka3,ka4,kL [hXi,ka3,hVk]],kL [hSu,kL [gTz,hM4,hM5,hGm,hO7],kL [hGp,hM8,hO6],hJ5],kL [gTz,ka3,ka4,kL [gYp,hJ4,kL [gYp,gW5,hGm],kL [hVi,kL [hGl,gW5],kL [gYp,hJ1]]]],kL [hGp,hM8,kL [hGp,hO5,kL [hGp,hO5,kL [gYp,gW5,hO7]]]]]
def hJ7:List gD:=[kL [hKv,hVl,kL [gYo],kL [],kL [kL [ka8,kL [hGl,gNz]]],ka5,kL [hDm,ka8,kL [hJ1,hJ5],kL [hJ4,hM7,hKu,kL [hKm,hGm,kL [hGp,hVl,hKu]]]]]]
def hJ8:List gD:=[kL [hKv,hXj,kL [gYo],kL [kL [hDk,gNz]],kL [kL [ka8,gNz],kL [ka9,gNz]],kL [hOy,hDk,gNz],kL [gTz,hDk,hKp,ka8,ka9]]]
def hJ9:List gD:=[kL [hKv,hVm,kL [gYo],kL [kL [ka3,gNz]],kL [kL [hGo,ka5],kL [ka8,gNz]],ka5,kL [hSu,kL [hVf,hGo,hGm],kL [gTz,ka3,ka4,ka8],kL [hGp,hVm,kL [hVe,hGo,hGm],kL [gYp,hKq,ka8,ka8]]]]]
def gT0(b:Bool):gD:=kL (gVt++(hDo++(gYq b++hDp)))
def hKd(h:List gD)(m:gD)(c f q:List gD):gD:=kL (gVu++(hJ6++(h++(gVv m::(c++(f++q))))))
theorem gHv:∀(a b:List gD),gDe (a++b)=gDe a++gDe b
 | [],b=>by simp [gDe]
 | x::a,b=>by simp only [List.cons_append,gDe,gHv a b,List.append_assoc]
theorem gYr:∀{a:List gD}(b:List gD),a≠[]→gSc (a++b)=gSc a++gDe b
 | [],b,h=>absurd rfl h
 | x::a,b,_=>by simp only [List.cons_append,gSc,gHv a b,List.append_assoc]
theorem hSx:wK++wL++yV++zQ=40::(gSc gVt++gDe hDo):=by kernel_rfl
theorem hSy:gC5=gDe (gYq true):=by kernel_rfl
theorem hS3:gC6=gDe (gYq false):=by kernel_rfl
theorem hS4:uW++vM++wM++wE++yA++zH=gDe hDp:=by kernel_rfl
theorem hS6:kY=40::(gSc gVu++gDe hJ6):=by kernel_rfl
theorem hS7:[gCd,gCe,gCf,gCg,gCh,gCi,gCj]=hDq.map gDe:=by kernel_rfl
theorem hS8:[[40,99,97,108,108,32,98,111,116,104,32,53,41],gAq,gAr,gAs,gAt,gAu,gAv,gAw,gAx,gAy]=hDr.map fmt:=by kernel_rfl
theorem hS9(m:gD):yQ++fmt m++[41]=gDe [gVv m]:=by
 have h:yQ=32::40::(gSc (gVv (kL [])).list.dropLast++[32]):=by kernel_rfl
 rw [h];simp only [gVv,gDe,kL,fmt,gSc,List.dropLast,List.append_nil,List.nil_append,List.cons_append,List.append_assoc]
theorem hTa:gG6=gDe hJ7:=by kernel_rfl
theorem hTb:gG7=gDe hJ8:=by kernel_rfl
theorem hTc:gG8=gDe hJ9:=by kernel_rfl
end Go.Proofs.YtfpdlnkkcnmebaaGreat
