import Derived.Test.YtfjncckelekpiaaGreatB30
set_option maxHeartbeats 4000000
set_option linter.unusedVariables false
set_option linter.unusedSimpArgs false
set_option linter.unusedSectionVars false
namespace Go.Proofs.YtfjncckelekpiaaGreat
open Go Go.Eng
attribute [local irreducible] V VO VQ VY Quiet QR gW pJ Rng vF uW uI
def hDq(ag:kH→(List jT)→gB→gY→Int→Option (gB × jN × gF))(ad:kH→(List jT)→gB→gY→Option (gB × jN × gF))(y:kH→(List jT)→gB→gY→Int→Option (gB × jN × gF))(ae:kH→(List jT)→gB→gY→Int→Option (gB × jN × gF))(aa:kH→(List jT)→gB→gY→Int→Option (gB × jN × gF))(q:kH→(List jT)→gB→(List gY)→(List gF)→Int→Option (gB × List jN))(ab:kH→(List jT)→gB→gY→Int→Option (gB × jN × gF))(ac:kH→(List jT)→gB→gY→Int→Option (gB × jN × gF))(f:kH→(List jT)→gB→gY→Option (gB × jN × gF))(a0:kH)(a1:List jT)(a2:gB)(a3:gY)(a4:Int):Option (gB × jN × gF):=
gd (0≤(1:Int)∧(1:Int)≤(a3.args.length:Int)) (
bnd (gR6 ) fun x2=>
bnd (q a0 a1 a2 (a3.args.take (Int.toNat 1)) [x2] a4) fun x3=>
(cnd (x3.1.code != 0) (some (x3.1,(jN.mk 0 [] [] 0 (gF.mk 0 [] []) [] [] [] []),(gF.mk 0 [] []))) (
bnd (at? a3.args 1) fun x5=>
bnd (f a0 a1 x3.1 x5) fun x6=>
(cnd (x6.1.code != 0) (some (x6.1,(jN.mk 0 [] [] 0 (gF.mk 0 [] []) [] [] [] []),(gF.mk 0 [] []))) (
bnd (at? a3.args 2) fun x8=>
bnd (f a0 a1 x6.1 x8) fun x9=>
(cnd (x9.1.code != 0) (some (x9.1,(jN.mk 0 [] [] 0 (gF.mk 0 [] []) [] [] [] []),(gF.mk 0 [] []))) (
bnd (gI6 a0 x9.1 a4 x6.2.2 x9.2.2) fun am=>
gd (x3.2.length+[x6.2.1,x9.2.1].length≤4294967296) (some (am,(jN.mk 9 [] [] 0 (gF.mk 0 [] []) [] [] (x3.2++[x6.2.1,x9.2.1]) []),x6.2.2)))))))))
def gMd(f:kH→(List jT)→gB→gY→Int→Option (gB × jN × gF)):Prop:=∀(q:kH)(y:List jT)(x2:gB)(x3:gY)(x4:Int){r:gB × jN × gF},f q y x2 x3 x4=some r→gW Tryz.prog 234 [.d (gF5 q),.L 4 (mK y),.d (jR x2),.d (vX x3),.I x4] [jR r.1,gBo r.2.1,kT r.2.2]
def gIk(f:kH→(List jT)→gB→gY→Option (gB × jN × gF)):Prop:=∀(q:kH)(y:List jT)(x2:gB)(x3:gY){r:gB × jN × gF},f q y x2 x3=some r→gW Tryz.prog 233 [.d (gF5 q),.L 4 (mK y),.d (jR x2),.d (vX x3)] [jR r.1,gBo r.2.1,kT r.2.2]
def gE0(f:kH→(List jT)→gB→gY→Int→Option (gB × jN × gF)):Prop:=∀(q:kH)(y:List jT)(x2:gB)(x3:gY)(x4:Int){r:gB × jN × gF},f q y x2 x3 x4=some r→gW Tryz.prog 232 [.d (gF5 q),.L 4 (mK y),.d (jR x2),.d (vX x3),.I x4] [jR r.1,gBo r.2.1,kT r.2.2]
def gIl(f:kH→(List jT)→gB→gY→Int→Option (gB × jN × gF)):Prop:=∀(q:kH)(y:List jT)(x2:gB)(x3:gY)(x4:Int){r:gB × jN × gF},f q y x2 x3 x4=some r→gW Tryz.prog 231 [.d (gF5 q),.L 4 (mK y),.d (jR x2),.d (vX x3),.I x4] [jR r.1,gBo r.2.1,kT r.2.2]
def gE1(f:kH→(List jT)→gB→gY→Int→Option (gB × jN × gF)):Prop:=∀(q:kH)(y:List jT)(x2:gB)(x3:gY)(x4:Int){r:gB × jN × gF},f q y x2 x3 x4=some r→gW Tryz.prog 230 [.d (gF5 q),.L 4 (mK y),.d (jR x2),.d (vX x3),.I x4] [jR r.1,gBo r.2.1,kT r.2.2]
def gE2(f:kH→(List jT)→gB→(List gY)→(List gF)→Int→Option (gB × List jN)):Prop:=∀(q:kH)(y:List jT)(x2:gB)(x3:List gY)(x4:List gF)(x5:Int){r:gB × List jN},f q y x2 x3 x4 x5=some r→Go.Eng.Spec Tryz.prog 235 [.d (gF5 q),.L 4 (mK y),.d (jR x2),.L 9 (vP x3),.L 3 (jJ x4),.I x5] [] (fun sv Lo=>sv=.tup [.d (jR r.1),.sl 0 0]∧Lo=[.arr 48 11 0 (zK r.2)])
def gE3(f:kH→(List jT)→gB→gY→Int→Option (gB × jN × gF)):Prop:=∀(q:kH)(y:List jT)(x2:gB)(x3:gY)(x4:Int){r:gB × jN × gF},f q y x2 x3 x4=some r→gW Tryz.prog 229 [.d (gF5 q),.L 4 (mK y),.d (jR x2),.d (vX x3),.I x4] [jR r.1,gBo r.2.1,kT r.2.2]
def gE4(f:kH→(List jT)→gB→gY→Int→Option (gB × jN × gF)):Prop:=∀(q:kH)(y:List jT)(x2:gB)(x3:gY)(x4:Int){r:gB × jN × gF},f q y x2 x3 x4=some r→gW Tryz.prog 177 [.d (gF5 q),.L 4 (mK y),.d (jR x2),.d (vX x3),.I x4] [jR r.1,gBo r.2.1,kT r.2.2]
def gGz(f:kH→(List jT)→gB→gY→Option (gB × jN × gF)):Prop:=∀(q:kH)(y:List jT)(x2:gB)(x3:gY){r:gB × jN × gF},f q y x2 x3=some r→gW Tryz.prog 122 [.d (gF5 q),.L 4 (mK y),.d (jR x2),.d (vX x3)] [jR r.1,gBo r.2.1,kT r.2.2]
theorem hTk{ah}{ad}{f}{ae}{q}{y}{aa}{ab}{ag}(bj:gMd ah)(av:gIk ad)(ap:gE0 f)(aw:gIl ae)(aq:gE1 q)(ai:gE2 y)(ar:gE3 aa)(au:gE4 ab)(ac:gGz ag)(a0:kH)(a1:List jT)(a2:gB)(a3:gY)(a4:Int){r:gB × jN × gF}(h:hDq ah ad f ae q y aa ab ag a0 a1 a2 a3 a4=some r):gW Tryz.prog 234 [.d (gF5 a0),.L 4 (mK a1),.d (jR a2),.d (vX a3),.I a4] [jR r.1,gBo r.2.1,kT r.2.2]:=by
 obtain⟨⟨bt⟩,dh,di,dj⟩:=a0;obtain⟨dk,dl,dm,dn,dp,dq,dr,ds⟩:=a2;obtain⟨dt,du,dv,dw,⟨bu,bv,bw⟩,dx,dy⟩:=a3;unfold hDq at h;refine SpI Tryz.func234 fun A _=>?_;refine gCj ?_;refine sZ 1 ?_;refine goW ?_;obtain⟨g1,h⟩:=mI h;refine kR (fun _=>hSg g1) ?_;obtain⟨⟨bm,bn,bo⟩,c1,h⟩:=gK h;refine kR (fun _=>gD (hAe  c1)) ?_;refine uK (us:=jJ [(gF.mk bm bn bo)]) ?_;refine goW ?_;obtain⟨⟨⟨bx,bz,b0,b1,b2,b3,b4,b5⟩,dz⟩,c2,h⟩:=gK h;refine gSk (LH.cN (ai _ _ _ _ _ _ c2)) ?_;refine goW ?_;refine jY ?_;refine goC h ?_ ?_<;>intro c4 h
 ·refine goL ?_;refine uX (jI TBd.h TZ.h rfl (by repeat constructor)) ?_;refine uX (jI TBd.h TZ.h rfl (by repeat constructor)) ?_;exact goR h
 ·refine noS ?_;refine sZ 2 ?_;refine goW ?_;obtain⟨x5,bk,h⟩:=gK h;obtain⟨bp,bk⟩:=yY bk;obtain⟨d0,d1,d2,d3,⟨b6,b7,b8⟩,d4,d5⟩:=x5;refine kR (fun _=>kY bp (gO4 bk)) ?_;refine goW ?_;obtain⟨⟨⟨b9,ca,cb,cc,cd,ce,cf,cg⟩,⟨ax,ay,a5,a6,⟨aj,ak,al⟩,a7,a8,a9,ba⟩,⟨ch,ci,cj⟩⟩,c3,h⟩:=gK h;refine kR (fun _=>gD (ac _ _ _ _ c3)) ?_;refine goW ?_;refine jY ?_;refine goC h ?_ ?_<;>intro c7 h
  ·refine goL ?_;refine uX (jI TBd.h TZ.h rfl (by repeat constructor)) ?_;refine uX (jI TBd.h TZ.h rfl (by repeat constructor)) ?_;exact goR h
  ·refine noS ?_;refine sZ 2 ?_;refine goW ?_;obtain⟨x8,bl,h⟩:=gK h;obtain⟨bq,bl⟩:=yY bl;obtain⟨d6,d7,d8,d9,⟨ck,cl,cm⟩,ea,eb⟩:=x8;refine kR (fun _=>kY bq (gO4 bl)) ?_;refine goW ?_;obtain⟨⟨⟨cn,co,cp,cq,cr,cs,ct,cu⟩,⟨bb,bc,bd,be,⟨am,an,ao⟩,bf,bg,bh,bi⟩,⟨cv,cw,cx⟩⟩,c5,h⟩:=gK h;refine kR (fun _=>gD (ac _ _ _ _ c5)) ?_;refine goW ?_;refine jY ?_;refine goC h ?_ ?_<;>intro ef h
   ·refine goL ?_;refine uX (jI TBd.h TZ.h rfl (by repeat constructor)) ?_;refine uX (jI TBd.h TZ.h rfl (by repeat constructor)) ?_;exact goR h
   ·refine noS ?_;refine sZ 0 ?_;refine goW ?_;obtain⟨⟨c6,c8,c9,da,db,dc,dd,de⟩,br,h⟩:=gK h;refine kR (fun _=>gD (gOm _ _ _ _ _ br)) ?_;refine goW ?_;refine uK (us:=zK [(jN.mk ax ay a5 a6 (gF.mk aj ak al) a7 a8 a9 ba),(jN.mk bb bc bd be (gF.mk am an ao) bf bg bh bi)]) ?_;obtain⟨df,h⟩:=mI h;refine uL df ?_;refine goW ?_;refine jY ?_;refine goL ?_;refine jS 6 rfl rfl ?_;refine jH ?_;cases h;exact mM
def gZd(ag:kH→(List jT)→gB→gY→Int→Option (gB × jN × gF))(ad:kH→(List jT)→gB→gY→Option (gB × jN × gF))(q:kH→(List jT)→gB→gY→Int→Option (gB × jN × gF))(ae:kH→(List jT)→gB→gY→Int→Option (gB × jN × gF))(y:kH→(List jT)→gB→gY→Int→Option (gB × jN × gF))(aa:kH→(List jT)→gB→(List gY)→(List gF)→Int→Option (gB × List jN))(ab:kH→(List jT)→gB→gY→Int→Option (gB × jN × gF))(ac:kH→(List jT)→gB→gY→Int→Option (gB × jN × gF))(f:kH→(List jT)→gB→gY→Option (gB × jN × gF))(a0:kH)(a1:List jT)(a2:gB)(a3:gY):Option (gB × jN × gF):=
bnd (at? a3.args 0) fun x1=>
bnd (f a0 a1 a2 x1) fun x2=>
(cnd (x2.1.code != 0) (some (x2.1,(jN.mk 0 [] [] 0 (gF.mk 0 [] []) [] [] [] []),(gF.mk 0 [] []))) (
gd (([]:List jT).length+a1.length≤4294967296) (
gd (([]++a1).length+[(jT.mk a3.name x2.2.2)].length≤4294967296) (
bnd (at? a3.args 1) fun x6=>
bnd (f a0 (([]++a1)++[(jT.mk a3.name x2.2.2)]) x2.1 x6) fun x7=>
some (x7.1,(jN.mk 8 [] a3.name 0 (gF.mk 0 [] []) [] [] [x2.2.1,x7.2.1] []),x7.2.2)))))
theorem hPj{ah}{ad}{f}{ae}{q}{y}{aa}{ab}{ag}(bl:gMd ah)(av:gIk ad)(ao:gE0 f)(aw:gIl ae)(ap:gE1 q)(aq:gE2 y)(ar:gE3 aa)(au:gE4 ab)(ac:gGz ag)(a0:kH)(a1:List jT)(a2:gB)(a3:gY){r:gB × jN × gF}(h:gZd ah ad f ae q y aa ab ag a0 a1 a2 a3=some r):gW Tryz.prog 233 [.d (gF5 a0),.L 4 (mK a1),.d (jR a2),.d (vX a3)] [jR r.1,gBo r.2.1,kT r.2.2]:=by
 obtain⟨⟨br⟩,cs,ct,cu⟩:=a0;obtain⟨cv,cw,cx,cy,cz,c0,c1,c2⟩:=a2;obtain⟨c4,c5,bo,c6,⟨bt,bu,bv⟩,c7,c8⟩:=a3;unfold gZd at h;refine SpI Tryz.func233 fun A _=>?_;refine gCj ?_;refine sZ 2 ?_;refine goW ?_;obtain⟨x1,bm,h⟩:=gK h;obtain⟨bp,bm⟩:=yY bm;obtain⟨c9,da,db,dc,⟨bw,bx,bz⟩,dd,de⟩:=x1;refine kR (fun _=>kY bp (gO4 bm)) ?_;refine goW ?_;obtain⟨⟨⟨b0,b1,b2,b3,b4,b5,b6,b7⟩,⟨ax,ay,a4,a5,⟨ai,aj,ak⟩,a6,a7,a8,a9⟩,⟨ba,bb,bc⟩⟩,cq,h⟩:=gK h;refine kR (fun _=>gD (ac _ _ _ _ cq)) ?_;refine goW ?_;refine jY ?_;refine goC h ?_ ?_<;>intro c3 h
 ·refine goL ?_;refine uX (jI TBd.h TZ.h rfl (by repeat constructor)) ?_;refine uX (jI TBd.h TZ.h rfl (by repeat constructor)) ?_;exact goR h
 ·refine noS ?_;refine sZ 3 ?_;refine goW ?_;refine gTb ?_;refine goW ?_;obtain⟨g4,h⟩:=mI h;refine uL g4 ?_;refine goW ?_;refine uK (us:=mK [(jT.mk bo (gF.mk ba bb bc))]) ?_;obtain⟨g5,h⟩:=mI h;refine uL g5 ?_;refine goW ?_;obtain⟨x6,bn,h⟩:=gK h;obtain⟨bq,bn⟩:=yY bn;obtain⟨df,dg,dh,di,⟨b8,b9,ca⟩,dj,dk⟩:=x6;refine kR (fun _=>kY bq (gO4 bn)) ?_;refine goW ?_;obtain⟨⟨⟨cb,cc,cd,ce,cf,cg,ch,ci⟩,⟨bd,be,bf,bg,⟨al,am,an⟩,bh,bi,bj,bk⟩,⟨cj,ck,cm⟩⟩,cr,h⟩:=gK h;refine gSk (LH.frz 8 (h:=LH.cl (ac _ _ _ _ cr))) ?_;refine goW ?_;refine jY ?_;refine gCj ?_;refine sZ 0 ?_;refine goW ?_;refine uK (us:=zK [(jN.mk ax ay a4 a5 (gF.mk ai aj ak) a6 a7 a8 a9),(jN.mk bd be bf bg (gF.mk al am an) bh bi bj bk)]) ?_;refine goW ?_;refine jY ?_;exact goR h
def gI7(x5:jW × Int × Bool)(x8:gB × List gM × List gF)(aa:gJs)(q:(List jT)→Option (gB × jN × gF)):LS→Nat→(List jT)→Option (gB × jN × gF)
 | [],y,f=>(q f)
 | ab::xs,y,f=>bnd (at? x5.1.constructors (gJm x5.1 aa.constructor)) fun ah=>
bnd (at? ah.fields (y:Int)) fun ac=>
gd (bok x8.2.1∧tok ac) (lt_ (apT x8.2.1 ac) fun ad=>
gd (f.length+[(jT.mk ab ad)].length≤4294967296) (
gI7 x5 x8 aa q xs (y+1) (f++[(jT.mk ab ad)])))
def gDr(f:kH→(List jT)→gB→gY→Option (gB × jN × gF))(a0:kH)(a1:List jT)(a3:gY)(a4:Int)(x2:gB × jN × gF)(x5:jW × Int × Bool)(x8:gB × List gM × List gF)(ae:gB × gF):Nat→Int→Int→Int→(List gM)→(List kK)→(List jZ)→Int→Int→(List qD)→Int→Option (gB × jN × gF)
 | 0,ag,ah,ao,ai,aj,ak,ac,al,ab,ad=>none
 | ap+1,ag,ah,ao,ai,aj,ak,ac,al,ab,ad=>lt_ (cnd (decide (ad < (a3.arms.length:Int))) (ac==0) (false)) fun aw=>
(cnd aw (
bnd (at? a3.arms ad) fun q=>
bnd (cnd (decide ((gJm x5.1 q.constructor) < 0)) (some true) (bnd (at? x5.1.constructors (gJm x5.1 q.constructor)) fun ax=>
some ((ax.fields.length:Int) !=(q.vars.length:Int)))) fun ay=>
(cnd ay (
lt_ (gAb (gB.mk ag ah a4 ai aj ak ac al) 8) fun a2=>
some (a2,(jN.mk 0 [] [] 0 (gF.mk 0 [] []) [] [] [] []),(gF.mk 0 [] []))) (
gd (([]:List jT).length+a1.length≤4294967296) (
gI7 x5 x8 q (fun a5=>bnd (f a0 a5 (gB.mk ag ah a4 ai aj ak ac al) q.body) fun y=>
(cnd (y.1.code==0) (
bnd (gI6 a0 y.1 a4 ae.2 y.2.2) fun aa=>
gd (([]:LS).length+q.vars.length≤4294967296) (
gd (ab.length+[(qD.mk q.constructor ([]++q.vars) y.2.1)].length≤4294967296) (
gDr f a0 a1 a3 a4 x2 x5 x8 ae ap aa.next aa.count aa.node aa.bindings aa.equations aa.obligations aa.code aa.at_ (ab++[(qD.mk q.constructor ([]++q.vars) y.2.1)]) (IntKind.i64.wrap (ad+1))))) (
gd (([]:LS).length+q.vars.length≤4294967296) (
gd (ab.length+[(qD.mk q.constructor ([]++q.vars) y.2.1)].length≤4294967296) (
gDr f a0 a1 a3 a4 x2 x5 x8 ae ap y.1.next y.1.count y.1.node y.1.bindings y.1.equations y.1.obligations y.1.code y.1.at_ (ab++[(qD.mk q.constructor ([]++q.vars) y.2.1)]) (IntKind.i64.wrap (ad+1))))))) q.vars 0 ([]++a1))))) (some ((gB.mk ag ah ao ai aj ak ac al),(jN.mk 7 [] [] 0 (gF.mk 0 [] []) [] [] [x2.2.1] ab),ae.2)))
def gVz(ai:kH→(List jT)→gB→gY→Int→Option (gB × jN × gF))(ag:kH→(List jT)→gB→gY→Option (gB × jN × gF))(aa:kH→(List jT)→gB→gY→Int→Option (gB × jN × gF))(ah:kH→(List jT)→gB→gY→Int→Option (gB × jN × gF))(ab:kH→(List jT)→gB→gY→Int→Option (gB × jN × gF))(ac:kH→(List jT)→gB→(List gY)→(List gF)→Int→Option (gB × List jN))(ad:kH→(List jT)→gB→gY→Int→Option (gB × jN × gF))(ae:kH→(List jT)→gB→gY→Int→Option (gB × jN × gF))(f:kH→(List jT)→gB→gY→Option (gB × jN × gF))(a0:kH)(a1:List jT)(a2:gB)(a3:gY)(a4:Int)(n0:Nat):Option (gB × jN × gF):=
bnd (at? a3.args 0) fun x1=>
bnd (f a0 a1 a2 x1) fun y=>
(cnd (y.1.code != 0) (some (y.1,(jN.mk 0 [] [] 0 (gF.mk 0 [] []) [] [] [] []),(gF.mk 0 [] []))) (
bnd (at? a3.arms 0) fun x4=>
lt_ (gDu a0.w x4.constructor) fun x5=>
(cnd (!x5.2.2) (
lt_ (gAb (gB.mk y.1.next y.1.count a4 y.1.bindings y.1.equations y.1.obligations y.1.code y.1.at_) 8) fun x7=>
some (x7,(jN.mk 0 [] [] 0 (gF.mk 0 [] []) [] [] [] []),(gF.mk 0 [] []))) (
bnd (gOs (gB.mk y.1.next y.1.count a4 y.1.bindings y.1.equations y.1.obligations y.1.code y.1.at_) x5.1.vars) fun x8=>
bnd (gI6 a0 x8.1 a4 y.2.2 (gF.mk 2 x5.1.name x8.2.2)) fun x9=>
(cnd (x9.code != 0) (some (x9,(jN.mk 0 [] [] 0 (gF.mk 0 [] []) [] [] [] []),(gF.mk 0 [] []))) (
bnd (gCv x9) fun q=>
gDr f a0 a1 a3 a4 y x5 x8 q n0 q.1.next q.1.count q.1.node q.1.bindings q.1.equations q.1.obligations q.1.code q.1.at_ [] 0))))))
theorem hKe{cw}{ce}{bw}{cf}{bx}{bz}{b0}{b1}{aw}(ea:gMd cw)(d8:gIk ce)(d3:gE0 bw)(d9:gIl cf)(d4:gE1 bx)(d5:gE2 bz)(d6:gE3 b0)(d7:gE4 b1)(b2:gGz aw)(a0:kH)(a1:List jT)(a2:gB)(a3:gY)(a4:Int){n0:Nat}{r:gB × jN × gF}(h:gVz cw ce bw cf bx bz b0 b1 aw a0 a1 a2 a3 a4 n0=some r):gW Tryz.prog 232 [.d (gF5 a0),.L 4 (mK a1),.d (jR a2),.d (vX a3),.I a4] [jR r.1,gBo r.2.1,kT r.2.2]:=by
 obtain⟨⟨ax⟩,br,bt,bu⟩:=a0;obtain⟨gm,gn,go,gp,gq,gr,gs,gt⟩:=a2;obtain⟨cx,cy,cz,c0,⟨ba,bb,bc⟩,c1,c2⟩:=a3;unfold gVz at h;refine SpI Tryz.func232 fun A _=>?_;refine gCj ?_;refine sZ 2 ?_;refine goW ?_;obtain⟨x1,ec,h⟩:=gK h;obtain⟨e2,ec⟩:=yY ec;obtain⟨gu,gv,gw,gx,⟨fe,ff,fg⟩,gy,gz⟩:=x1;refine kR (fun _=>kY e2 (gO4 ec)) ?_;refine goW ?_;obtain⟨⟨⟨ch,ci,de,cj,ck,cl,cm,cn⟩,⟨am,an,ao,ap,⟨ah,ai,aj⟩,aq,ar,au,av⟩,⟨bd,be,bf⟩⟩,fq,h⟩:=gK h;refine kR (fun _=>gD (b2 _ _ _ _ fq)) ?_;refine goW ?_;refine jY ?_;refine goC h ?_ ?_<;>intro c3 h
 ·refine goL ?_;refine uX (jI TBd.h TZ.h rfl (by repeat constructor)) ?_;refine uX (jI TBd.h TZ.h rfl (by repeat constructor)) ?_;exact goR h
 ·refine noS ?_;refine gCj ?_;refine sZ 1 ?_;refine goW ?_;obtain⟨x4,ed,h⟩:=gK h;obtain⟨dh,ed⟩:=yY ed;obtain⟨e3,g0,⟨fh,fi,fj,fk,⟨ez,e0,e1⟩,fl,fm⟩⟩:=x4;refine kR (fun _=>kY dh (gYd ed)) ?_;refine goW ?_;obtain⟨⟨⟨ay,a5,a6⟩,dk,dl⟩,fr,h⟩:=pI h;have sx5:=gQr (gG.mk ax) e3;rw [fr] at sx5;refine kR (fun _=>gD (sx5)) ?_;refine goW ?_;refine jY ?_;refine goC h ?_ ?_<;>intro c6 h
  ·refine goL ?_;obtain⟨⟨g1,g2,g3,g4,g5,g6,g7,g8⟩,fs,h⟩:=pI h;have sx7:=gCn (gB.mk ch ci a4 cj ck cl cm cn) 8;rw [fs] at sx7;refine pX (gD (sx7)) ?_;refine uX (jI TBd.h TZ.h rfl (by repeat constructor)) ?_;refine uX (jI TBd.h TZ.h rfl (by repeat constructor)) ?_;exact goR h
  ·refine goS ?_;obtain⟨⟨⟨co,cp,cq,cr,cs,ct,cu,cv⟩,b3,dm⟩,ft,h⟩:=gK h;refine gX (gD (gWg _ _ ft)) ?_;refine uX (jI TBd.h TZ.h rfl (by repeat constructor)) ?_;obtain⟨⟨g9,ha,hb,hc,hd,he,hg,hh⟩,fu,h⟩:=gK h;refine gX (gD (gOm _ _ _ _ _ fu)) ?_;refine kN (fun ee=>?_) (fun ee=>?_)
   ·replace h:=jU ee h;refine goL ?_;refine uX (jI TBd.h TZ.h rfl (by repeat constructor)) ?_;refine uX (jI TBd.h TZ.h rfl (by repeat constructor)) ?_;exact goR h
   ·replace h:=jV ee h;refine goS ?_;obtain⟨⟨⟨bj,bk,bl,bm,bn,bo,bp,bq⟩,⟨a7,a8,a9⟩⟩,e4,h⟩:=gK h;refine gX (gD (gJ4 _ e4)) ?_;refine uN (u:=(.st [.i .i64 am,.s an,.s ao,.i .i64 ap,.st [.i .i64 ah,.s ai,.sl 3 (jJ aj)],.sl 3 (jJ aq),.sl 5 (mD ar),.sl 11 (zK au),.sl 13 (vK av)])) ?_;refine gC1 (jI TBd.h TZ.h rfl (by repeat constructor)) ?_;refine noB ?_;refine uA 312 13 11 10 rfl rfl (by repeat constructor) (by repeat constructor) (by repeat constructor) (by repeat constructor) ?_;show V _ _ _ _ _;refine hGy (fun(c4:Nat)(c5:Int)(c7:Int)(dn:Int)(c8:List gM)(c9:List kK)(da:List jZ)(db:Int)(dc:Int)(b4:List qD)(cg:Int)(cd:Nat)=>⟨[(1,.L 4 (mK a1)),(4,.I a4),(5,.ptr 0 0),(7,.ptr 1 0),(8,.ptr 2 0),(10,.ptr 3 0),(11,.ptr 4 0),(12,.ptr 5 0),(15,.ptr 8 0),(18,.L 4 (jM b3)),(20,.ptr 9 0),(21,.ptr 11 0),(22,.I cg)],[b33 ax br bt bu,bSt c5 c7 dn c8 c9 da db dc,bEx cx cy cz c0 ba bb bc c1 c2,.box [.I 0,.I 0,.I 0,.nilsl,.nilsl,.nilsl,.I 0,.I 0],.box [.I 0,.S [],.S [],.I 0,.I 0,.S [],.nilsl,.nilsl,.nilsl,.nilsl,.nilsl],.box [.I 0,.S [],.nilsl],bCo am an ao ap ah ai aj aq ar au av,bTy bd be bf,bDa ay a5 a6,bTy a7 a8 a9,.arr 48 11 0 (zK [(jN.mk am an ao ap (gF.mk ah ai aj) aq ar au av)]),.box [.I 7,.S [],.S [],.I 0,.I 0,.S [],.nilsl,.nilsl,.nilsl,.sl 10 0,.sl 12 cd],.arr 312 13 cd (vK b4)],Tryz.f232.ntmps⟩) (fun c4 c5 c7 dn c8 c9 da db dc b4 cg cd=>gDr aw (kH.mk (gG.mk ax) br bt bu) a1 (gY.mk cx cy cz c0 (gF.mk ba bb bc) c1 c2) a4 ((gB.mk ch ci de cj ck cl cm cn),(jN.mk am an ao ap (gF.mk ah ai aj) aq ar au av),(gF.mk bd be bf)) ((jW.mk ay a5 a6),dk,dl) ((gB.mk co cp cq cr cs ct cu cv),b3,dm) ((gB.mk bj bk bl bm bn bo bp bq),(gF.mk a7 a8 a9)) c4 c5 c7 dn c8 c9 da db dc b4 cg=some r) (fun c4 c5 c7 dn c8 c9 da db dc b4 cg cd=>c4) n0 bj bk bl bm bn bo bp bq [] 0 0 eJ h ?_;rintro c4 c5 c7 dn c8 c9 da db dc b4 cg cd h;rcases c4 with _ | c4
    ·cases h
    rw [gDr.eq_2] at h;refine goL ?_;obtain⟨fv,hb24,h⟩:=pI h;refine kG ⟨[(1,.L 4 (mK a1)),(4,.I a4),(5,.ptr 0 0),(7,.ptr 1 0),(8,.ptr 2 0),(10,.ptr 3 0),(11,.ptr 4 0),(12,.ptr 5 0),(15,.ptr 8 0),(18,.L 4 (jM b3)),(20,.ptr 9 0),(21,.ptr 11 0),(22,.I cg),(108,.B fv)],[b33 ax br bt bu,bSt c5 c7 dn c8 c9 da db dc,bEx cx cy cz c0 ba bb bc c1 c2,.box [.I 0,.I 0,.I 0,.nilsl,.nilsl,.nilsl,.I 0,.I 0],.box [.I 0,.S [],.S [],.I 0,.I 0,.S [],.nilsl,.nilsl,.nilsl,.nilsl,.nilsl],.box [.I 0,.S [],.nilsl],bCo am an ao ap ah ai aj aq ar au av,bTy bd be bf,bDa ay a5 a6,bTy a7 a8 a9,.arr 48 11 0 (zK [(jN.mk am an ao ap (gF.mk ah ai aj) aq ar au av)]),.box [.I 7,.S [],.S [],.I 0,.I 0,.S [],.nilsl,.nilsl,.nilsl,.sl 10 0,.sl 12 cd],.arr 312 13 cd (vK b4)],Tryz.f232.ntmps⟩ ?_ ?_
    ·exact gqZ 104 hb24
    refine goC h ?_ ?_<;>intro hk h
    ·refine noS ?_;refine kC (gP ?_);refine goL ?_;obtain⟨fw,dq,h⟩:=gK h;obtain⟨ef,dq⟩:=yY dq;obtain⟨ak,al,⟨aa,ab,ac,ad,⟨f,q,y⟩,ae,ag⟩⟩:=fw;refine gX (kY ef (gYd dq)) ?_;refine pX (gD (hLl (jW.mk ay a5 a6) ak)) ?_;refine gCj ?_;obtain⟨fx,hb28,h⟩:=gK h;refine qN (P:=Tryz.prog) Mix.h ⟨[(1,.L 4 (mK a1)),(4,.I a4),(5,.ptr 0 0),(7,.ptr 1 0),(8,.ptr 2 0),(10,.ptr 3 0),(11,.ptr 4 0),(12,.ptr 5 0),(15,.ptr 8 0),(18,.L 4 (jM b3)),(20,.ptr 9 0),(21,.ptr 11 0),(22,.I cg),(23,.ptr 13 0),(24,.d (.i .i64 (gJm (jW.mk ay a5 a6) ak))),(136,.B fx)],[b33 ax br bt bu,bSt c5 c7 a4 c8 c9 da db dc,bEx cx cy cz c0 ba bb bc c1 c2,.box [.I 0,.I 0,.I 0,.nilsl,.nilsl,.nilsl,.I 0,.I 0],.box [.I 0,.S [],.S [],.I 0,.I 0,.S [],.nilsl,.nilsl,.nilsl,.nilsl,.nilsl],.box [.I 0,.S [],.nilsl],bCo am an ao ap ah ai aj aq ar au av,bTy bd be bf,bDa ay a5 a6,bTy a7 a8 a9,.arr 48 11 0 (zK [(jN.mk am an ao ap (gF.mk ah ai aj) aq ar au av)]),.box [.I 7,.S [],.S [],.I 0,.I 0,.S [],.nilsl,.nilsl,.nilsl,.sl 10 0,.sl 12 cd],.arr 312 13 cd (vK b4),.box [.S ak,.L 1 (kD al),.I aa,.S ab,.S ac,.I ad,.I f,.S q,.L 3 (jJ y),.L 9 (vP ae),.L 11 (gBv ag)]],Tryz.f232.ntmps⟩ (by kernel_rfl) ?_ ?_
     ·refine goL ?_;refine qE 124 (fun eg=>?_) (fun eg=>?_) (by first | rfl | (simp only [jG,gQ];rfl))
      ·replace hb28:=jU eg hb28;refine goL ?_;cases hb28;exact⟨rfl,⟨⟨rfl,rfl⟩,⟨rfl,rfl⟩,⟨rfl,rfl⟩,⟨rfl,rfl⟩,⟨rfl,rfl⟩,⟨rfl,rfl⟩,⟨rfl,rfl⟩,⟨rfl,rfl⟩,⟨rfl,rfl⟩,⟨rfl,rfl⟩,⟨rfl,rfl⟩,⟨rfl,rfl⟩,⟨rfl,rfl⟩,⟨rfl,rfl⟩,⟨rfl,rfl⟩,⟨by first | rfl | (simp only [jG,gQ];rfl),rfl⟩,trivial⟩,⟨_,rfl⟩,rfl⟩
      ·replace hb28:=jV eg hb28;refine goL ?_;obtain⟨fy,dr,hb28⟩:=gK hb28;obtain⟨eh,dr⟩:=yY dr;obtain⟨fz,f0⟩:=fy;refine wN (kY eh (qA dr)) ?_;refine goL ?_;cases hb28;exact⟨rfl,⟨⟨rfl,rfl⟩,⟨rfl,rfl⟩,⟨rfl,rfl⟩,⟨rfl,rfl⟩,⟨rfl,rfl⟩,⟨rfl,rfl⟩,⟨rfl,rfl⟩,⟨rfl,rfl⟩,⟨rfl,rfl⟩,⟨rfl,rfl⟩,⟨rfl,rfl⟩,⟨rfl,rfl⟩,⟨rfl,rfl⟩,⟨rfl,rfl⟩,⟨rfl,rfl⟩,⟨by first | rfl | (simp only [jG,gQ];rfl),rfl⟩,trivial⟩,⟨_,rfl⟩,rfl⟩
     refine goC h ?_ ?_<;>intro hl h
     ·refine goL ?_;obtain⟨⟨f1,f2,f3,f4,f5,f6,f7,f8⟩,e5,h⟩:=pI h;have sx32:=gCn (gB.mk c5 c7 a4 c8 c9 da db dc) 8;rw [e5] at sx32;refine pX (gD (sx32)) ?_;refine uX (jI TBd.h TZ.h rfl (by repeat constructor)) ?_;refine uX (jI TBd.h TZ.h rfl (by repeat constructor)) ?_;exact goR h
     ·refine goS ?_;refine qO ?_;refine goL ?_;obtain⟨f9,h⟩:=mI h;refine vR f9 ?_;refine goL ?_;refine noB ?_;refine pG 13 1 (fun hm=>?_)
      refine kQ (fun(dd:Nat)(df:List jT)(dp:Nat)=>⟨[(1,.L 4 (mK a1)),(4,.I a4),(5,.ptr 0 0),(7,.ptr 1 0),(8,.ptr 2 0),(10,.ptr 3 0),(11,.ptr 4 0),(12,.ptr 5 0),(15,.ptr 8 0),(18,.L 4 (jM b3)),(20,.ptr 9 0),(21,.ptr 11 0),(22,.I cg),(23,.ptr 13 0),(24,.d (.i .i64 (gJm (jW.mk ay a5 a6) ak))),(25,.sl 14 dp),(26,.N dd)],[b33 ax br bt bu,bSt c5 c7 a4 c8 c9 da db dc,bEx cx cy cz c0 ba bb bc c1 c2,.box [.I 0,.I 0,.I 0,.nilsl,.nilsl,.nilsl,.I 0,.I 0],.box [.I 0,.S [],.S [],.I 0,.I 0,.S [],.nilsl,.nilsl,.nilsl,.nilsl,.nilsl],.box [.I 0,.S [],.nilsl],bCo am an ao ap ah ai aj aq ar au av,bTy bd be bf,bDa ay a5 a6,bTy a7 a8 a9,.arr 48 11 0 (zK [(jN.mk am an ao ap (gF.mk ah ai aj) aq ar au av)]),.box [.I 7,.S [],.S [],.I 0,.I 0,.S [],.nilsl,.nilsl,.nilsl,.sl 10 0,.sl 12 cd],.arr 312 13 cd (vK b4),.box [.S ak,.L 1 (kD al),.I aa,.S ab,.S ac,.I ad,.I f,.S q,.L 3 (jJ y),.L 9 (vP ae),.L 11 (gBv ag)],.arr 225 4 dp (mK df)],Tryz.f232.ntmps⟩) (fun dd df dp=>gI7 ((jW.mk ay a5 a6),dk,dl) ((gB.mk co cp cq cr cs ct cu cv),b3,dm) (gJs.mk ak al (gY.mk aa ab ac ad (gF.mk f q y) ae ag)) (fun df=>bnd (aw (kH.mk (gG.mk ax) br bt bu) df (gB.mk c5 c7 a4 c8 c9 da db dc) (gJs.mk ak al (gY.mk aa ab ac ad (gF.mk f q y) ae ag)).body) fun bv=>
(cnd (bv.1.code==0) (
bnd (gI6 (kH.mk (gG.mk ax) br bt bu) bv.1 a4 ((gB.mk bj bk bl bm bn bo bp bq),(gF.mk a7 a8 a9)).2 bv.2.2) fun di=>
gd (([]:LS).length+(gJs.mk ak al (gY.mk aa ab ac ad (gF.mk f q y) ae ag)).vars.length≤4294967296) (
gd (b4.length+[(qD.mk (gJs.mk ak al (gY.mk aa ab ac ad (gF.mk f q y) ae ag)).constructor ([]++(gJs.mk ak al (gY.mk aa ab ac ad (gF.mk f q y) ae ag)).vars) bv.2.1)].length≤4294967296) (
gDr aw (kH.mk (gG.mk ax) br bt bu) a1 (gY.mk cx cy cz c0 (gF.mk ba bb bc) c1 c2) a4 ((gB.mk ch ci de cj ck cl cm cn),(jN.mk am an ao ap (gF.mk ah ai aj) aq ar au av),(gF.mk bd be bf)) ((jW.mk ay a5 a6),dk,dl) ((gB.mk co cp cq cr cs ct cu cv),b3,dm) ((gB.mk bj bk bl bm bn bo bp bq),(gF.mk a7 a8 a9)) c4 di.next di.count di.node di.bindings di.equations di.obligations di.code di.at_ (b4++[(qD.mk (gJs.mk ak al (gY.mk aa ab ac ad (gF.mk f q y) ae ag)).constructor ([]++(gJs.mk ak al (gY.mk aa ab ac ad (gF.mk f q y) ae ag)).vars) bv.2.1)]) (IntKind.i64.wrap (cg+1))))) (
gd (([]:LS).length+(gJs.mk ak al (gY.mk aa ab ac ad (gF.mk f q y) ae ag)).vars.length≤4294967296) (
gd (b4.length+[(qD.mk (gJs.mk ak al (gY.mk aa ab ac ad (gF.mk f q y) ae ag)).constructor ([]++(gJs.mk ak al (gY.mk aa ab ac ad (gF.mk f q y) ae ag)).vars) bv.2.1)].length≤4294967296) (
gDr aw (kH.mk (gG.mk ax) br bt bu) a1 (gY.mk cx cy cz c0 (gF.mk ba bb bc) c1 c2) a4 ((gB.mk ch ci de cj ck cl cm cn),(jN.mk am an ao ap (gF.mk ah ai aj) aq ar au av),(gF.mk bd be bf)) ((jW.mk ay a5 a6),dk,dl) ((gB.mk co cp cq cr cs ct cu cv),b3,dm) ((gB.mk bj bk bl bm bn bo bp bq),(gF.mk a7 a8 a9)) c4 bv.1.next bv.1.count bv.1.node bv.1.bindings bv.1.equations bv.1.obligations bv.1.code bv.1.at_ (b4++[(qD.mk (gJs.mk ak al (gY.mk aa ab ac ad (gF.mk f q y) ae ag)).constructor ([]++(gJs.mk ak al (gY.mk aa ab ac ad (gF.mk f q y) ae ag)).vars) bv.2.1)]) (IntKind.i64.wrap (cg+1))))))) (al.drop dd) dd df=some r) (fun dd df dp=>al.length - dd) 0 ([]++a1) (0+1) eJ h ?_
      rintro dd df dp h;refine goL ?_;refine kN (fun ei=>?_) (fun ei=>?_)
      ·have dg:=qB ei;obtain⟨e6,e7,ej⟩:=drop_at dg;rw [ej,gI7.eq_2] at h;refine noS ?_;refine kC (gP ?_);refine dZ 0 ?_;refine goW ?_;refine kR (fun _=>gV dd (gN4 e7)) ?_;refine goW ?_;obtain⟨ga,dh,h⟩:=gK h;obtain⟨ek,dh⟩:=yY dh;obtain⟨gb,gc⟩:=ga;refine kR (fun _=>kY ek (qA dh)) ?_;refine goW ?_;obtain⟨ge,eb,h⟩:=gK h;rw [gBb] at eb;obtain⟨el,em,en⟩:=ge;refine kR (fun _=>gV dd (gAw eb)) ?_;refine goW ?_;obtain⟨gf,h⟩:=mI h;obtain⟨⟨ds,dt,du⟩,e8,h⟩:=pI h;have sx43:=(gDi b3 (gF.mk el em en) gf).p;rw [e8] at sx43;refine kR (fun _=>gD (sx43)) ?_;refine goW ?_;refine uK (us:=mK [(jT.mk e6 (gF.mk ds dt du))]) ?_;obtain⟨gg,h⟩:=mI h;refine uL gg ?_;refine goW ?_;refine jY ?_;refine goL ?_;refine gX (jK dd (by omega)) ?_;exact⟨(dd+1),(df++[(jT.mk e6 (gF.mk ds dt du))]),(dp+1),h,by omega,eJ⟩
      ·have dg:=qC ei;rw [gT dg,gI7.eq_1] at h;refine goX ?_;refine qV 14 rfl rfl ?_;obtain⟨⟨⟨dv,dw,dx,dy,dz,d0,d1,d2⟩,⟨b5,b6,b7,b8,⟨bg,bh,bi⟩,b9,ca,cb,cc⟩,⟨e9,fa,fb⟩⟩,fc,h⟩:=gK h;refine gC1 (hDc (b2 (kH.mk (gG.mk ax) br bt bu) df (gB.mk c5 c7 a4 c8 c9 da db dc) (gY.mk aa ab ac ad (gF.mk f q y) ae ag) fc)) ?_;refine kN (fun eo=>?_) (fun eo=>?_)
       ·replace h:=jU eo h;refine goL ?_;obtain⟨⟨ep,er,et,eu,ev,ew,ex,ey⟩,fd,h⟩:=gK h;refine pX (gD (gOm _ _ _ _ _ fd)) ?_;refine gCj ?_;refine dZ 1 ?_;refine goW ?_;refine gTb ?_;refine goW ?_;obtain⟨gh,h⟩:=mI h;refine uL gh ?_;refine goW ?_;refine gSk (LH.frz 18 (h:=LH.ld (us:=vK [(qD.mk ak ([]++al) (jN.mk b5 b6 b7 b8 (gF.mk bg bh bi) b9 ca cb cc))]))) ?_;obtain⟨gi,h⟩:=mI h;refine uL gi ?_;refine goW ?_;refine jY ?_;refine goL ?_;refine gX (pR) ?_;exact⟨c4,ep,er,et,eu,ev,ew,ex,ey,(b4++[(qD.mk ak ([]++al) (jN.mk b5 b6 b7 b8 (gF.mk bg bh bi) b9 ca cb cc))]),(IntKind.i64.wrap (cg+1)),(cd+1),h,Nat.lt_succ_self _,eJ⟩
       ·replace h:=jV eo h;refine noS ?_;refine dZ 1 ?_;refine goW ?_;refine gTb ?_;refine goW ?_;obtain⟨gj,h⟩:=mI h;refine uL gj ?_;refine goW ?_;refine gSk (LH.frz 18 (h:=LH.ld (us:=vK [(qD.mk ak ([]++al) (jN.mk b5 b6 b7 b8 (gF.mk bg bh bi) b9 ca cb cc))]))) ?_;obtain⟨gk,h⟩:=mI h;refine uL gk ?_;refine goW ?_;refine jY ?_;refine goL ?_;refine gX (pR) ?_;exact⟨c4,dv,dw,dx,dy,dz,d0,d1,d2,(b4++[(qD.mk ak ([]++al) (jN.mk b5 b6 b7 b8 (gF.mk bg bh bi) b9 ca cb cc))]),(IntKind.i64.wrap (cg+1)),(cd+1),h,Nat.lt_succ_self _,eJ⟩
    ·refine noX ?_;refine sZ 0 ?_;refine goW ?_;refine jY ?_;refine goL ?_;refine jS 10 rfl rfl ?_;refine jS 12 rfl rfl ?_;refine jH ?_;cases h;exact mM
def gZe(ag:kH→(List jT)→gB→gY→Int→Option (gB × jN × gF))(ac:kH→(List jT)→gB→gY→Option (gB × jN × gF))(q:kH→(List jT)→gB→gY→Int→Option (gB × jN × gF))(ad:kH→(List jT)→gB→gY→Int→Option (gB × jN × gF))(y:kH→(List jT)→gB→gY→Int→Option (gB × jN × gF))(f:kH→(List jT)→gB→(List gY)→(List gF)→Int→Option (gB × List jN))(aa:kH→(List jT)→gB→gY→Int→Option (gB × jN × gF))(ab:kH→(List jT)→gB→gY→Int→Option (gB × jN × gF))(ae:kH→(List jT)→gB→gY→Option (gB × jN × gF))(a0:kH)(a1:List jT)(a2:gB)(a3:gY)(a4:Int):Option (gB × jN × gF):=
lt_ (gDu a0.w a3.name) fun x1=>
bnd (cnd (!x1.2.2) (some true) (bnd (at? x1.1.constructors x1.2.1) fun x4=>
some ((x4.fields.length:Int) !=(a3.args.length:Int)))) fun b2=>
(cnd b2 (
lt_ (gAb a2 8) fun x6=>
some (x6,(jN.mk 0 [] [] 0 (gF.mk 0 [] []) [] [] [] []),(gF.mk 0 [] []))) (
bnd (gOs a2 x1.1.vars) fun x7=>
bnd (at? x1.1.constructors x1.2.1) fun x8=>
gd (bok x7.2.1∧hIr x8.fields) (bnd (f a0 a1 x7.1 a3.args (gT7 x7.2.1 x8.fields) a4) fun aj=>
gd (hIr x7.2.2) (some (aj.1,(jN.mk 6 [] a3.name 0 (gF.mk 0 [] []) x7.2.2 [] aj.2 []),(gF.mk 2 x1.1.name (hS4 x7.2.2)))))))
theorem hPk{ag}{ac}{f}{ad}{q}{y}{aa}{ab}{ae}(ay:gMd ag)(an:gIk ac)(aj:gE0 f)(ao:gIl ad)(ak:gE1 q)(ah:gE2 y)(al:gE3 aa)(am:gE4 ab)(ap:gGz ae)(a0:kH)(a1:List jT)(a2:gB)(a3:gY)(a4:Int){r:gB × jN × gF}(h:gZe ag ac f ad q y aa ab ae a0 a1 a2 a3 a4=some r):gW Tryz.prog 231 [.d (gF5 a0),.L 4 (mK a1),.d (jR a2),.d (vX a3),.I a4] [jR r.1,gBo r.2.1,kT r.2.2]:=by
 obtain⟨⟨ai⟩,bg,bh,bi⟩:=a0;obtain⟨a5,a6,a7,a8,a9,ba,bb,bc⟩:=a2;obtain⟨bj,bk,bd,bl,⟨aq,ar,au⟩,bm,bn⟩:=a3;unfold gZe at h;refine SpI Tryz.func231 fun A _=>?_;refine goL ?_;obtain⟨⟨⟨av,aw,ax⟩,bo,co⟩,ci,h⟩:=pI h;have sx1:=gQr (gG.mk ai) bd;rw [ci] at sx1;refine pX (gD (sx1)) ?_;refine gCj ?_;obtain⟨b2,hb2,h⟩:=gK h;refine qN (P:=Tryz.prog) Mix.h ⟨[(1,.L 4 (mK a1)),(4,.I a4),(5,.ptr 0 0),(7,.ptr 1 0),(8,.ptr 2 0),(10,.ptr 3 0),(11,.ptr 4 0),(12,.ptr 5 0),(13,.ptr 6 0),(14,.I bo),(42,.B b2)],[b33 ai bg bh bi,bSt a5 a6 a7 a8 a9 ba bb bc,bEx bj bk bd bl aq ar au bm bn,.box [.I 0,.I 0,.I 0,.nilsl,.nilsl,.nilsl,.I 0,.I 0],.box [.I 0,.S [],.S [],.I 0,.I 0,.S [],.nilsl,.nilsl,.nilsl,.nilsl,.nilsl],.box [.I 0,.S [],.nilsl],bDa av aw ax],Tryz.f231.ntmps⟩ (by kernel_rfl) ?_ ?_
 ·refine goL ?_;refine qE 30 (fun c3=>?_) (fun c3=>?_) (by first | rfl | (simp only [jG,gQ];rfl))
  ·replace hb2:=jU c3 hb2;refine goL ?_;cases hb2;exact⟨rfl,⟨⟨rfl,rfl⟩,⟨rfl,rfl⟩,⟨rfl,rfl⟩,⟨rfl,rfl⟩,⟨rfl,rfl⟩,⟨rfl,rfl⟩,⟨rfl,rfl⟩,⟨rfl,rfl⟩,⟨rfl,rfl⟩,⟨rfl,rfl⟩,⟨by first | rfl | (simp only [jG,gQ];rfl),rfl⟩,trivial⟩,⟨_,rfl⟩,rfl⟩
  ·replace hb2:=jV c3 hb2;refine goL ?_;obtain⟨x4,be,hb2⟩:=gK hb2;obtain⟨bp,be⟩:=yY be;obtain⟨cp,cq⟩:=x4;refine wN (kY bp (qA be)) ?_;refine goL ?_;cases hb2;exact⟨rfl,⟨⟨rfl,rfl⟩,⟨rfl,rfl⟩,⟨rfl,rfl⟩,⟨rfl,rfl⟩,⟨rfl,rfl⟩,⟨rfl,rfl⟩,⟨rfl,rfl⟩,⟨rfl,rfl⟩,⟨rfl,rfl⟩,⟨rfl,rfl⟩,⟨by first | rfl | (simp only [jG,gQ];rfl),rfl⟩,trivial⟩,⟨_,rfl⟩,rfl⟩
 refine goC h ?_ ?_<;>intro c5 h
 ·refine goL ?_;obtain⟨⟨cr,cs,ct,cu,cv,cw,cx,cy⟩,ck,h⟩:=pI h;have sx6:=gCn (gB.mk a5 a6 a7 a8 a9 ba bb bc) 8;rw [ck] at sx6;refine pX (gD (sx6)) ?_;refine uX (jI TBd.h TZ.h rfl (by repeat constructor)) ?_;refine uX (jI TBd.h TZ.h rfl (by repeat constructor)) ?_;exact goR h
 ·refine goS ?_;obtain⟨⟨⟨b6,b7,b8,b9,ca,cb,cc,cd⟩,bq,br⟩,cl,h⟩:=gK h;refine pX (gD (gWg _ _ cl)) ?_;refine gCj ?_;refine sZ 1 ?_;refine goW ?_;obtain⟨x8,bf,h⟩:=gK h;obtain⟨bt,bf⟩:=yY bf;obtain⟨cz,bu⟩:=x8;refine kR (fun _=>kY bt (qA bf)) ?_;refine goW ?_;obtain⟨g9,h⟩:=mI h;refine kR (fun _=>gD ((gQ6 bq bu g9).p)) ?_;refine goW ?_;obtain⟨⟨⟨bv,bw,bx,bz,b0,b1,b3,b4⟩,cm⟩,b5,h⟩:=gK h;refine gSk (LH.cN (ah _ _ _ _ _ _ b5)) ?_;refine goW ?_;refine jY ?_;refine gCj ?_;refine sZ 0 ?_;refine goW ?_;obtain⟨cn,h⟩:=mI h;refine kR (fun _=>gD ((gPh br cn).p)) ?_;refine goW ?_;refine jY ?_;refine goL ?_;refine jS 7 rfl rfl ?_;refine jH ?_;cases h;exact mM
def gV0(ag:kH→(List jT)→gB→gY→Int→Option (gB × jN × gF))(ac:kH→(List jT)→gB→gY→Option (gB × jN × gF))(q:kH→(List jT)→gB→gY→Int→Option (gB × jN × gF))(ad:kH→(List jT)→gB→gY→Int→Option (gB × jN × gF))(y:kH→(List jT)→gB→gY→Int→Option (gB × jN × gF))(f:kH→(List jT)→gB→(List gY)→(List gF)→Int→Option (gB × List jN))(aa:kH→(List jT)→gB→gY→Int→Option (gB × jN × gF))(ab:kH→(List jT)→gB→gY→Int→Option (gB × jN × gF))(ae:kH→(List jT)→gB→gY→Option (gB × jN × gF))(a0:kH)(a1:List jT)(a2:gB)(a3:gY)(a4:Int):Option (gB × jN × gF):=
bnd (gCv a2) fun x1=>
bnd (gKe a0.w a3.trait a3.name x1.2) fun x2=>
lt_ (cnd (!x2.2.2) (true) ((IntKind.i64.wrap ((x2.1.length:Int)+1)) !=(a3.args.length:Int))) fun b3=>
(cnd b3 (
lt_ (gAb x1.1 8) fun x6=>
some (x6,(jN.mk 0 [] [] 0 (gF.mk 0 [] []) [] [] [] []),(gF.mk 0 [] []))) (
gd ([x1.2].length+x2.1.length≤4294967296) (
bnd (f a0 a1 x1.1 a3.args ([x1.2]++x2.1) a4) fun x8=>
bnd (gRr x8.1 a4 (gU.mk a3.trait x1.2)) fun x9=>
some (x9.1,(jN.mk 5 a3.trait a3.name 0 x1.2 [] [x9.2] x8.2 []),x2.2.1))))
theorem hKg{ag}{ac}{f}{ad}{q}{y}{aa}{ab}{ae}(bk:gMd ag)(a7:gIk ac)(ax:gE0 f)(a8:gIl ad)(ay:gE1 q)(ah:gE2 y)(a5:gE3 aa)(a6:gE4 ab)(a9:gGz ae)(a0:kH)(a1:List jT)(a2:gB)(a3:gY)(a4:Int){r:gB × jN × gF}(h:gV0 ag ac f ad q y aa ab ae a0 a1 a2 a3 a4=some r):gW Tryz.prog 230 [.d (gF5 a0),.L 4 (mK a1),.d (jR a2),.d (vX a3),.I a4] [jR r.1,gBo r.2.1,kT r.2.2]:=by
 obtain⟨⟨ba⟩,bl,bm,bn⟩:=a0;obtain⟨co,cp,cq,cr,cs,ct,cu,cv⟩:=a2;obtain⟨bo,bp,bq,br,⟨bb,bc,bd⟩,bt,bu⟩:=a3;unfold gV0 at h;refine SpI Tryz.func230 fun A _=>?_;refine goL ?_;obtain⟨⟨⟨ai,aj,ak,al,am,an,ao,ap⟩,⟨aq,ar,au⟩⟩,ci,h⟩:=gK h;refine gX (gD (gJ4 _ ci)) ?_;obtain⟨⟨bv,⟨be,bf,bg⟩,cw⟩,cj,h⟩:=gK h;refine gX (gD (gR5 _ _ _ _ cj)) ?_;obtain⟨b3,hb3,h⟩:=pI h;refine kG ⟨[(1,.L 4 (mK a1)),(4,.I a4),(5,.ptr 0 0),(7,.ptr 1 0),(8,.ptr 2 0),(10,.ptr 3 0),(11,.ptr 4 0),(12,.ptr 5 0),(13,.ptr 6 0),(14,.L 3 (jJ bv)),(15,.ptr 7 0),(46,.B b3)],[b33 ba bl bm bn,bSt ai aj ak al am an ao ap,bEx bo bp bq br bb bc bd bt bu,.box [.I 0,.I 0,.I 0,.nilsl,.nilsl,.nilsl,.I 0,.I 0],.box [.I 0,.S [],.S [],.I 0,.I 0,.S [],.nilsl,.nilsl,.nilsl,.nilsl,.nilsl],.box [.I 0,.S [],.nilsl],bTy aq ar au,bTy be bf bg],Tryz.f230.ntmps⟩ ?_ ?_
 ·refine uJ 38 (fun c4=>?_) (fun c4=>?_) (by first | rfl | (simp only [jG,gQ];rfl))
  ·replace hb3:=jU c4 hb3;refine goL ?_;cases hb3;exact⟨rfl,⟨⟨rfl,rfl⟩,⟨rfl,rfl⟩,⟨rfl,rfl⟩,⟨rfl,rfl⟩,⟨rfl,rfl⟩,⟨rfl,rfl⟩,⟨rfl,rfl⟩,⟨rfl,rfl⟩,⟨rfl,rfl⟩,⟨rfl,rfl⟩,⟨rfl,rfl⟩,⟨by first | rfl | (simp only [jG,gQ];rfl),rfl⟩,trivial⟩,⟨_,rfl⟩,rfl⟩
  ·replace hb3:=jV c4 hb3;refine goL ?_;refine gRx ?_;refine gX (pR) ?_;cases hb3;exact⟨rfl,⟨⟨rfl,rfl⟩,⟨rfl,rfl⟩,⟨rfl,rfl⟩,⟨rfl,rfl⟩,⟨rfl,rfl⟩,⟨rfl,rfl⟩,⟨rfl,rfl⟩,⟨rfl,rfl⟩,⟨rfl,rfl⟩,⟨rfl,rfl⟩,⟨rfl,rfl⟩,⟨by first | rfl | (simp only [jG,gQ];rfl),rfl⟩,trivial⟩,⟨_,rfl⟩,rfl⟩
 refine goC h ?_ ?_<;>intro c5 h
 ·refine goL ?_;obtain⟨⟨cx,cy,cz,c0,c1,c2,c3,c6⟩,cl,h⟩:=pI h;have sx6:=gCn (gB.mk ai aj ak al am an ao ap) 8;rw [cl] at sx6;refine pX (gD (sx6)) ?_;refine uX (jI TBd.h TZ.h rfl (by repeat constructor)) ?_;refine uX (jI TBd.h TZ.h rfl (by repeat constructor)) ?_;exact goR h
 ·refine noS ?_;refine sZ 2 ?_;refine goW ?_;refine hXf (us:=jJ [(gF.mk aq ar au)]) ?_;refine goW ?_;obtain⟨g7,h⟩:=mI h;refine uL g7 ?_;refine goW ?_;obtain⟨⟨⟨bw,bx,bz,b0,b1,b2,b4,b5⟩,c7⟩,cm,h⟩:=gK h;refine gSk (LH.frz 8 (h:=LH.cN (ah _ _ _ _ _ _ cm))) ?_;refine goW ?_;refine jY ?_;refine goL ?_;refine uX (jI TBd.h TZ.h rfl (by repeat constructor)) ?_;obtain⟨⟨⟨b6,b7,b8,b9,ca,cb,cc,cd⟩,⟨bh,bi,⟨av,aw⟩,bj⟩⟩,cn,h⟩:=gK h;refine pX (gD (gZj _ _ _ cn)) ?_;refine gCj ?_;refine sZ 0 ?_;refine goW ?_;refine uK (us:=mD [(gN.mk bh bi (gI.mk av aw) bj)]) ?_;refine goW ?_;refine jY ?_;refine goL ?_;refine jS 9 rfl rfl ?_;refine jH ?_;cases h;exact mM
def gI8(f:kH→(List jT)→gB→gY→Option (gB × jN × gF))(a0:kH)(a1:List jT)(a3:List gY)(a4:List gF)(a5:Int):Nat→Int→Int→Int→(List gM)→(List kK)→(List jZ)→Int→Int→(List jN)→Int→Option (gB × List jN)
 | 0,y1,y2,y3,y4,y5,y6,y7,y8,y9,aa=>none
 | ac+1,y1,y2,y3,y4,y5,y6,y7,y8,y9,aa=>lt_ (cnd (decide (aa < (a3.length:Int))) (y7==0) (false)) fun aq=>
(cnd aq (
bnd (at? a3 aa) fun ar=>
bnd (f a0 a1 (gB.mk y1 y2 y3 y4 y5 y6 y7 y8) ar) fun q=>
(cnd (q.1.code==0) (
bnd (at? a4 aa) fun au=>
bnd (gI6 a0 q.1 a5 au q.2.2) fun y=>
gd (y9.length+[q.2.1].length≤4294967296) (
gI8 f a0 a1 a3 a4 a5 ac y.next y.count y.node y.bindings y.equations y.obligations y.code y.at_ (y9++[q.2.1]) (IntKind.i64.wrap (aa+1)))) (
gd (y9.length+[q.2.1].length≤4294967296) (
gI8 f a0 a1 a3 a4 a5 ac q.1.next q.1.count q.1.node q.1.bindings q.1.equations q.1.obligations q.1.code q.1.at_ (y9++[q.2.1]) (IntKind.i64.wrap (aa+1)))))) (some ((gB.mk y1 y2 y3 y4 y5 y6 y7 y8),y9)))
def gV1(ah:kH→(List jT)→gB→gY→Int→Option (gB × jN × gF))(ad:kH→(List jT)→gB→gY→Option (gB × jN × gF))(q:kH→(List jT)→gB→gY→Int→Option (gB × jN × gF))(ae:kH→(List jT)→gB→gY→Int→Option (gB × jN × gF))(y:kH→(List jT)→gB→gY→Int→Option (gB × jN × gF))(aa:kH→(List jT)→gB→(List gY)→(List gF)→Int→Option (gB × List jN))(ab:kH→(List jT)→gB→gY→Int→Option (gB × jN × gF))(ac:kH→(List jT)→gB→gY→Int→Option (gB × jN × gF))(f:kH→(List jT)→gB→gY→Option (gB × jN × gF))(a0:kH)(a1:List jT)(a2:gB)(a3:List gY)(a4:List gF)(a5:Int)(n0:Nat):Option (gB × List jN):=
gI8 f a0 a1 a3 a4 a5 n0 a2.next a2.count a2.node a2.bindings a2.equations a2.obligations a2.code a2.at_ [] 0
theorem hKh{ar}{ap}{ab}{aq}{ac}{ad}{ae}{ag}{aa}(b1:gMd ar)(bp:gIk ap)(bj:gE0 ab)(bq:gIl aq)(bk:gE1 ac)(bl:gE2 ad)(bm:gE3 ae)(bn:gE4 ag)(av:gGz aa)(a0:kH)(a1:List jT)(a2:gB)(a3:List gY)(a4:List gF)(a5:Int){n0:Nat}{r:gB × List jN}(h:gV1 ar ap ab aq ac ad ae ag aa a0 a1 a2 a3 a4 a5 n0=some r):Go.Eng.Spec Tryz.prog 235 [.d (gF5 a0),.L 4 (mK a1),.d (jR a2),.L 9 (vP a3),.L 3 (jJ a4),.I a5] [] (fun sv Lo=>sv=.tup [.d (jR r.1),.sl 0 0]∧Lo=[.arr 48 11 0 (zK r.2)]):=by
 obtain⟨⟨aw⟩,a6,a7,a8⟩:=a0;obtain⟨cf,cg,ch,ci,cj,ck,cl,cm⟩:=a2;unfold gV1 at h;refine pK 0 Tryz.func235 rfl (by kernel_rfl) rfl rfl fun A _=>?_;refine goL ?_;refine qO ?_;refine goL ?_;refine noB ?_;refine hGy (fun(ax:Nat)(y1:Int)(y2:Int)(y3:Int)(y4:List gM)(y5:List kK)(y6:List jZ)(y7:Int)(y8:Int)(y9:List jN)(ay:Int)(au:Nat)=>⟨[(1,.L 4 (mK a1)),(3,.L 9 (vP a3)),(4,.L 3 (jJ a4)),(5,.I a5),(6,.ptr 0 0),(8,.ptr 1 0),(12,.ptr 2 0),(14,.sl 3 au),(15,.I ay)],[b33 aw a6 a7 a8,bSt y1 y2 y3 y4 y5 y6 y7 y8,.box [.I 0,.I 0,.I 0,.nilsl,.nilsl,.nilsl,.I 0,.I 0],.arr 48 11 au (zK y9)],Tryz.f235.ntmps⟩) (fun ax y1 y2 y3 y4 y5 y6 y7 y8 y9 ay au=>gI8 aa (kH.mk (gG.mk aw) a6 a7 a8) a1 a3 a4 a5 ax y1 y2 y3 y4 y5 y6 y7 y8 y9 ay=some r) (fun ax y1 y2 y3 y4 y5 y6 y7 y8 y9 ay au=>ax) n0 cf cg ch ci cj ck cl cm [] 0 0 eJ h ?_;rintro ax y1 y2 y3 y4 y5 y6 y7 y8 y9 ay au h;rcases ax with _ | ax
 ·cases h
 rw [gI8.eq_2] at h;refine goL ?_;obtain⟨cx,hb13,h⟩:=pI h;refine kG ⟨[(1,.L 4 (mK a1)),(3,.L 9 (vP a3)),(4,.L 3 (jJ a4)),(5,.I a5),(6,.ptr 0 0),(8,.ptr 1 0),(12,.ptr 2 0),(14,.sl 3 au),(15,.I ay),(28,.B cx)],[b33 aw a6 a7 a8,bSt y1 y2 y3 y4 y5 y6 y7 y8,.box [.I 0,.I 0,.I 0,.nilsl,.nilsl,.nilsl,.I 0,.I 0],.arr 48 11 au (zK y9)],Tryz.f235.ntmps⟩ ?_ ?_
 ·exact gqZ 24 hb13
 refine goC h ?_ ?_<;>intro dc h
 ·refine noS ?_;refine kC (gP ?_);refine sZ 3 ?_;refine goW ?_;obtain⟨cy,a9,h⟩:=gK h;obtain⟨b2,a9⟩:=yY a9;obtain⟨cz,c0,c1,c2,⟨cn,co,cp⟩,c3,c4⟩:=cy;refine kR (fun _=>kY b2 (gO4 a9)) ?_;refine goW ?_;obtain⟨⟨⟨ba,bb,bc,bd,be,bf,bg,bh⟩,⟨ah,ai,aj,ak,⟨f,q,y⟩,al,am,an,ao⟩,⟨cq,cr,cs⟩⟩,ct,h⟩:=gK h;refine kR (fun _=>gD (av _ _ _ _ ct)) ?_;refine goW ?_;refine jY ?_;refine goC h ?_ ?_<;>intro dd h
  ·refine dZ 0 ?_;refine goW ?_;obtain⟨c5,bi,h⟩:=gK h;obtain⟨b3,bi⟩:=yY bi;obtain⟨c6,c7,c8⟩:=c5;refine kR (fun _=>kY b3 (gAw bi)) ?_;refine goW ?_;obtain⟨⟨b4,b5,b6,b7,b8,b9,ca,cb⟩,cu,h⟩:=gK h;refine kR (fun _=>gD (gOm _ _ _ _ _ cu)) ?_;refine goW ?_;refine jY ?_;refine goL ?_;refine uN (u:=(.st [.i .i64 ah,.s ai,.s aj,.i .i64 ak,.st [.i .i64 f,.s q,.sl 3 (jJ y)],.sl 3 (jJ al),.sl 5 (mD am),.sl 11 (zK an),.sl 13 (vK ao)])) ?_;obtain⟨c9,h⟩:=mI h;refine vR c9 ?_;refine goL ?_;refine gX (pR) ?_;exact⟨ax,b4,b5,b6,b7,b8,b9,ca,cb,(y9++[(jN.mk ah ai aj ak (gF.mk f q y) al am an ao)]),(IntKind.i64.wrap (ay+1)),(au+1),h,Nat.lt_succ_self _,eJ⟩
  ·refine goS ?_;refine uN (u:=(.st [.i .i64 ah,.s ai,.s aj,.i .i64 ak,.st [.i .i64 f,.s q,.sl 3 (jJ y)],.sl 3 (jJ al),.sl 5 (mD am),.sl 11 (zK an),.sl 13 (vK ao)])) ?_;obtain⟨da,h⟩:=mI h;refine vR da ?_;refine goL ?_;refine gX (pR) ?_;exact⟨ax,ba,bb,bc,bd,be,bf,bg,bh,(y9++[(jN.mk ah ai aj ak (gF.mk f q y) al am an ao)]),(IntKind.i64.wrap (ay+1)),(au+1),h,Nat.lt_succ_self _,eJ⟩
 ·refine goX ?_;refine jH4 (fr':=[(12,.ptr 1 0),(13,.sl 0 au)]) (Lc:=[.arr 48 11 au (zK y9),bSt y1 y2 y3 y4 y5 y6 y7 y8]) 0 [3,2] ?_;refine jH6 (fr':=[(12,.ptr 1 0),(13,.sl 0 0)]) (L':=[.arr 48 11 0 (zK y9),bSt y1 y2 y3 y4 y5 y6 y7 y8]) 0 0 ?_;refine jH ?_;obtain rfl:=Option.some.inj h;exact gHr [.d (.st [.i .i64 y1,.i .i64 y2,.i .i64 y3,.sl 4 (jM y4),.sl 7 (vV y5),.sl 5 (uY y6),.i .i64 y7,.i .i64 y8]),.sl 0 0] _ ⟨rfl,rfl⟩
def gI9(a3:gY)(a4:Int)(x1:kF × Int × Bool)(x6:gB × List gM × List gF)(ak:gB × List jN):List gU→Int→Int→Int→(List gM)→(List kK)→(List jZ)→Int→Int→(List gN)→Option (gB × jN × gF)
 | [],y,aa,ab,ac,ad,ae,ag,ah,q=>gd (bok x6.2.1∧tok x1.1.result) (lt_ (apT x6.2.1 x1.1.result) fun am=>
some ((gB.mk y aa ab ac ad ae ag ah),(jN.mk 4 [] a3.name 0 (gF.mk 0 [] []) x6.2.2 q ak.2 []),am))
 | ai::xs,y,aa,ab,ac,ad,ae,ag,ah,q=>gd (bok x6.2.1∧tok ai.type_) (lt_ (apT x6.2.1 ai.type_) fun an=>
bnd (gRr (gB.mk y aa ab ac ad ae ag ah) a4 (gU.mk ai.trait an)) fun f=>
gd (q.length+[f.2].length≤4294967296) (
gI9 a3 a4 x1 x6 ak xs f.1.next f.1.count f.1.node f.1.bindings f.1.equations f.1.obligations f.1.code f.1.at_ (q++[f.2])))
def gJa(f:kH→(List jT)→gB→(List gY)→(List gF)→Int→Option (gB × List jN))(a0:kH)(a1:List jT)(a3:gY)(a4:Int)(x1:kF × Int × Bool)(y:gB × List gM × List gF):List jT→(List gF)→Option (gB × jN × gF)
 | [],y7=>bnd (f a0 a1 y.1 a3.args y7 a4) fun q=>
gI9 a3 a4 x1 y q x1.1.where_ q.1.next q.1.count q.1.node q.1.bindings q.1.equations q.1.obligations q.1.code q.1.at_ []
 | aa::xs,y7=>gd (bok y.2.1∧tok aa.type_) (lt_ (apT y.2.1 aa.type_) fun ab=>
gd (y7.length+[ab].length≤4294967296) (
gJa f a0 a1 a3 a4 x1 y xs (y7++[ab])))
def gV2(ag:kH→(List jT)→gB→gY→Int→Option (gB × jN × gF))(ac:kH→(List jT)→gB→gY→Option (gB × jN × gF))(q:kH→(List jT)→gB→gY→Int→Option (gB × jN × gF))(ad:kH→(List jT)→gB→gY→Int→Option (gB × jN × gF))(y:kH→(List jT)→gB→gY→Int→Option (gB × jN × gF))(f:kH→(List jT)→gB→(List gY)→(List gF)→Int→Option (gB × List jN))(aa:kH→(List jT)→gB→gY→Int→Option (gB × jN × gF))(ab:kH→(List jT)→gB→gY→Int→Option (gB × jN × gF))(ae:kH→(List jT)→gB→gY→Option (gB × jN × gF))(a0:kH)(a1:List jT)(a2:gB)(a3:gY)(a4:Int):Option (gB × jN × gF):=
lt_ (gK1 a0.w a3.name) fun x1=>
lt_ (cnd (!x1.2.2) (true) ((x1.1.params.length:Int) !=(a3.args.length:Int))) fun b2=>
(cnd b2 (
lt_ (gAb a2 8) fun x5=>
some (x5,(jN.mk 0 [] [] 0 (gF.mk 0 [] []) [] [] [] []),(gF.mk 0 [] []))) (
bnd (gOs a2 x1.1.vars) fun x6=>
gJa f a0 a1 a3 a4 x1 x6 x1.1.params []))
theorem hKi{bh}{bd}{av}{be}{aw}{am}{ax}{ay}{bf}(de:gMd bh)(c9:gIk bd)(c5:gE0 av)(da:gIl be)(c6:gE1 aw)(bv:gE2 am)(c7:gE3 ax)(c8:gE4 ay)(db:gGz bf)(a0:kH)(a1:List jT)(a2:gB)(a3:gY)(a4:Int){r:gB × jN × gF}(h:gV2 bh bd av be aw am ax ay bf a0 a1 a2 a3 a4=some r):gW Tryz.prog 229 [.d (gF5 a0),.L 4 (mK a1),.d (jR a2),.d (vX a3),.I a4] [jR r.1,gBo r.2.1,kT r.2.2]:=by
 obtain⟨⟨an⟩,bx,bz,b0⟩:=a0;obtain⟨dg,dh,di,dj,dk,dl,dm,dn⟩:=a2;obtain⟨b1,b3,bg,b4,⟨ao,ap,aq⟩,bi,b5⟩:=a3;unfold gV2 at h;refine SpI Tryz.func229 fun A _=>?_;refine goL ?_;obtain⟨⟨⟨ar,au,ak,al,⟨aa,ab,ac⟩,⟨ad,ae,ag,ah,⟨f,q,y⟩,ai,aj⟩⟩,dp,dq⟩,d6,h⟩:=pI h;have sx1:=hBp (gG.mk an) bg;rw [d6] at sx1;refine gX (gD (sx1)) ?_;obtain⟨b2,hb2,h⟩:=pI h;refine kG ⟨[(1,.L 4 (mK a1)),(4,.I a4),(5,.ptr 0 0),(7,.ptr 1 0),(8,.ptr 2 0),(10,.ptr 3 0),(11,.ptr 4 0),(12,.ptr 5 0),(13,.ptr 6 0),(44,.B b2)],[b33 an bx bz b0,bSt dg dh di dj dk dl dm dn,bEx b1 b3 bg b4 ao ap aq bi b5,.box [.I 0,.I 0,.I 0,.nilsl,.nilsl,.nilsl,.I 0,.I 0],.box [.I 0,.S [],.S [],.I 0,.I 0,.S [],.nilsl,.nilsl,.nilsl,.nilsl,.nilsl],.box [.I 0,.S [],.nilsl],.box [.S ar,.L 1 (kD au),.L 4 (kM ak),.L 4 (mK al),.I aa,.S ab,.L 3 (jJ ac),.I ad,.S ae,.S ag,.I ah,.I f,.S q,.L 3 (jJ y),.L 9 (vP ai),.L 11 (gBv aj)]],Tryz.f229.ntmps⟩ ?_ ?_
 ·exact gqZ 36 hb2
 refine goC h ?_ ?_<;>intro c4 h
 ·refine goL ?_;obtain⟨⟨eo,ep,er,et,eu,ev,ew,ex⟩,d7,h⟩:=pI h;have sx5:=gCn (gB.mk dg dh di dj dk dl dm dn) 8;rw [d7] at sx5;refine pX (gD (sx5)) ?_;refine uX (jI TBd.h TZ.h rfl (by repeat constructor)) ?_;refine uX (jI TBd.h TZ.h rfl (by repeat constructor)) ?_;exact goR h
 ·refine goS ?_;obtain⟨⟨⟨a5,a6,a7,a8,a9,ba,bb,bc⟩,bj,cc⟩,d8,h⟩:=gK h;refine gX (gD (gWg _ _ d8)) ?_;refine qO ?_;refine goL ?_;refine noB ?_;refine pG 6 3 (fun ez=>?_);refine kQ (fun(y9:Nat)(y7:List gF)(v8:Nat)=>⟨[(1,.L 4 (mK a1)),(4,.I a4),(5,.ptr 0 0),(7,.ptr 1 0),(8,.ptr 2 0),(10,.ptr 3 0),(11,.ptr 4 0),(12,.ptr 5 0),(13,.ptr 6 0),(16,.L 4 (jM bj)),(17,.L 3 (jJ cc)),(18,.sl 7 v8),(19,.N y9)],[b33 an bx bz b0,bSt a5 a6 a7 a8 a9 ba bb bc,bEx b1 b3 bg b4 ao ap aq bi b5,.box [.I 0,.I 0,.I 0,.nilsl,.nilsl,.nilsl,.I 0,.I 0],.box [.I 0,.S [],.S [],.I 0,.I 0,.S [],.nilsl,.nilsl,.nilsl,.nilsl,.nilsl],.box [.I 0,.S [],.nilsl],.box [.S ar,.L 1 (kD au),.L 4 (kM ak),.L 4 (mK al),.I aa,.S ab,.L 3 (jJ ac),.I ad,.S ae,.S ag,.I ah,.I f,.S q,.L 3 (jJ y),.L 9 (vP ai),.L 11 (gBv aj)],.arr 43 3 v8 (jJ y7)],Tryz.f229.ntmps⟩) (fun y9 y7 v8=>gJa am (kH.mk (gG.mk an) bx bz b0) a1 (gY.mk b1 b3 bg b4 (gF.mk ao ap aq) bi b5) a4 ((kF.mk ar au ak al (gF.mk aa ab ac) (gY.mk ad ae ag ah (gF.mk f q y) ai aj)),dp,dq) ((gB.mk a5 a6 a7 a8 a9 ba bb bc),bj,cc) (al.drop y9) y7=some r) (fun y9 y7 v8=>al.length - y9) 0 [] 0 eJ h ?_;rintro y9 y7 v8 h;refine goL ?_;refine kN (fun dt=>?_) (fun dt=>?_)
  ·have ca:=qB dt;obtain⟨d9,dx,du⟩:=drop_at ca;rw [du,gJa.eq_2] at h;obtain⟨ea,⟨cf,cg,ch⟩⟩:=d9;refine noS ?_;refine kC (gP ?_);refine goL ?_;refine gX (gV y9 (gQf dx)) ?_;obtain⟨eb,h⟩:=mI h;obtain⟨⟨ci,cj,ck⟩,dy,h⟩:=pI h;have sx14:=(gDi bj (gF.mk cf cg ch) eb).p;rw [dy] at sx14;refine pX (gD (sx14)) ?_;refine uN (u:=(.st [.i .i64 ci,.s cj,.sl 3 (jJ ck)])) ?_;obtain⟨ec,h⟩:=mI h;refine vR ec ?_;refine goL ?_;refine gX (jK y9 (by omega)) ?_;exact⟨(y9+1),(y7++[(gF.mk ci cj ck)]),(v8+1),h,by omega,eJ⟩
  ·have ca:=qC dt;rw [gT ca,gJa.eq_1] at h;refine goX ?_;refine qV 7 rfl rfl ?_;obtain⟨⟨⟨bk,bl,bm,bn,bo,bp,bq,br⟩,cb⟩,dz,h⟩:=gK h;refine gLg [] (bv (kH.mk (gG.mk an) bx bz b0) a1 (gB.mk a5 a6 a7 a8 a9 ba bb bc) bi y7 a4 dz) ?_;rintro _ _ ⟨rfl,rfl⟩;show VO _ _ _ _ ⟨(_,.tup [.d (.st [.i .i64 bk,.i .i64 bl,.i .i64 bm,.sl 4 (jM bn),.sl 7 (vV bo),.sl 5 (uY bp),.i .i64 bq,.i .i64 br]),.sl 8 0])::_,[b33 an bx bz b0,bSt a5 a6 a7 a8 a9 ba bb bc,bEx b1 b3 bg b4 ao ap aq bi b5,.box [.I 0,.I 0,.I 0,.nilsl,.nilsl,.nilsl,.I 0,.I 0],.box [.I 0,.S [],.S [],.I 0,.I 0,.S [],.nilsl,.nilsl,.nilsl,.nilsl,.nilsl],.box [.I 0,.S [],.nilsl],.box [.S ar,.L 1 (kD au),.L 4 (kM ak),.L 4 (mK al),.I aa,.S ab,.L 3 (jJ ac),.I ad,.S ae,.S ag,.I ah,.I f,.S q,.L 3 (jJ y),.L 9 (vP ai),.L 11 (gBv aj)],.frz 43 3 v8 (jJ y7),.arr 48 11 0 (zK cb)],_⟩ _;refine goL ?_;refine gC1 (jI TBd.h TZ.h rfl (by repeat constructor)) ?_;refine noB ?_;refine uA 106 5 9 8 rfl rfl (by repeat constructor) (by repeat constructor) (by repeat constructor) (by repeat constructor) ?_;show V _ _ _ _ _;refine pG 6 2 (fun e0=>?_);refine hQ9 (fun(bw:Nat)(cl:Int)(cm:Int)(cn:Int)(co:List gM)(cp:List kK)(cq:List jZ)(cr:Int)(cs:Int)(cd:List gN)(ce:Nat)=>⟨[(4,.I a4),(7,.ptr 1 0),(10,.ptr 3 0),(11,.ptr 4 0),(12,.ptr 5 0),(13,.ptr 6 0),(16,.L 4 (jM bj)),(21,.ptr 9 0),(22,.N bw)],[b33 an bx bz b0,bSt cl cm cn co cp cq cr cs,bEx b1 b3 bg b4 ao ap aq bi b5,.box [.I 0,.I 0,.I 0,.nilsl,.nilsl,.nilsl,.I 0,.I 0],.box [.I 0,.S [],.S [],.I 0,.I 0,.S [],.nilsl,.nilsl,.nilsl,.nilsl,.nilsl],.box [.I 0,.S [],.nilsl],.box [.S ar,.L 1 (kD au),.L 4 (kM ak),.L 4 (mK al),.I aa,.S ab,.L 3 (jJ ac),.I ad,.S ae,.S ag,.I ah,.I f,.S q,.L 3 (jJ y),.L 9 (vP ai),.L 11 (gBv aj)],.frz 43 3 v8 (jJ y7),.arr 48 11 0 (zK cb),.box [.I 4,.S [],.S bg,.I 0,.I 0,.S [],.nilsl,.L 3 (jJ cc),.sl 10 ce,.sl 8 0,.nilsl],.arr 106 5 ce (mD cd)],Tryz.f229.ntmps⟩) (fun bw cl cm cn co cp cq cr cs cd ce=>gI9 (gY.mk b1 b3 bg b4 (gF.mk ao ap aq) bi b5) a4 ((kF.mk ar au ak al (gF.mk aa ab ac) (gY.mk ad ae ag ah (gF.mk f q y) ai aj)),dp,dq) ((gB.mk a5 a6 a7 a8 a9 ba bb bc),bj,cc) ((gB.mk bk bl bm bn bo bp bq br),cb) (ak.drop bw) cl cm cn co cp cq cr cs cd=some r) (fun bw cl cm cn co cp cq cr cs cd ce=>ak.length - bw) 0 bk bl bm bn bo bp bq br [] 0 eJ h ?_;rintro bw cl cm cn co cp cq cr cs cd ce h;refine goL ?_;refine kN (fun dv=>?_) (fun dv=>?_)
   ·have b6:=qB dv;obtain⟨ed,ds,dw⟩:=drop_at b6;rw [dw,gI9.eq_2] at h;obtain⟨ee,⟨ct,cu,cv⟩⟩:=ed;refine noS ?_;refine kC (gP ?_);refine sZ 2 ?_;refine goW ?_;refine kR (fun _=>gV bw (gF3 ds)) ?_;refine goW ?_;refine kR (fun _=>gV bw (gF3 ds)) ?_;refine goW ?_;obtain⟨ef,h⟩:=mI h;obtain⟨⟨eg,eh,ei⟩,d0,h⟩:=pI h;have sx32:=(gDi bj (gF.mk ct cu cv) ef).p;rw [d0] at sx32;refine kR (fun _=>gD (sx32)) ?_;refine goW ?_;obtain⟨⟨⟨cw,cx,cy,cz,c0,c1,c2,c3⟩,⟨b7,b8,⟨bt,bu⟩,b9⟩⟩,d1,h⟩:=gK h;refine kR (fun _=>gD (gZj _ _ _ d1)) ?_;refine goW ?_;refine jY ?_;refine goL ?_;refine uN (u:=(.st [.i .i64 b7,.i .i64 b8,.st [.i .i64 bt,.i .i64 bu],.sl 5 (mD b9)])) ?_;obtain⟨ej,h⟩:=mI h;refine vR ej ?_;refine goL ?_;refine gX (jK bw (by omega)) ?_;exact⟨(bw+1),cw,cx,cy,cz,c0,c1,c2,c3,(cd++[(gN.mk b7 b8 (gI.mk bt bu) b9)]),(ce+1),h,by omega,eJ⟩
   ·have b6:=qC dv;rw [gT b6,gI9.eq_1] at h;refine noX ?_;refine sZ 0 ?_;refine goW ?_;obtain⟨ek,h⟩:=mI h;obtain⟨⟨el,em,en⟩,d2,h⟩:=pI h;have sx36:=(gDi bj (gF.mk aa ab ac) ek).p;rw [d2] at sx36;refine kR (fun _=>gD (sx36)) ?_;refine goW ?_;refine jY ?_;refine goL ?_;refine jS 10 rfl rfl ?_;refine jS 8 rfl rfl ?_;refine jH ?_;cases h;exact mM
def gV3(ag:kH→(List jT)→gB→gY→Int→Option (gB × jN × gF))(ad:kH→(List jT)→gB→gY→Option (gB × jN × gF))(y:kH→(List jT)→gB→gY→Int→Option (gB × jN × gF))(ae:kH→(List jT)→gB→gY→Int→Option (gB × jN × gF))(aa:kH→(List jT)→gB→gY→Int→Option (gB × jN × gF))(ab:kH→(List jT)→gB→(List gY)→(List gF)→Int→Option (gB × List jN))(ac:kH→(List jT)→gB→gY→Int→Option (gB × jN × gF))(ak:kH→(List jT)→gB→gY→Int→Option (gB × jN × gF))(q:kH→(List jT)→gB→gY→Option (gB × jN × gF))(a0:kH)(a1:List jT)(a2:gB)(f:gY)(a4:Int):Option (gB × jN × gF):=
(cnd (f.kind==1) (
bnd (gTe ) fun x2=>
some (a2,(jN.mk 1 [] [] f.n (gF.mk 0 [] []) [] [] [] []),x2)) (cnd (f.kind==2) (
bnd (gR6 ) fun x4=>
some (a2,(jN.mk 2 [] [] f.n (gF.mk 0 [] []) [] [] [] []),x4)) (cnd (f.kind==3) (
bnd (gT0 a1 f.name) fun x6=>
(cnd (!x6.2) (
lt_ (gAb a2 8) fun x8=>
some (x8,(jN.mk 0 [] [] 0 (gF.mk 0 [] []) [] [] [] []),(gF.mk 0 [] []))) (some (a2,(jN.mk 3 [] f.name 0 (gF.mk 0 [] []) [] [] [] []),x6.1)))) (cnd (f.kind==4) (
bnd (ac a0 a1 a2 f a4) fun ao=>
some (ao.1,ao.2.1,ao.2.2)) (cnd (f.kind==5) (
bnd (aa a0 a1 a2 f a4) fun ap=>
some (ap.1,ap.2.1,ap.2.2)) (cnd (f.kind==6) (
bnd (ae a0 a1 a2 f a4) fun aq=>
some (aq.1,aq.2.1,aq.2.2)) (cnd (f.kind==7) (
bnd (y a0 a1 a2 f a4) fun ar=>
some (ar.1,ar.2.1,ar.2.2)) (cnd (f.kind==8) (
bnd (ad a0 a1 a2 f) fun au=>
some (au.1,au.2.1,au.2.2)) (cnd (f.kind==9) (
bnd (ag a0 a1 a2 f a4) fun av=>
some (av.1,av.2.1,av.2.2)) (cnd (f.kind==10) (
bnd (gTe ) fun ax=>
bnd (gTe ) fun ay=>
bnd (ab a0 a1 a2 f.args [ax,ay] a4) fun al=>
(cnd (wM [[60],[61]] f.name) (
bnd (gR6 ) fun a5=>
some (al.1,(jN.mk 10 [] f.name 0 (gF.mk 0 [] []) [] [] al.2 []),a5)) (
bnd (gTe ) fun a6=>
some (al.1,(jN.mk 10 [] f.name 0 (gF.mk 0 [] []) [] [] al.2 []),a6)))) (cnd (f.kind==11) (
bnd (at? f.args 0) fun a7=>
bnd (q a0 a1 a2 a7) fun am=>
bnd (gRr am.1 a4 (gU.mk f.trait am.2.2)) fun aw=>
some (aw.1,(jN.mk 11 f.trait [] 0 am.2.2 [] [aw.2] [am.2.1] []),(gF.mk 4 f.trait []))) (
bnd (at? f.args 0) fun a8=>
bnd (q a0 a1 a2 a8) fun ai=>
(cnd (ai.1.code==0) (
bnd (gI6 a0 ai.1 a4 f.type_ ai.2.2) fun a9=>
gd (tok f.type_) (lt_ (idT f.type_) fun ba=>
some (a9,ai.2.1,ba))) (
gd (tok f.type_) (lt_ (idT f.type_) fun bb=>
some (ai.1,ai.2.1,bb))))))))))))))))
theorem hKj{ah}{ad}{f}{ae}{q}{y}{aa}{ab}{ag}(ao:gMd ah)(am:gIk ad)(ai:gE0 f)(an:gIl ae)(aj:gE1 q)(ak:gE2 y)(al:gE3 aa)(bi:gE4 ab)(ac:gGz ag)(a0:kH)(a1:List jT)(a2:gB)(a3:gY)(a4:Int){r:gB × jN × gF}(h:gV3 ah ad f ae q y aa ab ag a0 a1 a2 a3 a4=some r):gW Tryz.prog 177 [.d (gF5 a0),.L 4 (mK a1),.d (jR a2),.d (vX a3),.I a4] [jR r.1,gBo r.2.1,kT r.2.2]:=by
 obtain⟨⟨h1⟩,ji,jj,jk⟩:=a0;obtain⟨cf,cg,ch,ci,cj,ck,cl,cm⟩:=a2;obtain⟨jl,jm,cn,jn,⟨aw,ax,ay⟩,jo,jp⟩:=a3;unfold gV3 at h;refine SpI Tryz.func177 fun A _=>?_;refine goL ?_;refine gP ?_;refine goC h ?_ ?_<;>intro c1 h
 ·refine sZ 0 ?_;refine goW ?_;obtain⟨⟨jq,jr,jt⟩,h8,h⟩:=gK h;refine kR (fun _=>gD (hAd  h8)) ?_;refine goW ?_;refine jY ?_;exact goR h
 ·refine goC h ?_ ?_<;>intro c3 h
  ·refine sZ 0 ?_;refine goW ?_;obtain⟨⟨ju,jv,jw⟩,h9,h⟩:=gK h;refine kR (fun _=>gD (hAe  h9)) ?_;refine goW ?_;refine jY ?_;exact goR h
  ·refine goC h ?_ ?_<;>intro c5 h
   ·refine goL ?_;obtain⟨⟨⟨h2,h3,h4⟩,jx⟩,ia,h⟩:=gK h;refine gX (gD (gSz _ _ ia)) ?_;refine kN (fun c7=>?_) (fun c7=>?_)
    ·replace h:=jU c7 h;refine goL ?_;obtain⟨⟨jy,jz,j0,j1,j2,j3,j4,j5⟩,ic,h⟩:=pI h;have sx8:=gCn (gB.mk cf cg ch ci cj ck cl cm) 8;rw [ic] at sx8;refine pX (gD (sx8)) ?_;refine uX (jI TBd.h TZ.h rfl (by repeat constructor)) ?_;refine uX (jI TBd.h TZ.h rfl (by repeat constructor)) ?_;exact goR h
    ·replace h:=jV c7 h;refine noS ?_;refine sZ 0 ?_;refine goW ?_;refine jY ?_;exact goR h
   ·refine goC h ?_ ?_<;>intro c9 h
    ·refine goL ?_;obtain⟨⟨⟨co,cp,cq,cr,cs,ct,cu,cv⟩,⟨cw,cx,cy,cz,⟨bj,bk,bl⟩,c0,c2,c4,c6⟩,⟨c8,da,db⟩⟩,dc,h⟩:=gK h;refine pX (gD (al _ _ _ _ _ dc)) ?_;exact goR h
    ·refine goC h ?_ ?_<;>intro j6 h
     ·refine goL ?_;obtain⟨⟨⟨dd,de,df,dg,dh,di,dj,dk⟩,⟨dl,dm,dn,dp,⟨bm,bn,bo⟩,dq,dr,ds,dt⟩,⟨du,dv,dw⟩⟩,dx,h⟩:=gK h;refine pX (gD (aj _ _ _ _ _ dx)) ?_;exact goR h
     ·refine goC h ?_ ?_<;>intro j7 h
      ·refine goL ?_;obtain⟨⟨⟨dy,dz,d0,d1,d2,d3,d4,d5⟩,⟨d6,d7,d8,d9,⟨bp,bq,br⟩,ea,eb,ec,ed⟩,⟨ee,ef,eg⟩⟩,eh,h⟩:=gK h;refine pX (gD (an _ _ _ _ _ eh)) ?_;exact goR h
      ·refine goC h ?_ ?_<;>intro j8 h
       ·refine goL ?_;obtain⟨⟨⟨ei,ej,ek,el,em,en,eo,ep⟩,⟨er,et,eu,ev,⟨bt,bu,bv⟩,ew,ex,ey,ez⟩,⟨e0,e1,e2⟩⟩,e3,h⟩:=gK h;refine pX (gD (ai _ _ _ _ _ e3)) ?_;exact goR h
       ·refine goC h ?_ ?_<;>intro j9 h
        ·refine goL ?_;obtain⟨⟨⟨e4,e5,e6,e7,e8,e9,fa,fb⟩,⟨fc,fd,fe,ff,⟨bw,bx,bz⟩,fg,fh,fi,fj⟩,⟨fk,fl,fm⟩⟩,fn,h⟩:=gK h;refine pX (gD (am _ _ _ _ fn)) ?_;exact goR h
        ·refine goC h ?_ ?_<;>intro ka h
         ·refine goL ?_;obtain⟨⟨⟨fo,fp,fq,fr,fs,ft,fu,fv⟩,⟨fw,fx,fy,fz,⟨b0,b1,b2⟩,f0,f1,f2,f3⟩,⟨f4,f5,f6⟩⟩,f7,h⟩:=gK h;refine pX (gD (ao _ _ _ _ _ f7)) ?_;exact goR h
         ·refine goC h ?_ ?_<;>intro kb h
          ·refine sZ 2 ?_;refine goW ?_;obtain⟨⟨b3,b4,b5⟩,f8,h⟩:=gK h;refine kR (fun _=>gD (hAd  f8)) ?_;obtain⟨⟨b6,b7,b8⟩,f9,h⟩:=gK h;refine kR (fun _=>gD (hAd  f9)) ?_;refine uK (us:=jJ [(gF.mk b3 b4 b5),(gF.mk b6 b7 b8)]) ?_;refine goW ?_;obtain⟨⟨⟨ga,gb,gc,gd,ge,gf,gg,gh⟩,id⟩,gi,h⟩:=gK h;refine gSk (LH.cN (ak _ _ _ _ _ _ gi)) ?_;refine goW ?_;refine jY ?_;refine goL ?_;refine gPb (us:=kD [[60],[61]]) ?_;refine goL ?_;refine gC1 (gUn (gC5 [[60],[61]] cn)) ?_;refine kN (fun b9=>?_) (fun b9=>?_)
           ·replace h:=jU b9 h;refine sZ 0 ?_;refine goW ?_;obtain⟨⟨ie,ig,ih⟩,gj,h⟩:=gK h;refine kR (fun _=>gD (hAe  gj)) ?_;refine goW ?_;refine jY ?_;refine goL ?_;refine jS 6 rfl rfl ?_;refine jH ?_;cases h;exact mM
           ·replace h:=jV b9 h;refine noS ?_;refine sZ 0 ?_;refine goW ?_;obtain⟨⟨ii,ij,ik⟩,gk,h⟩:=gK h;refine kR (fun _=>gD (hAd  gk)) ?_;refine goW ?_;refine jY ?_;refine goL ?_;refine jS 6 rfl rfl ?_;refine jH ?_;cases h;exact mM
          ·refine goC h ?_ ?_<;>intro kc h
           ·refine sZ 3 ?_;refine goW ?_;obtain⟨il,a5,h⟩:=gK h;obtain⟨ca,a5⟩:=yY a5;obtain⟨im,io,ip,iq,⟨gl,gm,gn⟩,ir,it⟩:=il;refine kR (fun _=>kY ca (gO4 a5)) ?_;refine goW ?_;obtain⟨⟨⟨go,gp,gq,gr,gs,gt,gu,gv⟩,⟨a6,a7,a8,a9,⟨ap,aq,ar⟩,ba,bb,bc,bd⟩,⟨gw,gx,gy⟩⟩,gz,h⟩:=gK h;refine kR (fun _=>gD (ac _ _ _ _ gz)) ?_;refine goW ?_;refine jY ?_;refine goL ?_;refine uX (jI TBd.h TZ.h rfl (by repeat constructor)) ?_;obtain⟨⟨⟨g0,g1,g2,g3,g4,g5,g6,g7⟩,⟨be,bf,⟨au,av⟩,bg⟩⟩,g8,h⟩:=gK h;refine pX (gD (gZj _ _ _ g8)) ?_;refine gCj ?_;refine sZ 0 ?_;refine goW ?_;refine uK (us:=mD [(gN.mk be bf (gI.mk au av) bg)]) ?_;refine goW ?_;refine uK (us:=zK [(jN.mk a6 a7 a8 a9 (gF.mk ap aq ar) ba bb bc bd)]) ?_;refine goW ?_;refine jY ?_;exact goR h
           ·refine noS ?_;refine sZ 2 ?_;refine goW ?_;obtain⟨iu,bh,h⟩:=gK h;obtain⟨cb,bh⟩:=yY bh;obtain⟨iv,iw,ix,iy,⟨g9,ha,hb⟩,iz,i0⟩:=iu;refine kR (fun _=>kY cb (gO4 bh)) ?_;refine goW ?_;obtain⟨⟨⟨hc,hd,he,hg,hh,hi,hj,hk⟩,⟨hl,hm,hn,ho,⟨cc,cd,ce⟩,hp,hq,hr,hs⟩,⟨ht,hu,hw⟩⟩,hx,h⟩:=gK h;refine kR (fun _=>gD (ac _ _ _ _ hx)) ?_;refine goW ?_;refine jY ?_;refine goC h ?_ ?_<;>intro kd h
            ·refine goL ?_;obtain⟨⟨i1,i2,i3,i4,i5,i6,i7,i8⟩,hy,h⟩:=gK h;refine pX (gD (gOm _ _ _ _ _ hy)) ?_;refine gCj ?_;refine sZ 0 ?_;refine goW ?_;obtain⟨i9,h⟩:=mI h;obtain⟨⟨ja,jb,jc⟩,hz,h⟩:=pI h;have sx37:=(mR (gF.mk aw ax ay) i9).p;rw [hz] at sx37;refine kR (fun _=>gD (sx37)) ?_;refine goW ?_;refine jY ?_;exact goR h
            ·refine noS ?_;refine sZ 0 ?_;refine goW ?_;obtain⟨jd,h⟩:=mI h;obtain⟨⟨je,jf,jg⟩,h0,h⟩:=pI h;have sx39:=(mR (gF.mk aw ax ay) jd).p;rw [h0] at sx39;refine kR (fun _=>gD (sx39)) ?_;refine goW ?_;refine jY ?_;exact goR h
def gZf(ai:kH→(List jT)→gB→gY→Int→Option (gB × jN × gF))(ae:kH→(List jT)→gB→gY→Option (gB × jN × gF))(aa:kH→(List jT)→gB→gY→Int→Option (gB × jN × gF))(ag:kH→(List jT)→gB→gY→Int→Option (gB × jN × gF))(ab:kH→(List jT)→gB→gY→Int→Option (gB × jN × gF))(ac:kH→(List jT)→gB→(List gY)→(List gF)→Int→Option (gB × List jN))(ad:kH→(List jT)→gB→gY→Int→Option (gB × jN × gF))(f:kH→(List jT)→gB→gY→Int→Option (gB × jN × gF))(ah:kH→(List jT)→gB→gY→Option (gB × jN × gF))(a0:kH)(a1:List jT)(q:gB)(a3:gY):Option (gB × jN × gF):=
(cnd (q.code != 0) (some (q,(jN.mk 0 [] [] 0 (gF.mk 0 [] []) [] [] [] []),(gF.mk 0 [] []))) (
bnd (f a0 a1 (gB.mk q.next (IntKind.i64.wrap (q.count+1)) q.count q.bindings q.equations q.obligations q.code q.at_) a3 q.count) fun y=>
cnd (y.1.code != 0) (some (y.1,(jN.mk 0 [] [] 0 (gF.mk 0 [] []) [] [] [] []),(gF.mk 0 [] []))) (some ((gB.mk y.1.next y.1.count q.count y.1.bindings y.1.equations y.1.obligations y.1.code y.1.at_),y.2.1,y.2.2))))
theorem hPl{ag}{ac}{f}{ad}{q}{y}{aa}{ab}{ae}(ap:gMd ag)(am:gIk ac)(ai:gE0 f)(an:gIl ad)(aj:gE1 q)(ak:gE2 y)(al:gE3 aa)(ah:gE4 ab)(ao:gGz ae)(a0:kH)(a1:List jT)(a2:gB)(a3:gY){r:gB × jN × gF}(h:gZf ag ac f ad q y aa ab ae a0 a1 a2 a3=some r):gW Tryz.prog 122 [.d (gF5 a0),.L 4 (mK a1),.d (jR a2),.d (vX a3)] [jR r.1,gBo r.2.1,kT r.2.2]:=by
 obtain⟨⟨av⟩,bt,bu,bv⟩:=a0;obtain⟨bw,bx,bz,b0,b1,b2,b3,b4⟩:=a2;obtain⟨b5,b6,b7,b8,⟨aw,ax,ay⟩,b9,ca⟩:=a3;unfold gZf at h;refine SpI Tryz.func122 fun A _=>?_;refine goC h ?_ ?_<;>intro c1 h
 ·refine goL ?_;refine uX (jI TBd.h TZ.h rfl (by repeat constructor)) ?_;refine uX (jI TBd.h TZ.h rfl (by repeat constructor)) ?_;exact goR h
 ·refine goS ?_;refine gX (pR) ?_;obtain⟨⟨⟨a4,a5,a6,a7,a8,a9,ba,bb⟩,⟨bc,bd,be,bf,⟨aq,ar,au⟩,bg,bh,bi,bj⟩,⟨bk,bl,bm⟩⟩,bq,h⟩:=gK h;refine gX (gD (ah _ _ _ _ _ bq)) ?_;refine kN (fun c3=>?_) (fun c3=>?_)
  ·replace h:=jU c3 h;refine goL ?_;refine uX (jI TBd.h TZ.h rfl (by repeat constructor)) ?_;refine uX (jI TBd.h TZ.h rfl (by repeat constructor)) ?_;exact goR h
  ·replace h:=jV c3 h;refine noS ?_;refine gCj ?_;refine sZ 0 ?_;refine goW ?_;refine jY ?_;exact goR h
mutual
def gMe:Nat→kH→(List jT)→gB→gY→Int→Option (gB × jN × gF)
 | 0,_,_,_,_,_=>none
 | n+1,f,q,y,x3,x4=>hDq (gMe n) (gIm n) (gE5 n) (gIn n) (gE6 n) (gE7 n) (gE8 n) (gE9 n) (gFk n) f q y x3 x4
def gIm:Nat→kH→(List jT)→gB→gY→Option (gB × jN × gF)
 | 0,_,_,_,_=>none
 | n+1,f,q,y,x3=>gZd (gMe n) (gIm n) (gE5 n) (gIn n) (gE6 n) (gE7 n) (gE8 n) (gE9 n) (gFk n) f q y x3
def gE5:Nat→kH→(List jT)→gB→gY→Int→Option (gB × jN × gF)
 | 0,_,_,_,_,_=>none
 | n+1,f,q,y,x3,x4=>gVz (gMe n) (gIm n) (gE5 n) (gIn n) (gE6 n) (gE7 n) (gE8 n) (gE9 n) (gFk n) f q y x3 x4 n
def gIn:Nat→kH→(List jT)→gB→gY→Int→Option (gB × jN × gF)
 | 0,_,_,_,_,_=>none
 | n+1,f,q,y,x3,x4=>gZe (gMe n) (gIm n) (gE5 n) (gIn n) (gE6 n) (gE7 n) (gE8 n) (gE9 n) (gFk n) f q y x3 x4
def gE6:Nat→kH→(List jT)→gB→gY→Int→Option (gB × jN × gF)
 | 0,_,_,_,_,_=>none
 | n+1,f,q,y,x3,x4=>gV0 (gMe n) (gIm n) (gE5 n) (gIn n) (gE6 n) (gE7 n) (gE8 n) (gE9 n) (gFk n) f q y x3 x4
def gE7:Nat→kH→(List jT)→gB→(List gY)→(List gF)→Int→Option (gB × List jN)
 | 0,_,_,_,_,_,_=>none
 | n+1,f,q,y,x3,x4,x5=>gV1 (gMe n) (gIm n) (gE5 n) (gIn n) (gE6 n) (gE7 n) (gE8 n) (gE9 n) (gFk n) f q y x3 x4 x5 n
def gE8:Nat→kH→(List jT)→gB→gY→Int→Option (gB × jN × gF)
 | 0,_,_,_,_,_=>none
 | n+1,f,q,y,x3,x4=>gV2 (gMe n) (gIm n) (gE5 n) (gIn n) (gE6 n) (gE7 n) (gE8 n) (gE9 n) (gFk n) f q y x3 x4
def gE9:Nat→kH→(List jT)→gB→gY→Int→Option (gB × jN × gF)
 | 0,_,_,_,_,_=>none
 | n+1,f,q,y,x3,x4=>gV3 (gMe n) (gIm n) (gE5 n) (gIn n) (gE6 n) (gE7 n) (gE8 n) (gE9 n) (gFk n) f q y x3 x4
def gFk:Nat→kH→(List jT)→gB→gY→Option (gB × jN × gF)
 | 0,_,_,_,_=>none
 | n+1,f,q,y,x3=>gZf (gMe n) (gIm n) (gE5 n) (gIn n) (gE6 n) (gE7 n) (gE8 n) (gE9 n) (gFk n) f q y x3
end
theorem hPm:∀(n:Nat),gMd (gMe n)∧gIk (gIm n)∧gE0 (gE5 n)∧gIl (gIn n)∧gE1 (gE6 n)∧gE2 (gE7 n)∧gE3 (gE8 n)∧gE4 (gE9 n)∧gGz (gFk n):=by
 intro n
 induction n with
 | zero=>exact⟨(by intro f q y x3 x4 r h;cases h),(by intro f q y x3 r h;cases h),(by intro f q y x3 x4 r h;cases h),(by intro f q y x3 x4 r h;cases h),(by intro f q y x3 x4 r h;cases h),(by intro f q y x3 x4 x5 r h;cases h),(by intro f q y x3 x4 r h;cases h),(by intro f q y x3 x4 r h;cases h),(by intro f q y x3 r h;cases h)⟩
 | succ n ih=>
   obtain⟨ih0,ih1,ih2,ih3,ih4,ih5,ih6,ih7,ih8⟩:=ih;refine⟨(fun f q y x3 x4 r h=>hTk ih0 ih1 ih2 ih3 ih4 ih5 ih6 ih7 ih8 f q y x3 x4 h),(fun f q y x3 r h=>hPj ih0 ih1 ih2 ih3 ih4 ih5 ih6 ih7 ih8 f q y x3 h),(fun f q y x3 x4 r h=>hKe ih0 ih1 ih2 ih3 ih4 ih5 ih6 ih7 ih8 f q y x3 x4 h),(fun f q y x3 x4 r h=>hPk ih0 ih1 ih2 ih3 ih4 ih5 ih6 ih7 ih8 f q y x3 x4 h),(fun f q y x3 x4 r h=>hKg ih0 ih1 ih2 ih3 ih4 ih5 ih6 ih7 ih8 f q y x3 x4 h),(fun f q y x3 x4 x5 r h=>hKh ih0 ih1 ih2 ih3 ih4 ih5 ih6 ih7 ih8 f q y x3 x4 x5 h),(fun f q y x3 x4 r h=>hKi ih0 ih1 ih2 ih3 ih4 ih5 ih6 ih7 ih8 f q y x3 x4 h),(fun f q y x3 x4 r h=>hKj ih0 ih1 ih2 ih3 ih4 ih5 ih6 ih7 ih8 f q y x3 x4 h),(fun f q y x3 r h=>hPl ih0 ih1 ih2 ih3 ih4 ih5 ih6 ih7 ih8 f q y x3 h)⟩
theorem hPn:∀(n:Nat),gGz (gFk n):=fun n=>(hPm n).2.2.2.2.2.2.2.2
end Go.Proofs.YtfjncckelekpiaaGreat
