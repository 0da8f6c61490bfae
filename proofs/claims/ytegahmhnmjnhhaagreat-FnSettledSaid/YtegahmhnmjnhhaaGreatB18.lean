import Derived.Test.YtegahmhnmjnhhaaGreatWd
set_option maxHeartbeats 4000000
set_option linter.unusedVariables false
set_option linter.unusedSimpArgs false
set_option linter.unusedSectionVars false
namespace Go.Proofs.YtegahmhnmjnhhaaGreat
open Go Go.Eng
attribute [local irreducible] V VO VQ VY Quiet QR jC kT Rng mU mV mI
def gB0(c:jH):Prop:=0≤c.i∧c.b.length≤1048576
theorem hQd(c:jH)(h:gB0 c):∃x c',gGl c=some (x,c')∧0≤x∧x≤255∧gB0 c':=by
 obtain⟨f,y⟩:=h;unfold gGl;cases hc:decide (c.i < (c.b.length:Int))with
 | true=>
   have h3:=of_decide_eq_true hc;have hx:at? c.b c.i=some (c.b[c.i.toNat]'(by omega)):=by unfold at?;rw [if_pos f];exact List.getElem?_eq_getElem _
   simp only [gZ];rw [jQ hx];refine⟨_,_,rfl,(gQs _).1,(gQs _).2,?_,y⟩;simp only;rw [qR _ (by omega) (by omega)];omega
 | false=>exact⟨_,_,rfl,(gQs _).1,(gQs _).2,f,y⟩
theorem gGf(c:jH)(n:Int)(h:gB0 c)(f:0 < n)(y:n≤256):∃x c',gAi c n=some (x,c')∧0≤x∧x < n∧gB0 c':=by
 obtain⟨x,c',e,e1,e2,e3⟩:=hQd c h;unfold gAi;rw [show decide (n≤0)=false from decide_eq_false (by omega),show decide (n≤256)=true from decide_eq_true y];simp only [gZ,gK];rw [jQ e,mK (by omega)];exact⟨_,_,rfl,Int.tmod_nonneg _ e1,Int.tmod_lt_of_pos _ f,e3⟩
theorem gVd(c:jH)(l:List (List UInt8))(h:gB0 c)(h0:0 < l.length)(h1:l.length≤256):∃x c',gGm c l=some (x,c')∧gB0 c'∧x∈l:=by
 obtain⟨x,c',e,f,e2,y⟩:=gGf c l.length h (by omega) (by omega);unfold gGm;have hx:at? l x=some (l[x.toNat]'(by omega)):=by unfold at?;rw [if_pos f];exact List.getElem?_eq_getElem _
 rw [jQ e,jQ hx];exact⟨_,_,rfl,y,List.getElem_mem _⟩
theorem gK2(c:jH)(n:Int)(h:gB0 c)(f:0 < n)(y:n≤256):∃x c',gC8 c n=some (x,c')∧gB0 c':=by
 obtain⟨x,c',e,_,_,e3⟩:=gGf c n h f y;unfold gC8;rw [jQ e];exact⟨_,_,rfl,e3⟩
theorem hLq(b:Bool):fmt (gWz b)=(40::(gUw gZa++gDl hKy))++gDl (hDy b)++gDl hKz++[41]:=by
 have h:gZa≠[]:=by simp [gZa]
 simp only [gWz,kL,fmt,hDz _ h,gIx,List.cons_append,List.append_assoc]
theorem hQe(h:List gD)(m:gD)(c f y:List gD):fmt (hSx h m c f y)=(40::(gUw gZb++gDl hSq))++gDl h++gDl [gZc m]++gDl c++gDl f++gDl y++[41]:=by
 have h0:gZb≠[]:=by simp [gZb]
 have h1:∀l:List gD,gDl (gZc m::l)=gDl [gZc m]++gDl l:=fun l=>gIx [gZc m] l;simp only [hSx,kL,fmt];rw [hDz _ h0,gIx,gIx,h1,gIx,gIx];simp only [List.cons_append,List.append_assoc]
theorem hYf:([wH,wI,yO,zS,gDc,gDd,uU,vG,wJ,vU,wW,zI].all fun l=>decide (l.length≤1000))=true:=by kernel_rfl
theorem hYg:(([kU,yH,gG9,gHa,gHb]++hK0.map gDl++hK5.map fmt).all fun l=>decide (l.length≤1000))=true:=by kernel_rfl
set_option maxRecDepth 100000 in
theorem hQf(c:jH)(h:gB0 c):∃b c',gLe c=some (fmt (gWz b),c')∧gB0 c':=by
 have hl:∀l∈[wH,wI,yO,zS,gDc,gDd,uU,vG,wJ,vU,wW,zI],l.length≤1000:=fun l hm=>of_decide_eq_true (List.all_eq_true.1 hYf l hm);have l1:=hl wH (.head _);have l2:=hl wI (.tail _ (.head _));have l3:=hl yO (.tail _ (.tail _ (.head _)));have l4:=hl zS (.tail _ (.tail _ (.tail _ (.head _))));have l5:=hl gDc (.tail _ (.tail _ (.tail _ (.tail _ (.head _)))));have l6:=hl gDd (.tail _ (.tail _ (.tail _ (.tail _ (.tail _ (.head _))))));have l7:=hl uU (.tail _ (.tail _ (.tail _ (.tail _ (.tail _ (.tail _ (.head _)))))));have l8:=hl vG (.tail _ (.tail _ (.tail _ (.tail _ (.tail _ (.tail _ (.tail _ (.head _))))))));have l9:=hl wJ (.tail _ (.tail _ (.tail _ (.tail _ (.tail _ (.tail _ (.tail _ (.tail _ (.head _)))))))));have ae:=hl vU (.tail _ (.tail _ (.tail _ (.tail _ (.tail _ (.tail _ (.tail _ (.tail _ (.tail _ (.head _))))))))));have ag:=hl wW (.tail _ (.tail _ (.tail _ (.tail _ (.tail _ (.tail _ (.tail _ (.tail _ (.tail _ (.tail _ (.head _)))))))))));have ah:=hl zI (.tail _ (.tail _ (.tail _ (.tail _ (.tail _ (.tail _ (.tail _ (.tail _ (.tail _ (.tail _ (.tail _ (.head _))))))))))));clear hl;obtain⟨x,c',e,y⟩:=gK2 c 2 h (by omega) (by omega);have t0:=jB8;have t1:=jB9;have t2:=jCa;have t3:=jCb;have f:=hLq;rw [←t0,←t3] at f;have ft:=f true;have ff:=f false;rw [←t1] at ft;rw [←t2] at ff;clear f t0 t1 t2 t3;unfold gLe;generalize wH=a1 at *;generalize wI=a2 at *;generalize yO=a3 at *;generalize zS=a4 at *;generalize gDc=a5 at *;generalize gDd=a6 at *;generalize uU=a7 at *;generalize vG=a8 at *;generalize wJ=a9 at *;generalize vU=ai at *;generalize wW=aj at *;generalize zI=ak at *;rw [mK (by omega),mK (by simp only [List.length_append];omega),mK (by simp only [List.length_append];omega),jQ e];cases x with
 | true=>
   simp only [gZ];rw [mK (by simp only [List.length_append];omega)];simp only [bnd]
   iterate 7 rw [mK (by simp only [List.length_append,List.length_cons,List.length_nil];omega)]
   refine⟨true,c',?_,y⟩;rw [ft];simp only [List.append_assoc]
 | false=>
   simp only [gK];rw [mK (by simp only [List.length_append];omega)];simp only [bnd]
   iterate 7 rw [mK (by simp only [List.length_append,List.length_cons,List.length_nil];omega)]
   refine⟨false,c',?_,y⟩;rw [ff];simp only [List.append_assoc]
theorem hGb{x:Bool × jH}{b s:List UInt8}{o:List gD}(hs:s=gDl o)(hl:b.length+s.length≤4294967296):∃o',(o'=[]∨o'=o)∧(cnd x.1 (gd (b.length+s.length≤4294967296) (some (b++s))) (some b))=some (b++gDl o'):=by
 cases x.1 with
 | true=>exact⟨o,.inr rfl,by simp only [gZ];rw [mK hl,hs]⟩
 | false=>exact⟨[],.inl rfl,by simp [gK,gDl]⟩
set_option maxRecDepth 100000 in
theorem hTn(c:jH)(h:gB0 c):∃hd m f y o3 c',gN0 c=some (fmt (hSx hd m f y o3),c')∧gB0 c'∧hd∈hK0∧m∈hK5∧(f=[]∨f=hSs)∧(y=[]∨y=hSu)∧(o3=[]∨o3=hSv):=by
 have hl:=hYg;have k1:=jCc;have k2:=jCd;have k3:=jCe;have k4:=jCf;have k5:=jCg;have k6:=jCh;have k7:=jCi;rw [←k2,←k3] at hl;have hh:∀l∈[gCo,gCp,gCq,gCr,gCs,gCt,gCu],∃hd∈hK0,l=gDl hd:=fun l hm=>by
  rw [k2] at hm;obtain⟨a,h1,h2⟩:=List.mem_map.1 hm;exact⟨a,h1,h2.symm⟩
 have hm:∀l∈[[40,99,97,108,108,32,98,111,116,104,32,53,41],gAu,gAv,gAw,gAx,gAy,gAz,gA0,gA1,gA2],∃m∈hK5,l=fmt m:=fun l hm=>by
  rw [k3] at hm;obtain⟨a,h1,h2⟩:=List.mem_map.1 hm;exact⟨a,h1,h2.symm⟩
 rw [List.all_append,List.all_append] at hl;simp only [Bool.and_eq_true,List.all_eq_true,decide_eq_true_eq] at hl;obtain⟨⟨hl1,hl2⟩,hl3⟩:=hl;have l1:=hl1 kU (by simp);have l9:=hl1 yH (by simp);have ad:=hl1 gG9 (by simp);have ae:=hl1 gHa (by simp);have ag:=hl1 gHb (by simp);obtain⟨x,c1,e1,e2,e3,e4⟩:=gGf c 8 h (by omega) (by omega);unfold gN0;rw [jQ e1];have hb:∃l∈[gCo,gCp,gCq,gCr,gCs,gCt,gCu],(cnd (x==0) (gd (kU.length+gCo.length≤4294967296) (some (kU++gCo))) (cnd (x==1) (gd (kU.length+gCp.length≤4294967296) (some (kU++gCp))) (cnd (x==2) (gd (kU.length+gCq.length≤4294967296) (some (kU++gCq))) (cnd (x==3) (gd (kU.length+gCr.length≤4294967296) (some (kU++gCr))) (cnd (x==4) (gd (kU.length+gCs.length≤4294967296) (some (kU++gCs))) (cnd (x==5) (gd (kU.length+gCt.length≤4294967296) (some (kU++gCt))) (gd (kU.length+gCu.length≤4294967296) (some (kU++gCu)))))))))=some (kU++l):=by
  have g:∀l∈[gCo,gCp,gCq,gCr,gCs,gCt,gCu],gd (kU.length+l.length≤4294967296) (some (kU++l))=some (kU++l):=fun l hm=>mK (by have:=hl2 l hm;omega);cases x==0 with
  | true=>exact⟨gCo,by simp,by rw [gZ];exact g _ (by simp)⟩
  | false=>
  cases x==1 with
  | true=>exact⟨gCp,by simp,by rw [gK,gZ];exact g _ (by simp)⟩
  | false=>
  cases x==2 with
  | true=>exact⟨gCq,by simp,by rw [gK,gK,gZ];exact g _ (by simp)⟩
  | false=>
  cases x==3 with
  | true=>exact⟨gCr,by simp,by rw [gK,gK,gK,gZ];exact g _ (by simp)⟩
  | false=>
  cases x==4 with
  | true=>exact⟨gCs,by simp,by rw [gK,gK,gK,gK,gZ];exact g _ (by simp)⟩
  | false=>
  cases x==5 with
  | true=>exact⟨gCt,by simp,by rw [gK,gK,gK,gK,gK,gZ];exact g _ (by simp)⟩
  | false=>exact⟨gCu,by simp,by rw [gK,gK,gK,gK,gK,gK];exact g _ (by simp)⟩
 obtain⟨l,hlm,hb⟩:=hb;rw [jQ hb];have ll:=hl2 l hlm;obtain⟨hd,q1,rfl⟩:=hh l hlm;rw [mK (by simp only [List.length_append];omega)];obtain⟨t,c2,f1,f2,f3⟩:=gVd c1 [[40,99,97,108,108,32,98,111,116,104,32,53,41],gAu,gAv,gAw,gAx,gAy,gAz,gA0,gA1,gA2] e4 (by simp) (by simp);rw [jQ f1];have lt:=hl3 t f3;obtain⟨m,q2,rfl⟩:=hm t f3;rw [mK (by simp only [List.length_append];omega),mK (by simp only [List.length_append,List.length_cons,List.length_nil];omega)];obtain⟨y1,c3,g1,g2⟩:=gK2 c2 2 f2 (by omega) (by omega);rw [jQ g1];obtain⟨f,q3,r1⟩:=hGb (x:=(y1,c3)) (b:=kU++gDl hd++yH++fmt m++[41]) k5 (by simp only [List.length_append,List.length_cons,List.length_nil];omega)
 have lo1:(gDl f).length≤1000:=by rcases q3 with rfl | rfl;· simp [gDl]
                                  ·rw [←k5];exact ad
 rw [jQ r1];obtain⟨y2,c4,g3,g4⟩:=gK2 c3 3 g2 (by omega) (by omega);rw [jQ g3];obtain⟨y,q4,r2⟩:=hGb (x:=(y2,c4)) (b:=kU++gDl hd++yH++fmt m++[41]++gDl f) k6 (by simp only [List.length_append,List.length_cons,List.length_nil];omega)
 have lo2:(gDl y).length≤1000:=by rcases q4 with rfl | rfl;· simp [gDl]
                                  ·rw [←k6];exact ae
 rw [jQ r2];obtain⟨y3,c5,g5,g6⟩:=gK2 c4 4 g4 (by omega) (by omega);rw [jQ g5];obtain⟨o3,q5,r3⟩:=hGb (x:=(y3,c5)) (b:=kU++gDl hd++yH++fmt m++[41]++gDl f++gDl y) k7 (by simp only [List.length_append,List.length_cons,List.length_nil];omega)
 have lo3:(gDl o3).length≤1000:=by rcases q5 with rfl | rfl;· simp [gDl]
                                   ·rw [←k7];exact ag
 rw [jQ r3,mK (by simp only [List.length_append,List.length_cons,List.length_nil];omega)];refine⟨hd,m,f,y,o3,c5,?_,g6,q1,q2,q3,q4,q5⟩;rw [hQe,←k1,←k4 m];simp only [List.append_assoc]
def vN(h:gD):List gC0→(List gD)→Option (gD)
 | [],c=>bnd (gOx true (gD.mk h.atom c)) fun aa=>
(some aa)
 | f::xs,c=>lt_ (mG f.name) fun ab=>
bnd (gBg f.vars) fun ac=>
bnd (gM0 5000 f.body) fun ad=>
bnd (gIe [ab,ac,ad]) fun y=>
gd (c.length+[y].length≤4294967296) (
vN h xs (c++[y]))
def gD1(c:kG):Option (gD):=
bnd (gBt c) fun x1=>
(cnd (!x1) (
(some (gD.mk [] []))) (
bnd ((cnd c.default_ (
gd (([]:List (List UInt8)).length+([[100,101,102,97,117,108,116]]:List (List UInt8)).length≤4294967296) (
(some ([]++[[100,101,102,97,117,108,116]])))) (
(some [])))) fun b3=>
bnd ((cnd c.hasAssoc (
bnd (gMt 5000 c.assoc) fun x9=>
bnd (gIe [x9]) fun f=>
(some (f.atom,f.list))) (
(some ([],[]))))) fun b7=>
lt_ (mG [105,110,115,116]) fun y=>
lt_ (mG c.trait) fun aa=>
bnd (gBg c.vars) fun ab=>
bnd (gMt 5000 c.head) fun ac=>
bnd (gL7 c.where_) fun ad=>
bnd (gBg b3) fun ae=>
bnd (gJk [y,aa,ab,ac,ad,ae,(gD.mk b7.1 b7.2)]) fun h=>
vN h c.methods h.list))
theorem gNr(a0:kG){r:gD}(h:gD1 a0=some r):jC Tryz.prog 173 [.d (gCa a0)] [pF r]:=by
 obtain⟨a4,ax,⟨an,ao,ap⟩,av,a5,a6,⟨aq,ar,au⟩,a3⟩:=a0;unfold gD1 at h;refine SpI Tryz.func173 fun A _=>?_;refine goL ?_;obtain⟨x1,ci,h⟩:=gP h;refine jL (gF (gH8 _ ci)) ?_;refine kX (fun c2=>?_) (fun c2=>?_)
 ·replace h:=kD c2 h;refine goL ?_;refine gAq (jU TBd.h TZ.h rfl (by repeat constructor)) ?_;exact goR h
 ·replace h:=kE c2 h;refine goS ?_;refine gF9 ?_;refine goL ?_;obtain⟨b3,hb3,h⟩:=gP h;refine gNc (fun v4=>⟨[(1,.ptr 0 0),(2,.ptr 1 0),(3,.sl 2 v4)],[bIn a4 ax an ao ap av a5 a6 aq ar au a3,.box [.S [],.nilsl],.own 9 1 v4 (jP b3)],Tryz.f173.ntmps⟩) ?_ (fun v4=>?_)
  ·refine kX (fun c5=>?_) (fun c5=>?_)
   ·replace hb3:=kD c5 hb3;refine goL ?_;refine gBc ([100,101,102,97,117,108,116]:List UInt8) ?_;obtain⟨g6,hb3⟩:=mW hb3;refine gH3 g6 ?_;refine goL ?_;cases hb3;exact⟨(0+1),eJ⟩
   ·replace hb3:=kE c5 hb3;refine zA ?_;cases hb3;exact⟨0,eJ⟩
  refine goL ?_;refine gBn (jU TBd.h TZ.h rfl (by repeat constructor)) ?_;refine gUh 2 3 1 rfl rfl (by repeat constructor) (by repeat constructor) ?_;obtain⟨⟨c,f⟩,hb7,h⟩:=gP h;refine gEf ⟨[(1,.ptr 0 0),(2,.ptr 1 0),(3,.sl 2 v4),(4,.ptr 3 0)],[bIn a4 ax an ao ap av a5 a6 aq ar au a3,.box [.S [],.nilsl],.own 9 1 v4 (jP b3),bSx c f],Tryz.f173.ntmps⟩ ?_ ?_
  ·refine kX (fun c8=>?_) (fun c8=>?_)
   ·replace hb7:=kD c8 hb7;refine goL ?_;obtain⟨⟨b1,b2⟩,cm,hb7⟩:=gP hb7;refine qI (gF (gKo _ _ cm)) ?_;refine gAk (u:=(.st [.s b1,.sl 2 (jA b2)])) ?_;refine uZ 4 rfl rfl ?_;refine hI6 ?_;obtain⟨⟨cn,co⟩,b8,hb7⟩:=gP hb7;refine gBn (hHy (gMd [(gD.mk b1 b2)] b8)) ?_;cases hb7;exact eJ
   ·replace hb7:=kE c8 hb7;refine zA ?_;cases hb7;exact eJ
  refine gH2 ?_;refine uH 2 rfl rfl ?_;refine hXx ?_;obtain⟨⟨y,aa⟩,b9,h⟩:=qB h;have sx11:=mM [105,110,115,116];rw [b9] at sx11;obtain⟨⟨ab,ac⟩,ca,h⟩:=qB h;have sx12:=mM a4;rw [ca] at sx12;obtain⟨⟨ad,ae⟩,bj,h⟩:=gP h;obtain⟨⟨ah,ai⟩,bd,h⟩:=gP h;obtain⟨⟨aj,ak⟩,ba,h⟩:=gP h;obtain⟨⟨al,am⟩,a8,h⟩:=gP h;obtain⟨⟨aw,ay⟩,a7,h⟩:=gP h;refine qH (P:=Tryz.prog) Mix.h (.q 1 (.q 2 (.q 4 (.q 5 (.q 7 (.q 8 (.q 10 (.q 11 (.q 13 (.q 15 (.h 0 (.h 3 (.h 6 (.h 9 (.h 12 (.h 14 (.h 16 (.h 17 (.h 18 (.h 19 .nil .nil) .nil) (.h 18 (.h 17 (.h 19 .nil .nil) .nil) .nil)) (.h 18 (.h 16 (.h 17 (.h 19 .nil .nil) .nil) .nil) .nil)) (.h 18 (.h 14 (.h 16 (.h 17 (.h 19 .nil .nil) .nil) .nil) .nil) .nil)) (.h 18 (.h 12 (.h 14 (.h 16 (.h 17 (.h 19 .nil .nil) .nil) .nil) .nil) .nil) .nil)) (.h 18 (.h 9 (.h 12 (.h 14 (.h 16 (.h 17 (.h 19 .nil .nil) .nil) .nil) .nil) .nil) .nil) .nil)) (.h 18 (.h 6 (.h 9 (.h 12 (.h 14 (.h 16 (.h 17 (.h 19 .nil .nil) .nil) .nil) .nil) .nil) .nil) .nil) .nil)) (.h 18 (.h 3 (.h 6 (.h 9 (.h 12 (.h 14 (.h 16 (.h 17 (.h 19 .nil .nil) .nil) .nil) .nil) .nil) .nil) .nil) .nil) .nil)) (.h 18 (.h 0 (.h 3 (.h 6 (.h 9 (.h 12 (.h 14 (.h 16 (.h 17 (.h 19 .nil .nil) .nil) .nil) .nil) .nil) .nil) .nil) .nil) .nil) .nil)))))))))))) ⟨[(1,.ptr 0 0),(2,.ptr 1 0),(5,.ptr 6 0)],[bIn a4 ax an ao ap av a5 a6 aq ar au a3,.box [.S [],.nilsl],.frz 9 1 v4 (jP b3),bSx c f,.frz 135 2 0 (jA [(gD.mk y aa),(gD.mk ab ac),(gD.mk ad ae),(gD.mk ah ai),(gD.mk aj ak),(gD.mk al am),(gD.mk c f)]),.arr 135 2 0 (jA ay),.box [.S aw,.sl 5 0]],Tryz.f173.ntmps⟩ (by kernel_rfl) ?_ ?_
  ·refine goT ?_;refine vW (pW (sx11) jX) ?_ ?_
   ·refine vW (pW (sx12) jX) ?_ ?_
    ·refine vW (pW (uL ax bj) jX) ?_ ?_
     ·refine vW (pW (gKo 5000 (gB.mk an ao ap) bd) jX) ?_ ?_
      ·refine vW (pW (gEo av ba) jX) ?_ ?_
       ·refine vW (pW (uL b3 a8) jX) ?_ ?_
        ·refine vW (qE (T:=133) (us:=jA [(gD.mk y aa),(gD.mk ab ac),(gD.mk ad ae),(gD.mk ah ai),(gD.mk aj ak),(gD.mk al am),(gD.mk c f)]) jX) ?_ ?_
         ·refine vW (gBe 4 rfl rfl (vH (sv:=.ag [.S aw,.sl 5 0]) (L':=[bIn a4 ax an ao ap av a5 a6 aq ar au a3,.box [.S [],.nilsl],.frz 9 1 v4 (jP b3),bSx c f,.frz 135 2 0 (jA [(gD.mk y aa),(gD.mk ab ac),(gD.mk ad ae),(gD.mk ah ai),(gD.mk aj ak),(gD.mk al am),(gD.mk c f)]),.arr 135 2 0 (jA ay)]) [] (vD [(gD.mk y aa),(gD.mk ab ac),(gD.mk ad ae),(gD.mk ah ai),(gD.mk aj ak),(gD.mk al am),(gD.mk c f)] a7) jX)) ?_ ?_
          ·refine goT ?_;refine jY ?_;exact uK 0 [0,1,2,3,4,5,6]
          refine goT ?_;refine jV (gBe 4 rfl rfl (vH (sv:=.ag [.S aw,.sl 6 0]) (L':=[bIn a4 ax an ao ap av a5 a6 aq ar au a3,.box [.S [],.nilsl],.frz 9 1 v4 (jP b3),bSx c f,.frz 135 2 0 (jA [(gD.mk y aa),(gD.mk ab ac),(gD.mk ad ae),(gD.mk ah ai),(gD.mk aj ak),(gD.mk al am),(gD.mk c f)]),.box [.S [],.nilsl],.arr 135 2 0 (jA ay)]) [] (vD [(gD.mk y aa),(gD.mk ab ac),(gD.mk ad ae),(gD.mk ah ai),(gD.mk aj ak),(gD.mk al am),(gD.mk c f)] a7) jX)) ?_;refine goT ?_;refine jY ?_;exact uK 0 [0,1,2,3,4,6,5]
         refine goT ?_;refine jV (qE (T:=133) (us:=jA [(gD.mk y aa),(gD.mk ab ac),(gD.mk ad ae),(gD.mk ah ai),(gD.mk aj ak),(gD.mk al am),(gD.mk c f)]) jX) ?_;refine jV (gBe 5 rfl rfl (vH (sv:=.ag [.S aw,.sl 6 0]) (L':=[bIn a4 ax an ao ap av a5 a6 aq ar au a3,.box [.S [],.nilsl],.frz 9 1 v4 (jP b3),bSx c f,.box [.S [],.nilsl],.frz 135 2 0 (jA [(gD.mk y aa),(gD.mk ab ac),(gD.mk ad ae),(gD.mk ah ai),(gD.mk aj ak),(gD.mk al am),(gD.mk c f)]),.arr 135 2 0 (jA ay)]) [] (vD [(gD.mk y aa),(gD.mk ab ac),(gD.mk ad ae),(gD.mk ah ai),(gD.mk aj ak),(gD.mk al am),(gD.mk c f)] a7) jX)) ?_;refine goT ?_;refine jY ?_;exact uK 0 [0,1,2,3,5,6,4]
        refine goT ?_;refine jV (pW (uL b3 a8) jX) ?_;refine jV (qE (T:=133) (us:=jA [(gD.mk y aa),(gD.mk ab ac),(gD.mk ad ae),(gD.mk ah ai),(gD.mk aj ak),(gD.mk al am),(gD.mk c f)]) jX) ?_;refine jV (gBe 5 rfl rfl (vH (sv:=.ag [.S aw,.sl 6 0]) (L':=[bIn a4 ax an ao ap av a5 a6 aq ar au a3,.box [.S [],.nilsl],.frz 9 1 v4 (jP b3),bSx c f,.box [.S [],.nilsl],.frz 135 2 0 (jA [(gD.mk y aa),(gD.mk ab ac),(gD.mk ad ae),(gD.mk ah ai),(gD.mk aj ak),(gD.mk al am),(gD.mk c f)]),.arr 135 2 0 (jA ay)]) [] (vD [(gD.mk y aa),(gD.mk ab ac),(gD.mk ad ae),(gD.mk ah ai),(gD.mk aj ak),(gD.mk al am),(gD.mk c f)] a7) jX)) ?_;refine goT ?_;refine jY ?_;exact uK 0 [0,1,2,3,5,6,4]
       refine goT ?_;refine jV (pW (gEo av ba) jX) ?_;refine jV (pW (uL b3 a8) jX) ?_;refine jV (qE (T:=133) (us:=jA [(gD.mk y aa),(gD.mk ab ac),(gD.mk ad ae),(gD.mk ah ai),(gD.mk aj ak),(gD.mk al am),(gD.mk c f)]) jX) ?_;refine jV (gBe 5 rfl rfl (vH (sv:=.ag [.S aw,.sl 6 0]) (L':=[bIn a4 ax an ao ap av a5 a6 aq ar au a3,.box [.S [],.nilsl],.frz 9 1 v4 (jP b3),bSx c f,.box [.S [],.nilsl],.frz 135 2 0 (jA [(gD.mk y aa),(gD.mk ab ac),(gD.mk ad ae),(gD.mk ah ai),(gD.mk aj ak),(gD.mk al am),(gD.mk c f)]),.arr 135 2 0 (jA ay)]) [] (vD [(gD.mk y aa),(gD.mk ab ac),(gD.mk ad ae),(gD.mk ah ai),(gD.mk aj ak),(gD.mk al am),(gD.mk c f)] a7) jX)) ?_;refine goT ?_;refine jY ?_;exact uK 0 [0,1,2,3,5,6,4]
      refine goT ?_;refine jV (pW (gKo 5000 (gB.mk an ao ap) bd) jX) ?_;refine jV (pW (gEo av ba) jX) ?_;refine jV (pW (uL b3 a8) jX) ?_;refine jV (qE (T:=133) (us:=jA [(gD.mk y aa),(gD.mk ab ac),(gD.mk ad ae),(gD.mk ah ai),(gD.mk aj ak),(gD.mk al am),(gD.mk c f)]) jX) ?_;refine jV (gBe 5 rfl rfl (vH (sv:=.ag [.S aw,.sl 6 0]) (L':=[bIn a4 ax an ao ap av a5 a6 aq ar au a3,.box [.S [],.nilsl],.frz 9 1 v4 (jP b3),bSx c f,.box [.S [],.nilsl],.frz 135 2 0 (jA [(gD.mk y aa),(gD.mk ab ac),(gD.mk ad ae),(gD.mk ah ai),(gD.mk aj ak),(gD.mk al am),(gD.mk c f)]),.arr 135 2 0 (jA ay)]) [] (vD [(gD.mk y aa),(gD.mk ab ac),(gD.mk ad ae),(gD.mk ah ai),(gD.mk aj ak),(gD.mk al am),(gD.mk c f)] a7) jX)) ?_;refine goT ?_;refine jY ?_;exact uK 0 [0,1,2,3,5,6,4]
     refine goT ?_;refine jV (pW (uL ax bj) jX) ?_;refine jV (pW (gKo 5000 (gB.mk an ao ap) bd) jX) ?_;refine jV (pW (gEo av ba) jX) ?_;refine jV (pW (uL b3 a8) jX) ?_;refine jV (qE (T:=133) (us:=jA [(gD.mk y aa),(gD.mk ab ac),(gD.mk ad ae),(gD.mk ah ai),(gD.mk aj ak),(gD.mk al am),(gD.mk c f)]) jX) ?_;refine jV (gBe 5 rfl rfl (vH (sv:=.ag [.S aw,.sl 6 0]) (L':=[bIn a4 ax an ao ap av a5 a6 aq ar au a3,.box [.S [],.nilsl],.frz 9 1 v4 (jP b3),bSx c f,.box [.S [],.nilsl],.frz 135 2 0 (jA [(gD.mk y aa),(gD.mk ab ac),(gD.mk ad ae),(gD.mk ah ai),(gD.mk aj ak),(gD.mk al am),(gD.mk c f)]),.arr 135 2 0 (jA ay)]) [] (vD [(gD.mk y aa),(gD.mk ab ac),(gD.mk ad ae),(gD.mk ah ai),(gD.mk aj ak),(gD.mk al am),(gD.mk c f)] a7) jX)) ?_;refine goT ?_;refine jY ?_;exact uK 0 [0,1,2,3,5,6,4]
    refine goT ?_;refine jV (pW (sx12) jX) ?_;refine jV (pW (uL ax bj) jX) ?_;refine jV (pW (gKo 5000 (gB.mk an ao ap) bd) jX) ?_;refine jV (pW (gEo av ba) jX) ?_;refine jV (pW (uL b3 a8) jX) ?_;refine jV (qE (T:=133) (us:=jA [(gD.mk y aa),(gD.mk ab ac),(gD.mk ad ae),(gD.mk ah ai),(gD.mk aj ak),(gD.mk al am),(gD.mk c f)]) jX) ?_;refine jV (gBe 5 rfl rfl (vH (sv:=.ag [.S aw,.sl 6 0]) (L':=[bIn a4 ax an ao ap av a5 a6 aq ar au a3,.box [.S [],.nilsl],.frz 9 1 v4 (jP b3),bSx c f,.box [.S [],.nilsl],.frz 135 2 0 (jA [(gD.mk y aa),(gD.mk ab ac),(gD.mk ad ae),(gD.mk ah ai),(gD.mk aj ak),(gD.mk al am),(gD.mk c f)]),.arr 135 2 0 (jA ay)]) [] (vD [(gD.mk y aa),(gD.mk ab ac),(gD.mk ad ae),(gD.mk ah ai),(gD.mk aj ak),(gD.mk al am),(gD.mk c f)] a7) jX)) ?_;refine goT ?_;refine jY ?_;exact uK 0 [0,1,2,3,5,6,4]
   refine goT ?_;refine jV (pW (sx11) jX) ?_;refine jV (pW (sx12) jX) ?_;refine jV (pW (uL ax bj) jX) ?_;refine jV (pW (gKo 5000 (gB.mk an ao ap) bd) jX) ?_;refine jV (pW (gEo av ba) jX) ?_;refine jV (pW (uL b3 a8) jX) ?_;refine jV (qE (T:=133) (us:=jA [(gD.mk y aa),(gD.mk ab ac),(gD.mk ad ae),(gD.mk ah ai),(gD.mk aj ak),(gD.mk al am),(gD.mk c f)]) jX) ?_;refine jV (gBe 5 rfl rfl (vH (sv:=.ag [.S aw,.sl 6 0]) (L':=[bIn a4 ax an ao ap av a5 a6 aq ar au a3,.box [.S [],.nilsl],.frz 9 1 v4 (jP b3),bSx c f,.box [.S [],.nilsl],.frz 135 2 0 (jA [(gD.mk y aa),(gD.mk ab ac),(gD.mk ad ae),(gD.mk ah ai),(gD.mk aj ak),(gD.mk al am),(gD.mk c f)]),.arr 135 2 0 (jA ay)]) [] (vD [(gD.mk y aa),(gD.mk ab ac),(gD.mk ad ae),(gD.mk ah ai),(gD.mk aj ak),(gD.mk al am),(gD.mk c f)] a7) jX)) ?_;refine goT ?_;refine jY ?_;exact uK 0 [0,1,2,3,5,6,4]
  refine goL ?_;refine noB ?_;refine wN 0 11 (fun cu=>?_);refine kS (fun(bb:Nat) (bf:List gD) (bk:Nat)=>⟨[(1,.ptr 0 0),(2,.ptr 1 0),(5,.ptr 6 0),(6,.N bb)],[bIn a4 ax an ao ap av a5 a6 aq ar au a3,.box [.S [],.nilsl],.frz 9 1 v4 (jP b3),bSx c f,.frz 135 2 0 (jA [(gD.mk y aa),(gD.mk ab ac),(gD.mk ad ae),(gD.mk ah ai),(gD.mk aj ak),(gD.mk al am),(gD.mk c f)]),.arr 135 2 bk (jA bf),.box [.S aw,.sl 5 bk]],Tryz.f173.ntmps⟩) (fun bb bf bk=>vN (gD.mk aw ay) (a3.drop bb) bf=some r) (fun bb bf bk=>a3.length - bb) 0 ay 0 eJ h ?_;rintro bb bf bk h;refine goL ?_;refine kX (fun b4=>?_) (fun b4=>?_)
  ·have bc:=uR b4;obtain⟨cp,cb,b5⟩:=drop_at bc;rw [b5,vN.eq_2] at h;obtain⟨b6,b7,⟨bl,bm,bn,bo,⟨bg,bh,bi⟩,bp,bq⟩⟩:=cp;refine noS ?_;refine jW (jE ?_);refine goL ?_;refine qI (jM bb (hH9 cb)) ?_;refine gH2 ?_;refine uF (P:=Tryz.prog) Mix.h [(0,true),(1,true),(2,true),(3,true),(5,true),(6,true),(8,true),(9,true),(4,false),(7,false),(10,false),(11,false),(12,false),(13,false),(14,false),(15,true),(16,false)] (by kernel_rfl) ?_;refine goY ?_;obtain⟨⟨br,bt⟩,cc,h⟩:=qB h;have sx24:=mM b6;rw [cc] at sx24;refine pW (sx24) ?_;obtain⟨⟨bu,bv⟩,cd,h⟩:=gP h;refine pW (uL b7 cd) ?_;obtain⟨⟨bw,bx⟩,ce,h⟩:=gP h;refine pW (gZm 5000 (kJ.mk bl bm bn bo (gB.mk bg bh bi) bp bq) ce) ?_;refine qE (T:=133) (us:=jA [(gD.mk br bt),(gD.mk bu bv),(gD.mk bw bx)]) ?_;refine gBe 8 rfl rfl ?_;obtain⟨⟨bz,b0⟩,cf,h⟩:=gP h;refine pW (gMd [(gD.mk br bt),(gD.mk bu bv),(gD.mk bw bx)] cf) ?_;refine qE (T:=133) (us:=jA [(gD.mk bz b0)]) ?_;obtain⟨cq,h⟩:=mW h;refine pV (T:=133) cq ?_;refine goY ?_;refine kQ ?_;refine goL ?_;refine jL (jR bb (by omega)) ?_;exact⟨(bb+1),(bf++[(gD.mk bz b0)]),(bk+1),h,by omega,eJ⟩
  ·have bc:=uS b4;rw [jF bc,vN.eq_1] at h;refine goX ?_;refine uZ 5 rfl rfl ?_;refine hI6 ?_;obtain⟨⟨cr,cs⟩,cg,h⟩:=gP h;refine gAq (hHy (gU9 true (gD.mk aw bf) cg)) ?_;exact goR h
def vO(c:mH):List gHo→(List gD)→Option (gD)
 | [],h=>lt_ (mG [102,110]) fun y=>
lt_ (mG c.name) fun aa=>
bnd (gBg c.vars) fun ab=>
bnd (gL7 c.where_) fun ac=>
bnd (gMt 5000 c.result) fun ad=>
bnd (gM0 5000 c.body) fun ae=>
bnd (gIe [y,aa,ab,ac,(gD.mk [] h),ad,ae]) fun ag=>
bnd (gOx true ag) fun ah=>
(some ah)
 | x8::xs,h=>lt_ (mG x8.name) fun x9=>
bnd (gMt 5000 x8.type_) fun ai=>
bnd (gIe [x9,ai]) fun f=>
gd (h.length+[f].length≤4294967296) (
vO c xs (h++[f]))
def gD2(c:mH):Option (gD):=
bnd (gBu c) fun f=>
(cnd (!f) (
(some (gD.mk [] []))) (
vO c c.params []))
theorem gNs(a0:mH){r:gD}(h:gD2 a0=some r):jC Tryz.prog 174 [.d (gFs a0)] [pF r]:=by
 obtain⟨am,an,ao,ak,⟨aa,ab,ac⟩,⟨ad,ae,ag,ah,⟨c,f,y⟩,ai,aj⟩⟩:=a0;unfold gD2 at h;refine SpI Tryz.func174 fun A _=>?_;refine goL ?_;obtain⟨x1,b1,h⟩:=gP h;refine jL (gF (gH9 (mH.mk am an ao ak (gB.mk aa ab ac) (kJ.mk ad ae ag ah (gB.mk c f y) ai aj)) b1)) ?_;refine kX (fun c2=>?_) (fun c2=>?_)
 ·replace h:=kD c2 h;refine goL ?_;refine gAq (jU TBd.h TZ.h rfl (by repeat constructor)) ?_;exact goR h
 ·replace h:=kE c2 h;refine goS ?_;refine gBn (jU TBd.h TZ.h rfl (by repeat constructor)) ?_;refine noB ?_;refine wT 135 2 2 1 rfl rfl (by repeat constructor) (by repeat constructor) (by repeat constructor) (by repeat constructor) ?_;show V _ _ _ _ _;refine wN 0 3 (fun z6=>?_);refine kS (fun(y5:Nat) (y3:List gD) (v4:Nat)=>⟨[(1,.ptr 0 0),(2,.ptr 1 0),(3,.ptr 2 0),(4,.N y5)],[.box [.S am,.L 1 (jP an),.L 4 (kV ao),.L 4 (gHp ak),.I aa,.S ab,.L 3 (jJ ac),.I ad,.S ae,.S ag,.I ah,.I c,.S f,.L 3 (jJ y),.L 9 (gB8 ai),.L 11 (gKw aj)],.box [.S [],.nilsl],.box [.S [],.sl 3 v4],.arr 135 2 v4 (jA y3)],Tryz.f174.ntmps⟩) (fun y5 y3 v4=>vO (mH.mk am an ao ak (gB.mk aa ab ac) (kJ.mk ad ae ag ah (gB.mk c f y) ai aj)) (ak.drop y5) y3=some r) (fun y5 y3 v4=>ak.length - y5) 0 [] 0 eJ h ?_;rintro y5 y3 v4 h;refine goL ?_;refine kX (fun c7=>?_) (fun c7=>?_)
  ·have al:=uR c7;obtain⟨x8,bl,bm⟩:=drop_at al;rw [bm,vO.eq_2] at h;obtain⟨bn,⟨bc,bd,be⟩⟩:=x8;refine noS ?_;refine jW (jE ?_);refine uF (P:=Tryz.prog) Mix.h [(0,true),(1,true),(2,true),(3,true),(4,true),(5,true),(6,true),(7,true),(9,true),(10,true),(11,true),(12,true),(13,true),(14,true),(8,false),(15,false),(16,false),(17,false),(18,false),(19,false),(20,true),(21,false)] (by kernel_rfl) ?_;refine goY ?_;refine jI rfl (jM y5 (hCo bl)) ?_;refine goY ?_;refine jI rfl (jM y5 (hCo bl)) ?_;refine goY ?_;obtain⟨⟨bg,bh⟩,b4,h⟩:=qB h;have sx9:=mM bn;rw [b4] at sx9;refine pW (sx9) ?_;obtain⟨⟨ap,aq⟩,bo,h⟩:=gP h;refine pW (gKo 5000 (gB.mk bc bd be) bo) ?_;refine qE (T:=133) (us:=jA [(gD.mk bg bh),(gD.mk ap aq)]) ?_;refine gBe 4 rfl rfl ?_;obtain⟨⟨ar,au⟩,bp,h⟩:=gP h;refine pW (gMd [(gD.mk bg bh),(gD.mk ap aq)] bp) ?_;refine qE (T:=133) (us:=jA [(gD.mk ar au)]) ?_;obtain⟨b5,h⟩:=mW h;refine pV (T:=133) b5 ?_;refine goY ?_;refine kQ ?_;refine goL ?_;refine jL (jR y5 (by omega)) ?_;exact⟨(y5+1),(y3++[(gD.mk ar au)]),(v4+1),h,by omega,eJ⟩
  ·have al:=uS c7;rw [jF al,vO.eq_1] at h;refine noX ?_;refine kN 3 rfl rfl ?_;refine hU0 ?_;refine jO (P:=Tryz.prog) Mix.h [(1,true),(2,true),(4,true),(5,true),(7,true),(8,true),(10,true),(11,true),(12,true),(14,true),(15,true),(0,false),(3,false),(6,false),(9,false),(13,false),(16,false),(17,false),(18,false),(19,false),(20,false)] (by kernel_rfl) ?_;refine goY ?_;obtain⟨⟨av,aw⟩,bq,h⟩:=qB h;have sx13:=mM [102,110];rw [bq] at sx13;refine pW (sx13) ?_;obtain⟨⟨ax,ay⟩,br,h⟩:=qB h;have sx14:=mM am;rw [br] at sx14;refine pW (sx14) ?_;obtain⟨⟨a3,a4⟩,bt,h⟩:=gP h;refine pW (uL an bt) ?_;obtain⟨⟨a5,a6⟩,bu,h⟩:=gP h;refine pW (gEo ao bu) ?_;obtain⟨⟨a7,a8⟩,bv,h⟩:=gP h;refine pW (gKo 5000 (gB.mk aa ab ac) bv) ?_;obtain⟨⟨a9,ba⟩,bw,h⟩:=gP h;refine pW (gZm 5000 (kJ.mk ad ae ag ah (gB.mk c f y) ai aj) bw) ?_;refine qE (T:=133) (us:=jA [(gD.mk av aw),(gD.mk ax ay),(gD.mk a3 a4),(gD.mk a5 a6),(gD.mk [] y3),(gD.mk a7 a8),(gD.mk a9 ba)]) ?_;refine gBe 4 rfl rfl ?_;obtain⟨⟨bi,bj⟩,bx,h⟩:=gP h;refine pW (gMd [(gD.mk av aw),(gD.mk ax ay),(gD.mk a3 a4),(gD.mk a5 a6),(gD.mk [] y3),(gD.mk a7 a8),(gD.mk a9 ba)] bx) ?_;obtain⟨⟨b6,b7⟩,bz,h⟩:=gP h;refine pW (gU9 true (gD.mk bi bj) bz) ?_;refine goY ?_;refine kQ ?_;exact goR h
end Go.Proofs.YtegahmhnmjnhhaaGreat
