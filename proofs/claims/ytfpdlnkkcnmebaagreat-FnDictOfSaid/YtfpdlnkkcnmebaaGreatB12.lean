import Derived.Test.YtfpdlnkkcnmebaaGreatTyL
set_option maxHeartbeats 4000000
set_option linter.unusedVariables false
set_option linter.unusedSimpArgs false
set_option linter.unusedSectionVars false
namespace Go.Proofs.YtfpdlnkkcnmebaaGreat
open Go Go.Eng
attribute [local irreducible] V VO VQ VY Quiet QR jI mK Rng qE qA pX
def gNa(f:gK→LS→Int→Option (gY × gK))(c:gK)(a1:LS)(a2:Int):Option (gY × gK):=
bnd (kW c 13) fun h=>
bnd ((cnd (decide (a2≤0)) (
gd ((3:Int)≠0) (
(some (Int.tmod h.1 3)))) (
(some h.1)))) fun q=>
(cnd (q==1) (
bnd (kW h.2 2) fun x6=>
(some ((gY.mk 2 [] [] x6.1 (gB.mk 0 [] []) [] []),x6.2))) (
bnd ((cnd (q==2) (
(some (q==2))) (
(some (q==3))))) fun b7=>
(cnd b7 (
(cnd (decide ((a1.length:Int) > 0)) (
bnd (pK h.2 a1) fun y=>
lt_ (gJn y.1) fun a3=>
(some (a3,y.2))) (
bnd (kW h.2 20) fun aa=>
lt_ (gFr (IntKind.i64.wrap (aa.1 - 5))) fun a4=>
(some (a4,aa.2))))) (
(cnd (q==4) (
bnd (pK h.2 [[102],[103]]) fun ab=>
bnd (f ab.2 a1 (IntKind.i64.wrap (a2 - 1))) fun ac=>
bnd (gI0 4 ab.1 [ac.1]) fun a5=>
(some (a5,ac.2))) (
(cnd (q==5) (
bnd (pK h.2 [[115,104,111,119],[97,100,100]]) fun ad=>
bnd (f ad.2 a1 (IntKind.i64.wrap (a2 - 1))) fun ae=>
bnd (f ae.2 a1 (IntKind.i64.wrap (a2 - 1))) fun ag=>
(some ((gY.mk 5 ad.1 [109] 0 (gB.mk 0 [] []) [ae.1,ag.1] []),ag.2))) (
(cnd (q==6) (
bnd (f h.2 a1 (IntKind.i64.wrap (a2 - 1))) fun ah=>
bnd (f ah.2 a1 (IntKind.i64.wrap (a2 - 1))) fun ai=>
bnd (gI0 6 [99,111,110,115] [ah.1,ai.1]) fun a6=>
(some (a6,ai.2))) (
(cnd (q==7) (
gd (([]:LS).length+a1.length≤4294967296) (
gd (([]++a1).length+([[104],[116]]:LS).length≤4294967296) (
bnd (f h.2 a1 (IntKind.i64.wrap (a2 - 1))) fun aj=>
bnd (f aj.2 a1 (IntKind.i64.wrap (a2 - 1))) fun ak=>
bnd (f ak.2 (([]++a1)++[[104],[116]]) (IntKind.i64.wrap (a2 - 1))) fun al=>
(some ((gY.mk 7 [] [] 0 (gB.mk 0 [] []) [aj.1] [(gL8.mk [110,105,108] [] ak.1),(gL8.mk [99,111,110,115] [[104],[116]] al.1)]),al.2))))) (
(cnd (q==8) (
bnd (f h.2 a1 (IntKind.i64.wrap (a2 - 1))) fun am=>
gd (([]:LS).length+a1.length≤4294967296) (
gd (([]++a1).length+([[121]]:LS).length≤4294967296) (
bnd (f am.2 (([]++a1)++[[121]]) (IntKind.i64.wrap (a2 - 1))) fun an=>
bnd (gI0 8 [121] [am.1,an.1]) fun a7=>
(some (a7,an.2))))) (
(cnd (q==9) (
bnd (f h.2 a1 (IntKind.i64.wrap (a2 - 1))) fun ao=>
bnd (f ao.2 a1 (IntKind.i64.wrap (a2 - 1))) fun ap=>
bnd (f ap.2 a1 (IntKind.i64.wrap (a2 - 1))) fun aq=>
bnd (gI0 9 [] [ao.1,ap.1,aq.1]) fun a8=>
(some (a8,aq.2))) (
(cnd (q==10) (
bnd (pK h.2 [[43],[45],[42],[60],[61]]) fun ar=>
bnd (f ar.2 a1 (IntKind.i64.wrap (a2 - 1))) fun au=>
bnd (f au.2 a1 (IntKind.i64.wrap (a2 - 1))) fun av=>
bnd (gI0 10 ar.1 [au.1,av.1]) fun a9=>
(some (a9,av.2))) (
(cnd (q==11) (
bnd (f h.2 a1 (IntKind.i64.wrap (a2 - 1))) fun aw=>
(some ((gY.mk 11 [115,104,111,119] [] 0 (gB.mk 0 [] []) [aw.1] []),aw.2))) (
(cnd (q==12) (
bnd (gN9 5000 h.2 [[97]] 1) fun ax=>
bnd (f ax.2 a1 (IntKind.i64.wrap (a2 - 1))) fun ay=>
(some ((gY.mk 12 [] [] 0 ax.1 [ay.1] []),ay.2))) (
bnd (kW h.2 20) fun a0=>
lt_ (gFr (IntKind.i64.wrap (a0.1 - 5))) fun ba=>
(some (ba,a0.2))))))))))))))))))))))))
theorem hBy{ab:gK→LS→Int→Option (gY × gK)}(f:∀(x0:gK)(x1:LS)(x2:Int){r:gY × gK},ab x0 x1 x2=some r→Go.Eng.Spec Tryz.prog 147 [.ptr 0 0,.L 1 (gT x1),.I x2] [bCu x0.b x0.i x0.h] (fun sv Lo=>sv=.d (gBp r.1)∧Lo=[bCu r.2.b r.2.i r.2.h]))(c:gK)(a1:LS)(a2:Int){r:gY × gK}(h:gNa ab c a1 a2=some r):Go.Eng.Spec Tryz.prog 147 [.ptr 0 0,.L 1 (gT a1),.I a2] [bCu c.b c.i c.h] (fun sv Lo=>sv=.d (gBp r.1)∧Lo=[bCu r.2.b r.2.i r.2.h]):=by
 obtain⟨kj,kk,kl⟩:=c;unfold gNa at h;refine kJ 1 Tryz.func147 rfl (by kernel_rfl) rfl rfl fun A _=>?_;refine goL ?_;obtain⟨⟨kw,⟨q,y,aa⟩⟩,km,h⟩:=gJ h;refine mI 0 (mH (gK.mk kj kk kl) 13 km) ?_;refine goL ?_;obtain⟨b2,hb2,h⟩:=gJ h;refine wY ⟨[(0,.ptr 0 0),(1,.L 1 (gT a1)),(2,.I a2),(6,.ptr 1 0),(7,.I b2)],[bCu q y aa,.box [.I 0,.S [],.S [],.I 0,.I 0,.S [],.nilsl,.nilsl,.nilsl]],Tryz.f147.ntmps⟩ ?_ ?_
 ·refine mR (fun c3=>?_) (fun c3=>?_)
  ·replace hb2:=kU c3 hb2;refine goL ?_;obtain⟨g4,hb2⟩:=pU hb2;refine jP (hEm g4) ?_;cases hb2;exact eJ
  ·replace hb2:=kV c3 hb2;refine vN ?_;cases hb2;exact eJ
 refine goL ?_;refine jA ?_;refine goC h ?_ ?_<;>intro c5 h
 ·refine goL ?_;obtain⟨⟨it,⟨kg,kh,ki⟩⟩,ko,h⟩:=gJ h;refine mI 0 (mH (gK.mk q y aa) 2 ko) ?_;refine yT (jN TBd.h TZ.h rfl (by repeat constructor)) ?_;refine jF ?_;obtain rfl:=Option.some.inj h;exact gAg [.d (.st [.i .i64 2,.s [],.s [],.i .i64 it,.st [.i .i64 0,.s [],.sl 3 []],.sl 9 [],.sl 11 []])] _ ⟨rfl,rfl⟩
 ·refine goL ?_;obtain⟨b7,hb7,h⟩:=gJ h;refine wY ⟨[(0,.ptr 0 0),(1,.L 1 (gT a1)),(2,.I a2),(6,.ptr 1 0),(15,.I b2),(21,.B b7)],[bCu q y aa,.box [.I 0,.S [],.S [],.I 0,.I 0,.S [],.nilsl,.nilsl,.nilsl]],Tryz.f147.ntmps⟩ ?_ ?_
  ·refine mR (fun c8=>?_) (fun c8=>?_)
   ·replace hb7:=kU c8 hb7;refine vN ?_;cases hb7;exact eJ
   ·replace hb7:=kV c8 hb7;refine goL ?_;cases hb7;exact eJ
  refine goC h ?_ ?_<;>intro c9 h
  ·refine goC h ?_ ?_<;>intro k0 h
   ·refine goL ?_;obtain⟨⟨g7,⟨iu,iv,iw⟩⟩,ix,h⟩:=gJ h;refine mI 0 (kZ (gK.mk q y aa) a1 ix) ?_;obtain⟨⟨g8,g9,ha,hb,⟨e3,e4,e5⟩,hc,hd⟩,iy,h⟩:=uK h;have sx12:=gPh g7;rw [iy] at sx12;refine jP (gI (sx12)) ?_;refine jF ?_;obtain rfl:=Option.some.inj h;exact gAg [.d (.st [.i .i64 g8,.s g9,.s ha,.i .i64 hb,.st [.i .i64 e3,.s e4,.sl 3 (gN e5)],.sl 9 (kQ hc),.sl 11 (uZ hd)])] _ ⟨rfl,rfl⟩
   ·refine goS ?_;obtain⟨⟨he,⟨iz,i0,i1⟩⟩,i2,h⟩:=gJ h;refine mI 0 (mH (gK.mk q y aa) 20 i2) ?_;refine uN (pV) ?_;obtain⟨⟨hf,hg,hh,hi,⟨e6,e7,e8⟩,hj,hk⟩,i3,h⟩:=uK h;have sx14:=gM9 (IntKind.i64.wrap (he - 5));rw [i3] at sx14;refine jP (gI (sx14)) ?_;refine jF ?_;obtain rfl:=Option.some.inj h;exact gAg [.d (.st [.i .i64 hf,.s hg,.s hh,.i .i64 hi,.st [.i .i64 e6,.s e7,.sl 3 (gN e8)],.sl 9 (kQ hj),.sl 11 (uZ hk)])] _ ⟨rfl,rfl⟩
  ·refine goC h ?_ ?_<;>intro k1 h
   ·refine goL ?_;refine yQ (us:=gT [[102],[103]]) ?_;refine kS 2 rfl rfl ?_;obtain⟨⟨hl,⟨e9,fa,fb⟩⟩,i4,h⟩:=gJ h;refine mI 0 (kZ (gK.mk q y aa) [[102],[103]] i4) ?_;refine goL ?_;refine uN (pV) ?_;obtain⟨⟨⟨bz,b0,b1,b3,⟨ac,ad,ae⟩,b4,b5⟩,⟨i5,i6,i7⟩⟩,i8,h⟩:=gJ h;refine mI 0 (f (gK.mk e9 fa fb) a1 (IntKind.i64.wrap (a2 - 1)) i8) ?_;refine uO (u:=(.st [.i .i64 bz,.s b0,.s b1,.i .i64 b3,.st [.i .i64 ac,.s ad,.sl 3 (gN ae)],.sl 9 (kQ b4),.sl 11 (uZ b5)])) ?_;refine kS 3 rfl rfl ?_;obtain⟨⟨hm,hn,ho,hp,⟨fc,fd,fe⟩,hq,hr⟩,i9,h⟩:=gJ h;refine yT (gRe (gDg 4 hl [(gY.mk bz b0 b1 b3 (gB.mk ac ad ae) b4 b5)] i9)) ?_;refine jF ?_;obtain rfl:=Option.some.inj h;exact gAg [.d (.st [.i .i64 hm,.s hn,.s ho,.i .i64 hp,.st [.i .i64 fc,.s fd,.sl 3 (gN fe)],.sl 9 (kQ hq),.sl 11 (uZ hr)])] _ ⟨rfl,rfl⟩
   ·refine goC h ?_ ?_<;>intro k2 h
    ·refine goL ?_;refine yQ (us:=gT [[115,104,111,119],[97,100,100]]) ?_;refine kS 2 rfl rfl ?_;obtain⟨⟨hs,⟨ff,fg,fh⟩⟩,ja,h⟩:=gJ h;refine mI 0 (kZ (gK.mk q y aa) [[115,104,111,119],[97,100,100]] ja) ?_;refine goL ?_;refine uN (pV) ?_;obtain⟨⟨⟨b6,b8,b9,ca,⟨ag,ah,ai⟩,cb,cc⟩,⟨fi,fj,fk⟩⟩,jb,h⟩:=gJ h;refine mI 0 (f (gK.mk ff fg fh) a1 (IntKind.i64.wrap (a2 - 1)) jb) ?_;refine goL ?_;refine uN (pV) ?_;obtain⟨⟨⟨cd,ce,cf,cg,⟨aj,ak,al⟩,ch,ci⟩,⟨fl,fm,fn⟩⟩,jc,h⟩:=gJ h;refine mI 0 (f (gK.mk fi fj fk) a1 (IntKind.i64.wrap (a2 - 1)) jc) ?_;refine yQ (us:=kQ [(gY.mk b6 b8 b9 ca (gB.mk ag ah ai) cb cc),(gY.mk cd ce cf cg (gB.mk aj ak al) ch ci)]) ?_;refine yT (jN TBd.h TZ.h rfl (by repeat constructor)) ?_;refine gV 3 rfl rfl ?_;refine jF ?_;obtain rfl:=Option.some.inj h;exact gB5 [.d (.st [.i .i64 5,.s hs,.s [109],.i .i64 0,.st [.i .i64 0,.s [],.sl 3 []],.sl 9 (kQ [(gY.mk b6 b8 b9 ca (gB.mk ag ah ai) cb cc),(gY.mk cd ce cf cg (gB.mk aj ak al) ch ci)]),.sl 11 []])] [bCu fl fm fn] ⟨rfl,rfl⟩
    ·refine goC h ?_ ?_<;>intro k3 h
     ·refine goL ?_;refine uN (pV) ?_;obtain⟨⟨⟨cj,ck,cl,cm,⟨am,an,ao⟩,cn,co⟩,⟨fo,fp,fq⟩⟩,jd,h⟩:=gJ h;refine mI 0 (f (gK.mk q y aa) a1 (IntKind.i64.wrap (a2 - 1)) jd) ?_;refine goL ?_;refine uN (pV) ?_;obtain⟨⟨⟨cp,cq,cr,cs,⟨ap,aq,ar⟩,ct,cu⟩,⟨je,jf,jg⟩⟩,jh,h⟩:=gJ h;refine mI 0 (f (gK.mk fo fp fq) a1 (IntKind.i64.wrap (a2 - 1)) jh) ?_;refine yQ (us:=kQ [(gY.mk cj ck cl cm (gB.mk am an ao) cn co),(gY.mk cp cq cr cs (gB.mk ap aq ar) ct cu)]) ?_;refine kS 2 rfl rfl ?_;obtain⟨⟨ht,hu,hw,hx,⟨fr,fs,ft⟩,hy,hz⟩,ji,h⟩:=gJ h;refine yT (gRe (gDg 6 [99,111,110,115] [(gY.mk cj ck cl cm (gB.mk am an ao) cn co),(gY.mk cp cq cr cs (gB.mk ap aq ar) ct cu)] ji)) ?_;refine jF ?_;obtain rfl:=Option.some.inj h;exact gAg [.d (.st [.i .i64 ht,.s hu,.s hw,.i .i64 hx,.st [.i .i64 fr,.s fs,.sl 3 (gN ft)],.sl 9 (kQ hy),.sl 11 (uZ hz)])] _ ⟨rfl,rfl⟩
     ·refine goC h ?_ ?_<;>intro k4 h
      ·refine goL ?_;refine gC1 ?_;refine goL ?_;obtain⟨kq,h⟩:=pU h;refine gDl kq ?_;refine yQ (us:=gT [[104],[116]]) ?_;obtain⟨kr,h⟩:=pU h;refine hMv 3 ?_;refine gDl kr ?_;refine goL ?_;refine uN (pV) ?_;obtain⟨⟨⟨cv,cw,cx,cy,⟨au,av,aw⟩,cz,c0⟩,⟨fu,fv,fw⟩⟩,jj,h⟩:=gJ h;refine mI 0 (f (gK.mk q y aa) a1 (IntKind.i64.wrap (a2 - 1)) jj) ?_;refine uO (u:=(.st [.i .i64 cv,.s cw,.s cx,.i .i64 cy,.st [.i .i64 au,.s av,.sl 3 (gN aw)],.sl 9 (kQ cz),.sl 11 (uZ c0)])) ?_;refine goL ?_;refine uN (pV) ?_;obtain⟨⟨⟨c1,c2,c4,c6,⟨ax,ay,a0⟩,c7,da⟩,⟨fx,fy,fz⟩⟩,jk,h⟩:=gJ h;refine mI 0 (f (gK.mk fu fv fw) a1 (IntKind.i64.wrap (a2 - 1)) jk) ?_;refine vP (jN TBd.h TZ.h rfl (by repeat constructor)) ?_;refine yQ (us:=gT [[104],[116]]) ?_;refine goL ?_;refine uN (pV) ?_;refine gBv 2 rfl rfl ?_;obtain⟨⟨⟨db,dc,dd,de,⟨a3,a4,a5⟩,df,dg⟩,⟨f0,f1,f2⟩⟩,jl,h⟩:=gJ h;refine mI 0 (f (gK.mk fx fy fz) (([]++a1)++[[104],[116]]) (IntKind.i64.wrap (a2 - 1)) jl) ?_;refine vP (jN TBd.h TZ.h rfl (by repeat constructor)) ?_;refine kS 5 rfl rfl ?_;refine yQ (us:=uZ [(gL8.mk [110,105,108] [] (gY.mk c1 c2 c4 c6 (gB.mk ax ay a0) c7 da)),(gL8.mk [99,111,110,115] [[104],[116]] (gY.mk db dc dd de (gB.mk a3 a4 a5) df dg))]) ?_;refine yT (jN TBd.h TZ.h rfl (by repeat constructor)) ?_;refine gV 4 rfl rfl ?_;refine gV 6 rfl rfl ?_;refine jF ?_;obtain rfl:=Option.some.inj h;exact gB5 [.d (.st [.i .i64 7,.s [],.s [],.i .i64 0,.st [.i .i64 0,.s [],.sl 3 []],.sl 9 (kQ [(gY.mk cv cw cx cy (gB.mk au av aw) cz c0)]),.sl 11 (uZ [(gL8.mk [110,105,108] [] (gY.mk c1 c2 c4 c6 (gB.mk ax ay a0) c7 da)),(gL8.mk [99,111,110,115] [[104],[116]] (gY.mk db dc dd de (gB.mk a3 a4 a5) df dg))])])] [bCu f0 f1 f2] ⟨rfl,rfl⟩
      ·refine goC h ?_ ?_<;>intro k5 h
       ·refine goL ?_;refine uN (pV) ?_;obtain⟨⟨⟨dh,di,dj,dk,⟨a6,a7,a8⟩,dl,dm⟩,⟨f3,f4,f5⟩⟩,jm,h⟩:=gJ h;refine mI 0 (f (gK.mk q y aa) a1 (IntKind.i64.wrap (a2 - 1)) jm) ?_;refine goL ?_;refine gC1 ?_;refine goL ?_;obtain⟨ks,h⟩:=pU h;refine gDl ks ?_;refine wX ([121]:LB) ?_;obtain⟨kt,h⟩:=pU h;refine gDl kt ?_;refine goL ?_;refine uN (pV) ?_;refine gBv 2 rfl rfl ?_;obtain⟨⟨⟨dn,dp,dq,dr,⟨a9,ba,bb⟩,dt,du⟩,⟨jn,jo,jp⟩⟩,jq,h⟩:=gJ h;refine mI 0 (f (gK.mk f3 f4 f5) (([]++a1)++[[121]]) (IntKind.i64.wrap (a2 - 1)) jq) ?_;refine yQ (us:=kQ [(gY.mk dh di dj dk (gB.mk a6 a7 a8) dl dm),(gY.mk dn dp dq dr (gB.mk a9 ba bb) dt du)]) ?_;refine kS 4 rfl rfl ?_;obtain⟨⟨h0,h1,h2,h3,⟨f6,f7,f8⟩,h4,h5⟩,jr,h⟩:=gJ h;refine yT (gRe (gDg 8 [121] [(gY.mk dh di dj dk (gB.mk a6 a7 a8) dl dm),(gY.mk dn dp dq dr (gB.mk a9 ba bb) dt du)] jr)) ?_;refine jF ?_;obtain rfl:=Option.some.inj h;exact gAg [.d (.st [.i .i64 h0,.s h1,.s h2,.i .i64 h3,.st [.i .i64 f6,.s f7,.sl 3 (gN f8)],.sl 9 (kQ h4),.sl 11 (uZ h5)])] _ ⟨rfl,rfl⟩
       ·refine goC h ?_ ?_<;>intro k6 h
        ·refine goL ?_;refine uN (pV) ?_;obtain⟨⟨⟨dv,dw,dx,dy,⟨bc,bd,be⟩,dz,d0⟩,⟨f9,ga,gb⟩⟩,jt,h⟩:=gJ h;refine mI 0 (f (gK.mk q y aa) a1 (IntKind.i64.wrap (a2 - 1)) jt) ?_;refine goL ?_;refine uN (pV) ?_;obtain⟨⟨⟨d1,d2,d3,d4,⟨bf,bg,bh⟩,d5,d6⟩,⟨gc,gd,ge⟩⟩,ju,h⟩:=gJ h;refine mI 0 (f (gK.mk f9 ga gb) a1 (IntKind.i64.wrap (a2 - 1)) ju) ?_;refine goL ?_;refine uN (pV) ?_;obtain⟨⟨⟨d7,d8,d9,ea,⟨bi,bj,bk⟩,eb,ec⟩,⟨jv,jw,jx⟩⟩,jy,h⟩:=gJ h;refine mI 0 (f (gK.mk gc gd ge) a1 (IntKind.i64.wrap (a2 - 1)) jy) ?_;refine yQ (us:=kQ [(gY.mk dv dw dx dy (gB.mk bc bd be) dz d0),(gY.mk d1 d2 d3 d4 (gB.mk bf bg bh) d5 d6),(gY.mk d7 d8 d9 ea (gB.mk bi bj bk) eb ec)]) ?_;refine kS 2 rfl rfl ?_;obtain⟨⟨h6,h7,h8,h9,⟨gf,gg,gh⟩,ia,ib⟩,jz,h⟩:=gJ h;refine yT (gRe (gDg 9 [] [(gY.mk dv dw dx dy (gB.mk bc bd be) dz d0),(gY.mk d1 d2 d3 d4 (gB.mk bf bg bh) d5 d6),(gY.mk d7 d8 d9 ea (gB.mk bi bj bk) eb ec)] jz)) ?_;refine jF ?_;obtain rfl:=Option.some.inj h;exact gAg [.d (.st [.i .i64 h6,.s h7,.s h8,.i .i64 h9,.st [.i .i64 gf,.s gg,.sl 3 (gN gh)],.sl 9 (kQ ia),.sl 11 (uZ ib)])] _ ⟨rfl,rfl⟩
        ·refine goC h ?_ ?_<;>intro k7 h
         ·refine goL ?_;refine yQ (us:=gT [[43],[45],[42],[60],[61]]) ?_;refine kS 2 rfl rfl ?_;obtain⟨⟨ic,⟨gi,gj,gk⟩⟩,j0,h⟩:=gJ h;refine mI 0 (kZ (gK.mk q y aa) [[43],[45],[42],[60],[61]] j0) ?_;refine goL ?_;refine uN (pV) ?_;obtain⟨⟨⟨ed,ee,ef,eg,⟨bl,bm,bn⟩,eh,ei⟩,⟨gl,gm,gn⟩⟩,j1,h⟩:=gJ h;refine mI 0 (f (gK.mk gi gj gk) a1 (IntKind.i64.wrap (a2 - 1)) j1) ?_;refine goL ?_;refine uN (pV) ?_;obtain⟨⟨⟨ej,ek,el,em,⟨bo,bp,bq⟩,en,eo⟩,⟨j2,j3,j4⟩⟩,j5,h⟩:=gJ h;refine mI 0 (f (gK.mk gl gm gn) a1 (IntKind.i64.wrap (a2 - 1)) j5) ?_;refine yQ (us:=kQ [(gY.mk ed ee ef eg (gB.mk bl bm bn) eh ei),(gY.mk ej ek el em (gB.mk bo bp bq) en eo)]) ?_;refine kS 3 rfl rfl ?_;obtain⟨⟨id,ie,ig,ih,⟨go,gp,gq⟩,ii,ij⟩,j6,h⟩:=gJ h;refine yT (gRe (gDg 10 ic [(gY.mk ed ee ef eg (gB.mk bl bm bn) eh ei),(gY.mk ej ek el em (gB.mk bo bp bq) en eo)] j6)) ?_;refine jF ?_;obtain rfl:=Option.some.inj h;exact gAg [.d (.st [.i .i64 id,.s ie,.s ig,.i .i64 ih,.st [.i .i64 go,.s gp,.sl 3 (gN gq)],.sl 9 (kQ ii),.sl 11 (uZ ij)])] _ ⟨rfl,rfl⟩
         ·refine goC h ?_ ?_<;>intro k8 h
          ·refine goL ?_;refine uN (pV) ?_;obtain⟨⟨⟨ep,er,et,eu,⟨br,bt,bu⟩,ev,ew⟩,⟨gr,gs,gt⟩⟩,j7,h⟩:=gJ h;refine mI 0 (f (gK.mk q y aa) a1 (IntKind.i64.wrap (a2 - 1)) j7) ?_;refine uO (u:=(.st [.i .i64 ep,.s er,.s et,.i .i64 eu,.st [.i .i64 br,.s bt,.sl 3 (gN bu)],.sl 9 (kQ ev),.sl 11 (uZ ew)])) ?_;refine yT (jN TBd.h TZ.h rfl (by repeat constructor)) ?_;refine gV 2 rfl rfl ?_;refine jF ?_;obtain rfl:=Option.some.inj h;exact gB5 [.d (.st [.i .i64 11,.s [115,104,111,119],.s [],.i .i64 0,.st [.i .i64 0,.s [],.sl 3 []],.sl 9 (kQ [(gY.mk ep er et eu (gB.mk br bt bu) ev ew)]),.sl 11 []])] [bCu gr gs gt] ⟨rfl,rfl⟩
          ·refine goC h ?_ ?_<;>intro k9 h
           ·refine goL ?_;refine wX ([97]:LB) ?_;refine gBv 2 rfl rfl ?_;obtain⟨⟨⟨gu,gv,gw⟩,⟨gx,gy,gz⟩⟩,j8,h⟩:=gJ h;refine mI 0 (hGd 5000 (gK.mk q y aa) [[97]] 1 j8) ?_;refine goL ?_;refine uN (pV) ?_;obtain⟨⟨⟨ex,ey,ez,e0,⟨bv,bw,bx⟩,e1,e2⟩,⟨g0,g1,g2⟩⟩,j9,h⟩:=gJ h;refine mI 0 (f (gK.mk gx gy gz) a1 (IntKind.i64.wrap (a2 - 1)) j9) ?_;refine uO (u:=(.st [.i .i64 ex,.s ey,.s ez,.i .i64 e0,.st [.i .i64 bv,.s bw,.sl 3 (gN bx)],.sl 9 (kQ e1),.sl 11 (uZ e2)])) ?_;refine yT (jN TBd.h TZ.h rfl (by repeat constructor)) ?_;refine gV 3 rfl rfl ?_;refine jF ?_;obtain rfl:=Option.some.inj h;exact gB5 [.d (.st [.i .i64 12,.s [],.s [],.i .i64 0,.st [.i .i64 gu,.s gv,.sl 3 (gN gw)],.sl 9 (kQ [(gY.mk ex ey ez e0 (gB.mk bv bw bx) e1 e2)]),.sl 11 []])] [bCu g0 g1 g2] ⟨rfl,rfl⟩
           ·refine goS ?_;obtain⟨⟨ik,⟨ka,kb,kc⟩⟩,kd,h⟩:=gJ h;refine mI 0 (mH (gK.mk q y aa) 20 kd) ?_;refine uN (pV) ?_;obtain⟨⟨il,im,io,ip,⟨g3,g5,g6⟩,iq,ir⟩,ke,h⟩:=uK h;have sx55:=gM9 (IntKind.i64.wrap (ik - 5));rw [ke] at sx55;refine jP (gI (sx55)) ?_;refine jF ?_;obtain rfl:=Option.some.inj h;exact gAg [.d (.st [.i .i64 il,.s im,.s io,.i .i64 ip,.st [.i .i64 g3,.s g5,.sl 3 (gN g6)],.sl 9 (kQ iq),.sl 11 (uZ ir)])] _ ⟨rfl,rfl⟩
def gB7:Nat→gK→LS→Int→Option (gY × gK)
 | 0,_,_,_=>none
 | n+1,f,h,q=>gNa (gB7 n) f h q
theorem gAq:∀(n:Nat)(f:gK)(q:LS)(y:Int){r:gY × gK},gB7 n f q y=some r→Go.Eng.Spec Tryz.prog 147 [.ptr 0 0,.L 1 (gT q),.I y] [bCu f.b f.i f.h] (fun sv Lo=>sv=.d (gBp r.1)∧Lo=[bCu r.2.b r.2.i r.2.h]):=by
 intro n
 induction n with
 | zero=>intro f q y r h;cases h
 | succ n ih=>intro f q y r h;exact hBy ih f q y h
end Go.Proofs.YtfpdlnkkcnmebaaGreat
