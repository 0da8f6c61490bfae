import Derived.Test.YtfpdlnkkcnmebaaGreatVr
import Derived.Test.YtfpdlnkkcnmebaaGreatTyL
set_option maxHeartbeats 4000000
set_option linter.unusedVariables false
set_option linter.unusedSimpArgs false
set_option linter.unusedSectionVars false
namespace Go.Proofs.YtfpdlnkkcnmebaaGreat
open Go Go.Eng
attribute [local irreducible] V VO VQ VY Quiet QR jF mJ Rng qI qJ qB
def gMs(f:gN→LS→Int→Option (gU × gN))(c:gN)(a1:LS)(a2:Int):Option (gU × gN):=
bnd (mX c 13) fun h=>
bnd ((cnd (decide (a2≤0)) (
gd ((3:Int)≠0) (
(some (Int.tmod h.1 3)))) (
(some h.1)))) fun q=>
(cnd (q==1) (
bnd (mX h.2 2) fun x6=>
(some ((gU.mk 2 [] [] x6.1 (gB.mk 0 [] []) [] []),x6.2))) (
bnd ((cnd (q==2) (
(some (q==2))) (
(some (q==3))))) fun b7=>
(cnd b7 (
(cnd (decide ((a1.length:Int) > 0)) (
bnd (qE h.2 a1) fun y=>
lt_ (gIp y.1) fun a3=>
(some (a3,y.2))) (
bnd (mX h.2 20) fun aa=>
lt_ (gE5 (IntKind.i64.wrap (aa.1 - 5))) fun a4=>
(some (a4,aa.2))))) (
(cnd (q==4) (
bnd (qE h.2 [[102],[103]]) fun ab=>
bnd (f ab.2 a1 (IntKind.i64.wrap (a2 - 1))) fun ac=>
bnd (gH4 4 ab.1 [ac.1]) fun a5=>
(some (a5,ac.2))) (
(cnd (q==5) (
bnd (qE h.2 [[115,104,111,119],[97,100,100]]) fun ad=>
bnd (f ad.2 a1 (IntKind.i64.wrap (a2 - 1))) fun ae=>
bnd (f ae.2 a1 (IntKind.i64.wrap (a2 - 1))) fun ag=>
(some ((gU.mk 5 ad.1 [109] 0 (gB.mk 0 [] []) [ae.1,ag.1] []),ag.2))) (
(cnd (q==6) (
bnd (f h.2 a1 (IntKind.i64.wrap (a2 - 1))) fun ah=>
bnd (f ah.2 a1 (IntKind.i64.wrap (a2 - 1))) fun ai=>
bnd (gH4 6 [99,111,110,115] [ah.1,ai.1]) fun a6=>
(some (a6,ai.2))) (
(cnd (q==7) (
gd (([]:LS).length+a1.length≤4294967296) (
gd (([]++a1).length+([[104],[116]]:LS).length≤4294967296) (
bnd (f h.2 a1 (IntKind.i64.wrap (a2 - 1))) fun aj=>
bnd (f aj.2 a1 (IntKind.i64.wrap (a2 - 1))) fun ak=>
bnd (f ak.2 (([]++a1)++[[104],[116]]) (IntKind.i64.wrap (a2 - 1))) fun al=>
(some ((gU.mk 7 [] [] 0 (gB.mk 0 [] []) [aj.1] [(gH0.mk [110,105,108] [] ak.1),(gH0.mk [99,111,110,115] [[104],[116]] al.1)]),al.2))))) (
(cnd (q==8) (
bnd (f h.2 a1 (IntKind.i64.wrap (a2 - 1))) fun am=>
gd (([]:LS).length+a1.length≤4294967296) (
gd (([]++a1).length+([[121]]:LS).length≤4294967296) (
bnd (f am.2 (([]++a1)++[[121]]) (IntKind.i64.wrap (a2 - 1))) fun an=>
bnd (gH4 8 [121] [am.1,an.1]) fun a7=>
(some (a7,an.2))))) (
(cnd (q==9) (
bnd (f h.2 a1 (IntKind.i64.wrap (a2 - 1))) fun ao=>
bnd (f ao.2 a1 (IntKind.i64.wrap (a2 - 1))) fun ap=>
bnd (f ap.2 a1 (IntKind.i64.wrap (a2 - 1))) fun aq=>
bnd (gH4 9 [] [ao.1,ap.1,aq.1]) fun a8=>
(some (a8,aq.2))) (
(cnd (q==10) (
bnd (qE h.2 [[43],[45],[42],[60],[61]]) fun ar=>
bnd (f ar.2 a1 (IntKind.i64.wrap (a2 - 1))) fun au=>
bnd (f au.2 a1 (IntKind.i64.wrap (a2 - 1))) fun av=>
bnd (gH4 10 ar.1 [au.1,av.1]) fun a9=>
(some (a9,av.2))) (
(cnd (q==11) (
bnd (f h.2 a1 (IntKind.i64.wrap (a2 - 1))) fun aw=>
(some ((gU.mk 11 [115,104,111,119] [] 0 (gB.mk 0 [] []) [aw.1] []),aw.2))) (
(cnd (q==12) (
bnd (gM0 5000 h.2 [[97]] 1) fun ax=>
bnd (f ax.2 a1 (IntKind.i64.wrap (a2 - 1))) fun ay=>
(some ((gU.mk 12 [] [] 0 ax.1 [ay.1] []),ay.2))) (
bnd (mX h.2 20) fun a0=>
lt_ (gE5 (IntKind.i64.wrap (a0.1 - 5))) fun ba=>
(some (ba,a0.2))))))))))))))))))))))))
theorem hCd{ab:gN→LS→Int→Option (gU × gN)}(f:∀(x0:gN)(x1:LS)(x2:Int){r:gU × gN},ab x0 x1 x2=some r→Go.Eng.Spec Tryz.prog 147 [.ptr 0 0,.L 1 (gP x1),.I x2] [bCu x0.b x0.i x0.h] (fun sv Lo=>sv=.d (zJ r.1)∧Lo=[bCu r.2.b r.2.i r.2.h]))(c:gN)(a1:LS)(a2:Int){r:gU × gN}(h:gMs ab c a1 a2=some r):Go.Eng.Spec Tryz.prog 147 [.ptr 0 0,.L 1 (gP a1),.I a2] [bCu c.b c.i c.h] (fun sv Lo=>sv=.d (zJ r.1)∧Lo=[bCu r.2.b r.2.i r.2.h]):=by
 obtain⟨ki,kj,kk⟩:=c;unfold gMs at h;refine kS 1 Tryz.func147 rfl (by kernel_rfl) rfl rfl fun A _=>?_;refine goL ?_;obtain⟨⟨kv,⟨q,y,aa⟩⟩,kl,h⟩:=gJ h;refine mZ 0 (pU (gN.mk ki kj kk) 13 kl) ?_;refine goL ?_;obtain⟨b2,hb2,h⟩:=gJ h;refine gAn ⟨[(0,.ptr 0 0),(1,.L 1 (gP a1)),(2,.I a2),(6,.ptr 1 0),(7,.I b2)],[bCu q y aa,.box [.I 0,.S [],.S [],.I 0,.I 0,.S [],.nilsl,.nilsl,.nilsl]],Tryz.f147.ntmps⟩ ?_ ?_
 ·refine mQ (fun c3=>?_) (fun c3=>?_)
  ·replace hb2:=kT c3 hb2;refine goL ?_;obtain⟨g4,hb2⟩:=pO hb2;refine jK (hBt g4) ?_;cases hb2;exact eJ
  ·replace hb2:=kU c3 hb2;refine yE ?_;cases hb2;exact eJ
 refine goL ?_;refine jE ?_;refine goC h ?_ ?_<;>intro c5 h
 ·refine goL ?_;obtain⟨⟨ir,⟨kf,kg,kh⟩⟩,kn,h⟩:=gJ h;refine mZ 0 (pU (gN.mk q y aa) 2 kn) ?_;refine gAc (jU TBd.h TZ.h rfl (by repeat constructor)) ?_;refine jG ?_;obtain rfl:=Option.some.inj h;exact gBa [.d (.st [.i .i64 2,.s [],.s [],.i .i64 ir,.st [.i .i64 0,.s [],.sl 3 []],.sl 9 [],.sl 11 []])] _ ⟨rfl,rfl⟩
 ·refine goL ?_;obtain⟨b7,hb7,h⟩:=gJ h;refine gAn ⟨[(0,.ptr 0 0),(1,.L 1 (gP a1)),(2,.I a2),(6,.ptr 1 0),(15,.I b2),(21,.B b7)],[bCu q y aa,.box [.I 0,.S [],.S [],.I 0,.I 0,.S [],.nilsl,.nilsl,.nilsl]],Tryz.f147.ntmps⟩ ?_ ?_
  ·refine mQ (fun c8=>?_) (fun c8=>?_)
   ·replace hb7:=kT c8 hb7;refine yE ?_;cases hb7;exact eJ
   ·replace hb7:=kU c8 hb7;refine goL ?_;cases hb7;exact eJ
  refine goC h ?_ ?_<;>intro c9 h
  ·refine goC h ?_ ?_<;>intro kz h
   ·refine goL ?_;obtain⟨⟨g6,⟨it,iu,iv⟩⟩,iw,h⟩:=gJ h;refine mZ 0 (jZ (gN.mk q y aa) a1 iw) ?_;obtain⟨⟨g7,g8,g9,ha,⟨e2,e3,e4⟩,hb,hc⟩,ix,h⟩:=qW h;have sx12:=gOi g6;rw [ix] at sx12;refine jK (gG (sx12)) ?_;refine jG ?_;obtain rfl:=Option.some.inj h;exact gBa [.d (.st [.i .i64 g7,.s g8,.s g9,.i .i64 ha,.st [.i .i64 e2,.s e3,.sl 3 (gK e4)],.sl 9 (jS hb),.sl 11 (mW hc)])] _ ⟨rfl,rfl⟩
   ·refine goS ?_;obtain⟨⟨hd,⟨iy,iz,i0⟩⟩,i1,h⟩:=gJ h;refine mZ 0 (pU (gN.mk q y aa) 20 i1) ?_;refine qM (pV) ?_;obtain⟨⟨he,hf,hg,hh,⟨e5,e6,e7⟩,hi,hj⟩,i2,h⟩:=qW h;have sx14:=gL0 (IntKind.i64.wrap (hd - 5));rw [i2] at sx14;refine jK (gG (sx14)) ?_;refine jG ?_;obtain rfl:=Option.some.inj h;exact gBa [.d (.st [.i .i64 he,.s hf,.s hg,.i .i64 hh,.st [.i .i64 e5,.s e6,.sl 3 (gK e7)],.sl 9 (jS hi),.sl 11 (mW hj)])] _ ⟨rfl,rfl⟩
  ·refine goC h ?_ ?_<;>intro k0 h
   ·refine goL ?_;refine gAg (us:=gP [[102],[103]]) ?_;refine mD 2 rfl rfl ?_;obtain⟨⟨hk,⟨e8,e9,fa⟩⟩,i3,h⟩:=gJ h;refine mZ 0 (jZ (gN.mk q y aa) [[102],[103]] i3) ?_;refine goL ?_;refine qM (pV) ?_;obtain⟨⟨⟨bz,b0,b1,b3,⟨ac,ad,ae⟩,b4,b5⟩,⟨i4,i5,i6⟩⟩,i7,h⟩:=gJ h;refine mZ 0 (f (gN.mk e8 e9 fa) a1 (IntKind.i64.wrap (a2 - 1)) i7) ?_;refine uQ (u:=(.st [.i .i64 bz,.s b0,.s b1,.i .i64 b3,.st [.i .i64 ac,.s ad,.sl 3 (gK ae)],.sl 9 (jS b4),.sl 11 (mW b5)])) ?_;refine mD 3 rfl rfl ?_;obtain⟨⟨hl,hm,hn,ho,⟨fb,fc,fd⟩,hp,hq⟩,i8,h⟩:=gJ h;refine gAc (gRj (gCv 4 hk [(gU.mk bz b0 b1 b3 (gB.mk ac ad ae) b4 b5)] i8)) ?_;refine jG ?_;obtain rfl:=Option.some.inj h;exact gBa [.d (.st [.i .i64 hl,.s hm,.s hn,.i .i64 ho,.st [.i .i64 fb,.s fc,.sl 3 (gK fd)],.sl 9 (jS hp),.sl 11 (mW hq)])] _ ⟨rfl,rfl⟩
   ·refine goC h ?_ ?_<;>intro k1 h
    ·refine goL ?_;refine gAg (us:=gP [[115,104,111,119],[97,100,100]]) ?_;refine mD 2 rfl rfl ?_;obtain⟨⟨hr,⟨fe,ff,fg⟩⟩,i9,h⟩:=gJ h;refine mZ 0 (jZ (gN.mk q y aa) [[115,104,111,119],[97,100,100]] i9) ?_;refine goL ?_;refine qM (pV) ?_;obtain⟨⟨⟨b6,b8,b9,ca,⟨ag,ah,ai⟩,cb,cc⟩,⟨fh,fi,fj⟩⟩,ja,h⟩:=gJ h;refine mZ 0 (f (gN.mk fe ff fg) a1 (IntKind.i64.wrap (a2 - 1)) ja) ?_;refine goL ?_;refine qM (pV) ?_;obtain⟨⟨⟨cd,ce,cf,cg,⟨aj,ak,al⟩,ch,ci⟩,⟨fk,fl,fm⟩⟩,jb,h⟩:=gJ h;refine mZ 0 (f (gN.mk fh fi fj) a1 (IntKind.i64.wrap (a2 - 1)) jb) ?_;refine gAg (us:=jS [(gU.mk b6 b8 b9 ca (gB.mk ag ah ai) cb cc),(gU.mk cd ce cf cg (gB.mk aj ak al) ch ci)]) ?_;refine gAc (jU TBd.h TZ.h rfl (by repeat constructor)) ?_;refine gW 3 rfl rfl ?_;refine jG ?_;obtain rfl:=Option.some.inj h;exact gCo [.d (.st [.i .i64 5,.s hr,.s [109],.i .i64 0,.st [.i .i64 0,.s [],.sl 3 []],.sl 9 (jS [(gU.mk b6 b8 b9 ca (gB.mk ag ah ai) cb cc),(gU.mk cd ce cf cg (gB.mk aj ak al) ch ci)]),.sl 11 []])] [bCu fk fl fm] ⟨rfl,rfl⟩
    ·refine goC h ?_ ?_<;>intro k2 h
     ·refine goL ?_;refine qM (pV) ?_;obtain⟨⟨⟨cj,ck,cl,cm,⟨am,an,ao⟩,cn,co⟩,⟨fn,fo,fp⟩⟩,jc,h⟩:=gJ h;refine mZ 0 (f (gN.mk q y aa) a1 (IntKind.i64.wrap (a2 - 1)) jc) ?_;refine goL ?_;refine qM (pV) ?_;obtain⟨⟨⟨cp,cq,cr,cs,⟨ap,aq,ar⟩,ct,cu⟩,⟨jd,je,jf⟩⟩,jg,h⟩:=gJ h;refine mZ 0 (f (gN.mk fn fo fp) a1 (IntKind.i64.wrap (a2 - 1)) jg) ?_;refine gAg (us:=jS [(gU.mk cj ck cl cm (gB.mk am an ao) cn co),(gU.mk cp cq cr cs (gB.mk ap aq ar) ct cu)]) ?_;refine mD 2 rfl rfl ?_;obtain⟨⟨hs,ht,hu,hw,⟨fq,fr,fs⟩,hx,hy⟩,jh,h⟩:=gJ h;refine gAc (gRj (gCv 6 [99,111,110,115] [(gU.mk cj ck cl cm (gB.mk am an ao) cn co),(gU.mk cp cq cr cs (gB.mk ap aq ar) ct cu)] jh)) ?_;refine jG ?_;obtain rfl:=Option.some.inj h;exact gBa [.d (.st [.i .i64 hs,.s ht,.s hu,.i .i64 hw,.st [.i .i64 fq,.s fr,.sl 3 (gK fs)],.sl 9 (jS hx),.sl 11 (mW hy)])] _ ⟨rfl,rfl⟩
     ·refine goC h ?_ ?_<;>intro k3 h
      ·refine goL ?_;refine gB9 ?_;refine goL ?_;obtain⟨kp,h⟩:=pO h;refine gDn kp ?_;refine gAg (us:=gP [[104],[116]]) ?_;obtain⟨kq,h⟩:=pO h;refine hI5 3 ?_;refine gDn kq ?_;refine goL ?_;refine qM (pV) ?_;obtain⟨⟨⟨cv,cw,cx,cy,⟨au,av,aw⟩,cz,c0⟩,⟨ft,fu,fv⟩⟩,ji,h⟩:=gJ h;refine mZ 0 (f (gN.mk q y aa) a1 (IntKind.i64.wrap (a2 - 1)) ji) ?_;refine uQ (u:=(.st [.i .i64 cv,.s cw,.s cx,.i .i64 cy,.st [.i .i64 au,.s av,.sl 3 (gK aw)],.sl 9 (jS cz),.sl 11 (mW c0)])) ?_;refine goL ?_;refine qM (pV) ?_;obtain⟨⟨⟨c1,c2,c4,c6,⟨ax,ay,a0⟩,c7,da⟩,⟨fw,fx,fy⟩⟩,jj,h⟩:=gJ h;refine mZ 0 (f (gN.mk ft fu fv) a1 (IntKind.i64.wrap (a2 - 1)) jj) ?_;refine yS (jU TBd.h TZ.h rfl (by repeat constructor)) ?_;refine gAg (us:=gP [[104],[116]]) ?_;refine goL ?_;refine qM (pV) ?_;refine gA8 2 rfl rfl ?_;obtain⟨⟨⟨db,dc,dd,de,⟨a3,a4,a5⟩,df,dg⟩,⟨fz,f0,f1⟩⟩,jk,h⟩:=gJ h;refine mZ 0 (f (gN.mk fw fx fy) (([]++a1)++[[104],[116]]) (IntKind.i64.wrap (a2 - 1)) jk) ?_;refine yS (jU TBd.h TZ.h rfl (by repeat constructor)) ?_;refine mD 5 rfl rfl ?_;refine gAg (us:=mW [(gH0.mk [110,105,108] [] (gU.mk c1 c2 c4 c6 (gB.mk ax ay a0) c7 da)),(gH0.mk [99,111,110,115] [[104],[116]] (gU.mk db dc dd de (gB.mk a3 a4 a5) df dg))]) ?_;refine gAc (jU TBd.h TZ.h rfl (by repeat constructor)) ?_;refine gW 4 rfl rfl ?_;refine gW 6 rfl rfl ?_;refine jG ?_;obtain rfl:=Option.some.inj h;exact gCo [.d (.st [.i .i64 7,.s [],.s [],.i .i64 0,.st [.i .i64 0,.s [],.sl 3 []],.sl 9 (jS [(gU.mk cv cw cx cy (gB.mk au av aw) cz c0)]),.sl 11 (mW [(gH0.mk [110,105,108] [] (gU.mk c1 c2 c4 c6 (gB.mk ax ay a0) c7 da)),(gH0.mk [99,111,110,115] [[104],[116]] (gU.mk db dc dd de (gB.mk a3 a4 a5) df dg))])])] [bCu fz f0 f1] ⟨rfl,rfl⟩
      ·refine goC h ?_ ?_<;>intro k4 h
       ·refine goL ?_;refine qM (pV) ?_;obtain⟨⟨⟨dh,di,dj,dk,⟨a6,a7,a8⟩,dl,dm⟩,⟨f2,f3,f4⟩⟩,jl,h⟩:=gJ h;refine mZ 0 (f (gN.mk q y aa) a1 (IntKind.i64.wrap (a2 - 1)) jl) ?_;refine goL ?_;refine gB9 ?_;refine goL ?_;obtain⟨kr,h⟩:=pO h;refine gDn kr ?_;refine yF ([121]:LB) ?_;obtain⟨ks,h⟩:=pO h;refine gDn ks ?_;refine goL ?_;refine qM (pV) ?_;refine gA8 2 rfl rfl ?_;obtain⟨⟨⟨dn,dp,dq,dr,⟨a9,ba,bb⟩,ds,dt⟩,⟨jm,jn,jo⟩⟩,jp,h⟩:=gJ h;refine mZ 0 (f (gN.mk f2 f3 f4) (([]++a1)++[[121]]) (IntKind.i64.wrap (a2 - 1)) jp) ?_;refine gAg (us:=jS [(gU.mk dh di dj dk (gB.mk a6 a7 a8) dl dm),(gU.mk dn dp dq dr (gB.mk a9 ba bb) ds dt)]) ?_;refine mD 4 rfl rfl ?_;obtain⟨⟨hz,h0,h1,h2,⟨f5,f6,f7⟩,h3,h4⟩,jq,h⟩:=gJ h;refine gAc (gRj (gCv 8 [121] [(gU.mk dh di dj dk (gB.mk a6 a7 a8) dl dm),(gU.mk dn dp dq dr (gB.mk a9 ba bb) ds dt)] jq)) ?_;refine jG ?_;obtain rfl:=Option.some.inj h;exact gBa [.d (.st [.i .i64 hz,.s h0,.s h1,.i .i64 h2,.st [.i .i64 f5,.s f6,.sl 3 (gK f7)],.sl 9 (jS h3),.sl 11 (mW h4)])] _ ⟨rfl,rfl⟩
       ·refine goC h ?_ ?_<;>intro k5 h
        ·refine goL ?_;refine qM (pV) ?_;obtain⟨⟨⟨du,dv,dw,dx,⟨bc,bd,be⟩,dy,dz⟩,⟨f8,f9,ga⟩⟩,jr,h⟩:=gJ h;refine mZ 0 (f (gN.mk q y aa) a1 (IntKind.i64.wrap (a2 - 1)) jr) ?_;refine goL ?_;refine qM (pV) ?_;obtain⟨⟨⟨d0,d1,d2,d3,⟨bf,bg,bh⟩,d4,d5⟩,⟨gb,gc,gd⟩⟩,jt,h⟩:=gJ h;refine mZ 0 (f (gN.mk f8 f9 ga) a1 (IntKind.i64.wrap (a2 - 1)) jt) ?_;refine goL ?_;refine qM (pV) ?_;obtain⟨⟨⟨d6,d7,d8,d9,⟨bi,bj,bk⟩,ea,eb⟩,⟨ju,jv,jw⟩⟩,jx,h⟩:=gJ h;refine mZ 0 (f (gN.mk gb gc gd) a1 (IntKind.i64.wrap (a2 - 1)) jx) ?_;refine gAg (us:=jS [(gU.mk du dv dw dx (gB.mk bc bd be) dy dz),(gU.mk d0 d1 d2 d3 (gB.mk bf bg bh) d4 d5),(gU.mk d6 d7 d8 d9 (gB.mk bi bj bk) ea eb)]) ?_;refine mD 2 rfl rfl ?_;obtain⟨⟨h5,h6,h7,h8,⟨ge,gf,gg⟩,h9,ia⟩,jy,h⟩:=gJ h;refine gAc (gRj (gCv 9 [] [(gU.mk du dv dw dx (gB.mk bc bd be) dy dz),(gU.mk d0 d1 d2 d3 (gB.mk bf bg bh) d4 d5),(gU.mk d6 d7 d8 d9 (gB.mk bi bj bk) ea eb)] jy)) ?_;refine jG ?_;obtain rfl:=Option.some.inj h;exact gBa [.d (.st [.i .i64 h5,.s h6,.s h7,.i .i64 h8,.st [.i .i64 ge,.s gf,.sl 3 (gK gg)],.sl 9 (jS h9),.sl 11 (mW ia)])] _ ⟨rfl,rfl⟩
        ·refine goC h ?_ ?_<;>intro k6 h
         ·refine goL ?_;refine gAg (us:=gP [[43],[45],[42],[60],[61]]) ?_;refine mD 2 rfl rfl ?_;obtain⟨⟨ib,⟨gh,gi,gj⟩⟩,jz,h⟩:=gJ h;refine mZ 0 (jZ (gN.mk q y aa) [[43],[45],[42],[60],[61]] jz) ?_;refine goL ?_;refine qM (pV) ?_;obtain⟨⟨⟨ec,ed,ee,ef,⟨bl,bm,bn⟩,eg,eh⟩,⟨gk,gl,gm⟩⟩,j0,h⟩:=gJ h;refine mZ 0 (f (gN.mk gh gi gj) a1 (IntKind.i64.wrap (a2 - 1)) j0) ?_;refine goL ?_;refine qM (pV) ?_;obtain⟨⟨⟨ei,ej,ek,el,⟨bo,bp,bq⟩,em,en⟩,⟨j1,j2,j3⟩⟩,j4,h⟩:=gJ h;refine mZ 0 (f (gN.mk gk gl gm) a1 (IntKind.i64.wrap (a2 - 1)) j4) ?_;refine gAg (us:=jS [(gU.mk ec ed ee ef (gB.mk bl bm bn) eg eh),(gU.mk ei ej ek el (gB.mk bo bp bq) em en)]) ?_;refine mD 3 rfl rfl ?_;obtain⟨⟨ic,id,ie,ig,⟨gn,go,gp⟩,ih,ii⟩,j5,h⟩:=gJ h;refine gAc (gRj (gCv 10 ib [(gU.mk ec ed ee ef (gB.mk bl bm bn) eg eh),(gU.mk ei ej ek el (gB.mk bo bp bq) em en)] j5)) ?_;refine jG ?_;obtain rfl:=Option.some.inj h;exact gBa [.d (.st [.i .i64 ic,.s id,.s ie,.i .i64 ig,.st [.i .i64 gn,.s go,.sl 3 (gK gp)],.sl 9 (jS ih),.sl 11 (mW ii)])] _ ⟨rfl,rfl⟩
         ·refine goC h ?_ ?_<;>intro k7 h
          ·refine goL ?_;refine qM (pV) ?_;obtain⟨⟨⟨eo,ep,er,et,⟨br,bt,bu⟩,eu,ev⟩,⟨gq,gr,gs⟩⟩,j6,h⟩:=gJ h;refine mZ 0 (f (gN.mk q y aa) a1 (IntKind.i64.wrap (a2 - 1)) j6) ?_;refine uQ (u:=(.st [.i .i64 eo,.s ep,.s er,.i .i64 et,.st [.i .i64 br,.s bt,.sl 3 (gK bu)],.sl 9 (jS eu),.sl 11 (mW ev)])) ?_;refine gAc (jU TBd.h TZ.h rfl (by repeat constructor)) ?_;refine gW 2 rfl rfl ?_;refine jG ?_;obtain rfl:=Option.some.inj h;exact gCo [.d (.st [.i .i64 11,.s [115,104,111,119],.s [],.i .i64 0,.st [.i .i64 0,.s [],.sl 3 []],.sl 9 (jS [(gU.mk eo ep er et (gB.mk br bt bu) eu ev)]),.sl 11 []])] [bCu gq gr gs] ⟨rfl,rfl⟩
          ·refine goC h ?_ ?_<;>intro k8 h
           ·refine goL ?_;refine yF ([97]:LB) ?_;refine gA8 2 rfl rfl ?_;obtain⟨⟨⟨gt,gu,gv⟩,⟨gw,gx,gy⟩⟩,j7,h⟩:=gJ h;refine mZ 0 (hC8 5000 (gN.mk q y aa) [[97]] 1 j7) ?_;refine goL ?_;refine qM (pV) ?_;obtain⟨⟨⟨ew,ex,ey,ez,⟨bv,bw,bx⟩,e0,e1⟩,⟨gz,g0,g1⟩⟩,j8,h⟩:=gJ h;refine mZ 0 (f (gN.mk gw gx gy) a1 (IntKind.i64.wrap (a2 - 1)) j8) ?_;refine uQ (u:=(.st [.i .i64 ew,.s ex,.s ey,.i .i64 ez,.st [.i .i64 bv,.s bw,.sl 3 (gK bx)],.sl 9 (jS e0),.sl 11 (mW e1)])) ?_;refine gAc (jU TBd.h TZ.h rfl (by repeat constructor)) ?_;refine gW 3 rfl rfl ?_;refine jG ?_;obtain rfl:=Option.some.inj h;exact gCo [.d (.st [.i .i64 12,.s [],.s [],.i .i64 0,.st [.i .i64 gt,.s gu,.sl 3 (gK gv)],.sl 9 (jS [(gU.mk ew ex ey ez (gB.mk bv bw bx) e0 e1)]),.sl 11 []])] [bCu gz g0 g1] ⟨rfl,rfl⟩
           ·refine goS ?_;obtain⟨⟨ij,⟨j9,ka,kb⟩⟩,kc,h⟩:=gJ h;refine mZ 0 (pU (gN.mk q y aa) 20 kc) ?_;refine qM (pV) ?_;obtain⟨⟨ik,il,im,io,⟨g2,g3,g5⟩,ip,iq⟩,kd,h⟩:=qW h;have sx55:=gL0 (IntKind.i64.wrap (ij - 5));rw [kd] at sx55;refine jK (gG (sx55)) ?_;refine jG ?_;obtain rfl:=Option.some.inj h;exact gBa [.d (.st [.i .i64 ik,.s il,.s im,.i .i64 io,.st [.i .i64 g2,.s g3,.sl 3 (gK g5)],.sl 9 (jS ip),.sl 11 (mW iq)])] _ ⟨rfl,rfl⟩
def gBy:Nat→gN→LS→Int→Option (gU × gN)
 | 0,_,_,_=>none
 | n+1,c,f,h=>gMs (gBy n) c f h
theorem qP:∀(n:Nat)(c:gN)(f:LS)(q:Int){r:gU × gN},gBy n c f q=some r→Go.Eng.Spec Tryz.prog 147 [.ptr 0 0,.L 1 (gP f),.I q] [bCu c.b c.i c.h] (fun sv Lo=>sv=.d (zJ r.1)∧Lo=[bCu r.2.b r.2.i r.2.h]):=by
 intro n
 induction n with
 | zero=>intro c f q r h;cases h
 | succ n ih=>intro c f q r h;exact hCd ih c f q h
def zL(c:gN)(a1:Int):Option (gB × gN):=
bnd (gM0 5000 c [[97],[98]] a1) fun h=>
bnd (mX h.2 8) fun f=>
(cnd (f.1==0) (
bnd (qE f.2 [[97,100,100],[115,104,111,119]]) fun q=>
bnd (gK5 q.1 h.1) fun y=>
(some (y,q.2))) (
(cnd (f.1==1) (
bnd (gK5 [97,100,100] h.1) fun x7=>
bnd (gCq [108,105,115,116] [x7]) fun x8=>
(some (x8,f.2))) (
(cnd (f.1==2) (
(some ((gB.mk 4 [115,104,111,119] []),f.2))) (
(some (h.1,f.2))))))))
theorem uZ(c:gN)(a1:Int){r:gB × gN}(h:zL c a1=some r):Go.Eng.Spec Tryz.prog 96 [.ptr 0 0,.I a1] [bCu c.b c.i c.h] (fun sv Lo=>sv=.d (kZ r.1)∧Lo=[bCu r.2.b r.2.i r.2.h]):=by
 obtain⟨ay,a0,a3⟩:=c;unfold zL at h;refine kS 1 Tryz.func96 rfl (by kernel_rfl) rfl rfl fun A _=>?_;refine goL ?_;refine gAg (us:=gP [[97],[98]]) ?_;refine goL ?_;refine mD 2 rfl rfl ?_;obtain⟨⟨⟨ab,ac,ad⟩,⟨ae,ag,ah⟩⟩,a4,h⟩:=gJ h;refine mZ 0 (hC8 5000 (gN.mk ay a0 a3) [[97],[98]] a1 a4) ?_;refine goL ?_;obtain⟨⟨a8,⟨f,y,aa⟩⟩,a5,h⟩:=gJ h;refine mZ 0 (pU (gN.mk ae ag ah) 8 a5) ?_;refine goL ?_;refine jE ?_;refine goC h ?_ ?_<;>intro c3 h
 ·obtain⟨⟨a9,⟨ai,aj,ak⟩⟩,ar,h⟩:=gJ h;obtain⟨⟨al,am,an⟩,au,h⟩:=gJ h;refine zK (P:=Tryz.prog) Mix.h (.q 0 (.h 1 (.h 2 (.h 3 (.q 4 (.h 5 .nil .nil)) .nil) (.h 3 (.h 2 (.q 4 (.h 5 .nil .nil)) .nil) .nil)) (.h 3 (.h 1 (.h 2 (.q 4 (.h 5 .nil .nil)) .nil) .nil) .nil))) ⟨[(4,.ptr 1 0)],[bCu ai aj ak,bTy al am an,.frz 9 1 0 (gP [[97],[98]]),bTy ab ac ad,.frz 9 1 0 (gP [[97,100,100],[115,104,111,119]])],Tryz.f96.ntmps⟩ (by kernel_rfl) ?_ ?_
  ·refine goT ?_;refine pR (jT (T:=34) (us:=gP [[97,100,100],[115,104,111,119]]) gQ) ?_ ?_
   ·refine pR (mG 4 rfl rfl (mH 0 (jZ (gN.mk f y aa) [[97,100,100],[115,104,111,119]] ar) gQ)) ?_ ?_
    ·refine gH (jJ gQ) ?_;refine gFx (jO rfl (gG (gOw _ _ au)) gQ) ?_;refine goT ?_;refine jB ?_;exact mK 1 [0,1,2,3,4]
    refine gH (jJ gQ) ?_;refine gH (mG 4 rfl rfl (mH 0 (jZ (gN.mk f y aa) [[97,100,100],[115,104,111,119]] ar) gQ)) ?_;refine gFx (jO rfl (gG (gOw _ _ au)) gQ) ?_;refine goT ?_;refine jB ?_;exact mK 1 [0,1,2,3,4]
   refine gH (jJ gQ) ?_;refine gH (jT (T:=34) (us:=gP [[97,100,100],[115,104,111,119]]) gQ) ?_;refine gH (mG 4 rfl rfl (mH 0 (jZ (gN.mk f y aa) [[97,100,100],[115,104,111,119]] ar) gQ)) ?_;refine gFx (jO rfl (gG (gOw _ _ au)) gQ) ?_;refine goT ?_;refine jB ?_;exact mK 1 [0,1,2,3,4]
  refine goL ?_;refine jG ?_;obtain rfl:=Option.some.inj h;exact gBa [.d (.st [.i .i64 al,.s am,.sl 3 (gK an)])] _ ⟨rfl,rfl⟩
 ·refine goC h ?_ ?_<;>intro c6 h
  ·refine goL ?_;obtain⟨⟨ao,ap,aq⟩,a6,h⟩:=gJ h;refine qM (gG (gOw _ _ a6)) ?_;refine uQ (u:=(.st [.i .i64 ao,.s ap,.sl 3 (gK aq)])) ?_;refine mD 4 rfl rfl ?_;obtain⟨⟨av,aw,ax⟩,a7,h⟩:=gJ h;refine gAc (gRj (gF0 [108,105,115,116] [(gB.mk ao ap aq)] a7)) ?_;refine jG ?_;obtain rfl:=Option.some.inj h;exact gBa [.d (.st [.i .i64 av,.s aw,.sl 3 (gK ax)])] _ ⟨rfl,rfl⟩
  ·refine goC h ?_ ?_<;>intro c9 h
   ·refine goL ?_;refine gAc (jU TBd.h TZ.h rfl (by repeat constructor)) ?_;refine jG ?_;obtain rfl:=Option.some.inj h;exact gBa [.d (.st [.i .i64 4,.s [115,104,111,119],.sl 3 []])] _ ⟨rfl,rfl⟩
   ·refine goS ?_;refine jG ?_;obtain rfl:=Option.some.inj h;exact gBa [.d (.st [.i .i64 ab,.s ac,.sl 3 (gK ad)])] _ ⟨rfl,rfl⟩
end Go.Proofs.YtfpdlnkkcnmebaaGreat
