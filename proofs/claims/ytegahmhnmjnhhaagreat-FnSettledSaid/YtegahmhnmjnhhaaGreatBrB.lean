import Derived.Test.YtegahmhnmjnhhaaGreatIa
set_option maxHeartbeats 4000000
set_option linter.unusedVariables false
set_option linter.unusedSimpArgs false
set_option linter.unusedSectionVars false
namespace Go.Proofs.YtegahmhnmjnhhaaGreat
open Go Go.Eng
attribute [local irreducible] V VO VQ VY Quiet QR jC kT Rng mU mV mI
theorem gPt:∀(xs y:List gG),(∀b∈xs,tok b.type_)→y.length+xs.length≤4294967296→gCf xs y=some (y++xs)
 | [],y,_,_=>by simp [gCf]
 | x::xs,y,h,hl=>by
   simp only [List.length_cons] at hl;rw [gCf,mK (h x (by simp))];simp only [lt_,idT];rw [mK (by simp;omega),gPt xs _ (fun b hb=>h b (by simp [hb])) (by simp;omega)];simp
theorem gRy(s:gJ)(ho:s.obligations=[])(b:List gG):∀(xs y:List jB),(∀q∈xs,tok q.a∧tok q.b)→y.length+xs.length≤4294967296→zH s b xs y=some ⟨s.next,s.count,s.node,b,y++xs,[],s.code,s.at_⟩
 | [],y,_,_=>by simp [zH,ho,gCm]
 | x::xs,y,h,hl=>by
   simp only [List.length_cons] at hl;rw [zH,mK (h x (by simp)).1];simp only [lt_,idT];rw [mK (h x (by simp)).2,mK (by simp;omega),gRy s ho b xs _ (fun q hq=>h q (by simp [hq])) (by simp;omega)];simp
theorem hB6{V:List (List UInt8)}{s:gJ}(h:Inv V s)(hV:V.length≤5)(he:s.equations.length≤4294967296):gGu s=some s:=by
 have hl:=h.len;unfold gGu gQw;rw [jQ (gPt s.bindings [] h.bok (by simp;omega)),gRy s h.obl.1 _ s.equations [] (fun q hq=>⟨(h.eqs q hq).1.1.1.1,(h.eqs q hq).2.1.1.1⟩) (by simp;omega)];obtain⟨a,b,c,d,e,f,g,i⟩:=s
 have:=h.obl.1
 simp only at this;subst this;simp
def gAf(c:gI)(a1:List gY)(a2:gJ):Option (gJ):=
bnd (gSx c a1 a2) fun f=>
bnd (gGu f) fun h=>
(some h)
theorem gO4(c:gI)(a1:List gY)(a2:gJ){r:gJ}(h:gAf c a1 a2=some r):jC Tryz.prog 16 [.d (kR c),.L 4 (kV a1),.d (mD a2)] [mD r]:=by
 obtain⟨aa⟩:=c;obtain⟨ab,ac,ad,ae,ag,ah,ai,aj⟩:=a2;unfold gAf at h;refine SpI Tryz.func16 fun A _=>?_;refine goL ?_;obtain⟨⟨ak,al,am,an,ao,ap,aq,ar⟩,f,h⟩:=gP h;refine qI (gF (gYl _ _ _ f)) ?_;obtain⟨⟨au,av,aw,ax,ay,a3,a4,a5⟩,y,h⟩:=gP h;refine qI (gF (gT4 _ y)) ?_;exact goR h
theorem hTu{V:List (List UInt8)}{B:Nat}(hV:V.length≤5)(hB:B≤200000){s:gJ}{xs:List jB}(h:PS V B s xs)(v:List UInt8):slv s.bindings v≤30:=by
 have hr:=hJz h.inv;obtain⟨c,_⟩:=h.hs _ hr (hC3 h.inv.tri);have hl:=h.inv.len
 have:=hJi (E:=4) (by omega) h.inv.tri c.hb (n:=4) (by omega) v
 omega
theorem hQh{V:List (List UInt8)}{B:Nat}(hV:V.length≤5)(hB:B≤200000){s:gJ}(h:PS V B s []):hU6 s:=by
 have hl:=h.inv.len;have hp:=h.len hV;exact⟨⟨by omega,h.inv.bok⟩,⟨by omega,fun q hq=>⟨(h.inv.eqs q hq).1.1.1.1,(h.inv.eqs q hq).2.1.1.1⟩⟩,by rw [h.inv.obl.1];simp,fun o ho=>by rw [h.inv.obl.1] at ho;simp at ho⟩
theorem gT5{w:gI}{k:Int}(hw:gOw w k)(hi:gYe w){wh:List gY}(hwh:gNl wh)(hwl:wh.length≤1000){V:List (List UInt8)}{B:Nat}(hV:V.length≤5)(hB:B≤200000){s:gJ}(h:PS V B s []):∃s',gAf w wh s=some s'∧gJf w wh s=some s'∧s'.node=s.node∧(∃l,s'.bindings=s.bindings++l)∧PS V B s' []∧(s.equations=[]→s'.bindings=s.bindings∧s'.code=s.code):=by
 obtain⟨fs,hf,hF,_⟩:=gOn hw wh 0 [] hwh (fun a ha=>by simp at ha) (by simp;omega);have hp:=h.len hV;obtain⟨c,q1,y,f,q4,q5⟩:=hVa hw hi hwh hwl (fs:=fs) hf hF hV hB s s.equations.length 50000000 5000000 s (Nat.le_refl _) (by omega) (by omega) h;have g:=q5 _ (hJz f.inv) (hC3 f.inv.tri) (hTu hV hB f) s.node;have q6:=f.node s.node;have hl:=f.len hV;refine⟨{ c with node:=s.node },?_,?_,rfl,y.ext,q6,q4⟩
 ·unfold gAf;have e:gSx w wh s=some { c with node:=s.node }:=q1;rw [jQ e,jQ (hB6 q6.inv hV (by show c.equations.length≤_;omega))]
 ·unfold gJf;have e1:gHu w wh=some ⟨w,fs⟩:=by
   unfold gHu;rw [hAh hw hi hwh,show pQ w wh=some fs from hf];rfl
  rw [mK (hQh hV hB h)];simp only [lt_,idS];rw [jQ e1];have e2:gUl s.next s.count s.node s.bindings s.equations s.obligations s.code s.at_ ⟨w,fs⟩=some (s.node,c.code,c.at_,c.bindings,c.equations):=g;rw [jQ e2,←y.nx,←y.ct,←y.ob]
theorem hTv{t:gB}(hD:DT VZ t)(h:SZ 2 t)(r:List UInt8→Nat):HS 4 r t:=hVo (by omega) t (hLh t hD.1.2.1) h.1
theorem hTw{t:gB}(hD:DT VZ t)(h:SZ 2 t)(r:List UInt8→Nat):HZ r t:=hP9 t (hLh t hD.1.2.1) (by have:=h.2.1;omega) h.2.2
theorem hTz{t:gB}(hD:DT VZ t)(h:SZ 2 t){r:List UInt8→Nat}(hr:∀v,r v≤6139):sn r t≤24571:=by
 have c:=hLg (r:=r) (m:=6139) t (hLh t hD.1.2.1) (fun v _=>hr v);have f:vo t*6139≤4*6139:=Nat.mul_le_mul_right _ h.2.2;have y:=h.2.1;omega
theorem PS.up{V:List (List UInt8)}{B B':Nat}{s:gJ}{xs:List jB}(h:PS V B s xs)(hB:B≤B'):PS V B' s xs:=⟨h.inv,h.eq,h.hz,fun r hr hs hb=>by have:=h.ph r hr hs hb;omega,h.hs⟩
theorem hB7{w:gI}{k:Int}(hw:gOw w k)(hi:gYe w){wh:List gY}(hwh:gNl wh)(hwl:wh.length≤1000){s:gJ}{j:Nat}(hj:j < 4)(h:PS VZ (49142*j) s []){a b:gB}(ha:DT VZ a)(hb:DT VZ b)(hta:tnd a≤64)(htb:tnd b≤64)(sa:SZ 2 a)(sb:SZ 2 b):∃s',zQ w wh s a b=some s'∧PS VZ (49142*(j+1)) s' []:=by
 have hV:VZ.length≤5:=by decide
 obtain⟨fs,hf,hF,_⟩:=gOn hw wh 0 [] hwh (fun a ha=>by simp at ha) (by simp;omega)
 have hx:PS VZ (49142*(j+1)) s [⟨a,b,s.node⟩]:=⟨h.inv,fun q hq=>by simp only [List.mem_singleton] at hq;subst hq;exact⟨⟨ha,by show tnd a≤2000;omega⟩,hb,by show tnd b≤2000;omega⟩,
  fun r hr hs=>⟨(h.hz r hr hs).1,fun q hq=>by simp only [List.mem_singleton] at hq;subst hq;exact⟨hTw ha sa r,hTw hb sb r⟩⟩,
  fun r hr hs hr2=>by
   have h1:=h.ph r hr hs hr2;have h2:=hTz ha sa hr2;have h3:=hTz hb sb hr2;simp only [phs] at h1 ⊢
   omega,
  fun r hr hs=>⟨(h.hs r hr hs).1,fun q hq=>by simp only [List.mem_singleton] at hq;subst hq;exact⟨hTv ha sa r,hTv hb sb r⟩⟩⟩
 obtain⟨y,c,_,f,_⟩:=hPt hw hi hwh hwl hf hF hV (by omega) hx;have c:pG 5000 w wh s a b 40=some y:=c;have hl:=f.len hV;unfold zQ;rw [jQ c,jQ (hB6 f.inv hV (by omega))];exact⟨y,rfl,f⟩
theorem hMl{w:gI}{k:Int}(hw:gOw w k)(hi:gYe w){wh:List gY}(hwh:gNl wh)(hwl:wh.length≤1000)(f:Int × jH)(h3:f.1≤3):∀(n j:Nat) (c:jH) (s:gJ),0 < n→f.1 < j+n→j≤3→gB0 c→PS VZ (49142*j) s []→
  ∃s' c',gDo w wh f n c.b c.i c.h s.next s.count s.node s.bindings s.equations s.obligations s.code s.at_ (j:Int)=some (s',c')∧gB0 c'∧PS VZ (49142*3) s' []
 | 0,j,c,s,h,_,_,_,_=>by omega
 | n+1,j,c,s,_,h,hj,hc,he=>by
   rw [gDo];cases hd:decide ((j:Int) < f.1)with
   | false=>exact⟨s,c,rfl,hc,he.up (by omega)⟩
   | true=>
     have hd:=of_decide_eq_true hd;obtain⟨a,c1,a1,a2,a3,a4,a5⟩:=hO5 c hc;obtain⟨b,c2,b1,b2,b3,b4,b5⟩:=hO5 c1 a2;have a1:gKz 5000 ⟨c.b,c.i,c.h⟩ 2=some (a,c1):=a1;obtain⟨s',q1,q3⟩:=hB7 hw hi hwh hwl (by omega) he a3 b3 a4 b4 a5 b5;have q1:zQ w wh ⟨s.next,s.count,s.node,s.bindings,s.equations,s.obligations,s.code,s.at_⟩ a b=some s':=q1;rw [gZ,jQ a1,jQ b1];simp only;rw [jQ q1,show IntKind.i64.wrap ((j:Int)+1)=((j+1:Nat):Int)from gWx (by omega)];cases s'.code==0 with
     | true=>exact hMl hw hi hwh hwl f h3 n (j+1) c2 s' (by omega) (by omega) (by omega) b2 q3
     | false=>
       obtain⟨y,c3,f1,f2⟩:=gK2 c2 12 b2 (by omega) (by omega);rw [gK,jQ f1];cases y with
       | true=>exact hMl hw hi hwh hwl f h3 n (j+1) c3 s' (by omega) (by omega) (by omega) f2 q3
       | false=>exact hMl hw hi hwh hwl f h3 n (j+1) c3 s (by omega) (by omega) (by omega) f2 (he.up (by omega))
theorem Inv.start(V:List (List UInt8))(x:Int):Inv V ⟨4,0,x,[],[],[],0,0⟩:=⟨fun i b h=>by simp at h,fun b h=>by simp at h,fun b h=>by simp at h,⟨rfl,rfl⟩,fun q h=>by simp at h⟩
theorem hYh{w:gI}{k:Int}(hw:gOw w k)(hi:gYe w){wh:List gY}(hwh:gNl wh)(hwl:wh.length≤1000)(c:jH)(hc:gB0 c):∃s c',hGf c w wh=some (s,c')∧gB0 c'∧PS VZ (49142*3) s []:=by
 obtain⟨x,c1,e1,_,_,e4⟩:=gGf c 5 hc (by omega) (by omega);obtain⟨y,f,f1,f2,f3,f4⟩:=gGf c1 4 e4 (by omega) (by omega);unfold hGf gVl;rw [jQ e1,jQ f1]
 exact hMl hw hi hwh hwl (y,f) (by simp only;omega) 5000 0 f ⟨4,0,x,[],[],[],0,0⟩ (by omega) (by simp only;omega) (by omega) f4
  ⟨.start _ _,fun q h=>by simp at h,fun r _ _=>⟨⟨fun b h=>by simp at h,fun b h=>by simp at h⟩,fun q h=>by simp at h⟩,fun r _ _ _=>by simp [phs],fun r _ _=>⟨⟨fun b h=>by simp at h,fun b h=>by simp at h⟩,fun q h=>by simp at h⟩⟩
def gXh(c:List UInt8):Bool:=
(decide ((c.length:Int) > 1048576))
theorem hT2(c:List UInt8):jC Tryz.prog 5 [.L 1 (gDs c)] [.b (gXh c)]:=by
 obtain⟨r,h⟩:∃r,gXh c=r:=⟨_,rfl⟩
 rw [h];unfold gXh at h;refine SpI Tryz.func5 fun A _=>?_;refine goL ?_;refine jK ?_;subst h;exact qA
def gIa(a0:List UInt8):Option (Bool):=
(cnd (gXh a0) (
(some true)) (
bnd (vR a0) fun c=>
bnd (gJf c.1 c.2.1 c.2.2) fun f=>
bnd (gAf c.1 c.2.1 c.2.2) fun h=>
lt_ ((cnd (f.code != h.code) (true) ((cnd ((f.equations.length:Int) !=(h.equations.length:Int)) (true) ((cnd ((f.bindings.length:Int) !=(h.bindings.length:Int)) (true) ((f.node != c.2.2.node)))))))) fun b5=>
(cnd b5 (
(some false)) (
bnd (gJf c.1 c.2.1 f) fun y=>
lt_ ((cnd (decide ((y.bindings.length:Int)≥(f.bindings.length:Int))) ((cnd (decide ((f.bindings.length:Int)≥(c.2.2.bindings.length:Int))) ((cnd (decide ((c.2.2.equations.length:Int) > 0)) (true) ((cnd ((f.bindings.length:Int)==(c.2.2.bindings.length:Int)) ((f.code==c.2.2.code)) (false))))) (false))) (false))) fun aa=>
(some aa)))))
theorem gXi(a0:List UInt8){r:Bool}(h:gIa a0=some r):jC Tryz.prog 4 [.L 1 (gDs a0)] [.b r]:=by
 unfold gIa at h;refine SpI Tryz.func4 fun A _=>?_;refine goL ?_;refine jL (gF (hT2 a0)) ?_;refine kX (fun c1=>?_) (fun c1=>?_)
 ·replace h:=kD c1 h;exact goR h
 ·replace h:=kE c1 h;refine goS ?_;obtain⟨⟨⟨c⟩,bf,⟨f,y,aa,ab,ac,ad,ae,ag⟩⟩,bj,h⟩:=gP h;refine jL (gF (gK5 _ bj)) ?_;obtain⟨⟨ah,ai,aj,ak,al,am,an,ao⟩,bk,h⟩:=gP h;refine jL (gF (gYk _ _ _ bk)) ?_;obtain⟨⟨ap,aq,ar,au,av,aw,ax,ay⟩,bl,h⟩:=gP h;refine jL (gF (gO4 _ _ _ bl)) ?_;obtain⟨b5,hb5,h⟩:=qB h;refine jT ⟨[(3,.ptr 0 0),(4,.L 4 (kV bf)),(5,.ptr 1 0),(6,.ptr 2 0),(54,.B b5)],[bPr c,bSt f y aa ab ac ad ae ag,bSt ah ai aj ak al am an ao,bSt ap aq ar au av aw ax ay],Tryz.f4.ntmps⟩ ?_ ?_
  ·refine pX 30 (fun c6=>?_) (fun c6=>?_) (by first | rfl | (simp only [jG,gV];rfl))
   ·replace hb5:=kD c6 hb5;refine goL ?_;cases hb5;exact⟨rfl,⟨⟨rfl,rfl⟩,⟨rfl,rfl⟩,⟨rfl,rfl⟩,⟨rfl,rfl⟩,⟨by first | rfl | (simp only [jG,gV];rfl),rfl⟩,trivial⟩,⟨_,rfl⟩,rfl⟩
   ·replace hb5:=kE c6 hb5;refine goL ?_;refine pX 39 (fun c7=>?_) (fun c7=>?_) (by first | rfl | (simp only [jG,gV];rfl))
    ·replace hb5:=kD c7 hb5;refine goL ?_;cases hb5;exact⟨rfl,⟨⟨rfl,rfl⟩,⟨rfl,rfl⟩,⟨rfl,rfl⟩,⟨rfl,rfl⟩,⟨by first | rfl | (simp only [jG,gV];rfl),rfl⟩,trivial⟩,⟨_,rfl⟩,rfl⟩
    ·replace hb5:=kE c7 hb5;refine goL ?_;refine pX 48 (fun c8=>?_) (fun c8=>?_) (by first | rfl | (simp only [jG,gV];rfl))
     ·replace hb5:=kD c8 hb5;refine goL ?_;cases hb5;exact⟨rfl,⟨⟨rfl,rfl⟩,⟨rfl,rfl⟩,⟨rfl,rfl⟩,⟨rfl,rfl⟩,⟨by first | rfl | (simp only [jG,gV];rfl),rfl⟩,trivial⟩,⟨_,rfl⟩,rfl⟩
     ·replace hb5:=kE c8 hb5;refine goL ?_;cases hb5;exact⟨rfl,⟨⟨rfl,rfl⟩,⟨rfl,rfl⟩,⟨rfl,rfl⟩,⟨rfl,rfl⟩,⟨by first | rfl | (simp only [jG,gV];rfl),rfl⟩,trivial⟩,⟨_,rfl⟩,rfl⟩
  refine goC h ?_ ?_<;>intro c9 h
  ·exact goR h
  ·refine goS ?_;obtain⟨⟨a3,a4,a5,a6,a7,a8,a9,ba⟩,bg,h⟩:=gP h;refine jL (gF (gYk _ _ _ bg)) ?_;obtain⟨bp,hb11,h⟩:=qB h;refine jT ⟨[(2,.B bp)],[bPr c,bSt f y aa ab ac ad ae ag,bSt ah ai aj ak al am an ao,bSt ap aq ar au av aw ax ay,bSt a3 a4 a5 a6 a7 a8 a9 ba],Tryz.f4.ntmps⟩ ?_ ?_
   ·refine pX 66 (fun bb=>?_) (fun bb=>?_) (by first | rfl | (simp only [jG,gV];rfl))
    ·replace hb11:=kD bb hb11;refine goL ?_;refine pX 75 (fun bc=>?_) (fun bc=>?_) (by first | rfl | (simp only [jG,gV];rfl))
     ·replace hb11:=kD bc hb11;refine goL ?_;refine pX 80 (fun bd=>?_) (fun bd=>?_) (by first | rfl | (simp only [jG,gV];rfl))
      ·replace hb11:=kD bd hb11;refine goL ?_;cases hb11;exact⟨rfl,⟨⟨by first | rfl | (simp only [jG,gV];rfl),rfl⟩,trivial⟩,⟨_,rfl⟩,rfl⟩
      ·replace hb11:=kE bd hb11;refine goL ?_;refine pX 88 (fun be=>?_) (fun be=>?_) (by first | rfl | (simp only [jG,gV];rfl))
       ·replace hb11:=kD be hb11;refine goL ?_;cases hb11;exact⟨rfl,⟨⟨by first | rfl | (simp only [jG,gV];rfl),rfl⟩,trivial⟩,⟨_,rfl⟩,rfl⟩
       ·replace hb11:=kE be hb11;refine goL ?_;cases hb11;exact⟨rfl,⟨⟨by first | rfl | (simp only [jG,gV];rfl),rfl⟩,trivial⟩,⟨_,rfl⟩,rfl⟩
     ·replace hb11:=kE bc hb11;refine goL ?_;cases hb11;exact⟨rfl,⟨⟨by first | rfl | (simp only [jG,gV];rfl),rfl⟩,trivial⟩,⟨_,rfl⟩,rfl⟩
    ·replace hb11:=kE bb hb11;refine goL ?_;cases hb11;exact⟨rfl,⟨⟨by first | rfl | (simp only [jG,gV];rfl),rfl⟩,trivial⟩,⟨_,rfl⟩,rfl⟩
   exact goR h
theorem hQi(code:List UInt8)(h:gB0 (gLi code)):∃w k wh s,vR code=some (w,wh,s)∧gOw w k∧gYe w∧gNl wh∧wh.length≤1000∧PS VZ (49142*4) s []:=by
 obtain⟨w,k,c1,a1,a2,c,f⟩:=hQs _ h;obtain⟨wh,c2,b1,b2,b3,b4⟩:=hMr c1 a2;obtain⟨s,c3,d1,d2,d3⟩:=hYh c f b3 b4 c2 b2;obtain⟨y,c4,f1,f2⟩:=gK2 c3 2 d2 (by omega) (by omega);unfold vR;simp only [lt_];rw [jQ a1,jQ b1,jQ d1,jQ f1];cases y with
 | false=>exact⟨w,k,wh,s,rfl,c,f,b3,b4,d3.up (by omega)⟩
 | true=>
   have hI:gJw=some gAs:=by unfold gJw;rw [jQ (gT9 _ [] (by simp))];rfl
   have hv:SZ 2 (wG [63,49]):=gPc (by simp [wG,ed,eds]) (by simp [wG,nv,nvs]) (by simp [wG,vo,vos]);obtain⟨s',q1,q2⟩:=hB7 c f b3 b4 (by omega) d3 (a:=wG [63,49]) (b:=gAs) (gXq (by decide)) hJ8 (by decide) (by decide) hv (gPc (by decide) (by decide) (by decide));rw [gZ,jQ hI,jQ q1];exact⟨w,k,wh,s',rfl,c,f,b3,b4,q2⟩
theorem gXj(code:List UInt8)(h:code.length≤1048576→gB0 (gLi code)):gIa code=some true:=by
 unfold gIa gXh;cases hb:decide ((code.length:Int) > 1048576)with
 | true=>rfl
 | false=>
   have hb:=of_decide_eq_false hb;have hV:VZ.length≤5:=by decide
   simp only [gK];obtain⟨w,k,wh,s,y,a1,a2,c,f,hp⟩:=hQi code (h (by omega));obtain⟨t,t1,t2,t3,⟨l,t4⟩,t5,t6⟩:=gT5 a1 a2 c f hV (by omega) hp;obtain⟨v,v1,v2,v3,⟨m,v4⟩,_,_⟩:=gT5 a1 a2 c f hV (by omega) t5;have g1:decide ((v.bindings.length:Int)≥(t.bindings.length:Int))=true:=decide_eq_true (by rw [v4,List.length_append];omega);have g2:decide ((t.bindings.length:Int)≥(s.bindings.length:Int))=true:=decide_eq_true (by rw [t4,List.length_append];omega);rw [jQ y];simp only;rw [jQ t2,jQ t1];simp only [lt_,bne_self_eq_false,gK,t3];rw [jQ v2,g1,g2];simp only [gZ];cases hd:decide ((s.equations.length:Int) > 0)with
   | true=>rfl
   | false=>
     have hd:=of_decide_eq_false hd;obtain⟨h1,h2⟩:=t6 (List.eq_nil_of_length_eq_zero (by omega));rw [h1,h2];simp only [beq_self_eq_true,gZ,gK]
end Go.Proofs.YtegahmhnmjnhhaaGreat
namespace Go.Proofs.YtegahmhnmjnhhaaGreat
open Go Go.Eng Go.RowKit
theorem hQj {H:Type} {enc:TypeId × Value→H} {P:Program} {w:World} {sp:Nat→Bool} {held:Bool} {T e:TypeId} {v:Value} {d:DataW H} {ps:List MemPlace} (hund:P.underlying T=some (.slice e)) (he:P.underlying e=some (.int .u8)) (hce:P.cellsOf e=1) (hbe:0 < P.bytesOf e)
  (h:DataW.Trod enc P w 0 sp held T v d ps) (hw:∀x∈d.weights P T,x≤reachBytes) (hna:∀cs,v≠.agg cs):∃code:List UInt8,SVr (fun b=>b < w.heap.size) [] [] w (.d (.sl 1 (gDs code))) v:=by
 obtain⟨fuel,h⟩:=h;have hc:v.cells=#[v]:=by cases v<;>first | rfl | (exact absurd rfl (hna _))
 rw [hc] at h
 suffices hs:∃code:List UInt8,Rd (fun b=>b < w.heap.size) w (.sl 1 (gDs code)) [v] by
  obtain⟨code,c⟩:=hs;refine⟨code,?_⟩;simp only [SVr];exact⟨[v],by simp [val,U.isSt],c⟩
 have hlenB:∀l:List UInt8,(gDs l).length=l.length:=fun l=>Enc.len l;cases fuel with
 | zero=>simp [DataW.trod] at h
 | succ fuel=>
   rcases DataW.trod_slice hund h with ⟨f,hx⟩ | ⟨a,len,cap,elems,rest,n,hn,f,hx,_,hlc,_,hel,hget,_,_⟩
   ·simp at f;subst f;exact⟨[],by simp only [Rd,gDs];exact⟨by simp [wY],none,0,rfl,.inl trivial⟩⟩
   ·obtain rfl:fuel=n:=by omega
    simp at f;subst f;simp only [Prod.mk.injEq] at hx;obtain⟨rfl,rfl⟩:=hx;simp only [DataW.weights,hund] at hw;have hlen:len≤big:=by
     have c:=hw _ (List.mem_cons_self);simp only [List.length_map] at c;refine hHe (Nat.le_trans ?_ c);rw [hel]
     calc len≤len*P.bytesOf e:=Nat.le_mul_of_pos_right _ hbe
      _≤(len+rest.length)*P.bytesOf e:=Nat.mul_le_mul_right _ (by omega)
    have each:∀i,i < len→∃x:UInt8,(a.spot=none→At w a.block (a.off+i*1) [.int .u8 (x.toNat:Int)])∧(i=0→a.spot=none)∧a.block < w.heap.size:=by
     intro i hi;have c:=hget i hi;rw [List.getElem?_eq_getElem (by omega)] at c;cases hc:w.cells? 0 (a.add (i*P.cellsOf e)) (P.cellsOf e)with
     | none=>rw [hc] at c;simp at c
     | some cs=>
       rw [hc] at c;simp only [Option.bind_some] at c;rw [hce] at hc;obtain⟨k1,k2,y⟩:=hMu (by omega) hc;obtain⟨m,rfl,_,hwf⟩:=DataW.trod_int he c;simp [Lit.wf,IntKind.min,IntKind.max,IntKind.bits,IntKind.signed] at hwf;have hblk:(a.add (i*1)).block=a.block:=by unfold Addr.add;split<;>rfl
       refine⟨UInt8.ofNat m.toNat,fun hsp=>?_,fun f=>?_,?_⟩
       ·have hoff:(a.add (i*1)).off=a.off+i*1:=by unfold Addr.add;split<;>simp_all
        rw [hblk,hoff] at y;have e1:((UInt8.ofNat m.toNat).toNat:Int)=m:=by
         rw [UInt8.toNat_ofNat'];omega
        rw [e1];exact y
       ·subst f;rw [Nat.zero_mul] at k2;exact k2
       ·rw [←hblk];exact y.lt
    obtain⟨us,hul,hus⟩:=gSd len each;refine⟨us,?_⟩;simp only [Rd];refine⟨by rw [hlenB,hul];exact hlen,some a,cap - len,by rw [hlenB,hul,Nat.add_sub_cancel' hlc],?_⟩;by_cases f:us=[]
    ·subst f;exact .inl rfl
    ·have hpos:0 < len:=by rw [←hul];exact List.length_pos_iff.2 f
     obtain⟨u0,_,hsp,hblt⟩:=each 0 hpos;have hsp:=hsp rfl;refine .inr ⟨a.block,a.off,?_,hblt,RdE.mk (gDs us) a.off (fun k u hk=>?_)⟩
     ·obtain⟨b,o,sp⟩:=a;simp only at hsp;subst hsp;rfl
     ·have hk2:k < us.length:=by rw [←hlenB];exact(List.getElem?_eq_some_iff.1 hk).1
      have hk3:=hQ7 (List.getElem?_eq_getElem hk2);rw [hk] at hk3;obtain rfl:=Option.some.inj hk3;obtain⟨k1,_,_⟩:=hus k _ (List.getElem?_eq_getElem hk2);exact⟨_,rfl,k1 hsp,by simp only [Rd]⟩
end Go.Proofs.YtegahmhnmjnhhaaGreat
