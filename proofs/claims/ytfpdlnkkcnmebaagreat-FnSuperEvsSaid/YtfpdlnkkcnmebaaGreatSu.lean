import Derived.Test.YtfpdlnkkcnmebaaGreatTh
import Derived.Test.YtfpdlnkkcnmebaaGreatSv
set_option maxHeartbeats 4000000
set_option linter.unusedVariables false
set_option linter.unusedSimpArgs false
set_option linter.unusedSectionVars false
namespace Go.Proofs.YtfpdlnkkcnmebaaGreat
open Go Go.Eng
attribute [local irreducible] V VO VQ VY Quiet QR jF mJ Rng qI qJ qB
def gC9(c:gM)(a1:gF):Option (gY × Bool):=
bnd ((cnd (decide (a1.package < 0)) ((some true)) ((cnd (decide (a1.package≥(c.packages.length:Int))) ((some true)) ((cnd (decide (a1.at_ < 0)) ((some true)) (bnd (at? c.packages a1.package) fun f=>
(some (decide (a1.at_≥(f.instances.length:Int))))))))))) fun h=>
(cnd h (
(some ((gY.mk [] [] (gB.mk 0 [] []) [] false false (gB.mk 0 [] []) []),false))) (
bnd (at? c.packages a1.package) fun q=>
bnd (at? q.instances a1.at_) fun y=>
(some (y,true))))
theorem gKo(a0:gM)(a1:gF){r:gY × Bool}(h:gC9 a0 a1=some r):jF Tryz.prog 20 [.d (kW a0),.d (qA a1)] [yX r.1,.b r.2]:=by
 obtain⟨y⟩:=a0;obtain⟨aa,ab⟩:=a1;unfold gC9 at h;refine SpI Tryz.func20 fun A _=>?_;refine gHi ?_;obtain⟨b1,hb1,h⟩:=gJ h;refine uT (P:=Tryz.prog) Mix.h ⟨[(2,.ptr 0 0),(3,.ptr 1 0),(4,.ptr 2 0),(34,.B b1)],[bPr y,.box [.I aa,.I ab],.box [.S [],.nilsl,.I 0,.S [],.nilsl,.nilsl,.B false,.B false,.I 0,.S [],.nilsl,.nilsl]],Tryz.f20.ntmps⟩ (by kernel_rfl) ?_ ?_
 ·refine goL ?_;refine wN 9 (fun c2=>?_) (fun c2=>?_)
  ·replace hb1:=kT c2 hb1;refine goL ?_;cases hb1;exact eJ
  ·replace hb1:=kU c2 hb1;refine goL ?_;refine wN 17 (fun c3=>?_) (fun c3=>?_)
   ·replace hb1:=kT c3 hb1;refine goL ?_;cases hb1;exact eJ
   ·replace hb1:=kU c3 hb1;refine goL ?_;refine wN 22 (fun c4=>?_) (fun c4=>?_)
    ·replace hb1:=kT c4 hb1;refine goL ?_;cases hb1;exact eJ
    ·replace hb1:=kU c4 hb1;refine goL ?_;obtain⟨x5,c,hb1⟩:=gJ hb1;obtain⟨ac,c⟩:=gAz c;obtain⟨aq,ar,au,av,aw,ax⟩:=x5;refine gEa (qY ac (gBh c)) ?_;refine goL ?_;cases hb1;exact eJ
 refine goC h ?_ ?_<;>intro c6 h
 ·refine goL ?_;refine yS (jU TBd.h TZ.h rfl (by repeat constructor)) ?_;exact goR h
 ·refine noS ?_;refine jL (P:=Tryz.prog) Mix.h [(0,true),(1,true),(2,true),(3,true),(4,true),(5,true),(6,true),(7,true),(8,true),(9,true),(10,true),(11,false),(12,true)] (by kernel_rfl) ?_;refine goY ?_;obtain⟨x7,f,h⟩:=gJ h;obtain⟨ad,f⟩:=gAz f;obtain⟨ay,a3,a4,a5,a6,a7⟩:=x7;refine jO rfl (qY ad (gBh f)) ?_;refine goY ?_;obtain⟨x8,q,h⟩:=gJ h;obtain⟨ae,q⟩:=gAz q;obtain⟨a8,a9,⟨ag,ah,ai⟩,ba,bb,bc,⟨aj,ak,al⟩,bd⟩:=x8;refine jO rfl (qY ae (gGz q)) ?_;refine goY ?_;refine kX ?_;exact goR h
def gH3(f:gF)(a1:gM)(a2:gT):Option (Bool):=
bnd (gC9 a1 f) fun c=>
bnd ((cnd (!(c.1.trait==a2.trait)) ((some true)) (bnd (gEz c.1.head a2.type_) fun h=>
(some (!h))))) fun q=>
(some q)
theorem hCp(a0:gF)(a1:gM)(a2:gT){r:Bool}(h:gH3 a0 a1 a2=some r):jF Tryz.prog 130 [.d (qA a0),.dp (kW a1),.dp (wU a2)] [.b r]:=by
 obtain⟨aj,ak⟩:=a0;obtain⟨ar⟩:=a1;obtain⟨au,⟨al,am,an⟩⟩:=a2;unfold gH3 at h;refine SpI Tryz.func130 fun A _=>?_;refine goL ?_;obtain⟨⟨⟨ac,ad,⟨c,f,q⟩,ae,ag,ah,⟨y,aa,ab⟩,ai⟩,av⟩,ap,h⟩:=gJ h;refine jK (gG (gKo _ _ ap)) ?_;obtain⟨b2,hb2,h⟩:=gJ h;refine kC ⟨[(4,.B b2)],[.box [.I aj,.I ak],bIn ac ad c f q ae ag ah y aa ab ai],Tryz.f130.ntmps⟩ ?_ ?_
 ·refine gqO 18 hb2 (fun c3 hb2=>?_);obtain⟨x4,aq,hb2⟩:=gJ hb2;refine jK (gG (gNx _ _ aq)) ?_;cases hb2;exact eJ
 exact goR h
def gAo(q:Nat)(c:(List gF)→Option (List gF)):List gY→Nat→(List gF)→Option (List gF)
 | [],f,h=>(c h)
 | y::xs,f,h=>gd (h.length+[(gF.mk (q:Int) (f:Int))].length≤4294967296) (
gAo q c xs (f+1) (h++[(gF.mk (q:Int) (f:Int))]))
def zM:List jX→Nat→(List gF)→Option (List gF)
 | [],c,f=>(some f)
 | h::xs,c,f=>gAo c (fun q=>zM xs (c+1) q) h.instances 0 f
def gIh(w:gM):Option (List gF):=
zM w.packages 0 []
theorem gZh(w:gM){r:List gF}(h:gIh w=some r):Go.Eng.Spec Tryz.prog 129 [.d (kW w)] [] (fun sv Lo=>sv=.sl 0 0∧Lo=[.own 28 2 0 (kJ r)]):=by
 obtain⟨c⟩:=w;unfold gIh at h;refine kS 0 Tryz.func129 rfl (by kernel_rfl) rfl rfl fun A _=>?_;refine goL ?_;refine gB9 ?_;refine goL ?_;refine noB ?_;refine gCm 9 (fun z4=>?_);refine kV (fun(f:Nat)(y1:List gF)(v2:Nat)=>⟨[(3,.sl 1 v2),(9,.L 6 (kQ c)),(10,.I (c.length:Int)),(11,.N f)],[bPr c,.own 28 2 v2 (kJ y1)],Tryz.f129.ntmps⟩) (fun f y1 v2=>zM (c.drop f) f y1=some r) (fun f y1 v2=>c.length - f) 0 [] 0 eJ h ?_;rintro f y1 v2 h;refine goL ?_;refine kH (mQ (fun c5=>?_) (fun c5=>?_))
 ·have q:=vF c5;obtain⟨x6,ay,aj⟩:=drop_at q;rw [aj,zM.eq_2] at h;obtain⟨ak,al,am,an,aa,ao⟩:=x6;refine noS ?_;refine kH (jE ?_);refine goL ?_;refine jK (jM f (gBh ay)) ?_;refine noB ?_;refine gCm 17 (fun bc=>?_);refine kV (fun(y9:Nat)(y7:List gF)(v8:Nat)=>⟨[(3,.sl 1 v8),(4,.N f),(9,.L 6 (kQ c)),(10,.I (c.length:Int)),(11,.N f),(18,.I (aa.length:Int)),(19,.N y9)],[bPr c,.own 28 2 v8 (kJ y7),bPk ak al am an aa ao],Tryz.f129.ntmps⟩) (fun y9 y7 v8=>gAo f (fun y7=>zM (c.drop (f+1)) (f+1) y7) (aa.drop y9) y9 y7=some r) (fun y9 y7 v8=>aa.length - y9) 0 y1 v2 eJ h ?_;rintro y9 y7 v8 h;refine goL ?_;refine kH (mQ (fun ah=>?_) (fun ah=>?_))
  ·have y:=vF ah;obtain⟨a0,ba,ai⟩:=drop_at y;rw [ai,gAo.eq_2] at h;obtain⟨a3,a4,⟨ap,aq,ar⟩,a5,a6,a7,⟨au,av,aw⟩,a8⟩:=a0;refine noS ?_;refine kH (jE ?_);refine goL ?_;refine yS (jU TBd.h TZ.h rfl (by repeat constructor)) ?_;refine yF (gF.mk (f:Int) (y9:Int)) ?_;obtain⟨a9,h⟩:=pO h;refine gDn a9 ?_;refine goL ?_;refine jK (kD y9 (by omega)) ?_;exact⟨(y9+1),(y7++[(gF.mk (f:Int) (y9:Int))]),(v8+1),h,by omega,eJ⟩
  ·have y:=vG ah;rw [jH y,gAo.eq_1] at h;refine goX ?_;refine jK (kD f (by omega)) ?_;exact⟨(f+1),y7,v8,h,by omega,eJ⟩
 ·have q:=vG c5;rw [jH q,zM.eq_1] at h;refine goX ?_;refine hKk (fr':=[(2,.sl 0 v2)]) (Lc:=[.own 28 2 v2 (kJ y1)]) 0 [1] ?_;refine hSf (fr':=[(2,.sl 0 0)]) (L':=[.own 28 2 0 (kJ y1)]) 0 0 ?_;refine jG ?_;obtain rfl:=Option.some.inj h;exact gBa [.sl 0 0] _ ⟨rfl,rfl⟩
def wG(a1:gF→Option Bool):List gF→Nat→Option (Int)
 | [],c=>(some (-1))
 | f::xs,c=>bnd (a1 f) fun h=>
(cnd h (
(some (c:Int))) (
wG a1 xs (c+1)))
def gDk(c:List gF)(a1:gF→Option Bool):Option (Int):=
wG a1 c 0
theorem gN6(q:List gF){a1f:Nat}{a1c:List SV}{a1:gF→Option Bool}(a1_lt:∀n,SV.lts n a1c=true)(ha1:∀(x0:gF)(r:Bool),a1 x0=some r→jF Tryz.prog a1f ([.d (qA x0)]++a1c) [.b r]){r:Int}(h:gDk q a1=some r):jF Tryz.prog 132 [.L 2 (kJ q),.fn a1f a1c] [.i .i64 r]:=by
 unfold gDk at h;refine SpI Tryz.func132 fun A _=>?_;refine goL ?_;refine noB ?_;refine gCm 0 (fun z2=>?_);refine qD (fun(f:Nat)=>⟨[(0,.L 2 (kJ q)),(1,.fn a1f a1c),(7,.I (q.length:Int)),(8,.N f)],[],Tryz.f132.ntmps⟩) (fun f=>wG a1 (q.drop f) f=some r) (fun f=>q.length - f) 0 ⟨rfl,⟨⟨rfl,rfl⟩,⟨rfl,a1_lt _⟩,⟨rfl,rfl⟩,⟨rfl,rfl⟩,trivial⟩,⟨[],rfl⟩,rfl⟩ h ?_;rintro f h;refine goL ?_;refine kH (mQ (fun c3=>?_) (fun c3=>?_))
 ·have c:=vF c3;obtain⟨x4,ab,y⟩:=drop_at c;rw [y,wG.eq_2] at h;obtain⟨ag,ah⟩:=x4;refine noS ?_;refine kH (jE ?_);refine goL ?_;refine jK (jM f (yD ab)) ?_;obtain⟨x5,ac,h⟩:=gJ h;refine jK (gOt (ha1 _ _ ac) (a1_lt 0)) ?_;refine mQ (fun c6=>?_) (fun c6=>?_)
  ·replace h:=kT c6 h;exact goR h
  ·replace h:=kU c6 h;refine goS ?_;refine jK (kD f (by omega)) ?_;exact⟨(f+1),h,by omega,⟨rfl,⟨⟨rfl,rfl⟩,⟨rfl,a1_lt _⟩,⟨rfl,rfl⟩,⟨rfl,rfl⟩,trivial⟩,⟨_,rfl⟩,rfl⟩⟩
 ·have c:=vG c3;rw [jH c,wG.eq_1] at h;refine goX ?_;refine jG ?_;cases h;exact uA
def wP(w:gM)(g:gT):Nat→(List gF)→Int→Int→Option (List gF)
 | 0,f,c,h=>none
 | y+1,f,c,h=>(cnd (decide (h < (f.length:Int))) (
bnd (at? f h) fun x9=>
bnd (gH3 x9 w g) fun q=>
(cnd (!q) (
bnd (at? f c) fun ab=>
wP w g y (f.set (Int.toNat c) x9) (IntKind.i64.wrap (c+1)) (IntKind.i64.wrap (h+1))) (
wP w g y f c (IntKind.i64.wrap (h+1))))) (
gd (0≤c∧c≤(f.length:Int)) (
gd (0≤c∧c≤((f.take (Int.toNat c)++List.replicate (f.length - Int.toNat c) (gF.mk 0 0)).length:Int)) (
(some ((f.take (Int.toNat c)++List.replicate (f.length - Int.toNat c) (gF.mk 0 0)).take (Int.toNat c)))))))
def gGd(c:List gF)(w:gM)(g:gT)(h:Nat):Option (List gF):=
bnd (gDk c (fun q=>gH3 q w g)) fun f=>
(cnd (f==(-1)) (
(some c)) (
wP w g h c f (IntKind.i64.wrap (f+1))))
theorem gTj(l0:List gF)(w:gM)(g:gT)(v0:Nat){n0:Nat}{r:List gF}(h:gGd l0 w g n0=some r):Go.Eng.Spec Tryz.prog 128 [.sl 0 v0,.fn 130 [.ptr 1 0,.ptr 2 0]] [.arr 28 2 v0 (kJ l0),bPr w.packages,bBd g.trait g.type_.kind g.type_.name g.type_.args] (fun sv Lo=>∃v'0,sv=.sl 0 v'0∧Lo=[.arr 28 2 v'0 (kJ r),bPr w.packages,bBd g.trait g.type_.kind g.type_.name g.type_.args]):=by
 obtain⟨aa⟩:=w;obtain⟨ab,⟨c,f,q⟩⟩:=g;unfold gGd at h;refine kS 3 Tryz.func128 rfl (by kernel_rfl) rfl rfl fun A _=>?_;refine goL ?_;obtain⟨x1,ar,h⟩:=gJ h;refine gAc (hSe (gN6 l0 (a1:=(fun z0=>gH3 z0 (gM.mk aa) (gT.mk ab (gB.mk c f q)))) (fun _=>rfl) (fun z0 r hr=>hCp z0 (gM.mk aa) (gT.mk ab (gB.mk c f q)) hr) ar)) ?_;refine mQ (fun c2=>?_) (fun c2=>?_)
 ·replace h:=kT c2 h;refine goL ?_;refine jG ?_;obtain rfl:=Option.some.inj h;exact gBa [.sl 0 v0] _ ⟨v0,rfl,rfl⟩
 ·replace h:=kU c2 h;refine goS ?_;refine jK (pV) ?_;refine noB ?_;refine gWg (fun(n7:Nat)(y3:List gF)(y5:Int)(y6:Int)(v4:Nat)=>⟨[(0,.sl 0 v4),(1,.fn 130 [.ptr 1 0,.ptr 2 0]),(5,.I y5),(6,.I y6)],[.arr 28 2 v4 (kJ y3),bPr aa,bBd ab c f q],Tryz.f128.ntmps⟩) (fun n7 y3 y5 y6 v4=>wP (gM.mk aa) (gT.mk ab (gB.mk c f q)) n7 y3 y5 y6=some r) (fun n7 y3 y5 y6 v4=>n7) n0 l0 x1 (IntKind.i64.wrap (x1+1)) v0 eJ h ?_;rintro n7 y3 y5 y6 v4 h;rcases n7 with _ | n7
  ·cases h
  rw [wP.eq_2] at h;refine goC h ?_ ?_<;>intro c8 h
  ·refine noS ?_;refine kH (jE ?_);refine goL ?_;obtain⟨x9,ah,h⟩:=gJ h;obtain⟨ao,ah⟩:=gAz ah;obtain⟨ac,ad⟩:=x9;refine yS (gXx ao (List.getElem?_eq_some_iff.1 ah).1) ?_;refine gAc (hFd ah) ?_;obtain⟨a7,ap,h⟩:=gJ h;refine gAc (hVo (dargs:=[_]) (hCp (gF.mk ac ad) (gM.mk aa) (gT.mk ab (gB.mk c f q)) ap)) ?_;refine mQ (fun al=>?_) (fun al=>?_)
   ·replace h:=kT al h;refine goL ?_;obtain⟨aw,y,h⟩:=gJ h;obtain⟨am,y⟩:=gAz y;obtain⟨ax,ay⟩:=aw;refine yS (gXx am (List.getElem?_eq_some_iff.1 y).1) ?_;refine hK8 (gF.mk ac ad) (List.getElem?_eq_some_iff.1 y).1 ?_;refine goL ?_;refine jK (pV) ?_;refine jK (pV) ?_;exact⟨n7,(y3.set (Int.toNat y5) (gF.mk ac ad)),(IntKind.i64.wrap (y5+1)),(IntKind.i64.wrap (y6+1)),v4,h,Nat.lt_succ_self _,eJ⟩
   ·replace h:=kU al h;refine goS ?_;refine jK (pV) ?_;exact⟨n7,y3,y5,(IntKind.i64.wrap (y6+1)),v4,h,Nat.lt_succ_self _,eJ⟩
  ·refine goX ?_;obtain⟨a0,h⟩:=pO h;refine hH9 (gF.mk 0 0) a0 ?_;refine goL ?_;obtain⟨a3,h⟩:=pO h;refine hIa a3 ?_;refine goL ?_;refine jG ?_;obtain rfl:=Option.some.inj h;exact gBa [.sl 0 (v4+1)] _ ⟨(v4+1),rfl,rfl⟩
def gKp(c:List gF)(f:gM)(h:gT):Option (List gF):=gGd c f h 5000
def gQs(c:gM)(a1:gT):Option (List gF):=
bnd (gIh c) fun f=>
bnd (gKp f c a1) fun h=>
(some h)
theorem hJg(a0:gM)(a1:gT){r:List gF}(h:gQs a0 a1=some r):jF Tryz.prog 84 [.d (kW a0),.d (wU a1)] [.sl 2 (kJ r)]:=by
 obtain⟨y⟩:=a0;obtain⟨aa,⟨c,f,q⟩⟩:=a1;unfold gQs at h;refine SpI Tryz.func84 fun A _=>?_;refine goL ?_;obtain⟨x1,ac,h⟩:=gJ h;refine gCl [] (gZh (gM.mk y) ac) ?_;rintro _ _ ⟨rfl,rfl⟩;show VO _ _ _ _ ⟨(_,.sl 2 0)::_,[bPr y,bBd aa c f q,.own 28 2 0 (kJ x1)],_⟩ _;refine qM (hA8) ?_;refine hH8 2 ?_;obtain⟨x2,ad,h⟩:=gJ h;refine gCl [2,0,1] (gTj x1 (gM.mk y) (gT.mk aa (gB.mk c f q)) 0 ad) ?_;rintro _ _ ⟨v3,rfl,rfl⟩;show VO _ _ _ _ ⟨(_,.sl 2 v3)::_,[bPr y,bBd aa c f q,.arr 28 2 v3 (kJ x2)],_⟩ _;refine goL ?_;refine gW 2 rfl rfl ?_;refine jG ?_;cases h;exact uA
theorem gF1{p:gF→Option Bool}{q:gF→Bool}:∀(l:List gF)(k:Nat),(∀x∈l,p x=some (q x))→(wG p l k=some (-1)∧l.filter (fun x=> !q x)=l∧l.any q=false)∨(l.any q=true∧∃(i:Nat),i < l.length∧wG p l k=some ((k+i:Nat):Int)∧l.filter (fun x=> !q x)=l.take i++(l.drop (i+1)).filter (fun x=> !q x))
 | [],k,_=>.inl ⟨rfl,rfl,rfl⟩
 | x::l,k,h=>by
   rw [wG,kF (h x (by simp))];cases hq:q x with
   | true=>exact .inr ⟨by simp [hq],0,by simp,rfl,by simp [hq]⟩
   | false=>
     simp only [jC];rcases gF1 l (k+1) (fun y hy=>h y (by simp [hy]))with ⟨c,f,h4⟩ | ⟨h4,i,c,f,h3⟩
     ·exact .inl ⟨c,by simp [hq,f],by simp [hq,h4]⟩
     ·exact .inr ⟨by simp [h4],i+1,by simpa using c,by rw [f];congr 2;omega,by simp [hq,h3]⟩
theorem hJh{n:Nat}(h:n≤4611686018427387904):IntKind.i64.wrap ((n:Int)+1)=((n+1:Nat):Int):=by rw [gAb _ (by omega) (by omega)];omega
theorem gQt{w:gM}{g:gT}{q:gF→Bool}:∀(m n i j:Nat)(l:List gF),l.length≤j+m→m < n→i < j→j≤l.length→l.length≤4000→(∀x∈l.drop j,gH3 x w g=some (q x))→
  wP w g n l (i:Int) (j:Int)=some (l.take i++(l.drop j).filter (fun x=> !q x))
 | m,0,i,j,l,_,hn,_,_,_,_=>by omega
 | m,n+1,i,j,l,hm,hn,hi,hj,hl,h=>by
   rw [wP.eq_2];rcases Nat.lt_or_ge j l.length with hlt | hge
   ·match m,hm with
    | 0,hm=>omega
    | m+1,hm=>
      have hd:l.drop j=l[j]::l.drop (j+1):=List.drop_eq_getElem_cons hlt;have hw:IntKind.i64.wrap ((j:Int)+1)=((j+1:Nat):Int):=hJh (by omega);have hw2:IntKind.i64.wrap ((i:Int)+1)=((i+1:Nat):Int):=hJh (by omega);rw [show decide ((j:Int) < (l.length:Int))=true from decide_eq_true (by omega),jV,gCk,List.getElem?_eq_getElem hlt,hw];simp only [bnd];rw [h l[j] (by rw [hd];exact List.mem_cons_self)];simp only;cases hq:q l[j] with
      | true=>
        rw [Bool.not_true,jC,gQt m n i (j+1) l (by omega) (by omega) (by omega) (by omega) hl (fun x hx=>h x (by rw [hd];exact List.mem_cons_of_mem _ hx)),hd,List.filter_cons_of_neg (by simp [hq])]
      | false=>
        have hil:i < l.length:=by omega
        have hdr:(l.set i l[j]).drop (j+1)=l.drop (j+1):=by rw [List.drop_set_of_lt (by omega)]
        rw [Bool.not_false,jV,gCk,List.getElem?_eq_getElem hil,Int.toNat_natCast,hw2];simp only;rw [gQt m n (i+1) (j+1) (l.set i l[j]) (by simp;omega) (by omega) (by omega) (by simp;omega) (by simpa using hl) (fun x hx=>h x (by rw [hdr] at hx;rw [hd];exact List.mem_cons_of_mem _ hx)),hdr,hd,List.filter_cons_of_pos (by simp [hq])]
        have:(l.set i l[j]).take (i+1)=l.take i++[l[j]]:=by
         rw [List.take_succ_eq_append_getElem (by simpa using hil),List.take_set,List.set_eq_of_length_le (by rw [List.length_take];omega),List.getElem_set_self]
        rw [this,List.append_assoc];rfl
   ·obtain rfl:j=l.length:=by omega
    rw [show decide ((l.length:Int) < (l.length:Int))=false from decide_eq_false (by omega),jC,uF (by omega),uF (by simp only [List.length_append,List.length_take,List.length_replicate,Int.toNat_natCast];omega)];rw [Int.toNat_natCast,List.take_append_of_le_length (by rw [List.length_take];omega),List.take_take,Nat.min_self,List.drop_length];simp
theorem hMu{w:gM}{g:gT}{q:gF→Bool}(l:List gF)(hl:l.length≤4000)(h:∀x∈l,gH3 x w g=some (q x)):gKp l w g=some (l.filter (fun x=> !q x)):=by
 unfold gKp gGd gDk;rcases gF1 (p:=fun z=>gH3 z w g) l 0 h with ⟨f,c,_⟩ | ⟨_,i,f,c,y⟩
 ·rw [kF f];simp only [beq_self_eq_true,jV,c]
 ·rw [kF c,Nat.zero_add,show((i:Int)== -1)=false from beq_false_of_ne (by omega),jC,hJh (by omega),y];exact gQt (l.length - (i+1)) 5000 i (i+1) l (by omega) (by omega) (by omega) (by omega) hl (fun x hx=>h x (List.mem_of_mem_drop hx))
def gU6(b:Bool)(u:gB):Bool:=
(cnd b (
true) (
(u.kind==3)))
theorem hMv(b:Bool)(u:gB):Go.Eng.Spec Tryz.prog 162 [.d (kZ u),.ptr 0 0] [.box [.B b]] (fun sv Lo=>sv=.tup []∧Lo=[.box [.B (gU6 b u)]]):=by
 obtain⟨r,h⟩:∃r,gU6 b u=r:=⟨_,rfl⟩
 rw [h];obtain⟨c,f,q⟩:=u;unfold gU6 at h;refine kS 1 Tryz.func162 rfl (by kernel_rfl) rfl rfl fun A _=>?_;refine goL ?_;refine gqV 4 h ?_ ?_<;>intro y h
 ·subst h;exact hIy [] _ ⟨rfl,rfl⟩
 ·subst h;exact hIy [] _ ⟨rfl,rfl⟩
def gBz(c:Bool→gB→Option (Bool)):List gB→Bool→Option (Bool)
 | [],f=>(some f)
 | h::xs,f=>bnd (c f h) fun q=>
gBz c xs q
def gOy(c:Bool→gB→Option (Bool))(b:Bool)(u:gB):Option (Bool):=
lt_ (gU6 b u) fun f=>
gBz c u.args f
theorem hFu{c:Bool→gB→Option (Bool)}(f:∀(x0:Bool)(x1:gB){r:Bool},c x0 x1=some r→Go.Eng.Spec Tryz.prog 161 [.d (kZ x1),.fn 162 [.ptr 0 0]] [.box [.B x0]] (fun sv Lo=>sv=.tup []∧Lo=[.box [.B r]]))(b:Bool)(u:gB){r:Bool}(h:gOy c b u=some r):Go.Eng.Spec Tryz.prog 161 [.d (kZ u),.fn 162 [.ptr 0 0]] [.box [.B b]] (fun sv Lo=>sv=.tup []∧Lo=[.box [.B r]]):=by
 obtain⟨aa,ab,q⟩:=u;unfold gOy at h;refine kS 1 Tryz.func161 rfl (by kernel_rfl) rfl rfl fun A _=>?_;refine goL ?_;obtain⟨x1,ak,h⟩:=qW h;have sx1:=hMv b (gB.mk aa ab q);rw [ak] at sx1;refine gCl [0] (sx1) ?_;rintro _ _ ⟨rfl,rfl⟩;show VO _ _ _ _ ⟨(_,.tup [])::_,[.box [.B x1],bTy aa ab q],_⟩ _;refine goL ?_;refine noB ?_;refine gCm 10 (fun z4=>?_);refine gEt (fun(y3:Nat)(y2:Bool)=>⟨[(1,.fn 162 [.ptr 0 0]),(10,.L 3 (gK q)),(11,.I (q.length:Int)),(12,.N y3)],[.box [.B y2],bTy aa ab q],Tryz.f161.ntmps⟩) (fun y3 y2=>gBz c (q.drop y3) y2=some r) (fun y3 y2=>q.length - y3) 0 x1 eJ h ?_;rintro y3 y2 h;refine goL ?_;refine kH (mQ (fun c5=>?_) (fun c5=>?_))
 ·have y:=vF c5;obtain⟨x6,am,aj⟩:=drop_at y;rw [aj,gBz.eq_2] at h;obtain⟨ad,ae,ag⟩:=x6;refine noS ?_;refine kH (jE ?_);refine goL ?_;refine jK (jM y3 (gEk am)) ?_;obtain⟨x7,an,h⟩:=gJ h;refine gCl [0] (f y2 (gB.mk ad ae ag) an) ?_;rintro _ _ ⟨rfl,rfl⟩;show VO _ _ _ _ ⟨(_,.tup [])::_,[.box [.B x7],bTy aa ab q,bTy ad ae ag],_⟩ _;refine goL ?_;refine jK (kD y3 (by omega)) ?_;exact⟨(y3+1),x7,h,by omega,eJ⟩
 ·have y:=vG c5;rw [jH y,gBz.eq_1] at h;refine gRw ?_;show qB _ _ _ _ _ _;obtain rfl:=Option.some.inj h;exact hIy [] _ ⟨rfl,rfl⟩
def gK6:Nat→Bool→gB→Option (Bool)
 | 0,_,_=>none
 | n+1,c,f=>gOy (gK6 n) c f
theorem hFv:∀(n:Nat)(c:Bool)(f:gB){r:Bool},gK6 n c f=some r→Go.Eng.Spec Tryz.prog 161 [.d (kZ f),.fn 162 [.ptr 0 0]] [.box [.B c]] (fun sv Lo=>sv=.tup []∧Lo=[.box [.B r]]):=by
 intro n
 induction n with
 | zero=>intro c f r h;cases h
 | succ n ih=>intro c f r h;exact hFu ih c f h
def gK7(c:gB):Option (Bool):=
bnd (gK6 5000 false c) fun f=>
(some f)
theorem gZi(y:gB){r:Bool}(h:gK7 y=some r):jF Tryz.prog 134 [.d (kZ y)] [.b r]:=by
 obtain⟨c,f,q⟩:=y;unfold gK7 at h;refine SpI Tryz.func134 fun A _=>?_;refine goL ?_;refine qM (hA8) ?_;obtain⟨x1,aa,h⟩:=gJ h;refine gCl [1] (hFv 5000 false (gB.mk c f q) aa) ?_;rintro _ _ ⟨rfl,rfl⟩;show VO _ _ _ _ ⟨(_,.tup [])::_,[bTy c f q,.box [.B x1]],_⟩ _;exact goR h
def gDa(c:gB):Option (Bool):=
bnd (gB2 c) fun f=>
bnd ((cnd ((f.length:Int)==0) (bnd (gK7 c) fun h=>
(some (!h))) ((some false)))) fun q=>
(some q)
theorem gWp(y:gB){r:Bool}(h:gDa y=some r):jF Tryz.prog 88 [.d (kZ y)] [.b r]:=by
 obtain⟨c,f,q⟩:=y;unfold gDa at h;refine SpI Tryz.func88 fun A _=>?_;refine goL ?_;obtain⟨x1,aa,h⟩:=gJ h;refine jK (gG ((gQ2 (gB.mk c f q) aa).p)) ?_;obtain⟨b2,hb2,h⟩:=gJ h;refine kC ⟨[(2,.B b2)],[bTy c f q],Tryz.f88.ntmps⟩ ?_ ?_
 ·refine gqA 7 hb2 (fun c3 hb2=>?_);obtain⟨x4,ab,hb2⟩:=gJ hb2;refine jK (gG (gZi _ ab)) ?_;cases hb2;exact eJ
 exact goR h
def gKq(c:gB)(a1:gB):Option (Bool):=
bnd (gEz a1 c) fun f=>
bnd ((cnd f (bnd (gEz c a1) fun h=>
(some (!h))) ((some false)))) fun q=>
(some q)
theorem hCq(a0:gB)(a1:gB){r:Bool}(h:gKq a0 a1=some r):jF Tryz.prog 87 [.d (kZ a0),.d (kZ a1)] [.b r]:=by
 obtain⟨c,f,q⟩:=a0;obtain⟨y,aa,ab⟩:=a1;unfold gKq at h;refine SpI Tryz.func87 fun A _=>?_;refine goL ?_;obtain⟨x1,ad,h⟩:=gJ h;refine jK (gG (gNx _ _ ad)) ?_;obtain⟨b2,hb2,h⟩:=gJ h;refine kC ⟨[(4,.B b2)],[bTy c f q,bTy y aa ab],Tryz.f87.ntmps⟩ ?_ ?_
 ·refine gqA 8 hb2 (fun c3 hb2=>?_);obtain⟨x4,ae,hb2⟩:=gJ hb2;refine jK (gG (gNx _ _ ae)) ?_;cases hb2;exact eJ
 exact goR h
def gKr(c:gF)(a1:gM)(a2:gY):Option (Bool):=
bnd (gC9 a1 c) fun f=>
bnd (gKq f.1.head a2.head) fun h=>
(some h)
theorem hJi(a0:gF)(a1:gM)(a2:gY){r:Bool}(h:gKr a0 a1 a2=some r):jF Tryz.prog 86 [.d (qA a0),.dp (kW a1),.dp (yX a2)] [.b r]:=by
 obtain⟨au,av⟩:=a0;obtain⟨aw⟩:=a1;obtain⟨ax,ay,⟨ac,ad,ae⟩,a3,a4,a5,⟨ag,ah,ai⟩,a6⟩:=a2;unfold gKr at h;refine SpI Tryz.func86 fun A _=>?_;refine goL ?_;obtain⟨⟨⟨aj,ak,⟨c,f,q⟩,al,am,an,⟨y,aa,ab⟩,ao⟩,a7⟩,aq,h⟩:=gJ h;refine jK (gG (gKo _ _ aq)) ?_;obtain⟨x2,ar,h⟩:=gJ h;refine qM (gG (hCq _ _ ar)) ?_;exact goR h
def gB0(c:List gF)(a1:gF→Option Bool):Option (Bool):=
bnd (gDk c a1) fun f=>
(some (decide (f≥0)))
theorem gQu(c:List gF){a1f:Nat}{a1c:List SV}{a1:gF→Option Bool}(a1_lt:∀n,SV.lts n a1c=true)(ha1:∀(q:gF)(r:Bool),a1 q=some r→jF Tryz.prog a1f ([.d (qA q)]++a1c) [.b r]){r:Bool}(h:gB0 c a1=some r):jF Tryz.prog 85 [.L 2 (kJ c),.fn a1f a1c] [.b r]:=by
 unfold gB0 at h;refine SpI Tryz.func85 fun A _=>?_;refine goL ?_;obtain⟨y,f,h⟩:=gJ h;refine qM (gG (gN6 c (a1:=a1) a1_lt ha1 f)) ?_;exact goR h
def gB1(c:gM)(a1:gT)(h:List gF):List gF→Option (gF × Int)
 | []=>(some ((gF.mk 0 0),1))
 | q::xs=>bnd (gC9 c q) fun y=>
bnd (gB0 h (fun z0=>gKr z0 c y.1)) fun x7=>
(cnd x7 (
gB1 c a1 h xs ) (
bnd ((cnd y.1.default_ (bnd (gDa a1.type_) fun f=>
(some (!f))) ((some false)))) fun b9=>
(cnd b9 (
(some ((gF.mk 0 0),2))) (
(some (q,0))))))
def gFs(c:gM)(a1:gT):Option (gF × Int):=
bnd (gQs c a1) fun f=>
gB1 c a1 f f
theorem gQv(a0:gM)(a1:gT){r:gF × Int}(h:gFs a0 a1=some r):jF Tryz.prog 57 [.d (kW a0),.d (wU a1)] [qA r.1,.i .i64 r.2]:=by
 obtain⟨am⟩:=a0;obtain⟨ao,⟨ac,ad,ae⟩⟩:=a1;unfold gFs at h;refine SpI Tryz.func57 fun A _=>?_;refine goL ?_;obtain⟨x1,ay,h⟩:=gJ h;refine jK (gG (hJg _ _ ay)) ?_;refine noB ?_;refine gCm 6 (fun z3=>?_);refine qD (fun(y2:Nat)=>⟨[(2,.ptr 0 0),(3,.ptr 1 0),(4,.ptr 2 0),(6,.L 2 (kJ x1)),(15,.L 2 (kJ x1)),(16,.I (x1.length:Int)),(17,.N y2)],[bPr am,bBd ao ac ad ae,.box [.I 0,.I 0]],Tryz.f57.ntmps⟩) (fun y2=>gB1 (gM.mk am) (gT.mk ao (gB.mk ac ad ae)) x1 (x1.drop y2)  =some r) (fun y2=>x1.length - y2) 0 eJ h ?_;rintro y2 h;refine goL ?_;refine kH (mQ (fun c4=>?_) (fun c4=>?_))
 ·have an:=vF c4;obtain⟨x5,a4,ar⟩:=drop_at an;rw [ar,gB1.eq_2] at h;obtain⟨au,av⟩:=x5;refine noS ?_;refine kH (jE ?_);refine goL ?_;refine jK (jM y2 (yD a4)) ?_;obtain⟨⟨⟨ag,ah,⟨c,f,q⟩,ai,aj,ak,⟨y,aa,ab⟩,al⟩,a9⟩,a5,h⟩:=gJ h;refine jK (gG (gKo _ _ a5)) ?_;refine qM (hA8) ?_;obtain⟨x7,a6,h⟩:=gJ h;refine gAc (hSe (gQu x1 (a1:=(fun z0=>gKr z0 (gM.mk am) (gY.mk ag ah (gB.mk c f q) ai aj ak (gB.mk y aa ab) al))) (fun _=>rfl) (fun z0 r hr=>hJi z0 (gM.mk am) (gY.mk ag ah (gB.mk c f q) ai aj ak (gB.mk y aa ab) al) hr) a6)) ?_;refine mQ (fun c8=>?_) (fun c8=>?_)
  ·replace h:=kT c8 h;refine goX ?_;refine jK (kD y2 (by omega)) ?_;exact⟨(y2+1),h,by omega,eJ⟩
  ·replace h:=kU c8 h;refine goS ?_;obtain⟨b9,hb9,h⟩:=gJ h;refine kC ⟨[(4,.ptr 2 0),(8,.ptr 3 0),(38,.B b9)],[bPr am,bBd ao ac ad ae,.box [.I 0,.I 0],.box [.I au,.I av],bIn ag ah c f q ai aj ak y aa ab al],Tryz.f57.ntmps⟩ ?_ ?_
   ·refine gqA 33 hb9 (fun bc hb9=>?_);obtain⟨bd,aw,hb9⟩:=gJ hb9;refine jK (gG (gWp _ aw)) ?_;cases hb9;exact eJ
   refine goC h ?_ ?_<;>intro be h
   ·refine goL ?_;refine yS (jU TBd.h TZ.h rfl (by repeat constructor)) ?_;exact goR h
   ·refine goS ?_;refine jG ?_;cases h;exact uA
 ·have an:=vG c4;rw [jH an,gB1.eq_1] at h;refine goX ?_;refine yS (jU TBd.h TZ.h rfl (by repeat constructor)) ?_;exact goR h
def gG3(a1:LB)(f:Nat)(c:mE × Int × Bool):List mE→mE × Int × Bool
 | []=>c
 | h::xs=>(cnd (h.name==a1) (
(h,(f:Int),true)) (
gG3 a1 f c xs ))
def gEw(a1:LB):List jX→Nat→mE × Int × Bool
 | [],c=>((mE.mk [] [] false false []),0,false)
 | f::xs,c=>gG3 a1 c (gEw a1 xs (c+1)) f.traits
def zA(c:gM)(a1:LB):mE × Int × Bool:=
gEw a1 c.packages 0
theorem gK8(a0:gM)(a1:LB):jF Tryz.prog 21 [.d (kW a0),.S a1] [gHg (zA a0 a1).1,.i .i64 (zA a0 a1).2.1,.b (zA a0 a1).2.2]:=by
 obtain⟨r,h⟩:∃r,zA a0 a1=r:=⟨_,rfl⟩
 rw [h];obtain⟨c⟩:=a0;unfold zA at h;refine SpI Tryz.func21 fun A _=>?_;refine goL ?_;refine noB ?_;refine gCm 12 (fun z2=>?_);refine qD (fun(q:Nat)=>⟨[(1,.S a1),(4,.ptr 1 0),(12,.L 6 (kQ c)),(13,.I (c.length:Int)),(14,.N q)],[bPr c,.box [.S [],.nilsl,.B false,.B false,.nilsl]],Tryz.f21.ntmps⟩) (fun q=>gEw a1 (c.drop q) q=r) (fun q=>c.length - q) 0 eJ h ?_;rintro q h;refine goL ?_;refine kH (mQ (fun c3=>?_) (fun c3=>?_))
 ·have y:=vF c3;obtain⟨x4,am,ad⟩:=drop_at y;rw [ad,gEw.eq_2] at h;obtain⟨ae,ag,f,ah,ai,aj⟩:=x4;refine noS ?_;refine kH (jE ?_);refine goL ?_;refine jK (jM q (gBh am)) ?_;refine noB ?_;refine gCm 20 (fun z6=>?_);refine qD (fun(y5:Nat)=>⟨[(1,.S a1),(4,.ptr 1 0),(7,.N q),(12,.L 6 (kQ c)),(13,.I (c.length:Int)),(14,.N q),(20,.L 5 (uY f)),(21,.I (f.length:Int)),(22,.N y5)],[bPr c,.box [.S [],.nilsl,.B false,.B false,.nilsl],bPk ae ag f ah ai aj],Tryz.f21.ntmps⟩) (fun y5=>gG3 a1 q (gEw a1 (c.drop (q+1)) (q+1)) (f.drop y5)  =r) (fun y5=>f.length - y5) 0 eJ h ?_;rintro y5 h;refine goL ?_;refine kH (mQ (fun c7=>?_) (fun c7=>?_))
  ·have aa:=vF c7;obtain⟨x8,ao,ak⟩:=drop_at aa;rw [ak,gG3.eq_2] at h;obtain⟨aq,ar,au,av,aw⟩:=x8;refine noS ?_;refine kH (jE ?_);refine goL ?_;refine jK (jM y5 (gUq ao)) ?_;refine mQ (fun c9=>?_) (fun c9=>?_)
   ·replace h:=kT c9 h;refine goL ?_;refine jG ?_;subst h;exact uA
   ·replace h:=kU c9 h;refine goS ?_;refine jK (kD y5 (by omega)) ?_;exact⟨(y5+1),h,by omega,eJ⟩
  ·have aa:=vG c7;rw [jH aa,gG3.eq_1] at h;refine goX ?_;refine jK (kD q (by omega)) ?_;exact⟨(q+1),h,by omega,eJ⟩
 ·have y:=vG c3;rw [jH y,gEw.eq_1] at h;refine goX ?_;refine gAc (jU TBd.h TZ.h rfl (by repeat constructor)) ?_;refine jG ?_;subst h;exact uA
def gFt(c:gM→LS→LB→Option LS)(w:gM):LS→LS→Option LS
 | [],f=>(some f)
 | h::xs,f=>bnd ((cnd (!(gDb f h)) (
gd (f.length+[h].length≤4294967296) (
bnd (c w (f++[h]) h) fun q=>
(some q))) (
(some f)))) fun y=>
gFt c w xs y
def gQw(c:gM→LS→LB→Option LS)(w:gM)(f:LS)(name:LB):Option LS:=
lt_ (zA w name) fun h=>
gFt c w h.1.supertraits f
theorem hCr{f:gM→LS→LB→Option LS}(q:∀(x0:gM)(x1:LS)(x2:LB)(w0:Nat){r:LS},f x0 x1 x2=some r→Go.Eng.Spec Tryz.prog 149 [.d (kW x0),.sl 0 w0,.S x2] [.arr 9 1 w0 (gP x1)] (fun sv Lo=>∃v'0,sv=.sl 0 v'0∧Lo=[.arr 9 1 v'0 (gP r)]))(w:gM)(l0:LS)(name:LB)(v0:Nat){r:LS}(h:gQw f w l0 name=some r):Go.Eng.Spec Tryz.prog 149 [.d (kW w),.sl 0 v0,.S name] [.arr 9 1 v0 (gP l0)] (fun sv Lo=>∃v'0,sv=.sl 0 v'0∧Lo=[.arr 9 1 v'0 (gP r)]):=by
 obtain⟨ae⟩:=w;unfold gQw at h;refine kS 1 Tryz.func149 rfl (by kernel_rfl) rfl rfl fun A _=>?_;refine goL ?_;obtain⟨⟨⟨y,c,aa,ab,ac⟩,a5,a6⟩,ar,h⟩:=qW h;have sx1:=gK8 (gM.mk ae) name;rw [ar] at sx1;refine jK (gG (sx1)) ?_;refine noB ?_;refine gCm 20 (fun z5=>?_);refine kV (fun(y4:Nat)(y2:LS)(v3:Nat)=>⟨[(1,.sl 0 v3),(3,.ptr 1 0),(20,.L 1 (gP c)),(21,.I (c.length:Int)),(22,.N y4)],[.arr 9 1 v3 (gP y2),bPr ae,bTr y c aa ab ac],Tryz.f149.ntmps⟩) (fun y4 y2 v3=>gFt f (gM.mk ae) (c.drop y4) y2=some r) (fun y4 y2 v3=>c.length - y4) 0 l0 v0 eJ h ?_;rintro y4 y2 v3 h;refine goL ?_;refine kH (mQ (fun c6=>?_) (fun c6=>?_))
 ·have ad:=vF c6;obtain⟨x7,av,am⟩:=drop_at ad;rw [am,gFt.eq_2] at h;refine noS ?_;refine kH ?_;obtain⟨b8,hb8,h⟩:=gJ h;refine gIx (fun v9=>⟨[(1,.sl 0 v9),(3,.ptr 1 0),(20,.L 1 (gP c)),(21,.I (c.length:Int)),(22,.N y4)],[.arr 9 1 v9 (gP b8),bPr ae,bTr y c aa ab ac],Tryz.f149.ntmps⟩) ?_ (fun v9=>?_)
  ·refine jE ?_;refine goL ?_;refine jK (jM y4 (gNp av)) ?_;refine gAc (gUo (gQz y2 x7)) ?_;refine mQ (fun aj=>?_) (fun aj=>?_)
   ·replace hb8:=kT aj hb8;refine vP (P:=Tryz.prog) Mix.h [(0,true),(1,true),(2,true),(5,true),(3,false),(4,false),(6,false),(7,true)] (by kernel_rfl) ?_;refine goY ?_;refine jT (T:=34) (us:=gP [x7]) ?_;obtain⟨aw,hb8⟩:=pO hb8;refine jR (T:=34) aw ?_;obtain⟨ax,an,hb8⟩:=gJ hb8;refine gU2 [0] (q (gM.mk ae) (y2++[x7]) x7 (v3+1) an) ?_;rintro _ _ ⟨ak,rfl,rfl⟩;refine gRz (sv:=.sl 0 ak) (L':=[.arr 9 1 ak (gP ax),bPr ae,bTr y c aa ab ac,.arr 9 1 0 (gP [x7])]) (by repeat(first | exact vE.nil | (apply vE.keep;focus ((repeat constructor);done)) | (apply vE.dep;focus kernel_rfl))) ?_;refine goY ?_;refine kX ?_;refine goL ?_;cases hb8;exact⟨ak,eJ⟩
   ·replace hb8:=kU aj hb8;refine yE ?_;cases hb8;exact⟨v3,eJ⟩
  refine goL ?_;refine jK (kD y4 (by omega)) ?_;exact⟨(y4+1),b8,v9,h,by omega,eJ⟩
 ·have ad:=vG c6;rw [jH ad,gFt.eq_1] at h;refine goX ?_;refine jG ?_;obtain rfl:=Option.some.inj h;exact gBa [.sl 0 v3] _ ⟨v3,rfl,rfl⟩
def gQx:Nat→gM→LS→LB→Option LS
 | 0,_,_,_=>none
 | n+1,c,f,h=>gQw (gQx n) c f h
theorem hCt:∀(n:Nat)(c:gM)(f:LS)(q:LB)(y:Nat){r:LS},gQx n c f q=some r→Go.Eng.Spec Tryz.prog 149 [.d (kW c),.sl 0 y,.S q] [.arr 9 1 y (gP f)] (fun sv Lo=>∃v'0,sv=.sl 0 v'0∧Lo=[.arr 9 1 v'0 (gP r)]):=by
 intro n
 induction n with
 | zero=>intro c f q y r h;cases h
 | succ n ih=>intro c f q y r h;exact hCr ih c f q y h
def gR3(a:gM)(b:LB):Option LS:=gQx 5000 a [] b
theorem gU7(a:gM)(b:LB){r:LS}(h:gR3 a b=some r):Go.Eng.Spec Tryz.prog 149 [.d (.st [.sl 6 (kQ a.packages)]),.nilsl,.S b] [] (fun sv Lo=>sv=.L 1 (gP r)∧Lo=[]):=Spec.nilF1 (hCt 5000 a [] b 0 h)
def gQy(c:gM)(a1:LB):Option LS:=
bnd (gR3 c a1) fun f=>
(some f)
theorem hCu(f:gM)(a1:LB){r:LS}(h:gQy f a1=some r):jF Tryz.prog 105 [.d (kW f),.S a1] [.sl 1 (gP r)]:=by
 obtain⟨c⟩:=f;unfold gQy at h;refine SpI Tryz.func105 fun A _=>?_;refine goL ?_;obtain⟨y,q,h⟩:=gJ h;refine gCl [] (gU7 (gM.mk c) a1 q) ?_;rintro _ _ ⟨rfl,rfl⟩;show VO _ _ _ _ ⟨(_,.L 1 (gP y))::_,[bPr c],_⟩ _;exact goR h
end Go.Proofs.YtfpdlnkkcnmebaaGreat
