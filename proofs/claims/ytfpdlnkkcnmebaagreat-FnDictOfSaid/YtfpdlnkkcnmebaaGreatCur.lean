import Derived.Test.YtfpdlnkkcnmebaaGreatEng73
set_option linter.unusedVariables false
set_option linter.unusedSimpArgs false
set_option linter.unusedSectionVars false
namespace Go.Eng
open Go Go.RowKit
theorem DzL.refl{L0:List LO}:∀(l:List LO),DzL L0 l l
 | []=>.nil
 | _::l=>.cons .same (DzL.refl l)
theorem DzF.refl{L0:List LO}:∀(l:List (Nat × SV)),DzF L0 l l
 | []=>.nil
 | (_,_)::l=>.cons .same (DzF.refl l)
theorem Sn.mk'{α:Type}{x:α}:∀(l:List α),Sn x l l.length (l++[x])
 | []=>.z
 | _::l=>.s (Sn.mk' l)
section
variable {P:Program}{A:Amb}{ops:Array Oper}{K:St→Prop}{r:List (Nat × Bool)}{pf:PF}{fr:List (Nat × SV)}{L L1 L':List LO}{N i t m:Nat}
variable {ty:TypeId}{pos:String}{af:Array Edge}{x y:Operand}{T:TypeId}
theorem uE {e z bs n:Nat}{gg:Bool} [TE P T e] [TI P e gg z bs] {zs:List Value} [TZ P e zs] {us:List U} {ps:Array (Nat × Operand)} (h:VY P A ops K r pf ⟨(t,.d (.sl z us))::fr,L',N⟩) (hi:ops[i]? =some ⟨some t,.buildSlice T n ps,ty,pos,af,none⟩:=by rfl) (hps:ps.toList=((ps.toList.map Prod.snd).zipIdx 0).map (fun p=>(p.2,p.1)):=by rfl)
  (hy:VDs ⟨fr,L,N⟩ (ps.toList.map Prod.snd) us:=by(repeat(first | exact .nil | refine .cons (by((repeat(first | exact trivial | exact rfl | exact⟨_,rfl⟩ | refine And.intro ?_ ?_));first | done | fail)) ?_))) (hu:(us.all fun u=>u.sz==z)=true:=by rfl) (hn:((ps.toList.map Prod.snd).length==n && Nat.blt 0 n)=true:=by rfl)
  (hz:(Nat.blt 0 z && Nat.ble (n*z) 16777216 && zs.length==z)=true:=by rfl) (ht:Nat.blt t N=true:=by rfl) (hL':Sn (.frz e z 0 us) L m L':=by repeat constructor)
  (hp:vU ops i L' pf:=by(repeat(first | exact vU.nil | (apply vU.keep;focus ((repeat constructor);done)) | (apply vU.dep;focus kernel_rfl)))):VY P A ops K ((i,false)::r) pf ⟨fr,L,N⟩:=by
 obtain⟨hm,rfl⟩:=hL'.spec;refine gE5 hi (fun fr' he' K' hK=>?_) hp h;refine yQ (i:=L.length) (L':=L++[.arr e z 0 us]) ?_ hps (VDs.same (σ:=⟨fr,L,N⟩) (σ':=⟨fr',L,N⟩) rfl hy (fun x hx=>he' x (by simpa [Op.operands] using hx))) hu hn hz ht (Sn.mk' L);refine kS L.length (e:=e) (z:=z) (ver:=0) (es:=us) (by simp) (by simp [List.set_append_right]:(L++[LO.arr e z 0 us]).set L.length (.frz e z 0 us)=L++[.frz e z 0 us]) ?_;exact hAv (gDc hK) (DzL.refl _) (.cons (.frz (e:=e) (v:=0) (by simp)) (DzF.refl _))
theorem hKg {α:Type}{en:α→U}{es:List α→List U}{z:Nat}[E:Enc α en es z]{bs ver e' j k:Nat}{gg:Bool}{l:List α}{a:α}(ha:l[k]? =some a) [TI P T gg z bs] (h:VY P A ops K r pf ⟨(t,.d (en a))::fr,L,N⟩) (hi:ops[i]? =some ⟨some t,.load T x,ty,pos,af,none⟩:=by rfl)
  (hx:(St.mk fr L N).ev x=.ep j ver z k 0:=by rfl) (hL:L[j]? =some (.arr e' z ver (es l)):=by rfl) (hg:(en a).isSt=gg:=by rfl) (ht:Nat.blt t N=true:=by rfl)
  (hp:vU ops i L pf:=by(repeat(first | exact vU.nil | (apply vU.keep;focus ((repeat constructor);done)) | (apply vU.dep;focus kernel_rfl)))):VY P A ops K ((i,false)::r) pf ⟨fr,L,N⟩:=
 gE5 hi (fun fr' he' K' hK=>vP (hIl (σ:=⟨fr',L,N⟩) ha (by rw [he' x (by simp [Op.operands])];exact hx) hL hg) (gDc hK) ht) hp h
end
theorem hOm{P:Program}{σ:St}{dst:Option Nat}{ty:TypeId}{pos:String}{af:Array Edge}{g:Option (Nat × Bool)}{x:Operand}{T:TypeId}{f fo i off:Nat} [TF P T f fo](hx:σ.ev x=.ptr i off:=by rfl):QR P σ ⟨dst,.fieldAddr T x f,ty,pos,af,g⟩ (.ptr i (off+fo)):=
 fun A fr' L' he _=>QD.quiet (.field (by rw [he x (by simp [Op.operands]),hx];exact .ptr))
@[reducible] def hcT(i:Nat)(t:OT):OT:=.h i t .nil
@[reducible] def hzT(i:Nat):OT:=.h i .nil .nil
@[reducible] def q3T(i:Nat)(t:OT):OT:=.q i (.q (i+1) (.q (i+2) t))
section
variable {P:Program}{A:Amb}{ops:Array Oper}{K:St→Prop}{t:OT}{pf:PF}{i:Nat}{b:Bool}
theorem hSq{d N:Nat}{x:Operand}{ty:TypeId}{pos:String}{af:Array Edge}{fr:List (Nat × SV)}{L:List LO}{sv:SV}(h:VT P A ops K t ((i,[])::pf) ⟨(d,sv)::fr,L,N⟩ false)(hi:ops[i]? =some ⟨some d,.assign x,ty,pos,af,none⟩:=by rfl)(hx:(St.mk fr L N).ev x=sv:=by rfl)(hd:Nat.blt d N=true:=by rfl):VT P A ops K (.q i t) pf ⟨fr,L,N⟩ b:=
 ⟨_,sv,[],hi,⟨fun d' hd'=>by cases hd';exact hd,fun k cs hk=>by simp at hk,.inl ⟨rfl,fun fr' L' he _=>gUe (by rw [he x (by simp [Op.operands])];exact hx)⟩⟩,h⟩
theorem mU {X Y:Prop}(hy:Y)(h:Y→X:=by
  intro hy
  repeat(first | refine hPb ?_ | refine hSq ?_ | refine gXn rfl hPm ?_ | refine gXn rfl hOm ?_ | refine gXn rfl QR_not ?_ | refine gGt (hAo rfl gLc gZ) ?_ | refine gGt (hAo rfl gLd gZ) ?_ | refine gGt (hSx rfl gZ (by(repeat constructor);first | done | fail)) ?_ | refine gQ (hSy rfl (by repeat constructor) (by repeat(first | exact vU.nil | (apply vU.keep;focus ((repeat constructor);done)) | (apply vU.dep;focus kernel_rfl))) gZ) ?_)
  exact hy):X:=h hy
end
end Go.Eng
set_option maxHeartbeats 4000000
namespace Go.Proofs.YtfpdlnkkcnmebaaGreat
open Go Go.Eng
attribute [local irreducible] V VO VQ VY Quiet QR jI mK Rng qE qA pX
def gGz(code:LB):Nat→Int→Int→Option (gK)
 | 0,h,f=>none
 | q+1,h,f=>lt_ ((cnd (decide (f < (code.length:Int))) ((decide (f < 4000))) (false))) fun b4=>
(cnd b4 (
bnd (at? code f) fun x7=>
gGz code q (hBs (IntKind.i64.wrap ((IntKind.i64.wrap ((IntKind.i64.wrap (h*131))+(IntKind.i64.wrap (x7.toNat:Int))))+7)) 1073741823) (IntKind.i64.wrap (f+1))) (
(some (gK.mk code 0 h))))
def gQw(code:LB)(f:Nat):Option (gK):=
gGz code f (IntKind.i64.wrap ((28803:Int)+(code.length:Int))) 0
theorem hL8(code:LB){n0:Nat}{r:gK}(h:gQw code n0=some r):Go.Eng.Spec Tryz.prog 31 [.L 1 (gD6 code)] [] (fun sv Lo=>sv=.ptr 0 0∧Lo=[bCu r.b r.i r.h]):=by
 unfold gQw at h;refine kJ 0 Tryz.func31 rfl (by kernel_rfl) rfl rfl fun A _=>?_;refine goL ?_;refine jP (hEh) ?_;refine jP (pV) ?_;refine noB ?_;refine mG (fun(f:Nat)(q:Int)(y2:Int)=>⟨[(0,.L 1 (gD6 code)),(3,.I q),(4,.I y2)],[],Tryz.f31.ntmps⟩) (fun f q y2=>gGz code f q y2=some r) (fun f q y2=>f) n0 (IntKind.i64.wrap ((28803:Int)+(code.length:Int))) 0 eJ h ?_;rintro f q y2 h;rcases f with _ | f
 ·cases h
 rw [gGz.eq_2] at h;refine goL ?_;obtain⟨b4,hb4,h⟩:=uK h;refine kH ⟨[(0,.L 1 (gD6 code)),(3,.I q),(4,.I y2),(15,.B b4)],[],Tryz.f31.ntmps⟩ ?_ ?_
 ·exact gqZ 12 hb4
 refine goC h ?_ ?_<;>intro c6 h
 ·refine noS ?_;refine kI (jA ?_);refine goL ?_;refine jP (pV) ?_;obtain⟨x7,ab,h⟩:=gJ h;obtain⟨ac,ab⟩:=gBm ab;refine jP (uL ac (hMr ab)) ?_;refine uN (hMu Tryz.underlying5 Tryz.underlying3) ?_;refine uN (pV) ?_;refine uN (pV) ?_;refine jP (hEj) ?_;refine jP (pV) ?_;exact⟨f,(hBs (IntKind.i64.wrap ((IntKind.i64.wrap ((IntKind.i64.wrap (q*131))+(IntKind.i64.wrap (x7.toNat:Int))))+7)) 1073741823),(IntKind.i64.wrap (y2+1)),h,Nat.lt_succ_self _,eJ⟩
 ·refine goX ?_;refine yT (jN TBd.h TZ.h rfl (by repeat constructor)) ?_;refine jF ?_;obtain rfl:=Option.some.inj h;exact gAg [.ptr 0 0] _ ⟨rfl,rfl⟩
def gHg(code:LB):gK:=(gQw code 4001).getD ⟨[],0,0⟩
theorem gQx(code:LB):∀(n:Nat)(q f:Int),0≤f→f≤4000→(4001 - f).toNat≤n→∃h,gGz code n q f=some ⟨code,0,h⟩
 | 0,q,f,h0,h1,hn=>by omega
 | n+1,q,f,h0,h1,hn=>by
   simp only [gGz,lt_];cases hc:decide (f < (code.length:Int))with
   | false=>exact⟨q,rfl⟩
   | true=>
     simp only [jQ];cases hd:decide (f < 4000)with
     | false=>exact⟨q,rfl⟩
     | true=>
       have h3:=of_decide_eq_true hc;have h4:=of_decide_eq_true hd;have hx:at? code f=some (code[f.toNat]'(by omega)):=by unfold at?;rw [if_pos h0];exact List.getElem?_eq_getElem _
       simp only [jQ];rw [jV hx,zV (f+1) (by omega) (by omega)];exact gQx code n _ (f+1) (by omega) (by omega) (by omega)
theorem gYs(code:LB):gQw code 4001=some (gHg code)∧(gHg code).b=code∧(gHg code).i=0:=by
 obtain⟨h,e⟩:=gQx code 4001 (IntKind.i64.wrap ((28803:Int)+(code.length:Int))) 0 (by omega) (by omega) (by omega);have e':gQw code 4001=some ⟨code,0,h⟩:=e;unfold gHg;rw [e'];exact⟨rfl,rfl,rfl⟩
theorem gW5(code:LB):Go.Eng.Spec Tryz.prog 31 [.L 1 (gD6 code)] [] (fun sv Lo=>sv=.ptr 0 0∧Lo=[.box [.d (.sl 1 (gD6 (gHg code).b)),.d (.i .i64 (gHg code).i),.d (.i .i64 (gHg code).h)]]):=hL8 code (gYs code).1
def gGs(c:gK):Option (Int × gK):=
(cnd (decide (c.i < (c.b.length:Int))) (
bnd (at? c.b c.i) fun f=>
(some ((hBs (IntKind.i64.wrap ((hBs (hPe (hIm (IntKind.i64.wrap ((IntKind.i64.wrap (c.h*6364136223846793005))+1442695040888963407)) 33) (hIm (IntKind.i64.wrap ((IntKind.i64.wrap (c.h*6364136223846793005))+1442695040888963407)) 45)) 255)+(IntKind.i64.wrap (f.toNat:Int)))) 255),(gK.mk c.b (IntKind.i64.wrap (c.i+1)) (IntKind.i64.wrap ((IntKind.i64.wrap (c.h*6364136223846793005))+1442695040888963407)))))) (
(some ((hBs (hPe (hIm (IntKind.i64.wrap ((IntKind.i64.wrap (c.h*6364136223846793005))+1442695040888963407)) 33) (hIm (IntKind.i64.wrap ((IntKind.i64.wrap (c.h*6364136223846793005))+1442695040888963407)) 45)) 255),(gK.mk c.b c.i (IntKind.i64.wrap ((IntKind.i64.wrap (c.h*6364136223846793005))+1442695040888963407)))))))
theorem gNl(c:gK){r:Int × gK}(h:gGs c=some r):Go.Eng.Spec Tryz.prog 70 [.ptr 0 0] [bCu c.b c.i c.h] (fun sv Lo=>sv=.I r.1∧Lo=[bCu r.2.b r.2.i r.2.h]):=by
 obtain⟨ab,ac,f⟩:=c;unfold gGs at h;refine kJ 1 Tryz.func70 rfl (by kernel_rfl) rfl rfl fun A _=>?_;refine goL ?_;refine uN (pV) ?_;refine jP (pV) ?_;refine gDi (hKq) ?_;refine goL ?_;refine gDi (hKq) ?_;refine gDi (hPf) ?_;refine gDi (hEj) ?_;refine goC h ?_ ?_<;>intro c1 h
 ·refine goL ?_;obtain⟨x2,q,h⟩:=gJ h;obtain⟨aa,q⟩:=gBm q;refine gDi (uL aa (hMr q)) ?_;refine goL ?_;refine gDi (hMu Tryz.underlying5 Tryz.underlying3) ?_;refine gDi (pV) ?_;refine gDi (hEj) ?_;refine goL ?_;refine jP (pV) ?_;refine jF ?_;obtain rfl:=Option.some.inj h;exact gAg [.d (.i .i64 (hBs (IntKind.i64.wrap ((hBs (hPe (hIm (IntKind.i64.wrap ((IntKind.i64.wrap (f*6364136223846793005))+1442695040888963407)) 33) (hIm (IntKind.i64.wrap ((IntKind.i64.wrap (f*6364136223846793005))+1442695040888963407)) 45)) 255)+(IntKind.i64.wrap (x2.toNat:Int)))) 255))] _ ⟨rfl,rfl⟩
 ·refine goS ?_;refine jF ?_;obtain rfl:=Option.some.inj h;exact gAg [.d (.i .i64 (hBs (hPe (hIm (IntKind.i64.wrap ((IntKind.i64.wrap (f*6364136223846793005))+1442695040888963407)) 33) (hIm (IntKind.i64.wrap ((IntKind.i64.wrap (f*6364136223846793005))+1442695040888963407)) 45)) 255))] _ ⟨rfl,rfl⟩
def kW(c:gK)(n:Int):Option (Int × gK):=
(cnd (decide (n≤0)) (
(some (0,c))) (
(cnd (decide (n≤256)) (
bnd (gGs c) fun f=>
gd (n≠0) (
(some ((Int.tmod f.1 n),f.2)))) (
bnd (gGs c) fun h=>
bnd (gGs h.2) fun q=>
bnd (gGs q.2) fun x7=>
bnd (gGs x7.2) fun x8=>
gd (n≠0) (
(some ((Int.tmod (IntKind.i64.wrap ((IntKind.i64.wrap ((IntKind.i64.wrap ((IntKind.i64.wrap (h.1*16777216))+(IntKind.i64.wrap (q.1*65536))))+(IntKind.i64.wrap (x7.1*256))))+x8.1)) n),x8.2)))))))
theorem mH(c:gK)(n:Int){r:Int × gK}(h:kW c n=some r):Go.Eng.Spec Tryz.prog 42 [.ptr 0 0,.I n] [bCu c.b c.i c.h] (fun sv Lo=>sv=.I r.1∧Lo=[bCu r.2.b r.2.i r.2.h]):=by
 obtain⟨ai,aj,ak⟩:=c;unfold kW at h;refine kJ 1 Tryz.func42 rfl (by kernel_rfl) rfl rfl fun A _=>?_;refine goC h ?_ ?_<;>intro c1 h
 ·refine goL ?_;refine jF ?_;obtain rfl:=Option.some.inj h;exact gAg [.I 0] _ ⟨rfl,rfl⟩
 ·refine goS ?_;refine mR (fun c2=>?_) (fun c2=>?_)
  ·replace h:=kU c2 h;refine goL ?_;obtain⟨⟨al,⟨aq,ar,au⟩⟩,a0,h⟩:=gJ h;refine mI 0 (gNl (gK.mk ai aj ak) a0) ?_;refine goL ?_;obtain⟨g4,h⟩:=pU h;refine jP (hEm g4) ?_;refine jF ?_;obtain rfl:=Option.some.inj h;exact gAg [.I (Int.tmod al n)] _ ⟨rfl,rfl⟩
  ·replace h:=kV c2 h;refine goS ?_;obtain⟨⟨am,⟨f,q,aa⟩⟩,a3,h⟩:=gJ h;refine mI 0 (gNl (gK.mk ai aj ak) a3) ?_;refine goL ?_;obtain⟨⟨an,⟨ab,ac,ad⟩⟩,a4,h⟩:=gJ h;refine mI 0 (gNl (gK.mk f q aa) a4) ?_;refine goL ?_;obtain⟨⟨ao,⟨ae,ag,ah⟩⟩,a5,h⟩:=gJ h;refine mI 0 (gNl (gK.mk ab ac ad) a5) ?_;refine goL ?_;obtain⟨⟨ap,⟨av,aw,ax⟩⟩,a6,h⟩:=gJ h;refine mI 0 (gNl (gK.mk ae ag ah) a6) ?_;refine goL ?_;refine jP (pV) ?_;refine uN (pV) ?_;refine jP (pV) ?_;refine uN (pV) ?_;refine jP (pV) ?_;refine jP (pV) ?_;obtain⟨g9,h⟩:=pU h;refine jP (hEm g9) ?_;refine jF ?_;obtain rfl:=Option.some.inj h;exact gAg [.d (.i .i64 (Int.tmod (IntKind.i64.wrap ((IntKind.i64.wrap ((IntKind.i64.wrap ((IntKind.i64.wrap (am*16777216))+(IntKind.i64.wrap (an*65536))))+(IntKind.i64.wrap (ao*256))))+ap)) n))] _ ⟨rfl,rfl⟩
def pK(c:gK)(l:LS):Option (LB × gK):=
bnd (kW c (l.length:Int)) fun f=>
bnd (at? l f.1) fun h=>
(some (h,f.2))
theorem kZ(c:gK)(l:LS){r:LB × gK}(h:pK c l=some r):Go.Eng.Spec Tryz.prog 63 [.ptr 0 0,.L 1 (gT l)] [bCu c.b c.i c.h] (fun sv Lo=>sv=.S r.1∧Lo=[bCu r.2.b r.2.i r.2.h]):=by
 obtain⟨ad,ae,ag⟩:=c;unfold pK at h;refine kJ 1 Tryz.func63 rfl (by kernel_rfl) rfl rfl fun A _=>?_;refine goL ?_;obtain⟨⟨ai,⟨aa,ab,ac⟩⟩,ah,h⟩:=gJ h;refine mI 0 (mH (gK.mk ad ae ag) (l.length:Int) ah) ?_;obtain⟨x2,f,h⟩:=gJ h;obtain⟨q,f⟩:=gBm f;refine jP (uL q (gO7 f)) ?_;refine jF ?_;obtain rfl:=Option.some.inj h;exact gAg [.S x2] _ ⟨rfl,rfl⟩
def gDu(c:gK)(l:List Int):Option (Int × gK):=
bnd (kW c (l.length:Int)) fun f=>
bnd (at? l f.1) fun h=>
(some (h,f.2))
theorem gQy(c:gK)(l:List Int){r:Int × gK}(h:gDu c l=some r):Go.Eng.Spec Tryz.prog 94 [.ptr 0 0,.L 1 (vM l)] [bCu c.b c.i c.h] (fun sv Lo=>sv=.I r.1∧Lo=[bCu r.2.b r.2.i r.2.h]):=by
 obtain⟨ad,ae,ag⟩:=c;unfold gDu at h;refine kJ 1 Tryz.func94 rfl (by kernel_rfl) rfl rfl fun A _=>?_;refine goL ?_;obtain⟨⟨ai,⟨aa,ab,ac⟩⟩,ah,h⟩:=gJ h;refine mI 0 (mH (gK.mk ad ae ag) (l.length:Int) ah) ?_;obtain⟨x2,f,h⟩:=gJ h;obtain⟨q,f⟩:=gBm f;refine jP (uL q (hMg f)) ?_;refine jF ?_;obtain rfl:=Option.some.inj h;exact gAg [.I x2] _ ⟨rfl,rfl⟩
end Go.Proofs.YtfpdlnkkcnmebaaGreat
