import Derived.Test.YtfpdlnkkcnmebaaGreatP11
set_option maxHeartbeats 4000000
set_option linter.unusedVariables false
set_option linter.unusedSimpArgs false
set_option linter.unusedSectionVars false
namespace Go.Proofs.YtfpdlnkkcnmebaaGreat
open Go Go.Eng
attribute [local irreducible] V VO VQ VY Quiet QR jI mK Rng qE qA pX
def gJr(a0:LB):Option (Bool):=
(cnd (gV2 a0) (
(some true)) (
bnd (zO a0) fun f=>
bnd (uG 5000 f.1 f.2.1 f.2.2) fun q=>
bnd (mW 5000 f.1 f.2.1 f.2.2) fun x4=>
bnd ((cnd (!(q.2==x4.2)) ((some true)) (bnd (yG 5000 q.1 x4.1) fun x7=>
(cnd (!x7) ((some true)) (bnd (yE 5000 q.1 x4.1) fun x9=>
(some (!x9))))))) fun b5=>
(cnd b5 (
(some false)) (
bnd (gDz f.2.2 [0]) fun ab=>
bnd (uG 5000 f.1 f.2.1 ab) fun h=>
bnd (kY 5000 f.1 q.1 0) fun y=>
bnd ((cnd (!q.2) ((some true)) ((cnd (h.2==y.2) ((cnd (!h.2) ((some true)) (bnd (yG 5000 h.1 y.1) fun ac=>
(some ac)))) ((some false)))))) fun ad=>
(some ad)))))
theorem gW0(a0:LB){r:Bool}(h:gJr a0=some r):jI Tryz.prog 4 [.L 1 (gD6 a0)] [.b r]:=by
 unfold gJr at h;refine SpI Tryz.func4 fun A _=>?_;refine goL ?_;refine jP (gI (hPv a0)) ?_;refine mR (fun c1=>?_) (fun c1=>?_)
 ·replace h:=kU c1 h;exact goR h
 ·replace h:=kV c1 h;refine goS ?_;obtain⟨⟨⟨aa⟩,ay,⟨ab,ac,⟨f,y⟩,ad⟩⟩,bj,h⟩:=gJ h;refine jP (gI (gM1 _ bj)) ?_;obtain⟨⟨⟨an,⟨ah,ai⟩,ao,ap⟩,bd⟩,bk,h⟩:=gJ h;refine jP (gI (gCg _ _ _ _ bk)) ?_;obtain⟨⟨⟨aq,⟨aj,ak⟩,ar,au⟩,bq⟩,bl,h⟩:=gJ h;refine jP (gI (gLp _ _ _ _ bl)) ?_;obtain⟨b5,hb5,h⟩:=gJ h;refine kH ⟨[(3,.ptr 0 0),(4,.L 5 (jJ ay)),(5,.ptr 1 0),(6,.ptr 2 0),(7,.B bd),(50,.B b5)],[bPr aa,.box [.I ab,.I ac,.I f,.I y,.L 5 (jE ad)],.box [.I an,.I ah,.I ai,.L 1 (vM ao),.L 5 (jJ ap)],.box [.I aq,.I aj,.I ak,.L 1 (vM ar),.L 5 (jJ au)]],Tryz.f4.ntmps⟩ ?_ ?_
  ·refine gqO 39 hb5 (fun c6 hb5=>?_);obtain⟨x7,bm,hb5⟩:=gJ hb5;refine jP (gI (gIg _ _ _ bm)) ?_;refine gqO 45 hb5 (fun c8 hb5=>?_);obtain⟨x9,bn,hb5⟩:=gJ hb5;refine jP (gI (gNp _ _ _ bn)) ?_;cases hb5;exact eJ
  refine goC h ?_ ?_<;>intro bt h
  ·exact goR h
  ·refine noS ?_;obtain⟨⟨av,aw,⟨ae,ag⟩,ax⟩,a9,h⟩:=gJ h;obtain⟨⟨⟨a3,⟨al,am⟩,a4,a5⟩,be⟩,a8,h⟩:=gJ h;refine uC (P:=Tryz.prog) Mix.h (q3T 0 (.h 3 (.h 4 (.h 5 (q3T 6 (hcT 9 (hcT 10 (.q 11 .nil)))) (hcT 9 (hcT 5 (q3T 6 (hcT 10 (.q 11 .nil)))))) (hcT 9 (hcT 4 (hcT 5 (q3T 6 (hcT 10 (.q 11 .nil))))))) (hcT 9 (hcT 3 (hcT 4 (hcT 5 (q3T 6 (hcT 10 (.q 11 .nil))))))))) ⟨[(3,.ptr 0 0),(6,.ptr 2 0),(7,.B bd),(10,.ptr 5 0),(11,.B be)],[bPr aa,.box [.I ab,.I ac,.I f,.I y,.L 5 (jE ad)],.box [.I an,.I ah,.I ai,.L 1 (vM ao),.L 5 (jJ ap)],.box [.I aq,.I aj,.I ak,.L 1 (vM ar),.L 5 (jJ au)],.frz 3 1 0 (vM [0]),.box [.I a3,.I al,.I am,.L 1 (vM a4),.L 5 (jJ a5)]],Tryz.f4.ntmps⟩ (by kernel_rfl) ?_ ?_
   ·refine mU ?_;refine uD (gLf (T:=57) (0:Int) gZ) ?_ ?_
    ·refine uD (gGi 4 rfl rfl (qD ((gHr (gH.mk ab ac (gD.mk f y) ad) [0] a9).p) gZ)) ?_ ?_
     ·refine uD (qD (gCg 5000 (gM.mk aa) ay (gH.mk av aw (gD.mk ae ag) ax) a8) gZ) ?_ ?_
      ·refine mU ?_;refine jL ?_;exact pQ 0 [0,1,2,3,4,5]
      refine mU ?_;refine gQ (qD (gCg 5000 (gM.mk aa) ay (gH.mk av aw (gD.mk ae ag) ax) a8) gZ) ?_;refine mU ?_;refine jL ?_;exact pQ 0 [0,1,2,3,4,5]
     refine mU ?_;refine gQ (gGi 4 rfl rfl (qD ((gHr (gH.mk ab ac (gD.mk f y) ad) [0] a9).p) gZ)) ?_;refine gQ (qD (gCg 5000 (gM.mk aa) ay (gH.mk av aw (gD.mk ae ag) ax) a8) gZ) ?_;refine mU ?_;refine jL ?_;exact pQ 0 [0,1,2,3,4,5]
    refine mU ?_;refine gQ (gLf (T:=57) (0:Int) gZ) ?_;refine gQ (gGi 5 rfl rfl (qD ((gHr (gH.mk ab ac (gD.mk f y) ad) [0] a9).p) gZ)) ?_;refine gQ (qD (gCg 5000 (gM.mk aa) ay (gH.mk av aw (gD.mk ae ag) ax) a8) gZ) ?_;refine mU ?_;refine jL ?_;exact pQ 0 [0,1,2,3,5,4]
   refine goL ?_;obtain⟨⟨⟨ba,⟨a6,a7⟩,bb,bc⟩,bo⟩,bf,h⟩:=gJ h;refine jP (gI (gJw _ _ _ _ bf)) ?_;obtain⟨bp,hb14,h⟩:=gJ h;refine kH ⟨[(2,.B bp)],[bPr aa,.box [.I ab,.I ac,.I f,.I y,.L 5 (jE ad)],.box [.I an,.I ah,.I ai,.L 1 (vM ao),.L 5 (jJ ap)],.box [.I aq,.I aj,.I ak,.L 1 (vM ar),.L 5 (jJ au)],.frz 3 1 0 (vM [0]),.box [.I a3,.I al,.I am,.L 1 (vM a4),.L 5 (jJ a5)],.box [.I ba,.I a6,.I a7,.L 1 (vM bb),.L 5 (jJ bc)]],Tryz.f4.ntmps⟩ ?_ ?_
   ·refine gqO 68 hb14 (fun bu hb14=>?_);refine gqA 72 hb14 (fun bv hb14=>?_);refine gqO 75 hb14 (fun bw hb14=>?_);obtain⟨bx,bg,hb14⟩:=gJ hb14;refine jP (gI (gIg _ _ _ bg)) ?_;cases hb14;exact eJ
   exact goR h
theorem hKe{rec:gH→Option gH}:∀(xs:List gH)(k:Nat)(y:List gH),(∀x∈xs,rec x=some x)→y.length=k+xs.length→gAe rec xs k y=some (y.take k++xs)
 | [],k,y,_,h=>by
   rw [gAe.eq_1,List.take_of_length_le (by simp at h;omega),List.append_nil]
 | x::xs,k,y,h,f=>by
   simp only [List.length_cons] at f;rw [gAe.eq_2,h x (by simp)];simp only [bnd];rw [qN (by omega),hKe xs (k+1) _ (fun a ha=>h a (by simp [ha])) (by simp;omega),gGx (by omega)];simp
theorem cpA:∀(k n:Nat)(e:gH),2*k≤n→EvA k e→gHq n e=some e
 | 0,_,_,_,h=>h.elim
 | k+1,n,e,hn,h=>by
   obtain⟨n,rfl⟩:∃m,n=m+2:=⟨n - 2,by omega⟩
   obtain⟨a,b,c,az⟩:=e;have q:az.length≤100:=h.1;rw [gHq];unfold gN1;have f:gJc (n+1) az=some az:=by
    rw [gJc];unfold gMe;rw [qN (by omega),hKe az 0 _ (fun x hx=>cpA k n x (by omega) (h.2 x hx)) (by simp)];simp
   rw [jV f]
theorem gW1(code:LB)(h:code.length≤1048576→vX (gHg code)):gJr code=some true:=by
 unfold gJr gV2;cases hb:decide ((code.length:Int) > 1048576)with
 | true=>rfl
 | false=>
   have hb:=of_decide_eq_false hb;obtain⟨w,ds,e,e0,hw,h1,h2,f⟩:=hWi code (h (by omega));obtain⟨all,hS⟩:=hw.sw;obtain⟨r,y,r2,r3⟩:=hJg hw hS (ds:=ds) (B:=50) (D:=100) (by omega) (by omega) h2 h1 22 e f (by omega);obtain⟨f1,f2⟩:=y 5000 (by omega);have d1:=gR1 5000 r.1 (by omega);have d2:=gV8 5000 r.1 (by omega);have ea:gDz e [0]=some ⟨3,0,⟨0,0⟩,[e]⟩:=by
    have hc:=cpA 22 5000 e (by omega) f;obtain⟨a,b,⟨p,q⟩,c⟩:=e;unfold gDz;rw [jV hc];rfl
   obtain⟨q,q1,q2,q3,q4⟩:=hLt hw hS (e:=⟨3,0,⟨0,0⟩,[e]⟩) rfl rfl y (by omega) (B:=50+22) (D:=100+22) (by omega) r2 r3 (by omega);obtain⟨p,p1,_,_⟩:=hLs hw hS r.1 0 (B:=50+22) (by omega) r2;rw [gW,jV e0];dsimp only;rw [jV f1,jV f2];simp only [beq_self_eq_true,Bool.not_true,gW];rw [jV d1];simp only [Bool.not_true,gW];rw [jV d2];simp only [Bool.not_true,hF0,gW];rw [jV ea,jV (q1 5000 (by omega)).1,jV (p1 5000 (by omega)).1];cases hr:r.2 with
   | false=>rfl
   | true=>
     have e4:=q4 hr 5000 (by omega);obtain rfl:p=q:=Option.some.inj ((p1 5000 (by omega)).1.symm.trans e4);simp only [beq_self_eq_true,Bool.not_true,jQ,gW];cases hp:p.2 with
     | false=>rfl
     | true=>
       simp only [Bool.not_true,gW];rw [jV (gR1 5000 p.1 (by omega))];rfl
end Go.Proofs.YtfpdlnkkcnmebaaGreat
namespace Go.Proofs.YtfpdlnkkcnmebaaGreat
open Go Go.Eng Go.RowKit
theorem hLw {H:Type}{enc:TypeId × Value→H}{P:Program}{w:World}{sp:Nat→Bool}{held:Bool}{T e:TypeId}{v:Value}{d:DataW H}{ps:List MemPlace}(hund:P.underlying T=some (.slice e))(he:P.underlying e=some (.int .u8))(hce:P.cellsOf e=1)(hbe:0 < P.bytesOf e)
  (h:DataW.Trod enc P w 0 sp held T v d ps) (hw:∀x∈d.weights P T,x≤reachBytes) (hna:∀cs,v≠.agg cs):∃code:LB,SVr (fun b=>b < w.heap.size) [] [] w (.d (.sl 1 (gD6 code))) v:=by
 obtain⟨fuel,h⟩:=h;have hc:v.cells=#[v]:=by cases v<;>first | rfl | (exact absurd rfl (hna _))
 rw [hc] at h
 suffices hs:∃code:LB,Rd (fun b=>b < w.heap.size) w (.sl 1 (gD6 code)) [v] by
  obtain⟨code,f⟩:=hs;refine⟨code,?_⟩;simp only [SVr];exact⟨[v],by simp [val,U.isSt],f⟩
 have hlenB:∀l:LB,(gD6 l).length=l.length:=fun l=>Enc.len l;cases fuel with
 | zero=>simp [DataW.trod] at h
 | succ fuel=>
   rcases DataW.trod_slice hund h with ⟨q,hx⟩ | ⟨a,len,cap,elems,rest,n,hn,q,hx,_,hlc,_,hel,hget,_,_⟩
   ·simp at q;subst q;exact⟨[],by simp only [Rd,gD6];exact⟨by simp [yY],none,0,rfl,.inl trivial⟩⟩
   ·obtain rfl:fuel=n:=by omega
    simp at q;subst q;simp only [Prod.mk.injEq] at hx;obtain⟨rfl,rfl⟩:=hx;simp only [DataW.weights,hund] at hw;have hlen:len≤big:=by
     have f:=hw _ (List.mem_cons_self);simp only [List.length_map] at f;refine hC9 (Nat.le_trans ?_ f);rw [hel]
     calc len≤len*P.bytesOf e:=Nat.le_mul_of_pos_right _ hbe
      _≤(len+rest.length)*P.bytesOf e:=Nat.mul_le_mul_right _ (by omega)
    have each:∀i,i < len→∃x:UInt8,(a.spot=none→At w a.block (a.off+i*1) [.int .u8 (x.toNat:Int)])∧(i=0→a.spot=none)∧a.block < w.heap.size:=by
     intro i hi;have f:=hget i hi;rw [List.getElem?_eq_getElem (by omega)] at f;cases hc:w.cells? 0 (a.add (i*P.cellsOf e)) (P.cellsOf e)with
     | none=>rw [hc] at f;simp at f
     | some cs=>
       rw [hc] at f;simp only [Option.bind_some] at f;rw [hce] at hc;obtain⟨k1,k2,y⟩:=hHt (by omega) hc;obtain⟨m,rfl,_,hwf⟩:=DataW.trod_int he f;simp [Lit.wf,IntKind.min,IntKind.max,IntKind.bits,IntKind.signed] at hwf;have hblk:(a.add (i*1)).block=a.block:=by unfold Addr.add;split<;>rfl
       refine⟨UInt8.ofNat m.toNat,fun hsp=>?_,fun q=>?_,?_⟩
       ·have hoff:(a.add (i*1)).off=a.off+i*1:=by unfold Addr.add;split<;>simp_all
        rw [hblk,hoff] at y;have e1:((UInt8.ofNat m.toNat).toNat:Int)=m:=by
         rw [UInt8.toNat_ofNat'];omega
        rw [e1];exact y
       ·subst q;rw [Nat.zero_mul] at k2;exact k2
       ·rw [←hblk];exact y.lt
    obtain⟨us,hul,hus⟩:=gQ7 len each;refine⟨us,?_⟩;simp only [Rd];refine⟨by rw [hlenB,hul];exact hlen,some a,cap - len,by rw [hlenB,hul,Nat.add_sub_cancel' hlc],?_⟩;by_cases q:us=[]
    ·subst q;exact .inl rfl
    ·have hpos:0 < len:=by rw [←hul];exact List.length_pos_iff.2 q
     obtain⟨u0,_,hsp,hblt⟩:=each 0 hpos;have hsp:=hsp rfl;refine .inr ⟨a.block,a.off,?_,hblt,RdE.mk (gD6 us) a.off (fun k u hk=>?_)⟩
     ·obtain⟨b,o,sp⟩:=a;simp only at hsp;subst hsp;rfl
     ·have hk2:k < us.length:=by rw [←hlenB];exact(List.getElem?_eq_some_iff.1 hk).1
      have hk3:=hMr (List.getElem?_eq_getElem hk2);rw [hk] at hk3;obtain rfl:=Option.some.inj hk3;obtain⟨k1,_,_⟩:=hus k _ (List.getElem?_eq_getElem hk2);exact⟨_,rfl,k1 hsp,by simp only [Rd]⟩
end Go.Proofs.YtfpdlnkkcnmebaaGreat
