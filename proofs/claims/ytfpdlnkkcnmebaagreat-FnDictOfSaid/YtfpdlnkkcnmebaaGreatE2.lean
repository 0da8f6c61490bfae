import Derived.Test.YtfpdlnkkcnmebaaGreatH2
set_option maxHeartbeats 4000000
set_option linter.unusedVariables false
set_option linter.unusedSimpArgs false
set_option linter.unusedSectionVars false
namespace Go.Proofs.YtfpdlnkkcnmebaaGreat
open Go Go.Eng
attribute [local irreducible] V VO VQ VY Quiet QR jI mK Rng qE qA pX
theorem hHm{w:gM}{o:gD}(h:gHo w o=none):∃z,gFb w o=some (z,false):=by
 unfold gFb;by_cases f:o.package < 0
 ·rw [decide_eq_true f];exact⟨_,rfl⟩
 rw [decide_eq_false f,gW];by_cases q:o.package≥(w.packages.length:Int)
 ·rw [decide_eq_true q];exact⟨_,rfl⟩
 rw [decide_eq_false q,gW];by_cases y:o.at_ < 0
 ·rw [decide_eq_true y];exact⟨_,rfl⟩
 rw [decide_eq_false y,gW];have hp:at? w.packages o.package=some (w.packages[o.package.toNat]'(by omega)):=by unfold at?;rw [if_pos (by omega)];exact List.getElem?_eq_getElem _
 rw [jV hp];by_cases h4:o.at_≥((w.packages[o.package.toNat]'(by omega)).instances.length:Int)
 ·rw [decide_eq_true h4];exact⟨_,rfl⟩
 exfalso;unfold gHo at h
 rw [jV hp] at h;unfold at? at h;rw [if_pos (by omega),List.getElem?_eq_getElem (by omega)] at h;cases h
theorem gYt(x:Int)(n:Nat)(hn:n≤1000):gH3 x 0 (IntKind.i64.wrap ((n:Int) - 1))=decide (0≤x∧x < n):=by
 unfold gH3 lt_;rw [zV _ (by omega) (by omega)];by_cases f:x≥0
 ·rw [decide_eq_true f,jQ];exact decide_eq_decide.2 (by omega)
 ·rw [decide_eq_false f,gW];exact(decide_eq_false (by omega)).symm
theorem hHn{w:gM}(hw:WD w)(o:gD):(∃z,gHo w o=none∧gCn w o=some (z,false))∨∃i,gHo w o=some i∧gCn w o=some (i,true):=by
 have hl:=hw.len;unfold gCn;rw [gYt _ _ (by omega)];by_cases f:0≤o.package∧o.package < (w.packages.length:Int)
 ·rw [decide_eq_true f,Bool.not_true,gW];have hp:at? w.packages o.package=some (w.packages[o.package.toNat]'(by omega)):=by unfold at?;rw [if_pos (by omega)];exact List.getElem?_eq_getElem _
  have hk:=(hw.pk _ (List.getElem_mem (by omega:o.package.toNat < w.packages.length))).1.1;rw [jV hp,gYt _ _ (by omega)];unfold gHo;rw [jV hp];by_cases h:0≤o.at_∧o.at_ < ((w.packages[o.package.toNat]'(by omega)).instances.length:Int)
  ·have hi:at? (w.packages[o.package.toNat]'(by omega)).instances o.at_=some ((w.packages[o.package.toNat]'(by omega)).instances[o.at_.toNat]'(by omega)):=by unfold at?;rw [if_pos (by omega)];exact List.getElem?_eq_getElem _
   rw [decide_eq_true h];simp only [Bool.not_true,bnd,gW];rw [hp];simp only;rw [hi];exact .inr ⟨_,rfl,rfl⟩
  ·rw [decide_eq_false h];refine .inl ⟨_,?_,rfl⟩;unfold at?;by_cases q:0≤o.at_
   ·rw [if_pos (by omega)];exact List.getElem?_eq_none (by omega)
   ·rw [if_neg (by omega)]
 ·rw [decide_eq_false f];refine .inl ⟨_,?_,rfl⟩
  have:at? w.packages o.package=none:=by
   unfold at?;by_cases q:0≤o.package
   ·rw [if_pos (by omega)];exact List.getElem?_eq_none (by omega)
   ·rw [if_neg (by omega)]
  unfold gHo;rw [this];rfl
theorem hL9{w:gM}{o:gD}{i:jD}(hi:gHo w o=some i)(hs:gCn w o=some (i,true))(ht:TrB w i.trait []):pI w o=some ([],0)∧pJ w o=some ([],0):=by
 unfold pI pJ;rw [jV (gMd hi),jV hs];simp only [Bool.not_true,gW,lt_];rw [ht.i,ht.s];exact⟨rfl,rfl⟩
theorem hOn{w:gM}{all:List gD}(hw:SW w all){o:gD}{i:jD}(hi:gHo w o=some i)(hs:gCn w o=some (i,true))(ht:TrB w i.trait [eqN])(f:i.where_=[])(hg:GI 0 i.head) :
  (∃n:Int,(n != 0)=true∧pI w o=some ([],n)∧pJ w o=some ([],n))∨∃e,EvS w all 12 ⟨eqN,i.head⟩ e∧pI w o=some ([e],0)∧pJ w o=some ([e],0):=by
 obtain⟨r,h,q,y⟩:=hJb hw 12 0 5000 5000 ⟨eqN,i.head⟩ (by omega) (by omega) (by omega) (.inl rfl) hg;have e1:gGv w [] ⟨eqN,i.head⟩=some (r.1,r.2):=by
  unfold gGv;rw [show gDh w []=some [] from rfl];simp only [bnd];rw [show vK 5000 w [] ⟨eqN,i.head⟩ 12=some r from h]
 have e2:gN4 w [] ⟨eqN,i.head⟩=some (r.1,r.2):=by
  unfold gN4;rw [show gJ2 w []=some ⟨w,[]⟩from rfl];simp only [bnd];rw [show vI 5000 ⟨w,[]⟩ ⟨eqN,i.head⟩ 0=some r from q]
 unfold pI pJ;rw [jV (gMd hi),jV hs];simp only [Bool.not_true,gW,lt_];rw [ht.i,ht.s,uP,uQ,f,jV e1,jV e2];cases hc:(r.2 != 0)with
 | true=>exact .inl ⟨r.2,hc,rfl,rfl⟩
 | false=>
   have hc0:r.2=0:=by simpa using hc
   refine .inr ⟨r.1,y hc0,?_⟩;simp only [gW];rw [qN (by simp)];exact⟨rfl,rfl⟩
theorem hOo{w:gM}(hw:WD w){all:List gD}(hS:SW w all)(o:gD):∃evs n,pI w o=some (evs,n)∧pJ w o=some (evs,n)∧∀e∈evs,∃g,EvS w all 12 g e:=by
 rcases hHn hw o with ⟨z,f,y⟩ | ⟨i,f,y⟩
 ·obtain⟨z',h3⟩:=hHm f;exact⟨[],1,by unfold pI;rw [jV h3];rfl,by unfold pJ;rw [jV y];rfl,by simp⟩
 ·have hI:=hw.look f;obtain⟨b,rest,hC⟩:=hw.core;have hnil:TrB w i.trait []→∃evs n,pI w o=some (evs,n)∧pJ w o=some (evs,n)∧∀e∈evs,∃g,EvS w all 12 g e:=fun ht=>by
   obtain⟨h,q⟩:=hL9 f y ht;exact⟨[],0,h,q,by simp⟩
  rcases hI.tr with ht | ht | ht | ⟨ht,hwh,hg⟩
  ·exact hnil (by rw [ht,hC];exact gRx (hFk b rest))
  ·exact hnil (by rw [ht,hC];exact gRx (hPr b rest))
  ·exact hnil (by rw [ht,hC];exact gRx (hPs b rest))
  ·have hT:TrB w i.trait [eqN]:=by rw [ht,hC];exact gRx (hK6 b rest)
   rcases hOn hS f y hT hwh hg with ⟨n,hn,h,q⟩ | ⟨ev,hev,h,q⟩
   ·exact⟨[],n,h,q,by simp⟩
   ·exact⟨[ev],0,h,q,fun e he=>by obtain rfl:=List.mem_singleton.1 he;exact⟨_,hev⟩⟩
def idI(l:List Int):List Int:=l
theorem hHo(l:List Int)(hl:l.length≤4294967296):mK Tryz.prog 65 [.L 1 (vM l)] [3] [.sl 1 (vM (idI l))]:=by
 refine qB Tryz.func65 rfl (by kernel_rfl) rfl (by simp) fun A _=>?_;refine goL ?_;refine hIo (fun b hb=>?_);refine goL ?_;cases b with
 | true=>
   have f:l=[]:=by
    cases l with
    | nil=>rfl
    | cons a l=>cases hb rfl
   subst f;refine hQk ?_;refine goL ?_;refine hV4 3 1 2 ?_;refine jF ?_;show qA _ _ _ [.sl 1 ([]:List U)] _ _;exact gNw
 | false=>
   refine hS8 ?_;refine vN ?_;refine goL ?_;refine gC1 ?_;refine goL ?_;refine gDl (l:=[]) (r:=l) (by simpa using hl) ?_;refine goL ?_;refine jF ?_;show qA _ _ _ [.sl 1 (vM ([]++l))] _ _;exact gNw
def gPo(h:gG→Option (gG))(f:(List gG)→Option (List gG))(q:gG):Option (gG):=
gd (q.steps.length≤4294967296) (lt_ (idI q.steps) fun y=>
bnd (f q.args) fun x3=>
(some (gG.mk q.kind q.at_ y x3)))
def gPp(f:gG→Option (gG)):Prop:=∀(h:gG){r:gG},f h=some r→mK Tryz.prog 34 [.d (jH h)] [3,59] [jH r]
def gQz(f:(List gG)→Option (List gG)):Prop:=∀(h:List gG){r:List gG},f h=some r→mK Tryz.prog 66 [.L 5 (jJ h)] [59] [.sl 5 (jJ r)]
theorem hHp{q}{f}(aa:gPp q)(y:gQz f)(a0:gG){r:gG}(h:gPo q f a0=some r):mK Tryz.prog 34 [.d (jH a0)] [3,59] [jH r]:=by
 obtain⟨aj,⟨ad,ae⟩,ab,ac⟩:=a0;unfold gPo at h;refine qB Tryz.func34 rfl (by kernel_rfl) rfl (by simp) fun A _=>?_;refine goL ?_;obtain⟨g1,h⟩:=pU h;obtain⟨x2,ah,h⟩:=uK h;have sx2:=hHo ab g1;rw [ah] at sx2;refine gE3 (sx2) ?_;refine goL ?_;obtain⟨x3,ai,h⟩:=gJ h;refine gE3 (y ac ai) ?_;refine goL ?_;refine jF ?_;obtain rfl:=Option.some.inj h;exact gNw
def gA3(f:gG→Option (gG)):List gG→Nat→(List gG)→Option (List gG)
 | [],h,q=>(some q)
 | y::xs,h,q=>bnd (f y) fun x8=>
gd (h < q.length) (
gA3 f xs (h+1) (q.set h x8))
def gNm(f:gG→Option (gG))(h:(List gG)→Option (List gG))(q:List gG):Option (List gG):=
gd (q.length≤4294967296) (
gA3 f q 0 (List.replicate q.length (gG.mk 0 (gD.mk 0 0) [] [])))
theorem hC4{f}{q}(y:gPp f)(ae:gQz q)(a0:List gG){r:List gG}(h:gNm f q a0=some r):mK Tryz.prog 66 [.L 5 (jJ a0)] [59] [.sl 5 (jJ r)]:=by
 unfold gNm at h;refine qB Tryz.func66 rfl (by kernel_rfl) rfl (by simp) fun A _=>?_;refine goL ?_;obtain⟨g1,h⟩:=pU h;refine hIc (gG.mk 0 (gD.mk 0 0) [] []) g1 ?_;refine goL ?_;refine noB ?_;refine gCw 9 (fun z5=>?_);refine mG (fun(y4:Nat)(y2:List gG)(v3:Nat)=>⟨[(3,.sl 0 v3),(9,.L 5 (jJ a0)),(10,.I (a0.length:Int)),(11,.N y4)],[.own 59 5 v3 (jJ y2)],Tryz.f66.ntmps⟩) (fun y4 y2 v3=>gA3 f (a0.drop y4) y4 y2=some r) (fun y4 y2 v3=>a0.length - y4) 0 (List.replicate a0.length (gG.mk 0 (gD.mk 0 0) [] [])) 0 eJ h ?_;rintro y4 y2 v3 h;refine goL ?_;refine kI (mR (fun c6=>?_) (fun c6=>?_))
 ·have aa:=vR c6;obtain⟨x7,av,ao⟩:=drop_at aa;rw [ao,gA3.eq_2] at h;obtain⟨ap,⟨ag,ah⟩,aq,ar⟩:=x7;refine noS ?_;refine kI (jA ?_);refine goL ?_;refine jP (jR y4 (gCh av)) ?_;obtain⟨⟨ai,⟨ab,ac⟩,aj,ak⟩,aw,h⟩:=gJ h;refine gE3 (y (gG.mk ap (gD.mk ag ah) aq ar) aw) ?_;obtain⟨g9,h⟩:=pU h;refine vP (hId y4 g9) ?_;refine hIf (gG.mk ai (gD.mk ab ac) aj ak) g9 ?_;refine goL ?_;refine jP (kD y4 (by omega)) ?_;exact⟨(y4+1),(y2.set y4 (gG.mk ai (gD.mk ab ac) aj ak)),v3,h,by omega,eJ⟩
 ·have aa:=vS c6;rw [jK aa,gA3.eq_1] at h;refine goX ?_;refine jF ?_;obtain rfl:=Option.some.inj h;exact gNw
mutual
def gL7:Nat→gG→Option (gG)
 | 0,_=>none
 | n+1,f=>gPo (gL7 n) (gK9 n) f
def gK9:Nat→(List gG)→Option (List gG)
 | 0,_=>none
 | n+1,f=>gNm (gL7 n) (gK9 n) f
end
theorem hC5:∀(n:Nat),gPp (gL7 n)∧gQz (gK9 n):=by
 intro n
 induction n with
 | zero=>exact⟨(by intro f r h;cases h),(by intro f r h;cases h)⟩
 | succ n ih=>
   obtain⟨ih0,ih1⟩:=ih;refine⟨(fun f r h=>hHp ih0 ih1 f h),(fun f r h=>hC4 ih0 ih1 f h)⟩
theorem hHq:∀(n:Nat),gPp (gL7 n):=fun n=>(hC5 n).1
def gCf(f:gG→Option (gG))(h:gG):List gG→(List gG)→Option (gG)
 | [],q=>(some (gG.mk h.kind h.at_ ([]++h.steps) q))
 | x7::xs,q=>bnd (f x7) fun y=>
gd (q.length+[y].length≤4294967296) (
gCf f h xs (q++[y]))
def gPq(f:gG→Option (gG))(h:gG):Option (gG):=
gd (([]:List Int).length+h.steps.length≤4294967296) (
gCf f h h.args [])
theorem hHr{f:gG→Option (gG)}(q:∀(x0:gG){r:gG},f x0=some r→mK Tryz.prog 36 [.d (jH x0)] [3,59] [jH r])(a0:gG){r:gG}(h:gPq f a0=some r):mK Tryz.prog 36 [.d (jH a0)] [3,59] [jH r]:=by
 obtain⟨aj,⟨aa,ab⟩,ak,ac⟩:=a0;unfold gPq at h;refine qB Tryz.func36 rfl (by kernel_rfl) rfl (by simp) fun A _=>?_;refine goL ?_;refine gC1 ?_;refine goL ?_;obtain⟨g1,h⟩:=pU h;refine gDl g1 ?_;refine goL ?_;refine gC1 ?_;refine goL ?_;refine noB ?_;refine yC 0 4 (fun z5=>?_);refine mG (fun(y4:Nat)(y2:List gG)(v3:Nat)=>⟨[(1,.ptr 0 0),(2,.ptr 1 0),(3,.sl 3 v3),(4,.N y4)],[.box [.I aj,.I aa,.I ab,.sl 2 (0+1),.L 5 (jJ ac)],.box [.I 0,.I 0,.I 0,.nilsl,.nilsl],.own 3 1 (0+1) (vM ([]++ak)),.own 59 5 v3 (jJ y2)],Tryz.f36.ntmps⟩) (fun y4 y2 v3=>gCf f (gG.mk aj (gD.mk aa ab) ak ac) (ac.drop y4) y2=some r) (fun y4 y2 v3=>ac.length - y4) 0 [] 0 eJ h ?_;rintro y4 y2 v3 h;refine goL ?_;refine mR (fun c6=>?_) (fun c6=>?_)
 ·have y:=vR c6;obtain⟨x7,ay,aq⟩:=drop_at y;rw [aq,gCf.eq_2] at h;obtain⟨ar,⟨ah,ai⟩,au,av⟩:=x7;refine noS ?_;refine kI (jA ?_);refine goL ?_;refine jP (jR y4 (gCh ay)) ?_;obtain⟨⟨al,⟨ad,ae⟩,am,an⟩,a3,h⟩:=gJ h;refine gE3 (q (gG.mk ar (gD.mk ah ai) au av) a3) ?_;refine wX (gG.mk al (gD.mk ad ae) am an) ?_;obtain⟨g9,h⟩:=pU h;refine gDl g9 ?_;refine goL ?_;refine jP (kD y4 (by omega)) ?_;exact⟨(y4+1),(y2++[(gG.mk al (gD.mk ad ae) am an)]),(v3+1),h,by omega,eJ⟩
 ·have y:=vS c6;rw [jK y,gCf.eq_1] at h;refine goX ?_;refine jF ?_;obtain rfl:=Option.some.inj h;exact gNw
def gPr:Nat→gG→Option (gG)
 | 0,_=>none
 | n+1,f=>gPq (gPr n) f
theorem hHs:∀(n:Nat)(f:gG){r:gG},gPr n f=some r→mK Tryz.prog 36 [.d (jH f)] [3,59] [jH r]:=by
 intro n
 induction n with
 | zero=>intro f r h;cases h
 | succ n ih=>intro f r h;exact hHr ih f h
def idX{α:Type}(x:α):α:=x
theorem gT1(l:List Int):(vM l).length=l.length:=Enc.len l
theorem gSz(l:List gG):(jJ l).length=l.length:=Enc.len l
theorem hKh{a:gG}{l:List gG}(h:a∈l):W (jH a)≤Ws (jJ l):=gQ6 (by rw [show jJ l=l.map jH from Enc.h l];exact List.mem_map_of_mem h)
theorem gNn{rec:gG→Option gG}:∀(xs:List gG)(k:Nat)(y:List gG),(∀a∈xs,rec a=some a)→y.length=k+xs.length→gA3 rec xs k y=some (y.take k++xs)
 | [],k,y,_,h=>by
   rw [gA3.eq_1,List.take_of_length_le (by simp at h;omega),List.append_nil]
 | x::xs,k,y,h,f=>by
   simp only [List.length_cons] at f;rw [gA3.eq_2,h x (by simp)];simp only [bnd];rw [qN (by omega),gNn xs (k+1) _ (fun a ha=>h a (by simp [ha])) (by simp;omega),gGx (by omega)];simp
theorem hOp:∀(n:Nat),(∀e:gG,2*W (jH e)+2≤n→W (jH e)≤4294967296→gL7 n e=some (idX e))∧(∀es:List gG,2*W (.sl 5 (jJ es))+1≤n→W (.sl 5 (jJ es))≤4294967296→gK9 n es=some (idX es))
 | 0=>⟨fun _ h=>by omega,fun _ h=>by omega⟩
 | n+1=>by
   obtain⟨f,q⟩:=hOp n;refine⟨fun e hn hw=>?_,fun es hn hw=>?_⟩
   ·obtain⟨a0,a1,a2,y⟩:=e;simp only [jH,W,Ws,gSz,gT1] at hn hw;rw [gL7.eq_2];unfold gPo;rw [qN (by show a2.length≤_;omega)];simp only [lt_,idI];rw [q y (by simp only [W,gSz];omega) (by simp only [W,gSz];omega)];rfl
   ·simp only [W,gSz] at hn hw;rw [gK9.eq_2];unfold gNm;rw [qN (by omega),gNn _ 0 _ (fun a ha=>?_) (by simp)]
    ·simp [idX]
    ·have:=hKh ha
     have hl:1≤es.length:=List.length_pos_of_mem ha;exact f a (by omega) (by omega)
theorem gO5{rec:gG→Option gG}(f:gG):∀(xs y:List gG),(∀a∈xs,rec a=some a)→y.length+xs.length≤4294967296→gCf rec f xs y=some (gG.mk f.kind f.at_ ([]++f.steps) (y++xs))
 | [],y,_,h=>by rw [gCf.eq_1,List.append_nil]
 | x::xs,y,h,q=>by
   simp only [List.length_cons] at q;rw [gCf.eq_2,h x (by simp)];simp only [bnd];rw [qN (by simp;omega),gO5 f xs _ (fun a ha=>h a (by simp [ha])) (by simp;omega)];simp
theorem hOq:∀(n:Nat)(e:gG),W (jH e)+1≤n→W (jH e)≤4294967296→gPr n e=some (idX e)
 | 0,_,h,_=>by omega
 | n+1,⟨q,a1,a2,f⟩,hn,hw=>by
   simp only [jH,W,Ws,gSz,gT1] at hn hw;rw [gPr.eq_2];unfold gPq;rw [qN (by show([]:List Int).length+a2.length≤_;simp;omega),gO5 _ _ [] (fun a ha=>?_) (by simp;omega)]
   ·rfl
   ·have:=hKh (l:=f) ha
    have hl:1≤f.length:=List.length_pos_of_mem ha;exact hOq n a (by omega) (by omega)
theorem gYu(x:gG)(h:W (jH x)≤4294967296):mK Tryz.prog 34 [.d (jH x)] [3,59] [jH (idX x)]:=hHq (2*W (jH x)+2) x ((hOp (2*W (jH x)+2)).1 x (Nat.le_refl _) h)
theorem gYv(x:gG)(h:W (jH x)≤4294967296):mK Tryz.prog 36 [.d (jH x)] [3,59] [jH (idX x)]:=hHs (W (jH x)+1) x (hOq (W (jH x)+1) x (Nat.le_refl _) h)
def qG(h:gM→gG→Int→Option (gG × Bool))(f:gM→(List gG)→gH→Option (gG × Bool))(a0:gM)(a1:gG)(a2:Int):Option (gG × Bool):=
(cnd (decide (a2 < 0)) (
(some ((gG.mk 0 (gD.mk 0 0) [] []),false))) (
(cnd (a1.kind==1) (
bnd (pI a0 a1.at_) fun y=>
lt_ ((cnd (y.2==0) ((decide (a2 < (y.1.length:Int)))) (false))) fun b4=>
(cnd b4 (
bnd (at? y.1 a2) fun x7=>
bnd (f a0 a1.args x7) fun x8=>
(some (x8.1,x8.2))) (
(some ((gG.mk 0 (gD.mk 0 0) [] []),false))))) (
(cnd (a1.kind==2) (
gd (W (jH a1)≤4294967296) (lt_ (idX a1) fun q=>
gd (q.steps.length+[a2].length≤4294967296) (
(some ((gG.mk q.kind q.at_ (q.steps++[a2]) q.args),true))))) (
(some ((gG.mk 0 (gD.mk 0 0) [] []),false))))))))
def yU(f:gM→gG→Int→Option (gG × Bool)):Prop:=∀(h:gM)(q:gG)(y:Int){r:gG × Bool},f h q y=some r→jI Tryz.prog 18 [.d (mD h),.d (jH q),.I y] [jH r.1,.b r.2]
def gEt(f:gM→(List gG)→gH→Option (gG × Bool)):Prop:=∀(h:gM)(q:List gG)(y:gH){r:gG × Bool},f h q y=some r→jI Tryz.prog 13 [.d (mD h),.L 5 (jJ q),.d (mZ y)] [jH r.1,.b r.2]
theorem gJv{f}{q}(aa:yU f)(y:gEt q)(a0:gM)(a1:gG)(a2:Int){r:gG × Bool}(h:qG f q a0 a1 a2=some r):jI Tryz.prog 18 [.d (mD a0),.d (jH a1),.I a2] [jH r.1,.b r.2]:=by
 obtain⟨ak⟩:=a0;obtain⟨ad,⟨ab,ac⟩,ae,ag⟩:=a1;unfold qG at h;refine SpI Tryz.func18 fun A _=>?_;refine goL ?_;refine kI (jA ?_);refine goC h ?_ ?_<;>intro c1 h
 ·refine goS ?_;refine vP (jN TBd.h TZ.h rfl (by repeat constructor)) ?_;exact goR h
 ·refine goC h ?_ ?_<;>intro c2 h
  ·refine goL ?_;obtain⟨⟨al,a9⟩,ay,h⟩:=gJ h;refine jP (gI (gLm _ _ ay)) ?_;obtain⟨b4,hb4,h⟩:=uK h;refine kH ⟨[(2,.I a2),(3,.ptr 0 0),(4,.ptr 1 0),(6,.ptr 2 0),(8,.L 5 (jE al)),(32,.B b4)],[bPr ak,.box [.I ad,.I ab,.I ac,.L 1 (vM ae),.L 5 (jJ ag)],.box [.I 0,.I 0,.I 0,.nilsl,.nilsl]],Tryz.f18.ntmps⟩ ?_ ?_
   ·exact gqZ 27 hb4
   refine goC h ?_ ?_<;>intro c6 h
   ·refine jS (P:=Tryz.prog) Mix.h [(0,true),(1,true),(2,true),(3,true),(4,true),(5,true),(6,true),(7,true),(8,true),(9,true),(10,false),(11,true)] (by kernel_rfl) ?_;refine goY ?_;obtain⟨x7,ah,h⟩:=gJ h;obtain⟨am,ah⟩:=gBm ah;obtain⟨ba,bb,⟨aq,ar⟩,bc⟩:=x7;refine jW rfl (uL am (gF7 ah)) ?_;refine goY ?_;obtain⟨⟨⟨au,⟨ai,aj⟩,av,aw⟩,bd⟩,a3,h⟩:=gJ h;refine jW rfl (gI (y _ _ _ a3)) ?_;refine goY ?_;refine mJ ?_;exact goR h
   ·refine goS ?_;refine vP (jN TBd.h TZ.h rfl (by repeat constructor)) ?_;exact goR h
  ·refine goC h ?_ ?_<;>intro c9 h
   ·refine goL ?_;obtain⟨a4,h⟩:=pU h;obtain⟨⟨a5,⟨an,ao⟩,a6,a7⟩,ap,h⟩:=uK h;have sx11:=gYu (gG.mk ad (gD.mk ab ac) ae ag) a4;rw [ap] at sx11;refine gE3 (sx11) ?_;refine goL ?_;refine wX a2 ?_;obtain⟨a8,h⟩:=pU h;refine gDl a8 ?_;refine goL ?_;refine mP 3 rfl rfl ?_;refine mP 4 rfl rfl ?_;refine jF ?_;cases h;exact uM
   ·refine goS ?_;refine vP (jN TBd.h TZ.h rfl (by repeat constructor)) ?_;exact goR h
def vG(f:gM→(List gG)→gH→Option (gG × Bool))(a0:gM)(a1:List gG)(a2:gH):List gH→(List gG)→Option (gG × Bool)
 | [],q=>(some ((gG.mk 1 a2.at_ [] q),true))
 | y::xs,q=>bnd (f a0 a1 y) fun h=>
(cnd (!h.2) (
(some ((gG.mk 0 (gD.mk 0 0) [] []),false))) (
gd (q.length+[h.1].length≤4294967296) (
vG f a0 a1 a2 xs (q++[h.1]))))
def uF(f:gM→gG→Int→Option (gG × Bool))(h:gM→(List gG)→gH→Option (gG × Bool))(a0:gM)(a1:List gG)(a2:gH):Option (gG × Bool):=
(cnd (a2.kind==2) (
lt_ ((cnd (decide (a2.n≥0)) ((decide (a2.n < (a1.length:Int)))) (false))) fun b2=>
(cnd b2 (
bnd (at? a1 a2.n) fun x5=>
gd (W (jH x5)≤4294967296) (lt_ (idX x5) fun x7=>
(some (x7,true)))) (
(some ((gG.mk 0 (gD.mk 0 0) [] []),false))))) (
(cnd (a2.kind==1) (
vG h a0 a1 a2 a2.args []) (
(cnd (a2.kind==3) (
(cnd ((a2.args.length:Int) != 1) (
(some ((gG.mk 0 (gD.mk 0 0) [] []),false))) (
bnd (at? a2.args 0) fun ab=>
bnd (h a0 a1 ab) fun q=>
(cnd q.2 (
bnd (f a0 q.1 a2.n) fun y=>
(some (y.1,y.2))) (
(some ((gG.mk 0 (gD.mk 0 0) [] []),false))))))) (
(cnd (a2.kind==4) (
(some ((gG.mk 2 (gD.mk 0 0) [] []),true))) (
(cnd (a2.kind==5) (
(some ((gG.mk 3 (gD.mk 0 0) [] []),true))) (
(some ((gG.mk 0 (gD.mk 0 0) [] []),false))))))))))))
theorem gQ0{f}{q}(aa:yU f)(y:gEt q)(a0:gM)(a1:List gG)(a2:gH){r:gG × Bool}(h:uF f q a0 a1 a2=some r):jI Tryz.prog 13 [.d (mD a0),.L 5 (jJ a1),.d (mZ a2)] [jH r.1,.b r.2]:=by
 obtain⟨an⟩:=a0;obtain⟨ao,ap,⟨ab,ac⟩,ad⟩:=a2;unfold uF at h;refine SpI Tryz.func13 fun A _=>?_;refine goL ?_;refine jA ?_;refine goC h ?_ ?_<;>intro c1 h
 ·refine goL ?_;obtain⟨b2,hb2,h⟩:=uK h;refine kH ⟨[(1,.L 5 (jJ a1)),(5,.ptr 1 0),(6,.ptr 2 0),(28,.B b2)],[bPr an,.box [.I ao,.I ap,.I ab,.I ac,.L 5 (jE ad)],.box [.I 0,.I 0,.I 0,.nilsl,.nilsl]],Tryz.f13.ntmps⟩ ?_ ?_
  ·exact gqZ 22 hb2
  refine goC h ?_ ?_<;>intro c4 h
  ·refine goL ?_;obtain⟨x5,av,h⟩:=gJ h;obtain⟨a9,av⟩:=gBm av;obtain⟨ba,⟨ar,au⟩,bb,bc⟩:=x5;refine jP (uL a9 (gCh av)) ?_;obtain⟨g6,h⟩:=pU h;obtain⟨⟨ca,⟨br,bt⟩,cb,cc⟩,bv,h⟩:=uK h;have sx7:=gYu (gG.mk ba (gD.mk ar au) bb bc) g6;rw [bv] at sx7;refine gE3 (sx7) ?_;refine goL ?_;refine mP 3 rfl rfl ?_;refine mP 4 rfl rfl ?_;refine jF ?_;cases h;exact uM
  ·refine goS ?_;refine vP (jN TBd.h TZ.h rfl (by repeat constructor)) ?_;exact goR h
 ·refine goC h ?_ ?_<;>intro c8 h
  ·refine goL ?_;refine yT (jN TBd.h TZ.h rfl (by repeat constructor)) ?_;refine noB ?_;refine qZ 59 5 3 4 rfl rfl (by repeat constructor) (by repeat constructor) (by repeat constructor) (by repeat constructor) ?_;show V _ _ _ _ _;refine gCw 41 (fun cg=>?_);refine mG (fun(ah:Nat)(y9:List gG)(am:Nat)=>⟨[(1,.L 5 (jJ a1)),(3,.ptr 0 0),(6,.ptr 2 0),(8,.ptr 3 0),(41,.L 5 (jE ad)),(42,.I (ad.length:Int)),(43,.N ah)],[bPr an,.box [.I ao,.I ap,.I ab,.I ac,.L 5 (jE ad)],.box [.I 0,.I 0,.I 0,.nilsl,.nilsl],.box [.I 1,.I ab,.I ac,.nilsl,.sl 4 am],.arr 59 5 am (jJ y9)],Tryz.f13.ntmps⟩) (fun ah y9 am=>vG q (gM.mk an) a1 (gH.mk ao ap (gD.mk ab ac) ad) (ad.drop ah) y9=some r) (fun ah y9 am=>ad.length - ah) 0 [] 0 eJ h ?_;rintro ah y9 am h;refine goL ?_;refine kI (mR (fun aw=>?_) (fun aw=>?_))
   ·have ai:=vR aw;obtain⟨bw,bd,ax⟩:=drop_at ai;rw [ax,vG.eq_2] at h;obtain⟨bx,bz,⟨be,bf⟩,b0⟩:=bw;refine noS ?_;refine kI (jA ?_);refine goL ?_;refine jP (jR ah (gF7 bd)) ?_;obtain⟨⟨⟨aj,⟨ae,ag⟩,ak,al⟩,b1⟩,bg,h⟩:=gJ h;refine jP (gI (y _ _ _ bg)) ?_;refine mR (fun ay=>?_) (fun ay=>?_)
    ·replace h:=kU ay h;refine goL ?_;refine vP (jN TBd.h TZ.h rfl (by repeat constructor)) ?_;exact goR h
    ·replace h:=kV ay h;refine goS ?_;refine uO (u:=(.st [.i .i64 aj,.st [.i .i64 ae,.i .i64 ag],.sl 1 (vM ak),.sl 5 (jJ al)])) ?_;obtain⟨b3,h⟩:=pU h;refine gAd b3 ?_;refine goL ?_;refine jP (kD ah (by omega)) ?_;exact⟨(ah+1),(y9++[(gG.mk aj (gD.mk ae ag) ak al)]),(am+1),h,by omega,eJ⟩
   ·have ai:=vS aw;rw [jK ai,vG.eq_1] at h;refine goX ?_;refine gV 4 rfl rfl ?_;refine jF ?_;cases h;exact uM
  ·refine goC h ?_ ?_<;>intro ch h
   ·refine goC h ?_ ?_<;>intro ci h
    ·refine goL ?_;refine vP (jN TBd.h TZ.h rfl (by repeat constructor)) ?_;exact goR h
    ·refine noS ?_;refine jS (P:=Tryz.prog) Mix.h [(0,true),(1,true),(2,true),(3,true),(4,true),(5,true),(6,true),(7,true),(8,true),(9,true),(10,false),(11,false),(12,true)] (by kernel_rfl) ?_;refine goY ?_;obtain⟨b4,aq,h⟩:=gJ h;obtain⟨a3,aq⟩:=gBm aq;obtain⟨b5,b6,⟨bh,bi⟩,b7⟩:=b4;refine jW rfl (uL a3 (gF7 aq)) ?_;refine goY ?_;obtain⟨⟨⟨bj,⟨a4,a5⟩,bk,bl⟩,b8⟩,bm,h⟩:=gJ h;refine jW rfl (gI (y _ _ _ bm)) ?_;refine goY ?_;refine mJ ?_;refine goC h ?_ ?_<;>intro cj h
     ·refine goL ?_;obtain⟨⟨⟨bn,⟨a6,a7⟩,bo,bp⟩,b9⟩,bq,h⟩:=gJ h;refine uN (gI (aa _ _ _ bq)) ?_;exact goR h
     ·refine goS ?_;refine vP (jN TBd.h TZ.h rfl (by repeat constructor)) ?_;exact goR h
   ·refine goC h ?_ ?_<;>intro ck h
    ·refine goL ?_;refine vP (jN TBd.h TZ.h rfl (by repeat constructor)) ?_;exact goR h
    ·refine goC h ?_ ?_<;>intro cl h
     ·refine goL ?_;refine vP (jN TBd.h TZ.h rfl (by repeat constructor)) ?_;exact goR h
     ·refine goS ?_;refine vP (jN TBd.h TZ.h rfl (by repeat constructor)) ?_;exact goR h
mutual
def kY:Nat→gM→gG→Int→Option (gG × Bool)
 | 0,_,_,_=>none
 | n+1,f,h,q=>qG (kY n) (uG n) f h q
def uG:Nat→gM→(List gG)→gH→Option (gG × Bool)
 | 0,_,_,_=>none
 | n+1,f,h,q=>uF (kY n) (uG n) f h q
end
theorem gD5:∀(n:Nat),yU (kY n)∧gEt (uG n):=by
 intro n
 induction n with
 | zero=>exact⟨(by intro f q y r h;cases h),(by intro f q y r h;cases h)⟩
 | succ n ih=>
   obtain⟨ih0,ih1⟩:=ih;refine⟨(fun f q y r h=>gJv ih0 ih1 f q y h),(fun f q y r h=>gQ0 ih0 ih1 f q y h)⟩
theorem gJw:∀(n:Nat),yU (kY n):=fun n=>(gD5 n).1
theorem gCg:∀(n:Nat),gEt (uG n):=fun n=>(gD5 n).2
def gB4(f:gG→gG→Option (Bool))(h:gG)(a1:gG):Option (Bool):=
bnd ((cnd (h.kind==a1.kind) ((cnd (h.at_.package==a1.at_.package && h.at_.at_==a1.at_.at_) (bnd (gBr h.steps a1.steps) fun q=>
(cnd q (bnd (jX h.args a1.args f) fun y=>
(some y)) ((some false)))) ((some false)))) ((some false)))) fun b1=>
(some b1)
theorem gNo{f:gG→gG→Option (Bool)}(q:∀(x0:gG)(x1:gG){r:Bool},f x0 x1=some r→jI Tryz.prog 16 [.d (jH x0),.d (jH x1)] [.b r])(a0:gG)(a1:gG){r:Bool}(h:gB4 f a0 a1=some r):jI Tryz.prog 16 [.d (jH a0),.d (jH a1)] [.b r]:=by
 obtain⟨ag,⟨y,aa⟩,ah,ad⟩:=a0;obtain⟨ai,⟨ab,ac⟩,aj,ae⟩:=a1;unfold gB4 at h;refine SpI Tryz.func16 fun A _=>?_;refine goL ?_;obtain⟨b1,hb1,h⟩:=gJ h;refine kH ⟨[(4,.B b1)],[.box [.I ag,.I y,.I aa,.L 1 (vM ah),.L 5 (jJ ad)],.box [.I ai,.I ab,.I ac,.L 1 (vM aj),.L 5 (jJ ae)]],Tryz.f16.ntmps⟩ ?_ ?_
 ·refine gqA 10 hb1 (fun c2 hb1=>?_);refine goL ?_;refine gqA 17 hb1 (fun c3 hb1=>?_);obtain⟨x4,an,hb1⟩:=gJ hb1;refine jP (gI (gPf _ _ an)) ?_;refine gqA 24 hb1 (fun c5 hb1=>?_);obtain⟨x6,ao,hb1⟩:=gJ hb1;refine jP (gI (uR ad ae (a2:=f) (fun _=>rfl) (fun x0 x1 r hr=>q x0 x1 hr) ao)) ?_;cases hb1;exact eJ
 exact goR h
def yE:Nat→gG→gG→Option (Bool)
 | 0,_,_=>none
 | n+1,f,h=>gB4 (yE n) f h
theorem gNp:∀(n:Nat)(f:gG)(q:gG){r:Bool},yE n f q=some r→jI Tryz.prog 16 [.d (jH f),.d (jH q)] [.b r]:=by
 intro n
 induction n with
 | zero=>intro f q r h;cases h
 | succ n ih=>intro f q r h;exact gNo ih f q h
end Go.Proofs.YtfpdlnkkcnmebaaGreat
