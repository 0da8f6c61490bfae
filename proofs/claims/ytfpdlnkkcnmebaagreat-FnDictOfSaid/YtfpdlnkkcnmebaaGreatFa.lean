import Derived.Test.YtfpdlnkkcnmebaaGreatB13
set_option maxHeartbeats 4000000
set_option linter.unusedVariables false
set_option linter.unusedSimpArgs false
set_option linter.unusedSectionVars false
namespace Go.Proofs.YtfpdlnkkcnmebaaGreat
open Go Go.Eng
attribute [local irreducible] V VO VQ VY Quiet QR jI mK Rng qE qA pX
theorem gOv(p t:gB)(hp:tnd p≤40000)(ht:tok t):gJe p t=some (match mtT p t [] with | some l=>(l,true) | none=>([],false)):=by
 obtain⟨q,y,f⟩:=(gVb 100000).2 [p] [t] [] (by simp only [gHs];omega) (fun b hb=>by simp at hb) (by simpa using ht) rfl (by simp [gHs];omega);have h0:((([p]:List gB).length:Int) !=(([t]:List gB).length:Int))=false:=by simp
 unfold gJe gJ4;rw [h0,gW,jV y];simp only [gW4] at f;cases hm:mtT p t [] with
 | none=>
   rw [hm] at f;have h:q.1=false:=f;rw [h];rfl
 | some l=>
   rw [hm] at f;have h:q=(true,l):=f;subst h;rfl
theorem gXs{p t:gB}{l:List gU}(hp:tnd p≤40000)(ht:tok t)(h:mtT p t []=some l):gEr p t=some (l,true):=by
 obtain⟨q,y,f⟩:=gSy p t hp ht;rw [h] at f;have f:q=(true,l):=f;subst f;exact y
def gHo(w:gM)(o:gD):Option jD:=bnd (at? w.packages o.package) fun p=>at? p.instances o.at_
theorem gLk{w:gM}{o:gD}{i:jD}(h:gHo w o=some i):∃p,at? w.packages o.package=some p∧at? p.instances o.at_=some i:=gJ h
theorem gMd{w:gM}{o:gD}{i:jD}(h:gHo w o=some i):gFb w o=some (i,true):=by
 obtain⟨p,f,q⟩:=gLk h;obtain⟨a1,a2⟩:=gBm f;obtain⟨b1,y⟩:=gBm q;have c1:=(List.getElem?_eq_some_iff.1 a2).1;have c2:=(List.getElem?_eq_some_iff.1 y).1;unfold gFb;rw [decide_eq_false (show ¬o.package < 0 by omega),decide_eq_false (show ¬o.package≥(w.packages.length:Int) by omega),decide_eq_false (show ¬o.at_ < 0 by omega),jV f,jV f,jV q,decide_eq_false (show ¬o.at_≥(p.instances.length:Int) by omega)];rfl
theorem hE6(f:Nat)(k:List gD→Option (List gD)):∀(l:List jD)(h:Nat)(q:List gD),gA8 f k l h q=uB f k l h q
 | [],_,_=>rfl
 | x::l,h,q=>by rw [gA8,uB,hE6 f k l]
theorem hE7:∀(l:List jZ)(f:Nat)(h:List gD),gAb l f h=qI l f h
 | [],_,_=>rfl
 | x::l,f,h=>by
   rw [gAb,qI,hE6];congr 1;funext y;exact hE7 l (f+1) y
def msp(a b:gB):Bool:=(mtT b a []).isSome && !(mtT a b []).isSome
theorem sMatches_eq'(p t:gB)(hp:tnd p≤40000)(ht:tok t):gG1 p t=some (mtT p t []).isSome:=by
 unfold gG1;rw [jV (gOv p t hp ht)];cases mtT p t []<;>rfl
theorem hM8{a b:gB}(ha:tok a)(hb:tok b)(sa:tnd a≤40000)(sb:tnd b≤40000):gLh a b=some (msp a b):=by
 unfold gLh msp;rw [jV (gMy b a sb ha)];cases (mtT b a []).isSome with
 | false=>rfl
 | true=>rw [jQ,jV (gMy a b sa hb)];rfl
theorem hM9{a b:gB}(ha:tok a)(hb:tok b)(sa:tnd a≤40000)(sb:tnd b≤40000):gCu a b=some (msp a b):=by
 unfold gCu yS msp;rw [jV (jV (sMatches_eq' b a sb ha))];cases (mtT b a []).isSome with
 | false=>rfl
 | true=>rw [jQ,jV (jV (sMatches_eq' a b sa hb))];rfl
def hd2(w:gM)(o:gD):gB:=match gHo w o with | some i=>i.head | none=>⟨0,[],[]⟩
def hAz(w:gM)(g:gP)(o:gD):Bool:=match gHo w o with | some i=>(i.trait==g.trait) && (mtT i.head g.type_ []).isSome | none=>false
structure WI (w:gM)(all:List gD):Prop where
 al:gCt w=some all
 len:all.length≤4000
 look:∀o∈all,∃i,gHo w o=some i∧tok i.head∧tnd i.head≤40000
section
variable {w:gM}{all:List gD}(hw:WI w all)
include hw
theorem gZf(g:gP)(ht:tok g.type_):∀(l acc:List gD),(∀o∈l,o∈all)→acc.length+l.length≤4294967296→mX w g l acc=some (acc++l.filter (hAz w g))
 | [],acc,_,_=>by simp [mX]
 | o::l,acc,h,hl=>by
   simp only [List.length_cons] at hl;obtain⟨i,f,h2,q⟩:=hw.look o (h o (by simp));obtain⟨p,y,h5⟩:=gLk f;have ih:∀acc',acc'.length≤acc.length+1→mX w g l acc'=some (acc'++l.filter (hAz w g)):=fun acc' ha=>gZf g ht l acc' (fun o ho=>h o (by simp [ho])) (by omega);have hs:hAz w g o=((i.trait==g.trait) && (mtT i.head g.type_ []).isSome):=by unfold hAz;rw [f]
   rw [mX,jV y,jV h5,List.filter_cons,hs];cases ht1:(i.trait==g.trait)with
   | false=>simp only [gW,bnd,Bool.false_and];rw [ih acc (by omega)];rfl
   | true=>
     rw [jQ,jV (jV (sMatches_eq' i.head g.type_ q ht)),Bool.true_and];cases (mtT i.head g.type_ []).isSome with
     | false=>rw [gW,ih acc (by omega)];rfl
     | true=>rw [jQ,qN (by simp;omega),ih _ (by simp)];simp
theorem hIz(g:gP)(ht:tok g.type_):yB w g=some (all.filter (hAz w g)):=by
 unfold yB
 have:=hw.len
 rw [jV hw.al,gZf hw g ht all [] (fun o ho=>ho) (by simp;omega)];rfl
theorem hI3(g:gP)(ht:tok g.type_):gQv w g=some (all.filter (hAz w g)):=by
 have hA:gI8 w=some all:=by
  unfold gI8;rw [hE7];exact hw.al
 have hd:∀o∈all,gIu o w g=some (!hAz w g o):=by
  intro o ho;obtain⟨i,f,q,h⟩:=hw.look o ho;unfold gIu hAz;rw [jV (gMd f),f];simp only;cases (i.trait==g.trait)with
  | false=>rfl
  | true=>
    simp only [Bool.not_true,gW,Bool.true_and];rw [gMy i.head g.type_ h ht];rfl
 unfold gQv;rw [jV hA,hPp all hw.len hd];simp only [bnd,Bool.not_not]
def hE8(w:gM)(cs:List gD)(i:jD):Bool:=cs.all (fun o=> !msp (hd2 w o) i.head)
omit hw in
theorem gRt(i:jD)(k:Bool→Option (gD × Int)):∀(l:List gD),(∀o∈l,∃j,gHo w o=some j)→qR w i k l false=k false
 | [],_=>rfl
 | o::l,h=>by
   obtain⟨j,f⟩:=h o (by simp);obtain⟨p,q,y⟩:=gLk f;rw [qR,jV q,jV y,gW];exact gRt i k l (fun o ho=>h o (by simp [ho]))
theorem gZg{i:jD}(hi:tok i.head)(si:tnd i.head≤40000)(k:Bool→Option (gD × Int)):∀(l:List gD),(∀o∈l,o∈all)→qR w i k l true=k (hE8 w l i)
 | [],_=>rfl
 | o::l,h=>by
   obtain⟨j,f,y,h3⟩:=hw.look o (h o (by simp));obtain⟨p,h4,h5⟩:=gLk f;have e:hd2 w o=j.head:=by unfold hd2;rw [f]
   have eb:hE8 w (o::l) i=(!msp j.head i.head && hE8 w l i):=by unfold hE8;rw [List.all_cons,e]
   rw [qR,jV h4,jV h5,jQ,hM9 y hi h3 si,eb];simp only [bnd];cases msp j.head i.head with
   | true=>exact gRt i k l (fun o ho=>by obtain⟨j,q,_⟩:=hw.look o (h o (by simp [ho]));exact⟨j,q⟩)
   | false=>exact gZg hi si k l (fun o ho=>h o (by simp [ho]))
theorem hI4{i:jD}(hi:tok i.head)(si:tnd i.head≤40000)(l:List gD)(h:∀o∈l,o∈all):gCj l (fun z=>gLi z w i)=some (!hE8 w l i):=by
 have hq:∀o∈l,gLi o w i=some (msp (hd2 w o) i.head):=fun o ho=>by
  obtain⟨j,f,q,y⟩:=hw.look o (h o ho);have e:hd2 w o=j.head:=by unfold hd2;rw [f]
  unfold gLi;rw [jV (gMd f),e,jV (hM8 q hi y si)]
 have eb:(!hE8 w l i)=l.any (fun o=>msp (hd2 w o) i.head):=by
  unfold hE8;rw [List.not_all_eq_any_not];simp
 unfold gCj gD4;rcases gGj (p:=fun z=>gLi z w i) l 0 hq with ⟨f,_,y⟩ | ⟨h0,n,f,q,_⟩
 ·rw [f,eb,y];rfl
 ·rw [q,eb,h0];simp only [bnd];rw [show decide (((0+n:Nat):Int)≥0)=true from decide_eq_true (by omega)]
def hK5(w:gM)(cs:List gD)(gr:Bool):List gD→gD × Int
 | []=>(⟨0,0⟩,1)
 | o::l=>match gHo w o with
   | some i=>cnd (hE8 w cs i) (cnd (i.default_ && !gr) (⟨0,0⟩,2) (o,0)) (hK5 w cs gr l)
   | none=>(⟨0,0⟩,1)
theorem hE9{g:gP}{gr:Bool}(hg:gCv g.type_=some gr)(cs:List gD)(hc:∀o∈cs,o∈all):∀(l:List gD),(∀o∈l,o∈all)→uI w g cs l=some (hK5 w cs gr l)
 | [],_=>rfl
 | o::l,h=>by
   obtain⟨i,f,q,y⟩:=hw.look o (h o (by simp));obtain⟨p,h4,h5⟩:=gLk f;have ih:=hE9 hg cs hc l (fun o ho=>h o (by simp [ho]));rw [uI,jV h4,jV h5,gZg hw q y _ cs hc,hK5,f];simp only;cases hE8 w cs i with
   | false=>simp only [gW,bnd];exact ih
   | true=>
     simp only [jQ];cases i.default_ with
     | false=>rfl
     | true=>simp only [jQ];rw [hg];cases gr<;>rfl
theorem hFa{g:gP}{gr:Bool}(hg:gDx g.type_=some gr)(cs:List gD)(hc:∀o∈cs,o∈all):∀(l:List gD),(∀o∈l,o∈all)→gCk w g cs l=some (hK5 w cs gr l)
 | [],_=>rfl
 | o::l,h=>by
   obtain⟨i,f,q,y⟩:=hw.look o (h o (by simp));have ih:=hFa hg cs hc l (fun o ho=>h o (by simp [ho]));rw [gCk,jV (gMd f),jV (hI4 hw q y cs hc),hK5,f];simp only;cases hE8 w cs i with
   | false=>simp only [Bool.not_false,jQ,gW];exact ih
   | true=>
     simp only [Bool.not_true,gW,jQ];cases i.default_ with
     | false=>rfl
     | true=>simp only [jQ];rw [hg];cases gr<;>rfl
def hA4(w:gM)(all:List gD)(gr:Bool)(g:gP):gD × Int:=hK5 w (all.filter (hAz w g)) gr (all.filter (hAz w g))
theorem hFb{g:gP}(ht:tok g.type_){gr:Bool}(hg:gCv g.type_=some gr):gAr w g=some (hA4 w all gr g):=by
 have hc:∀o∈all.filter (hAz w g),o∈all:=fun o ho=>(List.mem_filter.1 ho).1;unfold gAr;rw [jV (hIz hw g ht),hE9 hw hg _ hc _ hc];rfl
theorem hNa{g:gP}(ht:tok g.type_){gr:Bool}(hg:gDx g.type_=some gr):gHn w g=some (hA4 w all gr g):=by
 have hc:∀o∈all.filter (hAz w g),o∈all:=fun o ho=>(List.mem_filter.1 ho).1;unfold gHn;rw [jV (hI3 hw g ht),hFa hw hg _ hc _ hc];rfl
omit hw in
theorem gZh{cs:List gD}{gr:Bool}{o:gD}:∀{l:List gD},hK5 w cs gr l=(o,0)→o∈l
 | [],h=>by cases h
 | a::l,h=>by
   rw [hK5] at h;cases hl:gHo w a with
   | none=>rw [hl] at h;cases h
   | some i=>
     rw [hl] at h;simp only at h;cases hb:hE8 w cs i with
     | false=>rw [hb,gW] at h;exact List.mem_cons_of_mem _ (gZh h)
     | true=>
       rw [hb,jQ] at h;cases hd:(i.default_ && !gr)with
       | true=>rw [hd] at h;cases h
       | false=>rw [hd] at h;cases h;exact List.mem_cons_self
omit hw in
theorem hFc{g:gP}{gr:Bool}{o:gD}(h:hA4 w all gr g=(o,0)):o∈all∧∃i l,gHo w o=some i∧i.trait=g.trait∧mtT i.head g.type_ []=some l:=by
 obtain⟨q,f⟩:=List.mem_filter.1 (gZh h);refine⟨q,?_⟩;unfold hAz at f;cases hl:gHo w o with
 | none=>rw [hl] at f;cases f
 | some i=>
   rw [hl] at f;simp only [Bool.and_eq_true,beq_iff_eq] at f;cases hm:mtT i.head g.type_ [] with
   | none=>rw [hm] at f;cases f.2
   | some l=>exact⟨i,l,rfl,f.1,hm⟩
end
def gHp(a1:LB)(h:Nat)(f:pM × Int × Bool):List pM→pM × Int × Bool
 | []=>f
 | q::xs=>(cnd (q.name==a1) (
(q,(h:Int),true)) (
gHp a1 h f xs ))
def gFf(a1:LB):List jZ→Nat→pM × Int × Bool
 | [],f=>((pM.mk [] [] false false []),0,false)
 | h::xs,f=>gHp a1 f (gFf a1 xs (f+1)) h.traits
def gAp(f:gM)(a1:LB):pM × Int × Bool:=
gFf a1 f.packages 0
theorem gP1(a0:gM)(a1:LB):jI Tryz.prog 21 [.d (mD a0),.S a1] [gLb (gAp a0 a1).1,.i .i64 (gAp a0 a1).2.1,.b (gAp a0 a1).2.2]:=by
 obtain⟨r,h⟩:∃r,gAp a0 a1=r:=⟨_,rfl⟩
 rw [h];obtain⟨f⟩:=a0;unfold gAp at h;refine SpI Tryz.func21 fun A _=>?_;refine goL ?_;refine noB ?_;refine gCw 12 (fun z2=>?_);refine pY (fun(y:Nat)=>⟨[(1,.S a1),(4,.ptr 1 0),(12,.L 6 (mE f)),(13,.I (f.length:Int)),(14,.N y)],[bPr f,.box [.S [],.nilsl,.B false,.B false,.nilsl]],Tryz.f21.ntmps⟩) (fun y=>gFf a1 (f.drop y) y=r) (fun y=>f.length - y) 0 eJ h ?_;rintro y h;refine goL ?_;refine kI (mR (fun c3=>?_) (fun c3=>?_))
 ·have aa:=vR c3;obtain⟨x4,an,ae⟩:=drop_at aa;rw [ae,gFf.eq_2] at h;obtain⟨ag,ah,q,ai,aj,ak⟩:=x4;refine noS ?_;refine kI (jA ?_);refine goL ?_;refine jP (jR y (gAc an)) ?_;refine noB ?_;refine gCw 20 (fun z6=>?_);refine pY (fun(y5:Nat)=>⟨[(1,.S a1),(4,.ptr 1 0),(7,.N y),(12,.L 6 (mE f)),(13,.I (f.length:Int)),(14,.N y),(20,.L 5 (yM q)),(21,.I (q.length:Int)),(22,.N y5)],[bPr f,.box [.S [],.nilsl,.B false,.B false,.nilsl],bPk ag ah q ai aj ak],Tryz.f21.ntmps⟩) (fun y5=>gHp a1 y (gFf a1 (f.drop (y+1)) (y+1)) (q.drop y5)  =r) (fun y5=>q.length - y5) 0 eJ h ?_;rintro y5 h;refine goL ?_;refine kI (mR (fun c7=>?_) (fun c7=>?_))
  ·have ab:=vR c7;obtain⟨x8,ap,al⟩:=drop_at ab;rw [al,gHp.eq_2] at h;obtain⟨ar,au,av,aw,ax⟩:=x8;refine noS ?_;refine kI (jA ?_);refine goL ?_;refine jP (jR y5 (gVh ap)) ?_;refine mR (fun c9=>?_) (fun c9=>?_)
   ·replace h:=kU c9 h;refine goL ?_;refine jF ?_;subst h;exact uM
   ·replace h:=kV c9 h;refine goS ?_;refine jP (kD y5 (by omega)) ?_;exact⟨(y5+1),h,by omega,eJ⟩
  ·have ab:=vS c7;rw [jK ab,gHp.eq_1] at h;refine goX ?_;refine jP (kD y (by omega)) ?_;exact⟨(y+1),h,by omega,eJ⟩
 ·have aa:=vS c3;rw [jK aa,gFf.eq_1] at h;refine goX ?_;refine yT (jN TBd.h TZ.h rfl (by repeat constructor)) ?_;refine jF ?_;subst h;exact uM
def gGa(f:gM→LS→LB→Option LS)(w:gM):LS→LS→Option LS
 | [],h=>(some h)
 | q::xs,h=>bnd ((cnd (!(gD1 h q)) (
gd (h.length+[q].length≤4294967296) (
bnd (f w (h++[q]) q) fun y=>
(some y))) (
(some h)))) fun b8=>
gGa f w xs b8
def gRu(f:gM→LS→LB→Option LS)(w:gM)(h:LS)(name:LB):Option LS:=
lt_ (gAp w name) fun q=>
gGa f w q.1.supertraits h
theorem hFd{q:gM→LS→LB→Option LS}(y:∀(x0:gM)(x1:LS)(x2:LB)(w0:Nat){r:LS},q x0 x1 x2=some r→Go.Eng.Spec Tryz.prog 149 [.d (mD x0),.sl 0 w0,.S x2] [.arr 9 1 w0 (gT x1)] (fun sv Lo=>∃v'0,sv=.sl 0 v'0∧Lo=[.arr 9 1 v'0 (gT r)]))(w:gM)(l0:LS)(name:LB)(v0:Nat){r:LS}(h:gRu q w l0 name=some r):Go.Eng.Spec Tryz.prog 149 [.d (mD w),.sl 0 v0,.S name] [.arr 9 1 v0 (gT l0)] (fun sv Lo=>∃v'0,sv=.sl 0 v'0∧Lo=[.arr 9 1 v'0 (gT r)]):=by
 obtain⟨ag⟩:=w;unfold gRu at h;refine kJ 1 Tryz.func149 rfl (by kernel_rfl) rfl rfl fun A _=>?_;refine goL ?_;obtain⟨⟨⟨aa,f,ab,ac,ad⟩,a6,a7⟩,au,h⟩:=uK h;have sx1:=gP1 (gM.mk ag) name;rw [au] at sx1;refine jP (gI (sx1)) ?_;refine noB ?_;refine gCw 20 (fun z5=>?_);refine mG (fun(y4:Nat)(y2:LS)(v3:Nat)=>⟨[(1,.sl 0 v3),(3,.ptr 1 0),(20,.L 1 (gT f)),(21,.I (f.length:Int)),(22,.N y4)],[.arr 9 1 v3 (gT y2),bPr ag,bTr aa f ab ac ad],Tryz.f149.ntmps⟩) (fun y4 y2 v3=>gGa q (gM.mk ag) (f.drop y4) y2=some r) (fun y4 y2 v3=>f.length - y4) 0 l0 v0 eJ h ?_;rintro y4 y2 v3 h;refine goL ?_;refine kI (mR (fun c6=>?_) (fun c6=>?_))
 ·have ae:=vR c6;obtain⟨x7,aw,an⟩:=drop_at ae;rw [an,gGa.eq_2] at h;refine noS ?_;refine kI ?_;obtain⟨b8,hb8,h⟩:=gJ h;refine gIx (fun v9=>⟨[(1,.sl 0 v9),(3,.ptr 1 0),(20,.L 1 (gT f)),(21,.I (f.length:Int)),(22,.N y4)],[.arr 9 1 v9 (gT b8),bPr ag,bTr aa f ab ac ad],Tryz.f149.ntmps⟩) ?_ (fun v9=>?_)
  ·refine jA ?_;refine goL ?_;refine jP (jR y4 (gO7 aw)) ?_;refine yT (gUa (gR2 y2 x7)) ?_;refine mR (fun ak=>?_) (fun ak=>?_)
   ·replace hb8:=kU ak hb8;refine yL (P:=Tryz.prog) Mix.h [(0,true),(1,true),(2,true),(5,true),(3,false),(4,false),(6,false),(7,true)] (by kernel_rfl) ?_;refine goY ?_;refine kT (T:=34) (us:=gT [x7]) ?_;obtain⟨ax,hb8⟩:=pU hb8;refine kN (T:=34) ax ?_;obtain⟨ay,ao,hb8⟩:=gJ hb8;refine gVq [0] (y (gM.mk ag) (y2++[x7]) x7 (v3+1) ao) ?_;rintro _ _ ⟨al,rfl,rfl⟩;refine gS6 (sv:=.sl 0 al) (L':=[.arr 9 1 al (gT ay),bPr ag,bTr aa f ab ac ad,.arr 9 1 0 (gT [x7])]) (by repeat(first | exact vU.nil | (apply vU.keep;focus ((repeat constructor);done)) | (apply vU.dep;focus kernel_rfl))) ?_;refine goY ?_;refine mJ ?_;refine goL ?_;cases hb8;exact⟨al,eJ⟩
   ·replace hb8:=kV ak hb8;refine vN ?_;cases hb8;exact⟨v3,eJ⟩
  refine goL ?_;refine jP (kD y4 (by omega)) ?_;exact⟨(y4+1),b8,v9,h,by omega,eJ⟩
 ·have ae:=vS c6;rw [jK ae,gGa.eq_1] at h;refine goX ?_;refine jF ?_;obtain rfl:=Option.some.inj h;exact gAg [.sl 0 v3] _ ⟨v3,rfl,rfl⟩
def gRv:Nat→gM→LS→LB→Option LS
 | 0,_,_,_=>none
 | n+1,f,h,q=>gRu (gRv n) f h q
theorem hFe:∀(n:Nat)(f:gM)(q:LS)(y:LB)(w0:Nat){r:LS},gRv n f q y=some r→Go.Eng.Spec Tryz.prog 149 [.d (mD f),.sl 0 w0,.S y] [.arr 9 1 w0 (gT q)] (fun sv Lo=>∃v'0,sv=.sl 0 v'0∧Lo=[.arr 9 1 v'0 (gT r)]):=by
 intro n
 induction n with
 | zero=>intro f q y w0 r h;cases h
 | succ n ih=>intro f q y w0 r h;exact hFd ih f q y w0 h
def gTa(a:gM)(b:LB):Option LS:=gRv 5000 a [] b
theorem gVz(a:gM)(b:LB){r:LS}(h:gTa a b=some r):Go.Eng.Spec Tryz.prog 149 [.d (.st [.sl 6 (mE a.packages)]),.nilsl,.S b] [] (fun sv Lo=>sv=.L 1 (gT r)∧Lo=[]):=Spec.nilF1 (hFe 5000 a [] b 0 h)
def gRw(f:gM)(a1:LB):Option LS:=
bnd (gTa f a1) fun h=>
(some h)
theorem hFh(q:gM)(a1:LB){r:LS}(h:gRw q a1=some r):jI Tryz.prog 105 [.d (mD q),.S a1] [.sl 1 (gT r)]:=by
 obtain⟨f⟩:=q;unfold gRw at h;refine SpI Tryz.func105 fun A _=>?_;refine goL ?_;obtain⟨x1,y,h⟩:=gJ h;refine gBz [] (gVz (gM.mk f) a1 y) ?_;rintro _ _ ⟨rfl,rfl⟩;show VO _ _ _ _ ⟨(_,.L 1 (gT x1))::_,[bPr f],_⟩ _;exact goR h
def yR(f:gM→LB→LB→Int→Option (List Int × Bool))(y:gM)(a2:LB)(a3:Int):LS→Nat→Option (List Int × Bool)
 | [],h=>(some ([],false))
 | x7::xs,h=>bnd (f y x7 a2 (IntKind.i64.wrap (a3 - 1))) fun q=>
(cnd q.2 (
gd ([(h:Int)].length+q.1.length≤4294967296) (
(some (([(h:Int)]++q.1),true)))) (
yR f y a2 a3 xs (h+1)))
def gFg(f:gM→LB→LB→Int→Option (List Int × Bool))(h:gM)(a1:LB)(a2:LB)(q:Int):Option (List Int × Bool):=
(cnd (a1==a2) (
(some ([],true))) (
(cnd (q==0) (
(some ([],false))) (
lt_ (gAp h a1) fun y=>
yR f h a2 q y.1.supertraits 0))))
theorem gOw{f:gM→LB→LB→Int→Option (List Int × Bool)}(q:∀(x0:gM)(x1:LB)(x2:LB)(x3:Int){r:List Int × Bool},f x0 x1 x2 x3=some r→jI Tryz.prog 115 [.d (mD x0),.S x1,.S x2,.I x3] [.sl 1 (vM r.1),.b r.2])(a0:gM)(a1:LB)(a2:LB)(a3:Int){r:List Int × Bool}(h:gFg f a0 a1 a2 a3=some r):jI Tryz.prog 115 [.d (mD a0),.S a1,.S a2,.I a3] [.sl 1 (vM r.1),.b r.2]:=by
 obtain⟨ab⟩:=a0;unfold gFg at h;refine SpI Tryz.func115 fun A _=>?_;refine goC h ?_ ?_<;>intro c1 h
 ·refine goL ?_;refine gC1 ?_;refine goL ?_;refine mP 1 rfl rfl ?_;refine jF ?_;cases h;exact uM
 ·refine goS ?_;refine mR (fun c2=>?_) (fun c2=>?_)
  ·replace h:=kU c2 h;exact goR h
  ·replace h:=kV c2 h;refine goS ?_;obtain⟨⟨⟨ad,y,ae,ag,ah⟩,ay,a4⟩,am,h⟩:=uK h;have sx3:=gP1 (gM.mk ab) a1;rw [am] at sx3;refine jP (gI (sx3)) ?_;refine noB ?_;refine gCw 31 (fun z5=>?_);refine pY (fun(y4:Nat)=>⟨[(2,.S a2),(3,.I a3),(4,.ptr 0 0),(31,.L 1 (gT y)),(32,.I (y.length:Int)),(33,.N y4)],[bPr ab,bTr ad y ae ag ah],Tryz.f115.ntmps⟩) (fun y4=>yR f (gM.mk ab) a2 a3 (y.drop y4) y4=some r) (fun y4=>y.length - y4) 0 eJ h ?_;rintro y4 h;refine goL ?_;refine kI (mR (fun c6=>?_) (fun c6=>?_))
   ·have aa:=vR c6;obtain⟨x7,ao,ai⟩:=drop_at aa;rw [ai,yR.eq_2] at h;refine noS ?_;refine kI (jA ?_);refine goL ?_;refine jP (jR y4 (gO7 ao)) ?_;refine uN (pV) ?_;obtain⟨⟨a5,a6⟩,ap,h⟩:=gJ h;refine jP (gI (q _ _ _ _ ap)) ?_;refine mR (fun c9=>?_) (fun c9=>?_)
    ·replace h:=kU c9 h;refine goL ?_;refine wX (y4:Int) ?_;refine goL ?_;obtain⟨ar,h⟩:=pU h;refine gDl ar ?_;refine goL ?_;refine mP 2 rfl rfl ?_;refine jF ?_;cases h;exact uM
    ·replace h:=kV c9 h;refine goS ?_;refine jP (kD y4 (by omega)) ?_;exact⟨(y4+1),h,by omega,eJ⟩
   ·have aa:=vS c6;rw [jK aa,yR.eq_1] at h;refine goX ?_;refine jF ?_;cases h;exact uM
def gFh:Nat→gM→LB→LB→Int→Option (List Int × Bool)
 | 0,_,_,_,_=>none
 | n+1,f,h,q,y=>gFg (gFh n) f h q y
theorem gOx:∀(n:Nat)(f:gM)(q:LB)(y:LB)(x3:Int){r:List Int × Bool},gFh n f q y x3=some r→jI Tryz.prog 115 [.d (mD f),.S q,.S y,.I x3] [.sl 1 (vM r.1),.b r.2]:=by
 intro n
 induction n with
 | zero=>intro f q y x3 r h;cases h
 | succ n ih=>intro f q y x3 r h;exact gOw ih f q y x3 h
def wH(h:gM)(a1:LB)(a2:LB):Option (List Int × Bool):=
bnd (gFh 5000 h a1 a2 8) fun f=>
(some (f.1,f.2))
theorem gJb(f:gM)(a1:LB)(a2:LB){r:List Int × Bool}(h:wH f a1 a2=some r):jI Tryz.prog 74 [.d (mD f),.S a1,.S a2] [.sl 1 (vM r.1),.b r.2]:=by
 obtain⟨y⟩:=f;unfold wH at h;refine SpI Tryz.func74 fun A _=>?_;refine goL ?_;obtain⟨⟨aa,ab⟩,q,h⟩:=gJ h;refine uN (gI (gOx _ _ _ _ _ q)) ?_;exact goR h
def gAe(f:gH→Option (gH)):List gH→Nat→(List gH)→Option (List gH)
 | [],h,q=>(some q)
 | y::xs,h,q=>bnd (f y) fun x8=>
gd (h < q.length) (
gAe f xs (h+1) (q.set h x8))
def gMe(h:(List gH)→Option (List gH))(f:gH→Option (gH))(q:List gH):Option (List gH):=
gd (q.length≤4294967296) (
gAe f q 0 (List.replicate q.length (gH.mk 0 0 (gD.mk 0 0) [])))
def gOy(f:(List gH)→Option (List gH)):Prop:=∀(h:List gH){r:List gH},f h=some r→mK Tryz.prog 67 [.L 5 (jE h)] [51] [.sl 5 (jE r)]
def gN0(f:gH→Option (gH)):Prop:=∀(h:gH){r:gH},f h=some r→mK Tryz.prog 40 [.d (mZ h)] [51] [mZ r]
theorem hA5{q}{f}(ae:gOy q)(y:gN0 f)(a0:List gH){r:List gH}(h:gMe q f a0=some r):mK Tryz.prog 67 [.L 5 (jE a0)] [51] [.sl 5 (jE r)]:=by
 unfold gMe at h;refine qB Tryz.func67 rfl (by kernel_rfl) rfl (by simp) fun A _=>?_;refine goL ?_;obtain⟨g1,h⟩:=pU h;refine hIc (gH.mk 0 0 (gD.mk 0 0) []) g1 ?_;refine goL ?_;refine noB ?_;refine gCw 9 (fun z5=>?_);refine mG (fun(y4:Nat)(y2:List gH)(v3:Nat)=>⟨[(3,.sl 0 v3),(9,.L 5 (jE a0)),(10,.I (a0.length:Int)),(11,.N y4)],[.own 51 5 v3 (jE y2)],Tryz.f67.ntmps⟩) (fun y4 y2 v3=>gAe f (a0.drop y4) y4 y2=some r) (fun y4 y2 v3=>a0.length - y4) 0 (List.replicate a0.length (gH.mk 0 0 (gD.mk 0 0) [])) 0 eJ h ?_;rintro y4 y2 v3 h;refine goL ?_;refine kI (mR (fun c6=>?_) (fun c6=>?_))
 ·have aa:=vR c6;obtain⟨x7,av,ao⟩:=drop_at aa;rw [ao,gAe.eq_2] at h;obtain⟨ap,aq,⟨ag,ah⟩,ar⟩:=x7;refine noS ?_;refine kI (jA ?_);refine goL ?_;refine jP (jR y4 (gF7 av)) ?_;obtain⟨⟨ai,aj,⟨ab,ac⟩,ak⟩,aw,h⟩:=gJ h;refine gE3 (y (gH.mk ap aq (gD.mk ag ah) ar) aw) ?_;obtain⟨g9,h⟩:=pU h;refine vP (hId y4 g9) ?_;refine hIf (gH.mk ai aj (gD.mk ab ac) ak) g9 ?_;refine goL ?_;refine jP (kD y4 (by omega)) ?_;exact⟨(y4+1),(y2.set y4 (gH.mk ai aj (gD.mk ab ac) ak)),v3,h,by omega,eJ⟩
 ·have aa:=vS c6;rw [jK aa,gAe.eq_1] at h;refine goX ?_;refine jF ?_;obtain rfl:=Option.some.inj h;exact gNw
def gN1(f:(List gH)→Option (List gH))(h:gH→Option (gH))(q:gH):Option (gH):=
bnd (f q.args) fun y=>
(some (gH.mk q.kind q.n q.at_ y))
theorem hFi{f}{q}(y:gOy f)(aa:gN0 q)(a0:gH){r:gH}(h:gN1 f q a0=some r):mK Tryz.prog 40 [.d (mZ a0)] [51] [mZ r]:=by
 obtain⟨ah,ai,⟨ac,ad⟩,ab⟩:=a0;unfold gN1 at h;refine qB Tryz.func40 rfl (by kernel_rfl) rfl (by simp) fun A _=>?_;refine goL ?_;obtain⟨x1,ag,h⟩:=gJ h;refine gE3 (y ab ag) ?_;refine goL ?_;refine jF ?_;obtain rfl:=Option.some.inj h;exact gNw
mutual
def gJc:Nat→(List gH)→Option (List gH)
 | 0,_=>none
 | n+1,f=>gMe (gJc n) (gHq n) f
def gHq:Nat→gH→Option (gH)
 | 0,_=>none
 | n+1,f=>gN1 (gJc n) (gHq n) f
end
theorem gXt:∀(n:Nat),gOy (gJc n)∧gN0 (gHq n):=by
 intro n
 induction n with
 | zero=>exact⟨(by intro f r h;cases h),(by intro f r h;cases h)⟩
 | succ n ih=>
   obtain⟨ih0,ih1⟩:=ih;refine⟨(fun f r h=>hA5 ih0 ih1 f h),(fun f r h=>hFi ih0 ih1 f h)⟩
theorem hFj:∀(n:Nat),gN0 (gHq n):=fun n=>(gXt n).2
def gDo:List Int→Int→Int→Int→Int→(List gH)→Option (gH)
 | [],f,h,q,y,y6=>(some (gH.mk f h (gD.mk q y) y6))
 | ab::xs,f,h,q,y,y6=>gDo xs 3 ab 0 0 [(gH.mk f h (gD.mk q y) y6)]
def gDz(h:gH)(a1:List Int):Option (gH):=
bnd (gHq 5000 h) fun f=>
gDo a1 f.kind f.n f.at_.package f.at_.at_ f.args
theorem gHr(a0:gH)(a1:List Int){r:gH}(h:gDz a0 a1=some r):mK Tryz.prog 17 [.d (mZ a0),.L 1 (vM a1)] [51] [mZ r]:=by
 obtain⟨ad,ae,⟨q,y⟩,ag⟩:=a0;unfold gDz at h;refine qB Tryz.func17 rfl (by kernel_rfl) rfl (by simp) fun A _=>?_;refine goL ?_;obtain⟨⟨ao,ap,⟨aa,ab⟩,aq⟩,aw,h⟩:=gJ h;refine gE3 (hFj 5000 (gH.mk ad ae (gD.mk q y) ag) aw) ?_;refine goL ?_;refine noB ?_;refine gCw 10 (fun z9=>?_);refine gY9 (fun(y8:Nat)(y2:Int)(y3:Int)(y4:Int)(y5:Int)(y6:List gH)(v7:Nat)=>⟨[(4,.ptr 1 0),(5,.ptr 3 0),(10,.L 1 (vM a1)),(11,.I (a1.length:Int)),(12,.N y8)],[.box [.I ad,.I ae,.I q,.I y,.L 5 (jE ag)],.box [.I 0,.I 0,.I 0,.I 0,.nilsl],.own 51 5 v7 (jE y6),.box [.I y2,.I y3,.I y4,.I y5,.sl 2 v7]],Tryz.f17.ntmps⟩) (fun y8 y2 y3 y4 y5 y6 v7=>gDo (a1.drop y8) y2 y3 y4 y5 y6=some r) (fun y8 y2 y3 y4 y5 y6 v7=>a1.length - y8) 0 ao ap aa ab aq 0 eJ h ?_;rintro y8 y2 y3 y4 y5 y6 v7 h;refine goL ?_;refine kI (mR (fun am=>?_) (fun am=>?_))
 ·have f:=vR am;obtain⟨ax,au,an⟩:=drop_at f;rw [an,gDo.eq_2] at h;refine noS ?_;refine kI (jA ?_);refine goL ?_;refine jP (jR y8 (hMg au)) ?_;refine wX (gH.mk y2 y3 (gD.mk y4 y5) y6) ?_;refine yT (jN TBd.h TZ.h rfl (by repeat constructor)) ?_;refine jP (kD y8 (by omega)) ?_;exact⟨(y8+1),3,ax,0,0,[(gH.mk y2 y3 (gD.mk y4 y5) y6)],0,h,by omega,pQ 0 [0,1,4,3]⟩
 ·have f:=vS am;rw [jK f,gDo.eq_1] at h;refine goX ?_;refine jF ?_;obtain rfl:=Option.some.inj h;exact gNw
def gIf(f:gP)(a1:gP):Bool:=
lt_ ((cnd (f.trait==a1.trait) ((teq f.type_ a1.type_)) (false))) fun h=>
h
theorem gV0(a0:gP)(a1:gP):jI Tryz.prog 53 [.d (yF a0),.d (yF a1)] [.b (gIf a0 a1)]:=by
 obtain⟨r,h⟩:∃r,gIf a0 a1=r:=⟨_,rfl⟩
 rw [h];obtain⟨ad,⟨f,q,y⟩⟩:=a0;obtain⟨ae,⟨aa,ab,ac⟩⟩:=a1;unfold gIf at h;refine SpI Tryz.func53 fun A _=>?_;refine goL ?_;obtain⟨b1,hb1,h⟩:=uK h;refine kH ⟨[(4,.B b1)],[bBd ad f q y,bBd ae aa ab ac],Tryz.f53.ntmps⟩ ?_ ?_
 ·refine gqA 10 hb1 (fun c2 hb1=>?_);refine jP (gI (gPb (gB.mk f q y) (gB.mk aa ab ac))) ?_;cases hb1;exact eJ
 refine goL ?_;refine jF ?_;subst h;exact uM
def gN2(f:gX)(a1:gP):Bool:=
(gIf f.goal a1)
theorem hI5(a0:gX)(a1:gP):jI Tryz.prog 107 [.d (gDw a0),.dp (yF a1)] [.b (gN2 a0 a1)]:=by
 obtain⟨r,h⟩:∃r,gN2 a0 a1=r:=⟨_,rfl⟩
 rw [h];obtain⟨⟨aa,⟨f,q,y⟩⟩,ah,ai⟩:=a0;obtain⟨ae,⟨ab,ac,ad⟩⟩:=a1;unfold gN2 at h;refine SpI Tryz.func107 fun A _=>?_;refine goL ?_;refine jP (gI (gV0 (gP.mk aa (gB.mk f q y)) (gP.mk ae (gB.mk ab ac ad)))) ?_;refine jF ?_;subst h;exact uM
def gCm(a1:gX→Option Bool):List gX→Nat→Option (Int)
 | [],f=>(some (-1))
 | h::xs,f=>bnd (a1 h) fun q=>
(cnd q (
(some (f:Int))) (
gCm a1 xs (f+1)))
def gLl(f:List gX)(a1:gX→Option Bool):Option (Int):=
gCm a1 f 0
theorem gV1(y:List gX){a1f:Nat}{a1c:List SV}{a1:gX→Option Bool}(a1_lt:∀n,SV.lts n a1c=true)(ha1:∀(x0:gX)(r:Bool),a1 x0=some r→jI Tryz.prog a1f ([.d (gDw x0)]++a1c) [.b r]){r:Int}(h:gLl y a1=some r):jI Tryz.prog 106 [.L 6 (jU y),.fn a1f a1c] [.i .i64 r]:=by
 unfold gLl at h;refine SpI Tryz.func106 fun A _=>?_;refine goL ?_;refine noB ?_;refine gCw 0 (fun z2=>?_);refine pY (fun(q:Nat)=>⟨[(0,.L 6 (jU y)),(1,.fn a1f a1c),(7,.I (y.length:Int)),(8,.N q)],[],Tryz.f106.ntmps⟩) (fun q=>gCm a1 (y.drop q) q=some r) (fun q=>y.length - q) 0 ⟨rfl,⟨⟨rfl,rfl⟩,⟨rfl,a1_lt _⟩,⟨rfl,rfl⟩,⟨rfl,rfl⟩,trivial⟩,⟨[],rfl⟩,rfl⟩ h ?_;rintro q h;refine goL ?_;refine kI (mR (fun c3=>?_) (fun c3=>?_))
 ·have f:=vR c3;obtain⟨x4,ah,ad⟩:=drop_at f;rw [ad,gCm.eq_2] at h;obtain⟨⟨ae,⟨aa,ab,ac⟩⟩,al,am⟩:=x4;refine noS ?_;refine kI (jA ?_);refine goL ?_;refine jP (jR q (gHl ah)) ?_;obtain⟨x5,ai,h⟩:=gJ h;refine jP (gPv (ha1 _ _ ai) (a1_lt 0)) ?_;refine mR (fun c6=>?_) (fun c6=>?_)
  ·replace h:=kU c6 h;exact goR h
  ·replace h:=kV c6 h;refine goS ?_;refine jP (kD q (by omega)) ?_;exact⟨(q+1),h,by omega,⟨rfl,⟨⟨rfl,rfl⟩,⟨rfl,a1_lt _⟩,⟨rfl,rfl⟩,⟨rfl,rfl⟩,trivial⟩,⟨_,rfl⟩,rfl⟩⟩
 ·have f:=vS c3;rw [jK f,gCm.eq_1] at h;refine goX ?_;refine jF ?_;cases h;exact uM
def gP2(f:List gX)(a1:gP):Option (Int):=
bnd (gLl f (fun h=>some (gN2 h a1))) fun q=>
(some q)
theorem hI6(a0:List gX)(a1:gP){r:Int}(h:gP2 a0 a1=some r):jI Tryz.prog 72 [.L 6 (jU a0),.d (yF a1)] [.i .i64 r]:=by
 obtain⟨aa,⟨f,q,y⟩⟩:=a1;unfold gP2 at h;refine SpI Tryz.func72 fun A _=>?_;refine goL ?_;refine uN (hDt) ?_;obtain⟨x1,ac,h⟩:=gJ h;refine vP (hV3 (gV1 a0 (a1:=(fun z0=>some (gN2 z0 (gP.mk aa (gB.mk f q y))))) (fun _=>rfl) (fun z0 r hr=>by cases hr;exact hI5 z0 (gP.mk aa (gB.mk f q y))) ac)) ?_;exact goR h
end Go.Proofs.YtfpdlnkkcnmebaaGreat
