import Derived.Test.YtegahmhnmjnhhaaGreatSt
set_option maxHeartbeats 4000000
set_option linter.unusedVariables false
set_option linter.unusedSimpArgs false
set_option linter.unusedSectionVars false
namespace Go.Proofs.YtegahmhnmjnhhaaGreat
open Go Go.Eng
attribute [local irreducible] V VO VQ VY Quiet QR jC kT Rng mU mV mI
def hXy(l:List gG):Prop:=l.length≤4294967296∧∀b∈l,tok b.type_
instance (l:List gG):Decidable (hXy l):=inferInstanceAs (Decidable (_∧_))
def jBy(l:List gG):List gG:=l
theorem hRt(l:List gG)(hl:l.length≤4294967296):Go.Eng.Spec Tryz.prog 76 [.L 4 (gN l)] [] (fun sv Lo=>∃v,sv=.sl 0 v∧Lo=[.mix 101 4 v [] (gN l)]):=by
 refine kM 0 Tryz.func76 rfl (by kernel_rfl) rfl rfl fun A _=>?_;refine goL ?_;refine hNd (fun b hb=>?_);refine goL ?_;cases b with
 | true=>
   have c:l=[]:=by
    cases l with
    | nil=>rfl
    | cons a l=>cases hb rfl
   subst c;refine hV3 ?_;refine goL ?_;refine jBq 101 4 2 ?_;refine hNe 0 ?_;refine jK ?_;exact zB [.sl 0 0] [.mix 101 4 0 [] []] ⟨0,rfl,rfl⟩
 | false=>
   refine hYt ?_;refine zA ?_;refine goL ?_;refine gAl ?_;refine goL ?_;refine gBd (l:=[]) (r:=l) (by simpa using hl) ?_;refine goL ?_;refine hQ9 0 ?_;refine jK ?_;exact zB [.sl 0 (0+1)] [.mix 101 4 (0+1) [] (gN l)] ⟨_,rfl,rfl⟩
theorem hRu(a b:List gG):gN (a++b)=gN a++gN b:=by
 induction a with
 | nil=>rfl
 | cons x a ih=>simp only [List.cons_append,gN,ih]
theorem gYh(l:List gG)(h:hXy l):kT Tryz.prog 43 [.L 4 (gN l)] [101] [.sl 4 (gN (jBy l))]:=by
 have hlen:∀l:List gG,(gN l).length=l.length:=fun l=>Enc.len l;refine pM Tryz.func43 rfl (by kernel_rfl) rfl (by simp) fun A _=>?_;refine goL ?_;refine yY [] (hRt l h.1) ?_;rintro _ _ ⟨v,rfl,rfl⟩;show VO _ _ _ _ ⟨(_,.sl 0 v)::_,[.mix 101 4 v [] (gN l)],_⟩ _;refine goL ?_;refine hS6 (hIu rfl rfl) rfl ?_;refine goL ?_;refine noB ?_;refine mQ (fun(k:Nat)=>⟨[(3,.sl 0 v),(8,.I (l.length:Int)),(9,.N k)],[.mix 101 4 v (gN (l.take k)) (gN (l.drop k))],Tryz.f43.ntmps⟩) (fun k=>k≤l.length) (fun k=>l.length - k) 0 ⟨rfl,⟨⟨rfl,rfl⟩,⟨by simp only [List.nil_append,hlen];rfl,rfl⟩,⟨rfl,rfl⟩,trivial⟩,⟨[],rfl⟩,rfl⟩ (Nat.zero_le _) ?_;rintro k hk;refine goL ?_;refine jW (kX (fun c6=>?_) (fun c6=>?_))
 ·have hk2:k < l.length:=by have:=of_decide_eq_true c6;omega
  obtain⟨x,hx,hdx⟩:=drop_at hk2;rw [hdx];obtain⟨x0,c,f,y⟩:=x;have hok:tok (gB.mk c f y):=h.2 _ (List.mem_of_getElem? hx);have hc:=gA7 (gB.mk c f y) hok;change kT _ _ _ _ [jS (gB.mk c f y)] at hc;have hkl:(gN (l.take k)).length=k:=by rw [hlen,List.length_take];omega
  have hin:k < (gN (l.take k)++gN (gG.mk x0 (gB.mk c f y)::l.drop (k+1))).length:=by rw [List.length_append,hkl,hlen];simp
  have e1:gN (l.take (k+1))=gN (l.take k)++[.st ([.s x0]++[jS (gB.mk c f y)])]:=by
   rw [List.take_add_one,hx,hRu];rfl
  refine noS ?_;refine jW (jE ?_);refine goL ?_;refine gAq (hUs k hin) ?_;refine gAq (gSq rfl rfl TF.h) ?_;refine gAq (hE3 (pre:=[.s x0]) (u:=jS (gB.mk c f y)) rfl rfl hkl rfl TI.h rfl rfl) ?_;refine gGa hc ?_;refine gAq (hUs k hin) ?_;refine gAq (gSq rfl rfl TF.h) ?_;refine hIv (pre:=[.s x0]) (old:=jS (gB.mk c f y)) (u:=jS (gB.mk c f y)) (js:=[1]) (L':=[.mix 101 4 v (gN (l.take (k+1))) (gN (l.drop (k+1))),.dead 1]) rfl rfl hkl rfl rfl (by(repeat constructor);first | done | fail) rfl TI.h rfl rfl (by rw [e1];rfl) ?_;refine goL ?_;refine jL (jR k (by have:=h.1;omega)) ?_;exact⟨(k+1),by omega,by omega,eJ⟩
 ·have hk3:l.length≤k:=by have:=of_decide_eq_false c6;omega
  rw [List.drop_of_length_le hk3,List.take_of_length_le hk3];refine goX ?_;refine hRa 0 ?_;refine jK ?_;exact gPw
def vY(y:gJ)(x2:List gG)(y4:List jB):List jN→Nat→(List jN)→Option (gJ)
 | [],c,f=>(some (gJ.mk y.next y.count y.node x2 y4 f y.code y.at_))
 | h::xs,c,f=>gd (tok h.goal.type_) (lt_ (idT h.goal.type_) fun aa=>
gd (c < f.length) (
vY y x2 y4 xs (c+1) (f.set c (jN.mk (gY.mk h.goal.trait aa) h.node))))
def vZ(c:gJ)(x2:List gG):List jB→Nat→(List jB)→Option (gJ)
 | [],h,y=>gd (c.obligations.length≤4294967296) (
vY c x2 y c.obligations 0 (List.replicate c.obligations.length (jN.mk (gY.mk [] (gB.mk 0 [] [])) 0)))
 | f::xs,h,y=>gd (tok f.a) (lt_ (idT f.a) fun aa=>
gd (tok f.b) (lt_ (idT f.b) fun ab=>
gd (h < y.length) (
vZ c x2 xs (h+1) (y.set h (jB.mk aa ab f.node)))))
def gIk(c:gJ):Option (gJ):=
gd (hXy c.bindings) (lt_ (jBy c.bindings) fun f=>
gd (c.equations.length≤4294967296) (
vZ c f c.equations 0 (List.replicate c.equations.length (jB.mk (gB.mk 0 [] []) (gB.mk 0 [] []) 0))))
theorem gYi(a0:gJ){r:gJ}(h:gIk a0=some r):kT Tryz.prog 22 [.d (mD a0)] [101,79,81] [mD r]:=by
 obtain⟨ah,ai,aj,ap,f,c,ak,al⟩:=a0;unfold gIk at h;refine pM Tryz.func22 rfl (by kernel_rfl) rfl (by simp) fun A _=>?_;refine goL ?_;obtain⟨g1,h⟩:=mW h;obtain⟨x2,bq,h⟩:=qB h;have sx2:=gYh ap g1;rw [bq] at sx2;refine gGa (sx2) ?_;refine goL ?_;obtain⟨g3,h⟩:=mW h;refine hIm (jB.mk (gB.mk 0 [] []) (gB.mk 0 [] []) 0) g3 ?_;refine goL ?_;refine noB ?_;refine gBx 18 (fun z7=>?_);refine kS (fun(y6:Nat) (y4:List jB) (v5:Nat)=>⟨[(1,.ptr 0 0),(2,.ptr 1 0),(3,.sl 3 v5),(18,.L 7 (gW f)),(19,.I (f.length:Int)),(20,.N y6)],[.box [.I ah,.I ai,.I aj,.sl 2 0,.L 7 (gW f),.L 5 (gT c),.I ak,.I al],.box [.I 0,.I 0,.I 0,.nilsl,.nilsl,.nilsl,.I 0,.I 0],.own 101 4 0 (gN x2),.own 79 7 v5 (gW y4)],Tryz.f22.ntmps⟩) (fun y6 y4 v5=>vZ (gJ.mk ah ai aj ap f c ak al) x2 (f.drop y6) y6 y4=some r) (fun y6 y4 v5=>f.length - y6) 0 (List.replicate f.length (jB.mk (gB.mk 0 [] []) (gB.mk 0 [] []) 0)) 0 eJ h ?_;rintro y6 y4 v5 h;refine goL ?_;refine jW (kX (fun c8=>?_) (fun c8=>?_))
 ·have ac:=uR c8;obtain⟨x9,bt,bh⟩:=drop_at ac;rw [bh,vZ.eq_2] at h;obtain⟨⟨a6,a7,a8⟩,⟨a9,ba,bb⟩,be⟩:=x9;refine noS ?_;refine jW (jE ?_);refine goL ?_;refine qI (jM y6 (gHr bt)) ?_;refine gH2 ?_;refine uF (P:=Tryz.prog) Mix.h [(0,true),(1,true),(2,true),(3,true),(5,true),(6,true),(8,true),(9,true),(4,false),(7,false),(10,true),(11,false),(12,false)] (by kernel_rfl) ?_;refine goY ?_;obtain⟨bu,h⟩:=mW h;obtain⟨⟨aq,ar,au⟩,bi,h⟩:=qB h;have sx11:=gA7 (gB.mk a6 a7 a8) bu;rw [bi] at sx11;refine gNa (sx11) ?_;obtain⟨bv,h⟩:=mW h;obtain⟨⟨av,aw,ax⟩,bj,h⟩:=qB h;have sx13:=gA7 (gB.mk a9 ba bb) bv;rw [bj] at sx13;refine gNa (sx13) ?_;refine goY ?_;obtain⟨bk,h⟩:=mW h;refine hPd y6 bk ?_;refine hUt (jB.mk (gB.mk aq ar au) (gB.mk av aw ax) be) bk ?_;refine kQ ?_;refine goL ?_;refine jL (jR y6 (by omega)) ?_;exact⟨(y6+1),(y4.set y6 (jB.mk (gB.mk aq ar au) (gB.mk av aw ax) be)),v5,h,by omega,eJ⟩
 ·have ac:=uS c8;rw [jF ac,vZ.eq_1] at h;refine goX ?_;obtain⟨bw,h⟩:=mW h;refine hIm (jN.mk (gY.mk [] (gB.mk 0 [] [])) 0) bw ?_;refine goL ?_;refine noB ?_;refine gBx 45 (fun b3=>?_);refine kS (fun(y:Nat) (am:List jN) (an:Nat)=>⟨[(1,.ptr 0 0),(2,.ptr 1 0),(6,.sl 4 an),(45,.L 5 (gT c)),(46,.I (c.length:Int)),(47,.N y)],[.box [.I ah,.I ai,.I aj,.sl 2 0,.sl 3 v5,.L 5 (gT c),.I ak,.I al],.box [.I 0,.I 0,.I 0,.nilsl,.nilsl,.nilsl,.I 0,.I 0],.own 101 4 0 (gN x2),.own 79 7 v5 (gW y4),.own 81 5 an (gT am)],Tryz.f22.ntmps⟩) (fun y am an=>vY (gJ.mk ah ai aj ap f c ak al) x2 y4 (c.drop y) y am=some r) (fun y am an=>c.length - y) 0 (List.replicate c.length (jN.mk (gY.mk [] (gB.mk 0 [] [])) 0)) 0 eJ h ?_;rintro y am an h;refine goL ?_;refine jW (kX (fun bf=>?_) (fun bf=>?_))
  ·have aa:=uR bf;obtain⟨bx,bl,bg⟩:=drop_at aa;rw [bg,vY.eq_2] at h;obtain⟨⟨ab,⟨ad,ae,ag⟩⟩,ay⟩:=bx;refine noS ?_;refine jW (jE ?_);refine goL ?_;refine qI (jM y (gM9 bl)) ?_;refine gH2 ?_;refine uF (P:=Tryz.prog) Mix.h [(0,true),(1,true),(2,true),(3,true),(4,true),(5,true),(6,true),(7,true),(10,true),(11,true),(8,false),(9,true),(12,true),(13,false),(14,false)] (by kernel_rfl) ?_;refine goY ?_;obtain⟨bz,h⟩:=mW h;obtain⟨⟨a3,a4,a5⟩,bm,h⟩:=qB h;have sx23:=gA7 (gB.mk ad ae ag) bz;rw [bm] at sx23;refine gNa (sx23) ?_;refine goY ?_;obtain⟨bn,h⟩:=mW h;refine hPd y bn ?_;refine hUt (jN.mk (gY.mk ab (gB.mk a3 a4 a5)) ay) bn ?_;refine kQ ?_;refine goL ?_;refine jL (jR y (by omega)) ?_;exact⟨(y+1),(am.set y (jN.mk (gY.mk ab (gB.mk a3 a4 a5)) ay)),an,h,by omega,eJ⟩
  ·have aa:=uS bf;rw [jF aa,vY.eq_1] at h;refine goX ?_;refine jK ?_;obtain rfl:=Option.some.inj h;exact gPw
def hU6(s:gJ):Prop:=hXy s.bindings∧(s.equations.length≤4294967296∧∀q∈s.equations,tok q.a∧tok q.b)∧s.obligations.length≤4294967296∧∀o∈s.obligations,tok o.goal.type_
instance (s:gJ):Decidable (hU6 s):=inferInstanceAs (Decidable (_∧_))
def idS(s:gJ):gJ:=s
theorem hU7(s:gJ)(c:List gG)(f:List jB):∀(xs:List jN) (k:Nat) (y:List jN),(∀o∈xs,tok o.goal.type_)→y.length=k+xs.length→vY s c f xs k y=some (gJ.mk s.next s.count s.node c f (y.take k++xs) s.code s.at_)
 | [],k,y,_,h=>by
   simp only [vY,List.append_nil];rw [List.take_of_length_le (by simp at h;omega)]
 | x::xs,k,y,h1,h2=>by
   simp only [List.length_cons] at h2;simp only [vY,lt_,idT];rw [mK (h1 x (by simp)),mK (by omega),hU7 s c f xs (k+1) _ (fun z hz=>h1 z (by simp [hz])) (by simp;omega),gGq (by omega)];simp
theorem hU9(s:gJ)(c:List gG)(ho:s.obligations.length≤4294967296∧∀o∈s.obligations,tok o.goal.type_):∀(xs:List jB) (k:Nat) (y:List jB),(∀q∈xs,tok q.a∧tok q.b)→y.length=k+xs.length→vZ s c xs k y=some (gJ.mk s.next s.count s.node c (y.take k++xs) s.obligations s.code s.at_)
 | [],k,y,_,h=>by
   simp only [vZ,List.append_nil];rw [List.take_of_length_le (by simp at h;omega),mK ho.1,hU7 s c y s.obligations 0 _ ho.2 (by simp)];simp
 | x::xs,k,y,f,h2=>by
   simp only [List.length_cons] at h2;simp only [vZ,lt_,idT];rw [mK (f x (by simp)).1,mK (f x (by simp)).2,mK (by omega),hU9 s c ho xs (k+1) _ (fun z hz=>f z (by simp [hz])) (by simp;omega),gGq (by omega)];simp
theorem gWf(s:gJ)(h:hU6 s):gIk s=some (idS s):=by
 simp only [gIk,lt_,jBy,idS];rw [mK h.1,mK h.2.1.1,hU9 s s.bindings h.2.2 s.equations 0 _ h.2.1.2 (by simp)];simp
theorem gYj(s:gJ)(h:hU6 s):kT Tryz.prog 22 [.d (mD s)] [101,79,81] [mD (idS s)]:=gYi s (gWf s h)
def gHu(w:gI)(wh:List gY):Option (kP):=
bnd (gE9 w wh) fun c=>
(some (kP.mk w c))
theorem hAf(w:gI)(wh:List gY){r:kP}(h:gHu w wh=some r):Go.Eng.Spec Tryz.prog 24 [.d (kR w),.L 4 (kV wh)] [] (fun sv Lo=>sv=.ptr 0 0∧Lo=[.box [.L 6 (gX r.w.packages),.L 6 (gM r.assumed)]]):=by
 obtain⟨c⟩:=w;unfold gHu at h;refine kM 0 Tryz.func24 rfl (by kernel_rfl) rfl rfl fun A _=>?_;refine goL ?_;refine qI (hIq) ?_;refine gH2 ?_;refine jO (P:=Tryz.prog) Mix.h [(0,true),(1,true),(2,true),(3,true),(4,true),(5,false),(6,true)] (by kernel_rfl) ?_;refine goY ?_;obtain⟨y,f,h⟩:=gP h;refine jI rfl (gF (gTx _ _ f)) ?_;refine goY ?_;refine kQ ?_;refine goL ?_;refine hXv (fr':=[(4,.ptr 0 0)]) (Lc:=[.box [.L 6 (gX c),.L 6 (gM y)]]) 0 [1] ?_;refine jK ?_;obtain rfl:=Option.some.inj h;exact zB [.ptr 0 0] [.box [.L 6 (gX c),.L 6 (gM y)]] ⟨rfl,rfl⟩
def yB(next:Int)(count:Int)(os:List jN)(q:kP)(y6:List jB)(c:Int→Int→Int→(List gG)→(List jB)→Option (Int × Int × Int × List gG × List jB)):Nat→Nat→Int→Int→Int→(List gG)→(List jB)→Option (Int × Int × Int × List gG × List jB)
 | 0,h,ae,f,y,aa,ab=>(c ae f y aa ab)
 | ag+1,h,ae,f,y,aa,ab=>bnd (at? y6 (h:Int)) fun ac=>
(cnd (f==0) (
bnd (gC6 5000 next count ac.node aa ab os f y q ac.a ac.b 0) fun ad=>
yB next count os q y6 c ag (h+1) ac.node ad.1 ad.2.1 ad.2.2.1 ad.2.2.2) (
yB next count os q y6 c ag (h+1) ae f y aa ab))
def uI(next:Int)(count:Int)(node:Int)(os:List jN)(q:kP):Nat→Int→Int→Int→(List gG)→(List jB)→Option (Int × Int × Int × List gG × List jB)
 | 0,y1,y2,y3,y4,f=>none
 | n8+1,y1,y2,y3,y4,f=>(cnd (y2==0) (
yB next count os q f (fun ae h y aa c=>(cnd (decide ((c.length:Int)≥(f.length:Int))) (
(some (node,h,y,aa,c))) (
uI next count node os q n8 ae h y aa c))) f.length 0 y1 y2 y3 y4 []) (
(some (node,y2,y3,y4,f))))
def gNe(next:Int)(count:Int)(node:Int)(c:List gG)(f:List jB)(os:List jN)(code:Int)(att:Int)(q:kP)(h:Nat):Option (Int × Int × Int × List gG × List jB):=
uI next count node os q h node code att c f
theorem hAg(next:Int)(count:Int)(node:Int)(l1:List gG)(l2:List jB)(os:List jN)(code:Int)(att:Int)(q:kP)(v1:Nat)(v2:Nat)(v3:Nat){n0:Nat}{r:Int × Int × Int × List gG × List jB}(h:gNe next count node l1 l2 os code att q n0=some r):Go.Eng.Spec Tryz.prog 33 [.ptr 0 0,.ptr 4 0] [.box [.I next,.I count,.I node,.sl 1 v1,.sl 2 v2,.sl 3 v3,.I code,.I att],.arr 101 4 v1 (gN l1),.arr 79 7 v2 (gW l2),.arr 81 5 v3 (gT os),.box [.L 6 (gX q.w.packages),.L 6 (gM q.assumed)]] (fun sv Lo=>∃v'1 v'2,sv=.tup []∧Lo=[.box [.I next,.I count,.I r.1,.sl 1 v'1,.sl 2 v'2,.sl 3 v3,.I r.2.1,.I r.2.2.1],.arr 101 4 v'1 (gN r.2.2.2.1),.arr 79 7 v'2 (gW r.2.2.2.2),.arr 81 5 v3 (gT os),.box [.L 6 (gX q.w.packages),.L 6 (gM q.assumed)]]):=by
 obtain⟨⟨c⟩,ab⟩:=q;unfold gNe at h;refine kM 5 Tryz.func33 rfl (by kernel_rfl) rfl rfl fun A _=>?_;refine goL ?_;refine jW (jE ?_);show V _ _ _ _ _;refine gZ5 (fun(n8:Nat) (y1:Int) (y2:Int) (y3:Int) (y4:List gG) (y6:List jB) (v5:Nat) (v7:Nat)=>⟨[(0,.ptr 0 0),(1,.ptr 4 0),(4,.I node)],[.box [.I next,.I count,.I y1,.sl 1 v5,.sl 2 v7,.sl 3 v3,.I y2,.I y3],.arr 101 4 v5 (gN y4),.arr 79 7 v7 (gW y6),.arr 81 5 v3 (gT os),.box [.L 6 (gX c),.L 6 (gM ab)]],Tryz.f33.ntmps⟩) (fun n8 y1 y2 y3 y4 y6 v5 v7=>uI next count node os (kP.mk (gI.mk c) ab) n8 y1 y2 y3 y4 y6=some r) (fun n8 y1 y2 y3 y4 y6 v5 v7=>n8) n0 node code att l1 l2 v1 v2 eJ h ?_;rintro n8 y1 y2 y3 y4 y6 v5 v7 h;rcases n8 with _ | n8
 ·cases h
 rw [uI.eq_2] at h;refine goC h ?_ ?_<;>intro c9 h
 ·refine noS ?_;refine jE ?_;refine goL ?_;refine noB ?_;refine wT 79 7 0 4 rfl rfl (by repeat constructor) (by repeat constructor) (by repeat constructor) (by repeat constructor) ?_;refine hXv (fr':=[(0,.ptr 0 0),(1,.ptr 4 0),(4,.I node),(5,.sl 2 v7),(24,.sl 2 v7),(25,.I (y6.length:Int)),(26,.I 0)]) (Lc:=[.box [.I next,.I count,.I y1,.sl 1 v5,.sl 5 0,.sl 3 v3,.I y2,.I y3],.arr 101 4 v5 (gN y4),.arr 79 7 v7 (gW y6),.arr 81 5 v3 (gT os),.box [.L 6 (gX c),.L 6 (gM ab)],.arr 79 7 0 []]) 5 [0,1,2,3,4,5] ?_;refine jBr (fr':=[(0,.ptr 0 0),(1,.ptr 4 0),(4,.I node),(5,.sl 2 v7),(24,.sl 2 v7),(25,.I (y6.length:Int)),(26,.I 0)]) (L':=[.box [.I next,.I count,.I y1,.sl 1 v5,.sl 5 (v7+1),.sl 3 v3,.I y2,.I y3],.arr 101 4 v5 (gN y4),.arr 79 7 v7 (gW y6),.arr 81 5 v3 (gT os),.box [.L 6 (gX c),.L 6 (gM ab)],.arr 79 7 (v7+1) []]) 5 5 ?_;refine jGf (fr':=[(0,.ptr 0 0),(1,.ptr 4 0),(4,.I node),(5,.sl 5 v7),(24,.sl 5 v7),(25,.I (y6.length:Int)),(26,.I 0)]) (Lc:=[.box [.I next,.I count,.I y1,.sl 1 v5,.sl 2 (v7+1),.sl 3 v3,.I y2,.I y3],.arr 101 4 v5 (gN y4),.arr 79 7 (v7+1) [],.arr 81 5 v3 (gT os),.box [.L 6 (gX c),.L 6 (gM ab)],.arr 79 7 v7 (gW y6)]) 5 2 [0,1,5,3,4,2] ?_;show V _ _ _ _ _;refine jBp 5 (fun bn=>?_)
  refine gZ5 (fun(f:Nat) (ak:Int) (ad:Int) (ae:Int) (ag:List gG) (y:List jB) (ah:Nat) (ai:Nat)=>⟨[(0,.ptr 0 0),(1,.ptr 4 0),(4,.I node),(5,.sl 5 v7),(24,.sl 5 v7),(25,.I (y6.length:Int)),(26,.N f)],[.box [.I next,.I count,.I ak,.sl 1 ah,.sl 2 ai,.sl 3 v3,.I ad,.I ae],.arr 101 4 ah (gN ag),.arr 79 7 ai (gW y),.arr 81 5 v3 (gT os),.box [.L 6 (gX c),.L 6 (gM ab)],.arr 79 7 v7 (gW y6)],Tryz.f33.ntmps⟩) (fun f ak ad ae ag y ah ai=>f≤y6.length∧yB next count os (kP.mk (gI.mk c) ab) y6 (fun ak ad ae ag y=>(cnd (decide ((y.length:Int)≥(y6.length:Int))) (
(some (node,ad,ae,ag,y))) (
uI next count node os (kP.mk (gI.mk c) ab) n8 ak ad ae ag y))) (y6.length - f) f ak ad ae ag y=some r) (fun f ak ad ae ag y ah ai=>y6.length - f) 0 y1 y2 y3 y4 [] v5 (v7+1) eJ ⟨by simp,h⟩ ?_
  rintro f ak ad ae ag y ah ai ⟨bk,h⟩;refine goL ?_;refine jW (kX (fun a9=>?_) (fun a9=>?_))
  ·have a8:=uR a9;obtain⟨be,hm20⟩:∃m,y6.length - f=m+1:=⟨y6.length - f - 1,by omega⟩
   rw [hm20,yB.eq_2] at h;refine noS ?_;refine jW (jE ?_);refine goL ?_;obtain⟨bl,av,h⟩:=gP h;rw [yZ] at av;obtain⟨⟨am,an,ao⟩,⟨ap,aq,ar⟩,al⟩:=bl;refine gAq (jBo f (List.getElem?_eq_some_iff.1 av).1) ?_;refine gBn (hQ6 av) ?_;refine kX (fun ba=>?_) (fun ba=>?_)
   ·replace h:=kD ba h;refine goL ?_;obtain⟨⟨aw,ax,ay,a0⟩,bf,h⟩:=gP h;refine yY [0,1,2,3,4] (hNr 5000 next count al ag y os ad ae (kP.mk (gI.mk c) ab) (gB.mk am an ao) (gB.mk ap aq ar) 0 ah ai v3 bf) ?_;rintro _ _ ⟨bb,bc,rfl,rfl⟩;show VO _ _ _ _ ⟨(_,.tup [])::_,[.box [.I next,.I count,.I al,.sl 1 bb,.sl 2 bc,.sl 3 v3,.I aw,.I ax],.arr 101 4 bb (gN ay),.arr 79 7 bc (gW a0),.arr 81 5 v3 (gT os),.box [.L 6 (gX c),.L 6 (gM ab)],.arr 79 7 v7 (gW y6),.box [.I am,.S an,.L 3 (jJ ao),.I ap,.S aq,.L 3 (jJ ar),.I al]],_⟩ _;refine goL ?_;refine jL (jR f (by omega)) ?_;rw [show be=y6.length - (f+1) by omega] at h;exact⟨(f+1),al,aw,ax,ay,a0,bb,bc,⟨by omega,h⟩,by omega,eJ⟩
   ·replace h:=kE ba h;refine goS ?_;refine jL (jR f (by omega)) ?_;rw [show be=y6.length - (f+1) by omega] at h;exact⟨(f+1),ak,ad,ae,ag,y,ah,ai,⟨by omega,h⟩,by omega,eJ⟩
  ·have a8:=uS a9;rw [show y6.length - f=0 by omega,yB.eq_1] at h;refine goX ?_;refine kX (fun bd=>?_) (fun bd=>?_)
   ·replace h:=kD bd h;refine goX ?_;obtain rfl:=Option.some.inj h;exact hEz [] [.box [.I next,.I count,.I node,.sl 1 ah,.sl 2 ai,.sl 3 v3,.I ad,.I ae],.arr 101 4 ah (gN ag),.arr 79 7 ai (gW y),.arr 81 5 v3 (gT os),.box [.L 6 (gX c),.L 6 (gM ab)]] ⟨ah,ai,rfl,rfl⟩
   ·replace h:=kE bd h;refine zA ?_;exact⟨n8,ak,ad,ae,ag,y,ah,ai,h,Nat.lt_succ_self _,eJ⟩
 ·refine goX ?_;obtain rfl:=Option.some.inj h;exact hEz [] [.box [.I next,.I count,.I node,.sl 1 v5,.sl 2 v7,.sl 3 v3,.I y2,.I y3],.arr 101 4 v5 (gN y4),.arr 79 7 v7 (gW y6),.arr 81 5 v3 (gT os),.box [.L 6 (gX c),.L 6 (gM ab)]] ⟨v5,v7,rfl,rfl⟩
def gUl(c:Int)(f:Int)(h:Int)(y:List gG)(x4:List jB)(x5:List jN)(x6:Int)(x7:Int)(x8:kP):Option (Int × Int × Int × List gG × List jB):=gNe c f h y x4 x5 x6 x7 x8 5000000
def gJf(h:gI)(a1:List gY)(a2:gJ):Option (gJ):=
gd (hU6 a2) (lt_ (idS a2) fun c=>
bnd (gHu h a1) fun y=>
bnd (gUl c.next c.count c.node c.bindings c.equations c.obligations c.code c.at_ y) fun f=>
(some (gJ.mk c.next c.count f.1 f.2.2.2.1 f.2.2.2.2 c.obligations f.2.1 f.2.2.1)))
theorem gYk(a0:gI)(a1:List gY)(a2:gJ){r:gJ}(h:gJf a0 a1 a2=some r):jC Tryz.prog 15 [.d (kR a0),.L 4 (kV a1),.d (mD a2)] [mD r]:=by
 obtain⟨f⟩:=a0;obtain⟨y,aa,ab,ac,ad,ae,ag,ah⟩:=a2;unfold gJf at h;refine SpI Tryz.func15 fun A _=>?_;refine goL ?_;obtain⟨g1,h⟩:=mW h;obtain⟨⟨ai,aj,am,an,ao,ak,ap,aq⟩,a3,h⟩:=qB h;have sx2:=gYj (gJ.mk y aa ab ac ad ae ag ah) g1;rw [a3] at sx2;refine gGa (sx2) ?_;refine gH2 ?_;refine hE6 5 ?_;refine goL ?_;obtain⟨⟨⟨c⟩,al⟩,a4,h⟩:=gP h;refine yY [] (hAf (gI.mk f) a1 a4) ?_;rintro _ _ ⟨rfl,rfl⟩;show VO _ _ _ _ ⟨(_,.ptr 7 0)::_,[bPr f,bSt y aa ab ac ad ae ag ah,.box [.I 0,.I 0,.I 0,.nilsl,.nilsl,.nilsl,.I 0,.I 0],.own 101 4 0 (gN an),.own 79 7 0 (gW ao),.arr 81 5 0 (gT ak),.box [.I ai,.I aj,.I am,.sl 3 0,.sl 4 0,.sl 5 0,.I ap,.I aq],.box [.L 6 (gX c),.L 6 (gM al)]],_⟩ _;refine hE6 3 ?_;refine hE6 4 ?_;obtain⟨⟨ar,au,av,aw,ax⟩,a5,h⟩:=gP h;refine yY [6,3,4,5,7] (hAg ai aj am an ao ak ap aq (kP.mk (gI.mk c) al) 0 0 0 a5) ?_;rintro _ _ ⟨v5,v6,rfl,rfl⟩;show VO _ _ _ _ ⟨(_,.tup [])::_,[bPr f,bSt y aa ab ac ad ae ag ah,.box [.I 0,.I 0,.I 0,.nilsl,.nilsl,.nilsl,.I 0,.I 0],.arr 101 4 v5 (gN aw),.arr 79 7 v6 (gW ax),.arr 81 5 0 (gT ak),.box [.I ai,.I aj,.I ar,.sl 3 v5,.sl 4 v6,.sl 5 0,.I au,.I av],.box [.L 6 (gX c),.L 6 (gM al)]],_⟩ _;refine goL ?_;refine kN 3 rfl rfl ?_;refine kN 4 rfl rfl ?_;refine kN 5 rfl rfl ?_;refine jK ?_;cases h;exact qA
def uW(a0:gI)(a1:List gY)(f:Int→Int→Int→(List gG)→(List jB)→(List jN)→Int→Int→Option (gJ)):List jB→Int→Int→Int→(List gG)→(List jB)→(List jN)→Int→Int→Option (gJ)
 | [],h,y,ah,aa,ab,ac,ad,ae=>(f h y ah aa ab ac ad ae)
 | ag::xs,h,y,ah,aa,ab,ac,ad,ae=>bnd (pG 5000 a0 a1 (gJ.mk h y ag.node aa ab ac ad ae) ag.a ag.b 40) fun c=>
uW a0 a1 f xs c.next c.count c.node c.bindings c.equations c.obligations c.code c.at_
def wB(a0:gI)(a1:List gY)(a2:gJ):Nat→Int→Int→Int→(List gG)→(List jB)→(List jN)→Int→Int→Option (gJ)
 | 0,y1,y2,y3,y4,y5,y6,y7,y8=>none
 | n9+1,y1,y2,y3,y4,y5,y6,y7,y8=>(cnd (y7==0) (
uW a0 a1 (fun f h al y c aa ab ac=>(cnd (decide ((c.length:Int)≥(y5.length:Int))) (
(some (gJ.mk f h a2.node y c aa ab ac))) (
wB a0 a1 a2 n9 f h al y c aa ab ac))) y5 y1 y2 y3 y4 [] y6 y7 y8) (
(some (gJ.mk y1 y2 a2.node y4 y5 y6 y7 y8))))
def gLr(c:gI)(a1:List gY)(a2:gJ)(f:Nat):Option (gJ):=
wB c a1 a2 f a2.next a2.count a2.node a2.bindings a2.equations a2.obligations a2.code a2.at_
theorem gYl(a0:gI)(a1:List gY)(a2:gJ){n0:Nat}{r:gJ}(h:gLr a0 a1 a2 n0=some r):jC Tryz.prog 34 [.d (kR a0),.L 4 (kV a1),.d (mD a2)] [mD r]:=by
 obtain⟨ai⟩:=a0;obtain⟨ak,al,y,am,an,ao,ap,aq⟩:=a2;unfold gLr at h;refine SpI Tryz.func34 fun A _=>?_;refine goL ?_;refine jW (jE ?_);show V _ _ _ _ _;refine gWb (fun(n9:Nat) (y1:Int) (y2:Int) (y3:Int) (y4:List gG) (y5:List jB) (y6:List jN) (y7:Int) (y8:Int)=>⟨[(1,.L 4 (kV a1)),(3,.ptr 0 0),(5,.ptr 1 0),(6,.ptr 2 0),(7,.I y)],[bPr ai,bSt y1 y2 y3 y4 y5 y6 y7 y8,.box [.I 0,.I 0,.I 0,.nilsl,.nilsl,.nilsl,.I 0,.I 0]],Tryz.f34.ntmps⟩) (fun n9 y1 y2 y3 y4 y5 y6 y7 y8=>wB (gI.mk ai) a1 (gJ.mk ak al y am an ao ap aq) n9 y1 y2 y3 y4 y5 y6 y7 y8=some r) (fun n9 y1 y2 y3 y4 y5 y6 y7 y8=>n9) n0 ak al y am an ao ap aq eJ h ?_;rintro n9 y1 y2 y3 y4 y5 y6 y7 y8 h;rcases n9 with _ | n9
 ·cases h
 rw [wB.eq_2] at h;refine goC h ?_ ?_<;>intro bu h
 ·refine noS ?_;refine jE ?_;refine goL ?_;refine noB ?_;refine gUh 7 1 4 rfl rfl (by repeat constructor) (by repeat constructor) ?_;show V _ _ _ _ _;refine gBx 8 (fun bv=>?_)
  refine gWb (fun(c:Nat) (aa:Int) (ab:Int) (aj:Int) (ac:List gG) (f:List jB) (ad:List jN) (ae:Int) (ag:Int)=>⟨[(1,.L 4 (kV a1)),(3,.ptr 0 0),(5,.ptr 1 0),(6,.ptr 2 0),(7,.I y),(8,.L 7 (gW y5)),(9,.N c)],[bPr ai,bSt aa ab aj ac f ad ae ag,.box [.I 0,.I 0,.I 0,.nilsl,.nilsl,.nilsl,.I 0,.I 0]],Tryz.f34.ntmps⟩) (fun c aa ab aj ac f ad ae ag=>uW (gI.mk ai) a1 (fun aa ab aj ac f ad ae ag=>(cnd (decide ((f.length:Int)≥(y5.length:Int))) (
(some (gJ.mk aa ab (gJ.mk ak al y am an ao ap aq).node ac f ad ae ag))) (
wB (gI.mk ai) a1 (gJ.mk ak al y am an ao ap aq) n9 aa ab aj ac f ad ae ag))) (y5.drop c) aa ab aj ac f ad ae ag=some r) (fun c aa ab aj ac f ad ae ag=>y5.length - c) 0 y1 y2 y3 y4 [] y6 y7 y8 eJ h ?_
  rintro c aa ab aj ac f ad ae ag h;refine goL ?_;refine kX (fun aw=>?_) (fun aw=>?_)
  ·have ah:=uR aw;obtain⟨bq,ar,ax⟩:=drop_at ah;rw [ax,uW.eq_2] at h;obtain⟨⟨bi,bj,bk⟩,⟨bl,bm,bn⟩,br⟩:=bq;refine noS ?_;refine jW (jE ?_);refine goL ?_;refine qI (jM c (gHr ar)) ?_;refine gH2 ?_;refine uF (P:=Tryz.prog) Mix.h [(0,true),(1,true),(2,true),(3,true),(4,true),(5,true),(6,true),(7,true),(8,true),(9,true),(10,true),(11,true),(12,true),(13,true),(14,false)] (by kernel_rfl) ?_;refine goY ?_;refine jI rfl (jM c (gHr ar)) ?_;refine goY ?_;refine jI rfl (jM c (gHr ar)) ?_;refine goY ?_;obtain⟨⟨ay,a3,a4,a5,a6,a7,a8,a9⟩,bo,h⟩:=gP h;refine jI rfl (gF (gSv _ _ _ _ _ _ _ bo)) ?_;refine goY ?_;refine kQ ?_;refine goL ?_;refine jL (jR c (by omega)) ?_;exact⟨(c+1),ay,a3,a4,a5,a6,a7,a8,a9,h,by omega,eJ⟩
  ·have ah:=uS aw;rw [jF ah,uW.eq_1] at h;refine goX ?_;refine kX (fun ba=>?_) (fun ba=>?_)
   ·replace h:=kD ba h;refine goX ?_;refine jK ?_;cases h;exact qA
   ·replace h:=kE ba h;refine zA ?_;exact⟨n9,aa,ab,aj,ac,f,ad,ae,ag,h,Nat.lt_succ_self _,eJ⟩
 ·refine goX ?_;refine jK ?_;cases h;exact qA
def gSx(c:gI)(f:List gY)(h:gJ):Option (gJ):=gLr c f h 50000000
section
variable {w:gI} {k:Int} (hw:gOw w k) (hi:gYe w) {wh:List gY} (hwh:gNl wh) (hwl:wh.length≤1000) {fs:List gU} (hf:pQ w wh=some fs) (hF:FV fs) {V:List (List UInt8)} (hV:V.length≤5) {B:Nat} (hB:B≤200000)
theorem PS.node{V:List (List UInt8)}{B:Nat}{s:gJ}{xs:List jB}(h:PS V B s xs)(n:Int):PS V B { s with node:=n } xs:=
 ⟨⟨h.inv.tri,h.inv.inf,h.inv.dt,h.inv.obl,h.inv.eqs⟩,h.eq,fun r hr hs=>⟨(h.hz r hr hs).1.of rfl rfl,(h.hz r hr hs).2⟩,h.ph,fun r hr hs=>⟨(h.hs r hr hs).1.of rfl rfl,(h.hs r hr hs).2⟩⟩
theorem PS.start{V:List (List UInt8)}{B:Nat}{s:gJ}(h:PS V B s []):PS V B { s with equations:=[] } s.equations:=
 ⟨⟨h.inv.tri,h.inv.inf,h.inv.dt,h.inv.obl,fun q hq=>by simp at hq⟩,h.inv.eqs,fun r hr hs=>⟨⟨(h.hz r hr hs).1.hb,fun q hq=>by simp at hq⟩,(h.hz r hr hs).1.he⟩,fun r hr hs hb=>by have:=h.ph r hr hs hb;simp only [phs] at this ⊢;omega,fun r hr hs=>⟨⟨(h.hs r hr hs).1.hb,fun q hq=>by simp at hq⟩,(h.hs r hr hs).1.he⟩⟩
structure hPp (s s':gJ):Prop where
 ext:∃l,s'.bindings=s.bindings++l
 nx:s'.next=s.next
 ct:s'.count=s.count
 ob:s'.obligations=s.obligations
theorem hPp.trans{s s' s'':gJ}(h:hPp s s')(h':hPp s' s''):hPp s s'':=by
 obtain⟨l,e⟩:=h.ext;obtain⟨l',e'⟩:=h'.ext;exact⟨⟨l++l',by rw [e',e,List.append_assoc]⟩,h'.nx.trans h.nx,h'.ct.trans h.ct,h'.ob.trans h.ob⟩
include hw hi hwh hwl hf hF hV hB
theorem hPq:∀(xs:List jB) (s:gJ),PS V B s xs→∃s',(∀f,uW w wh f xs s.next s.count s.node s.bindings s.equations s.obligations s.code s.at_=f s'.next s'.count s'.node s'.bindings s'.equations s'.obligations s'.code s'.at_)∧hPp s s'∧PS V B s' []∧
  ∀r,Rok r→Slv r s'.bindings→(∀v,r v≤30)→∀(y:List jB) (j:Nat) (nd:Int) f,y.drop j=xs→∃nd',yB s.next s.count s.obligations ⟨w,fs⟩ y f xs.length j nd s.code s.at_ s.bindings s.equations=f nd' s'.code s'.at_ s'.bindings s'.equations
 | [],s,h=>⟨s,fun f=>rfl,⟨⟨[],by simp⟩,rfl,rfl,rfl⟩,h,fun r _ _ _ y j nd f _=>⟨nd,rfl⟩⟩
 | x::xs,s,h=>by
   obtain⟨c,q1,q2,q3,q4⟩:=hPt hw hi hwh hwl hf hF hV hB (h.node x.node);obtain⟨s',p1,p2,p3,p4⟩:=hPq xs c q3;have o:hPp s c:=⟨q2.ext,q2.nx,q2.ct,q2.ob⟩
   refine⟨s',fun f=>?_,o.trans p2,p3,fun r hr hs hb y j nd f hd=>?_⟩
   ·have q1:pG 5000 w wh ⟨s.next,s.count,x.node,s.bindings,s.equations,s.obligations,s.code,s.at_⟩ x.a x.b 40=some c:=q1;rw [uW,jQ q1];exact p1 f
   ·have hyj:y[j]? =some x:=by
     have:(y.drop j)[0]? =some x:=by rw [hd];rfl
     rw [List.getElem?_drop] at this;simpa using this
    have hd2:y.drop (j+1)=xs:=by rw [←List.drop_drop,hd];rfl
    obtain⟨l,e⟩:=p2.ext;have hs2:Slv r c.bindings:=by rw [e] at hs;exact hs.pre
    have g:=q4 r hr hs2 hb;have g:gC6 5000 s.next s.count x.node s.bindings s.equations s.obligations s.code s.at_ ⟨w,fs⟩ x.a x.b 0=some (c.code,c.at_,c.bindings,c.equations):=g;have n1:c.next=s.next:=q2.nx;have n2:c.count=s.count:=q2.ct;have n3:c.obligations=s.obligations:=q2.ob;rw [List.length_cons,yB,yZ,hyj,jQ rfl];cases hc:(s.code==0)with
    | true=>
      obtain⟨nd',p5⟩:=p4 r hr hs hb y (j+1) x.node f hd2;rw [n1,n2,n3] at p5;rw [gZ,jQ g];exact⟨nd',p5⟩
    | false=>
      have hq:some (s.code,s.at_,s.bindings,s.equations)=some (c.code,c.at_,c.bindings,c.equations):=by
       rw [←g,show(5000:Nat)=4999+1 from rfl,gC6];unfold gMk;rw [show (s.code != 0)=true from by rw [bne,hc];rfl,gZ]
      obtain⟨nd',p5⟩:=p4 r hr hs hb y (j+1) nd f hd2;rw [n1,n2,n3] at p5;simp only [Option.some.injEq,Prod.mk.injEq] at hq;obtain⟨h1,h2,h3,h4⟩:=hq;rw [gK,h1,h2,h3,h4];exact⟨nd',p5⟩
theorem hVa(a2:gJ):∀(N n1 n2:Nat) (s:gJ),s.equations.length≤N→N < n1→N < n2→PS V B s []→∃s',wB w wh a2 n1 s.next s.count s.node s.bindings s.equations s.obligations s.code s.at_=some { s' with node:=a2.node }∧hPp s s'∧PS V B s' []∧
  (s.equations=[]→s'.bindings=s.bindings∧s'.code=s.code)∧
  ∀r,Rok r→Slv r s'.bindings→(∀v,r v≤30)→∀(nd:Int),uI s.next s.count a2.node s.obligations ⟨w,fs⟩ n2 nd s.code s.at_ s.bindings s.equations=some (a2.node,s'.code,s'.at_,s'.bindings,s'.equations):=by
 intro N
 induction N using Nat.strongRecOn with
 | ind N ih=>
   intro n1 n2 s hN h1 h2 h;obtain⟨n1,rfl⟩:∃i,n1=i+1:=⟨n1 - 1,by omega⟩
   obtain⟨n2,rfl⟩:∃i,n2=i+1:=⟨n2 - 1,by omega⟩
   rw [wB];cases hc:(s.code==0)with
   | false=>exact⟨s,rfl,⟨⟨[],by simp⟩,rfl,rfl,rfl⟩,h,fun _=>⟨rfl,rfl⟩,fun r _ _ _ nd=>by rw [uI,hc];rfl⟩
   | true=>
     obtain⟨c,p1,p2,p3,p4⟩:=hPq hw hi hwh hwl hf hF hV hB s.equations _ h.start;have p0:s.equations=[]→c.bindings=s.bindings∧c.code=s.code:=fun he=>by
      have g:=p1 (fun _ _ _ ac _ _ ad _=>some { s with bindings:=ac,code:=ad });rw [he,uW] at g;simp only [Option.some.injEq,gJ.mk.injEq] at g;exact⟨g.2.2.2.1.symm,g.2.2.2.2.2.2.1.symm⟩
     have p1:=p1 (fun y aa ae ac f ah ad ai=>cnd (decide ((f.length:Int)≥(s.equations.length:Int))) (some (gJ.mk y aa a2.node ac f ah ad ai)) (wB w wh a2 n1 y aa ae ac f ah ad ai));have o:hPp s c:=⟨p2.ext,p2.nx,p2.ct,p2.ob⟩
     rw [gZ];rw [show uW w wh _ s.equations s.next s.count s.node s.bindings [] s.obligations s.code s.at_=_ from p1];have hi2:∀r,Rok r→Slv r c.bindings→(∀v,r v≤30)→∀nd,∃nd',uI s.next s.count a2.node s.obligations ⟨w,fs⟩ (n2+1) nd s.code s.at_ s.bindings s.equations=cnd (decide ((c.equations.length:Int)≥(s.equations.length:Int))) (some (a2.node,c.code,c.at_,c.bindings,c.equations)) (uI s.next s.count a2.node s.obligations ⟨w,fs⟩ n2 nd' c.code c.at_ c.bindings c.equations):=fun r hr hs hb nd=>by
      obtain⟨nd',g⟩:=p4 r hr hs hb s.equations 0 nd (fun al y aa ae f=>cnd (decide ((f.length:Int)≥(s.equations.length:Int))) (some (a2.node,y,aa,ae,f)) (uI s.next s.count a2.node s.obligations ⟨w,fs⟩ n2 al y aa ae f)) rfl;refine⟨nd',?_⟩;rw [uI,hc,gZ];exact g
     cases hd:decide ((c.equations.length:Int)≥(s.equations.length:Int))with
     | true=>
       refine⟨c,rfl,o,p3,p0,fun r hr hs hb nd=>?_⟩
       ·obtain⟨nd',g⟩:=hi2 r hr hs hb nd;rw [hd] at g;exact g
     | false=>
       have hd:=of_decide_eq_false hd;obtain⟨s',g1,g2,g3,g4,g5⟩:=ih c.equations.length (by omega) n1 n2 c (Nat.le_refl _) (by omega) (by omega) p3;refine⟨s',g1,o.trans g2,g3,fun he=>by rw [he] at hd;simp at hd,fun r hr hs hb nd=>?_⟩;obtain⟨l,e⟩:=g2.ext;obtain⟨nd',g⟩:=hi2 r hr (by rw [e] at hs;exact hs.pre) hb nd;rw [decide_eq_false hd,gK] at g
       have:=g5 r hr hs hb nd'
       rw [o.nx,o.ct,o.ob] at this;exact g.trans this
end
theorem gUm{w:gI}{k:Int}(hw:gOw w k)(hi:gYe w):∀(l:List gY) (y:Nat) (acc:List gU),gNl l→uP w l y acc=pK w l y acc
 | [],y,acc,_=>rfl
 | b::l,y,acc,h=>by
   obtain⟨f,n,h0,h2⟩:=h b (by simp);have ht:tok b.type_:=by rw [h2];exact gH1 _ _
   have ih:=fun y acc=>gUm hw hi l y acc (fun c hc=>h c (by simp [hc]));rw [uP,pK,mK ht,mK ht];simp only [lt_];congr 1;rcases f with f | f | f
   ·rw [f,jQ hi.sh,jQ hw.sh,qU,qC];exact ih _ _
   ·rw [f,jQ hi.od,jQ hw.od,qU,qC,f,jQ hi.pa,jQ hw.pa,mK ht,mK ht];simp only [lt_,qU,qC];congr 1;exact ih _ _
   ·rw [f,jQ hi.ad,jQ hw.ad,qU,qC];exact ih _ _
theorem hAh{w:gI}{k:Int}(hw:gOw w k)(hi:gYe w){wh:List gY}(h:gNl wh):gE9 w wh=pQ w wh:=gUm hw hi wh 0 [] h
end Go.Proofs.YtegahmhnmjnhhaaGreat
