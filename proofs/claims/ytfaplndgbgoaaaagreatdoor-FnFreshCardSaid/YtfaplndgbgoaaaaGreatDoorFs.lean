import Derived.Test.YtfaplndgbgoaaaaGreatDoorEng38
import Derived.Test.YtfaplndgbgoaaaaGreatDoorEng67
import Derived.KernelRfl
import Derived.Test.YtfaplndgbgoaaaaGreatDoorPar
import Derived.Test.YtfaplndgbgoaaaaGreatDoorSfi0
import Derived.Test.YtfaplndgbgoaaaaGreatDoorEng50
import Derived.Shelf.Lay
import Derived.Shelf.Strconv.Itoa3
import Derived.Shelf.LaysM
import Derived.Test.YtfaplndgbgoaaaaGreatDoorB15
set_option maxHeartbeats 4000000
set_option linter.unusedVariables false
set_option linter.unusedSimpArgs false
set_option linter.unusedSectionVars false
namespace Go.Proofs.YtfaplndgbgoaaaaGreatDoor
open Go Go.Eng
attribute [local irreducible] V VO VQ VY Quiet QR jB kX Rng uJ uY qW
theorem hOx:okA=true:=by kernel_rfl
def pC(b:Bool):jX:=match wC (gP6 b)with
 | some (p,_)=>p
 | none=>⟨[],[],[],[],[],[]⟩
def kC:Bool→Int
 | true=>7
 | false=>8
def hHe:Bool→List gT
 | true=>[⟨0,0⟩,⟨0,1⟩,⟨0,2⟩,⟨0,3⟩,⟨0,4⟩,⟨0,5⟩,⟨0,6⟩]
 | false=>[⟨0,0⟩,⟨0,1⟩,⟨0,2⟩,⟨0,3⟩,⟨0,4⟩,⟨0,5⟩,⟨0,6⟩,⟨0,7⟩]
theorem hUf(b:Bool)(rest:List jX):(vV ⟨pC b::rest⟩ addN).1.auto=false:=by cases b<;>kernel_rfl
theorem hUg(b:Bool)(rest:List jX):qF ⟨pC b::rest⟩ [115,104,111,119]=some []:=by cases b<;>kernel_rfl
theorem hUh(b:Bool)(rest:List jX):qF ⟨pC b::rest⟩ [111,114,100]=some [[101,113]]:=by cases b<;>kernel_rfl
theorem hUi(b:Bool)(rest:List jX):qF ⟨pC b::rest⟩ addN=some []:=by cases b<;>kernel_rfl
theorem hUj(b:Bool)(rest:List jX):wD ⟨pC b::rest⟩ [111,114,100] [101,113]=some ([0],true):=by cases b<;>kernel_rfl
theorem hCy(b:Bool)(rest:List jX):gAo ⟨pC b::rest⟩=qM rest 1 (hHe b++[⟨0,kC b⟩,⟨0,kC b+1⟩]):=by cases b<;>kernel_rfl
def hRh(w:gH)(l:List gT):Bool:=l.all fun o=>match gN2 w o with
 | some i=> !(i.trait==addN)
 | none=>false
theorem gYe{w:gH}{l:List gT}(h:hRh w l=true):gUs w l:=by
 intro o ho
 have:=List.all_eq_true.1 h o ho
 split at this
 ·rename_i i hi
  exact⟨i,hi,by simpa using this⟩
 ·cases this
theorem hHf(b:Bool)(rest:List jX):hRh ⟨pC b::rest⟩ (hHe b)=true:=by cases b<;>kernel_rfl
def hRi(i:jZ)(h:gD)(wh:List jD)(a:gD):Bool:=(i.trait==addN) && teq i.head h && !i.default_ && i.hasAssoc && teq i.assoc a && (i.where_.length==wh.length) && ((i.where_.zip wh).all fun p=>(p.1.trait==p.2.trait) && teq p.1.type_ p.2.type_)
def at2(w:gH)(o:gT)(h:gD)(wh:List jD)(a:gD):Bool:=match gN2 w o with
 | some i=>hRi i h wh a
 | none=>false
theorem hUk(b:Bool)(rest:List jX):at2 ⟨pC b::rest⟩ ⟨0,kC b⟩ gGm [] gGm=true:=by cases b<;>kernel_rfl
theorem hUl(b:Bool)(rest:List jX):at2 ⟨pC b::rest⟩ ⟨0,kC b+1⟩ gFi [⟨addN,⟨1,[97],[]⟩⟩] (gQd (gV5 ⟨1,[97],[]⟩))=true:=by cases b<;>kernel_rfl
theorem hOy(b:Bool):(pC b).instances.length≤100:=by cases b<;>exact of_decide_eq_true (by kernel_rfl)
theorem hCz{w:gH}{o:gT}{h a:gD}{wh:List jD}(hh:at2 w o h wh a=true):∃i,gN2 w o=some i∧i.trait=addN∧i.head=h∧i.where_=wh∧i.default_=false∧i.hasAssoc=true∧i.assoc=a:=by
 unfold at2 at hh
 split at hh
 ·rename_i i hi
  unfold hRi at hh
  simp only [Bool.and_eq_true,beq_iff_eq,Bool.not_eq_true'] at hh
  obtain⟨⟨⟨⟨⟨⟨h1,h2⟩,h3⟩,h4⟩,h5⟩,h6⟩,h7⟩:=hh
  refine⟨i,hi,h1,(gPy _ _).1 h2,?_,h3,h4,(gPy _ _).1 h5⟩
  have key:∀(x y:List jD),x.length=y.length→((x.zip y).all fun p=>(p.1.trait==p.2.trait) && teq p.1.type_ p.2.type_)=true→x=y:=by
   intro x
   induction x with
   | nil=>intro y hl _;exact(List.eq_nil_of_length_eq_zero hl.symm).symm
   | cons c x ih=>
     intro y hl hq
     cases y with
     | nil=>simp at hl
     | cons d y=>
       simp only [List.zip_cons_cons,List.all_cons,Bool.and_eq_true,beq_iff_eq] at hq
       rw [ih y (by simpa using hl) hq.2]
       obtain⟨c1,c2⟩:=c
       obtain⟨d1,d2⟩:=d
       have e1:c1=d1:=hq.1.1
       have e2:c2=d2:=(gPy _ _).1 hq.1.2
       rw [e1,e2]
  exact key _ _ h6 h7
 ·cases hh
theorem inst_at{w:gH}{o:gT}{i:jZ}(h:gN2 w o=some i)(hw:w.packages.length≤1000)(hp:∀p∈w.packages,p.instances.length≤1000):gBl w o=some (i,true):=by
 obtain⟨p,h1,h2⟩:=gJi h
 obtain⟨a1,a2⟩:=gD6 h1
 obtain⟨b1,b2⟩:=gD6 h2
 have c1:=(List.getElem?_eq_some_iff.1 a2).1
 have c2:=(List.getElem?_eq_some_iff.1 b2).1
 have c3:=hp p (List.mem_of_getElem? a2)
 have e1:gFe o.package 0 (IntKind.i64.wrap ((w.packages.length:Int) - 1))=true:=by
  unfold gFe lt_
  rw [wP _ (by omega) (by omega),show decide (o.package≥0)=true from decide_eq_true a1,jH]
  exact decide_eq_true (by omega)
 have e2:gFe o.at_ 0 (IntKind.i64.wrap ((p.instances.length:Int) - 1))=true:=by
  unfold gFe lt_
  rw [wP _ (by omega) (by omega),show decide (o.at_≥0)=true from decide_eq_true b1,jH]
  exact decide_eq_true (by omega)
 unfold gBl
 simp only [e1,Bool.not_true,gP,h1,bnd,e2,h2]
def hC1(n:Nat):List jZ→Nat→List gT
 | [],_=>[]
 | _::l,k=>⟨(n:Int),(k:Int)⟩::hC1 n l (k+1)
theorem hC3(n:Nat)(f:List gT→Option (List gT)):∀(l:List jZ) (k:Nat) (acc:List gT),acc.length+l.length≤4294967296→pR n f l k acc=f (acc++hC1 n l k)
 | [],k,acc,_=>by simp [pR,hC1]
 | x::l,k,acc,h=>by
   simp only [List.length_cons] at h
   rw [pR,pF (by simp;omega),hC3 n f l (k+1) _ (by simp;omega)]
   simp [hC1]
theorem gT7{n:Nat}{o:gT}:∀{l:List jZ} {k:Nat},o∈hC1 n l k→∃j:Nat,o=⟨(n:Int),((k+j:Nat):Int)⟩∧j < l.length
 | [],k,h=>by simp [hC1] at h
 | x::l,k,h=>by
   simp only [hC1,List.mem_cons] at h
   rcases h with rfl | h
   ·exact⟨0,rfl,by simp⟩
   ·obtain⟨j,h1,h2⟩:=gT7 h
    exact⟨j+1,by rw [h1];congr 2;omega,by simp;omega⟩
theorem hC4(b:Bool)(rest:List jX)(h:rest=[]∨∃q,rest=[q]∧hHo q=true∧q.instances.length≤100):gUt ⟨pC b::rest⟩ (kC b):=by
 have hlen:(pC b::rest).length≤1000:=by rcases h with rfl | ⟨q,rfl,_⟩<;>simp
 have hpl:∀p∈pC b::rest,p.instances.length≤1000:=by
  intro p hp
  have:=hOy b
  rcases h with rfl | ⟨q,rfl,_,hq⟩
  ·simp only [List.mem_singleton] at hp;subst hp;omega
  ·simp only [List.mem_cons,List.not_mem_nil,or_false] at hp
   rcases hp with rfl | rfl
   ·omega
   ·omega
 obtain⟨i,g1,g2,g3,g4,g5,g6,g7⟩:=hCz (hUk b rest)
 obtain⟨j,f1,f2,f3,f4,f5,f6,f7⟩:=hCz (hUl b rest)
 refine⟨?_,⟨i,g1,g2,g3,g4,g5,g6,g7,inst_at g1 hlen hpl⟩,⟨j,f1,f2,f3,f4,f5,f6,f7,inst_at f1 hlen hpl⟩,hUf b rest,hUg b rest,hUh b rest,hUi b rest,hUj b rest⟩
 rcases h with rfl | ⟨q,rfl,hq1,hq2⟩
 ·exact⟨hHe b,[],by rw [hCy];rfl,gYe (hHf b []),fun o ho=>by simp at ho⟩
 ·refine⟨hHe b,hC1 1 q.instances 0,?_,gYe (hHf b [q]),fun o ho=>?_⟩
  ·rw [hCy]
   show pR 1 _ q.instances 0 _=_
   rw [hC3 1 _ q.instances 0 _ (by cases b<;>(simp [hHe];omega))]
   simp [qM]
  ·obtain⟨n,rfl,hn⟩:=gT7 ho
   refine⟨q.instances[n],?_,?_⟩
   ·unfold gN2
    have e1:at? (pC b::[q]) (((1:Nat)):Int)=some q:=by rw [gD7];rfl
    show bnd (at? (pC b::[q]) (((1:Nat)):Int)) _=_
    rw [kG e1]
    show at? q.instances ((0+n:Nat):Int)=_
    rw [gD7,Nat.zero_add,List.getElem?_eq_getElem hn]
   ·have:=List.all_eq_true.1 hq1 q.instances[n] (List.getElem_mem hn)
    simpa using this
end Go.Proofs.YtfaplndgbgoaaaaGreatDoor
set_option linter.unusedVariables false
set_option linter.unusedSimpArgs false
namespace Go.Proofs
open Go.Shelf Go.RowKit
shelf_lay LaysM.n171 Nm 171 at Tryz as Tryz.laysItoa
theorem Tryz.strconv_Itoa(n:Int)(h0: -9223372036854775808≤n)(h1:n≤9223372036854775807)(w:World)(htab:Lib.TabIs Tryz.prog w "internal/strconv.uint64pow10" .u64 Lib.pow10Tab) :
  Calls Tryz.prog 20 #[.int .i64 n] w fun e w'=>e=.returned (.string ⟨(Lib.itoa n).toArray⟩)∧∃k os,w'=Sort.grow (w.drewN k) os:=Any.strconv_Itoa Tryz.laysItoa n h0 h1 w htab
end Go.Proofs
namespace Go.Proofs.YtfaplndgbgoaaaaGreatDoor
open Go Go.Eng Go.RowKit
theorem hHg(n:Int)(h:zH n):jB Tryz.prog 20 [.d (.i .i64 n)] [.s (Lib.itoa n)]:=by
 have hl:=Lib.itoa_length_le n h.1 h.2
 refine gXt ⟨_,Tryz.func20,by kernel_rfl,by kernel_rfl⟩ (by rw [yH];omega) fun S w vs hv hS hg=>?_
 match vs,hv with
 | [v],hv=>
   simp only [jV,and_true] at hv
   rw [SVr.int] at hv
   subst hv
   refine(Tryz.strconv_Itoa n h.1 h.2 w hg.1).mono ?_
   rintro e w' ⟨rfl,k,os,rfl⟩
   exact⟨rfl,Lib.below_grow _ w (Nat.le_refl _) k os⟩
end Go.Proofs.YtfaplndgbgoaaaaGreatDoor
set_option maxHeartbeats 4000000
set_option linter.unusedVariables false
set_option linter.unusedSimpArgs false
set_option linter.unusedSectionVars false
namespace Go.Proofs.YtfaplndgbgoaaaaGreatDoor
open Go Go.Eng
attribute [local irreducible] V VO VQ VY Quiet QR jB kX Rng uJ uY qW
def hKh(l:List gI):Prop:=l.length≤4294967296∧∀b∈l,tok b.type_
instance (l:List gI):Decidable (hKh l):=inferInstanceAs (Decidable (_∧_))
def hOz(l:List gI):List gI:=l
theorem hEp(l:List gI)(hl:l.length≤4294967296):Go.Eng.Spec Tryz.prog 49 [.L 4 (gQ l)] [] (fun sv Lo=>∃v,sv=.sl 0 v∧Lo=[.mix 92 4 v [] (gQ l)]):=by
 refine mP 0 Tryz.func49 rfl (by kernel_rfl) rfl rfl fun A _=>?_
 refine goL ?_
 refine hA4 (fun b hb=>?_)
 refine goL ?_
 cases b with
 | true=>
   have h0:l=[]:=by
    cases l with
    | nil=>rfl
    | cons a l=>cases hb rfl
   subst h0
   refine hIk ?_
   refine goL ?_
   refine hOr 92 4 2 ?_
   refine hA5 0 ?_
   refine jN ?_
   exact gFk [.sl 0 0] [.mix 92 4 0 [] []] ⟨0,rfl,rfl⟩
 | false=>
   refine hLb ?_
   refine gAi ?_
   refine goL ?_
   refine zN ?_
   refine goL ?_
   refine gBf (l:=[]) (r:=l) (by simpa using hl) ?_
   refine goL ?_
   refine hEg 0 ?_
   refine jN ?_
   exact gFk [.sl 0 (0+1)] [.mix 92 4 (0+1) [] (gQ l)] ⟨_,rfl,rfl⟩
theorem hEs(a b:List gI):gQ (a++b)=gQ a++gQ b:=by
 induction a with
 | nil=>rfl
 | cons x a ih=>simp only [List.cons_append,gQ,ih]
theorem gQ9(l:List gI)(h:hKh l):kX Tryz.prog 29 [.L 4 (gQ l)] [92] [.sl 4 (gQ (hOz l))]:=by
 have hlen:∀l:List gI,(gQ l).length=l.length:=fun l=>Enc.len l
 refine qI Tryz.func29 rfl (by kernel_rfl) rfl (by simp) fun A _=>?_
 refine goL ?_
 refine gG0 [] (hEp l h.1) ?_
 rintro _ _ ⟨v,rfl,rfl⟩
 show VO _ _ _ _ ⟨(_,.sl 0 v)::_,[.mix 92 4 v [] (gQ l)],_⟩ _
 refine goL ?_
 refine hFt (gXw rfl rfl) rfl ?_
 refine goL ?_
 refine noB ?_
 refine pJ (fun(k:Nat)=>⟨[(3,.sl 0 v),(8,.I (l.length:Int)),(9,.N k)],[.mix 92 4 v (gQ (l.take k)) (gQ (l.drop k))],Tryz.f29.ntmps⟩) (fun k=>k≤l.length) (fun k=>l.length - k) 0 ⟨rfl,⟨⟨rfl,rfl⟩,⟨by simp only [List.nil_append,hlen];rfl,rfl⟩,⟨rfl,rfl⟩,trivial⟩,⟨[],rfl⟩,rfl⟩ (Nat.zero_le _) ?_
 rintro k hk
 refine goL ?_
 refine kI (mO (fun c6=>?_) (fun c6=>?_))
 ·have hk2:k < l.length:=by have:=of_decide_eq_true c6;omega
  obtain⟨x,hx,hdx⟩:=drop_at hk2
  rw [hdx]
  obtain⟨x0,x1_0,x1_1,x1_2⟩:=x
  have hok:tok (gD.mk x1_0 x1_1 x1_2):=h.2 _ (List.mem_of_getElem? hx)
  have hc:=gG6 (gD.mk x1_0 x1_1 x1_2) hok
  change kX _ _ _ _ [jP (gD.mk x1_0 x1_1 x1_2)] at hc
  have hkl:(gQ (l.take k)).length=k:=by rw [hlen,List.length_take];omega
  have hin:k < (gQ (l.take k)++gQ (gI.mk x0 (gD.mk x1_0 x1_1 x1_2)::l.drop (k+1))).length:=by rw [List.length_append,hkl,hlen];simp
  have e1:gQ (l.take (k+1))=gQ (l.take k)++[.st ([.s x0]++[jP (gD.mk x1_0 x1_1 x1_2)])]:=by
   rw [List.take_add_one,hx,hEs]
   rfl
  refine noS ?_
  refine kI (jE ?_)
  refine goL ?_
  refine gA6 (hGx k hin) ?_
  refine gA6 (gM4 rfl rfl TF.h) ?_
  refine gA6 (gVl (pre:=[.s x0]) (u:=jP (gD.mk x1_0 x1_1 x1_2)) rfl rfl hkl rfl TI.h rfl rfl) ?_
  refine gJd hc ?_
  refine gA6 (hGx k hin) ?_
  refine gA6 (gM4 rfl rfl TF.h) ?_
  refine gXx (pre:=[.s x0]) (old:=jP (gD.mk x1_0 x1_1 x1_2)) (u:=jP (gD.mk x1_0 x1_1 x1_2)) (js:=[1]) (L':=[.mix 92 4 v (gQ (l.take (k+1))) (gQ (l.drop (k+1))),.dead 1]) rfl rfl hkl rfl rfl (by(repeat constructor);first | done | fail) rfl TI.h rfl rfl (by rw [e1];rfl) ?_
  refine goL ?_
  refine jI (jS k (by have:=h.1;omega)) ?_
  exact⟨(k+1),by omega,by omega,eJ⟩
 ·have hk3:l.length≤k:=by have:=of_decide_eq_false c6;omega
  rw [List.drop_of_length_le hk3,List.take_of_length_le hk3]
  refine goX ?_
  refine hEh 0 ?_
  refine jN ?_
  exact gPi
def vC(a0:gG)(x2:List gI)(y4:List kE):List kH→Nat→(List kH)→Option (gG)
 | [],y18,y16=>(some (gG.mk a0.next a0.count a0.node x2 y4 y16 a0.code a0.at_))
 | x21::xs,y18,y16=>gd (tok x21.goal.type_) (lt_ (idT x21.goal.type_) fun x23=>
gd (y18 < y16.length) (
vC a0 x2 y4 xs (y18+1) (y16.set y18 (kH.mk (jD.mk x21.goal.trait x23) x21.node))))
def vD(a0:gG)(x2:List gI):List kE→Nat→(List kE)→Option (gG)
 | [],y6,y4=>gd (a0.obligations.length≤4294967296) (
vC a0 x2 y4 a0.obligations 0 (List.replicate a0.obligations.length (kH.mk (jD.mk [] (gD.mk 0 [] [])) 0)))
 | x9::xs,y6,y4=>gd (tok x9.a) (lt_ (idT x9.a) fun x11=>
gd (tok x9.b) (lt_ (idT x9.b) fun x13=>
gd (y6 < y4.length) (
vD a0 x2 xs (y6+1) (y4.set y6 (kE.mk x11 x13 x9.node)))))
def gFx(a0:gG):Option (gG):=
gd (hKh a0.bindings) (lt_ (hOz a0.bindings) fun x2=>
gd (a0.equations.length≤4294967296) (
vD a0 x2 a0.equations 0 (List.replicate a0.equations.length (kE.mk (gD.mk 0 [] []) (gD.mk 0 [] []) 0))))
theorem gRa(a0:gG){r:gG}(h:gFx a0=some r):kX Tryz.prog 14 [.d (mE a0)] [92,69,72] [mE r]:=by
 obtain⟨a0_0,a0_1,a0_2,a0_3,a0_4,a0_5,a0_6,a0_7⟩:=a0
 unfold gFx at h
 refine qI Tryz.func14 rfl (by kernel_rfl) rfl (by simp) fun A _=>?_
 refine goL ?_
 obtain⟨g1,h⟩:=mZ h
 obtain⟨x2,hx2,h⟩:=qR h
 have sx2:=gQ9 a0_3 g1
 rw [hx2] at sx2
 refine gJd (sx2) ?_
 refine goL ?_
 obtain⟨g3,h⟩:=mZ h
 refine hDz (kE.mk (gD.mk 0 [] []) (gD.mk 0 [] []) 0) g3 ?_
 refine goL ?_
 refine noB ?_
 refine gFj 18 (fun z7=>?_)
 refine kR (fun(y6:Nat) (y4:List kE) (v5:Nat)=>⟨[(1,.ptr 0 0),(2,.ptr 1 0),(3,.sl 3 v5),(18,.L 7 (jY a0_4)),(19,.I (a0_4.length:Int)),(20,.N y6)],[.box [.I a0_0,.I a0_1,.I a0_2,.sl 2 0,.L 7 (jY a0_4),.L 5 (jR a0_5),.I a0_6,.I a0_7],.box [.I 0,.I 0,.I 0,.nilsl,.nilsl,.nilsl,.I 0,.I 0],.own 92 4 0 (gQ x2),.own 69 7 v5 (jY y4)],Tryz.f14.ntmps⟩) (fun y6 y4 v5=>vD (gG.mk a0_0 a0_1 a0_2 a0_3 a0_4 a0_5 a0_6 a0_7) x2 (a0_4.drop y6) y6 y4=some r) (fun y6 y4 v5=>a0_4.length - y6) 0 (List.replicate a0_4.length (kE.mk (gD.mk 0 [] []) (gD.mk 0 [] []) 0)) 0 eJ h ?_
 rintro y6 y4 v5 h
 refine goL ?_
 refine kI (mO (fun c8=>?_) (fun c8=>?_))
 ·have hky62:=wE c8
  obtain⟨x9,hx9,hdx9⟩:=drop_at hky62
  rw [hdx9,vD.eq_2] at h
  obtain⟨⟨x9_0_0,x9_0_1,x9_0_2⟩,⟨x9_1_0,x9_1_1,x9_1_2⟩,x9_2⟩:=x9
  refine noS ?_
  refine kI (jE ?_)
  refine goL ?_
  refine qP (jJ y6 (gJ5 hx9)) ?_
  refine gHk ?_
  refine uX (P:=Tryz.prog) Mix.h [(0,true),(1,true),(2,true),(3,true),(5,true),(6,true),(8,true),(9,true),(4,false),(7,false),(10,true),(11,false),(12,false)] (by kernel_rfl) ?_
  refine goY ?_
  obtain⟨g10,h⟩:=mZ h
  obtain⟨⟨x11_0,x11_1,x11_2⟩,hx11,h⟩:=qR h
  have sx11:=gG6 (gD.mk x9_0_0 x9_0_1 x9_0_2) g10
  rw [hx11] at sx11
  refine gSo (sx11) ?_
  obtain⟨g12,h⟩:=mZ h
  obtain⟨⟨x13_0,x13_1,x13_2⟩,hx13,h⟩:=qR h
  have sx13:=gG6 (gD.mk x9_1_0 x9_1_1 x9_1_2) g12
  rw [hx13] at sx13
  refine gSo (sx13) ?_
  refine goY ?_
  obtain⟨g14,h⟩:=mZ h
  refine hCo y6 g14 ?_
  refine hGy (kE.mk (gD.mk x11_0 x11_1 x11_2) (gD.mk x13_0 x13_1 x13_2) x9_2) g14 ?_
  refine kS ?_
  refine goL ?_
  refine jI (jS y6 (by omega)) ?_
  exact⟨(y6+1),(y4.set y6 (kE.mk (gD.mk x11_0 x11_1 x11_2) (gD.mk x13_0 x13_1 x13_2) x9_2)),v5,h,by omega,eJ⟩
 ·have hky62:=wF c8
  rw [jF hky62,vD.eq_1] at h
  refine goX ?_
  obtain⟨g15,h⟩:=mZ h
  refine hDz (kH.mk (jD.mk [] (gD.mk 0 [] [])) 0) g15 ?_
  refine goL ?_
  refine noB ?_
  refine gFj 45 (fun z19=>?_)
  refine kR (fun(y18:Nat) (y16:List kH) (v17:Nat)=>⟨[(1,.ptr 0 0),(2,.ptr 1 0),(6,.sl 4 v17),(45,.L 5 (jR a0_5)),(46,.I (a0_5.length:Int)),(47,.N y18)],[.box [.I a0_0,.I a0_1,.I a0_2,.sl 2 0,.sl 3 v5,.L 5 (jR a0_5),.I a0_6,.I a0_7],.box [.I 0,.I 0,.I 0,.nilsl,.nilsl,.nilsl,.I 0,.I 0],.own 92 4 0 (gQ x2),.own 69 7 v5 (jY y4),.own 72 5 v17 (jR y16)],Tryz.f14.ntmps⟩) (fun y18 y16 v17=>vC (gG.mk a0_0 a0_1 a0_2 a0_3 a0_4 a0_5 a0_6 a0_7) x2 y4 (a0_5.drop y18) y18 y16=some r) (fun y18 y16 v17=>a0_5.length - y18) 0 (List.replicate a0_5.length (kH.mk (jD.mk [] (gD.mk 0 [] [])) 0)) 0 eJ h ?_
  rintro y18 y16 v17 h
  refine goL ?_
  refine kI (mO (fun c20=>?_) (fun c20=>?_))
  ·have hky182:=wE c20
   obtain⟨x21,hx21,hdx21⟩:=drop_at hky182
   rw [hdx21,vC.eq_2] at h
   obtain⟨⟨x21_0_0,⟨x21_0_1_0,x21_0_1_1,x21_0_1_2⟩⟩,x21_1⟩:=x21
   refine noS ?_
   refine kI (jE ?_)
   refine goL ?_
   refine qP (jJ y18 (gJc hx21)) ?_
   refine gHk ?_
   refine uX (P:=Tryz.prog) Mix.h [(0,true),(1,true),(2,true),(3,true),(4,true),(5,true),(6,true),(7,true),(10,true),(11,true),(8,false),(9,true),(12,true),(13,false),(14,false)] (by kernel_rfl) ?_
   refine goY ?_
   obtain⟨g22,h⟩:=mZ h
   obtain⟨⟨x23_0,x23_1,x23_2⟩,hx23,h⟩:=qR h
   have sx23:=gG6 (gD.mk x21_0_1_0 x21_0_1_1 x21_0_1_2) g22
   rw [hx23] at sx23
   refine gSo (sx23) ?_
   refine goY ?_
   obtain⟨g24,h⟩:=mZ h
   refine hCo y18 g24 ?_
   refine hGy (kH.mk (jD.mk x21_0_0 (gD.mk x23_0 x23_1 x23_2)) x21_1) g24 ?_
   refine kS ?_
   refine goL ?_
   refine jI (jS y18 (by omega)) ?_
   exact⟨(y18+1),(y16.set y18 (kH.mk (jD.mk x21_0_0 (gD.mk x23_0 x23_1 x23_2)) x21_1)),v17,h,by omega,eJ⟩
  ·have hky182:=wF c20
   rw [jF hky182,vC.eq_1] at h
   refine goX ?_
   refine jN ?_
   obtain rfl:=Option.some.inj h
   exact gPi
def hEt(s:gG):Prop:=hKh s.bindings∧(s.equations.length≤4294967296∧∀q∈s.equations,tok q.a∧tok q.b)∧s.obligations.length≤4294967296∧∀o∈s.obligations,tok o.goal.type_
instance (s:gG):Decidable (hEt s):=inferInstanceAs (Decidable (_∧_))
def idS(s:gG):gG:=s
theorem hHh(s:gG)(x2:List gI)(y4:List kE):∀(xs:List kH) (k:Nat) (y:List kH),(∀o∈xs,tok o.goal.type_)→y.length=k+xs.length→vC s x2 y4 xs k y=some (gG.mk s.next s.count s.node x2 y4 (y.take k++xs) s.code s.at_)
 | [],k,y,_,h=>by
   simp only [vC,List.append_nil]
   rw [List.take_of_length_le (by simp at h;omega)]
 | x::xs,k,y,h1,h2=>by
   simp only [List.length_cons] at h2
   simp only [vC,lt_,idT]
   rw [pF (h1 x (by simp)),pF (by omega),hHh s x2 y4 xs (k+1) _ (fun z hz=>h1 z (by simp [hz])) (by simp;omega),gG5 (by omega)]
   simp
theorem hHl(s:gG)(x2:List gI)(ho:s.obligations.length≤4294967296∧∀o∈s.obligations,tok o.goal.type_):∀(xs:List kE) (k:Nat) (y:List kE),(∀q∈xs,tok q.a∧tok q.b)→y.length=k+xs.length→vD s x2 xs k y=some (gG.mk s.next s.count s.node x2 (y.take k++xs) s.obligations s.code s.at_)
 | [],k,y,_,h=>by
   simp only [vD,List.append_nil]
   rw [List.take_of_length_le (by simp at h;omega),pF ho.1,hHh s x2 y s.obligations 0 _ ho.2 (by simp)]
   simp
 | x::xs,k,y,h1,h2=>by
   simp only [List.length_cons] at h2
   simp only [vD,lt_,idT]
   rw [pF (h1 x (by simp)).1,pF (h1 x (by simp)).2,pF (by omega),hHl s x2 ho xs (k+1) _ (fun z hz=>h1 z (by simp [hz])) (by simp;omega),gG5 (by omega)]
   simp
theorem gPr(s:gG)(h:hEt s):gFx s=some (idS s):=by
 simp only [gFx,lt_,hOz,idS]
 rw [pF h.1,pF h.2.1.1,hHl s s.bindings h.2.2 s.equations 0 _ h.2.1.2 (by simp)]
 simp
theorem gRb(s:gG)(h:hEt s):kX Tryz.prog 14 [.d (mE s)] [92,69,72] [mE (idS s)]:=gRa s (gPr s h)
def gAk(a0:Int):Option (List UInt8):=
gd (zH a0) ((some (Lib.itoa a0)))
theorem gLa(a0:Int){r:List UInt8}(h:gAk a0=some r):jB Tryz.prog 9 [.I a0] [.s r]:=by
 unfold gAk at h
 refine SpI Tryz.func9 fun A _=>?_
 refine goL ?_
 obtain⟨g1,h⟩:=mZ h
 refine qP (gF (hHg a0 g1)) ?_
 exact goR h
def gIj(a0:List UInt8):gD:=
(gD.mk 1 a0 [])
theorem gVo(a0:List UInt8):kX Tryz.prog 31 [.S a0] [32] [jP (gIj a0)]:=by
 obtain⟨r,h⟩:∃r,gIj a0=r:=⟨_,rfl⟩
 rw [h]
 unfold gIj at h
 refine qI Tryz.func31 rfl (by kernel_rfl) rfl (by simp) fun A _=>?_
 refine goL ?_
 refine gFl (kD TBd.h TZ.h rfl (by repeat constructor)) ?_
 refine gW9 32 3 0 2 rfl rfl (by repeat constructor) (by repeat constructor) (by repeat constructor) (by repeat constructor) ?_
 refine jN ?_
 subst h
 exact gPi
def gIk(next:Int)(count:Int)(node:Int)(l1:List gI)(l2:List kE)(l3:List kH)(code:Int)(att:Int):Option (gD × Int × List gI × List kE × List kH):=
bnd (gAk next) fun x1=>
gd (([63]:List UInt8).length+x1.length≤4294967296) (
lt_ (gIj (([63]:List UInt8)++x1)) fun x3=>
(some (x3,(IntKind.i64.wrap (next+1)),l1,l2,l3)))
theorem hA9(next:Int)(count:Int)(node:Int)(l1:List gI)(l2:List kE)(l3:List kH)(code:Int)(att:Int)(v1:Nat)(v2:Nat)(v3:Nat){r:gD × Int × List gI × List kE × List kH}(h:gIk next count node l1 l2 l3 code att=some r):Go.Eng.Spec Tryz.prog 15 [.ptr 0 0] [.box [.I next,.I count,.I node,.sl 1 v1,.sl 2 v2,.sl 3 v3,.I code,.I att],.own 92 4 v1 (gQ l1),.own 69 7 v2 (jY l2),.own 72 5 v3 (jR l3)] (fun sv Lo=>∃v'1 v'2 v'3,sv=.ag [.I r.1.kind,.S r.1.name,.sl 4 0]∧Lo=[.box [.I r.2.1,.I count,.I node,.sl 1 v'1,.sl 2 v'2,.sl 3 v'3,.I code,.I att],.own 92 4 v'1 (gQ r.2.2.1),.own 69 7 v'2 (jY r.2.2.2.1),.own 72 5 v'3 (jR r.2.2.2.2),.own 32 3 0 (gJ r.1.args)]):=by
 unfold gIk at h
 refine mP 4 Tryz.func15 rfl (by kernel_rfl) rfl rfl fun A _=>?_
 refine goL ?_
 obtain⟨x1,hx1,h⟩:=gK h
 refine qP (gF (gLa next hx1)) ?_
 obtain⟨g2,h⟩:=mZ h
 refine qP (vB g2) ?_
 obtain⟨⟨x3_0,x3_1,x3_2⟩,hx3,h⟩:=qR h
 have sx3:=gVo (([63]:List UInt8)++x1)
 rw [hx3] at sx3
 refine gJd (sx3) ?_
 refine goL ?_
 refine jI (qC) ?_
 refine hRd (fr':=[(2,.ptr 5 0)]) (Lc:=[.box [.d (.i .i64 (IntKind.i64.wrap (next+1))),.I count,.I node,.sl 1 v1,.sl 2 v2,.sl 3 v3,.I code,.I att],.own 92 4 v1 (gQ l1),.own 69 7 v2 (jY l2),.own 72 5 v3 (jR l3),.own 32 3 0 (gJ x3_2),.box [.I x3_0,.S x3_1,.sl 4 0]]) 4 [0,1,2,3,5,4] ?_
 refine jN ?_
 obtain rfl:=Option.some.inj h
 exact gFk [.ag [.I x3_0,.S x3_1,.sl 4 0]] [.box [.d (.i .i64 (IntKind.i64.wrap (next+1))),.I count,.I node,.sl 1 v1,.sl 2 v2,.sl 3 v3,.I code,.I att],.own 92 4 v1 (gQ l1),.own 69 7 v2 (jY l2),.own 72 5 v3 (jR l3),.own 32 3 0 (gJ x3_2)] ⟨v1,v2,v3,rfl,rfl⟩
def gIl(a0:gG):Option (gG × gD):=
gd (hEt a0) (lt_ (idS a0) fun x2=>
bnd (gIk x2.next x2.count x2.node x2.bindings x2.equations x2.obligations x2.code x2.at_) fun x3=>
(some ((gG.mk x3.2.1 x2.count x2.node x3.2.2.1 x3.2.2.2.1 x3.2.2.2.2 x2.code x2.at_),x3.1)))
theorem gT8(a0:gG){r:gG × gD}(h:gIl a0=some r):kX Tryz.prog 6 [.d (mE a0)] [92,69,72,32] [mE r.1,jP r.2]:=by
 obtain⟨a0_0,a0_1,a0_2,a0_3,a0_4,a0_5,a0_6,a0_7⟩:=a0
 unfold gIl at h
 refine qI Tryz.func6 rfl (by kernel_rfl) rfl (by simp) fun A _=>?_
 refine goL ?_
 obtain⟨g1,h⟩:=mZ h
 obtain⟨⟨x2_0,x2_1,x2_2,x2_3,x2_4,x2_5,x2_6,x2_7⟩,hx2,h⟩:=qR h
 have sx2:=gRb (gG.mk a0_0 a0_1 a0_2 a0_3 a0_4 a0_5 a0_6 a0_7) g1
 rw [hx2] at sx2
 refine gJd (sx2) ?_
 refine goL ?_
 obtain⟨⟨⟨x3_0_0,x3_0_1,x3_0_2⟩,x3_1,x3_2,x3_3,x3_4⟩,hx3,h⟩:=gK h
 refine gG0 [6,3,4,5] (hA9 x2_0 x2_1 x2_2 x2_3 x2_4 x2_5 x2_6 x2_7 0 0 0 hx3) ?_
 rintro _ _ ⟨v4,v5,v6,rfl,rfl⟩
 show VO _ _ _ _ ⟨(_,.ag [.I x3_0_0,.S x3_0_1,.sl 7 0])::_,[.box [.I a0_0,.I a0_1,.I a0_2,.L 4 (gQ a0_3),.L 7 (jY a0_4),.L 5 (jR a0_5),.I a0_6,.I a0_7],.box [.I 0,.I 0,.I 0,.nilsl,.nilsl,.nilsl,.I 0,.I 0],.box [.I 0,.S [],.nilsl],.own 92 4 v4 (gQ x3_2),.own 69 7 v5 (jY x3_3),.own 72 5 v6 (jR x3_4),.box [.I x3_1,.I x2_1,.I x2_2,.sl 3 v4,.sl 4 v5,.sl 5 v6,.I x2_6,.I x2_7],.own 32 3 0 (gJ x3_0_2)],_⟩ _
 refine gHk ?_
 refine uZ (P:=Tryz.prog) Mix.h (.h 0 (.h 1 (.h 2 (.h 3 .nil .nil) .nil) (.h 2 (.h 1 (.h 3 .nil .nil) .nil) .nil)) (.h 1 (.h 0 (.h 2 (.h 3 .nil .nil) .nil) .nil) .nil)) ⟨[(2,.ptr 1 0),(3,.ptr 2 0)],[.box [.I a0_0,.I a0_1,.I a0_2,.L 4 (gQ a0_3),.L 7 (jY a0_4),.L 5 (jR a0_5),.I a0_6,.I a0_7],.box [.I x3_1,.I x2_1,.I x2_2,.sl 3 v4,.sl 4 v5,.sl 5 v6,.I x2_6,.I x2_7],.box [.I x3_0_0,.S x3_0_1,.sl 7 0],.own 92 4 v4 (gQ x3_2),.own 69 7 v5 (jY x3_3),.own 72 5 v6 (jR x3_4),.box [.I x3_1,.I x2_1,.I x2_2,.sl 3 v4,.sl 4 v5,.sl 5 v6,.I x2_6,.I x2_7],.own 32 3 0 (gJ x3_0_2),.box [.I x3_0_0,.S x3_0_1,.sl 7 0]],Tryz.f6.ntmps⟩ (by kernel_rfl) ?_ ?_
 ·refine wQ (mU jQ) ?_ ?_
  ·refine wQ (mU jQ) ?_ ?_
   ·refine goT ?_
    refine jW ?_
    exact vG 0 [0,1,2,3,4,5,6,7,8]
   refine goT ?_
   refine jO (mU jQ) ?_
   refine goT ?_
   refine jW ?_
   exact vG 0 [0,1,2,3,4,5,6,7,8]
  refine jO (mU jQ) ?_
  refine jO (mU jQ) ?_
  refine goT ?_
  refine jW ?_
  exact vG 0 [0,1,2,3,4,5,6,7,8]
 refine goL ?_
 refine jN ?_
 obtain rfl:=Option.some.inj h
 exact gPi
def nxS(s:gG):gG:=gG.mk (IntKind.i64.wrap (s.next+1)) s.count s.node s.bindings s.equations s.obligations s.code s.at_
def nxT(s:gG):gD:=gD.mk 1 (([63]:List UInt8)++Lib.itoa s.next) []
theorem gYf(s:gG)(hr:zH s.next):gIk s.next s.count s.node s.bindings s.equations s.obligations s.code s.at_=some (nxT s,IntKind.i64.wrap (s.next+1),s.bindings,s.equations,s.obligations):=by
 have hl:=Lib.itoa_length_le s.next hr.1 hr.2
 simp only [gIk,gAk]
 rw [pF hr]
 simp only [bnd,lt_]
 rw [pF (by simp;omega)]
 rfl
theorem gRc(s:gG)(h:hEt s)(hr:zH s.next):gIl s=some (nxS s,nxT s):=by
 unfold gIl
 rw [pF h]
 show bnd (gIk s.next s.count s.node s.bindings s.equations s.obligations s.code s.at_) _=_
 rw [gYf s hr]
 rfl
end Go.Proofs.YtfaplndgbgoaaaaGreatDoor
