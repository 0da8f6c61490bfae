import Derived.Test.YtegahmhnmjnhhaaGreatPar
set_option maxHeartbeats 4000000
set_option linter.unusedVariables false
set_option linter.unusedSimpArgs false
set_option linter.unusedSectionVars false
namespace Go.Proofs.YtegahmhnmjnhhaaGreat
open Go Go.Eng
attribute [local irreducible] V VO VQ VY Quiet QR jC kT Rng mU mV mI
theorem hYi:okA=true:=by kernel_rfl
def pC(b:Bool):kI:=match yK (gWz b)with
 | some (p,_)=>p
 | none=>⟨[],[],[],[],[],[]⟩
def kC:Bool→Int
 | true=>7
 | false=>8
def hOy:Bool→List gH
 | true=>[⟨0,0⟩,⟨0,1⟩,⟨0,2⟩,⟨0,3⟩,⟨0,4⟩,⟨0,5⟩,⟨0,6⟩]
 | false=>[⟨0,0⟩,⟨0,1⟩,⟨0,2⟩,⟨0,3⟩,⟨0,4⟩,⟨0,5⟩,⟨0,6⟩,⟨0,7⟩]
theorem jEb(b:Bool)(rest:List kI):(yD ⟨pC b::rest⟩ addN).1.auto=false:=by cases b<;>kernel_rfl
theorem jEc(b:Bool)(rest:List kI):qQ ⟨pC b::rest⟩ [115,104,111,119]=some []:=by cases b<;>kernel_rfl
theorem jEd(b:Bool)(rest:List kI):qQ ⟨pC b::rest⟩ [111,114,100]=some [[101,113]]:=by cases b<;>kernel_rfl
theorem jEe(b:Bool)(rest:List kI):qQ ⟨pC b::rest⟩ addN=some []:=by cases b<;>kernel_rfl
theorem jEf(b:Bool)(rest:List kI):yJ ⟨pC b::rest⟩ [111,114,100] [101,113]=some ([0],true):=by cases b<;>kernel_rfl
theorem hB8(b:Bool)(rest:List kI):gAn ⟨pC b::rest⟩=mY rest 1 (hOy b++[⟨0,kC b⟩,⟨0,kC b+1⟩]):=by cases b<;>kernel_rfl
def jCk(w:gI)(l:List gH):Bool:=l.all fun o=>match gOl w o with
 | some i=> !(i.trait==addN)
 | none=>false
theorem hGy{w:gI}{l:List gH}(h:jCk w l=true):gUr w l:=by
 intro o ho
 have:=List.all_eq_true.1 h o ho
 split at this
 ·rename_i i hi;exact⟨i,hi,by simpa using this⟩
 ·cases this
theorem hT4(b:Bool)(rest:List kI):jCk ⟨pC b::rest⟩ (hOy b)=true:=by cases b<;>kernel_rfl
def jCl(i:kG)(h:gB)(wh:List gY)(a:gB):Bool:=(i.trait==addN) && teq i.head h && !i.default_ && i.hasAssoc && teq i.assoc a && (i.where_.length==wh.length) && ((i.where_.zip wh).all fun p=>(p.1.trait==p.2.trait) && teq p.1.type_ p.2.type_)
def at2(w:gI)(o:gH)(h:gB)(wh:List gY)(a:gB):Bool:=match gOl w o with
 | some i=>jCl i h wh a
 | none=>false
theorem jEg(b:Bool)(rest:List kI):at2 ⟨pC b::rest⟩ ⟨0,kC b⟩ gAs [] gAs=true:=by cases b<;>kernel_rfl
theorem jEh(b:Bool)(rest:List kI):at2 ⟨pC b::rest⟩ ⟨0,kC b+1⟩ gC4 [⟨addN,⟨1,[97],[]⟩⟩] (gI5 (gH5 ⟨1,[97],[]⟩))=true:=by cases b<;>kernel_rfl
theorem hYj(b:Bool):(pC b).instances.length≤100:=by cases b<;>exact of_decide_eq_true (by kernel_rfl)
theorem hOz{w:gI}{o:gH}{h a:gB}{wh:List gY}(hh:at2 w o h wh a=true):∃i,gOl w o=some i∧i.trait=addN∧i.head=h∧i.where_=wh∧i.default_=false∧i.hasAssoc=true∧i.assoc=a:=by
 unfold at2 at hh;split at hh
 ·rename_i i hi;unfold jCl at hh;simp only [Bool.and_eq_true,beq_iff_eq,Bool.not_eq_true'] at hh;obtain⟨⟨⟨⟨⟨⟨f,h2⟩,h3⟩,h4⟩,h5⟩,h6⟩,h7⟩:=hh;refine⟨i,hi,f,(gPn _ _).1 h2,?_,h3,h4,(gPn _ _).1 h5⟩;have key:∀(x y:List gY),x.length=y.length→((x.zip y).all fun p=>(p.1.trait==p.2.trait) && teq p.1.type_ p.2.type_)=true→x=y:=by
   intro x
   induction x with
   | nil=>intro y hl _;exact(List.eq_nil_of_length_eq_zero hl.symm).symm
   | cons c x ih=>
     intro y hl hq;cases y with
     | nil=>simp at hl
     | cons d y=>
       simp only [List.zip_cons_cons,List.all_cons,Bool.and_eq_true,beq_iff_eq] at hq;rw [ih y (by simpa using hl) hq.2];obtain⟨c1,c2⟩:=c;obtain⟨d1,d2⟩:=d;have e1:c1=d1:=hq.1.1;have e2:c2=d2:=(gPn _ _).1 hq.1.2;rw [e1,e2]
  exact key _ _ h6 h7
 ·cases hh
theorem inst_at{w:gI}{o:gH}{i:kG}(h:gOl w o=some i)(hw:w.packages.length≤1000)(hp:∀p∈w.packages,p.instances.length≤1000):gDb w o=some (i,true):=by
 obtain⟨p,c,f⟩:=gI3 h;obtain⟨a1,a2⟩:=gEd c;obtain⟨y,b2⟩:=gEd f;have c1:=(List.getElem?_eq_some_iff.1 a2).1;have c2:=(List.getElem?_eq_some_iff.1 b2).1;have c3:=hp p (List.mem_of_getElem? a2);have e1:gHw o.package 0 (IntKind.i64.wrap ((w.packages.length:Int) - 1))=true:=by
  unfold gHw lt_;rw [qR _ (by omega) (by omega),show decide (o.package≥0)=true from decide_eq_true a1,gZ];exact decide_eq_true (by omega)
 have e2:gHw o.at_ 0 (IntKind.i64.wrap ((p.instances.length:Int) - 1))=true:=by
  unfold gHw lt_;rw [qR _ (by omega) (by omega),show decide (o.at_≥0)=true from decide_eq_true y,gZ];exact decide_eq_true (by omega)
 unfold gDb;simp only [e1,Bool.not_true,gK,c,bnd,e2,f]
def hGz(n:Nat):List kG→Nat→List gH
 | [],_=>[]
 | _::l,k=>⟨(n:Int),(k:Int)⟩::hGz n l (k+1)
theorem hG5(n:Nat)(f:List gH→Option (List gH)):∀(l:List kG) (k:Nat) (acc:List gH),acc.length+l.length≤4294967296→mR n f l k acc=f (acc++hGz n l k)
 | [],k,acc,_=>by simp [mR,hGz]
 | x::l,k,acc,h=>by
   simp only [List.length_cons] at h;rw [mR,mK (by simp;omega),hG5 n f l (k+1) _ (by simp;omega)];simp [hGz]
theorem hB9{n:Nat}{o:gH}:∀{l:List kG} {k:Nat},o∈hGz n l k→∃j:Nat,o=⟨(n:Int),((k+j:Nat):Int)⟩∧j < l.length
 | [],k,h=>by simp [hGz] at h
 | x::l,k,h=>by
   simp only [hGz,List.mem_cons] at h;rcases h with rfl | h
   ·exact⟨0,rfl,by simp⟩
   ·obtain⟨j,c,f⟩:=hB9 h;exact⟨j+1,by rw [c];congr 2;omega,by simp;omega⟩
theorem hO0(b:Bool)(rest:List kI)(h:rest=[]∨∃q,rest=[q]∧hRz q=true∧q.instances.length≤100):gOw ⟨pC b::rest⟩ (kC b):=by
 have hlen:(pC b::rest).length≤1000:=by rcases h with rfl | ⟨q,rfl,_⟩<;>simp
 have hpl:∀p∈pC b::rest,p.instances.length≤1000:=by
  intro p hp
  have:=hYj b
  rcases h with rfl | ⟨q,rfl,_,hq⟩
  ·simp only [List.mem_singleton] at hp;subst hp;omega
  ·simp only [List.mem_cons,List.not_mem_nil,or_false] at hp;rcases hp with rfl | rfl
   ·omega
   ·omega
 obtain⟨i,c,y,g3,g4,g5,g6,g7⟩:=hOz (jEg b rest);obtain⟨j,f,f2,f3,f4,f5,f6,f7⟩:=hOz (jEh b rest);refine⟨?_,⟨i,c,y,g3,g4,g5,g6,g7,inst_at c hlen hpl⟩,⟨j,f,f2,f3,f4,f5,f6,f7,inst_at f hlen hpl⟩,jEb b rest,jEc b rest,jEd b rest,jEe b rest,jEf b rest⟩;rcases h with rfl | ⟨q,rfl,hq1,hq2⟩
 ·exact⟨hOy b,[],by rw [hB8];rfl,hGy (hT4 b []),fun o ho=>by simp at ho⟩
 ·refine⟨hOy b,hGz 1 q.instances 0,?_,hGy (hT4 b [q]),fun o ho=>?_⟩
  ·rw [hB8];show mR 1 _ q.instances 0 _=_;rw [hG5 1 _ q.instances 0 _ (by cases b<;>(simp [hOy];omega))];simp [mY]
  ·obtain⟨n,rfl,hn⟩:=hB9 ho;refine⟨q.instances[n],?_,?_⟩
   ·unfold gOl;have e1:at? (pC b::[q]) (((1:Nat)):Int)=some q:=by rw [yZ];rfl
    show bnd (at? (pC b::[q]) (((1:Nat)):Int)) _=_;rw [jQ e1];show at? q.instances ((0+n:Nat):Int)=_;rw [yZ,Nat.zero_add,List.getElem?_eq_getElem hn]
   ·have:=List.all_eq_true.1 hq1 q.instances[n] (List.getElem_mem hn)
    simpa using this
def gQj(f:(List gG)→gB→gB→Option (Bool × List gG))(c:(List gG)→(List gB)→(List gB)→Option (Bool × List gG))(h:List gG)(p:gB)(t:gB):Option (Bool × List gG):=
(cnd (p.kind==1) (
bnd (gJi h p.name) fun x2=>
(cnd x2.2 (
(some ((teq x2.1 t),h))) (
gd (tok t) (lt_ (idT t) fun x5=>
gd (h.length+[(gG.mk p.name x5)].length≤4294967296) (
(some (true,(h++[(gG.mk p.name x5)])))))))) (
lt_ ((cnd (p.kind != t.kind) (true) ((!(p.name==t.name))))) fun b7=>
(cnd b7 (
(some (false,[]))) (
bnd (c h p.args t.args) fun y=>
(some (y.1,y.2))))))
def gVt(c:(List gG)→gB→gB→Option (Bool × List gG)):Prop:=∀(f:List gG) (h:gB) (y:gB) (w0:Nat) {r:Bool × List gG},c f h y=some r→Go.Eng.Spec Tryz.prog 189 [.sl 0 w0,.d (jS h),.d (jS y)] [.arr 101 4 w0 (gN f)] (fun sv Lo=>∃v'0,sv=.tup [.sl 0 v'0,.B r.1]∧Lo=[.arr 101 4 v'0 (gN r.2)])
def gJy(c:(List gG)→(List gB)→(List gB)→Option (Bool × List gG)):Prop:=∀(f:List gG) (h:List gB) (y:List gB) (w0:Nat) {r:Bool × List gG},c f h y=some r→Go.Eng.Spec Tryz.prog 157 [.sl 0 w0,.L 3 (jJ h),.L 3 (jJ y)] [.arr 101 4 w0 (gN f)] (fun sv Lo=>∃v'0,sv=.tup [.sl 0 v'0,.B r.1]∧Lo=[.arr 101 4 v'0 (gN r.2)])
theorem hMo{f}{c}(am:gVt f)(y:gJy c)(l0:List gG)(p:gB)(t:gB)(v0:Nat){r:Bool × List gG}(h:gQj f c l0 p t=some r):Go.Eng.Spec Tryz.prog 189 [.sl 0 v0,.d (jS p),.d (jS t)] [.arr 101 4 v0 (gN l0)] (fun sv Lo=>∃v'0,sv=.tup [.sl 0 v'0,.B r.1]∧Lo=[.arr 101 4 v'0 (gN r.2)]):=by
 obtain⟨au,ag,ar⟩:=p;obtain⟨ah,ai,ae⟩:=t;unfold gQj at h;refine kM 1 Tryz.func189 rfl (by kernel_rfl) rfl rfl fun A _=>?_;refine goC h ?_ ?_<;>intro c1 h
 ·refine goL ?_;obtain⟨⟨⟨ab,ac,ad⟩,ay⟩,aw,h⟩:=gP h;refine gGa (gY6 l0 ag aw) ?_;refine goC h ?_ ?_<;>intro c3 h
  ·refine goL ?_;refine gBn (gW2 (gIt (gB.mk ab ac ad) (gB.mk ah ai ae))) ?_;refine jK ?_;obtain rfl:=Option.some.inj h;exact zB [.sl 0 v0,.d (.b (teq (gB.mk ab ac ad) (gB.mk ah ai ae)))] [.arr 101 4 v0 (gN l0)] ⟨v0,rfl,rfl⟩
  ·refine noS ?_;refine jO (P:=Tryz.prog) Mix.h [(0,true),(1,true),(2,true),(3,true),(4,false),(5,true),(6,false),(7,false),(8,true),(9,true)] (by kernel_rfl) ?_;refine goY ?_;obtain⟨g4,h⟩:=mW h;obtain⟨⟨an,ao,ap⟩,ax,h⟩:=qB h;have sx5:=gA7 (gB.mk ah ai ae) g4;rw [ax] at sx5;refine gNa (sx5) ?_;refine goY ?_;refine gJ2 5 rfl rfl ?_;refine qE (T:=28) (us:=gN [(gG.mk ag (gB.mk an ao ap))]) ?_;obtain⟨g6,h⟩:=mW h;refine pV (T:=28) g6 ?_;refine goY ?_;refine kQ ?_;refine goL ?_;refine jK ?_;obtain rfl:=Option.some.inj h;exact zB [.sl 0 (v0+1),.B true] [.arr 101 4 (v0+1) (gN (l0++[(gG.mk ag (gB.mk an ao ap))]))] ⟨(v0+1),rfl,rfl⟩
 ·refine goS ?_;obtain⟨b7,hb7,h⟩:=qB h;refine jT ⟨[(0,.sl 0 v0),(4,.ptr 1 0),(5,.ptr 2 0),(44,.B b7)],[.arr 101 4 v0 (gN l0),bTy au ag ar,bTy ah ai ae],Tryz.f189.ntmps⟩ ?_ ?_
  ·exact gqZ 38 hb7
  refine goC h ?_ ?_<;>intro c9 h
  ·refine goL ?_;refine hIy 6 0 ?_;refine jK ?_;obtain rfl:=Option.some.inj h;exact zB [.sl 0 (v0+1),.B false] [.arr 101 4 (v0+1) []] ⟨(v0+1),rfl,rfl⟩
  ·refine goS ?_;obtain⟨⟨aj,ak⟩,av,h⟩:=gP h;refine yY [0] (y l0 ar ae v0 av) ?_;rintro _ _ ⟨al,rfl,rfl⟩;show VO _ _ _ _ ⟨(_,.tup [.sl 0 al,.B aj])::_,[.arr 101 4 al (gN ak),bTy au ag ar,bTy ah ai ae],_⟩ _;refine goL ?_;refine jK ?_;obtain rfl:=Option.some.inj h;exact zB [.sl 0 al,.B aj] [.arr 101 4 al (gN ak)] ⟨al,rfl,rfl⟩
def zT(c:(List gG)→gB→gB→Option (Bool × List gG))(all:List gB):List gB→Nat→(List gG)→Option (Bool × List gG)
 | [],f,h=>(some (true,h))
 | x7::xs,f,h=>bnd (at? all (f:Int)) fun x8=>
bnd (c h x7 x8) fun y=>
(cnd (!y.1) (
(some (false,[]))) (
zT c all xs (f+1) y.2))
def gJz(c:(List gG)→gB→gB→Option (Bool × List gG))(f:(List gG)→(List gB)→(List gB)→Option (Bool × List gG))(h:List gG)(p:List gB)(all:List gB):Option (Bool × List gG):=
(cnd ((p.length:Int) !=(all.length:Int)) (
(some (false,[]))) (
zT c all p 0 h))
theorem gZt{c}{f}(y:gVt c)(ac:gJy f)(l0:List gG)(p:List gB)(all:List gB)(v0:Nat){r:Bool × List gG}(h:gJz c f l0 p all=some r):Go.Eng.Spec Tryz.prog 157 [.sl 0 v0,.L 3 (jJ p),.L 3 (jJ all)] [.arr 101 4 v0 (gN l0)] (fun sv Lo=>∃v'0,sv=.tup [.sl 0 v'0,.B r.1]∧Lo=[.arr 101 4 v'0 (gN r.2)]):=by
 unfold gJz at h;refine kM 1 Tryz.func157 rfl (by kernel_rfl) rfl rfl fun A _=>?_;refine goC h ?_ ?_<;>intro c1 h
 ·refine goL ?_;refine hIy 6 0 ?_;refine jK ?_;obtain rfl:=Option.some.inj h;exact zB [.sl 0 (v0+1),.B false] [.arr 101 4 (v0+1) []] ⟨(v0+1),rfl,rfl⟩
 ·refine goS ?_;refine noB ?_;refine gBx 1 (fun z5=>?_);refine kS (fun(y4:Nat) (y2:List gG) (v3:Nat)=>⟨[(0,.sl 0 v3),(1,.L 3 (jJ p)),(2,.L 3 (jJ all)),(17,.I (p.length:Int)),(18,.N y4)],[.arr 101 4 v3 (gN y2)],Tryz.f157.ntmps⟩) (fun y4 y2 v3=>zT c all (p.drop y4) y4 y2=some r) (fun y4 y2 v3=>p.length - y4) 0 l0 v0 eJ h ?_;rintro y4 y2 v3 h;refine goL ?_;refine jW (kX (fun c6=>?_) (fun c6=>?_))
  ·have aa:=uR c6;obtain⟨x7,aw,aj⟩:=drop_at aa;rw [aj,zT.eq_2] at h;obtain⟨ak,al,am⟩:=x7;refine noS ?_;refine jW (jE ?_);refine gH2 ?_;refine jO (P:=Tryz.prog) Mix.h [(0,true),(1,true),(2,true),(3,true),(4,true),(5,true),(6,true),(7,true),(8,true),(9,false),(10,true),(11,true),(12,true),(13,true),(14,true)] (by kernel_rfl) ?_;refine goY ?_;refine jI rfl (jM y4 (zL aw)) ?_;refine goY ?_;obtain⟨x8,an,h⟩:=gP h;rw [yZ] at an;obtain⟨ao,ap,aq⟩:=x8;refine jI rfl (jM y4 (zL an)) ?_;refine goY ?_;obtain⟨⟨ar,ag⟩,ax,h⟩:=gP h;refine gUg [0] (y y2 (gB.mk ak al am) (gB.mk ao ap aq) v3 ax) ?_;rintro _ _ ⟨ab,rfl,rfl⟩;refine gSt (sv:=.tup [.sl 0 ab,.B ar]) (L':=[.arr 101 4 ab (gN ag)]) (by repeat(first | exact vV.nil | (apply vV.keep;focus ((repeat constructor);done)) | (apply vV.dep;focus kernel_rfl))) ?_;refine goY ?_;refine kQ ?_;refine goC h ?_ ?_<;>intro a3 h
   ·refine goL ?_;refine hIy 6 0 ?_;refine jK ?_;obtain rfl:=Option.some.inj h;exact zB [.sl 0 (ab+1),.B false] [.arr 101 4 (ab+1) []] ⟨(ab+1),rfl,rfl⟩
   ·refine goS ?_;refine jL (jR y4 (by omega)) ?_;exact⟨(y4+1),ag,ab,h,by omega,eJ⟩
  ·have aa:=uS c6;rw [jF aa,zT.eq_1] at h;refine goX ?_;refine jK ?_;obtain rfl:=Option.some.inj h;exact zB [.sl 0 v3,.B true] [.arr 101 4 v3 (gN y2)] ⟨v3,rfl,rfl⟩
mutual
def gJ0:Nat→(List gG)→gB→gB→Option (Bool × List gG)
 | 0,_,_,_=>none
 | n+1,c,f,h=>gQj (gJ0 n) (gB6 n) c f h
def gB6:Nat→(List gG)→(List gB)→(List gB)→Option (Bool × List gG)
 | 0,_,_,_=>none
 | n+1,c,f,h=>gJz (gJ0 n) (gB6 n) c f h
end
theorem hG6:∀(n:Nat),gVt (gJ0 n)∧gJy (gB6 n):=by
 intro n
 induction n with
 | zero=>exact⟨(by intro c f y w0 r h;cases h),(by intro c f y w0 r h;cases h)⟩
 | succ n ih=>
   obtain⟨ih0,ih1⟩:=ih;refine⟨(fun c f y w0 r h=>hMo ih0 ih1 c f y w0 h),(fun c f y w0 r h=>gZt ih0 ih1 c f y w0 h)⟩
theorem gZu:∀(n:Nat),gJy (gB6 n):=fun n=>(hG6 n).2
def gId(a b:List gB):Option (List gG × Bool):=(gB6 100000 [] a b).map fun r=>(r.2,r.1)
theorem gTq(a b:List gB){r:List gG × Bool}(h:gId a b=some r):Go.Eng.Spec Tryz.prog 157 [.nilsl,.L 3 (jJ a),.L 3 (jJ b)] [] (fun sv Lo=>sv=.tup [.L 4 (gN r.1),.B r.2]∧Lo=[]):=by
 unfold gId at h;cases hm:gB6 100000 [] a b with
 | none=>rw [hm] at h;cases h
 | some p=>
   rw [hm] at h;simp only [Option.map_some,Option.some.injEq] at h;subst h;exact Spec.nilF (gZu 100000 [] a b 0 hm)
def gAg(f:gB)(a1:gB):Option (List gG × Bool):=
bnd (gId [f] [a1]) fun c=>
(some (c.1,c.2))
theorem gN5(a0:gB)(a1:gB){r:List gG × Bool}(h:gAg a0 a1=some r):jC Tryz.prog 123 [.d (jS a0),.d (jS a1)] [.sl 4 (gN r.1),.b r.2]:=by
 obtain⟨c,f,y⟩:=a0;obtain⟨aa,ab,ac⟩:=a1;unfold gAg at h;refine SpI Tryz.func123 fun A _=>?_;refine goL ?_;refine gAk (u:=(.st [.i .i64 c,.s f,.sl 3 (jJ y)])) ?_;refine goL ?_;refine gAk (u:=(.st [.i .i64 aa,.s ab,.sl 3 (jJ ac)])) ?_;refine uZ 2 rfl rfl ?_;refine uZ 3 rfl rfl ?_;obtain⟨⟨ad,ae⟩,ah,h⟩:=gP h;refine yY [] (gTq [(gB.mk c f y)] [(gB.mk aa ab ac)] ah) ?_;rintro _ _ ⟨rfl,rfl⟩;show VO _ _ _ _ ⟨(_,.tup [.L 4 (gN ad),.B ae])::_,[bTy c f y,bTy aa ab ac,.frz 35 3 0 (jJ [(gB.mk c f y)]),.frz 35 3 0 (jJ [(gB.mk aa ab ac)])],_⟩ _;exact goR h
def gDp(c:gB)(a1:gB):Option (Bool):=
bnd (gAg c a1) fun f=>
(some f.2)
theorem gO8(c:gB)(a1:gB){r:Bool}(h:gDp c a1=some r):jC Tryz.prog 186 [.d (jS c),.d (jS a1)] [.b r]:=by
 obtain⟨y,aa,ab⟩:=c;obtain⟨ac,ad,ae⟩:=a1;unfold gDp at h;refine SpI Tryz.func186 fun A _=>?_;refine goL ?_;obtain⟨⟨ag,ah⟩,f,h⟩:=gP h;refine qI (gF (gN5 _ _ f)) ?_;exact goR h
theorem gT7{n:Nat}(ih:∀(p t:gB) (l:List gG),2*tnd p≤n→bok l→tok t→l.length+tnd p≤4000000→∃q,gJ0 n l p t=some q∧Agr (mtT p t l) q)(all:List gB)(hall:∀t∈all,tok t) :
  ∀(xs:List gB) (k:Nat) (l:List gG),2*gA6 xs≤n→bok l→all.length=k+xs.length→l.length+gA6 xs≤4000000→∃q,zT (gJ0 n) all xs k l=some q∧Agr (gZe xs (all.drop k) l) q
 | [],k,l,_,_,h,_=>⟨_,rfl,rfl⟩
 | x::xs,k,l,hn,hb,h,hl=>by
   simp only [List.length_cons] at h;simp only [gA6] at hn hl;have hk:k < all.length:=by omega
   have hx:all[k]? =some all[k]:=List.getElem?_eq_getElem hk;obtain⟨q,e1,c⟩:=ih x all[k] l (by omega) hb (hall _ (List.getElem_mem hk)) (by omega);rw [zT.eq_2,yZ,hx,List.drop_eq_getElem_cons hk];simp only [bnd,e1,gZe];cases hm:mtT x all[k] l with
   | none=>
     rw [hm] at c;have f:q.1=false:=c;simp only [f,Bool.not_false,gZ];exact⟨_,rfl,rfl⟩
   | some y=>
     rw [hm] at c;have f:q=(true,y):=c;subst f;simp only [Bool.not_true,gK];obtain⟨r1,r2⟩:=hAm hNy x all[k] l y (hall _ (List.getElem_mem hk)) hb hm;exact gT7 ih all hall xs (k+1) y (by omega) r1 (by omega) (by omega)
theorem gXo:∀(n:Nat),(∀(p t:gB) (l:List gG),2*tnd p≤n→bok l→tok t→l.length+tnd p≤4000000→∃q,gJ0 n l p t=some q∧Agr (mtT p t l) q)∧
  (∀(ps ts:List gB) (l:List gG),2*gA6 ps+1≤n→bok l→(∀t∈ts,tok t)→l.length+gA6 ps≤4000000→∃q,gB6 n l ps ts=some q∧Agr (cnd ((ps.length:Int) !=(ts.length:Int)) none (gZe ps ts l)) q)
 | 0=>⟨fun p t l h=>by have:=gBq p;omega,fun ps ts l h=>by omega⟩
 | n+1=>by
   obtain⟨ih1,ih2⟩:=gXo n;refine⟨fun p t l hn hb ht hl=>?_,fun ps ts l hn hb ht hl=>?_⟩
   ·obtain⟨k,nm,ps⟩:=p;simp only [tnd] at hn hl;rw [gJ0.eq_2];unfold gQj;simp only [lt_,idT,mtT];cases hk:(k==1)with
    | true=>
      simp only [gZ];have hlk:gJi l nm=some (lkp nm l):=gKk nm l hb;rw [jQ hlk];cases (lkp nm l).2 with
      | true=>
        simp only [gZ];refine⟨_,rfl,?_⟩;cases teq (lkp nm l).1 t<;>rfl
      | false=>
        simp only [gK];rw [mK ht,mK (by simp;omega)];exact⟨_,rfl,rfl⟩
    | false=>
      simp only [gK];obtain⟨q,f,y⟩:=ih2 ps t.args l (by omega) hb (hNy t ht) (by omega);cases c:(k != t.kind)with
      | true=>simp only [gZ];exact⟨_,rfl,rfl⟩
      | false=>
        simp only [gK];cases h2:(!(nm==t.name))with
        | true=>simp only [gZ];exact⟨_,rfl,rfl⟩
        | false=>
          simp only [gK];rw [jQ f];exact⟨_,rfl,y⟩
   ·rw [gB6.eq_2];unfold gJz;cases c:((ps.length:Int) !=(ts.length:Int))with
    | true=>simp only [gZ];exact⟨_,rfl,rfl⟩
    | false=>
      simp only [gK];have hlen:ts.length=0+ps.length:=by
       have:((ps.length:Int))=ts.length:=by simpa using c
       omega
      have:=gT7 ih1 ts ht ps 0 l (by omega) hb hlen (by omega)
      rwa [List.drop_zero] at this
theorem gT8(p t:gB)(hp:tnd p≤40000)(ht:tok t):∃q,gAg p t=some (q.2,q.1)∧Agr (mtT p t []) q:=by
 obtain⟨q,f,c⟩:=(gXo 100000).2 [p] [t] [] (by simp only [gA6];omega) (fun b hb=>by simp at hb) (by simpa using ht) (by simp [gA6];omega);refine⟨q,?_,?_⟩
 ·unfold gAg gId;rw [f];rfl
 ·have h:((([p]:List gB).length:Int) !=(([t]:List gB).length:Int))=false:=by simp
  rw [h,gK] at c;simp only [gZe] at c;cases hm:mtT p t [] with
  | none=>rw [hm] at c;exact c
  | some l=>rw [hm] at c;exact c
theorem Agr.fst{r:Option (List gG)}{q:Bool × List gG}(h:Agr r q):q.1=r.isSome:=by
 cases r with
 | none=>exact h
 | some l=>
   have h:q=(true,l):=h;rw [h];rfl
theorem gM8(p t:gB)(hp:tnd p≤40000)(ht:tok t):gDp p t=some (mtT p t []).isSome:=by
 obtain⟨q,c,f⟩:=gT8 p t hp ht;unfold gDp;rw [jQ c,←f.fst]
def gHi(c:gI)(a1:gH):Option (kG × Bool):=
bnd ((cnd (decide (a1.package < 0)) ((some true)) ((cnd (decide (a1.package≥(c.packages.length:Int))) ((some true)) ((cnd (decide (a1.at_ < 0)) ((some true)) (bnd (at? c.packages a1.package) fun f=>
(some (decide (a1.at_≥(f.instances.length:Int))))))))))) fun h=>
(cnd h (
(some ((kG.mk [] [] (gB.mk 0 [] []) [] false false (gB.mk 0 [] []) []),false))) (
bnd (at? c.packages a1.package) fun y=>
bnd (at? y.instances a1.at_) fun x8=>
(some (x8,true))))
theorem gO9(a0:gI)(a1:gH){r:kG × Bool}(h:gHi a0 a1=some r):jC Tryz.prog 122 [.d (kR a0),.d (qG a1)] [gCa r.1,.b r.2]:=by
 obtain⟨aa⟩:=a0;obtain⟨ab,ac⟩:=a1;unfold gHi at h;refine SpI Tryz.func122 fun A _=>?_;refine gH2 ?_;obtain⟨b1,hb1,h⟩:=gP h;refine uJ (P:=Tryz.prog) Mix.h ⟨[(2,.ptr 0 0),(3,.ptr 1 0),(4,.ptr 2 0),(34,.B b1)],[bPr aa,.box [.I ab,.I ac],.box [.S [],.nilsl,.I 0,.S [],.nilsl,.nilsl,.B false,.B false,.I 0,.S [],.nilsl,.nilsl]],Tryz.f122.ntmps⟩ (by kernel_rfl) ?_ ?_
 ·refine goL ?_;refine yQ 9 (fun c2=>?_) (fun c2=>?_)
  ·replace hb1:=kD c2 hb1;refine goL ?_;cases hb1;exact eJ
  ·replace hb1:=kE c2 hb1;refine goL ?_;refine yQ 17 (fun c3=>?_) (fun c3=>?_)
   ·replace hb1:=kD c3 hb1;refine goL ?_;cases hb1;exact eJ
   ·replace hb1:=kE c3 hb1;refine goL ?_;refine yQ 22 (fun c4=>?_) (fun c4=>?_)
    ·replace hb1:=kD c4 hb1;refine goL ?_;cases hb1;exact eJ
    ·replace hb1:=kE c4 hb1;refine goL ?_;obtain⟨x5,c,hb1⟩:=gP hb1;obtain⟨ad,c⟩:=gEd c;obtain⟨ar,au,av,aw,ax,ay⟩:=x5;refine gDf (qP ad (gBw c)) ?_;refine goL ?_;cases hb1;exact eJ
 refine goC h ?_ ?_<;>intro c6 h
 ·refine goL ?_;refine gAq (jU TBd.h TZ.h rfl (by repeat constructor)) ?_;exact goR h
 ·refine noS ?_;refine jO (P:=Tryz.prog) Mix.h [(0,true),(1,true),(2,true),(3,true),(4,true),(5,true),(6,true),(7,true),(8,true),(9,true),(10,true),(11,false),(12,true)] (by kernel_rfl) ?_;refine goY ?_;obtain⟨x7,f,h⟩:=gP h;obtain⟨ae,f⟩:=gEd f;obtain⟨a3,a4,a5,a6,a7,a8⟩:=x7;refine jI rfl (qP ae (gBw f)) ?_;refine goY ?_;obtain⟨x8,y,h⟩:=gP h;obtain⟨ag,y⟩:=gEd y;obtain⟨a9,ba,⟨ah,ai,aj⟩,bb,bc,bd,⟨ak,al,am⟩,be⟩:=x8;refine jI rfl (qP ag (gHn y)) ?_;refine goY ?_;refine kQ ?_;exact goR h
def gEx(f:gH)(a1:gI)(a2:gY):Option (Bool):=
bnd (gHi a1 f) fun c=>
bnd ((cnd (!(c.1.trait==a2.trait)) ((some true)) (bnd (gDp c.1.head a2.type_) fun h=>
(some (!h))))) fun y=>
(some y)
theorem hG7(a0:gH)(a1:gI)(a2:gY){r:Bool}(h:gEx a0 a1 a2=some r):jC Tryz.prog 185 [.d (qG a0),.dp (kR a1),.dp (zY a2)] [.b r]:=by
 obtain⟨ak,al⟩:=a0;obtain⟨au⟩:=a1;obtain⟨av,⟨am,an,ao⟩⟩:=a2;unfold gEx at h;refine SpI Tryz.func185 fun A _=>?_;refine goL ?_;obtain⟨⟨⟨ad,ae,⟨c,f,y⟩,ag,ah,ai,⟨aa,ab,ac⟩,aj⟩,aw⟩,aq,h⟩:=gP h;refine jL (gF (gO9 _ _ aq)) ?_;obtain⟨b2,hb2,h⟩:=gP h;refine jT ⟨[(4,.B b2)],[.box [.I ak,.I al],bIn ad ae c f y ag ah ai aa ab ac aj],Tryz.f185.ntmps⟩ ?_ ?_
 ·refine gqO 18 hb2 (fun c3 hb2=>?_);obtain⟨x4,ar,hb2⟩:=gP hb2;refine jL (gF (gO8 _ _ ar)) ?_;cases hb2;exact eJ
 exact goR h
def gA3(y:Nat)(c:(List gH)→Option (List gH)):List kG→Nat→(List gH)→Option (List gH)
 | [],f,h=>(c h)
 | aa::xs,f,h=>gd (h.length+[(gH.mk (y:Int) (f:Int))].length≤4294967296) (
gA3 y c xs (f+1) (h++[(gH.mk (y:Int) (f:Int))]))
def zJ:List kI→Nat→(List gH)→Option (List gH)
 | [],c,f=>(some f)
 | h::xs,c,f=>gA3 c (fun y=>zJ xs (c+1) y) h.instances 0 f
def gI9(w:gI):Option (List gH):=
zJ w.packages 0 []
theorem hEp(w:gI){r:List gH}(h:gI9 w=some r):Go.Eng.Spec Tryz.prog 184 [.d (kR w)] [] (fun sv Lo=>sv=.sl 0 0∧Lo=[.own 144 2 0 (kF r)]):=by
 obtain⟨c⟩:=w;unfold gI9 at h;refine kM 0 Tryz.func184 rfl (by kernel_rfl) rfl rfl fun A _=>?_;refine goL ?_;refine gF9 ?_;refine goL ?_;refine noB ?_;refine gBx 9 (fun z4=>?_);refine kS (fun(f:Nat) (y1:List gH) (v2:Nat)=>⟨[(3,.sl 1 v2),(9,.L 6 (gX c)),(10,.I (c.length:Int)),(11,.N f)],[bPr c,.own 144 2 v2 (kF y1)],Tryz.f184.ntmps⟩) (fun f y1 v2=>zJ (c.drop f) f y1=some r) (fun f y1 v2=>c.length - f) 0 [] 0 eJ h ?_;rintro f y1 v2 h;refine goL ?_;refine jW (kX (fun c5=>?_) (fun c5=>?_))
 ·have y:=uR c5;obtain⟨x6,a0,ak⟩:=drop_at y;rw [ak,zJ.eq_2] at h;obtain⟨al,am,an,ao,ab,ap⟩:=x6;refine noS ?_;refine jW (jE ?_);refine goL ?_;refine jL (jM f (gBw a0)) ?_;refine noB ?_;refine gBx 17 (fun bd=>?_);refine kS (fun(y9:Nat) (y7:List gH) (v8:Nat)=>⟨[(3,.sl 1 v8),(4,.N f),(9,.L 6 (gX c)),(10,.I (c.length:Int)),(11,.N f),(18,.I (ab.length:Int)),(19,.N y9)],[bPr c,.own 144 2 v8 (kF y7),bPk al am an ao ab ap],Tryz.f184.ntmps⟩) (fun y9 y7 v8=>gA3 f (fun y7=>zJ (c.drop (f+1)) (f+1) y7) (ab.drop y9) y9 y7=some r) (fun y9 y7 v8=>ab.length - y9) 0 y1 v2 eJ h ?_;rintro y9 y7 v8 h;refine goL ?_;refine jW (kX (fun ai=>?_) (fun ai=>?_))
  ·have aa:=uR ai;obtain⟨a3,bb,aj⟩:=drop_at aa;rw [aj,gA3.eq_2] at h;obtain⟨a4,a5,⟨aq,ar,au⟩,a6,a7,a8,⟨av,aw,ax⟩,a9⟩:=a3;refine noS ?_;refine jW (jE ?_);refine goL ?_;refine gAq (jU TBd.h TZ.h rfl (by repeat constructor)) ?_;refine gBc (gH.mk (f:Int) (y9:Int)) ?_;obtain⟨ba,h⟩:=mW h;refine gH3 ba ?_;refine goL ?_;refine jL (jR y9 (by omega)) ?_;exact⟨(y9+1),(y7++[(gH.mk (f:Int) (y9:Int))]),(v8+1),h,by omega,eJ⟩
  ·have aa:=uS ai;rw [jF aa,gA3.eq_1] at h;refine goX ?_;refine jL (jR f (by omega)) ?_;exact⟨(f+1),y7,v8,h,by omega,eJ⟩
 ·have y:=uS c5;rw [jF y,zJ.eq_1] at h;refine goX ?_;refine hXv (fr':=[(2,.sl 0 v2)]) (Lc:=[.own 144 2 v2 (kF y1)]) 0 [1] ?_;refine jBr (fr':=[(2,.sl 0 0)]) (L':=[.own 144 2 0 (kF y1)]) 0 0 ?_;refine jK ?_;obtain rfl:=Option.some.inj h;exact zB [.sl 0 0] [.own 144 2 0 (kF y1)] ⟨rfl,rfl⟩
def uV(a1:gH→Option Bool):List gH→Nat→Option (Int)
 | [],c=>(some (-1))
 | f::xs,c=>bnd (a1 f) fun h=>
(cnd h (
(some (c:Int))) (
uV a1 xs (c+1)))
def gDq(c:List gH)(a1:gH→Option Bool):Option (Int):=
uV a1 c 0
theorem gPu(y:List gH){a1f:Nat}{a1c:List SV}{a1:gH→Option Bool}(a1_lt:∀n,SV.lts n a1c=true)(ha1:∀(x0:gH) (r:Bool),a1 x0=some r→jC Tryz.prog a1f ([.d (qG x0)]++a1c) [.b r]){r:Int}(h:gDq y a1=some r):jC Tryz.prog 187 [.L 2 (kF y),.fn a1f a1c] [.i .i64 r]:=by
 unfold gDq at h;refine SpI Tryz.func187 fun A _=>?_;refine goL ?_;refine noB ?_;refine gBx 0 (fun z2=>?_);refine mQ (fun(f:Nat)=>⟨[(0,.L 2 (kF y)),(1,.fn a1f a1c),(7,.I (y.length:Int)),(8,.N f)],[],Tryz.f187.ntmps⟩) (fun f=>uV a1 (y.drop f) f=some r) (fun f=>y.length - f) 0 ⟨rfl,⟨⟨rfl,rfl⟩,⟨rfl,a1_lt _⟩,⟨rfl,rfl⟩,⟨rfl,rfl⟩,trivial⟩,⟨[],rfl⟩,rfl⟩ h ?_;rintro f h;refine goL ?_;refine jW (kX (fun c3=>?_) (fun c3=>?_))
 ·have c:=uR c3;obtain⟨x4,ac,aa⟩:=drop_at c;rw [aa,uV.eq_2] at h;obtain⟨ah,ai⟩:=x4;refine noS ?_;refine jW (jE ?_);refine goL ?_;refine jL (jM f (wZ ac)) ?_;obtain⟨x5,ad,h⟩:=gP h;refine jL (gN9 (ha1 _ _ ad) (a1_lt 0)) ?_;refine kX (fun c6=>?_) (fun c6=>?_)
  ·replace h:=kD c6 h;exact goR h
  ·replace h:=kE c6 h;refine goS ?_;refine jL (jR f (by omega)) ?_;exact⟨(f+1),h,by omega,⟨rfl,⟨⟨rfl,rfl⟩,⟨rfl,a1_lt _⟩,⟨rfl,rfl⟩,⟨rfl,rfl⟩,trivial⟩,⟨_,rfl⟩,rfl⟩⟩
 ·have c:=uS c3;rw [jF c,uV.eq_1] at h;refine goX ?_;refine jK ?_;cases h;exact qA
def wK(w:gI)(g:gY):Nat→(List gH)→Int→Int→Option (List gH)
 | 0,f,c,h=>none
 | n7+1,f,c,h=>(cnd (decide (h < (f.length:Int))) (
bnd (at? f h) fun x9=>
bnd (gEx x9 w g) fun y=>
(cnd (!y) (
bnd (at? f c) fun ac=>
wK w g n7 (f.set (Int.toNat c) x9) (IntKind.i64.wrap (c+1)) (IntKind.i64.wrap (h+1))) (
wK w g n7 f c (IntKind.i64.wrap (h+1))))) (
gd (0≤c∧c≤(f.length:Int)) (
gd (0≤c∧c≤((f.take (Int.toNat c)++List.replicate (f.length - Int.toNat c) (gH.mk 0 0)).length:Int)) (
(some ((f.take (Int.toNat c)++List.replicate (f.length - Int.toNat c) (gH.mk 0 0)).take (Int.toNat c)))))))
def gGk(c:List gH)(w:gI)(g:gY)(h:Nat):Option (List gH):=
bnd (gDq c (fun y=>gEx y w g)) fun f=>
(cnd (f==(-1)) (
(some c)) (
wK w g h c f (IntKind.i64.wrap (f+1))))
theorem gVu(l0:List gH)(w:gI)(g:gY)(v0:Nat){n0:Nat}{r:List gH}(h:gGk l0 w g n0=some r):Go.Eng.Spec Tryz.prog 183 [.sl 0 v0,.fn 185 [.ptr 1 0,.ptr 2 0]] [.arr 144 2 v0 (kF l0),bPr w.packages,bBd g.trait g.type_.kind g.type_.name g.type_.args] (fun sv Lo=>∃v'0,sv=.sl 0 v'0∧Lo=[.arr 144 2 v'0 (kF r),bPr w.packages,bBd g.trait g.type_.kind g.type_.name g.type_.args]):=by
 obtain⟨aa⟩:=w;obtain⟨ab,⟨c,f,y⟩⟩:=g;unfold gGk at h;refine kM 3 Tryz.func183 rfl (by kernel_rfl) rfl rfl fun A _=>?_;refine goL ?_;obtain⟨x1,au,h⟩:=gP h;refine gBn (hXw (gPu l0 (a1:=(fun z0=>gEx z0 (gI.mk aa) (gY.mk ab (gB.mk c f y)))) (fun _=>rfl) (fun z0 r hr=>hG7 z0 (gI.mk aa) (gY.mk ab (gB.mk c f y)) hr) au)) ?_;refine kX (fun c2=>?_) (fun c2=>?_)
 ·replace h:=kD c2 h;refine goL ?_;refine jK ?_;obtain rfl:=Option.some.inj h;exact zB [.sl 0 v0] [.arr 144 2 v0 (kF l0),bPr aa,bBd ab c f y] ⟨v0,rfl,rfl⟩
 ·replace h:=kE c2 h;refine goS ?_;refine jL (pR) ?_;refine noB ?_;refine gV4 (fun(n7:Nat) (y3:List gH) (y5:Int) (y6:Int) (v4:Nat)=>⟨[(0,.sl 0 v4),(1,.fn 185 [.ptr 1 0,.ptr 2 0]),(5,.I y5),(6,.I y6)],[.arr 144 2 v4 (kF y3),bPr aa,bBd ab c f y],Tryz.f183.ntmps⟩) (fun n7 y3 y5 y6 v4=>wK (gI.mk aa) (gY.mk ab (gB.mk c f y)) n7 y3 y5 y6=some r) (fun n7 y3 y5 y6 v4=>n7) n0 l0 x1 (IntKind.i64.wrap (x1+1)) v0 eJ h ?_;rintro n7 y3 y5 y6 v4 h;rcases n7 with _ | n7
  ·cases h
  rw [wK.eq_2] at h;refine goC h ?_ ?_<;>intro c8 h
  ·refine noS ?_;refine jW (jE ?_);refine goL ?_;obtain⟨x9,ak,h⟩:=gP h;obtain⟨aq,ak⟩:=gEd ak;obtain⟨ae,ag⟩:=x9;refine gAq (hI5 aq (List.getElem?_eq_some_iff.1 ak).1) ?_;refine gBn (hQ6 ak) ?_;obtain⟨a8,ar,h⟩:=gP h;refine gBn (jGg (dargs:=[_]) (hG7 (gH.mk ae ag) (gI.mk aa) (gY.mk ab (gB.mk c f y)) ar)) ?_;refine kX (fun am=>?_) (fun am=>?_)
   ·replace h:=kD am h;refine goL ?_;obtain⟨ax,ac,h⟩:=gP h;obtain⟨an,ac⟩:=gEd ac;obtain⟨ay,a0⟩:=ax;refine gAq (hI5 an (List.getElem?_eq_some_iff.1 ac).1) ?_;refine hU3 (gH.mk ae ag) (List.getElem?_eq_some_iff.1 ac).1 ?_;refine goL ?_;refine jL (pR) ?_;refine jL (pR) ?_;exact⟨n7,(y3.set (Int.toNat y5) (gH.mk ae ag)),(IntKind.i64.wrap (y5+1)),(IntKind.i64.wrap (y6+1)),v4,h,Nat.lt_succ_self _,eJ⟩
   ·replace h:=kE am h;refine goS ?_;refine jL (pR) ?_;exact⟨n7,y3,y5,(IntKind.i64.wrap (y6+1)),v4,h,Nat.lt_succ_self _,eJ⟩
  ·refine goX ?_;obtain⟨a3,h⟩:=mW h;refine hRg (gH.mk 0 0) a3 ?_;refine goL ?_;obtain⟨a4,h⟩:=mW h;refine hRh a4 ?_;refine goL ?_;refine jK ?_;obtain rfl:=Option.some.inj h;exact zB [.sl 0 (v4+1)] [.arr 144 2 (v4+1) (kF ((y3.take (Int.toNat y5)++List.replicate (y3.length - Int.toNat y5) (gH.mk 0 0)).take (Int.toNat y5))),bPr aa,bBd ab c f y] ⟨(v4+1),rfl,rfl⟩
def gLh(c:List gH)(f:gI)(h:gY):Option (List gH):=gGk c f h 5000
def gR4(c:gI)(a1:gY):Option (List gH):=
bnd (gI9 c) fun f=>
bnd (gLh f c a1) fun h=>
(some h)
theorem hQm(a0:gI)(a1:gY){r:List gH}(h:gR4 a0 a1=some r):jC Tryz.prog 152 [.d (kR a0),.d (zY a1)] [.sl 2 (kF r)]:=by
 obtain⟨aa⟩:=a0;obtain⟨ab,⟨c,f,y⟩⟩:=a1;unfold gR4 at h;refine SpI Tryz.func152 fun A _=>?_;refine goL ?_;obtain⟨x1,ad,h⟩:=gP h;refine yY [] (hEp (gI.mk aa) ad) ?_;rintro _ _ ⟨rfl,rfl⟩;show VO _ _ _ _ ⟨(_,.sl 2 0)::_,[bPr aa,bBd ab c f y,.own 144 2 0 (kF x1)],_⟩ _;refine qI (gZ1) ?_;refine hE6 2 ?_;obtain⟨x2,ae,h⟩:=gP h;refine yY [2,0,1] (gVu x1 (gI.mk aa) (gY.mk ab (gB.mk c f y)) 0 ae) ?_;rintro _ _ ⟨v3,rfl,rfl⟩;show VO _ _ _ _ ⟨(_,.sl 2 v3)::_,[bPr aa,bBd ab c f y,.arr 144 2 v3 (kF x2)],_⟩ _;refine goL ?_;refine kN 2 rfl rfl ?_;refine jK ?_;cases h;exact qA
end Go.Proofs.YtegahmhnmjnhhaaGreat
