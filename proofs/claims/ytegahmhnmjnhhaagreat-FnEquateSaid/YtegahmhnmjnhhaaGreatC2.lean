import Derived.Test.YtegahmhnmjnhhaaGreatPar
set_option maxHeartbeats 4000000
set_option linter.unusedVariables false
set_option linter.unusedSimpArgs false
set_option linter.unusedSectionVars false
namespace Go.Proofs.YtegahmhnmjnhhaaGreat
open Go Go.Eng
attribute [local irreducible] V VO VQ VY Quiet QR gY kR Rng mU mW mG
theorem jAt:okA=true:=by kernel_rfl
def pC(b:Bool):kH:=match yE (gVq b)with
 | some (p,_)=>p
 | none=>⟨[],[],[],[],[],[]⟩
def kC:Bool→Int
 | true=>7
 | false=>8
def hPy:Bool→List gH
 | true=>[⟨0,0⟩,⟨0,1⟩,⟨0,2⟩,⟨0,3⟩,⟨0,4⟩,⟨0,5⟩,⟨0,6⟩]
 | false=>[⟨0,0⟩,⟨0,1⟩,⟨0,2⟩,⟨0,3⟩,⟨0,4⟩,⟨0,5⟩,⟨0,6⟩,⟨0,7⟩]
theorem jGb(b:Bool)(rest:List kH):(wV ⟨pC b::rest⟩ addN).1.auto=false:=by cases b<;>kernel_rfl
theorem jGc(b:Bool)(rest:List kH):qY ⟨pC b::rest⟩ [115,104,111,119]=some []:=by cases b<;>kernel_rfl
theorem jGd(b:Bool)(rest:List kH):qY ⟨pC b::rest⟩ [111,114,100]=some [[101,113]]:=by cases b<;>kernel_rfl
theorem jGe(b:Bool)(rest:List kH):qY ⟨pC b::rest⟩ addN=some []:=by cases b<;>kernel_rfl
theorem jGf(b:Bool)(rest:List kH):yB ⟨pC b::rest⟩ [111,114,100] [101,113]=some ([0],true):=by cases b<;>kernel_rfl
theorem hCi(b:Bool)(rest:List kH):gAi ⟨pC b::rest⟩=pI rest 1 (hPy b++[⟨0,kC b⟩,⟨0,kC b+1⟩]):=by cases b<;>kernel_rfl
def jEh(w:gK)(l:List gH):Bool:=l.all fun o=>match gOw w o with
 | some i=> !(i.trait==addN)
 | none=>false
theorem hHp{w:gK}{l:List gH}(h:jEh w l=true):gU0 w l:=by
 intro o ho
 have:=List.all_eq_true.1 h o ho
 split at this
 ·rename_i i hi;exact⟨i,hi,by simpa using this⟩
 ·cases this
theorem hVf(b:Bool)(rest:List kH):jEh ⟨pC b::rest⟩ (hPy b)=true:=by cases b<;>kernel_rfl
def jEi(i:kG)(h:gB)(wh:List gW)(a:gB):Bool:=(i.trait==addN) && teq i.head h && !i.default_ && i.hasAssoc && teq i.assoc a && (i.where_.length==wh.length) && ((i.where_.zip wh).all fun p=>(p.1.trait==p.2.trait) && teq p.1.type_ p.2.type_)
def at2(w:gK)(o:gH)(h:gB)(wh:List gW)(a:gB):Bool:=match gOw w o with
 | some i=>jEi i h wh a
 | none=>false
theorem jGg(b:Bool)(rest:List kH):at2 ⟨pC b::rest⟩ ⟨0,kC b⟩ yP [] yP=true:=by cases b<;>kernel_rfl
theorem jGh(b:Bool)(rest:List kH):at2 ⟨pC b::rest⟩ ⟨0,kC b+1⟩ gC8 [⟨addN,⟨1,[97],[]⟩⟩] (gGe (gF3 ⟨1,[97],[]⟩))=true:=by cases b<;>kernel_rfl
theorem jAu(b:Bool):(pC b).instances.length≤100:=by cases b<;>exact of_decide_eq_true (by kernel_rfl)
theorem hPz{w:gK}{o:gH}{h a:gB}{wh:List gW}(hh:at2 w o h wh a=true):∃i,gOw w o=some i∧i.trait=addN∧i.head=h∧i.where_=wh∧i.default_=false∧i.hasAssoc=true∧i.assoc=a:=by
 unfold at2 at hh;split at hh
 ·rename_i i hi;unfold jEi at hh;simp only [Bool.and_eq_true,beq_iff_eq,Bool.not_eq_true'] at hh;obtain⟨⟨⟨⟨⟨⟨f,h2⟩,h3⟩,h4⟩,h5⟩,h6⟩,h7⟩:=hh;refine⟨i,hi,f,(gL3 _ _).1 h2,?_,h3,h4,(gL3 _ _).1 h5⟩;have key:∀(x y:List gW),x.length=y.length→((x.zip y).all fun p=>(p.1.trait==p.2.trait) && teq p.1.type_ p.2.type_)=true→x=y:=by
   intro x
   induction x with
   | nil=>intro y hl _;exact(List.eq_nil_of_length_eq_zero hl.symm).symm
   | cons c x ih=>
     intro y hl hq;cases y with
     | nil=>simp at hl
     | cons d y=>
       simp only [List.zip_cons_cons,List.all_cons,Bool.and_eq_true,beq_iff_eq] at hq;rw [ih y (by simpa using hl) hq.2];obtain⟨c1,c2⟩:=c;obtain⟨d1,d2⟩:=d;have e1:c1=d1:=hq.1.1;have e2:c2=d2:=(gL3 _ _).1 hq.1.2;rw [e1,e2]
  exact key _ _ h6 h7
 ·cases hh
theorem inst_at{w:gK}{o:gH}{i:kG}(h:gOw w o=some i)(hw:w.packages.length≤1000)(hp:∀p∈w.packages,p.instances.length≤1000):gDi w o=some (i,true):=by
 obtain⟨p,c,f⟩:=gJb h;obtain⟨a1,a2⟩:=gDy c;obtain⟨y,b2⟩:=gDy f;have c1:=(List.getElem?_eq_some_iff.1 a2).1;have c2:=(List.getElem?_eq_some_iff.1 b2).1;have c3:=hp p (List.mem_of_getElem? a2);have e1:gFl o.package 0 (IntKind.i64.wrap ((w.packages.length:Int) - 1))=true:=by
  unfold gFl lt_;rw [qR _ (by omega) (by omega),show decide (o.package≥0)=true from decide_eq_true a1,gT];exact decide_eq_true (by omega)
 have e2:gFl o.at_ 0 (IntKind.i64.wrap ((p.instances.length:Int) - 1))=true:=by
  unfold gFl lt_;rw [qR _ (by omega) (by omega),show decide (o.at_≥0)=true from decide_eq_true y,gT];exact decide_eq_true (by omega)
 unfold gDi;simp only [e1,Bool.not_true,gI,c,bnd,e2,f]
def hHq(n:Nat):List kG→Nat→List gH
 | [],_=>[]
 | _::l,k=>⟨(n:Int),(k:Int)⟩::hHq n l (k+1)
theorem hHr(n:Nat)(f:List gH→Option (List gH)):∀(l:List kG)(k:Nat)(acc:List gH),acc.length+l.length≤4294967296→mX n f l k acc=f (acc++hHq n l k)
 | [],k,acc,_=>by simp [mX,hHq]
 | x::l,k,acc,h=>by
   simp only [List.length_cons] at h;rw [mX,mI (by simp;omega),hHr n f l (k+1) _ (by simp;omega)];simp [hHq]
theorem hCk{n:Nat}{o:gH}:∀{l:List kG}{k:Nat},o∈hHq n l k→∃j:Nat,o=⟨(n:Int),((k+j:Nat):Int)⟩∧j < l.length
 | [],k,h=>by simp [hHq] at h
 | x::l,k,h=>by
   simp only [hHq,List.mem_cons] at h;rcases h with rfl | h
   ·exact⟨0,rfl,by simp⟩
   ·obtain⟨j,c,f⟩:=hCk h;exact⟨j+1,by rw [c];congr 2;omega,by simp;omega⟩
theorem hP0(b:Bool)(rest:List kH)(h:rest=[]∨∃q,rest=[q]∧hUb q=true∧q.instances.length≤100):gO8 ⟨pC b::rest⟩ (kC b):=by
 have hlen:(pC b::rest).length≤1000:=by rcases h with rfl | ⟨q,rfl,_⟩<;>simp
 have hpl:∀p∈pC b::rest,p.instances.length≤1000:=by
  intro p hp
  have:=jAu b
  rcases h with rfl | ⟨q,rfl,_,hq⟩
  ·simp only [List.mem_singleton] at hp;subst hp;omega
  ·simp only [List.mem_cons,List.not_mem_nil,or_false] at hp;rcases hp with rfl | rfl
   ·omega
   ·omega
 obtain⟨i,c,y,g3,g4,g5,g6,g7⟩:=hPz (jGg b rest);obtain⟨j,f,f2,f3,f4,f5,f6,f7⟩:=hPz (jGh b rest);refine⟨?_,⟨i,c,y,g3,g4,g5,g6,g7,inst_at c hlen hpl⟩,⟨j,f,f2,f3,f4,f5,f6,f7,inst_at f hlen hpl⟩,jGb b rest,jGc b rest,jGd b rest,jGe b rest,jGf b rest⟩;rcases h with rfl | ⟨q,rfl,hq1,hq2⟩
 ·exact⟨hPy b,[],by rw [hCi];rfl,hHp (hVf b []),fun o ho=>by simp at ho⟩
 ·refine⟨hPy b,hHq 1 q.instances 0,?_,hHp (hVf b [q]),fun o ho=>?_⟩
  ·rw [hCi];show mX 1 _ q.instances 0 _=_;rw [hHr 1 _ q.instances 0 _ (by cases b<;>(simp [hPy];omega))];simp [pI]
  ·obtain⟨n,rfl,hn⟩:=hCk ho;refine⟨q.instances[n],?_,?_⟩
   ·unfold gOw;have e1:at? (pC b::[q]) (((1:Nat)):Int)=some q:=by rw [zI];rfl
    show bnd (at? (pC b::[q]) (((1:Nat)):Int)) _=_;rw [jO e1];show at? q.instances ((0+n:Nat):Int)=_;rw [zI,Nat.zero_add,List.getElem?_eq_getElem hn]
   ·have:=List.all_eq_true.1 hq1 q.instances[n] (List.getElem_mem hn)
    simpa using this
def gQ3(f:(List gG)→gB→gB→Option (Bool × List gG))(c:(List gG)→(List gB)→(List gB)→Option (Bool × List gG))(l0:List gG)(p:gB)(t:gB):Option (Bool × List gG):=
(cnd (p.kind==1) (
bnd (gJu l0 p.name) fun y=>
(cnd y.2 (
(some ((teq y.1 t),l0))) (
gd (tok t) (lt_ (idT t) fun x5=>
gd (l0.length+[(gG.mk p.name x5)].length≤4294967296) (
(some (true,(l0++[(gG.mk p.name x5)])))))))) (
lt_ ((cnd (p.kind != t.kind) (true) ((!(p.name==t.name))))) fun b7=>
(cnd b7 (
(some (false,[]))) (
bnd (c l0 p.args t.args) fun h=>
(some (h.1,h.2))))))
def gVu(c:(List gG)→gB→gB→Option (Bool × List gG)):Prop:=∀(f:List gG)(h:gB)(y:gB)(w0:Nat){r:Bool × List gG},c f h y=some r→Go.Eng.Spec Tryz.prog 189 [.sl 0 w0,.d (jS h),.d (jS y)] [.arr 101 4 w0 (gP f)] (fun sv Lo=>∃v'0,sv=.tup [.sl 0 v'0,.B r.1]∧Lo=[.arr 101 4 v'0 (gP r.2)])
def gJ4(c:(List gG)→(List gB)→(List gB)→Option (Bool × List gG)):Prop:=∀(f:List gG)(h:List gB)(y:List gB)(w0:Nat){r:Bool × List gG},c f h y=some r→Go.Eng.Spec Tryz.prog 157 [.sl 0 w0,.L 3 (jH h),.L 3 (jH y)] [.arr 101 4 w0 (gP f)] (fun sv Lo=>∃v'0,sv=.tup [.sl 0 v'0,.B r.1]∧Lo=[.arr 101 4 v'0 (gP r.2)])
theorem hNx{f}{c}(aj:gVu f)(y:gJ4 c)(l0:List gG)(p:gB)(t:gB)(v0:Nat){r:Bool × List gG}(h:gQ3 f c l0 p t=some r):Go.Eng.Spec Tryz.prog 189 [.sl 0 v0,.d (jS p),.d (jS t)] [.arr 101 4 v0 (gP l0)] (fun sv Lo=>∃v'0,sv=.tup [.sl 0 v'0,.B r.1]∧Lo=[.arr 101 4 v'0 (gP r.2)]):=by
 obtain⟨ao,ak,am⟩:=p;obtain⟨ag,ah,ad⟩:=t;unfold gQ3 at h;refine kF 1 Tryz.func189 rfl (by kernel_rfl) rfl rfl fun A _=>?_;refine goC h ?_ ?_<;>intro c1 h
 ·refine goL ?_;obtain⟨⟨⟨aa,ab,ac⟩,ax⟩,av,h⟩:=gM h;refine gE3 (gZk l0 ak av) ?_;refine goC h ?_ ?_<;>intro c3 h
  ·refine goL ?_;refine gBn (gV9 (gI5 (gB.mk aa ab ac) (gB.mk ag ah ad))) ?_;refine jG ?_;obtain rfl:=Option.some.inj h;exact yK [.sl 0 v0,.d (.b (teq (gB.mk aa ab ac) (gB.mk ag ah ad)))] _ ⟨v0,rfl,rfl⟩
  ·refine noS ?_;refine jK (P:=Tryz.prog) Mix.h [(0,true),(1,true),(2,true),(3,true),(4,false),(5,true),(6,false),(7,false),(8,true),(9,true)] (by kernel_rfl) ?_;refine goY ?_;obtain⟨g4,h⟩:=mY h;obtain⟨⟨ap,aq,ar⟩,aw,h⟩:=qA h;have sx5:=zS (gB.mk ag ah ad) g4;rw [aw] at sx5;refine gMy (sx5) ?_;refine goY ?_;refine gKa 5 rfl rfl ?_;refine qE (T:=28) (us:=gP [(gG.mk ak (gB.mk ap aq ar))]) ?_;obtain⟨g6,h⟩:=mY h;refine pW (T:=28) g6 ?_;refine goY ?_;refine kQ ?_;refine goL ?_;refine jG ?_;obtain rfl:=Option.some.inj h;exact yK [.sl 0 (v0+1),.B true] _ ⟨(v0+1),rfl,rfl⟩
 ·refine goS ?_;obtain⟨b7,hb7,h⟩:=qA h;refine jT ⟨[(0,.sl 0 v0),(4,.ptr 1 0),(5,.ptr 2 0),(44,.B b7)],[.arr 101 4 v0 (gP l0),bTy ao ak am,bTy ag ah ad],Tryz.f189.ntmps⟩ ?_ ?_
  ·exact gqZ 38 hb7
  refine goC h ?_ ?_<;>intro c9 h
  ·refine goL ?_;refine hKk 6 0 ?_;refine jG ?_;obtain rfl:=Option.some.inj h;exact yK [.sl 0 (v0+1),.B false] _ ⟨(v0+1),rfl,rfl⟩
  ·refine goS ?_;obtain⟨⟨ai,an⟩,au,h⟩:=gM h;refine yJ [0] (y l0 am ad v0 au) ?_;rintro _ _ ⟨al,rfl,rfl⟩;show VO _ _ _ _ ⟨(_,.tup [.sl 0 al,.B ai])::_,[.arr 101 4 al (gP an),bTy ao ak am,bTy ag ah ad],_⟩ _;refine goL ?_;refine jG ?_;obtain rfl:=Option.some.inj h;exact yK [.sl 0 al,.B ai] _ ⟨al,rfl,rfl⟩
def zP(c:(List gG)→gB→gB→Option (Bool × List gG))(all:List gB):List gB→Nat→(List gG)→Option (Bool × List gG)
 | [],f,h=>(some (true,h))
 | x7::xs,f,h=>bnd (at? all (f:Int)) fun x8=>
bnd (c h x7 x8) fun y=>
(cnd (!y.1) (
(some (false,[]))) (
zP c all xs (f+1) y.2))
def gJ5(c:(List gG)→gB→gB→Option (Bool × List gG))(f:(List gG)→(List gB)→(List gB)→Option (Bool × List gG))(l0:List gG)(p:List gB)(all:List gB):Option (Bool × List gG):=
(cnd ((p.length:Int) !=(all.length:Int)) (
(some (false,[]))) (
zP c all p 0 l0))
theorem gZ2{c}{f}(y:gVu c)(ab:gJ4 f)(l0:List gG)(p:List gB)(all:List gB)(v0:Nat){r:Bool × List gG}(h:gJ5 c f l0 p all=some r):Go.Eng.Spec Tryz.prog 157 [.sl 0 v0,.L 3 (jH p),.L 3 (jH all)] [.arr 101 4 v0 (gP l0)] (fun sv Lo=>∃v'0,sv=.tup [.sl 0 v'0,.B r.1]∧Lo=[.arr 101 4 v'0 (gP r.2)]):=by
 unfold gJ5 at h;refine kF 1 Tryz.func157 rfl (by kernel_rfl) rfl rfl fun A _=>?_;refine goC h ?_ ?_<;>intro c1 h
 ·refine goL ?_;refine hKk 6 0 ?_;refine jG ?_;obtain rfl:=Option.some.inj h;exact yK [.sl 0 (v0+1),.B false] _ ⟨(v0+1),rfl,rfl⟩
 ·refine goS ?_;refine noB ?_;refine gB0 1 (fun z5=>?_);refine kS (fun(y4:Nat)(y2:List gG)(v3:Nat)=>⟨[(0,.sl 0 v3),(1,.L 3 (jH p)),(2,.L 3 (jH all)),(17,.I (p.length:Int)),(18,.N y4)],[.arr 101 4 v3 (gP y2)],Tryz.f157.ntmps⟩) (fun y4 y2 v3=>zP c all (p.drop y4) y4 y2=some r) (fun y4 y2 v3=>p.length - y4) 0 l0 v0 eJ h ?_;rintro y4 y2 v3 h;refine goL ?_;refine jY (kX (fun c6=>?_) (fun c6=>?_))
  ·have aa:=uR c6;obtain⟨x7,av,aj⟩:=drop_at aa;rw [aj,zP.eq_2] at h;obtain⟨ak,al,am⟩:=x7;refine noS ?_;refine jY (jA ?_);refine gId ?_;refine jK (P:=Tryz.prog) Mix.h [(0,true),(1,true),(2,true),(3,true),(4,true),(5,true),(6,true),(7,true),(8,true),(9,false),(10,true),(11,true),(12,true),(13,true),(14,true)] (by kernel_rfl) ?_;refine goY ?_;refine jF rfl (jJ y4 (zJ av)) ?_;refine goY ?_;obtain⟨x8,an,h⟩:=gM h;rw [zI] at an;obtain⟨ao,ap,aq⟩:=x8;refine jF rfl (jJ y4 (zJ an)) ?_;refine goY ?_;obtain⟨⟨ar,ag⟩,aw,h⟩:=gM h;refine gS1 [0] (y y2 (gB.mk ak al am) (gB.mk ao ap aq) v3 aw) ?_;rintro _ _ ⟨ad,rfl,rfl⟩;refine gQe (sv:=.tup [.sl 0 ad,.B ar]) (L':=[.arr 101 4 ad (gP ag)]) (by repeat(first | exact uY.nil | (apply uY.keep;focus ((repeat constructor);done)) | (apply uY.dep;focus kernel_rfl))) ?_;refine goY ?_;refine kQ ?_;refine goC h ?_ ?_<;>intro a0 h
   ·refine goL ?_;refine hKk 6 0 ?_;refine jG ?_;obtain rfl:=Option.some.inj h;exact yK [.sl 0 (ad+1),.B false] _ ⟨(ad+1),rfl,rfl⟩
   ·refine goS ?_;refine jI (jW y4 (by omega)) ?_;exact⟨(y4+1),ag,ad,h,by omega,eJ⟩
  ·have aa:=uS c6;rw [jC aa,zP.eq_1] at h;refine goX ?_;refine jG ?_;obtain rfl:=Option.some.inj h;exact yK [.sl 0 v3,.B true] _ ⟨v3,rfl,rfl⟩
mutual
def gJ6:Nat→(List gG)→gB→gB→Option (Bool × List gG)
 | 0,_,_,_=>none
 | n+1,c,f,h=>gQ3 (gJ6 n) (gB5 n) c f h
def gB5:Nat→(List gG)→(List gB)→(List gB)→Option (Bool × List gG)
 | 0,_,_,_=>none
 | n+1,c,f,h=>gJ5 (gJ6 n) (gB5 n) c f h
end
theorem hHs:∀(n:Nat),gVu (gJ6 n)∧gJ4 (gB5 n):=by
 intro n
 induction n with
 | zero=>exact⟨(by intro c f y w0 r h;cases h),(by intro c f y w0 r h;cases h)⟩
 | succ n ih=>
   obtain⟨ih0,ih1⟩:=ih;refine⟨(fun c f y w0 r h=>hNx ih0 ih1 c f y w0 h),(fun c f y w0 r h=>gZ2 ih0 ih1 c f y w0 h)⟩
theorem gZ3:∀(n:Nat),gJ4 (gB5 n):=fun n=>(hHs n).2
def gIi(a b:List gB):Option (List gG × Bool):=(gB5 100000 [] a b).map fun r=>(r.2,r.1)
theorem gTy(a b:List gB){r:List gG × Bool}(h:gIi a b=some r):Go.Eng.Spec Tryz.prog 157 [.nilsl,.L 3 (jH a),.L 3 (jH b)] [] (fun sv Lo=>sv=.tup [.L 4 (gP r.1),.B r.2]∧Lo=[]):=by
 unfold gIi at h;cases hm:gB5 100000 [] a b with
 | none=>rw [hm] at h;cases h
 | some p=>
   rw [hm] at h;simp only [Option.map_some,Option.some.injEq] at h;subst h;exact Spec.nilF (gZ3 100000 [] a b 0 hm)
def gAj(f:gB)(a1:gB):Option (List gG × Bool):=
bnd (gIi [f] [a1]) fun c=>
(some (c.1,c.2))
theorem gN9(a0:gB)(a1:gB){r:List gG × Bool}(h:gAj a0 a1=some r):gY Tryz.prog 123 [.d (jS a0),.d (jS a1)] [.sl 4 (gP r.1),.b r.2]:=by
 obtain⟨c,f,y⟩:=a0;obtain⟨aa,ab,ac⟩:=a1;unfold gAj at h;refine SpI Tryz.func123 fun A _=>?_;refine goL ?_;refine gAo (u:=(.st [.i .i64 c,.s f,.sl 3 (jH y)])) ?_;refine goL ?_;refine gAo (u:=(.st [.i .i64 aa,.s ab,.sl 3 (jH ac)])) ?_;refine uZ 2 rfl rfl ?_;refine uZ 3 rfl rfl ?_;obtain⟨⟨ad,ae⟩,ah,h⟩:=gM h;refine yJ [] (gTy [(gB.mk c f y)] [(gB.mk aa ab ac)] ah) ?_;rintro _ _ ⟨rfl,rfl⟩;show VO _ _ _ _ ⟨(_,.tup [.L 4 (gP ad),.B ae])::_,[bTy c f y,bTy aa ab ac,.frz 35 3 0 (jH [(gB.mk c f y)]),.frz 35 3 0 (jH [(gB.mk aa ab ac)])],_⟩ _;exact goR h
def gDs(c:gB)(a1:gB):Option (Bool):=
bnd (gAj c a1) fun f=>
(some f.2)
theorem gPl(c:gB)(a1:gB){r:Bool}(h:gDs c a1=some r):gY Tryz.prog 186 [.d (jS c),.d (jS a1)] [.b r]:=by
 obtain⟨y,aa,ab⟩:=c;obtain⟨ac,ad,ae⟩:=a1;unfold gDs at h;refine SpI Tryz.func186 fun A _=>?_;refine goL ?_;obtain⟨⟨ag,ah⟩,f,h⟩:=gM h;refine qK (gF (gN9 _ _ f)) ?_;exact goR h
theorem gUg{n:Nat}(ih:∀(p t:gB)(l:List gG),2*tnd p≤n→bok l→tok t→l.length+tnd p≤4000000→∃q,gJ6 n l p t=some q∧Agr (mtT p t l) q)(all:List gB)(hall:∀t∈all,tok t) :
  ∀(xs:List gB)(k:Nat)(l:List gG),2*gAb xs≤n→bok l→all.length=k+xs.length→l.length+gAb xs≤4000000→∃q,zP (gJ6 n) all xs k l=some q∧Agr (gZo xs (all.drop k) l) q
 | [],k,l,_,_,h,_=>⟨_,rfl,rfl⟩
 | x::xs,k,l,hn,hb,h,hl=>by
   simp only [List.length_cons] at h;simp only [gAb] at hn hl;have hk:k < all.length:=by omega
   have hx:all[k]? =some all[k]:=List.getElem?_eq_getElem hk;obtain⟨q,e1,c⟩:=ih x all[k] l (by omega) hb (hall _ (List.getElem_mem hk)) (by omega);rw [zP.eq_2,zI,hx,List.drop_eq_getElem_cons hk];simp only [bnd,e1,gZo];cases hm:mtT x all[k] l with
   | none=>
     rw [hm] at c;have f:q.1=false:=c;simp only [f,Bool.not_false,gT];exact⟨_,rfl,rfl⟩
   | some y=>
     rw [hm] at c;have f:q=(true,y):=c;subst f;simp only [Bool.not_true,gI];obtain⟨r1,r2⟩:=gZs hMz x all[k] l y (hall _ (List.getElem_mem hk)) hb hm;exact gUg ih all hall xs (k+1) y (by omega) r1 (by omega) (by omega)
theorem gXo:∀(n:Nat),(∀(p t:gB)(l:List gG),2*tnd p≤n→bok l→tok t→l.length+tnd p≤4000000→∃q,gJ6 n l p t=some q∧Agr (mtT p t l) q)∧
  (∀(ps ts:List gB)(l:List gG),2*gAb ps+1≤n→bok l→(∀t∈ts,tok t)→l.length+gAb ps≤4000000→∃q,gB5 n l ps ts=some q∧Agr (cnd ((ps.length:Int) !=(ts.length:Int)) none (gZo ps ts l)) q)
 | 0=>⟨fun p t l h=>by have:=gBs p;omega,fun ps ts l h=>by omega⟩
 | n+1=>by
   obtain⟨ih1,ih2⟩:=gXo n;refine⟨fun p t l hn hb ht hl=>?_,fun ps ts l hn hb ht hl=>?_⟩
   ·obtain⟨k,nm,ps⟩:=p;simp only [tnd] at hn hl;rw [gJ6.eq_2];unfold gQ3;simp only [lt_,idT,mtT];cases hk:(k==1)with
    | true=>
      simp only [gT];have hlk:gJu l nm=some (lkp nm l):=gKs nm l hb;rw [jO hlk];cases (lkp nm l).2 with
      | true=>
        simp only [gT];refine⟨_,rfl,?_⟩;cases teq (lkp nm l).1 t<;>rfl
      | false=>
        simp only [gI];rw [mI ht,mI (by simp;omega)];exact⟨_,rfl,rfl⟩
    | false=>
      simp only [gI];obtain⟨q,f,y⟩:=ih2 ps t.args l (by omega) hb (hMz t ht) (by omega);cases c:(k != t.kind)with
      | true=>simp only [gT];exact⟨_,rfl,rfl⟩
      | false=>
        simp only [gI];cases h2:(!(nm==t.name))with
        | true=>simp only [gT];exact⟨_,rfl,rfl⟩
        | false=>
          simp only [gI];rw [jO f];exact⟨_,rfl,y⟩
   ·rw [gB5.eq_2];unfold gJ5;cases c:((ps.length:Int) !=(ts.length:Int))with
    | true=>simp only [gT];exact⟨_,rfl,rfl⟩
    | false=>
      simp only [gI];have hlen:ts.length=0+ps.length:=by
       have:((ps.length:Int))=ts.length:=by simpa using c
       omega
      have:=gUg ih1 ts ht ps 0 l (by omega) hb hlen (by omega)
      rwa [List.drop_zero] at this
theorem gUh(p t:gB)(hp:tnd p≤40000)(ht:tok t):∃q,gAj p t=some (q.2,q.1)∧Agr (mtT p t []) q:=by
 obtain⟨q,f,c⟩:=(gXo 100000).2 [p] [t] [] (by simp only [gAb];omega) (fun b hb=>by simp at hb) (by simpa using ht) (by simp [gAb];omega);refine⟨q,?_,?_⟩
 ·unfold gAj gIi;rw [f];rfl
 ·have h:((([p]:List gB).length:Int) !=(([t]:List gB).length:Int))=false:=by simp
  rw [h,gI] at c;simp only [gZo] at c;cases hm:mtT p t [] with
  | none=>rw [hm] at c;exact c
  | some l=>rw [hm] at c;exact c
theorem Agr.fst{r:Option (List gG)}{q:Bool × List gG}(h:Agr r q):q.1=r.isSome:=by
 cases r with
 | none=>exact h
 | some l=>
   have h:q=(true,l):=h;rw [h];rfl
theorem gNf(p t:gB)(hp:tnd p≤40000)(ht:tok t):gDs p t=some (mtT p t []).isSome:=by
 obtain⟨q,c,f⟩:=gUh p t hp ht;unfold gDs;rw [jO c,←f.fst]
def gHn(c:gK)(a1:gH):Option (kG × Bool):=
bnd ((cnd (decide (a1.package < 0)) ((some true)) ((cnd (decide (a1.package≥(c.packages.length:Int))) ((some true)) ((cnd (decide (a1.at_ < 0)) ((some true)) (bnd (at? c.packages a1.package) fun f=>
(some (decide (a1.at_≥(f.instances.length:Int))))))))))) fun h=>
(cnd h (
(some ((kG.mk [] [] (gB.mk 0 [] []) [] false false (gB.mk 0 [] []) []),false))) (
bnd (at? c.packages a1.package) fun y=>
bnd (at? y.instances a1.at_) fun x8=>
(some (x8,true))))
theorem gPm(a0:gK)(a1:gH){r:kG × Bool}(h:gHn a0 a1=some r):gY Tryz.prog 122 [.d (kT a0),.d (qI a1)] [gCc r.1,.b r.2]:=by
 obtain⟨aa⟩:=a0;obtain⟨ab,ac⟩:=a1;unfold gHn at h;refine SpI Tryz.func122 fun A _=>?_;refine gId ?_;obtain⟨b1,hb1,h⟩:=gM h;refine uE (P:=Tryz.prog) Mix.h ⟨[(2,.ptr 0 0),(3,.ptr 1 0),(4,.ptr 2 0),(34,.B b1)],[bPr aa,.box [.I ab,.I ac],.box [.S [],.nilsl,.I 0,.S [],.nilsl,.nilsl,.B false,.B false,.I 0,.S [],.nilsl,.nilsl]],Tryz.f122.ntmps⟩ (by kernel_rfl) ?_ ?_
 ·refine goL ?_;refine vG 9 (fun c2=>?_) (fun c2=>?_)
  ·replace hb1:=kD c2 hb1;refine goL ?_;cases hb1;exact eJ
  ·replace hb1:=kE c2 hb1;refine goL ?_;refine vG 17 (fun c3=>?_) (fun c3=>?_)
   ·replace hb1:=kD c3 hb1;refine goL ?_;cases hb1;exact eJ
   ·replace hb1:=kE c3 hb1;refine goL ?_;refine vG 22 (fun c4=>?_) (fun c4=>?_)
    ·replace hb1:=kD c4 hb1;refine goL ?_;cases hb1;exact eJ
    ·replace hb1:=kE c4 hb1;refine goL ?_;obtain⟨x5,c,hb1⟩:=gM hb1;obtain⟨ad,c⟩:=gDy c;obtain⟨ar,au,av,aw,ax,ay⟩:=x5;refine gC1 (qW ad (gBt c)) ?_;refine goL ?_;cases hb1;exact eJ
 refine goC h ?_ ?_<;>intro c6 h
 ·refine goL ?_;refine zZ (jX TBd.h TZ.h rfl (by repeat constructor)) ?_;exact goR h
 ·refine noS ?_;refine jK (P:=Tryz.prog) Mix.h [(0,true),(1,true),(2,true),(3,true),(4,true),(5,true),(6,true),(7,true),(8,true),(9,true),(10,true),(11,false),(12,true)] (by kernel_rfl) ?_;refine goY ?_;obtain⟨x7,f,h⟩:=gM h;obtain⟨ae,f⟩:=gDy f;obtain⟨a3,a4,a5,a6,a7,a8⟩:=x7;refine jF rfl (qW ae (gBt f)) ?_;refine goY ?_;obtain⟨x8,y,h⟩:=gM h;obtain⟨ag,y⟩:=gDy y;obtain⟨a9,ba,⟨ah,ai,aj⟩,bb,bc,bd,⟨ak,al,am⟩,be⟩:=x8;refine jF rfl (qW ag (gHu y)) ?_;refine goY ?_;refine kQ ?_;exact goR h
def gEx(f:gH)(a1:gK)(a2:gW):Option (Bool):=
bnd (gHn a1 f) fun c=>
bnd ((cnd (!(c.1.trait==a2.trait)) ((some true)) (bnd (gDs c.1.head a2.type_) fun h=>
(some (!h))))) fun y=>
(some y)
theorem hHt(a0:gH)(a1:gK)(a2:gW){r:Bool}(h:gEx a0 a1 a2=some r):gY Tryz.prog 185 [.d (qI a0),.dp (kT a1),.dp (zW a2)] [.b r]:=by
 obtain⟨ak,al⟩:=a0;obtain⟨au⟩:=a1;obtain⟨av,⟨am,an,ao⟩⟩:=a2;unfold gEx at h;refine SpI Tryz.func185 fun A _=>?_;refine goL ?_;obtain⟨⟨⟨ad,ae,⟨c,f,y⟩,ag,ah,ai,⟨aa,ab,ac⟩,aj⟩,aw⟩,aq,h⟩:=gM h;refine jI (gF (gPm _ _ aq)) ?_;obtain⟨b2,hb2,h⟩:=gM h;refine jT ⟨[(4,.B b2)],[.box [.I ak,.I al],bIn ad ae c f y ag ah ai aa ab ac aj],Tryz.f185.ntmps⟩ ?_ ?_
 ·refine gqO 18 hb2 (fun c3 hb2=>?_);obtain⟨x4,ar,hb2⟩:=gM hb2;refine jI (gF (gPl _ _ ar)) ?_;cases hb2;exact eJ
 exact goR h
def gA6(y:Nat)(c:(List gH)→Option (List gH)):List kG→Nat→(List gH)→Option (List gH)
 | [],f,h=>(c h)
 | aa::xs,f,h=>gd (h.length+[(gH.mk (y:Int) (f:Int))].length≤4294967296) (
gA6 y c xs (f+1) (h++[(gH.mk (y:Int) (f:Int))]))
def zG:List kH→Nat→(List gH)→Option (List gH)
 | [],c,f=>(some f)
 | h::xs,c,f=>gA6 c (fun y=>zG xs (c+1) y) h.instances 0 f
def gJj(w:gK):Option (List gH):=
zG w.packages 0 []
theorem hFh(w:gK){r:List gH}(h:gJj w=some r):Go.Eng.Spec Tryz.prog 184 [.d (kT w)] [] (fun sv Lo=>sv=.sl 0 0∧Lo=[.own 144 2 0 (kK r)]):=by
 obtain⟨c⟩:=w;unfold gJj at h;refine kF 0 Tryz.func184 rfl (by kernel_rfl) rfl rfl fun A _=>?_;refine goL ?_;refine gGk ?_;refine goL ?_;refine noB ?_;refine gB0 9 (fun z4=>?_);refine kS (fun(f:Nat)(y1:List gH)(v2:Nat)=>⟨[(3,.sl 1 v2),(9,.L 6 (jQ c)),(10,.I (c.length:Int)),(11,.N f)],[bPr c,.own 144 2 v2 (kK y1)],Tryz.f184.ntmps⟩) (fun f y1 v2=>zG (c.drop f) f y1=some r) (fun f y1 v2=>c.length - f) 0 [] 0 eJ h ?_;rintro f y1 v2 h;refine goL ?_;refine jY (kX (fun c5=>?_) (fun c5=>?_))
 ·have y:=uR c5;obtain⟨x6,a0,ak⟩:=drop_at y;rw [ak,zG.eq_2] at h;obtain⟨al,am,an,ao,ab,ap⟩:=x6;refine noS ?_;refine jY (jA ?_);refine goL ?_;refine jI (jJ f (gBt a0)) ?_;refine noB ?_;refine gB0 17 (fun bd=>?_);refine kS (fun(y9:Nat)(y7:List gH)(v8:Nat)=>⟨[(3,.sl 1 v8),(4,.N f),(9,.L 6 (jQ c)),(10,.I (c.length:Int)),(11,.N f),(18,.I (ab.length:Int)),(19,.N y9)],[bPr c,.own 144 2 v8 (kK y7),bPk al am an ao ab ap],Tryz.f184.ntmps⟩) (fun y9 y7 v8=>gA6 f (fun y7=>zG (c.drop (f+1)) (f+1) y7) (ab.drop y9) y9 y7=some r) (fun y9 y7 v8=>ab.length - y9) 0 y1 v2 eJ h ?_;rintro y9 y7 v8 h;refine goL ?_;refine jY (kX (fun ai=>?_) (fun ai=>?_))
  ·have aa:=uR ai;obtain⟨a3,bb,aj⟩:=drop_at aa;rw [aj,gA6.eq_2] at h;obtain⟨a4,a5,⟨aq,ar,au⟩,a6,a7,a8,⟨av,aw,ax⟩,a9⟩:=a3;refine noS ?_;refine jY (jA ?_);refine goL ?_;refine zZ (jX TBd.h TZ.h rfl (by repeat constructor)) ?_;refine gBc (gH.mk (f:Int) (y9:Int)) ?_;obtain⟨ba,h⟩:=mY h;refine gIe ba ?_;refine goL ?_;refine jI (jW y9 (by omega)) ?_;exact⟨(y9+1),(y7++[(gH.mk (f:Int) (y9:Int))]),(v8+1),h,by omega,eJ⟩
  ·have aa:=uS ai;rw [jC aa,gA6.eq_1] at h;refine goX ?_;refine jI (jW f (by omega)) ?_;exact⟨(f+1),y7,v8,h,by omega,eJ⟩
 ·have y:=uS c5;rw [jC y,zG.eq_1] at h;refine goX ?_;refine jDx (fr':=[(2,.sl 0 v2)]) (Lc:=[.own 144 2 v2 (kK y1)]) 0 [1] ?_;refine jFx (fr':=[(2,.sl 0 0)]) (L':=[.own 144 2 0 (kK y1)]) 0 0 ?_;refine jG ?_;obtain rfl:=Option.some.inj h;exact yK [.sl 0 0] _ ⟨rfl,rfl⟩
def uU(a1:gH→Option Bool):List gH→Nat→Option (Int)
 | [],c=>(some (-1))
 | f::xs,c=>bnd (a1 f) fun h=>
(cnd h (
(some (c:Int))) (
uU a1 xs (c+1)))
def gDt(c:List gH)(a1:gH→Option Bool):Option (Int):=
uU a1 c 0
theorem gP8(y:List gH){a1f:Nat}{a1c:List SV}{a1:gH→Option Bool}(a1_lt:∀n,SV.lts n a1c=true)(ha1:∀(x0:gH)(r:Bool),a1 x0=some r→gY Tryz.prog a1f ([.d (qI x0)]++a1c) [.b r]){r:Int}(h:gDt y a1=some r):gY Tryz.prog 187 [.L 2 (kK y),.fn a1f a1c] [.i .i64 r]:=by
 unfold gDt at h;refine SpI Tryz.func187 fun A _=>?_;refine goL ?_;refine noB ?_;refine gB0 0 (fun z2=>?_);refine mV (fun(f:Nat)=>⟨[(0,.L 2 (kK y)),(1,.fn a1f a1c),(7,.I (y.length:Int)),(8,.N f)],[],Tryz.f187.ntmps⟩) (fun f=>uU a1 (y.drop f) f=some r) (fun f=>y.length - f) 0 ⟨rfl,⟨⟨rfl,rfl⟩,⟨rfl,a1_lt _⟩,⟨rfl,rfl⟩,⟨rfl,rfl⟩,trivial⟩,⟨[],rfl⟩,rfl⟩ h ?_;rintro f h;refine goL ?_;refine jY (kX (fun c3=>?_) (fun c3=>?_))
 ·have c:=uR c3;obtain⟨x4,ac,aa⟩:=drop_at c;rw [aa,uU.eq_2] at h;obtain⟨ah,ai⟩:=x4;refine noS ?_;refine jY (jA ?_);refine goL ?_;refine jI (jJ f (wX ac)) ?_;obtain⟨x5,ad,h⟩:=gM h;refine jI (gOm (ha1 _ _ ad) (a1_lt 0)) ?_;refine kX (fun c6=>?_) (fun c6=>?_)
  ·replace h:=kD c6 h;exact goR h
  ·replace h:=kE c6 h;refine goS ?_;refine jI (jW f (by omega)) ?_;exact⟨(f+1),h,by omega,⟨rfl,⟨⟨rfl,rfl⟩,⟨rfl,a1_lt _⟩,⟨rfl,rfl⟩,⟨rfl,rfl⟩,trivial⟩,⟨_,rfl⟩,rfl⟩⟩
 ·have c:=uS c3;rw [jC c,uU.eq_1] at h;refine goX ?_;refine jG ?_;cases h;exact qD
def wG(w:gK)(g:gW):Nat→(List gH)→Int→Int→Option (List gH)
 | 0,f,c,h=>none
 | n7+1,f,c,h=>(cnd (decide (h < (f.length:Int))) (
bnd (at? f h) fun x9=>
bnd (gEx x9 w g) fun y=>
(cnd (!y) (
bnd (at? f c) fun ac=>
wG w g n7 (f.set (Int.toNat c) x9) (IntKind.i64.wrap (c+1)) (IntKind.i64.wrap (h+1))) (
wG w g n7 f c (IntKind.i64.wrap (h+1))))) (
gd (0≤c∧c≤(f.length:Int)) (
gd (0≤c∧c≤((f.take (Int.toNat c)++List.replicate (f.length - Int.toNat c) (gH.mk 0 0)).length:Int)) (
(some ((f.take (Int.toNat c)++List.replicate (f.length - Int.toNat c) (gH.mk 0 0)).take (Int.toNat c)))))))
def gGx(l0:List gH)(w:gK)(g:gW)(f:Nat):Option (List gH):=
bnd (gDt l0 (fun h=>gEx h w g)) fun c=>
(cnd (c==(-1)) (
(some l0)) (
wG w g f l0 c (IntKind.i64.wrap (c+1))))
theorem gVv(l0:List gH)(w:gK)(g:gW)(v0:Nat){n0:Nat}{r:List gH}(h:gGx l0 w g n0=some r):Go.Eng.Spec Tryz.prog 183 [.sl 0 v0,.fn 185 [.ptr 1 0,.ptr 2 0]] [.arr 144 2 v0 (kK l0),bPr w.packages,bBd g.trait g.type_.kind g.type_.name g.type_.args] (fun sv Lo=>∃v'0,sv=.sl 0 v'0∧Lo=[.arr 144 2 v'0 (kK r),bPr w.packages,bBd g.trait g.type_.kind g.type_.name g.type_.args]):=by
 obtain⟨ab⟩:=w;obtain⟨ac,⟨c,f,y⟩⟩:=g;unfold gGx at h;refine kF 3 Tryz.func183 rfl (by kernel_rfl) rfl rfl fun A _=>?_;refine goL ?_;obtain⟨x1,ar,h⟩:=gM h;refine gBn (hWe (gP8 l0 (a1:=(fun z0=>gEx z0 (gK.mk ab) (gW.mk ac (gB.mk c f y)))) (fun _=>rfl) (fun z0 r hr=>hHt z0 (gK.mk ab) (gW.mk ac (gB.mk c f y)) hr) ar)) ?_;refine kX (fun c2=>?_) (fun c2=>?_)
 ·replace h:=kD c2 h;refine goL ?_;refine jG ?_;obtain rfl:=Option.some.inj h;exact yK [.sl 0 v0] _ ⟨v0,rfl,rfl⟩
 ·replace h:=kE c2 h;refine goS ?_;refine jI (pU) ?_;refine noB ?_;refine gWe (fun(n7:Nat)(y3:List gH)(y5:Int)(y6:Int)(v4:Nat)=>⟨[(0,.sl 0 v4),(1,.fn 185 [.ptr 1 0,.ptr 2 0]),(5,.I y5),(6,.I y6)],[.arr 144 2 v4 (kK y3),bPr ab,bBd ac c f y],Tryz.f183.ntmps⟩) (fun n7 y3 y5 y6 v4=>wG (gK.mk ab) (gW.mk ac (gB.mk c f y)) n7 y3 y5 y6=some r) (fun n7 y3 y5 y6 v4=>n7) n0 l0 x1 (IntKind.i64.wrap (x1+1)) v0 eJ h ?_;rintro n7 y3 y5 y6 v4 h;rcases n7 with _ | n7
  ·cases h
  rw [wG.eq_2] at h;refine goC h ?_ ?_<;>intro c8 h
  ·refine noS ?_;refine jY (jA ?_);refine goL ?_;obtain⟨x9,ai,h⟩:=gM h;obtain⟨ap,ai⟩:=gDy ai;obtain⟨ad,ae⟩:=x9;refine zZ (gYl ap (List.getElem?_eq_some_iff.1 ai).1) ?_;refine gBn (hOp ai) ?_;obtain⟨a7,aq,h⟩:=gM h;refine gBn (jIf (dargs:=[_]) (hHt (gH.mk ad ae) (gK.mk ab) (gW.mk ac (gB.mk c f y)) aq)) ?_;refine kX (fun am=>?_) (fun am=>?_)
   ·replace h:=kD am h;refine goL ?_;obtain⟨aw,aa,h⟩:=gM h;obtain⟨an,aa⟩:=gDy aa;obtain⟨ax,ay⟩:=aw;refine zZ (gYl an (List.getElem?_eq_some_iff.1 aa).1) ?_;refine hWx (gH.mk ad ae) (List.getElem?_eq_some_iff.1 aa).1 ?_;refine goL ?_;refine jI (pU) ?_;refine jI (pU) ?_;exact⟨n7,(y3.set (Int.toNat y5) (gH.mk ad ae)),(IntKind.i64.wrap (y5+1)),(IntKind.i64.wrap (y6+1)),v4,h,Nat.lt_succ_self _,eJ⟩
   ·replace h:=kE am h;refine goS ?_;refine jI (pU) ?_;exact⟨n7,y3,y5,(IntKind.i64.wrap (y6+1)),v4,h,Nat.lt_succ_self _,eJ⟩
  ·refine goX ?_;obtain⟨a0,h⟩:=mY h;refine hT2 (gH.mk 0 0) a0 ?_;refine goL ?_;obtain⟨a3,h⟩:=mY h;refine hT3 a3 ?_;refine goL ?_;refine jG ?_;obtain rfl:=Option.some.inj h;exact yK [.sl 0 (v4+1)] _ ⟨(v4+1),rfl,rfl⟩
def gLj(c:List gH)(f:gK)(h:gW):Option (List gH):=gGx c f h 5000
def gSb(c:gK)(a1:gW):Option (List gH):=
bnd (gJj c) fun f=>
bnd (gLj f c a1) fun h=>
(some h)
theorem hSn(a0:gK)(a1:gW){r:List gH}(h:gSb a0 a1=some r):gY Tryz.prog 152 [.d (kT a0),.d (zW a1)] [.sl 2 (kK r)]:=by
 obtain⟨aa⟩:=a0;obtain⟨ab,⟨c,f,y⟩⟩:=a1;unfold gSb at h;refine SpI Tryz.func152 fun A _=>?_;refine goL ?_;obtain⟨x1,ad,h⟩:=gM h;refine yJ [] (hFh (gK.mk aa) ad) ?_;rintro _ _ ⟨rfl,rfl⟩;show VO _ _ _ _ ⟨(_,.sl 2 0)::_,[bPr aa,bBd ab c f y,.own 144 2 0 (kK x1)],_⟩ _;refine qK (gV8) ?_;refine hFv 2 ?_;obtain⟨x2,ae,h⟩:=gM h;refine yJ [2,0,1] (gVv x1 (gK.mk aa) (gW.mk ab (gB.mk c f y)) 0 ae) ?_;rintro _ _ ⟨v3,rfl,rfl⟩;show VO _ _ _ _ ⟨(_,.sl 2 v3)::_,[bPr aa,bBd ab c f y,.arr 144 2 v3 (kK x2)],_⟩ _;refine goL ?_;refine kP 2 rfl rfl ?_;refine jG ?_;cases h;exact qD
theorem gKv{p:gH→Option Bool}{q:gH→Bool}:∀(l:List gH)(k:Nat),(∀x∈l,p x=some (q x))→(uU p l k=some (-1)∧l.filter (fun x=> !q x)=l∧l.any q=false)∨(l.any q=true∧∃(i:Nat),i < l.length∧uU p l k=some ((k+i:Nat):Int)∧l.filter (fun x=> !q x)=l.take i++(l.drop (i+1)).filter (fun x=> !q x))
 | [],k,_=>.inl ⟨rfl,rfl,rfl⟩
 | x::l,k,h=>by
   rw [uU,jO (h x (by simp))];cases hq:q x with
   | true=>exact .inr ⟨by simp [hq],0,by simp,rfl,by simp [hq]⟩
   | false=>
     simp only [gI];rcases gKv l (k+1) (fun y hy=>h y (by simp [hy]))with ⟨c,f,h4⟩ | ⟨h4,i,c,f,h3⟩
     ·exact .inl ⟨c,by simp [hq,f],by simp [hq,h4]⟩
     ·exact .inr ⟨by simp [h4],i+1,by simpa using c,by rw [f];congr 2;omega,by simp [hq,h3]⟩
theorem hSq{n:Nat}(h:n≤4611686018427387904):IntKind.i64.wrap ((n:Int)+1)=((n+1:Nat):Int):=by rw [qR _ (by omega) (by omega)];omega
theorem gSc{w:gK}{g:gW}{q:gH→Bool}:∀(m n i j:Nat)(l:List gH),l.length≤j+m→m < n→i < j→j≤l.length→l.length≤4000→(∀x∈l.drop j,gEx x w g=some (q x))→
  wG w g n l (i:Int) (j:Int)=some (l.take i++(l.drop j).filter (fun x=> !q x))
 | m,0,i,j,l,_,hn,_,_,_,_=>by omega
 | m,n+1,i,j,l,hm,hn,hi,hj,hl,h=>by
   rw [wG.eq_2];rcases Nat.lt_or_ge j l.length with hlt | hge
   ·match m,hm with
    | 0,hm=>omega
    | m+1,hm=>
      have hd:l.drop j=l[j]::l.drop (j+1):=List.drop_eq_getElem_cons hlt;have hw:IntKind.i64.wrap ((j:Int)+1)=((j+1:Nat):Int):=hSq (by omega);have hw2:IntKind.i64.wrap ((i:Int)+1)=((i+1:Nat):Int):=hSq (by omega);rw [show decide ((j:Int) < (l.length:Int))=true from decide_eq_true (by omega),gT,zI,List.getElem?_eq_getElem hlt,hw];simp only [bnd];rw [h l[j] (by rw [hd];exact List.mem_cons_self)];simp only;cases hq:q l[j] with
      | true=>
        rw [Bool.not_true,gI,gSc m n i (j+1) l (by omega) (by omega) (by omega) (by omega) hl (fun x hx=>h x (by rw [hd];exact List.mem_cons_of_mem _ hx)),hd,List.filter_cons_of_neg (by simp [hq])]
      | false=>
        have hil:i < l.length:=by omega
        have hdr:(l.set i l[j]).drop (j+1)=l.drop (j+1):=by rw [List.drop_set_of_lt (by omega)]
        rw [Bool.not_false,gT,zI,List.getElem?_eq_getElem hil,Int.toNat_natCast,hw2];simp only;rw [gSc m n (i+1) (j+1) (l.set i l[j]) (by simp;omega) (by omega) (by omega) (by simp;omega) (by simpa using hl) (fun x hx=>h x (by rw [hdr] at hx;rw [hd];exact List.mem_cons_of_mem _ hx)),hdr,hd,List.filter_cons_of_pos (by simp [hq])]
        have:(l.set i l[j]).take (i+1)=l.take i++[l[j]]:=by
         rw [List.take_succ_eq_append_getElem (by simpa using hil),List.take_set,List.set_eq_of_length_le (by rw [List.length_take];omega),List.getElem_set_self]
        rw [this,List.append_assoc];rfl
   ·obtain rfl:j=l.length:=by omega
    rw [show decide ((l.length:Int) < (l.length:Int))=false from decide_eq_false (by omega),gI,mI (by omega),mI (by simp only [List.length_append,List.length_take,List.length_replicate,Int.toNat_natCast];omega)];rw [Int.toNat_natCast,List.take_append_of_le_length (by rw [List.length_take];omega),List.take_take,Nat.min_self,List.drop_length];simp
theorem hVg{w:gK}{g:gW}{q:gH→Bool}(l:List gH)(hl:l.length≤4000)(h:∀x∈l,gEx x w g=some (q x)):gLj l w g=some (l.filter (fun x=> !q x)):=by
 unfold gLj gGx gDt;rcases gKv (p:=fun z=>gEx z w g) l 0 h with ⟨f,c,_⟩ | ⟨_,i,f,c,y⟩
 ·rw [jO f];simp only [beq_self_eq_true,gT,c]
 ·rw [jO c,Nat.zero_add,show((i:Int)== -1)=false from beq_false_of_ne (by omega),gI,hSq (by omega),y];exact gSc (l.length - (i+1)) 5000 i (i+1) l (by omega) (by omega) (by omega) (by omega) hl (fun x hx=>h x (List.mem_of_mem_drop hx))
def gOa(c:gB)(a1:gB):Option (Bool):=
bnd (gDs a1 c) fun f=>
bnd ((cnd f (bnd (gDs c a1) fun h=>
(some (!h))) ((some false)))) fun y=>
(some y)
theorem hHu(a0:gB)(a1:gB){r:Bool}(h:gOa a0 a1=some r):gY Tryz.prog 155 [.d (jS a0),.d (jS a1)] [.b r]:=by
 obtain⟨c,f,y⟩:=a0;obtain⟨aa,ab,ac⟩:=a1;unfold gOa at h;refine SpI Tryz.func155 fun A _=>?_;refine goL ?_;obtain⟨x1,ae,h⟩:=gM h;refine jI (gF (gPl _ _ ae)) ?_;obtain⟨b2,hb2,h⟩:=gM h;refine jT ⟨[(4,.B b2)],[bTy c f y,bTy aa ab ac],Tryz.f155.ntmps⟩ ?_ ?_
 ·refine gqA 8 hb2 (fun c3 hb2=>?_);obtain⟨x4,ag,hb2⟩:=gM hb2;refine jI (gF (gPl _ _ ag)) ?_;cases hb2;exact eJ
 exact goR h
def gNg(c:gH)(a1:gK)(a2:kG):Option (Bool):=
bnd (gHn a1 c) fun f=>
bnd (gOa f.1.head a2.head) fun h=>
(some h)
theorem hSs(a0:gH)(a1:gK)(a2:kG){r:Bool}(h:gNg a0 a1 a2=some r):gY Tryz.prog 154 [.d (qI a0),.dp (kT a1),.dp (gCc a2)] [.b r]:=by
 obtain⟨av,aw⟩:=a0;obtain⟨ax⟩:=a1;obtain⟨ay,a3,⟨ad,ae,ag⟩,a4,a5,a6,⟨ah,ai,aj⟩,a7⟩:=a2;unfold gNg at h;refine SpI Tryz.func154 fun A _=>?_;refine goL ?_;obtain⟨⟨⟨ak,al,⟨c,f,y⟩,am,an,ao,⟨aa,ab,ac⟩,ap⟩,a8⟩,ar,h⟩:=gM h;refine jI (gF (gPm _ _ ar)) ?_;obtain⟨x2,au,h⟩:=gM h;refine qK (gF (hHu _ _ au)) ?_;exact goR h
def gB6(c:List gH)(a1:gH→Option Bool):Option (Bool):=
bnd (gDt c a1) fun f=>
(some (decide (f≥0)))
theorem gSd(c:List gH){a1f:Nat}{a1c:List SV}{a1:gH→Option Bool}(a1_lt:∀n,SV.lts n a1c=true)(ha1:∀(y:gH)(r:Bool),a1 y=some r→gY Tryz.prog a1f ([.d (qI y)]++a1c) [.b r]){r:Bool}(h:gB6 c a1=some r):gY Tryz.prog 153 [.L 2 (kK c),.fn a1f a1c] [.b r]:=by
 unfold gB6 at h;refine SpI Tryz.func153 fun A _=>?_;refine goL ?_;obtain⟨x1,f,h⟩:=gM h;refine qK (gF (gP8 c (a1:=a1) a1_lt ha1 f)) ?_;exact goR h
def gB7(c:gK)(f:List gH):List gH→Option (gH × Int)
 | []=>(some ((gH.mk 0 0),1))
 | h::xs=>bnd (gHn c h) fun y=>
bnd (gB6 f (fun z0=>gNg z0 c y.1)) fun x7=>
(cnd x7 (
gB7 c f xs ) (
bnd ((cnd y.1.default_ (none) ((some false)))) fun b9=>
(cnd b9 (
(some ((gH.mk 0 0),2))) (
(some (h,0))))))
def gHo(c:gK)(a1:gW):Option (gH × Int):=
bnd (gSb c a1) fun f=>
gB7 c f f
theorem gXp(a0:gK)(a1:gW){r:gH × Int}(h:gHo a0 a1=some r):gY Tryz.prog 121 [.d (kT a0),.d (zW a1)] [qI r.1,.i .i64 r.2]:=by
 obtain⟨ak⟩:=a0;obtain⟨aq,⟨am,an,ao⟩⟩:=a1;unfold gHo at h;refine SpI Tryz.func121 fun A _=>?_;refine goL ?_;obtain⟨x1,ay,h⟩:=gM h;refine jI (gF (hSn _ _ ay)) ?_;refine noB ?_;refine gB0 6 (fun z3=>?_);refine mV (fun(y2:Nat)=>⟨[(2,.ptr 0 0),(3,.ptr 1 0),(4,.ptr 2 0),(6,.L 2 (kK x1)),(15,.L 2 (kK x1)),(16,.I (x1.length:Int)),(17,.N y2)],[bPr ak,bBd aq am an ao,.box [.I 0,.I 0]],Tryz.f121.ntmps⟩) (fun y2=>gB7 (gK.mk ak) x1 (x1.drop y2)  =some r) (fun y2=>x1.length - y2) 0 eJ h ?_;rintro y2 h;refine goL ?_;refine jY (kX (fun c4=>?_) (fun c4=>?_))
 ·have al:=uR c4;obtain⟨x5,a4,au⟩:=drop_at al;rw [au,gB7.eq_2] at h;obtain⟨av,aw⟩:=x5;refine noS ?_;refine jY (jA ?_);refine goL ?_;refine jI (jJ y2 (wX a4)) ?_;obtain⟨⟨⟨ad,ae,⟨c,f,y⟩,ag,ah,ai,⟨aa,ab,ac⟩,aj⟩,a9⟩,a5,h⟩:=gM h;refine jI (gF (gPm _ _ a5)) ?_;refine qK (gV8) ?_;obtain⟨x7,a6,h⟩:=gM h;refine gBn (hWe (gSd x1 (a1:=(fun z0=>gNg z0 (gK.mk ak) (kG.mk ad ae (gB.mk c f y) ag ah ai (gB.mk aa ab ac) aj))) (fun _=>rfl) (fun z0 r hr=>hSs z0 (gK.mk ak) (kG.mk ad ae (gB.mk c f y) ag ah ai (gB.mk aa ab ac) aj) hr) a6)) ?_;refine kX (fun c8=>?_) (fun c8=>?_)
  ·replace h:=kD c8 h;refine goX ?_;refine jI (jW y2 (by omega)) ?_;exact⟨(y2+1),h,by omega,eJ⟩
  ·replace h:=kE c8 h;refine goS ?_;obtain⟨b9,hb9,h⟩:=gM h;refine jT ⟨[(4,.ptr 2 0),(8,.ptr 3 0),(38,.B b9)],[bPr ak,bBd aq am an ao,.box [.I 0,.I 0],.box [.I av,.I aw],bIn ad ae c f y ag ah ai aa ab ac aj],Tryz.f121.ntmps⟩ ?_ ?_
   ·refine gqA 33 hb9 (fun bc hb9=>?_);cases hb9
   refine goC h ?_ ?_<;>intro bd h
   ·refine goL ?_;refine zZ (jX TBd.h TZ.h rfl (by repeat constructor)) ?_;exact goR h
   ·refine goS ?_;refine jG ?_;cases h;exact qD
 ·have al:=uS c4;rw [jC al,gB7.eq_1] at h;refine goX ?_;refine zZ (jX TBd.h TZ.h rfl (by repeat constructor)) ?_;exact goR h
def gIj(c:gW)(a1:gW):Bool:=
lt_ ((cnd (c.trait==a1.trait) ((teq c.type_ a1.type_)) (false))) fun f=>
f
theorem gXq(a0:gW)(a1:gW):gY Tryz.prog 144 [.d (zW a0),.d (zW a1)] [.b (gIj a0 a1)]:=by
 obtain⟨r,h⟩:∃r,gIj a0 a1=r:=⟨_,rfl⟩
 rw [h];obtain⟨ad,⟨c,f,y⟩⟩:=a0;obtain⟨ae,⟨aa,ab,ac⟩⟩:=a1;unfold gIj at h;refine SpI Tryz.func144 fun A _=>?_;refine goL ?_;obtain⟨b1,hb1,h⟩:=qA h;refine jT ⟨[(4,.B b1)],[bBd ad c f y,bBd ae aa ab ac],Tryz.f144.ntmps⟩ ?_ ?_
 ·refine gqA 10 hb1 (fun c2 hb1=>?_);refine jI (gF (gI5 (gB.mk c f y) (gB.mk aa ab ac))) ?_;cases hb1;exact eJ
 refine goL ?_;refine jG ?_;subst h;exact qD
def gJ7(c:gQ)(a1:gW):Bool:=
(gIj c.goal a1)
theorem hNy(a0:gQ)(a1:gW):gY Tryz.prog 143 [.d (gDk a0),.dp (zW a1)] [.b (gJ7 a0 a1)]:=by
 obtain⟨r,h⟩:∃r,gJ7 a0 a1=r:=⟨_,rfl⟩
 rw [h];obtain⟨⟨aa,⟨c,f,y⟩⟩,ah,ai⟩:=a0;obtain⟨ae,⟨ab,ac,ad⟩⟩:=a1;unfold gJ7 at h;refine SpI Tryz.func143 fun A _=>?_;refine goL ?_;refine jI (gF (gXq (gW.mk aa (gB.mk c f y)) (gW.mk ae (gB.mk ab ac ad)))) ?_;refine jG ?_;subst h;exact qD
def yH(a1:gQ→Option Bool):List gQ→Nat→Option (Int)
 | [],c=>(some (-1))
 | f::xs,c=>bnd (a1 f) fun h=>
(cnd h (
(some (c:Int))) (
yH a1 xs (c+1)))
def gIk(c:List gQ)(a1:gQ→Option Bool):Option (Int):=
yH a1 c 0
theorem gXr(y:List gQ){a1f:Nat}{a1c:List SV}{a1:gQ→Option Bool}(a1_lt:∀n,SV.lts n a1c=true)(ha1:∀(x0:gQ)(r:Bool),a1 x0=some r→gY Tryz.prog a1f ([.d (gDk x0)]++a1c) [.b r]){r:Int}(h:gIk y a1=some r):gY Tryz.prog 142 [.L 6 (gV y),.fn a1f a1c] [.i .i64 r]:=by
 unfold gIk at h;refine SpI Tryz.func142 fun A _=>?_;refine goL ?_;refine noB ?_;refine gB0 0 (fun z2=>?_);refine mV (fun(f:Nat)=>⟨[(0,.L 6 (gV y)),(1,.fn a1f a1c),(7,.I (y.length:Int)),(8,.N f)],[],Tryz.f142.ntmps⟩) (fun f=>yH a1 (y.drop f) f=some r) (fun f=>y.length - f) 0 ⟨rfl,⟨⟨rfl,rfl⟩,⟨rfl,a1_lt _⟩,⟨rfl,rfl⟩,⟨rfl,rfl⟩,trivial⟩,⟨[],rfl⟩,rfl⟩ h ?_;rintro f h;refine goL ?_;refine jY (kX (fun c3=>?_) (fun c3=>?_))
 ·have c:=uR c3;obtain⟨x4,ah,ad⟩:=drop_at c;rw [ad,yH.eq_2] at h;obtain⟨⟨ae,⟨aa,ab,ac⟩⟩,al,am⟩:=x4;refine noS ?_;refine jY (jA ?_);refine goL ?_;refine jI (jJ f (gHx ah)) ?_;obtain⟨x5,ai,h⟩:=gM h;refine jI (gOm (ha1 _ _ ai) (a1_lt 0)) ?_;refine kX (fun c6=>?_) (fun c6=>?_)
  ·replace h:=kD c6 h;exact goR h
  ·replace h:=kE c6 h;refine goS ?_;refine jI (jW f (by omega)) ?_;exact⟨(f+1),h,by omega,⟨rfl,⟨⟨rfl,rfl⟩,⟨rfl,a1_lt _⟩,⟨rfl,rfl⟩,⟨rfl,rfl⟩,trivial⟩,⟨_,rfl⟩,rfl⟩⟩
 ·have c:=uS c3;rw [jC c,yH.eq_1] at h;refine goX ?_;refine jG ?_;cases h;exact qD
def gOb(c:List gQ)(a1:gW):Option (Int):=
bnd (gIk c (fun f=>some (gJ7 f a1))) fun h=>
(some h)
theorem hNz(a0:List gQ)(a1:gW){r:Int}(h:gOb a0 a1=some r):gY Tryz.prog 117 [.L 6 (gV a0),.d (zW a1)] [.i .i64 r]:=by
 obtain⟨aa,⟨c,f,y⟩⟩:=a1;unfold gOb at h;refine SpI Tryz.func117 fun A _=>?_;refine goL ?_;refine qK (gV8) ?_;obtain⟨x1,ac,h⟩:=gM h;refine zZ (hWe (gXr a0 (a1:=(fun z0=>some (gJ7 z0 (gW.mk aa (gB.mk c f y))))) (fun _=>rfl) (fun z0 r hr=>by cases hr;exact hNy z0 (gW.mk aa (gB.mk c f y))) ac)) ?_;exact goR h
def gEc(c:gN→Option (gN)):List gN→Nat→(List gN)→Option (List gN)
 | [],f,h=>(some h)
 | y::xs,f,h=>bnd (c y) fun x8=>
gd (f < h.length) (
gEc c xs (f+1) (h.set f x8))
def gMe(f:(List gN)→Option (List gN))(c:gN→Option (gN))(h:List gN):Option (List gN):=
gd (h.length≤4294967296) (
gEc c h 0 (List.replicate h.length (gN.mk 0 0 (gH.mk 0 0) [])))
def gPn(c:(List gN)→Option (List gN)):Prop:=∀(f:List gN){r:List gN},c f=some r→kR Tryz.prog 181 [.L 5 (kN f)] [147] [.sl 5 (kN r)]
def gOc(c:gN→Option (gN)):Prop:=∀(f:gN){r:gN},c f=some r→kR Tryz.prog 145 [.d (qB f)] [147] [qB r]
theorem hFi{f}{c}(ae:gPn f)(y:gOc c)(a0:List gN){r:List gN}(h:gMe f c a0=some r):kR Tryz.prog 181 [.L 5 (kN a0)] [147] [.sl 5 (kN r)]:=by
 unfold gMe at h;refine pR Tryz.func181 rfl (by kernel_rfl) rfl (by simp) fun A _=>?_;refine goL ?_;obtain⟨g1,h⟩:=mY h;refine hJ6 (gN.mk 0 0 (gH.mk 0 0) []) g1 ?_;refine goL ?_;refine noB ?_;refine gB0 9 (fun z5=>?_);refine kS (fun(y4:Nat)(y2:List gN)(v3:Nat)=>⟨[(3,.sl 0 v3),(9,.L 5 (kN a0)),(10,.I (a0.length:Int)),(11,.N y4)],[.own 147 5 v3 (kN y2)],Tryz.f181.ntmps⟩) (fun y4 y2 v3=>gEc c (a0.drop y4) y4 y2=some r) (fun y4 y2 v3=>a0.length - y4) 0 (List.replicate a0.length (gN.mk 0 0 (gH.mk 0 0) [])) 0 eJ h ?_;rintro y4 y2 v3 h;refine goL ?_;refine jY (kX (fun c6=>?_) (fun c6=>?_))
 ·have aa:=uR c6;obtain⟨x7,av,ao⟩:=drop_at aa;rw [ao,gEc.eq_2] at h;obtain⟨ap,aq,⟨ag,ah⟩,ar⟩:=x7;refine noS ?_;refine jY (jA ?_);refine goL ?_;refine jI (jJ y4 (gYd av)) ?_;obtain⟨⟨ai,aj,⟨ab,ac⟩,ak⟩,aw,h⟩:=gM h;refine gE3 (y (gN.mk ap aq (gH.mk ag ah) ar) aw) ?_;obtain⟨g9,h⟩:=mY h;refine zZ (hOl y4 g9) ?_;refine hTn (gN.mk ai aj (gH.mk ab ac) ak) g9 ?_;refine goL ?_;refine jI (jW y4 (by omega)) ?_;exact⟨(y4+1),(y2.set y4 (gN.mk ai aj (gH.mk ab ac) ak)),v3,h,by omega,eJ⟩
 ·have aa:=uS c6;rw [jC aa,gEc.eq_1] at h;refine goX ?_;refine jG ?_;obtain rfl:=Option.some.inj h;exact gQd
def gOd(c:(List gN)→Option (List gN))(f:gN→Option (gN))(h:gN):Option (gN):=
bnd (c h.args) fun y=>
(some (gN.mk h.kind h.n h.at_ y))
theorem hHv{c}{f}(y:gPn c)(aa:gOc f)(a0:gN){r:gN}(h:gOd c f a0=some r):kR Tryz.prog 145 [.d (qB a0)] [147] [qB r]:=by
 obtain⟨ah,ai,⟨ac,ad⟩,ab⟩:=a0;unfold gOd at h;refine pR Tryz.func145 rfl (by kernel_rfl) rfl (by simp) fun A _=>?_;refine goL ?_;obtain⟨x1,ag,h⟩:=gM h;refine gE3 (y ab ag) ?_;refine goL ?_;refine jG ?_;obtain rfl:=Option.some.inj h;exact gQd
mutual
def gMf:Nat→(List gN)→Option (List gN)
 | 0,_=>none
 | n+1,c=>gMe (gMf n) (gHp n) c
def gHp:Nat→gN→Option (gN)
 | 0,_=>none
 | n+1,c=>gOd (gMf n) (gHp n) c
end
theorem gZ4:∀(n:Nat),gPn (gMf n)∧gOc (gHp n):=by
 intro n
 induction n with
 | zero=>exact⟨(by intro c r h;cases h),(by intro c r h;cases h)⟩
 | succ n ih=>
   obtain⟨ih0,ih1⟩:=ih;refine⟨(fun c r h=>hFi ih0 ih1 c h),(fun c r h=>hHv ih0 ih1 c h)⟩
theorem hHx:∀(n:Nat),gOc (gHp n):=fun n=>(gZ4 n).2
def gBl:List Int→Int→Int→Int→Int→(List gN)→Option (gN)
 | [],c,f,h,y,y6=>(some (gN.mk c f (gH.mk h y) y6))
 | ab::xs,c,f,h,y,y6=>gBl xs 3 ab 0 0 [(gN.mk c f (gH.mk h y) y6)]
def gEy(f:gN)(a1:List Int):Option (gN):=
bnd (gHp 5000 f) fun c=>
gBl a1 c.kind c.n c.at_.package c.at_.at_ c.args
theorem gSe(a0:gN)(a1:List Int){r:gN}(h:gEy a0 a1=some r):kR Tryz.prog 118 [.d (qB a0),.L 1 (gJo a1)] [147] [qB r]:=by
 obtain⟨ad,ae,⟨f,y⟩,ag⟩:=a0;unfold gEy at h;refine pR Tryz.func118 rfl (by kernel_rfl) rfl (by simp) fun A _=>?_;refine goL ?_;obtain⟨⟨ao,ap,⟨aa,ab⟩,aq⟩,aw,h⟩:=gM h;refine gE3 (hHx 5000 (gN.mk ad ae (gH.mk f y) ag) aw) ?_;refine goL ?_;refine noB ?_;refine gB0 10 (fun z9=>?_);refine hDd (fun(y8:Nat)(y2:Int)(y3:Int)(y4:Int)(y5:Int)(y6:List gN)(v7:Nat)=>⟨[(4,.ptr 1 0),(5,.ptr 3 0),(10,.L 1 (gJo a1)),(11,.I (a1.length:Int)),(12,.N y8)],[.box [.I ad,.I ae,.I f,.I y,.L 5 (kN ag)],.box [.I 0,.I 0,.I 0,.I 0,.nilsl],.own 147 5 v7 (kN y6),.box [.I y2,.I y3,.I y4,.I y5,.sl 2 v7]],Tryz.f118.ntmps⟩) (fun y8 y2 y3 y4 y5 y6 v7=>gBl (a1.drop y8) y2 y3 y4 y5 y6=some r) (fun y8 y2 y3 y4 y5 y6 v7=>a1.length - y8) 0 ao ap aa ab aq 0 eJ h ?_;rintro y8 y2 y3 y4 y5 y6 v7 h;refine goL ?_;refine jY (kX (fun am=>?_) (fun am=>?_))
 ·have c:=uR am;obtain⟨ax,au,an⟩:=drop_at c;rw [an,gBl.eq_2] at h;refine noS ?_;refine jY (jA ?_);refine goL ?_;refine jI (jJ y8 (jEr au)) ?_;refine gBc (gN.mk y2 y3 (gH.mk y4 y5) y6) ?_;refine gBn (jX TBd.h TZ.h rfl (by repeat constructor)) ?_;refine jI (jW y8 (by omega)) ?_;exact⟨(y8+1),3,ax,0,0,[(gN.mk y2 y3 (gH.mk y4 y5) y6)],0,h,by omega,qX 0 [0,1,4,3]⟩
 ·have c:=uS am;rw [jC c,gBl.eq_1] at h;refine goX ?_;refine jG ?_;obtain rfl:=Option.some.inj h;exact gQd
def gHq(a1:LB)(f:Nat)(c:uG × Int × Bool):List uG→uG × Int × Bool
 | []=>c
 | h::xs=>(cnd (h.name==a1) (
(h,(f:Int),true)) (
gHq a1 f c xs ))
def gEz(a1:LB):List kH→Nat→uG × Int × Bool
 | [],c=>((uG.mk [] [] false false []),0,false)
 | f::xs,c=>gHq a1 c (gEz a1 xs (c+1)) f.traits
def gCx(c:gK)(a1:LB):uG × Int × Bool:=
gEz a1 c.packages 0
theorem gVw(a0:gK)(a1:LB):gY Tryz.prog 119 [.d (kT a0),.S a1] [gM2 (gCx a0 a1).1,.i .i64 (gCx a0 a1).2.1,.b (gCx a0 a1).2.2]:=by
 obtain⟨r,h⟩:∃r,gCx a0 a1=r:=⟨_,rfl⟩
 rw [h];obtain⟨c⟩:=a0;unfold gCx at h;refine SpI Tryz.func119 fun A _=>?_;refine goL ?_;refine noB ?_;refine gB0 12 (fun z2=>?_);refine mV (fun(y:Nat)=>⟨[(1,.S a1),(4,.ptr 1 0),(12,.L 6 (jQ c)),(13,.I (c.length:Int)),(14,.N y)],[bPr c,.box [.S [],.nilsl,.B false,.B false,.nilsl]],Tryz.f119.ntmps⟩) (fun y=>gEz a1 (c.drop y) y=r) (fun y=>c.length - y) 0 eJ h ?_;rintro y h;refine goL ?_;refine jY (kX (fun c3=>?_) (fun c3=>?_))
 ·have aa:=uR c3;obtain⟨x4,an,ae⟩:=drop_at aa;rw [ae,gEz.eq_2] at h;obtain⟨ag,ah,f,ai,aj,ak⟩:=x4;refine noS ?_;refine jY (jA ?_);refine goL ?_;refine jI (jJ y (gBt an)) ?_;refine noB ?_;refine gB0 20 (fun z6=>?_);refine mV (fun(y5:Nat)=>⟨[(1,.S a1),(4,.ptr 1 0),(7,.N y),(12,.L 6 (jQ c)),(13,.I (c.length:Int)),(14,.N y),(20,.L 5 (gE2 f)),(21,.I (f.length:Int)),(22,.N y5)],[bPr c,.box [.S [],.nilsl,.B false,.B false,.nilsl],bPk ag ah f ai aj ak],Tryz.f119.ntmps⟩) (fun y5=>gHq a1 y (gEz a1 (c.drop (y+1)) (y+1)) (f.drop y5)  =r) (fun y5=>f.length - y5) 0 eJ h ?_;rintro y5 h;refine goL ?_;refine jY (kX (fun c7=>?_) (fun c7=>?_))
  ·have ab:=uR c7;obtain⟨x8,ap,al⟩:=drop_at ab;rw [al,gHq.eq_2] at h;obtain⟨ar,au,av,aw,ax⟩:=x8;refine noS ?_;refine jY (jA ?_);refine goL ?_;refine jI (jJ y5 (gX6 ap)) ?_;refine kX (fun c9=>?_) (fun c9=>?_)
   ·replace h:=kD c9 h;refine goL ?_;refine jG ?_;subst h;exact qD
   ·replace h:=kE c9 h;refine goS ?_;refine jI (jW y5 (by omega)) ?_;exact⟨(y5+1),h,by omega,eJ⟩
  ·have ab:=uS c7;rw [jC ab,gHq.eq_1] at h;refine goX ?_;refine jI (jW y (by omega)) ?_;exact⟨(y+1),h,by omega,eJ⟩
 ·have aa:=uS c3;rw [jC aa,gEz.eq_1] at h;refine goX ?_;refine gBn (jX TBd.h TZ.h rfl (by repeat constructor)) ?_;refine jG ?_;subst h;exact qD
def gFq(c:gK→LS→LB→Option LS)(w:gK):LS→LS→Option LS
 | [],f=>(some f)
 | h::xs,f=>bnd ((cnd (!(gDq f h)) (
gd (f.length+[h].length≤4294967296) (
bnd (c w (f++[h]) h) fun y=>
(some y))) (
(some f)))) fun b8=>
gFq c w xs b8
def gSf(c:gK→LS→LB→Option LS)(w:gK)(l0:LS)(name:LB):Option LS:=
lt_ (gCx w name) fun f=>
gFq c w f.1.supertraits l0
theorem hHy{f:gK→LS→LB→Option LS}(y:∀(x0:gK)(x1:LS)(x2:LB)(w0:Nat){r:LS},f x0 x1 x2=some r→Go.Eng.Spec Tryz.prog 100 [.d (kT x0),.sl 0 w0,.S x2] [.arr 9 1 w0 (jL x1)] (fun sv Lo=>∃v'0,sv=.sl 0 v'0∧Lo=[.arr 9 1 v'0 (jL r)]))(w:gK)(l0:LS)(name:LB)(v0:Nat){r:LS}(h:gSf f w l0 name=some r):Go.Eng.Spec Tryz.prog 100 [.d (kT w),.sl 0 v0,.S name] [.arr 9 1 v0 (jL l0)] (fun sv Lo=>∃v'0,sv=.sl 0 v'0∧Lo=[.arr 9 1 v'0 (jL r)]):=by
 obtain⟨ag⟩:=w;unfold gSf at h;refine kF 1 Tryz.func100 rfl (by kernel_rfl) rfl rfl fun A _=>?_;refine goL ?_;obtain⟨⟨⟨aa,c,ab,ac,ad⟩,a5,a6⟩,ar,h⟩:=qA h;have sx1:=gVw (gK.mk ag) name;rw [ar] at sx1;refine jI (gF (sx1)) ?_;refine noB ?_;refine gB0 20 (fun z5=>?_);refine kS (fun(y4:Nat)(y2:LS)(v3:Nat)=>⟨[(1,.sl 0 v3),(3,.ptr 1 0),(20,.L 1 (jL c)),(21,.I (c.length:Int)),(22,.N y4)],[.arr 9 1 v3 (jL y2),bPr ag,bTr aa c ab ac ad],Tryz.f100.ntmps⟩) (fun y4 y2 v3=>gFq f (gK.mk ag) (c.drop y4) y2=some r) (fun y4 y2 v3=>c.length - y4) 0 l0 v0 eJ h ?_;rintro y4 y2 v3 h;refine goL ?_;refine jY (kX (fun c6=>?_) (fun c6=>?_))
 ·have ae:=uR c6;obtain⟨x7,av,an⟩:=drop_at ae;rw [an,gFq.eq_2] at h;refine noS ?_;refine jY ?_;obtain⟨b8,hb8,h⟩:=gM h;refine gNi (fun v9=>⟨[(1,.sl 0 v9),(3,.ptr 1 0),(20,.L 1 (jL c)),(21,.I (c.length:Int)),(22,.N y4)],[.arr 9 1 v9 (jL b8),bPr ag,bTr aa c ab ac ad],Tryz.f100.ntmps⟩) ?_ (fun v9=>?_)
  ·refine jA ?_;refine goL ?_;refine jI (jJ y4 (gQr av)) ?_;refine gBn (gV9 (gTs y2 x7)) ?_;refine kX (fun ak=>?_) (fun ak=>?_)
   ·replace hb8:=kD ak hb8;refine uM (P:=Tryz.prog) Mix.h [(0,true),(1,true),(2,true),(5,true),(3,false),(4,false),(6,false),(7,true)] (by kernel_rfl) ?_;refine goY ?_;refine qE (T:=57) (us:=jL [x7]) ?_;obtain⟨aw,hb8⟩:=mY hb8;refine pW (T:=57) aw ?_;obtain⟨ax,ao,hb8⟩:=gM hb8;refine gS1 [0] (y (gK.mk ag) (y2++[x7]) x7 (v3+1) ao) ?_;rintro _ _ ⟨al,rfl,rfl⟩;refine gQe (sv:=.sl 0 al) (L':=[.arr 9 1 al (jL ax),bPr ag,bTr aa c ab ac ad,.arr 9 1 0 (jL [x7])]) (by repeat(first | exact uY.nil | (apply uY.keep;focus ((repeat constructor);done)) | (apply uY.dep;focus kernel_rfl))) ?_;refine goY ?_;refine kQ ?_;refine goL ?_;cases hb8;exact⟨al,eJ⟩
   ·replace hb8:=kE ak hb8;refine gAn ?_;cases hb8;exact⟨v3,eJ⟩
  refine goL ?_;refine jI (jW y4 (by omega)) ?_;exact⟨(y4+1),b8,v9,h,by omega,eJ⟩
 ·have ae:=uS c6;rw [jC ae,gFq.eq_1] at h;refine goX ?_;refine jG ?_;obtain rfl:=Option.some.inj h;exact yK [.sl 0 v3] _ ⟨v3,rfl,rfl⟩
def gSg:Nat→gK→LS→LB→Option LS
 | 0,_,_,_=>none
 | n+1,c,f,h=>gSf (gSg n) c f h
theorem hHz:∀(n:Nat)(c:gK)(f:LS)(y:LB)(w0:Nat){r:LS},gSg n c f y=some r→Go.Eng.Spec Tryz.prog 100 [.d (kT c),.sl 0 w0,.S y] [.arr 9 1 w0 (jL f)] (fun sv Lo=>∃v'0,sv=.sl 0 v'0∧Lo=[.arr 9 1 v'0 (jL r)]):=by
 intro n
 induction n with
 | zero=>intro c f y w0 r h;cases h
 | succ n ih=>intro c f y w0 r h;exact hHy ih c f y w0 h
def gUi(a:gK)(b:LB):Option LS:=gSg 5000 a [] b
theorem gXs(a:gK)(b:LB){r:LS}(h:gUi a b=some r):Go.Eng.Spec Tryz.prog 100 [.d (.st [.sl 6 (jQ a.packages)]),.nilsl,.S b] [] (fun sv Lo=>sv=.L 1 (jL r)∧Lo=[]):=Spec.nilF1 (hHz 5000 a [] b 0 h)
def gEd(c:gK)(a1:LB):Option LS:=
bnd (gUi c a1) fun f=>
(some f)
theorem hH4(f:gK)(a1:LB){r:LS}(h:gEd f a1=some r):gY Tryz.prog 81 [.d (kT f),.S a1] [.sl 1 (jL r)]:=by
 obtain⟨c⟩:=f;unfold gEd at h;refine SpI Tryz.func81 fun A _=>?_;refine goL ?_;obtain⟨x1,y,h⟩:=gM h;refine yJ [] (gXs (gK.mk c) a1 y) ?_;rintro _ _ ⟨rfl,rfl⟩;show VO _ _ _ _ ⟨(_,.L 1 (jL x1))::_,[bPr c],_⟩ _;exact goR h
def wI(c:gK→LB→LB→Int→Option (List Int × Bool))(y:gK)(a2:LB)(a3:Int):LS→Nat→Option (List Int × Bool)
 | [],f=>(some ([],false))
 | x7::xs,f=>bnd (c y x7 a2 (IntKind.i64.wrap (a3 - 1))) fun h=>
(cnd h.2 (
gd ([(f:Int)].length+h.1.length≤4294967296) (
(some (([(f:Int)]++h.1),true)))) (
wI c y a2 a3 xs (f+1)))
def gE0(c:gK→LB→LB→Int→Option (List Int × Bool))(f:gK)(a1:LB)(a2:LB)(h:Int):Option (List Int × Bool):=
(cnd (a1==a2) (
(some ([],true))) (
(cnd (h==0) (
(some ([],false))) (
lt_ (gCx f a1) fun y=>
wI c f a2 h y.1.supertraits 0))))
theorem gPo{c:gK→LB→LB→Int→Option (List Int × Bool)}(f:∀(x0:gK)(x1:LB)(x2:LB)(x3:Int){r:List Int × Bool},c x0 x1 x2 x3=some r→gY Tryz.prog 101 [.d (kT x0),.S x1,.S x2,.I x3] [.sl 1 (gJo r.1),.b r.2])(a0:gK)(a1:LB)(a2:LB)(a3:Int){r:List Int × Bool}(h:gE0 c a0 a1 a2 a3=some r):gY Tryz.prog 101 [.d (kT a0),.S a1,.S a2,.I a3] [.sl 1 (gJo r.1),.b r.2]:=by
 obtain⟨ab⟩:=a0;unfold gE0 at h;refine SpI Tryz.func101 fun A _=>?_;refine goC h ?_ ?_<;>intro c1 h
 ·refine goL ?_;refine gGk ?_;refine goL ?_;refine qU 1 rfl rfl ?_;refine jG ?_;cases h;exact qD
 ·refine goS ?_;refine kX (fun c2=>?_) (fun c2=>?_)
  ·replace h:=kD c2 h;exact goR h
  ·replace h:=kE c2 h;refine goS ?_;obtain⟨⟨⟨ad,y,ae,ag,ah⟩,ay,a4⟩,am,h⟩:=qA h;have sx3:=gVw (gK.mk ab) a1;rw [am] at sx3;refine jI (gF (sx3)) ?_;refine noB ?_;refine gB0 31 (fun z5=>?_);refine mV (fun(y4:Nat)=>⟨[(2,.S a2),(3,.I a3),(4,.ptr 0 0),(31,.L 1 (jL y)),(32,.I (y.length:Int)),(33,.N y4)],[bPr ab,bTr ad y ae ag ah],Tryz.f101.ntmps⟩) (fun y4=>wI c (gK.mk ab) a2 a3 (y.drop y4) y4=some r) (fun y4=>y.length - y4) 0 eJ h ?_;rintro y4 h;refine goL ?_;refine jY (kX (fun c6=>?_) (fun c6=>?_))
   ·have aa:=uR c6;obtain⟨x7,ao,ai⟩:=drop_at aa;rw [ai,wI.eq_2] at h;refine noS ?_;refine jY (jA ?_);refine goL ?_;refine jI (jJ y4 (gQr ao)) ?_;refine qK (pU) ?_;obtain⟨⟨a5,a6⟩,ap,h⟩:=gM h;refine jI (gF (f _ _ _ _ ap)) ?_;refine kX (fun c9=>?_) (fun c9=>?_)
    ·replace h:=kD c9 h;refine goL ?_;refine gBc (y4:Int) ?_;refine goL ?_;obtain⟨ar,h⟩:=mY h;refine gIe ar ?_;refine goL ?_;refine qU 2 rfl rfl ?_;refine jG ?_;cases h;exact qD
    ·replace h:=kE c9 h;refine goS ?_;refine jI (jW y4 (by omega)) ?_;exact⟨(y4+1),h,by omega,eJ⟩
   ·have aa:=uS c6;rw [jC aa,wI.eq_1] at h;refine goX ?_;refine jG ?_;cases h;exact qD
def gE1:Nat→gK→LB→LB→Int→Option (List Int × Bool)
 | 0,_,_,_,_=>none
 | n+1,c,f,h,y=>gE0 (gE1 n) c f h y
theorem gPp:∀(n:Nat)(c:gK)(f:LB)(y:LB)(x3:Int){r:List Int × Bool},gE1 n c f y x3=some r→gY Tryz.prog 101 [.d (kT c),.S f,.S y,.I x3] [.sl 1 (gJo r.1),.b r.2]:=by
 intro n
 induction n with
 | zero=>intro c f y x3 r h;cases h
 | succ n ih=>intro c f y x3 r h;exact gPo ih c f y x3 h
def yD(f:gK)(a1:LB)(a2:LB):Option (List Int × Bool):=
bnd (gE1 5000 f a1 a2 8) fun c=>
(some (c.1,c.2))
theorem gJk(c:gK)(a1:LB)(a2:LB){r:List Int × Bool}(h:yD c a1 a2=some r):gY Tryz.prog 82 [.d (kT c),.S a1,.S a2] [.sl 1 (gJo r.1),.b r.2]:=by
 obtain⟨y⟩:=c;unfold yD at h;refine SpI Tryz.func82 fun A _=>?_;refine goL ?_;obtain⟨⟨aa,ab⟩,f,h⟩:=gM h;refine qK (gF (gPp _ _ _ _ _ f)) ?_;exact goR h
end Go.Proofs.YtegahmhnmjnhhaaGreat
