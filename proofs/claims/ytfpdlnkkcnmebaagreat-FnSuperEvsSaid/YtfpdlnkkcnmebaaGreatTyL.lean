import Derived.Test.YtfpdlnkkcnmebaaGreatE6
set_option maxHeartbeats 4000000
set_option linter.unusedVariables false
set_option linter.unusedSimpArgs false
set_option linter.unusedSectionVars false
namespace Go.Proofs.YtfpdlnkkcnmebaaGreat
open Go Go.Eng
attribute [local irreducible] V VO VQ VY Quiet QR jF mJ Rng qI qJ qB
mutual
def hpT:gB→Bool
 | ⟨k,_,ts⟩=>hHl ts || (k==3)
def hHl:List gB→Bool
 | []=>false
 | a::ts=>hpT a || hHl ts
end
mutual
def ed:gB→Nat
 | ⟨_,_,ts⟩=>eds ts
def eds:List gB→Nat
 | []=>0
 | a::ts=>max (1+ed a) (eds ts)
end
theorem hC3:∀{ts:List gB}{u:gB},u∈ts→1+ed u≤eds ts
 | a::ts,u,h=>by
   simp only [eds];rcases List.mem_cons.1 h with rfl | h
   ·omega
   ·have:=hC3 h
    omega
mutual
theorem hHm:∀(n:Nat)(t:gB),ed t < n→vD n t=some (hpT t)
 | 0,t,h=>by omega
 | n+1,⟨k,s,ts⟩,h=>by
   simp only [ed] at h;rw [vD];unfold gC4;rw [hC4 n ⟨k,s,ts⟩ ts (by omega)];rfl
theorem hC4:∀(n:Nat)(t:gB)(ts:List gB),eds ts≤n→uE (vD n) t ts=some (hHl ts || (t.kind==3))
 | n,t,[],_=>by simp [uE,hHl]
 | n,t,a::ts,h=>by
   simp only [eds] at h;rw [uE,kF (hHm n a (by omega))];simp only [hHl];cases hpT a with
   | true=>rfl
   | false=>rw [jC,hC4 n t ts (by omega)];rfl
end
mutual
theorem hHn:∀(n:Nat)(b:Bool)(t:gB),ed t < n→gK6 n b t=some (b || hpT t)
 | 0,b,t,h=>by omega
 | n+1,b,⟨k,s,ts⟩,h=>by
   simp only [ed] at h;rw [gK6];unfold gOy;simp only [lt_];rw [hC5 n ts _ (by omega)];unfold gU6;simp only [hpT];cases b<;>simp [cnd,Bool.or_comm]
theorem hC5:∀(n:Nat)(ts:List gB)(b:Bool),eds ts≤n→gBz (gK6 n) ts b=some (b || hHl ts)
 | n,[],b,_=>by simp [gBz,hHl]
 | n,a::ts,b,h=>by
   simp only [eds] at h;rw [gBz,kF (hHn n b a (by omega)),hC5 n ts _ (by omega)];simp only [hHl,Bool.or_assoc]
end
def grT(t:gB):Bool:=cnd (((gI1 t []).length:Int)==0) (!hpT t) false
theorem hMx{t:gB}(h:tnd t≤4294967296)(he:ed t < 5000):gBw t=some (grT t):=by
 unfold gBw gA4 grT;rw [uF (by simpa using h)];simp only [lt_,bnd];cases ((gI1 t []).length:Int)==0 with
 | false=>rfl
 | true=>rw [jV,hHm 5000 t he];rfl
theorem gOh(t:gB)(h:tnd t≤4294967296):gB2 t=some (gI1 t []):=by
 unfold gB2 gGe;simp only [zC];rw [uF (by simpa using h)];rfl
theorem hHo{t:gB}(h:tnd t≤4294967296)(he:ed t < 5000):gDa t=some (grT t):=by
 unfold gDa grT gK7;rw [kF (gOh t h)];cases ((gI1 t []).length:Int)==0 with
 | false=>rfl
 | true=>rw [jV,hHn 5000 false t he];rfl
def eqN:LB:=[101,113]
def hF7:LB:=[111,114,100]
def gJp:LB:=[115,104,111,119]
def EO(n:LB):Prop:=n=eqN∨n=hF7
mutual
def dyS:gB→Prop
 | ⟨k,n,ts⟩=>(k=4→n=gJp)∧hJm ts
def hJm:List gB→Prop
 | []=>True
 | a::ts=>dyS a∧hJm ts
end
theorem gTr:∀{ts:List gB},hJm ts↔∀t∈ts,dyS t
 | []=>by simp [hJm]
 | a::ts=>by simp only [hJm,gTr (ts:=ts),List.mem_cons,forall_eq_or_imp]
structure GI (k:Nat)(t:gB):Prop where
 tok:tok t
 dy:dyS t
 sz:tnd t≤5^k
 ed:ed t≤5*k
theorem GI.args{k:Nat}{t:gB}(h:GI k t):∀u∈t.args,GI k u:=fun u hu=>by
 have c:=h.tok;have f:=h.dy;have q:=h.sz;have y:=h.ed;obtain⟨a,n,ts⟩:=t;have hu:u∈ts:=hu;have e1:=hC3 hu;have e2:=gI8 hu;simp only [tnd] at q;simp only [Go.Proofs.YtfpdlnkkcnmebaaGreat.ed] at y;exact⟨hMw _ c u hu,gTr.1 f.2 u hu,by omega,by omega⟩
structure SW (w:gM)(all:List gF):Prop extends WI w all where
 tra:∀n,EO n→(uD w n).1.auto=false∧(zA w n).1.auto=false
 dyn:∀n,EO n→(∃p,vS w gJp n=some (p,false))∧∃p,vN w gJp n=some (p,false)
 whr:∀o∈all,∀i,gGc w o=some i→EO i.trait→i.where_.length≤4∧∀b∈i.where_,EO b.trait∧tok b.type_∧dyS b.type_∧tnd b.type_≤5
mutual
theorem hHp:∀(t:gB),ed t+1≤tnd t
 | ⟨_,_,ts⟩=>by have:=hC6 ts;simp only [ed,tnd];omega
theorem hC6:∀(ts:List gB),eds ts≤gGj ts
 | []=>Nat.le_refl _
 | a::ts=>by have:=hHp a;have:=hC6 ts;simp only [eds,gGj];omega
end
mutual
theorem hMy{l:List gV}{E:Nat}(hl:∀b∈l,ed b.type_≤E):∀(t:gB),ed (apT l t)≤ed t+E
 | ⟨k,n,ts⟩=>by
   have ih:=hHq hl ts;simp only [apT];cases k==1 with
   | false=>simp only [jC,ed];omega
   | true=>
     rw [jV];cases hb:(lkp n l).2 with
     | false=>simp only [jC,ed];omega
     | true=>
       obtain⟨b,c,_,f⟩:=gQ6 hb;rw [jV,f]
       have:=hl b c
       omega
theorem hHq{l:List gV}{E:Nat}(hl:∀b∈l,ed b.type_≤E):∀(ts:List gB),eds (gSb l ts)≤eds ts+E
 | []=>by simp [gSb,eds]
 | a::ts=>by
   have c:=hMy hl a;have h:=hHq hl ts;simp only [gSb,eds];omega
end
mutual
theorem hHr{l:List gV}(hl:∀b∈l,dyS b.type_):∀(t:gB),dyS t→dyS (apT l t)
 | ⟨k,n,ts⟩,h=>by
   have ih:=hC7 hl ts h.2;simp only [apT];cases k==1 with
   | false=>exact⟨h.1,ih⟩
   | true=>
     rw [jV];cases hb:(lkp n l).2 with
     | false=>exact⟨h.1,ih⟩
     | true=>
       obtain⟨b,c,_,f⟩:=gQ6 hb;rw [jV,f];exact hl b c
theorem hC7{l:List gV}(hl:∀b∈l,dyS b.type_):∀(ts:List gB),hJm ts→hJm (gSb l ts)
 | [],_=>trivial
 | a::ts,h=>⟨hHr hl a h.1,hC7 hl ts h.2⟩
end
inductive Al2 {α β:Type}(R:α→β→Prop):List α→List β→Prop
 | nil:Al2 R [] []
 | cons {a:α} {b:β} {l:List α} {l':List β} (h:R a b) (t:Al2 R l l'):Al2 R (a::l) (b::l')
theorem Al2.len{α β:Type}{R:α→β→Prop}{l:List α}{l':List β}(h:Al2 R l l'):l'.length=l.length:=by
 induction h with
 | nil=>rfl
 | cons _ _ ih=>simp [ih]
def EvS(w:gM)(all:List gF):Nat→gT→gI→Prop
 | 0,_,_=>False
 | d+1,g,e=>e.kind=1∧e.n=0∧tok g.type_∧tnd g.type_≤4294967296∧ed g.type_ < 5000∧hFt w all (grT g.type_) g=(e.at_,0)∧∃i l,gGc w e.at_=some i∧e.at_∈all∧mtT i.head g.type_ []=some l∧bok l∧i.where_.length≤4∧(∀b∈i.where_,tok b.type_)∧Al2 (fun b a=>EvS w all d ⟨b.trait,apT l b.type_⟩ a) i.where_ e.args
theorem hHs{α β:Type}(x:α)(f:α→Option β):bnd (some x) f=f x:=rfl
theorem hF8:∀{t:gB},dyS t→(t.kind==4)=true→t.name=gJp
 | ⟨_,_,_⟩,h,c=>h.1 (by simpa using c)
theorem hHt(g:gT):gOp [] g=some (-1):=rfl
theorem gYe(rec:wO→gT→Int→Option (gI × Int))(q:wO)(a2:Int)(x:gF × Int)(y:List gV × Bool):∀(bs:List gT)(acc:List gI),uX rec q a2 x y bs acc=qG rec q a2 x y bs acc
 | [],_=>rfl
 | b::bs,acc=>by
   rw [uX,qG];simp only [gYe rec q a2 x y bs]
section
variable {w:gM}{all:List gF}(hw:SW w all)
include hw
theorem hHu{d k n m:Nat}(hk:d+k+1=12)(ih:∀(g:gT),EO g.trait→GI (k+1) g.type_→∃r,zZ n w [] g (d:Int)=some r∧uL m ⟨w,[]⟩ g (12 - (d:Int))=some r∧(r.2=0→EvS w all d g r.1)){o:gF}{l:List gV}(hl:∀b∈l,GI k b.type_) :
  ∀(bs:List gT)(acc:List gI),(∀b∈bs,EO b.trait∧tok b.type_∧dyS b.type_∧tnd b.type_≤5)→acc.length+bs.length≤4→
  ∃r,gBx (zZ n) w [] ((d+1:Nat):Int) (o,0) (l,true) bs acc=some r∧qG (uL m) ⟨w,[]⟩ (12 - ((d+1:Nat):Int)) (o,0) (l,true) bs acc=some r∧(r.2=0→∃es,r.1=⟨1,0,o,acc++es⟩∧Al2 (fun b a=>EvS w all d ⟨b.trait,apT l b.type_⟩ a) bs es)
 | [],acc,_,_=>⟨_,rfl,rfl,fun _=>⟨[],by simp,.nil⟩⟩
 | b::bs,acc,h,ha=>by
   obtain⟨h1,y,h3,h4⟩:=h b (by simp);simp only [List.length_cons] at ha;have hb:bok l:=fun c hc=>(hl c hc).tok;have hpow:1≤5^k:=Nat.one_le_pow _ _ (by omega);have hbn:hOw (5^k) l:=⟨hpow,fun c hc=>(hl c hc).sz⟩
   have hg:GI (k+1) (apT l b.type_):=by
    refine⟨hDf hb _ y,hHr (fun c hc=>(hl c hc).dy) _ h3,?_,?_⟩
    ·have e1:=hDg hbn b.type_;have e2:5^k*tnd b.type_≤5^k*5:=Nat.mul_le_mul_left _ h4;rw [Nat.pow_succ];omega
    ·have e1:=hMy (fun c hc=>(hl c hc).ed) b.type_;have e2:=hHp b.type_;omega
   obtain⟨r,r1,r2,r3⟩:=ih ⟨b.trait,apT l b.type_⟩ h1 hg;have w1:IntKind.i64.wrap (((d+1:Nat):Int) - 1)=(d:Int):=by rw [gAb _ (by omega) (by omega)];omega
   have w2:IntKind.i64.wrap (12 - ((d+1:Nat):Int)+1)=12 - (d:Int):=by rw [gAb _ (by omega) (by omega)];omega
   rw [gBx,qG,uF ⟨hb,y⟩,uF ⟨hb,y⟩];simp only [lt_];rw [w1,w2,kF r1,kF r2];cases hc:(r.2 != 0)with
   | true=>exact⟨_,rfl,rfl,fun f=>by have f:r.2=0:=f;rw [f] at hc;cases hc⟩
   | false=>
     have hc0:r.2=0:=by simpa using hc
     simp only [jC];rw [uF (by simp;omega),uF (by simp;omega)];obtain⟨q,q1,q2,q3⟩:=hHu hk ih hl bs (acc++[r.1]) (fun c hc=>h c (by simp [hc])) (by simp;omega);refine⟨q,q1,q2,fun f=>?_⟩;obtain⟨es,e1,e2⟩:=q3 f;exact⟨r.1::es,by rw [e1];simp,.cons (r3 hc0) e2⟩
theorem hF9:∀(d k n m:Nat)(g:gT),d+k=12→2*d+2≤n→d < m→EO g.trait→GI k g.type_→∃r,zZ n w [] g (d:Int)=some r∧uL m ⟨w,[]⟩ g (12 - (d:Int))=some r∧(r.2=0→EvS w all d g r.1):=by
 intro d
 induction d with
 | zero=>
   intro k n m g hk hn hm he hg;obtain⟨n,rfl⟩:∃i,n=i+1:=⟨n - 1,by omega⟩
   obtain⟨m,rfl⟩:∃i,m=i+1:=⟨m - 1,by omega⟩
   rw [zZ,uL];unfold gIb gBq;rw [kF (hHt g)];exact⟨_,rfl,rfl,fun h=>by cases h⟩
 | succ d ih=>
   intro k n m g hk hn hm he hg;obtain⟨n,rfl⟩:∃i,n=i+2:=⟨n - 2,by omega⟩
   obtain⟨m,rfl⟩:∃i,m=i+1:=⟨m - 1,by omega⟩
   have hpow:5^k≤5^12:=Nat.pow_le_pow_right (by omega) (by omega);have hp12:(5:Nat)^12=244140625:=by decide
   have hs:=hg.sz;have hd:=hg.ed;have sg:=hJc hw.toWI (g:=g) hg.tok (hMx (t:=g.type_) (by omega) (by omega));have ig:=hCk hw.toWI (g:=g) hg.tok (hHo (t:=g.type_) (by omega) (by omega));obtain⟨t1,t2⟩:=hw.tra g.trait he;obtain⟨⟨p1,p2⟩,p3,p4⟩:=hw.dyn g.trait he;have key:∃r,gKe (n+1) w [] g ((d+1:Nat):Int)=some r∧(bnd (gFs w g) fun c=>cnd (c.2 != 0) (some ((⟨0,0,⟨0,0⟩,[]⟩:gI),c.2)) (bnd (gC9 w c.1) fun f=>bnd (gC1 f.1.head g.type_) fun ac=>qG (uL m) ⟨w,[]⟩ (12 - ((d+1:Nat):Int)) c ac f.1.where_ []))=some r∧(r.2=0→EvS w all (d+1) g r.1):=by
    rw [gKe];unfold gMg;rw [kF sg,kF ig];cases hc:((hFt w all (grT g.type_) g).2 != 0)with
    | true=>exact⟨_,rfl,rfl,fun q=>by have q:(hFt w all (grT g.type_) g).2=0:=q;rw [q] at hc;cases hc⟩
    | false=>
      have hc0:(hFt w all (grT g.type_) g).2=0:=by simpa using hc
      obtain⟨o,ho⟩:∃o,hFt w all (grT g.type_) g=(o,0):=⟨(hFt w all (grT g.type_) g).1,by rw [←hc0]⟩
      obtain⟨oa,i,l,i1,i2,i3⟩:=hJf ho;obtain⟨j,j1,j2,j3⟩:=hw.look o oa;obtain rfl:i=j:=Option.some.inj (i1.symm.trans j1);obtain⟨w1,w2⟩:=hw.whr o oa i i1 (by rw [i2];exact he);obtain⟨p,a1,a2⟩:=gKn i1;have hl:∀b∈l,GI k b.type_:=(gTq (Q:=GI k) (fun x hx y hy=>hx.args y hy) i.head g.type_ [] l hg (fun b hb=>by simp at hb) i3).1;rw [ho];simp only [jC];rw [kF a1,kF a2,gR2 i.head g.type_ j3 hg.tok,i3,kF (gI0 i1),kF (gQp j3 hg.tok i3)];simp only [bnd];obtain⟨r,r1,r2,r3⟩:=hHu hw (d:=d) (k:=k) (n:=n) (m:=m) (by omega) (fun g' h1 h2=>ih (k+1) n m g' (by omega) (by omega) (by omega) h1 h2) (o:=o) hl i.where_ [] w2 (by simpa using w1);refine⟨r,r1,r2,fun q=>?_⟩;obtain⟨es,e1,e2⟩:=r3 q;rw [e1,List.nil_append];exact⟨rfl,rfl,hg.tok,by omega,by omega,ho,i,l,i1,oa,i3,fun b hb=>(hl b hb).tok,w1,fun b hb=>(w2 b hb).2.1,e2⟩
   obtain⟨r,k1,k2,k3⟩:=key;rw [zZ,uL];unfold gIb gBq;rw [kF (hHt g)];have hf:yN [] g= -1:=rfl;rw [hf,show decide ((-1:Int)≥0)=false from by decide];simp only [jC];rw [show decide (((d+1:Nat):Int)≤0)=false from decide_eq_false (by omega),show decide ((12:Int) - ((d+1:Nat):Int)≥12)=false from decide_eq_false (by omega)];simp only [jC,lt_,t1,t2];have hq:(cnd (zA w g.trait).2.2 false false)=false:=by cases (zA w g.trait).2.2<;>rfl
   rw [hq];simp only [jC];cases h1:(g.type_.kind==1)with
   | true=>exact⟨_,rfl,rfl,fun h=>by cases h⟩
   | false=>
     simp only [jC,hHs];cases h3:(g.type_.kind==3)with
     | true=>exact⟨_,rfl,rfl,fun h=>by cases h⟩
     | false=>
       simp only [jC];cases h4:(g.type_.kind==4)with
       | true=>
         have hn:g.type_.name=gJp:=hF8 hg.dy h4;simp only [jV];rw [hn,p2,p4];simp only [hHs,jC];rw [k1,k2];exact⟨r,rfl,rfl,k3⟩
       | false=>
         simp only [jC,gYe];rw [k1,k2];exact⟨r,rfl,rfl,k3⟩
end
def gYf(f:gN→LS→Int→Option (gB × gN))(c:gN)(a1:LS)(a2:Int):Option (gB × gN):=
bnd (mX c 8) fun h=>
lt_ ((cnd (decide (h.1 < 3)) ((decide ((a1.length:Int) > 0))) (false))) fun b2=>
(cnd b2 (
bnd (mX h.2 (a1.length:Int)) fun x5=>
bnd (at? a1 x5.1) fun x6=>
lt_ (wX x6) fun x7=>
(some (x7,x5.2))) (
lt_ ((cnd (decide (h.1 < 5)) (true) ((decide (a2≤0))))) fun b8=>
(cnd b8 (
bnd (qE h.2 [[105,110,116],[98,111,111,108],[117,110,105,116]]) fun q=>
bnd (gCq q.1 []) fun ad=>
(some (ad,q.2))) (
(cnd (h.1==5) (
bnd (f h.2 a1 (IntKind.i64.wrap (a2 - 1))) fun y=>
bnd (f y.2 a1 (IntKind.i64.wrap (a2 - 1))) fun aa=>
bnd (gCq [112,97,105,114] [y.1,aa.1]) fun ae=>
(some (ae,aa.2))) (
bnd (qE h.2 [[108,105,115,116],[108,105,115,116],[98,111,120]]) fun ab=>
bnd (f ab.2 a1 (IntKind.i64.wrap (a2 - 1))) fun ac=>
bnd (gCq ab.1 [ac.1]) fun ag=>
(some (ag,ac.2))))))))
theorem hMz{ab:gN→LS→Int→Option (gB × gN)}(aa:∀(x0:gN)(x1:LS)(x2:Int){r:gB × gN},ab x0 x1 x2=some r→Go.Eng.Spec Tryz.prog 95 [.ptr 0 0,.L 1 (gP x1),.I x2] [bCu x0.b x0.i x0.h] (fun sv Lo=>sv=.d (kZ r.1)∧Lo=[bCu r.2.b r.2.i r.2.h]))(c:gN)(a1:LS)(a2:Int){r:gB × gN}(h:gYf ab c a1 a2=some r):Go.Eng.Spec Tryz.prog 95 [.ptr 0 0,.L 1 (gP a1),.I a2] [bCu c.b c.i c.h] (fun sv Lo=>sv=.d (kZ r.1)∧Lo=[bCu r.2.b r.2.i r.2.h]):=by
 obtain⟨b0,b1,b3⟩:=c;unfold gYf at h;refine kS 1 Tryz.func95 rfl (by kernel_rfl) rfl rfl fun A _=>?_;refine goL ?_;obtain⟨⟨au,⟨f,q,y⟩⟩,b4,h⟩:=gJ h;refine mZ 0 (pU (gN.mk b0 b1 b3) 8 b4) ?_;refine goL ?_;refine kH (jE ?_);refine goL ?_;obtain⟨b2,hb2,h⟩:=qW h;refine kC ⟨[(0,.ptr 0 0),(1,.L 1 (gP a1)),(2,.I a2),(6,.ptr 1 0),(7,.I au),(10,.B b2)],[bCu f q y,.box [.I 0,.S [],.nilsl]],Tryz.f95.ntmps⟩ ?_ ?_
 ·exact gqZ 13 hb2
 refine goC h ?_ ?_<;>intro c4 h
 ·refine goL ?_;obtain⟨⟨cb,⟨bw,bx,bz⟩⟩,b5,h⟩:=gJ h;refine mZ 0 (pU (gN.mk f q y) (a1.length:Int) b5) ?_;obtain⟨x6,av,h⟩:=gJ h;obtain⟨a9,av⟩:=gAz av;refine jK (qY a9 (gNp av)) ?_;obtain⟨⟨ba,bb,bc⟩,b6,h⟩:=qW h;have sx7:=gCr x6;rw [b6] at sx7;refine jK (gG (sx7)) ?_;refine jG ?_;obtain rfl:=Option.some.inj h;exact gBa [.d (.st [.i .i64 ba,.s bb,.sl 3 (gK bc)])] _ ⟨rfl,rfl⟩
 ·refine goL ?_;obtain⟨b8,hb8,h⟩:=qW h;refine kC ⟨[(0,.ptr 0 0),(1,.L 1 (gP a1)),(2,.I a2),(6,.ptr 1 0),(7,.I au),(26,.B b8)],[bCu f q y,.box [.I 0,.S [],.nilsl]],Tryz.f95.ntmps⟩ ?_ ?_
  ·exact gqZ 29 hb8
  refine goC h ?_ ?_<;>intro cf h
  ·refine goL ?_;refine gAg (us:=gP [[105,110,116],[98,111,111,108],[117,110,105,116]]) ?_;refine mD 2 rfl rfl ?_;obtain⟨⟨b7,⟨bd,be,bf⟩⟩,bg,h⟩:=gJ h;refine mZ 0 (jZ (gN.mk f q y) [[105,110,116],[98,111,111,108],[117,110,105,116]] bg) ?_;obtain⟨⟨aw,ax,ay⟩,bh,h⟩:=gJ h;refine jK (gG (gF0 _ _ bh)) ?_;refine jG ?_;obtain rfl:=Option.some.inj h;exact gBa [.d (.st [.i .i64 aw,.s ax,.sl 3 (gK ay)])] _ ⟨rfl,rfl⟩
  ·refine goC h ?_ ?_<;>intro cg h
   ·refine goL ?_;refine qM (pV) ?_;obtain⟨⟨⟨ac,ad,ae⟩,⟨am,an,ao⟩⟩,bi,h⟩:=gJ h;refine mZ 0 (aa (gN.mk f q y) a1 (IntKind.i64.wrap (a2 - 1)) bi) ?_;refine goL ?_;refine qM (pV) ?_;obtain⟨⟨⟨ag,ah,ai⟩,⟨bj,bk,bl⟩⟩,bm,h⟩:=gJ h;refine mZ 0 (aa (gN.mk am an ao) a1 (IntKind.i64.wrap (a2 - 1)) bm) ?_;refine gAg (us:=gK [(gB.mk ac ad ae),(gB.mk ag ah ai)]) ?_;refine mD 2 rfl rfl ?_;obtain⟨⟨a0,a3,a4⟩,bn,h⟩:=gJ h;refine gAc (gRj (gF0 [112,97,105,114] [(gB.mk ac ad ae),(gB.mk ag ah ai)] bn)) ?_;refine jG ?_;obtain rfl:=Option.some.inj h;exact gBa [.d (.st [.i .i64 a0,.s a3,.sl 3 (gK a4)])] _ ⟨rfl,rfl⟩
   ·refine goS ?_;refine gAg (us:=gP [[108,105,115,116],[108,105,115,116],[98,111,120]]) ?_;refine mD 2 rfl rfl ?_;obtain⟨⟨a5,⟨ap,aq,ar⟩⟩,bo,h⟩:=gJ h;refine mZ 0 (jZ (gN.mk f q y) [[108,105,115,116],[108,105,115,116],[98,111,120]] bo) ?_;refine goL ?_;refine qM (pV) ?_;obtain⟨⟨⟨aj,ak,al⟩,⟨bp,bq,br⟩⟩,bt,h⟩:=gJ h;refine mZ 0 (aa (gN.mk ap aq ar) a1 (IntKind.i64.wrap (a2 - 1)) bt) ?_;refine uQ (u:=(.st [.i .i64 aj,.s ak,.sl 3 (gK al)])) ?_;refine mD 3 rfl rfl ?_;obtain⟨⟨a6,a7,a8⟩,bu,h⟩:=gJ h;refine gAc (gRj (gF0 a5 [(gB.mk aj ak al)] bu)) ?_;refine jG ?_;obtain rfl:=Option.some.inj h;exact gBa [.d (.st [.i .i64 a6,.s a7,.sl 3 (gK a8)])] _ ⟨rfl,rfl⟩
def gM0:Nat→gN→LS→Int→Option (gB × gN)
 | 0,_,_,_=>none
 | n+1,c,f,h=>gYf (gM0 n) c f h
theorem hC8:∀(n:Nat)(c:gN)(f:LS)(q:Int){r:gB × gN},gM0 n c f q=some r→Go.Eng.Spec Tryz.prog 95 [.ptr 0 0,.L 1 (gP f),.I q] [bCu c.b c.i c.h] (fun sv Lo=>sv=.d (kZ r.1)∧Lo=[bCu r.2.b r.2.i r.2.h]):=by
 intro n
 induction n with
 | zero=>intro c f q r h;cases h
 | succ n ih=>intro c f q r h;exact hMz ih c f q h
def gWu(f:gN→LS→Int→Option (gB × gN))(c:gN)(vars:LS)(deep:Int):Option (gB × gN):=
bnd (mX c 8) fun h=>
lt_ ((cnd (decide (h.1 < 3)) ((decide ((vars.length:Int) > 0))) (false))) fun b2=>
(cnd b2 (
bnd (mX h.2 (vars.length:Int)) fun x5=>
bnd (at? vars x5.1) fun x6=>
lt_ (wX x6) fun x7=>
(some (x7,x5.2))) (
lt_ ((cnd (decide (h.1 < 5)) (true) ((decide (deep≤0))))) fun b8=>
(cnd b8 (
bnd (qE h.2 [[105,110,116],[98,111,111,108],[117,110,105,116]]) fun q=>
bnd (gCq q.1 []) fun ad=>
(some (ad,q.2))) (
(cnd (h.1==5) (
bnd (f h.2 vars (IntKind.i64.wrap (deep - 1))) fun y=>
bnd (f y.2 vars (IntKind.i64.wrap (deep - 1))) fun aa=>
bnd (gCq [112,97,105,114] [y.1,aa.1]) fun ae=>
(some (ae,aa.2))) (
bnd (qE h.2 [[108,105,115,116],[108,105,115,116],[98,111,120]]) fun ab=>
bnd (f ab.2 vars (IntKind.i64.wrap (deep - 1))) fun ac=>
bnd (gCq ab.1 [ac.1]) fun ag=>
(some (ag,ac.2))))))))
theorem hJn{ab:gN→LS→Int→Option (gB × gN)}(f:∀(x0:gN)(x1:LS)(x2:Int)(w0:Nat){r:gB × gN},ab x0 x1 x2=some r→Go.Eng.Spec Tryz.prog 95 [.ptr 0 0,.sl 1 w0,.I x2] [bCu x0.b x0.i x0.h,.arr 9 1 w0 (gP x1)] (fun sv Lo=>sv=.d (kZ r.1)∧Lo=[bCu r.2.b r.2.i r.2.h,.arr 9 1 w0 (gP x1)]))(c:gN)(vars:LS)(deep:Int)(v1:Nat){r:gB × gN}(h:gWu ab c vars deep=some r):Go.Eng.Spec Tryz.prog 95 [.ptr 0 0,.sl 1 v1,.I deep] [bCu c.b c.i c.h,.arr 9 1 v1 (gP vars)] (fun sv Lo=>sv=.d (kZ r.1)∧Lo=[bCu r.2.b r.2.i r.2.h,.arr 9 1 v1 (gP vars)]):=by
 obtain⟨b4,b5,b6⟩:=c;unfold gWu at h;refine kS 2 Tryz.func95 rfl (by kernel_rfl) rfl rfl fun A _=>?_;refine goL ?_;obtain⟨⟨a5,⟨q,y,aa⟩⟩,b7,h⟩:=gJ h;refine mZ 0 (pU (gN.mk b4 b5 b6) 8 b7) ?_;refine goL ?_;refine kH (jE ?_);refine goL ?_;obtain⟨b2,hb2,h⟩:=qW h;refine kC ⟨[(0,.ptr 0 0),(1,.sl 1 v1),(2,.I deep),(6,.ptr 2 0),(7,.I a5),(10,.B b2)],[bCu q y aa,.arr 9 1 v1 (gP vars),.box [.I 0,.S [],.nilsl]],Tryz.f95.ntmps⟩ ?_ ?_
 ·exact gqZ 13 hb2
 refine goC h ?_ ?_<;>intro c4 h
 ·refine goL ?_;obtain⟨⟨cd,⟨bx,bz,b0⟩⟩,b9,h⟩:=gJ h;refine mZ 0 (pU (gN.mk q y aa) (vars.length:Int) b9) ?_;obtain⟨x6,a4,h⟩:=gJ h;obtain⟨bg,a4⟩:=gAz a4;refine yS (gXx bg (List.getElem?_eq_some_iff.1 a4).1) ?_;refine yS (hFd a4) ?_;obtain⟨⟨bh,bi,bj⟩,ca,h⟩:=qW h;have sx7:=gCr x6;rw [ca] at sx7;refine jK (gG (sx7)) ?_;refine jG ?_;obtain rfl:=Option.some.inj h;exact gBa [.d (.st [.i .i64 bh,.s bi,.sl 3 (gK bj)])] _ ⟨rfl,rfl⟩
 ·refine goL ?_;obtain⟨b8,hb8,h⟩:=qW h;refine kC ⟨[(0,.ptr 0 0),(1,.sl 1 v1),(2,.I deep),(6,.ptr 2 0),(7,.I a5),(26,.B b8)],[bCu q y aa,.arr 9 1 v1 (gP vars),.box [.I 0,.S [],.nilsl]],Tryz.f95.ntmps⟩ ?_ ?_
  ·exact gqZ 29 hb8
  refine goC h ?_ ?_<;>intro ch h
  ·refine goL ?_;refine gAg (us:=gP [[105,110,116],[98,111,111,108],[117,110,105,116]]) ?_;refine mD 3 rfl rfl ?_;obtain⟨⟨cb,⟨bk,bl,bm⟩⟩,bn,h⟩:=gJ h;refine mZ 0 (jZ (gN.mk q y aa) [[105,110,116],[98,111,111,108],[117,110,105,116]] bn) ?_;obtain⟨⟨a6,a7,a8⟩,bo,h⟩:=gJ h;refine jK (gG (gF0 _ _ bo)) ?_;refine jG ?_;obtain rfl:=Option.some.inj h;exact gBa [.d (.st [.i .i64 a6,.s a7,.sl 3 (gK a8)])] _ ⟨rfl,rfl⟩
  ·refine goC h ?_ ?_<;>intro ci h
   ·refine goL ?_;refine qM (pV) ?_;obtain⟨⟨⟨ac,ad,ae⟩,⟨am,an,ao⟩⟩,bp,h⟩:=gJ h;refine gCl [0,1] (f (gN.mk q y aa) vars (IntKind.i64.wrap (deep - 1)) v1 bp) ?_;rintro _ _ ⟨rfl,rfl⟩;show VO _ _ _ _ ⟨(_,.d (.st [.i .i64 ac,.s ad,.sl 3 (gK ae)]))::_,[bCu am an ao,.arr 9 1 v1 (gP vars),.box [.I 0,.S [],.nilsl]],_⟩ _;refine goL ?_;refine qM (pV) ?_;obtain⟨⟨⟨ag,ah,ai⟩,⟨aq,ar,au⟩⟩,bq,h⟩:=gJ h;refine gCl [0,1] (f (gN.mk am an ao) vars (IntKind.i64.wrap (deep - 1)) v1 bq) ?_;rintro _ _ ⟨rfl,rfl⟩;show VO _ _ _ _ ⟨(_,.d (.st [.i .i64 ag,.s ah,.sl 3 (gK ai)]))::_,[bCu aq ar au,.arr 9 1 v1 (gP vars),.box [.I 0,.S [],.nilsl]],_⟩ _;refine gAg (us:=gK [(gB.mk ac ad ae),(gB.mk ag ah ai)]) ?_;refine mD 3 rfl rfl ?_;obtain⟨⟨a9,ba,bb⟩,br,h⟩:=gJ h;refine gAc (gRj (gF0 [112,97,105,114] [(gB.mk ac ad ae),(gB.mk ag ah ai)] br)) ?_;refine jG ?_;obtain rfl:=Option.some.inj h;exact gBa [.d (.st [.i .i64 a9,.s ba,.sl 3 (gK bb)])] _ ⟨rfl,rfl⟩
   ·refine goS ?_;refine gAg (us:=gP [[108,105,115,116],[108,105,115,116],[98,111,120]]) ?_;refine mD 3 rfl rfl ?_;obtain⟨⟨bc,⟨av,aw,ax⟩⟩,bt,h⟩:=gJ h;refine mZ 0 (jZ (gN.mk q y aa) [[108,105,115,116],[108,105,115,116],[98,111,120]] bt) ?_;refine goL ?_;refine qM (pV) ?_;obtain⟨⟨⟨aj,ak,al⟩,⟨ay,a0,a3⟩⟩,bu,h⟩:=gJ h;refine gCl [0,1] (f (gN.mk av aw ax) vars (IntKind.i64.wrap (deep - 1)) v1 bu) ?_;rintro _ _ ⟨rfl,rfl⟩;show VO _ _ _ _ ⟨(_,.d (.st [.i .i64 aj,.s ak,.sl 3 (gK al)]))::_,[bCu ay a0 a3,.arr 9 1 v1 (gP vars),.box [.I 0,.S [],.nilsl],.frz 9 1 0 (gP [[108,105,115,116],[108,105,115,116],[98,111,120]])],_⟩ _;refine uQ (u:=(.st [.i .i64 aj,.s ak,.sl 3 (gK al)])) ?_;refine mD 4 rfl rfl ?_;obtain⟨⟨bd,be,bf⟩,bv,h⟩:=gJ h;refine gAc (gRj (gF0 bc [(gB.mk aj ak al)] bv)) ?_;refine jG ?_;obtain rfl:=Option.some.inj h;exact gBa [.d (.st [.i .i64 bd,.s be,.sl 3 (gK bf)])] _ ⟨rfl,rfl⟩
def gLw:Nat→gN→LS→Int→Option (gB × gN)
 | 0,_,_,_=>none
 | n+1,c,f,h=>gWu (gLw n) c f h
theorem gWv:∀(n:Nat)(c:gN)(f:LS)(y:Int)(q:Nat){r:gB × gN},gLw n c f y=some r→Go.Eng.Spec Tryz.prog 95 [.ptr 0 0,.sl 1 q,.I y] [bCu c.b c.i c.h,.arr 9 1 q (gP f)] (fun sv Lo=>sv=.d (kZ r.1)∧Lo=[bCu r.2.b r.2.i r.2.h,.arr 9 1 q (gP f)]):=by
 intro n
 induction n with
 | zero=>intro c f y q r h;cases h
 | succ n ih=>intro c f y q r h;exact hJn ih c f y q h
end Go.Proofs.YtfpdlnkkcnmebaaGreat
