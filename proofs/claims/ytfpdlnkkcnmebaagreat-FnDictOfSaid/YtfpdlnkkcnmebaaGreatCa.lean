import Derived.Test.YtfpdlnkkcnmebaaGreatMt
set_option maxHeartbeats 4000000
set_option linter.unusedVariables false
set_option linter.unusedSimpArgs false
set_option linter.unusedSectionVars false
namespace Go.Proofs.YtfpdlnkkcnmebaaGreat
open Go Go.Eng
attribute [local irreducible] V VO VQ VY Quiet QR jI mK Rng qE qA pX
def gPn(h:(List gU)→gB→gB→Option (Bool × List gU))(f:(List gU)→(List gB)→(List gB)→Option (Bool × List gU))(q:List gU)(p:gB)(t:gB):Option (Bool × List gU):=
(cnd (p.kind==1) (
bnd (gJg q p.name) fun x2=>
(cnd x2.2 (
(some ((teq x2.1 t),q))) (
gd (tok t) (lt_ (idT t) fun x5=>
gd (q.length+[(gU.mk p.name x5)].length≤4294967296) (
(some (true,(q++[(gU.mk p.name x5)])))))))) (
lt_ ((cnd (p.kind != t.kind) (true) ((!(p.name==t.name))))) fun b7=>
(cnd b7 (
(some (false,[]))) (
bnd (f q p.args t.args) fun y=>
(some (y.1,y.2))))))
def gTz(f:(List gU)→gB→gB→Option (Bool × List gU)):Prop:=∀(h:List gU)(q:gB)(y:gB)(w0:Nat){r:Bool × List gU},f h q y=some r→Go.Eng.Spec Tryz.prog 135 [.sl 0 w0,.d (mM q),.d (mM y)] [.arr 192 4 w0 (jY h)] (fun sv Lo=>∃v'0,sv=.tup [.sl 0 v'0,.B r.1]∧Lo=[.arr 192 4 v'0 (jY r.2)])
def gJs(f:(List gU)→(List gB)→(List gB)→Option (Bool × List gU)):Prop:=∀(h:List gU)(q:List gB)(y:List gB)(w0:Nat){r:Bool × List gU},f h q y=some r→Go.Eng.Spec Tryz.prog 89 [.sl 0 w0,.L 3 (gN q),.L 3 (gN y)] [.arr 192 4 w0 (jY h)] (fun sv Lo=>∃v'0,sv=.tup [.sl 0 v'0,.B r.1]∧Lo=[.arr 192 4 v'0 (jY r.2)])
theorem hHl{q}{f}(aj:gTz q)(y:gJs f)(l0:List gU)(p:gB)(t:gB)(v0:Nat){r:Bool × List gU}(h:gPn q f l0 p t=some r):Go.Eng.Spec Tryz.prog 135 [.sl 0 v0,.d (mM p),.d (mM t)] [.arr 192 4 v0 (jY l0)] (fun sv Lo=>∃v'0,sv=.tup [.sl 0 v'0,.B r.1]∧Lo=[.arr 192 4 v'0 (jY r.2)]):=by
 obtain⟨ap,ak,am⟩:=p;obtain⟨ag,ah,ad⟩:=t;unfold gPn at h;refine kJ 1 Tryz.func135 rfl (by kernel_rfl) rfl rfl fun A _=>?_;refine goC h ?_ ?_<;>intro c1 h
 ·refine goL ?_;obtain⟨⟨⟨aa,ab,ac⟩,ay⟩,aw,h⟩:=gJ h;refine gE3 (gWn l0 ak aw) ?_;refine goC h ?_ ?_<;>intro c3 h
  ·refine goL ?_;refine yT (gUa (gPb (gB.mk aa ab ac) (gB.mk ag ah ad))) ?_;refine jF ?_;obtain rfl:=Option.some.inj h;exact gAg [.sl 0 v0,.d (.b (teq (gB.mk aa ab ac) (gB.mk ag ah ad)))] _ ⟨v0,rfl,rfl⟩
  ·refine noS ?_;refine jS (P:=Tryz.prog) Mix.h [(0,true),(1,true),(2,true),(3,true),(4,false),(5,true),(6,false),(7,false),(8,true),(9,true)] (by kernel_rfl) ?_;refine goY ?_;obtain⟨g4,h⟩:=pU h;obtain⟨⟨aq,ar,au⟩,ax,h⟩:=uK h;have sx5:=gKc (gB.mk ag ah ad) g4;rw [ax] at sx5;refine gRi (sx5) ?_;refine goY ?_;refine gGi 5 rfl rfl ?_;refine kT (T:=118) (us:=jY [(gU.mk ak (gB.mk aq ar au))]) ?_;obtain⟨g6,h⟩:=pU h;refine kN (T:=118) g6 ?_;refine goY ?_;refine mJ ?_;refine goL ?_;refine jF ?_;obtain rfl:=Option.some.inj h;exact gAg [.sl 0 (v0+1),.B true] _ ⟨(v0+1),rfl,rfl⟩
 ·refine goS ?_;obtain⟨b7,hb7,h⟩:=uK h;refine kH ⟨[(0,.sl 0 v0),(4,.ptr 1 0),(5,.ptr 2 0),(44,.B b7)],[.arr 192 4 v0 (jY l0),bTy ap ak am,bTy ag ah ad],Tryz.f135.ntmps⟩ ?_ ?_
  ·exact gqZ 38 hb7
  refine goC h ?_ ?_<;>intro c9 h
  ·refine goL ?_;refine hEn 6 0 ?_;refine jF ?_;obtain rfl:=Option.some.inj h;exact gAg [.sl 0 (v0+1),.B false] _ ⟨(v0+1),rfl,rfl⟩
  ·refine goS ?_;obtain⟨⟨ai,an⟩,av,h⟩:=gJ h;refine gBz [0] (y l0 am ad v0 av) ?_;rintro _ _ ⟨al,rfl,rfl⟩;show VO _ _ _ _ ⟨(_,.tup [.sl 0 al,.B ai])::_,[.arr 192 4 al (jY an),bTy ap ak am,bTy ag ah ad],_⟩ _;refine goL ?_;refine jF ?_;obtain rfl:=Option.some.inj h;exact gAg [.sl 0 al,.B ai] _ ⟨al,rfl,rfl⟩
def gAk(f:(List gU)→gB→gB→Option (Bool × List gU))(all:List gB):List gB→Nat→(List gU)→Option (Bool × List gU)
 | [],h,q=>(some (true,q))
 | x7::xs,h,q=>bnd (at? all (h:Int)) fun x8=>
bnd (f q x7 x8) fun y=>
(cnd (!y.1) (
(some (false,[]))) (
gAk f all xs (h+1) y.2))
def gJt(f:(List gU)→gB→gB→Option (Bool × List gU))(h:(List gU)→(List gB)→(List gB)→Option (Bool × List gU))(q:List gU)(p:List gB)(all:List gB):Option (Bool × List gU):=
(cnd ((p.length:Int) !=(all.length:Int)) (
(some (false,[]))) (
gAk f all p 0 q))
theorem gW2{f}{q}(y:gTz f)(ab:gJs q)(l0:List gU)(p:List gB)(all:List gB)(v0:Nat){r:Bool × List gU}(h:gJt f q l0 p all=some r):Go.Eng.Spec Tryz.prog 89 [.sl 0 v0,.L 3 (gN p),.L 3 (gN all)] [.arr 192 4 v0 (jY l0)] (fun sv Lo=>∃v'0,sv=.tup [.sl 0 v'0,.B r.1]∧Lo=[.arr 192 4 v'0 (jY r.2)]):=by
 unfold gJt at h;refine kJ 1 Tryz.func89 rfl (by kernel_rfl) rfl rfl fun A _=>?_;refine goC h ?_ ?_<;>intro c1 h
 ·refine goL ?_;refine hEn 6 0 ?_;refine jF ?_;obtain rfl:=Option.some.inj h;exact gAg [.sl 0 (v0+1),.B false] _ ⟨(v0+1),rfl,rfl⟩
 ·refine goS ?_;refine noB ?_;refine gCw 1 (fun z5=>?_);refine mG (fun(y4:Nat)(y2:List gU)(v3:Nat)=>⟨[(0,.sl 0 v3),(1,.L 3 (gN p)),(2,.L 3 (gN all)),(17,.I (p.length:Int)),(18,.N y4)],[.arr 192 4 v3 (jY y2)],Tryz.f89.ntmps⟩) (fun y4 y2 v3=>gAk f all (p.drop y4) y4 y2=some r) (fun y4 y2 v3=>p.length - y4) 0 l0 v0 eJ h ?_;rintro y4 y2 v3 h;refine goL ?_;refine kI (mR (fun c6=>?_) (fun c6=>?_))
  ·have aa:=vR c6;obtain⟨x7,aw,aj⟩:=drop_at aa;rw [aj,gAk.eq_2] at h;obtain⟨ak,al,am⟩:=x7;refine noS ?_;refine kI (jA ?_);refine gIb ?_;refine jS (P:=Tryz.prog) Mix.h [(0,true),(1,true),(2,true),(3,true),(4,true),(5,true),(6,true),(7,true),(8,true),(9,false),(10,true),(11,true),(12,true),(13,true),(14,true)] (by kernel_rfl) ?_;refine goY ?_;refine jW rfl (jR y4 (gDj aw)) ?_;refine goY ?_;obtain⟨x8,an,h⟩:=gJ h;rw [gA4] at an;obtain⟨ao,ap,aq⟩:=x8;refine jW rfl (jR y4 (gDj an)) ?_;refine goY ?_;obtain⟨⟨ar,ag⟩,ax,h⟩:=gJ h;refine gVq [0] (y y2 (gB.mk ak al am) (gB.mk ao ap aq) v3 ax) ?_;rintro _ _ ⟨ad,rfl,rfl⟩;refine gS6 (sv:=.tup [.sl 0 ad,.B ar]) (L':=[.arr 192 4 ad (jY ag)]) (by repeat(first | exact vU.nil | (apply vU.keep;focus ((repeat constructor);done)) | (apply vU.dep;focus kernel_rfl))) ?_;refine goY ?_;refine mJ ?_;refine goC h ?_ ?_<;>intro a3 h
   ·refine goL ?_;refine hEn 6 0 ?_;refine jF ?_;obtain rfl:=Option.some.inj h;exact gAg [.sl 0 (ad+1),.B false] _ ⟨(ad+1),rfl,rfl⟩
   ·refine goS ?_;refine jP (kD y4 (by omega)) ?_;exact⟨(y4+1),ag,ad,h,by omega,eJ⟩
  ·have aa:=vS c6;rw [jK aa,gAk.eq_1] at h;refine goX ?_;refine jF ?_;obtain rfl:=Option.some.inj h;exact gAg [.sl 0 v3,.B true] _ ⟨v3,rfl,rfl⟩
mutual
def gJu:Nat→(List gU)→gB→gB→Option (Bool × List gU)
 | 0,_,_,_=>none
 | n+1,f,h,q=>gPn (gJu n) (gCe n) f h q
def gCe:Nat→(List gU)→(List gB)→(List gB)→Option (Bool × List gU)
 | 0,_,_,_=>none
 | n+1,f,h,q=>gJt (gJu n) (gCe n) f h q
end
theorem hC1:∀(n:Nat),gTz (gJu n)∧gJs (gCe n):=by
 intro n
 induction n with
 | zero=>exact⟨(by intro f q y w0 r h;cases h),(by intro f q y w0 r h;cases h)⟩
 | succ n ih=>
   obtain⟨ih0,ih1⟩:=ih;refine⟨(fun f q y w0 r h=>hHl ih0 ih1 f q y w0 h),(fun f q y w0 r h=>gW2 ih0 ih1 f q y w0 h)⟩
theorem gW3:∀(n:Nat),gJs (gCe n):=fun n=>(hC1 n).2
def gH7(a b:List gB):Option (List gU × Bool):=(gCe 100000 [] a b).map fun r=>(r.2,r.1)
theorem gSk(a b:List gB){r:List gU × Bool}(h:gH7 a b=some r):Go.Eng.Spec Tryz.prog 89 [.nilsl,.L 3 (gN a),.L 3 (gN b)] [] (fun sv Lo=>sv=.tup [.L 4 (jY r.1),.B r.2]∧Lo=[]):=by
 unfold gH7 at h;cases hm:gCe 100000 [] a b with
 | none=>rw [hm] at h;cases h
 | some p=>
   rw [hm] at h;simp only [Option.map_some,Option.some.injEq] at h;subst h;exact Spec.nilF (gW3 100000 [] a b 0 hm)
def gEr(h:gB)(a1:gB):Option (List gU × Bool):=
bnd (gH7 [h] [a1]) fun f=>
(some (f.1,f.2))
theorem gQt(a0:gB)(a1:gB){r:List gU × Bool}(h:gEr a0 a1=some r):jI Tryz.prog 58 [.d (mM a0),.d (mM a1)] [.sl 4 (jY r.1),.b r.2]:=by
 obtain⟨f,q,y⟩:=a0;obtain⟨aa,ab,ac⟩:=a1;unfold gEr at h;refine SpI Tryz.func58 fun A _=>?_;refine goL ?_;refine uO (u:=(.st [.i .i64 f,.s q,.sl 3 (gN y)])) ?_;refine goL ?_;refine uO (u:=(.st [.i .i64 aa,.s ab,.sl 3 (gN ac)])) ?_;refine kS 2 rfl rfl ?_;refine kS 3 rfl rfl ?_;obtain⟨⟨ad,ae⟩,ah,h⟩:=gJ h;refine gBz [] (gSk [(gB.mk f q y)] [(gB.mk aa ab ac)] ah) ?_;rintro _ _ ⟨rfl,rfl⟩;show VO _ _ _ _ ⟨(_,.tup [.L 4 (jY ad),.B ae])::_,[bTy f q y,bTy aa ab ac,.frz 37 3 0 (gN [(gB.mk f q y)]),.frz 37 3 0 (gN [(gB.mk aa ab ac)])],_⟩ _;exact goR h
def gFa(f:gB)(a1:gB):Option (Bool):=
bnd (gEr f a1) fun h=>
(some h.2)
theorem gOm(f:gB)(a1:gB){r:Bool}(h:gFa f a1=some r):jI Tryz.prog 131 [.d (mM f),.d (mM a1)] [.b r]:=by
 obtain⟨y,aa,ab⟩:=f;obtain⟨ac,ad,ae⟩:=a1;unfold gFa at h;refine SpI Tryz.func131 fun A _=>?_;refine goL ?_;obtain⟨⟨ag,ah⟩,q,h⟩:=gJ h;refine uN (gI (gQt _ _ q)) ?_;exact goR h
mutual
def mtT:gB→gB→List gU→Option (List gU)
 | ⟨k,n,ps⟩,t,l=>cnd (k==1) (cnd (lkp n l).2 (cnd (teq (lkp n l).1 t) (some l) none) (some (l++[⟨n,t⟩])))
   (cnd (cnd (k != t.kind) true (cnd (!(n==t.name)) true ((ps.length:Int) !=(t.args.length:Int)))) none (gW4 ps t.args l))
def gW4:List gB→List gB→List gU→Option (List gU)
 | [],_,l=>some l
 | _::_,[],_=>none
 | p::ps,t::ts,l=>bnd (mtT p t l) fun l'=>gW4 ps ts l'
end
def Agr:Option (List gU)→Bool × List gU→Prop
 | none,q=>q.1=false
 | some l,q=>q=(true,l)
mutual
theorem gQu{Q:gB→Prop}(hQ:∀x,Q x→∀y∈x.args,Q y):∀(p t:gB)(l l':List gU),Q t→(∀b∈l,Q b.type_)→mtT p t l=some l'→(∀b∈l',Q b.type_)∧l'.length≤l.length+tnd p
 | ⟨k,n,ps⟩,t,l,l',ht,hl,h=>by
   simp only [mtT] at h;simp only [tnd];cases hk:(k==1)with
   | true=>
     simp only [hk,jQ] at h;cases hb:(lkp n l).2 with
     | true=>
       simp only [hb,jQ] at h;cases he:teq (lkp n l).1 t with
       | true=>simp only [he,jQ,Option.some.injEq] at h;subst h;exact⟨hl,by omega⟩
       | false=>simp [he,gW] at h
     | false=>
       simp only [hb,gW,Option.some.injEq] at h;subst h;refine⟨fun b hb'=>?_,by simp only [List.length_append,List.length_cons,List.length_nil];omega⟩;rcases List.mem_append.1 hb' with hb' | hb'
       ·exact hl b hb'
       ·simp only [List.mem_singleton] at hb';subst hb';exact ht
   | false=>
     simp only [hk,gW] at h;cases hc:(cnd (k != t.kind) true (cnd (!(n==t.name)) true ((ps.length:Int) !=(t.args.length:Int))))with
     | true=>simp [hc,jQ] at h
     | false=>
       simp only [hc,gW] at h
       have:=gYr hQ ps t.args l l' (hQ t ht) hl h
       exact⟨this.1,by omega⟩
theorem gYr{Q:gB→Prop}(hQ:∀x,Q x→∀y∈x.args,Q y):∀(ps ts:List gB)(l l':List gU),(∀t∈ts,Q t)→(∀b∈l,Q b.type_)→gW4 ps ts l=some l'→(∀b∈l',Q b.type_)∧l'.length≤l.length+gHs ps
 | [],_,l,l',_,hl,h=>by simp only [gW4,Option.some.injEq] at h;subst h;exact⟨hl,by simp⟩
 | _::_,[],_,_,_,_,h=>by simp [gW4] at h
 | p::ps,t::ts,l,l',ht,hl,h=>by
   simp only [gW4] at h;obtain⟨f,q,h2⟩:=gJ h;obtain⟨q1,q2⟩:=gQu hQ p t l f (ht t (by simp)) hl q;obtain⟨q3,q4⟩:=gYr hQ ps ts f l' (fun t h=>ht t (by simp [h])) q1 h2;simp only [gHs];exact⟨q3,by omega⟩
end
theorem hLx:∀x,tok x→∀y∈x.args,tok y:=fun x hx y hy=>by
 obtain⟨k,n,ts⟩:=x;simp only [tok] at hx;exact gJ7.1 hx.2 y hy
theorem gSw{n:Nat}(ih:∀(p t:gB)(l:List gU),2*tnd p≤n→bok l→tok t→l.length+tnd p≤4000000→∃q,gJ3 n p t l=some q∧Agr (mtT p t l) q)(all:List gB)(hall:∀t∈all,tok t) :
  ∀(xs:List gB)(k:Nat)(l:List gU),2*gHs xs≤n→bok l→all.length=k+xs.length→l.length+gHs xs≤4000000→∃q,gFi (gJ3 n) all xs k l=some q∧Agr (gW4 xs (all.drop k) l) q
 | [],k,l,_,_,h,_=>⟨_,rfl,rfl⟩
 | x::xs,k,l,hn,hb,h,hl=>by
   simp only [List.length_cons] at h;simp only [gHs] at hn hl;have hk:k < all.length:=by omega
   have hx:all[k]? =some all[k]:=List.getElem?_eq_getElem hk;obtain⟨q,e1,f⟩:=ih x all[k] l (by omega) hb (hall _ (List.getElem_mem hk)) (by omega);rw [gFi.eq_2,gA4,hx,List.drop_eq_getElem_cons hk];simp only [bnd,e1,gW4];cases hm:mtT x all[k] l with
   | none=>
     rw [hm] at f;have y:q.1=false:=f;simp only [y,gW];exact⟨_,rfl,rfl⟩
   | some l1=>
     rw [hm] at f;have y:q=(true,l1):=f;subst y;simp only [jQ];obtain⟨r1,r2⟩:=gQu hLx x all[k] l l1 (hall _ (List.getElem_mem hk)) hb hm;exact gSw ih all hall xs (k+1) l1 (by omega) r1 (by omega) (by omega)
theorem gVb:∀(n:Nat),(∀(p t:gB)(l:List gU),2*tnd p≤n→bok l→tok t→l.length+tnd p≤4000000→∃q,gJ3 n p t l=some q∧Agr (mtT p t l) q)∧
  (∀(ps ts:List gB)(l:List gU),2*gHs ps+1≤n→bok l→(∀t∈ts,tok t)→ts.length=ps.length→l.length+gHs ps≤4000000→∃q,gM0 n ps ts l=some q∧Agr (gW4 ps ts l) q)
 | 0=>⟨fun p t l h=>by have:=gIz p;omega,fun ps ts l h=>by omega⟩
 | n+1=>by
   obtain⟨ih1,ih2⟩:=gVb n;refine⟨fun p t l hn hb ht hl=>?_,fun ps ts l hn hb ht hlen hl=>?_⟩
   ·obtain⟨k,nm,ps⟩:=p;simp only [tnd] at hn hl;rw [gJ3.eq_2];unfold gP4;simp only [lt_,idT,mtT];cases hk:(k==1)with
    | true=>
      simp only [jQ];have hlk:gJh l nm=some (lkp nm l):=gKi nm l hb;rw [jV hlk];cases (lkp nm l).2 with
      | true=>
        simp only [jQ];refine⟨_,rfl,?_⟩;cases teq (lkp nm l).1 t<;>rfl
      | false=>
        simp only [gW];rw [qN ht,qN (by simp;omega)];exact⟨_,rfl,rfl⟩
    | false=>
      simp only [gW];cases f:(cnd (k != t.kind) true (cnd (!(nm==t.name)) true ((ps.length:Int) !=(t.args.length:Int))))with
      | true=>simp only [jQ];exact⟨_,rfl,rfl⟩
      | false=>
        simp only [gW];have hlen:t.args.length=ps.length:=by
         cases h2:(k != t.kind)with
         | true=>rw [h2] at f;simp [jQ] at f
         | false=>
           rw [h2] at f;simp only [gW] at f;cases h3:(!(nm==t.name))with
           | true=>rw [h3] at f;simp [jQ] at f
           | false=>
             rw [h3] at f;simp only [gW] at f
             have:((ps.length:Int))=t.args.length:=by simpa using f
             omega
        obtain⟨q,e1,y⟩:=ih2 ps t.args l (by omega) hb (hLx t ht) hlen (by omega);rw [jV e1];cases hm:gW4 ps t.args l with
        | none=>
          rw [hm] at y;have e3:q.1=false:=y;simp only [e3,gW];exact⟨_,rfl,rfl⟩
        | some l1=>
          rw [hm] at y;have e3:q=(true,l1):=y;subst e3;exact⟨_,rfl,rfl⟩
   ·rw [gM0.eq_2];unfold gUp
    have:=gSw ih1 ts ht ps 0 l (by omega) hb (by omega) (by omega)
    rwa [List.drop_zero] at this
theorem gSx{n:Nat}(ih:∀(p t:gB)(l:List gU),2*tnd p≤n→bok l→tok t→l.length+tnd p≤4000000→∃q,gJu n l p t=some q∧Agr (mtT p t l) q)(all:List gB)(hall:∀t∈all,tok t) :
  ∀(xs:List gB)(k:Nat)(l:List gU),2*gHs xs≤n→bok l→all.length=k+xs.length→l.length+gHs xs≤4000000→∃q,gAk (gJu n) all xs k l=some q∧Agr (gW4 xs (all.drop k) l) q
 | [],k,l,_,_,h,_=>⟨_,rfl,rfl⟩
 | x::xs,k,l,hn,hb,h,hl=>by
   simp only [List.length_cons] at h;simp only [gHs] at hn hl;have hk:k < all.length:=by omega
   have hx:all[k]? =some all[k]:=List.getElem?_eq_getElem hk;obtain⟨q,e1,f⟩:=ih x all[k] l (by omega) hb (hall _ (List.getElem_mem hk)) (by omega);rw [gAk.eq_2,gA4,hx,List.drop_eq_getElem_cons hk];simp only [bnd,e1,gW4];cases hm:mtT x all[k] l with
   | none=>
     rw [hm] at f;have y:q.1=false:=f;simp only [y,Bool.not_false,jQ];exact⟨_,rfl,rfl⟩
   | some l1=>
     rw [hm] at f;have y:q=(true,l1):=f;subst y;simp only [Bool.not_true,gW];obtain⟨r1,r2⟩:=gQu hLx x all[k] l l1 (hall _ (List.getElem_mem hk)) hb hm;exact gSx ih all hall xs (k+1) l1 (by omega) r1 (by omega) (by omega)
theorem gVc:∀(n:Nat),(∀(p t:gB)(l:List gU),2*tnd p≤n→bok l→tok t→l.length+tnd p≤4000000→∃q,gJu n l p t=some q∧Agr (mtT p t l) q)∧
  (∀(ps ts:List gB)(l:List gU),2*gHs ps+1≤n→bok l→(∀t∈ts,tok t)→l.length+gHs ps≤4000000→∃q,gCe n l ps ts=some q∧Agr (cnd ((ps.length:Int) !=(ts.length:Int)) none (gW4 ps ts l)) q)
 | 0=>⟨fun p t l h=>by have:=gIz p;omega,fun ps ts l h=>by omega⟩
 | n+1=>by
   obtain⟨ih1,ih2⟩:=gVc n;refine⟨fun p t l hn hb ht hl=>?_,fun ps ts l hn hb ht hl=>?_⟩
   ·obtain⟨k,nm,ps⟩:=p;simp only [tnd] at hn hl;rw [gJu.eq_2];unfold gPn;simp only [lt_,idT,mtT];cases hk:(k==1)with
    | true=>
      simp only [jQ];have hlk:gJg l nm=some (lkp nm l):=gKh nm l hb;rw [jV hlk];cases (lkp nm l).2 with
      | true=>
        simp only [jQ];refine⟨_,rfl,?_⟩;cases teq (lkp nm l).1 t<;>rfl
      | false=>
        simp only [gW];rw [qN ht,qN (by simp;omega)];exact⟨_,rfl,rfl⟩
    | false=>
      simp only [gW];obtain⟨q,y,e2⟩:=ih2 ps t.args l (by omega) hb (hLx t ht) (by omega);cases f:(k != t.kind)with
      | true=>simp only [jQ];exact⟨_,rfl,rfl⟩
      | false=>
        simp only [gW];cases h2:(!(nm==t.name))with
        | true=>simp only [jQ];exact⟨_,rfl,rfl⟩
        | false=>
          simp only [gW];rw [jV y];exact⟨_,rfl,e2⟩
   ·rw [gCe.eq_2];unfold gJt;cases f:((ps.length:Int) !=(ts.length:Int))with
    | true=>simp only [jQ];exact⟨_,rfl,rfl⟩
    | false=>
      simp only [gW];have hlen:ts.length=0+ps.length:=by
       have:((ps.length:Int))=ts.length:=by simpa using f
       omega
      have:=gSx ih1 ts ht ps 0 l (by omega) hb hlen (by omega)
      rwa [List.drop_zero] at this
theorem gSy(p t:gB)(hp:tnd p≤40000)(ht:tok t):∃q,gEr p t=some (q.2,q.1)∧Agr (mtT p t []) q:=by
 obtain⟨q,h,f⟩:=(gVc 100000).2 [p] [t] [] (by simp only [gHs];omega) (fun b hb=>by simp at hb) (by simpa using ht) (by simp [gHs];omega);refine⟨q,?_,?_⟩
 ·unfold gEr gH7;rw [h];rfl
 ·have y:((([p]:List gB).length:Int) !=(([t]:List gB).length:Int))=false:=by simp
  rw [y,gW] at f;simp only [gW4] at f;cases hm:mtT p t [] with
  | none=>rw [hm] at f;exact f
  | some l=>rw [hm] at f;exact f
theorem Agr.fst{r:Option (List gU)}{q:Bool × List gU}(h:Agr r q):q.1=r.isSome:=by
 cases r with
 | none=>exact h
 | some l=>
   have h:q=(true,l):=h;rw [h];rfl
theorem gMy(p t:gB)(hp:tnd p≤40000)(ht:tok t):gFa p t=some (mtT p t []).isSome:=by
 obtain⟨q,f,h⟩:=gSy p t hp ht;unfold gFa;rw [jV f,←h.fst]
def gFb(f:gM)(a1:gD):Option (jD × Bool):=
bnd ((cnd (decide (a1.package < 0)) ((some true)) ((cnd (decide (a1.package≥(f.packages.length:Int))) ((some true)) ((cnd (decide (a1.at_ < 0)) ((some true)) (bnd (at? f.packages a1.package) fun h=>
(some (decide (a1.at_≥(h.instances.length:Int))))))))))) fun q=>
(cnd q (
(some ((jD.mk [] [] (gB.mk 0 [] []) [] false false (gB.mk 0 [] []) []),false))) (
bnd (at? f.packages a1.package) fun y=>
bnd (at? y.instances a1.at_) fun x8=>
(some (x8,true))))
theorem gOn(a0:gM)(a1:gD){r:jD × Bool}(h:gFb a0 a1=some r):jI Tryz.prog 20 [.d (mD a0),.d (qO a1)] [gBq r.1,.b r.2]:=by
 obtain⟨aa⟩:=a0;obtain⟨ab,ac⟩:=a1;unfold gFb at h;refine SpI Tryz.func20 fun A _=>?_;refine gIb ?_;obtain⟨b1,hb1,h⟩:=gJ h;refine wG (P:=Tryz.prog) Mix.h ⟨[(2,.ptr 0 0),(3,.ptr 1 0),(4,.ptr 2 0),(34,.B b1)],[bPr aa,.box [.I ab,.I ac],.box [.S [],.nilsl,.I 0,.S [],.nilsl,.nilsl,.B false,.B false,.I 0,.S [],.nilsl,.nilsl]],Tryz.f20.ntmps⟩ (by kernel_rfl) ?_ ?_
 ·refine goL ?_;refine gAl 9 (fun c2=>?_) (fun c2=>?_)
  ·replace hb1:=kU c2 hb1;refine goL ?_;cases hb1;exact eJ
  ·replace hb1:=kV c2 hb1;refine goL ?_;refine gAl 17 (fun c3=>?_) (fun c3=>?_)
   ·replace hb1:=kU c3 hb1;refine goL ?_;cases hb1;exact eJ
   ·replace hb1:=kV c3 hb1;refine goL ?_;refine gAl 22 (fun c4=>?_) (fun c4=>?_)
    ·replace hb1:=kU c4 hb1;refine goL ?_;cases hb1;exact eJ
    ·replace hb1:=kV c4 hb1;refine goL ?_;obtain⟨x5,f,hb1⟩:=gJ hb1;obtain⟨ad,f⟩:=gBm f;obtain⟨ar,au,av,aw,ax,ay⟩:=x5;refine gGh (uL ad (gAc f)) ?_;refine goL ?_;cases hb1;exact eJ
 refine goC h ?_ ?_<;>intro c6 h
 ·refine goL ?_;refine vP (jN TBd.h TZ.h rfl (by repeat constructor)) ?_;exact goR h
 ·refine noS ?_;refine jS (P:=Tryz.prog) Mix.h [(0,true),(1,true),(2,true),(3,true),(4,true),(5,true),(6,true),(7,true),(8,true),(9,true),(10,true),(11,false),(12,true)] (by kernel_rfl) ?_;refine goY ?_;obtain⟨x7,q,h⟩:=gJ h;obtain⟨ae,q⟩:=gBm q;obtain⟨a3,a4,a5,a6,a7,a8⟩:=x7;refine jW rfl (uL ae (gAc q)) ?_;refine goY ?_;obtain⟨x8,y,h⟩:=gJ h;obtain⟨ag,y⟩:=gBm y;obtain⟨a9,ba,⟨ah,ai,aj⟩,bb,bc,bd,⟨ak,al,am⟩,be⟩:=x8;refine jW rfl (uL ag (gHj y)) ?_;refine goY ?_;refine mJ ?_;exact goR h
def gIu(h:gD)(a1:gM)(a2:gP):Option (Bool):=
bnd (gFb a1 h) fun f=>
bnd ((cnd (!(f.1.trait==a2.trait)) ((some true)) (bnd (gFa f.1.head a2.type_) fun q=>
(some (!q))))) fun y=>
(some y)
theorem hC3(a0:gD)(a1:gM)(a2:gP){r:Bool}(h:gIu a0 a1 a2=some r):jI Tryz.prog 130 [.d (qO a0),.dp (mD a1),.dp (yF a2)] [.b r]:=by
 obtain⟨ak,al⟩:=a0;obtain⟨au⟩:=a1;obtain⟨av,⟨am,an,ao⟩⟩:=a2;unfold gIu at h;refine SpI Tryz.func130 fun A _=>?_;refine goL ?_;obtain⟨⟨⟨ad,ae,⟨f,q,y⟩,ag,ah,ai,⟨aa,ab,ac⟩,aj⟩,aw⟩,aq,h⟩:=gJ h;refine jP (gI (gOn _ _ aq)) ?_;obtain⟨b2,hb2,h⟩:=gJ h;refine kH ⟨[(4,.B b2)],[.box [.I ak,.I al],bIn ad ae f q y ag ah ai aa ab ac aj],Tryz.f130.ntmps⟩ ?_ ?_
 ·refine gqO 18 hb2 (fun c3 hb2=>?_);obtain⟨x4,ar,hb2⟩:=gJ hb2;refine jP (gI (gOm _ _ ar)) ?_;cases hb2;exact eJ
 exact goR h
def gA8(y:Nat)(f:(List gD)→Option (List gD)):List jD→Nat→(List gD)→Option (List gD)
 | [],h,q=>(f q)
 | aa::xs,h,q=>gd (q.length+[(gD.mk (y:Int) (h:Int))].length≤4294967296) (
gA8 y f xs (h+1) (q++[(gD.mk (y:Int) (h:Int))]))
def gAb:List jZ→Nat→(List gD)→Option (List gD)
 | [],f,h=>(some h)
 | q::xs,f,h=>gA8 f (fun y=>gAb xs (f+1) y) q.instances 0 h
def gI8(w:gM):Option (List gD):=
gAb w.packages 0 []
theorem hAf(w:gM){r:List gD}(h:gI8 w=some r):Go.Eng.Spec Tryz.prog 129 [.d (mD w)] [] (fun sv Lo=>sv=.sl 0 0∧Lo=[.own 28 2 0 (kR r)]):=by
 obtain⟨f⟩:=w;unfold gI8 at h;refine kJ 0 Tryz.func129 rfl (by kernel_rfl) rfl rfl fun A _=>?_;refine goL ?_;refine gC1 ?_;refine goL ?_;refine noB ?_;refine gCw 9 (fun z4=>?_);refine mG (fun(q:Nat)(y1:List gD)(v2:Nat)=>⟨[(3,.sl 1 v2),(9,.L 6 (mE f)),(10,.I (f.length:Int)),(11,.N q)],[bPr f,.own 28 2 v2 (kR y1)],Tryz.f129.ntmps⟩) (fun q y1 v2=>gAb (f.drop q) q y1=some r) (fun q y1 v2=>f.length - q) 0 [] 0 eJ h ?_;rintro q y1 v2 h;refine goL ?_;refine kI (mR (fun c5=>?_) (fun c5=>?_))
 ·have y:=vR c5;obtain⟨x6,a0,ak⟩:=drop_at y;rw [ak,gAb.eq_2] at h;obtain⟨al,am,an,ao,ab,ap⟩:=x6;refine noS ?_;refine kI (jA ?_);refine goL ?_;refine jP (jR q (gAc a0)) ?_;refine noB ?_;refine gCw 17 (fun bd=>?_);refine mG (fun(y9:Nat)(y7:List gD)(v8:Nat)=>⟨[(3,.sl 1 v8),(4,.N q),(9,.L 6 (mE f)),(10,.I (f.length:Int)),(11,.N q),(18,.I (ab.length:Int)),(19,.N y9)],[bPr f,.own 28 2 v8 (kR y7),bPk al am an ao ab ap],Tryz.f129.ntmps⟩) (fun y9 y7 v8=>gA8 q (fun y7=>gAb (f.drop (q+1)) (q+1) y7) (ab.drop y9) y9 y7=some r) (fun y9 y7 v8=>ab.length - y9) 0 y1 v2 eJ h ?_;rintro y9 y7 v8 h;refine goL ?_;refine kI (mR (fun ai=>?_) (fun ai=>?_))
  ·have aa:=vR ai;obtain⟨a3,bb,aj⟩:=drop_at aa;rw [aj,gA8.eq_2] at h;obtain⟨a4,a5,⟨aq,ar,au⟩,a6,a7,a8,⟨av,aw,ax⟩,a9⟩:=a3;refine noS ?_;refine kI (jA ?_);refine goL ?_;refine vP (jN TBd.h TZ.h rfl (by repeat constructor)) ?_;refine wX (gD.mk (q:Int) (y9:Int)) ?_;obtain⟨ba,h⟩:=pU h;refine gDl ba ?_;refine goL ?_;refine jP (kD y9 (by omega)) ?_;exact⟨(y9+1),(y7++[(gD.mk (q:Int) (y9:Int))]),(v8+1),h,by omega,eJ⟩
  ·have aa:=vS ai;rw [jK aa,gA8.eq_1] at h;refine goX ?_;refine jP (kD q (by omega)) ?_;exact⟨(q+1),y7,v8,h,by omega,eJ⟩
 ·have y:=vS c5;rw [jK y,gAb.eq_1] at h;refine goX ?_;refine hEf (fr':=[(2,.sl 0 v2)]) (Lc:=[.own 28 2 v2 (kR y1)]) 0 [1] ?_;refine hR7 (fr':=[(2,.sl 0 0)]) (L':=[.own 28 2 0 (kR y1)]) 0 0 ?_;refine jF ?_;obtain rfl:=Option.some.inj h;exact gAg [.sl 0 0] _ ⟨rfl,rfl⟩
def wV(a1:gD→Option Bool):List gD→Nat→Option (Int)
 | [],f=>(some (-1))
 | h::xs,f=>bnd (a1 h) fun q=>
(cnd q (
(some (f:Int))) (
wV a1 xs (f+1)))
def gD4(f:List gD)(a1:gD→Option Bool):Option (Int):=
wV a1 f 0
theorem gO4(y:List gD){a1f:Nat}{a1c:List SV}{a1:gD→Option Bool}(a1_lt:∀n,SV.lts n a1c=true)(ha1:∀(x0:gD)(r:Bool),a1 x0=some r→jI Tryz.prog a1f ([.d (qO x0)]++a1c) [.b r]){r:Int}(h:gD4 y a1=some r):jI Tryz.prog 132 [.L 2 (kR y),.fn a1f a1c] [.i .i64 r]:=by
 unfold gD4 at h;refine SpI Tryz.func132 fun A _=>?_;refine goL ?_;refine noB ?_;refine gCw 0 (fun z2=>?_);refine pY (fun(q:Nat)=>⟨[(0,.L 2 (kR y)),(1,.fn a1f a1c),(7,.I (y.length:Int)),(8,.N q)],[],Tryz.f132.ntmps⟩) (fun q=>wV a1 (y.drop q) q=some r) (fun q=>y.length - q) 0 ⟨rfl,⟨⟨rfl,rfl⟩,⟨rfl,a1_lt _⟩,⟨rfl,rfl⟩,⟨rfl,rfl⟩,trivial⟩,⟨[],rfl⟩,rfl⟩ h ?_;rintro q h;refine goL ?_;refine kI (mR (fun c3=>?_) (fun c3=>?_))
 ·have f:=vR c3;obtain⟨x4,ac,aa⟩:=drop_at f;rw [aa,wV.eq_2] at h;obtain⟨ah,ai⟩:=x4;refine noS ?_;refine kI (jA ?_);refine goL ?_;refine jP (jR q (zA ac)) ?_;obtain⟨x5,ad,h⟩:=gJ h;refine jP (gPv (ha1 _ _ ad) (a1_lt 0)) ?_;refine mR (fun c6=>?_) (fun c6=>?_)
  ·replace h:=kU c6 h;exact goR h
  ·replace h:=kV c6 h;refine goS ?_;refine jP (kD q (by omega)) ?_;exact⟨(q+1),h,by omega,⟨rfl,⟨⟨rfl,rfl⟩,⟨rfl,a1_lt _⟩,⟨rfl,rfl⟩,⟨rfl,rfl⟩,trivial⟩,⟨_,rfl⟩,rfl⟩⟩
 ·have f:=vS c3;rw [jK f,wV.eq_1] at h;refine goX ?_;refine jF ?_;cases h;exact uM
def yK(w:gM)(g:gP):Nat→(List gD)→Int→Int→Option (List gD)
 | 0,h,f,q=>none
 | n7+1,h,f,q=>(cnd (decide (q < (h.length:Int))) (
bnd (at? h q) fun x9=>
bnd (gIu x9 w g) fun y=>
(cnd (!y) (
bnd (at? h f) fun ac=>
yK w g n7 (h.set (Int.toNat f) x9) (IntKind.i64.wrap (f+1)) (IntKind.i64.wrap (q+1))) (
yK w g n7 h f (IntKind.i64.wrap (q+1))))) (
gd (0≤f∧f≤(h.length:Int)) (
gd (0≤f∧f≤((h.take (Int.toNat f)++List.replicate (h.length - Int.toNat f) (gD.mk 0 0)).length:Int)) (
(some ((h.take (Int.toNat f)++List.replicate (h.length - Int.toNat f) (gD.mk 0 0)).take (Int.toNat f)))))))
def gGr(f:List gD)(w:gM)(g:gP)(q:Nat):Option (List gD):=
bnd (gD4 f (fun y=>gIu y w g)) fun h=>
(cnd (h==(-1)) (
(some f)) (
yK w g q f h (IntKind.i64.wrap (h+1))))
theorem gT0(l0:List gD)(w:gM)(g:gP)(v0:Nat){n0:Nat}{r:List gD}(h:gGr l0 w g n0=some r):Go.Eng.Spec Tryz.prog 128 [.sl 0 v0,.fn 130 [.ptr 1 0,.ptr 2 0]] [.arr 28 2 v0 (kR l0),bPr w.packages,bBd g.trait g.type_.kind g.type_.name g.type_.args] (fun sv Lo=>∃v'0,sv=.sl 0 v'0∧Lo=[.arr 28 2 v'0 (kR r),bPr w.packages,bBd g.trait g.type_.kind g.type_.name g.type_.args]):=by
 obtain⟨ab⟩:=w;obtain⟨ac,⟨f,q,y⟩⟩:=g;unfold gGr at h;refine kJ 3 Tryz.func128 rfl (by kernel_rfl) rfl rfl fun A _=>?_;refine goL ?_;obtain⟨x1,au,h⟩:=gJ h;refine yT (hV3 (gO4 l0 (a1:=(fun z0=>gIu z0 (gM.mk ab) (gP.mk ac (gB.mk f q y)))) (fun _=>rfl) (fun z0 r hr=>hC3 z0 (gM.mk ab) (gP.mk ac (gB.mk f q y)) hr) au)) ?_;refine mR (fun c2=>?_) (fun c2=>?_)
 ·replace h:=kU c2 h;refine goL ?_;refine jF ?_;obtain rfl:=Option.some.inj h;exact gAg [.sl 0 v0] _ ⟨v0,rfl,rfl⟩
 ·replace h:=kV c2 h;refine goS ?_;refine jP (pV) ?_;refine noB ?_;refine gXf (fun(n7:Nat)(y3:List gD)(y5:Int)(y6:Int)(v4:Nat)=>⟨[(0,.sl 0 v4),(1,.fn 130 [.ptr 1 0,.ptr 2 0]),(5,.I y5),(6,.I y6)],[.arr 28 2 v4 (kR y3),bPr ab,bBd ac f q y],Tryz.f128.ntmps⟩) (fun n7 y3 y5 y6 v4=>yK (gM.mk ab) (gP.mk ac (gB.mk f q y)) n7 y3 y5 y6=some r) (fun n7 y3 y5 y6 v4=>n7) n0 l0 x1 (IntKind.i64.wrap (x1+1)) v0 eJ h ?_;rintro n7 y3 y5 y6 v4 h;rcases n7 with _ | n7
  ·cases h
  rw [yK.eq_2] at h;refine goC h ?_ ?_<;>intro c8 h
  ·refine noS ?_;refine kI (jA ?_);refine goL ?_;obtain⟨x9,ai,h⟩:=gJ h;obtain⟨ap,ai⟩:=gBm ai;obtain⟨ad,ae⟩:=x9;refine vP (gZb ap (List.getElem?_eq_some_iff.1 ai).1) ?_;refine yT (hIl ai) ?_;obtain⟨a8,aq,h⟩:=gJ h;refine yT (jAq (dargs:=[_]) (hC3 (gD.mk ad ae) (gM.mk ab) (gP.mk ac (gB.mk f q y)) aq)) ?_;refine mR (fun am=>?_) (fun am=>?_)
   ·replace h:=kU am h;refine goL ?_;obtain⟨ax,aa,h⟩:=gJ h;obtain⟨an,aa⟩:=gBm aa;obtain⟨ay,a0⟩:=ax;refine vP (gZb an (List.getElem?_eq_some_iff.1 aa).1) ?_;refine hPo (gD.mk ad ae) (List.getElem?_eq_some_iff.1 aa).1 ?_;refine goL ?_;refine jP (pV) ?_;refine jP (pV) ?_;exact⟨n7,(y3.set (Int.toNat y5) (gD.mk ad ae)),(IntKind.i64.wrap (y5+1)),(IntKind.i64.wrap (y6+1)),v4,h,Nat.lt_succ_self _,eJ⟩
   ·replace h:=kV am h;refine goS ?_;refine jP (pV) ?_;exact⟨n7,y3,y5,(IntKind.i64.wrap (y6+1)),v4,h,Nat.lt_succ_self _,eJ⟩
  ·refine goX ?_;obtain⟨a3,h⟩:=pU h;refine hM4 (gD.mk 0 0) a3 ?_;refine goL ?_;obtain⟨a4,h⟩:=pU h;refine hEu a4 ?_;refine goL ?_;refine jF ?_;obtain rfl:=Option.some.inj h;exact gAg [.sl 0 (v4+1)] _ ⟨(v4+1),rfl,rfl⟩
def gK8(f:List gD)(h:gM)(q:gP):Option (List gD):=gGr f h q 5000
def gQv(f:gM)(a1:gP):Option (List gD):=
bnd (gI8 f) fun h=>
bnd (gK8 h f a1) fun q=>
(some q)
theorem hLy(a0:gM)(a1:gP){r:List gD}(h:gQv a0 a1=some r):jI Tryz.prog 84 [.d (mD a0),.d (yF a1)] [.sl 2 (kR r)]:=by
 obtain⟨aa⟩:=a0;obtain⟨ab,⟨f,q,y⟩⟩:=a1;unfold gQv at h;refine SpI Tryz.func84 fun A _=>?_;refine goL ?_;obtain⟨x1,ad,h⟩:=gJ h;refine gBz [] (hAf (gM.mk aa) ad) ?_;rintro _ _ ⟨rfl,rfl⟩;show VO _ _ _ _ ⟨(_,.sl 2 0)::_,[bPr aa,bBd ab f q y,.own 28 2 0 (kR x1)],_⟩ _;refine uN (hDt) ?_;refine hM3 2 ?_;obtain⟨x2,ae,h⟩:=gJ h;refine gBz [2,0,1] (gT0 x1 (gM.mk aa) (gP.mk ab (gB.mk f q y)) 0 ae) ?_;rintro _ _ ⟨v3,rfl,rfl⟩;show VO _ _ _ _ ⟨(_,.sl 2 v3)::_,[bPr aa,bBd ab f q y,.arr 28 2 v3 (kR x2)],_⟩ _;refine goL ?_;refine gV 2 rfl rfl ?_;refine jF ?_;cases h;exact uM
end Go.Proofs.YtfpdlnkkcnmebaaGreat
