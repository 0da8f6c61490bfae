import Derived.Test.YtegahmhnmjnhhaaGreatEng19
namespace Go.Eng
open Go Go.RowKit
inductive OX:Nat→List TypeId→List U→List SV→List LO→Prop
 | nil {b:Nat}:OX b [] [] [] []
 | sl {b e z:Nat} {es:List TypeId} {us r:List U} {cs:List SV} {ls:List LO} (h:OX (b+1) es r cs ls):OX b (e::es) (.sl z us::r) (.sl b 0::cs) (.own e z 0 us::ls)
 | i {b:Nat} {k:IntKind} {n:Int} {es:List TypeId} {r:List U} {cs:List SV} {ls:List LO} (h:OX b es r cs ls):OX b es (.i k n::r) (.d (.i k n)::cs) ls
 | b {b:Nat} {x:Bool} {es:List TypeId} {r:List U} {cs:List SV} {ls:List LO} (h:OX b es r cs ls):OX b es (.b x::r) (.d (.b x)::cs) ls
 | s {b:Nat} {l:LB} {es:List TypeId} {r:List U} {cs:List SV} {ls:List LO} (h:OX b es r cs ls):OX b es (.s l::r) (.d (.s l)::cs) ls
inductive O1:Nat→List TypeId→U→SV→List LO→Prop
 | st {b:Nat} {es:List TypeId} {us fl:List U} {cs:List SV} {ls:List LO} (hl:Lvs us fl) (h:OX b es fl cs ls):O1 b es (.st us) (.ag cs) ls
 | leaf {b:Nat} {es:List TypeId} {u:U} {sv:SV} {ls:List LO} (hu:u.isSt=false) (h:OX b es [u] [sv] ls):O1 b es u sv ls
inductive Os:Nat→List TypeId→List U→List SV→List LO→Prop
 | nil {b:Nat}:Os b [] [] [] []
 | cons {b n:Nat} {es es1 es2:List TypeId} {u:U} {us:List U} {sv:SV} {svs:List SV} {ls ls1 ls2:List LO} (h:O1 b es1 u sv ls1) (hn:ls1.length=n) (h2:Os (b+n) es2 us svs ls2) (he:Jn es1 es2 es) (hl:Jn ls1 ls2 ls):Os b es (u::us) (sv::svs) ls
inductive OY:Nat→List TypeId→List U→SV→List LO→Prop
 | one {b:Nat} {es:List TypeId} {u:U} {sv:SV} {ls:List LO} (h:O1 b es u sv ls):OY b es [u] sv ls
 | tup {b:Nat} {es:List TypeId} {u u':U} {us:List U} {svs:List SV} {ls:List LO} (h:Os b es (u::u'::us) svs ls):OY b es (u::u'::us) (.tup svs) ls
inductive Ln {α:Type}:List α→Nat→Prop
 | z:Ln [] 0
 | s {a:α} {l:List α} {n:Nat} (h:Ln l n):Ln (a::l) (n+1)
theorem Ln.eq{α:Type}{l:List α}{n:Nat}(h:Ln l n):l.length=n:=by
 induction h with
 | z=>rfl
 | s h ih=>simp [ih]
inductive OXr:Nat→List TypeId→List U→List SV→List LO→List TypeId→Prop
 | nil {b:Nat} {es:List TypeId}:OXr b es [] [] [] es
 | sl {b e z:Nat} {es rs:List TypeId} {us r:List U} {cs:List SV} {ls:List LO} (h:OXr (b+1) es r cs ls rs):OXr b (e::es) (.sl z us::r) (.sl b 0::cs) (.own e z 0 us::ls) rs
 | i {b:Nat} {k:IntKind} {n:Int} {es rs:List TypeId} {r:List U} {cs:List SV} {ls:List LO} (h:OXr b es r cs ls rs):OXr b es (.i k n::r) (.d (.i k n)::cs) ls rs
 | b {b:Nat} {x:Bool} {es rs:List TypeId} {r:List U} {cs:List SV} {ls:List LO} (h:OXr b es r cs ls rs):OXr b es (.b x::r) (.d (.b x)::cs) ls rs
 | s {b:Nat} {l:LB} {es rs:List TypeId} {r:List U} {cs:List SV} {ls:List LO} (h:OXr b es r cs ls rs):OXr b es (.s l::r) (.d (.s l)::cs) ls rs
theorem OXr.ox{b:Nat}{es rs:List TypeId}{fl:List U}{cs:List SV}{ls:List LO}(h:OXr b es fl cs ls rs):∃e1,es=e1++rs∧OX b e1 fl cs ls:=by
 induction h with
 | nil=>exact⟨[],rfl,.nil⟩
 | @sl b e z es rs us r cs ls h ih=>obtain⟨e1,h1,h2⟩:=ih;exact⟨e::e1,by rw [h1];rfl,.sl h2⟩
 | i h ih=>obtain⟨e1,h1,h2⟩:=ih;exact⟨e1,h1,.i h2⟩
 | b h ih=>obtain⟨e1,h1,h2⟩:=ih;exact⟨e1,h1,.b h2⟩
 | s h ih=>obtain⟨e1,h1,h2⟩:=ih;exact⟨e1,h1,.s h2⟩
inductive O1r:Nat→List TypeId→U→SV→List LO→List TypeId→Prop
 | st {b:Nat} {es rs:List TypeId} {us fl:List U} {cs:List SV} {ls:List LO} (hl:Lvs us fl) (h:OXr b es fl cs ls rs):O1r b es (.st us) (.ag cs) ls rs
 | sl {b e z:Nat} {es:List TypeId} {us:List U}:O1r b (e::es) (.sl z us) (.sl b 0) [.own e z 0 us] es
 | i {b:Nat} {k:IntKind} {n:Int} {es:List TypeId}:O1r b es (.i k n) (.d (.i k n)) [] es
 | b {b:Nat} {x:Bool} {es:List TypeId}:O1r b es (.b x) (.d (.b x)) [] es
 | s {b:Nat} {l:LB} {es:List TypeId}:O1r b es (.s l) (.d (.s l)) [] es
theorem O1r.o1{b:Nat}{es rs:List TypeId}{u:U}{sv:SV}{ls:List LO}(h:O1r b es u sv ls rs):∃e1,es=e1++rs∧O1 b e1 u sv ls:=by
 cases h with
 | st hl h=>obtain⟨e1,h1,h2⟩:=h.ox;exact⟨e1,h1,.st hl h2⟩
 | @sl e z us=>exact⟨[e],rfl,.leaf rfl (.sl .nil)⟩
 | i=>exact⟨[],rfl,.leaf rfl (.i .nil)⟩
 | b=>exact⟨[],rfl,.leaf rfl (.b .nil)⟩
 | s=>exact⟨[],rfl,.leaf rfl (.s .nil)⟩
inductive Osr:Nat→List TypeId→List U→List SV→List LO→Prop
 | nil {b:Nat}:Osr b [] [] [] []
 | cons {b n:Nat} {es rs:List TypeId} {u:U} {us:List U} {sv:SV} {svs:List SV} {ls ls1 ls2:List LO} (h:O1r b es u sv ls1 rs) (hn:Ln ls1 n) (h2:Osr (b+n) rs us svs ls2) (hl:Jn ls1 ls2 ls):Osr b es (u::us) (sv::svs) ls
theorem Jn.mk{α:Type}:∀(x y:List α),Jn x y (x++y)
 | [],_=>.z
 | _::x,y=>.s (Jn.mk x y)
theorem Osr.os{b:Nat}{es:List TypeId}{us:List U}{svs:List SV}{ls:List LO}(h:Osr b es us svs ls):Os b es us svs ls:=by
 induction h with
 | nil=>exact .nil
 | cons h hn h2 hl ih=>
   obtain⟨e1,h3,h4⟩:=h.o1;subst h3;exact .cons h4 hn.eq ih (Jn.mk _ _) hl
inductive OYr:Nat→List TypeId→List U→SV→List LO→Prop
 | one {b:Nat} {es:List TypeId} {u:U} {sv:SV} {ls:List LO} (h:O1r b es u sv ls []):OYr b es [u] sv ls
 | tup {b:Nat} {es:List TypeId} {u u':U} {us:List U} {svs:List SV} {ls:List LO} (h:Osr b es (u::u'::us) svs ls):OYr b es (u::u'::us) (.tup svs) ls
theorem OYr.oy{b:Nat}{es:List TypeId}{us:List U}{sv:SV}{ls:List LO}(h:OYr b es us sv ls):OY b es us sv ls:=by
 cases h with
 | one h=>
   obtain⟨e1,h1,h2⟩:=h.o1;rw [List.append_nil] at h1;subst h1;exact .one h2
 | tup h=>exact .tup h.os
def kR(P:Program)(f:Nat)(args:List SV)(es:List TypeId)(us:List U):Prop:=Spec P f args [] (fun r L'=>OY 0 es us r L')
section
variable {S S':Nat→Prop}{L Lc:List LO}{env envc:List Value}{w:World}
theorem OX.own{b:Nat}{es:List TypeId}{fl:List U}{cs:List SV}{ls:List LO}(h:OX b es fl cs ls):∀o∈ls,∃e z us,o=.own e z 0 us:=by
 induction h with
 | nil=>intro o ho;cases ho
 | sl h ih=>intro o ho;rcases List.mem_cons.1 ho with rfl | ho;· exact⟨_,_,_,rfl⟩
            exact ih o ho
 | _ h ih=>exact ih
theorem O1.own{b:Nat}{es:List TypeId}{u:U}{sv:SV}{ls:List LO}(h:O1 b es u sv ls):∀o∈ls,∃e z us,o=.own e z 0 us:=by
 cases h with
 | st _ h=>exact h.own
 | leaf _ h=>exact h.own
theorem Os.own{b:Nat}{es:List TypeId}{us:List U}{svs:List SV}{ls:List LO}(h:Os b es us svs ls):∀o∈ls,∃e z us,o=.own e z 0 us:=by
 induction h with
 | nil=>intro o ho;cases ho
 | cons h hn h2 he hl ih=>
   intro o ho;rw [←hl.spec] at ho;rcases List.mem_append.1 ho with ho | ho
   ·exact h.own o ho
   ·exact ih o ho
theorem OY.own{b:Nat}{es:List TypeId}{us:List U}{sv:SV}{ls:List LO}(h:OY b es us sv ls):∀o∈ls,∃e z us,o=.own e z 0 us:=by
 cases h with
 | one h=>exact h.own
 | tup h=>exact h.own
theorem gFs{u:U}(hu:u.scal=true){v:Value}{L':List LO}{env':List Value}(h:SVr S L env w (.d u) v):SVr S' L' env' w (.d u) v:=by
 cases u with
 | i k n=>exact SVr.int.2 (SVr.int.1 h)
 | b x=>exact SVr.bool.2 (SVr.bool.1 h)
 | s l=>exact SVr.str.2 (SVr.str.1 h)
 | _=>cases hu
theorem hOf{m ver:Nat}{v:Value}(hlen:env.length=L.length)(h:SVr S Lc envc w (.sl m ver) v):SVr S' (L++Lc) (env++envc) w (.sl (L.length+m) ver) v:=by
 simp only [SVr] at h ⊢;obtain⟨hv,o,h1,h2,h3⟩:=h;refine⟨hv,o,?_,?_,h3⟩
 ·rw [List.getElem?_append_right (by omega),hlen,Nat.add_sub_cancel_left];exact h1
 ·rw [List.getElem?_append_right (by omega),Nat.add_sub_cancel_left];exact h2
theorem OX.shift(hlen:env.length=L.length){m:Nat}{es:List TypeId}{fl:List U}{cs:List SV}{ls:List LO}(h:OX m es fl cs ls):∀{n:Nat}{cs':List SV}{ls':List LO},n=L.length+m→OX n es fl cs' ls'→
  ls'=ls∧∀vs,kJ S Lc envc w cs vs→kJ S' (L++Lc) (env++envc) w cs' vs:=by
 induction h with
 | nil=>intro n cs' ls' _ h';cases h';exact⟨rfl,fun vs hv=>by cases vs<;>simp_all [kJ]⟩
 | sl h ih=>
   intro n cs' ls' hn h';cases h' with
   | sl h'=>
     obtain⟨h1,h2⟩:=ih (by omega) h';refine⟨by rw [h1],fun vs hv=>?_⟩;cases vs with
     | nil=>simp [kJ] at hv
     | cons v vs=>simp only [kJ] at hv ⊢;subst hn;exact⟨hOf hlen hv.1,h2 vs hv.2⟩
 | i h ih=>
   intro n cs' ls' hn h';cases h' with
   | i h'=>
     obtain⟨h1,h2⟩:=ih hn h';refine⟨h1,fun vs hv=>?_⟩;cases vs with
     | nil=>simp [kJ] at hv
     | cons v vs=>simp only [kJ] at hv ⊢;exact⟨gFs rfl hv.1,h2 vs hv.2⟩
 | b h ih=>
   intro n cs' ls' hn h';cases h' with
   | b h'=>
     obtain⟨h1,h2⟩:=ih hn h';refine⟨h1,fun vs hv=>?_⟩;cases vs with
     | nil=>simp [kJ] at hv
     | cons v vs=>simp only [kJ] at hv ⊢;exact⟨gFs rfl hv.1,h2 vs hv.2⟩
 | s h ih=>
   intro n cs' ls' hn h';cases h' with
   | s h'=>
     obtain⟨h1,h2⟩:=ih hn h';refine⟨h1,fun vs hv=>?_⟩;cases vs with
     | nil=>simp [kJ] at hv
     | cons v vs=>simp only [kJ] at hv ⊢;exact⟨gFs rfl hv.1,h2 vs hv.2⟩
theorem Lvs.inj{us a b:List U}(h:Lvs us a)(h':Lvs us b):a=b:=by rw [←h.eq,h'.eq]
theorem O1.shift(hlen:env.length=L.length){m n:Nat}{es:List TypeId}{u:U}{sv sv':SV}{ls ls':List LO}(hn:n=L.length+m)(h:O1 m es u sv ls)(h':O1 n es u sv' ls') :
  ls'=ls∧∀v,SVr S Lc envc w sv v→SVr S' (L++Lc) (env++envc) w sv' v:=by
 cases h with
 | st hl h=>
   cases h' with
   | st hl' h'=>
     obtain rfl:=hl.inj hl';obtain⟨h1,h2⟩:=OX.shift (S:=S) (S':=S') (Lc:=Lc) (envc:=envc) (w:=w) hlen h hn h';refine⟨h1,fun v hv=>?_⟩;simp only [SVr] at hv ⊢;obtain⟨vs,rfl,hv⟩:=hv;exact⟨vs,rfl,h2 vs hv⟩
   | leaf hu _=>cases hu
 | leaf hu h=>
   cases h' with
   | st hl' h'=>cases hu
   | leaf hu' h'=>
     obtain⟨h1,h2⟩:=OX.shift (S:=S) (S':=S') (Lc:=Lc) (envc:=envc) (w:=w) hlen h hn h';refine⟨h1,fun v hv=>?_⟩
     have:=h2 [v] (by simp only [kJ];exact⟨hv,trivial⟩)
     simpa only [kJ,and_true] using this
end
theorem OX.det{b:Nat}{es es':List TypeId}{fl:List U}{cs cs':List SV}{ls ls':List LO}{r r':List TypeId}(h:OX b es fl cs ls):∀{b':Nat} ,OX b' es' fl cs' ls'→es++r=es'++r'→es=es':=by
 induction h generalizing es' cs' ls' with
 | nil=>intro b' h' _;cases h';rfl
 | sl h ih=>intro b' h' he;cases h' with
   | sl h'=>simp only [List.cons_append,List.cons.injEq] at he;rw [he.1,ih h' he.2]
 | i h ih=>intro b' h' he;cases h' with | i h'=>exact ih h' he
 | b h ih=>intro b' h' he;cases h' with | b h'=>exact ih h' he
 | s h ih=>intro b' h' he;cases h' with | s h'=>exact ih h' he
section
variable {S S':Nat→Prop}{L Lc:List LO}{env envc:List Value}{w:World}
theorem O1.det{b b':Nat}{es es':List TypeId}{u:U}{sv sv':SV}{ls ls':List LO}{r r':List TypeId}(h:O1 b es u sv ls)(h':O1 b' es' u sv' ls')(he:es++r=es'++r'):es=es':=by
 cases h with
 | st hl h=>cases h' with
   | st hl' h'=>obtain rfl:=hl.inj hl';exact h.det h' he
   | leaf hu _=>cases hu
 | leaf hu h=>cases h' with
   | st _ _=>cases hu
   | leaf _ h'=>exact h.det h' he
theorem Os.shift(hlen:env.length=L.length){m:Nat}{es:List TypeId}{us:List U}{svs:List SV}{ls:List LO}(h:Os m es us svs ls):∀{n:Nat}{svs':List SV}{ls':List LO},n=L.length+m→Os n es us svs' ls'→
  ls'=ls∧∀vs,kJ S Lc envc w svs vs→kJ S' (L++Lc) (env++envc) w svs' vs:=by
 induction h with
 | nil=>intro n svs' ls' _ h';cases h';exact⟨rfl,fun vs hv=>by cases vs<;>simp_all [kJ]⟩
 | cons h hn h2 he hl ih=>
   intro n svs' ls' hnn h';cases h' with
   | cons g gn g2 ge gl=>
     have e1:=he.spec;have e2:=ge.spec;have e3:=h.det g (e1.trans e2.symm);subst e3;have e4:=List.append_cancel_left (e1.trans e2.symm);subst e4;obtain⟨k1,k2⟩:=O1.shift (S:=S) (S':=S') (Lc:=Lc) (envc:=envc) (w:=w) hlen hnn h g;subst k1;obtain⟨k3,k4⟩:=ih (by omega) g2;subst k3;refine⟨by rw [←gl.spec,hl.spec],fun vs hv=>?_⟩;cases vs with
     | nil=>simp [kJ] at hv
     | cons v vs=>simp only [kJ] at hv ⊢;exact⟨k2 v hv.1,k4 vs hv.2⟩
theorem OY.shift(hlen:env.length=L.length){m n:Nat}{es:List TypeId}{us:List U}{sv sv':SV}{ls ls':List LO}(hn:n=L.length+m)(h:OY m es us sv ls)(h':OY n es us sv' ls') :
  ls'=ls∧∀v,SVr S Lc envc w sv v→SVr S' (L++Lc) (env++envc) w sv' v:=by
 cases h with
 | one h=>cases h' with
   | one h'=>exact O1.shift hlen hn h h'
 | tup h=>cases h' with
   | tup h'=>
     obtain⟨h1,h2⟩:=Os.shift (S:=S) (S':=S') (Lc:=Lc) (envc:=envc) (w:=w) hlen h hn h';refine⟨h1,fun v hv=>?_⟩;simp only [SVr] at hv ⊢;obtain⟨vs,rfl,hv⟩:=hv;exact⟨vs,rfl,h2 vs hv⟩
end
def LO.dat:LO→Option (Nat × Nat × List U)
 | .frz _ z v es=>some (z,v,es)
 | .arr _ z v es=>some (z,v,es)
 | .own _ z v es=>some (z,v,es)
 | _=>none
def WL(L:List LO):SV→U→Prop
 | .d u,u'=>u=u'
 | .nilsl,.sl _ us=>us=[]
 | .sl i ver,.sl z es=>(L[i]?).bind LO.dat=some (z,ver,es)
 | _,_=>False
def WLs(L:List LO):List SV→List U→Prop
 | [],[]=>True
 | sv::svs,u::us=>WL L sv u∧WLs L svs us
 | _,_=>False
def WD(L:List LO):SV→U→Prop
 | .ag cs,.st us=>WLs L cs (U.flats us)
 | sv,u=>WL L sv u
def WC(L:List LO):SV→SV→Prop
 | .fn f caps,.fn f' caps'=>f=f'∧VBs L caps caps'
 | sv,.d u=>WD L sv u
 | _,_=>False
def WCs(L:List LO):List SV→List SV→Prop
 | [],[]=>True
 | a::az,b::bs=>WC L a b∧WCs L az bs
 | _,_=>False
def gUo(S:Nat→Prop)(L:List LO)(env:List Value)(w:World)(b:Nat):Prop:=S b∨∃i,gT2 L env w i b
section
variable {A:Amb}{S:Nat→Prop}{L:List LO}{env:List Value}{w:World}
theorem WL.r(hH:mQ A S L env w){sv:SV}{u:U}{v:Value}(h:WL L sv u)(hv:SVr S L env w sv v):SVr (gUo S L env w) [] [] w (.d u) v:=by
 cases sv with
 | d u'=>have:u'=u:=h;subst this;exact SVr.bare _ _ rfl (SVr.more (fun b hb=>.inl hb) hv) _ _
 | nilsl=>
   cases u with
   | sl z us=>
     have:us=[]:=h
     subst this;simp only [SVr] at hv;subst hv;exact SVr.slice.2 ⟨by simp [yI],none,0,rfl,.inl rfl⟩
   | _=>exact h.elim
 | sl i ver=>
   cases u with
   | sl z us=>
     have h:(L[i]?).bind LO.dat=some (z,ver,us):=h;simp only [SVr] at hv;obtain⟨hv',o,k1,k2,k3,k5,k4⟩:=hv;rw [k2] at h;simp only [Option.bind_some] at h;have hob:=hH.objs i _ _ k2 k1;cases o with
     | frz e z' v' es'=>
       simp only [LO.dat,Option.some.injEq,Prod.mk.injEq] at h;obtain⟨rfl,rfl,rfl⟩:=h;rw [k4 rfl];simp only [SVr];exact RdV.mono (fun b hb _=>.inl hb) (fun _ _ _=>rfl) hob
     | own e z' v' es'=>
       simp only [LO.dat,Option.some.injEq,Prod.mk.injEq] at h;obtain⟨rfl,rfl,rfl⟩:=h;rw [k4 rfl];exact(SVr.leaf rfl).2 (Tr.rd _ _ (gSx hob) (fun b hb=>.inr ⟨i,_,_,k2,rfl,k1,hb⟩))
     | arr e z' v' es'=>
       simp only [LO.dat,Option.some.injEq,Prod.mk.injEq] at h;obtain⟨rfl,rfl,rfl⟩:=h;rw [k4 rfl];have hbk:∀b,blk hv'=some b→gUo S L env w b:=fun b hb=>.inr ⟨i,_,_,k2,rfl,k1,hb⟩;obtain⟨hbg,hz,ys,m1,m2⟩:=hob;have hmono:Rds (gUo S L env w) w es' ys:=Rds.mono (fun b hb _=>.inl hb) (fun _ _ _=>rfl) _ _ m2;simp only [SVr];rcases m1.2 with ⟨rfl,h0⟩ | ⟨g,cap,cur,rfl,hg0,hg,hnc,hcm,hcs,htake⟩
       ·have:es'=[]:=List.eq_nil_of_length_eq_zero h0
        subst this;exact⟨[_],rfl,by simp only [Rd];exact⟨hbg,none,0,rfl,.inl trivial⟩⟩
       ·refine⟨[.slice (some ⟨g,0,none⟩) es'.length cap],rfl,?_⟩;simp only [Rd];exact⟨hbg,_,cap - es'.length,by rw [Nat.add_sub_cancel' hnc],.inr ⟨g,0,rfl,hbk g rfl,RdE.of_Rds es' ys 0 hz hmono (gNj m1 rfl)⟩⟩
     | _=>simp [LO.dat] at h
   | _=>exact h.elim
 | _=>exact h.elim
theorem WLs.r(hH:mQ A S L env w):∀{svs:List SV}{us:List U}{vs:List Value},(∀u∈us,u.isSt=false)→WLs L svs us→kJ S L env w svs vs→vE (fun u c=>Rd (gUo S L env w) w u [c]) us vs
 | [],[],[],_,_,_=>trivial
 | sv::svs,u::us,v::vs,hu,h,hv=>by
   simp only [kJ] at hv;exact⟨(SVr.leaf (hu u (by simp))).1 (WL.r hH h.1 hv.1),WLs.r hH (fun u hu'=>hu u (by simp [hu'])) h.2 hv.2⟩
 | [],_::_,_,_,h,_=>h.elim
 | _::_,[],_,_,h,_=>h.elim
 | [],[],_::_,_,_,h=>by simp [kJ] at h
 | _::_,_::_,[],_,_,h=>by simp [kJ] at h
theorem WD.r(hH:mQ A S L env w){sv:SV}{u:U}{v:Value}(h:WD L sv u)(hv:SVr S L env w sv v):SVr (gUo S L env w) [] [] w (.d u) v:=by
 cases sv with
 | ag cs=>
   cases u with
   | st us=>
     have h:WLs L cs (U.flats us):=h;simp only [SVr] at hv;obtain⟨vs,rfl,hv⟩:=hv
     have:=WLs.r hH (U.flats_leaf us) h hv
     simp only [SVr];refine⟨vs,rfl,?_⟩;simp only [Rd];exact Rds.of_leafs us vs this
   | _=>exact h.elim
 | d u'=>exact WL.r hH (show WL L (.d u') u by cases u<;>exact h) hv
 | nilsl=>exact WL.r hH (show WL L .nilsl u by cases u<;>exact h) hv
 | sl i ver=>exact WL.r hH (show WL L (.sl i ver) u by cases u<;>exact h) hv
 | junk=>cases u<;>exact h.elim
 | ptr i off=>cases u<;>exact h.elim
 | dp u=>cases u<;>exact h.elim
 | ep i ver z k off=>cases u<;>exact h.elim
 | fn f caps=>cases u<;>exact h.elim
 | tup vs=>cases u<;>exact h.elim
theorem gUp{b:Nat}(h:S b∨boxes L env b):gUo S L env w b:=by
 rcases h with h | ⟨i,cs,hv,h1,h2,h3⟩
 ·exact .inl h
 ·exact .inr ⟨i,_,hv,h1,rfl,h2,h3⟩
theorem WC.r(hH:mQ A S L env w){sv sv':SV}{v:Value}(h:WC L sv sv')(hv:SVr S L env w sv v):SVr (gUo S L env w) [] [] w sv' v:=by
 cases sv' with
 | d u=>exact WD.r hH (show WD L sv u by cases sv<;>exact h) hv
 | fn f' caps'=>
   cases sv with
   | fn f caps=>
     obtain⟨rfl,h3⟩:=h;simp only [SVr] at hv ⊢;obtain⟨vs,rfl,h4⟩:=hv;refine⟨vs,rfl,?_⟩
     have:=VBs.r hH h3 h4
     exact kJ.carry ⟨fun b hb _=>gUp hb,fun _ _ _=>rfl,fun _ _ h=>h,fun _ _ _ h1 h2=>⟨_,_,h1,h2,Nat.le_refl _,fun _=>rfl⟩⟩ _ _ this
   | _=>exact h.elim
 | _=>cases sv<;>exact h.elim
theorem WCs.r(hH:mQ A S L env w):∀{svs svs':List SV}{vs:List Value},WCs L svs svs'→kJ S L env w svs vs→kJ (gUo S L env w) [] [] w svs' vs
 | [],[],[],_,_=>by simp [kJ]
 | sv::svs,sv'::svs',v::vs,h,hv=>by
   simp only [kJ] at hv ⊢;exact⟨WC.r hH h.1 hv.1,WCs.r hH h.2 hv.2⟩
 | [],_::_,_,h,_=>h.elim
 | _::_,[],_,h,_=>h.elim
 | [],[],_::_,_,h=>by simp [kJ] at h
 | _::_,_::_,[],_,h=>by simp [kJ] at h
theorem mQ.lend(hH:mQ A S L env w):mQ ⟨w,gUo S L env w,fun _=>False,[],[]⟩ (gUo S L env w) [] [] w:=by
 refine⟨rfl,fun i o hv h=>by simp at h,fun i o hv b h=>by simp at h,fun i j o o' hv hv' b h=>by simp at h,?_,fun b hb=>.inl hb,fun _ _ _=>rfl,Nat.le_refl _,rfl,rfl,rfl,Base.nil rfl,hH.gok (fun _ h=>h.elim)⟩;rintro b (hb | ⟨i,o,hv,h1,h2,h3,h4⟩)
 ·exact hH.sS b hb
 ·exact(hH.excl i o hv b h1 h2 h3 h4).2.2
theorem mQ.join(hH:mQ A S L env w){S1 S':Nat→Prop}{Lc:List LO}{envc:List Value}{w':World}(hC:mQ ⟨w,S1,fun _=>False,[],[]⟩ S' Lc envc w')(hown:∀o∈Lc,∃e z us,o=.own e z 0 us) :
  mQ A S (L++Lc) (env++envc) w'∧Carry S L env w S (L++Lc) (env++envc) w':=by
 have hlen:=hH.len;have hold:∀b,b < w.heap.size→w'.heap[b]? =w.heap[b]? :=fun b hb=>hC.frame b hb (fun h=>h);have hfe:∀(i:Nat)(o':LO)(hv':Value),L[i]? =some o'→o'.live=true→env[i]? =some hv'→∀b,o'.ft w' hv' b→o'.ft w hv' b:=fun i o' hv' h1 hl h2 b hb'=>
  (LO.ft_eq (hH.objs i o' hv' h1 h2) (fun k hk=>hold k (hH.excl i o' hv' k h1 hl h2 hk).2.2) b).1 hb'
 have C:Carry S L env w S (L++Lc) (env++envc) w':=by
  refine⟨fun _ h _=>h,fun b _ hb=>hold b hb,fun i b hi=>?_,fun i hv' o' h1 h2=>?_⟩
  ·rw [List.getElem?_append_left (List.getElem?_eq_some_iff.1 hi).1];exact hi
  ·refine⟨hv',o',?_,?_,Nat.le_refl _,fun _=>rfl⟩
   ·rw [List.getElem?_append_left (List.getElem?_eq_some_iff.1 h1).1];exact h1
   ·rw [List.getElem?_append_left (List.getElem?_eq_some_iff.1 h2).1];exact h2
 have hsplit:∀(i:Nat)(o:LO)(hv:Value),(L++Lc)[i]? =some o→(env++envc)[i]? =some hv→(i < L.length∧L[i]? =some o∧env[i]? =some hv)∨(L.length≤i∧Lc[i - L.length]? =some o∧envc[i - L.length]? =some hv):=by
  intro i o hv h1 h2;by_cases hi:i < L.length
  ·rw [List.getElem?_append_left hi] at h1;rw [List.getElem?_append_left (by omega)] at h2;exact .inl ⟨hi,h1,h2⟩
  ·rw [List.getElem?_append_right (by omega)] at h1;rw [List.getElem?_append_right (by omega),hlen] at h2;exact .inr ⟨by omega,h1,h2⟩
 refine⟨⟨by simp [hlen,hC.len],?_,?_,?_,fun b hb=>Nat.lt_of_lt_of_le (hH.sS b hb) hC.size,hH.sA,fun b h1 h2=>?_,Nat.le_trans hH.size hC.size,hC.os.trans hH.os,hC.tape.trans hH.tape,hC.output.trans hH.output,hH.base.carry C hH.len (by simp),hH.glob⟩,C⟩
 ·intro i o hv h1 h2;rcases hsplit i o hv h1 h2 with ⟨_,k1,k2⟩ | ⟨_,k1,k2⟩
  ·exact gGd.carry C (fun b hl hb=>hold b (hH.excl i o hv b k1 hl k2 hb).2.2) (hH.objs i o hv k1 k2)
  ·obtain⟨e,z,us,rfl⟩:=hown o (List.mem_of_getElem? k1);exact hC.objs _ _ _ k1 k2
 ·intro i o hv b h1 hl h2 hb;rcases hsplit i o hv h1 h2 with ⟨_,k1,k2⟩ | ⟨_,k1,k2⟩
  ·have:=hH.excl i o hv b k1 hl k2 (hfe i o hv k1 hl k2 b hb)
   exact⟨this.1,this.2.1,Nat.lt_of_lt_of_le this.2.2 hC.size⟩
  ·have:=hC.excl _ o hv b k1 hl k2 hb
   have hge:w.heap.size≤b:=this.2.1.resolve_left (fun h=>h);exact⟨fun hs=>by have:=hH.sS b hs;omega,.inr (Nat.le_trans hH.size hge),this.2.2⟩
 ·intro i j o o' hv hv' b h1 h2 hl1 hl2 e1 e2 b1 b2;rcases hsplit i o hv h1 e1 with ⟨i1,k1,k2⟩ | ⟨i1,k1,k2⟩<;>rcases hsplit j o' hv' h2 e2 with ⟨j1,m1,m2⟩ | ⟨j1,m1,m2⟩
  ·exact hH.dist i j o o' hv hv' b k1 m1 hl1 hl2 k2 m2 (hfe _ _ _ k1 hl1 k2 _ b1) (hfe _ _ _ m1 hl2 m2 _ b2)
  ·have q1:=(hH.excl i o hv b k1 hl1 k2 (hfe _ _ _ k1 hl1 k2 _ b1)).2.2;have q2:=(hC.excl _ o' hv' b m1 hl2 m2 b2).2.1.resolve_left (fun h=>h);have q3:w.heap.size≤b:=q2;omega
  ·have q1:=(hH.excl j o' hv' b m1 hl2 m2 (hfe _ _ _ m1 hl2 m2 _ b2)).2.2;have q2:=(hC.excl _ o hv b k1 hl1 k2 b1).2.1.resolve_left (fun h=>h);have q3:w.heap.size≤b:=q2;omega
  ·have:=hC.dist _ _ o o' hv hv' b k1 m1 hl1 hl2 k2 m2 b1 b2
   omega
 ·rw [hold b (Nat.lt_of_lt_of_le h1 hH.size)];exact hH.frame b h1 h2
end
section
variable {P:Program}{A:Amb}{σ:St}{K:St→Prop}{ops:Array Oper}{rest:List Oper}
variable {t:Nat}{ty:TypeId}{pos:String}{af:Array Edge}{dst:Option Nat}{g:Option (Nat × Bool)}
theorem hC1{a:Act}{w:World}{f:Operand}{fi:Nat}{args:Array Operand}{at_:Array TypeId}(h1:a.eval f=.func (.func fi) #[] #[])(hc:hJq P fi) :
  (execOp a.eval ⟨dst,.call { callee:=.value f,args:=args,argTypes:=at_ },ty,pos,af,g⟩).run P w=.ok (.enter fi (args.toList.map a.eval).toArray) w:=by
 obtain⟨fn,c1,c2,c3⟩:=hc;have harr:args.map a.eval++(#[]:Array Value)=(args.toList.map a.eval).toArray:=by apply Array.ext';simp
 simp only [execOp,resolve,h1,Deferred.ofValue,Sem.run_bind,Sem.run_pure,Result.andThen_ok,invoke,callFunc,run_program,c1,c2,c3,Bool.false_eq_true,if_false,Array.empty_append,harr]
theorem hC3 {f:Operand}{fi:Nat}{args:Array Operand}{at_:Array TypeId}{dargs:List SV}{es:List TypeId}{us:List U}{fr:List (Nat × SV)}{L L' news:List LO}{N n:Nat}{sv:SV}(hf:(St.mk fr L N).ev f=.fn fi [])
  (hspec:kR P fi dargs es us) (hargs:WCs L (args.toList.map (St.mk fr L N).ev) dargs) (hn:Ln L n) (hy:OYr n es us sv news) (hj:Jn L news L') (ht:Nat.blt t N=true)
  (h:VO P A ops rest ⟨(t,sv)::fr,L',N⟩ K):VO P A ops (⟨some t,.call { callee:=.value f,args:=args,argTypes:=at_ },ty,pos,af,none⟩::rest) ⟨fr,L,N⟩ K:=by
 have hj':=hj.spec;have hn:=hn.eq;subst hj';subst hn;intro R hR a w ⟨S,env,hH,hfr,hN,hd⟩;refine wpList_plain rfl fun K' hK'=>?_;have h1:=kZ.ev hfr hH f;rw [hf] at h1;simp only [SVr] at h1;obtain⟨cvs,h1,h2⟩:=h1;have h2':cvs=[]:=by cases cvs with
  | nil=>rfl
  | cons _ _=>simp [kJ] at h2
 subst h2';have h3:kJ S L env w (args.toList.map (St.mk fr L N).ev) (args.toList.map a.eval):=kJ.evals (σ:=⟨fr,L,N⟩) _ fun x _=>kZ.ev hfr hH x;have h5:=WCs.r hH hargs h3;obtain⟨hc,hs⟩:=hspec;unfold Oper.wp;rw [hC1 h1 hc];simp only [Oper.upon];refine(hs ⟨w,gUo S L env w,fun _=>False,[],[]⟩ (gUo S L env w) [] w _ rfl rfl rfl rfl hH.lend h5).mono ?_;rintro e w' ⟨r,sv',S',Lc,envc,rfl,hoy,hH',hr⟩;obtain⟨hj,C⟩:=hH.join hH' hoy.own;obtain⟨e1,e2⟩:=OY.shift (S:=S') (S':=S) (Lc:=Lc) (envc:=envc) (w:=w') hH.len (by rw [Nat.add_zero]) hoy hy.oy;subst e1;exact hK' _ _ (h R hR _ _ (uA (σ:=⟨fr,L,N⟩) hfr hN hd ht hj C (e2 r hr)))
theorem hI6 {f:Operand}{fi:Nat}{args:Array Operand}{at_:Array TypeId}{dargs:List SV}{es:List TypeId}{us:List U}{fr:List (Nat × SV)}{L L' news:List LO}{N n:Nat}{sv:SV}(hf:(St.mk fr L N).ev f=.fn fi [])
  (hspec:kR P fi dargs es us) (hargs:WCs L (args.toList.map (St.mk fr L N).ev) dargs) (hn:Ln L n) (hy:OYr n es us sv news) (hj:Jn L news L') (ht:Nat.blt t N=true) :
  HSt P A ops ⟨fr,L,N⟩ ⟨some t,.call { callee:=.value f,args:=args,argTypes:=at_ },ty,pos,af,none⟩ sv L':=by
 intro fr' he K hK;refine hC3 (by rw [he f (by simp [Op.operands,Call.operands])];exact hf) hspec ?_ hn hy hj ht (gFw hK)
 have:args.toList.map (St.mk fr' L N).ev=args.toList.map (St.mk fr L N).ev:=List.map_congr_left fun x hx=>he x (by simp only [Op.operands,Call.operands];simp;exact .inr (by simpa using hx))
 rw [this];exact hargs
theorem hI7 {f:Operand}{fi:Nat}{args:Array Operand}{at_:Array TypeId}{dargs:List SV}{u:U}(hf:σ.ev f=.fn fi [])
  (hspec:gY P fi dargs [u]) (hu:u.scal=true) (hargs:WCs σ.L (args.toList.map σ.ev) dargs) :
  Quiet P A σ ⟨dst,.call { callee:=.value f,args:=args,argTypes:=at_ },ty,pos,af,g⟩ (.d u):=by
 intro S env a w hH hx next R hn
 have h1:=hx f (by simp [Op.operands,Call.operands]);rw [hf] at h1;simp only [SVr] at h1;obtain⟨cvs,h1,h2⟩:=h1;have h2':cvs=[]:=by cases cvs with
  | nil=>rfl
  | cons _ _=>simp [kJ] at h2
 subst h2';have h3:kJ S σ.L env w (args.toList.map σ.ev) (args.toList.map a.eval):=kJ.evals _ fun x hx'=>hx x (by simp [Op.operands,Call.operands];exact .inr (by simpa using hx'));have h5:=WCs.r hH hargs h3;obtain⟨hc,hs⟩:=hspec;unfold Oper.wp;rw [hC1 h1 hc];simp only [Oper.upon];refine(hs ⟨w,gUo S σ.L env w,fun _=>False,[],[]⟩ (gUo S σ.L env w) [] w _ rfl rfl rfl rfl hH.lend h5).mono ?_;rintro e w' ⟨r,sv',S',Lc,envc,rfl,⟨rfl,rfl⟩,hH',hr⟩;obtain⟨hj,C⟩:=hH.join hH' (fun o ho=>by cases ho);have henvc:envc=[]:=List.eq_nil_of_length_eq_zero (by simpa using hH'.len);subst henvc;simp only [List.append_nil] at hj C;exact hn r w' S hj C (gFs hu hr)
end
inductive RP (L:List LO):List SV→List U→List TypeId→List (Option Nat)→Prop
 | nil:RP L [] [] [] []
 | sl {i ver e z:Nat} {us:List U} {svs:List SV} {fl:List U} {es:List TypeId} {ps:List (Option Nat)} (h:L[i]? =some (.own e z ver us)) (h2:RP L svs fl es ps):RP L (.sl i ver::svs) (.sl z us::fl) (e::es) (some i::ps)
 | nilsl {e z:Nat} {svs:List SV} {fl:List U} {es:List TypeId} {ps:List (Option Nat)} (h2:RP L svs fl es ps):RP L (.nilsl::svs) (.sl z []::fl) (e::es) (none::ps)
 | i {k:IntKind} {n:Int} {svs:List SV} {fl:List U} {es:List TypeId} {ps:List (Option Nat)} (h2:RP L svs fl es ps):RP L (.d (.i k n)::svs) (.i k n::fl) es ps
 | b {x:Bool} {svs:List SV} {fl:List U} {es:List TypeId} {ps:List (Option Nat)} (h2:RP L svs fl es ps):RP L (.d (.b x)::svs) (.b x::fl) es ps
 | s {l:LB} {svs:List SV} {fl:List U} {es:List TypeId} {ps:List (Option Nat)} (h2:RP L svs fl es ps):RP L (.d (.s l)::svs) (.s l::fl) es ps
inductive R1 (L:List LO):SV→U→List TypeId→List (Option Nat)→Prop
 | ag {cs:List SV} {us fl:List U} {es:List TypeId} {ps:List (Option Nat)} (hl:Lvs us fl) (h:RP L cs fl es ps):R1 L (.ag cs) (.st us) es ps
 | leaf {sv:SV} {u:U} {es:List TypeId} {ps:List (Option Nat)} (hu:u.isSt=false) (h:RP L [sv] [u] es ps):R1 L sv u es ps
inductive ROs (P:Program)(σ:St):List ResultVar→List U→List TypeId→List (Option Nat)→Prop
 | nil:ROs P σ [] [] [] []
 | cons {r:ResultVar} {rs:List ResultVar} {u:U} {us:List U} {sv:SV} {es es1 es2:List TypeId} {ps ps1 ps2:List (Option Nat)} (hr:hFl P σ r sv) (ho:R1 σ.L sv u es1 ps1) (h:ROs P σ rs us es2 ps2) (he:Jn es1 es2 es) (hp:Jn ps1 ps2 ps):ROs P σ (r::rs) (u::us) es ps
inductive PK (L:List LO)(env:List Value):List (Option Nat)→List LO→List Value→Prop
 | nil:PK L env [] [] []
 | sm {i e z ver:Nat} {us:List U} {hv:Value} {ps:List (Option Nat)} {ls:List LO} {hvs:List Value} (h:L[i]? =some (.own e z ver us)) (he:env[i]? =some hv) (r:PK L env ps ls hvs):PK L env (some i::ps) (.own e z 0 us::ls) (hv::hvs)
 | nn {e z:Nat} {ps:List (Option Nat)} {ls:List LO} {hvs:List Value} (r:PK L env ps ls hvs):PK L env (none::ps) (.own e z 0 []::ls) (.slice none 0 0::hvs)
section
variable {P:Program}{A:Amb}{S:Nat→Prop}{L:List LO}{env:List Value}{w:World}
theorem PK.append{ps ps':List (Option Nat)}{ls ls':List LO}{hvs hvs':List Value}(h:PK L env ps ls hvs)(h':PK L env ps' ls' hvs'):PK L env (ps++ps') (ls++ls') (hvs++hvs'):=by
 induction h with
 | nil=>exact h'
 | sm h he r ih=>exact .sm h he ih
 | nn r ih=>exact .nn ih
theorem PK.len{ps:List (Option Nat)}{ls:List LO}{hvs:List Value}(h:PK L env ps ls hvs):hvs.length=ls.length:=by
 induction h with
 | nil=>rfl
 | sm h he r ih=>simp [ih]
 | nn r ih=>simp [ih]
theorem PK.get{ps:List (Option Nat)}{ls:List LO}{hvs:List Value}(h:PK L env ps ls hvs):∀(j:Nat)(o:LO)(hv:Value),ls[j]? =some o→hvs[j]? =some hv→
  (∃i e z ver us,ps[j]? =some (some i)∧L[i]? =some (.own e z ver us)∧env[i]? =some hv∧o=.own e z 0 us)∨(∃e z,o=.own e z 0 []∧hv=.slice none 0 0):=by
 induction h with
 | nil=>intro j o hv h;simp at h
 | @sm i e z ver us hv0 ps ls hvs h he r ih=>
   intro j o hv h1 h2;cases j with
   | zero=>simp at h1 h2;subst h1;subst h2;exact .inl ⟨i,e,z,ver,us,rfl,h,he,rfl⟩
   | succ j=>simp only [List.getElem?_cons_succ] at h1 h2 ⊢;exact ih j o hv h1 h2
 | @nn e z ps ls hvs r ih=>
   intro j o hv h1 h2;cases j with
   | zero=>simp at h1 h2;subst h1;subst h2;exact .inr ⟨e,z,rfl,rfl⟩
   | succ j=>simp only [List.getElem?_cons_succ] at h1 h2 ⊢;exact ih j o hv h1 h2
theorem gUq:∀(ps:List (Option Nat))(j j' i:Nat),(ps.filterMap id).Nodup→ps[j]? =some (some i)→ps[j']? =some (some i)→j=j'
 | [],j,_,_,_,h,_=>by simp at h
 | p::ps,0,0,_,_,_,_=>rfl
 | p::ps,0,j'+1,i,hn,h,h'=>by
   simp at h;subst h;simp only [List.filterMap_cons,id_eq,List.nodup_cons] at hn;exact absurd (show i∈ps.filterMap id from List.mem_filterMap.2 ⟨some i,List.mem_of_getElem? (by simpa using h'),rfl⟩) hn.1
 | p::ps,j+1,0,i,hn,h,h'=>by
   simp at h';subst h';simp only [List.filterMap_cons,id_eq,List.nodup_cons] at hn;exact absurd (show i∈ps.filterMap id from List.mem_filterMap.2 ⟨some i,List.mem_of_getElem? (by simpa using h),rfl⟩) hn.1
 | p::ps,j+1,j'+1,i,hn,h,h'=>by
   have hn':(ps.filterMap id).Nodup:=by
    cases p with
    | none=>simpa [List.filterMap_cons] using hn
    | some q=>simp only [List.filterMap_cons,id_eq,List.nodup_cons] at hn;exact hn.2
   rw [gUq ps j j' i hn' (by simpa using h) (by simpa using h')]
theorem hAb(e z v:Nat):gGd S L env w (.own e z v []) (.slice none 0 0):=by
 obtain⟨_,k2⟩:=Tr.nil w z;exact⟨by simp [yI],by simp,⟨[],World.ownsRow_nil w 0 e z,by simp [Trs]⟩,by rw [k2];exact List.nodup_nil⟩
theorem PK.heap(hH:mQ A S L env w){ps:List (Option Nat)}{ls:List LO}{hvs:List Value}(h:PK L env ps ls hvs)(hn:(ps.filterMap id).Nodup)(h0:A.L0=[]):mQ A S ls hvs w:=by
 have nft:∀e z b,(LO.own e z 0 []).ft w (.slice none 0 0) b→False:=fun e z b hb=>by
  simp only [LO.ft] at hb;rw [(Tr.nil w z).2] at hb;cases hb
 refine⟨h.len,?_,?_,?_,hH.sS,hH.sA,hH.frame,hH.size,hH.os,hH.tape,hH.output,Base.nil h0,hH.glob⟩
 ·intro i o hv h1 h2;rcases h.get i o hv h1 h2 with ⟨k,e,z,ver,us,_,k2,k3,rfl⟩ | ⟨e,z,rfl,rfl⟩
  ·exact hH.objs k _ hv k2 k3
  ·exact hAb e z 0
 ·intro i o hv b h1 hl h2 hb;rcases h.get i o hv h1 h2 with ⟨k,e,z,ver,us,_,k2,k3,rfl⟩ | ⟨e,z,rfl,rfl⟩
  ·exact hH.excl k (.own e z ver us) hv b k2 rfl k3 hb
  ·exact(nft e z b hb).elim
 ·intro i j o o' hv hv' b h1 h2 hl1 hl2 e1 e2 b1 b2;rcases h.get i o hv h1 e1 with ⟨k,e,z,ver,us,k1,k2,k3,rfl⟩ | ⟨e,z,rfl,rfl⟩
  ·rcases h.get j o' hv' h2 e2 with ⟨k',e',z',ver',us',k1',k2',k3',rfl⟩ | ⟨e',z',rfl,rfl⟩
   ·have:=hH.dist k k' (.own e z ver us) (.own e' z' ver' us') hv hv' b k2 k2' rfl rfl k3 k3' b1 b2
    subst this;exact gUq ps i j k hn k1 k1'
   ·exact(nft e' z' b b2).elim
  ·exact(nft e z b b1).elim
theorem RP.r{svs:List SV}{fl:List U}{es:List TypeId}{ps:List (Option Nat)}(h:RP L svs fl es ps):∀(vs:List Value)(m:Nat),kJ S L env w svs vs→
  ∃cs ls hvs,OX m es fl cs ls∧PK L env ps ls hvs∧∀(Lp Ls:List LO)(ep eq:List Value),Lp.length=m→ep.length=m→kJ S (Lp++ls++Ls) (ep++hvs++eq) w cs vs:=by
 induction h with
 | nil=>
   intro vs m hv;cases vs with
   | nil=>exact⟨[],[],[],.nil,.nil,fun _ _ _ _ _ _=>by simp [kJ]⟩
   | cons _ _=>simp [kJ] at hv
 | @sl i ver e z us svs fl es ps h h2 ih=>
   intro vs m hv;cases vs with
   | nil=>simp [kJ] at hv
   | cons v vs=>
     simp only [kJ] at hv;obtain⟨cs,ls,hvs,k1,k2,k3⟩:=ih vs (m+1) hv.2;have h0:=hv.1;simp only [SVr] at h0;obtain⟨hv',o,q1,q2,q3,q5,q4⟩:=h0;rw [h] at q2;obtain rfl:=Option.some.inj q2;have q6:=q4 rfl;subst q6;refine⟨.sl m 0::cs,.own e z 0 us::ls,v::hvs,.sl k1,.sm h q1 k2,fun Lp Ls ep eq hl1 hl2=>?_⟩;simp only [kJ];refine⟨?_,?_⟩
     ·simp only [SVr];refine⟨v,.own e z 0 us,?_,?_,Nat.le_refl _,q5,fun _=>rfl⟩
      ·rw [List.append_assoc,List.getElem?_append_right (by omega),hl2];simp
      ·rw [List.append_assoc,List.getElem?_append_right (by omega),hl1];simp
     ·have:=k3 (Lp++[.own e z 0 us]) Ls (ep++[v]) eq (by simp [hl1]) (by simp [hl2])
      simpa using this
 | @nilsl e z svs fl es ps h2 ih=>
   intro vs m hv;cases vs with
   | nil=>simp [kJ] at hv
   | cons v vs=>
     simp only [kJ] at hv;obtain⟨cs,ls,hvs,k1,k2,k3⟩:=ih vs (m+1) hv.2;have h0:=hv.1;simp only [SVr] at h0;subst h0;refine⟨.sl m 0::cs,.own e z 0 []::ls,.slice none 0 0::hvs,.sl k1,.nn k2,fun Lp Ls ep eq hl1 hl2=>?_⟩;simp only [kJ];refine⟨?_,?_⟩
     ·simp only [SVr];refine⟨.slice none 0 0,.own e z 0 [],?_,?_,Nat.le_refl _,rfl,fun _=>rfl⟩
      ·rw [List.append_assoc,List.getElem?_append_right (by omega),hl2];simp
      ·rw [List.append_assoc,List.getElem?_append_right (by omega),hl1];simp
     ·have:=k3 (Lp++[.own e z 0 []]) Ls (ep++[.slice none 0 0]) eq (by simp [hl1]) (by simp [hl2])
      simpa using this
 | i h2 ih=>
   intro vs m hv;cases vs with
   | nil=>simp [kJ] at hv
   | cons v vs=>
     simp only [kJ] at hv;obtain⟨cs,ls,hvs,k1,k2,k3⟩:=ih vs m hv.2;refine⟨_,ls,hvs,.i k1,k2,fun Lp Ls ep eq hl1 hl2=>?_⟩;simp only [kJ];exact⟨gFs rfl hv.1,k3 Lp Ls ep eq hl1 hl2⟩
 | b h2 ih=>
   intro vs m hv;cases vs with
   | nil=>simp [kJ] at hv
   | cons v vs=>
     simp only [kJ] at hv;obtain⟨cs,ls,hvs,k1,k2,k3⟩:=ih vs m hv.2;refine⟨_,ls,hvs,.b k1,k2,fun Lp Ls ep eq hl1 hl2=>?_⟩;simp only [kJ];exact⟨gFs rfl hv.1,k3 Lp Ls ep eq hl1 hl2⟩
 | s h2 ih=>
   intro vs m hv;cases vs with
   | nil=>simp [kJ] at hv
   | cons v vs=>
     simp only [kJ] at hv;obtain⟨cs,ls,hvs,k1,k2,k3⟩:=ih vs m hv.2;refine⟨_,ls,hvs,.s k1,k2,fun Lp Ls ep eq hl1 hl2=>?_⟩;simp only [kJ];exact⟨gFs rfl hv.1,k3 Lp Ls ep eq hl1 hl2⟩
theorem R1.r{sv:SV}{u:U}{es:List TypeId}{ps:List (Option Nat)}(h:R1 L sv u es ps)(v:Value)(m:Nat)(hv:SVr S L env w sv v) :
  ∃sv' ls hvs,O1 m es u sv' ls∧PK L env ps ls hvs∧∀(Lp Ls:List LO)(ep eq:List Value),Lp.length=m→ep.length=m→SVr S (Lp++ls++Ls) (ep++hvs++eq) w sv' v:=by
 cases h with
 | ag hl h=>
   simp only [SVr] at hv;obtain⟨vs,rfl,hv⟩:=hv;obtain⟨cs,ls,hvs,k1,k2,k3⟩:=h.r vs m hv;refine⟨.ag cs,ls,hvs,.st hl k1,k2,fun Lp Ls ep eq hl1 hl2=>?_⟩;simp only [SVr];exact⟨vs,rfl,k3 Lp Ls ep eq hl1 hl2⟩
 | leaf hu h=>
   obtain⟨cs,ls,hvs,k1,k2,k3⟩:=h.r [v] m (by simp only [kJ];exact⟨hv,trivial⟩);have k4:=k3 (List.replicate m default) [] (List.replicate m default) [] (by simp) (by simp)
   match cs,k4 with
   | [c],_=>
     refine⟨c,ls,hvs,.leaf hu k1,k2,fun Lp Ls ep eq hl1 hl2=>?_⟩
     have:=k3 Lp Ls ep eq hl1 hl2
     simpa only [kJ,and_true] using this
   | [],k4=>simp [kJ] at k4
   | _::_::_,k4=>simp [kJ] at k4
theorem ROs.run{σ:St}{a:Act}(hH:mQ A S σ.L env w)(hf:∀t,SVr S σ.L env w (look σ.fr t) (a.tmps.getD t undef)){rs:List ResultVar}{us:List U}{es:List TypeId}{ps:List (Option Nat)}(h:ROs P σ rs us es ps) :
  ∀(m:Nat),∃vs svs ls hvs,(rs.mapM (hTb a.tmps)).run P w=.ok vs w∧Os m es us svs ls∧PK σ.L env ps ls hvs∧∀(Lp Ls:List LO)(ep eq:List Value),Lp.length=m→ep.length=m→kJ S (Lp++ls++Ls) (ep++hvs++eq) w svs vs:=by
 induction h with
 | nil=>intro m;exact⟨[],[],[],[],by simp,.nil,.nil,fun _ _ _ _ _ _=>by simp [kJ]⟩
 | @cons r rs u us sv es es1 es2 ps ps1 ps2 hr ho h he hp ih=>
   intro m;obtain⟨v,k1,k2⟩:=hFl.run hH hf hr;obtain⟨sv',ls1,hvs1,o1,o2,o3⟩:=ho.r v m k2;obtain⟨vs,svs,ls,hvs,q1,q2,q3,q4⟩:=ih (m+ls1.length);have jn:∀{α:Type}(x y:List α),Jn x y (x++y):=fun x y=>by
    induction x with
    | nil=>exact .z
    | cons a x ih=>exact .s ih
   refine⟨v::vs,sv'::svs,ls1++ls,hvs1++hvs,?_,.cons o1 rfl q2 he (jn _ _),by rw [←hp.spec];exact o2.append q3,fun Lp Ls ep eq hl1 hl2=>?_⟩
   ·simp only [List.mapM_cons,Sem.run_bind];rw [k1];simp only [Result.andThen_ok];rw [q1];rfl
   ·simp only [kJ];refine⟨?_,?_⟩
    ·have:=o3 Lp (ls++Ls) ep (hvs++eq) hl1 hl2
     simpa [List.append_assoc] using this
    ·have:=q4 (Lp++ls1) Ls (ep++hvs1) eq (by simp [hl1]) (by simp [hl2,o2.len])
     simpa [List.append_assoc] using this
end
section
variable {P:Program}
def mW(P:Program)(fn:Func)(es:List TypeId)(us:List U)(e:Exit)(σ:St):Prop:=(match e with | .normal=>True | .ret=>True | _=>False)∧∃ps,ROs P σ fn.results.toList us es ps∧decide ((ps.filterMap id).Nodup)=true
theorem pR {f:Nat}{fn:Func}{c:Code}{args:List SV}{es:List TypeId}{us:List U}(hf:P.funcs[f]? =some fn)(hb:fn.body=some c)(hname:(fn.name== "runtime.NumGoroutine")=false)
  (hn:Nat.ble args.length fn.ntmps=true) (hus:us≠[]) (h:∀A [gDl A 0],V P A c ⟨gLm 0 args,[],fn.ntmps⟩ (mW P fn es us)):kR P f args es us:=by
 refine⟨⟨fn,hf,hname,by rw [hb];rfl⟩,?_⟩;intro A S env w vs hw hS hA0 he hH hargs;have hb0:gDl A 0:=⟨by rw [hA0];rfl⟩
 have hlen:=kJ.length hargs;have henv:env=[]:=List.eq_nil_of_length_eq_zero (by simpa using hH.len);subst henv;have hn':=Nat.le_of_ble_eq_true hn;refine calls_of_wp hf hb ?_;refine wp_mono (h A _ w ⟨S,[],hH,fun t=>?_,?_,rfl⟩) ?_
 ·have:=gIn args vs 0 [] (List.replicate (fn.ntmps - vs.length) undef) rfl hargs t
  have e:vs.toArray++Array.replicate (fn.ntmps - vs.toArray.size) undef=([]++vs++List.replicate (fn.ntmps - vs.length) undef).toArray:=by apply Array.ext';simp
  rw [e];exact this
 ·simp;omega
 ·rintro e a' w' ⟨σ',⟨he,ps,hres,hnd⟩,S',env',hH',hf',hN',hd'⟩;obtain⟨rvs,svs,ls,hvs,k1,k2,k3,k4⟩:=hres.run hH' hf' 0;have hrun:(results fn a'.tmps).run P w'=.ok (if h:rvs.toArray.size=1 then rvs.toArray[0] else .tuple rvs.toArray) w':=by
   rw [gPt];simp only [Sem.run_bind];rw [←Array.toArray_toList (xs:=fn.results)];simp only [List.mapM_toArray,Sem.run_map];rw [k1];rfl
  have k5:=k4 [] [] [] [] rfl rfl;simp only [List.nil_append,List.append_nil] at k5;have hl:=kJ.length k5;have fin:∃r sv S'' L' env'',(Ending.returned (if h:rvs.toArray.size=1 then rvs.toArray[0] else .tuple rvs.toArray))=.returned r∧OY 0 es us sv L'∧mQ A S'' L' env'' w'∧SVr S'' L' env'' w' sv r:=by
   have hheap:=k3.heap hH' (of_decide_eq_true hnd) hA0
   match us,svs,rvs,k2,k5,hl,hus with
   | [u],[sv],[v],k2,k5,_,_=>
     refine⟨_,sv,S',ls,hvs,rfl,?_,hheap,?_⟩
     ·cases k2 with
      | cons h1 hn h2 he hl=>
        cases h2;have e1:=he.spec;have e2:=hl.spec;simp only [List.append_nil] at e1 e2;subst e1;subst e2;exact .one h1
     ·simpa [kJ] using k5
   | u::u'::us,sv::sv'::svs,v::v'::rvs,k2,k5,_,_=>
     refine⟨_,.tup (sv::sv'::svs),S',ls,hvs,rfl,.tup k2,hheap,?_⟩;simp only [SVr];exact⟨v::v'::rvs,by simp,k5⟩
   | [_],_::_::_,_,k2,_,_,_=>cases k2 with | cons _ _ h2 _ _=>cases h2
   | _::_::_,[_],_,k2,_,_,_=>cases k2 with | cons _ _ h2 _ _=>cases h2
   | [_],[_],[],_,_,hl,_=>simp at hl
   | [_],[_],_::_::_,_,_,hl,_=>simp at hl
   | _::_::_,_::_::_,[],_,_,hl,_=>simp at hl
   | _::_::_,_::_::_,[_],_,_,hl,_=>simp at hl
  cases e with
  | normal=>exact⟨hd',_,hrun,fin⟩
  | ret=>exact⟨hd',_,hrun,fin⟩
  | exit id=>exact he.elim
  | goto l=>exact he.elim
  | panic c=>exact he.elim
  | outgrown=>exact he.elim
theorem OX.wl{L:List LO}{b:Nat}{es:List TypeId}{fl:List U}{cs:List SV}{ls:List LO}(h:OX b es fl cs ls):(∀k o,ls[k]? =some o→L[b+k]? =some o)→WLs L cs fl:=by
 induction h with
 | nil=>intro _;trivial
 | sl h ih=>
   intro hL;refine⟨?_,ih fun k o hk=>by have:=hL (k+1) o (by simpa using hk);rwa [←Nat.add_assoc,Nat.add_right_comm] at this⟩
   have:=hL 0 _ rfl
   simp only [WL];rw [Nat.add_zero] at this;rw [this];rfl
 | i h ih=>intro hL;exact⟨rfl,ih hL⟩
 | b h ih=>intro hL;exact⟨rfl,ih hL⟩
 | s h ih=>intro hL;exact⟨rfl,ih hL⟩
theorem O1.wd{L:List LO}{b:Nat}{es:List TypeId}{u:U}{sv:SV}{ls:List LO}(h:O1 b es u sv ls)(hL:∀k o,ls[k]? =some o→L[b+k]? =some o):WD L sv u:=by
 cases h with
 | st hl h=>have:=hl.eq;subst this;exact h.wl hL
 | leaf hu h=>
   have:=(h.wl hL).1
   cases sv<;>cases u<;>first | exact this | cases hu
theorem Os.wd{A:Amb}{S:Nat→Prop}{L:List LO}{env:List Value}{w:World}(hH:mQ A S L env w){b:Nat}{es:List TypeId}{us:List U}{svs:List SV}{ls:List LO}(h:Os b es us svs ls):(∀k o,ls[k]? =some o→L[b+k]? =some o)→
  ∀vs,kJ S L env w svs vs→kJ (gUo S L env w) [] [] w (us.map .d) vs:=by
 induction h with
 | nil=>intro _ vs hv;cases vs<;>simp_all [kJ]
 | @cons b n es es1 es2 u us sv svs ls ls1 ls2 h hn h2 he hl ih=>
   intro hL vs hv;cases vs with
   | nil=>simp [kJ] at hv
   | cons v vs=>
     simp only [kJ,List.map_cons] at hv ⊢;rw [←hl.spec] at hL;refine⟨WD.r hH (h.wd fun k o hk=>hL k o (by rw [List.getElem?_append_left (List.getElem?_eq_some_iff.1 hk).1];exact hk)) hv.1,ih (fun k o hk=>?_) vs hv.2⟩
     have:=hL (ls1.length+k) o (by rw [List.getElem?_append_right (by omega),Nat.add_sub_cancel_left];exact hk)
     rw [←hn,Nat.add_assoc];exact this
theorem kR.p{f:Nat}{args:List SV}{es:List TypeId}{us:List U}(h:kR P f args es us):gY P f args us:=by
 refine⟨h.1,fun A S env w vs hw hS hl he hH hargs=>(h.2 A S env w vs hw hS hl he hH hargs).mono ?_⟩;rintro e w' ⟨r,sv,S',L',env',rfl,hoy,hH',hr⟩;refine⟨r,mkR us,gUo S' L' env' w',[],[],rfl,⟨rfl,rfl⟩,⟨rfl,fun i o hv h=>by simp at h,fun i o hv b h=>by simp at h,fun i j o o' hv hv' b h=>by simp at h,?_,?_,hH'.frame,hH'.size,hH'.os,hH'.tape,hH'.output,Base.nil hl,hH'.glob⟩,?_⟩
 ·rintro b (hb | ⟨i,o,hv,h1,h2,h3,h4⟩)
  ·exact hH'.sS b hb
  ·exact(hH'.excl i o hv b h1 h2 h3 h4).2.2
 ·rintro b (hb | ⟨i,o,hv,h1,h2,h3,h4⟩)
  ·exact hH'.sA b hb
  ·exact .inr (hH'.excl i o hv b h1 h2 h3 h4).2.1
 ·cases hoy with
  | one h=>exact WD.r hH' (h.wd fun k o hk=>by simpa using hk) hr
  | tup h=>
    simp only [SVr] at hr;obtain⟨vs,rfl,hr⟩:=hr;simp only [mkR,SVr];exact⟨vs,rfl,h.wd hH' (fun k o hk=>by simpa using hk) vs hr⟩
end
def hAc(zu:U)(zs:List Value):Prop:=∀w,Tr w zu zs∧zu.fp w zs=[]
theorem hQg{zu:U}{zs:List Value}{z:Nat}(hz:hAc zu zs)(hs:zu.sz=z){w:World}:∀(n:Nat)(cs:List Value),cs.length=n*z→(∀j,j < n*z→cs[j]? =zs[j % z]?)→Trs w (List.replicate n zu) cs∧U.fps w (List.replicate n zu) cs=[]:=by
 have hzl:zs.length=z:=by rw [Tr.len _ _ (hz w).1,hs]
 intro n
 induction n with
 | zero=>intro cs hl _;simp at hl;subst hl;simp [Trs,U.fps]
 | succ n ih=>
   intro cs hl hc;have hnz:(n+1)*z=z+n*z:=by rw [Nat.add_mul];omega
   have htk:cs.take z=zs:=by
    apply List.ext_getElem?;intro j;rw [List.getElem?_take];split
    ·rw [hc j (by omega),Nat.mod_eq_of_lt (by assumption)]
    ·rw [List.getElem?_eq_none (by omega)]
   obtain⟨k1,k2⟩:=ih (cs.drop z) (by rw [List.length_drop,hl,hnz];omega) (fun j hj=>by rw [List.getElem?_drop,hc (z+j) (by omega),Nat.add_mod_left]);simp only [List.replicate_succ,Trs,U.fps];rw [hs,htk,(hz w).2,k2];exact⟨⟨(hz w).1,k1⟩,rfl⟩
section
variable {P:Program}{A:Amb}{σ:St}{K:St→Prop}
variable {ops:Array Oper}{rest:List Oper}{t:Nat}{ty:TypeId}{pos:String}{af:Array Edge}{x y:Operand}{sv:SV}
theorem mQ.newO {S:Nat→Prop}{L:List LO}{env:List Value}{w w':World}(h:mQ A S L env w)(js:List Nat)(o:LO)(hv:Value)
  (hsz:w.heap.size≤w'.heap.size) (hold:∀b,b < w.heap.size→w'.heap[b]? =w.heap[b]?) (hos:w'.os=w.os) (htape:w'.tape=w.tape) (hout:w'.output=w.output)
  (hft:∀k,o.ft w' hv k→k < w'.heap.size∧(w.heap.size≤k∨∃j∈js,gT2 L env w j k))
  (ho:Carry S L env w S (kill js 0 L++[o]) (env++[hv]) w'→gGd S (kill js 0 L++[o]) (env++[hv]) w' o hv) :
  mQ A S (kill js 0 L++[o]) (env++[hv]) w'∧Carry S L env w S (kill js 0 L++[o]) (env++[hv]) w':=by
 have hlen:=h.len
 refine h.eat js L.length o hv (by simp [zY,hlen]) (fun j hj=>?_) (by rw [List.getElem?_append_right (by rw [zY];exact Nat.le_refl _),zY];simp) (fun j hj=>?_) (by rw [←hlen];simp) (fun k hk _=>hold k hk)
  (fun o' hv' h1 _=>by rw [List.getElem?_eq_none (Nat.le_refl _)] at h1;cases h1) hsz hos htape hout (fun k hk=>?_) ho
 ·by_cases hlt:j < L.length
  ·rw [List.getElem?_append_left (by rw [zY];exact hlt),gMh,Nat.zero_add]
  ·rw [List.getElem?_eq_none (by simp [zY];omega),List.getElem?_eq_none (by omega)];rfl
 ·by_cases hlt:j < env.length
  ·rw [List.getElem?_append_left hlt]
  ·rw [List.getElem?_eq_none (by simp;omega),List.getElem?_eq_none (by omega)]
 ·obtain⟨h1,h2⟩:=hft k hk;refine⟨h1,h2.imp id ?_⟩;rintro⟨j,hj,o',hv',k1,k2,k3,k4⟩;exact⟨j,o',hv',.inr (gB9 hj),k1,k2,k3,k4⟩
theorem hI8{S:Nat→Prop}{L:List LO}{env:List Value}{w:World}{o:LO}{hv:Value}{js:List Nat}(hlen:env.length=L.length)(h1:hv.oneCell'=true)(hv0:o.ver=0):SVr S (kill js 0 L++[o]) (env++[hv]) w (.sl L.length 0) hv:=by
 simp only [SVr];exact⟨hv,o,by rw [←hlen];simp,by rw [List.getElem?_append_right (by rw [zY];exact Nat.le_refl _),zY];simp,by rw [hv0];exact Nat.le_refl _,h1,fun _=>rfl⟩
theorem hOg {T e:TypeId}{gg:Bool}{z bs:Nat}{zs:List Value}{zu:U}{k k':IntKind}{l c:Int}{fr:List (Nat × SV)}{L L':List LO}{N i:Nat}(hx:(St.mk fr L N).ev x=.d (.i k l))(hy:(St.mk fr L N).ev y=.d (.i k' c))
  (hT:tyE P T=some e) (he:tyI P e=some (gg,z,bs)) (hZ:tyZ P e=some zs) (hz:(Nat.blt 0 z && zs.length==z)=true) (hzu:hAc zu zs)
  (h0:0≤l) (hlc:l≤c) (hc:c≤big) (hbytes:(bs:Int)*c≤281474976710656) (ht:Nat.blt t N=true) (hi:L.length=i) (hL':Sn (.own e z 0 (List.replicate l.toNat zu)) L i L')
  (h:VO P A ops rest ⟨(t,.sl i 0)::fr,L',N⟩ K) :
  VO P A ops (⟨some t,.makeSlice T x y,ty,pos,af,none⟩::rest) ⟨fr,L,N⟩ K:=by
 have hL2:=hL'.spec.2;subst hi;subst hL2;refine gDn rfl (fun S env a w hH hf hN hd=>?_) h;have h1:=kZ.ev hf hH x;have h2:=kZ.ev hf hH y;rw [hx,SVr.int] at h1;rw [hy,SVr.int] at h2;simp only [Bool.and_eq_true,Nat.blt_eq,beq_iff_eq] at hz;obtain⟨i,hi,his,hib⟩:=gQ9 he;have hsl:=wO hT;obtain⟨zv,hzv,hzc⟩:∃zv,i.zero=some zv∧zv.cells.toList=zs:=by
  unfold tyZ at hZ;simp only [hi] at hZ;cases hz:i.zero with
  | none=>simp [hz] at hZ
  | some zv=>exact⟨zv,rfl,by simpa [hz] using hZ⟩
 have hzsz:zv.cells.size=z:=by rw [←hz.2,←hzc];simp
 rw [yI] at hc;have hrun:=run_make (P:=P) w T e i zv hsl hi hzv k k' l c h0 hlc (by rw [hib];exact hbytes) (by omega);have hsu:zu.sz=z:=by rw [←Tr.len _ _ (hzu w).1,hz.2]
 have hcells:∀(j:Nat),j < (madeCells zv.cells (c.toNat*i.size)).toList.length→(madeCells zv.cells (c.toNat*i.size)).toList[j]? =zs[j % z]? :=by
  intro j hj;simp only [Array.length_toList,size_madeCells] at hj;have hjm:j % z < zv.cells.size:=by rw [hzsz];exact Nat.mod_lt _ hz.1
  rw [Array.getElem?_toList];simp only [madeCells,Array.getElem?_map,←hzc,Array.getElem?_toList];rw [Array.getElem?_eq_getElem (by simpa using hj)];simp only [Array.getElem_range,Option.map_some,hzsz];rw [Array.getElem?_eq_getElem hjm,getElem!_pos zv.cells (j % z) hjm]
 have hln:l.toNat≤c.toNat:=by omega
 have hlz:l.toNat*z≤c.toNat*z:=Nat.mul_le_mul_right _ hln;have htr:=fun w'=>hQg (w:=w') hzu hsu l.toNat ((madeCells zv.cells (c.toNat*i.size)).toList.take (l.toNat*z)) (by simp [size_madeCells,his,Nat.min_eq_left hln]) (fun j hj=>by rw [List.getElem?_take,if_pos hj];exact hcells j (by simp only [Array.length_toList,size_madeCells,his];omega));have hall:∀u∈List.replicate l.toNat zu,u.sz=z:=fun u hu=>by rw [(List.mem_replicate.1 hu).2];exact hsu
 have hown:(w.alloc (.cells (madeCells zv.cells (c.toNat*i.size)) e)).ownsRow 0 e z (.slice (some ⟨w.heap.size,0,none⟩) l.toNat c.toNat) (List.replicate l.toNat zu).length ((madeCells zv.cells (c.toNat*i.size)).toList.take (l.toNat*z)):=
  ⟨by simp [size_madeCells,his,Nat.min_eq_left hln],.inr ⟨w.heap.size,c.toNat,_,by rw [List.length_replicate],Nat.zero_le _,heap_alloc_new w _,by rw [List.length_replicate];exact hln,by simp only [maxLen];omega,by rw [size_madeCells,his],by rw [List.length_replicate]⟩⟩
 have hfp:=gX4 hall hown w.heap.size rfl;rw [(htr _).2] at hfp
 obtain⟨hH',C⟩:=hH.newO (w':=w.alloc (.cells (madeCells zv.cells (c.toNat*i.size)) e)) [] (.own e z 0 (List.replicate l.toNat zu)) (.slice (some ⟨w.heap.size,0,none⟩) l.toNat c.toNat)
  (by simp) (fun b hb=>heap_alloc_old w _ hb) rfl rfl rfl (fun b hb=>by simp only [LO.ft] at hb;rw [hfp] at hb;simp at hb;subst hb;exact⟨by simp,.inl (Nat.le_refl _)⟩)
  (fun C=>⟨by rw [List.length_replicate,yI];omega,hall,⟨_,hown,(htr _).1⟩,by rw [hfp];simp⟩)
 have hk:kill [] 0 L=L:=by
  have:∀(L:List LO)(n:Nat),kill [] n L=L:=by
   intro L
   induction L with
   | nil=>intro n;rfl
   | cons o L ih=>intro n;simp [kill,ih]
  exact this L 0
 have hsl':=hI8 (S:=S) (w:=w.alloc (.cells (madeCells zv.cells (c.toNat*i.size)) e)) (o:=.own e z 0 (List.replicate l.toNat zu)) (hv:=.slice (some ⟨w.heap.size,0,none⟩) l.toNat c.toNat) (js:=[]) hH.len rfl rfl;simp only [hk] at hH' C hsl';refine⟨.value (.slice (some ⟨w.heap.size,0,none⟩) l.toNat c.toNat),_,?_,.inl ⟨_,rfl,uA hf hN hd ht hH' C hsl'⟩⟩;simp only [execOp,h1,h2,Sem.run_bind,hrun,Result.andThen_ok,Sem.run_pure]
inductive hMu (L:List LO)(z:Nat):SV→List U→List Nat→Prop
 | own {j ver e:Nat} {us:List U} (h:L[j]? =some (.own e z ver us)):hMu L z (.sl j ver) us [j]
 | data {us:List U} (hs:∀u∈us,u.sz=z) (hn:U.noSls us=true):hMu L z (.d (.sl z us)) us []
 | nil:hMu L z .nilsl [] []
theorem hMu.r{S:Nat→Prop}{L:List LO}{env:List Value}{w:World}(hH:mQ A S L env w){z:Nat}{us:List U}{js:List Nat}{v:Value}(h:hMu L z sv us js)(hv:SVr S L env w sv v) :
  ∃news,Src (fun _=>True) w z us v news∧Trs w us news∧(U.fps w us news).Nodup∧(∀b∈U.fps w us news,∃j∈js,gT2 L env w j b)∧∀u∈us,u.sz=z:=by
 cases h with
 | @own j ver e us h=>
   simp only [SVr] at hv;obtain⟨hv',o,k1,k2,k3,k5,k4⟩:=hv;rw [h] at k2;obtain rfl:=Option.some.inj k2;have k6:=k4 rfl;subst k6;have hob:=hH.objs j _ _ h k1;obtain⟨hb,hz,⟨xs,h1,h2⟩,hnd⟩:=hob;have hr:=Trs.rd (S:=fun _=>True) us xs h2 (fun _ _=>trivial);refine⟨xs,⟨?_,hr,h1.1,Rds.oneCell us xs hr⟩,h2,?_,?_,hz⟩
   ·rcases h1.2 with ⟨rfl,h0⟩ | ⟨g,cap,cur,rfl,_,hg,hc1,hc2,hc3,htake⟩
    ·exact⟨none,0,by rw [h0],.inl (List.eq_nil_of_length_eq_zero h0)⟩
    ·exact⟨some ⟨g,0,none⟩,cap,rfl,.inr ⟨_,rfl,fun j u hu=>h1.cells (g:=g) rfl j u hu⟩⟩
   ·rcases gGn hz h1 with ⟨_,rfl,_⟩ | ⟨g,cap,rfl,hf⟩
    ·simp [U.fps]
    ·rw [hf] at hnd;exact(List.nodup_cons.1 hnd).2
   ·intro b hb';refine⟨j,by simp,_,_,h,rfl,k1,?_⟩;simp only [LO.ft];rcases gGn hz h1 with ⟨_,rfl,_⟩ | ⟨g,cap,rfl,hf⟩
    ·simp [U.fps] at hb'
    ·rw [hf];simp [hb']
 | data hs hn=>
   obtain⟨news,src⟩:=Src.of_data hv hs;obtain⟨k1,k2⟩:=Rds.tr (w':=w) _ _ hn src.rds;exact⟨news,⟨src.form,Rds.mono (fun _ _ _=>trivial) (fun _ _ _=>rfl) _ _ src.rds,src.len,src.one⟩,k1,by rw [k2];exact List.nodup_nil,by rw [k2];simp,hs⟩
 | nil=>
   simp only [SVr] at hv;subst hv;exact⟨[],⟨⟨none,0,rfl,.inl rfl⟩,by simp [Rds],by simp,by simp⟩,by simp [Trs],by simp [U.fps],by simp [U.fps],by simp⟩
theorem hTg {L:List LO}{env:List Value}{w w':World}{e z:Nat}{es us:List U}{hv v':Value}{xs news:List Value}{js:List Nat}{Q:Nat→Prop}(hz:∀u∈es,u.sz=z)(hus:∀u∈us,u.sz=z)
  (m1:w.ownsRow 0 e z hv es.length xs) (m2:Trs w es xs) (hnd:((U.sl z es).fp w [hv]).Nodup) (t1:Trs w us news) (t2:(U.fps w us news).Nodup) (t3:∀b∈U.fps w us news,(∃j∈js,gT2 L env w j b)∧b < w.heap.size∧b∉(U.sl z es).fp w [hv])
  (hown:w'.ownsRow 0 e z v' (es.length+us.length) (xs++news)) (e5:∀k,k < w.heap.size→blk hv≠some k→w'.heap[k]? =w.heap[k]?)
  (e6:∀k,blk v'=some k→k < w'.heap.size∧(blk hv=some k∨w.heap.size≤k)) (hsz:w.heap.size≤w'.heap.size) (hQ:∀b,b∈(U.sl z es).fp w [hv]→b < w.heap.size∧Q b) :
  (∀u∈es++us,u.sz=z)∧w'.ownsRow 0 e z v' (es++us).length (xs++news)∧Trs w' (es++us) (xs++news)∧((U.sl z (es++us)).fp w' [v']).Nodup∧
  ∀b∈(U.sl z (es++us)).fp w' [v'],b < w'.heap.size∧(w.heap.size≤b∨Q b∨∃j∈js,gT2 L env w j b):=by
 have hall:∀u∈es++us,u.sz=z:=fun u hu=>(List.mem_append.1 hu).elim (hz u) (hus u);have hown':w'.ownsRow 0 e z v' (es++us).length (xs++news):=by rw [List.length_append];exact hown
 have hin:∀b∈U.fps w es xs,b∈(U.sl z es).fp w [hv]∧blk hv≠some b:=by
  intro b hb;rcases gGn hz m1 with ⟨_,rfl,_⟩ | ⟨g,cap,rfl,hf⟩
  ·simp [U.fps] at hb
  ·rw [hf] at hnd ⊢;exact⟨by simp [hb],fun e=>by simp [blk] at e;subst e;exact(List.nodup_cons.1 hnd).1 hb⟩
 have hnb:∀b,blk hv=some b→b∈(U.sl z es).fp w [hv]:=by
  intro b hb;rcases gGn hz m1 with ⟨rfl,rfl,_⟩ | ⟨g,cap,rfl,hf⟩
  ·simp [blk] at hb
  ·simp [blk] at hb;subst hb;rw [hf];simp
 obtain⟨a1,a2⟩:=Trs.loc (w':=w') _ _ m2 (fun b hb=>e5 b (hQ b (hin b hb).1).1 (hin b hb).2);obtain⟨b1,b2⟩:=Trs.loc (w':=w') _ _ t1 (fun b hb=>e5 b (t3 b hb).2.1 (fun e=>(t3 b hb).2.2 (hnb b e)));obtain⟨c1,c2⟩:=Trs.append _ _ _ _ a1 b1;rw [a2,b2] at c2;have hes:(U.fps w es xs).Nodup:=by
  rcases gGn hz m1 with ⟨_,rfl,_⟩ | ⟨g,cap,rfl,hf⟩
  ·simp [U.fps]
  ·rw [hf] at hnd;exact(List.nodup_cons.1 hnd).2
 have hjoin:(U.fps w es xs++U.fps w us news).Nodup:=List.nodup_append.2 ⟨hes,t2,fun x hx y hy hxy=>(t3 y hy).2.2 (hxy▸(hin x hx).1)⟩;rcases gGn hall hown' with ⟨rfl,h0,hf⟩ | ⟨g,cap,rfl,hf⟩
 ·exact⟨hall,hown',c1,by rw [hf];exact List.nodup_nil,by rw [hf];simp⟩
 ·have h6:=e6 g rfl;rw [c2] at hf;refine⟨hall,hown',c1,?_,?_⟩
  ·rw [hf];refine List.nodup_cons.2 ⟨?_,hjoin⟩;rw [List.mem_append,not_or];refine⟨fun hm=>?_,fun hm=>?_⟩
   ·rcases h6.2 with h | h
    ·exact(hin g hm).2 h
    ·have:=(hQ g (hin g hm).1).1;omega
   ·rcases h6.2 with h | h
    ·exact(t3 g hm).2.2 (hnb g h)
    ·have:=(t3 g hm).2.1;omega
  ·intro b hb;rw [hf] at hb;rcases List.mem_cons.1 hb with rfl | hb
   ·exact⟨h6.1,h6.2.elim (fun h=>.inr (.inl (hQ b (hnb b h)).2)) .inl⟩
   ·rcases List.mem_append.1 hb with hb | hb
    ·have:=hQ b (hin b hb).1
     exact⟨Nat.lt_of_lt_of_le this.1 hsz,.inr (.inl this.2)⟩
    ·have:=t3 b hb
     exact⟨Nat.lt_of_lt_of_le this.2.1 hsz,.inr (.inr this.1)⟩
theorem hFo {T e T':TypeId}{gg:Bool}{z bs i ver:Nat}{zs:List Value}{es us:List U}{js:List Nat}{fr:List (Nat × SV)}{L L':List LO}{N:Nat}(hx:(St.mk fr L N).ev x=.sl i ver)(hL:L[i]? =some (.own e z ver es))(hs:hMu L z ((St.mk fr L N).ev y) us js)
  (hjs:(!js.contains i)=true) (hT:tyE P T=some e) (he:tyI P e=some (gg,z,bs)) (hZ:tyZ P e=some zs) (hz:(Nat.blt 0 z && zs.length==z)=true)
  (hbig:es.length+us.length≤big) (hbytes:(es.length+us.length)*bs≤140737488355328) (ht:Nat.blt t N=true) (hL':(kill js 0 L).set i (.own e z (ver+1) (es++us))=L')
  (h:VO P A ops rest ⟨(t,.sl i (ver+1))::fr,L',N⟩ K) :
  VO P A ops (⟨some t,.call { callee:=.builtin .append,args:=#[x,y],argTypes:=#[T,T] },T',pos,af,none⟩::rest) ⟨fr,L,N⟩ K:=by
 subst hL';simp only [Bool.not_eq_true'] at hjs;refine gDn rfl (fun S env a w hH hf hN hd=>?_) h;have h1:=kZ.ev hf hH x;have h2:=kZ.ev hf hH y;rw [hx] at h1;simp only [Bool.and_eq_true,Nat.blt_eq,beq_iff_eq] at hz;obtain⟨news,src,t1,t2,t3,hus⟩:=hs.r hH h2;simp only [SVr] at h1;obtain⟨hv,o,k1,k2,k3,k5,k4⟩:=h1;rw [hL] at k2;obtain rfl:=Option.some.inj k2;have k6:=k4 rfl;obtain⟨hb0,hzs,⟨xs,m1,m2⟩,hnd⟩:=hH.objs i _ hv hL k1;obtain⟨v',w',hrun,hown,e1,e2,e3,e4,e5,e6⟩:=hKz (P:=P) (ty:=T') hT he hz.1 hZ hz.2 m1 src hbig hbytes;have hself:∀b∈(U.sl z es).fp w [hv],gT2 L env w i b:=fun b hb=>⟨_,_,hL,rfl,k1,hb⟩
 obtain⟨q1,q2,q3,q4,q5⟩:=hTg (L:=L) (env:=env) (Q:=gT2 L env w i) (js:=js) hzs hus m1 m2 hnd t1 t2 (fun b hb=>by
   obtain⟨j,hj,ho⟩:=t3 b hb;refine⟨⟨j,hj,ho⟩,?_,fun hm=>?_⟩
   ·obtain⟨o,hv',n1,n2,n3,n4⟩:=ho;exact(hH.excl j o hv' b n1 n2 n3 n4).2.2
   ·have:=ho.inj hH (hself b hm)
    subst this;rw [gB9 hj] at hjs
    cases hjs) hown e5 e6 e4 (fun b hb=>⟨(hH.excl i _ hv b hL rfl k1 hb).2.2,hself b hb⟩)
 have hi:=(List.getElem?_eq_some_iff.1 hL).1;have hie:=(List.getElem?_eq_some_iff.1 k1).1;have hnb:∀b,blk hv=some b→b∈(U.sl z es).fp w [hv]:=by
  intro b hb;rw [gX4 hzs m1 b hb];simp
 obtain⟨hH',C⟩:=hH.eat (w':=w') js i (.own e z (ver+1) (es++us)) v' (L':=(kill js 0 L).set i (.own e z (ver+1) (es++us))) (env':=env.set i v')
  (by simp [zY,hH.len]) (fun j hj=>by rw [List.getElem?_set_ne (fun e=>hj e.symm),gMh,Nat.zero_add]) (by rw [List.getElem?_set_self (by rw [zY];exact hi)]) (fun j hj=>by rw [List.getElem?_set_ne (fun e=>hj e.symm)]) (by rw [List.getElem?_set_self hie])
  (fun k hk hno=>e5 k hk (fun e=>hno _ _ hL k1 ⟨rfl,hnb k e⟩))
  (fun o hv' h1 h2=>by
   rw [hL] at h1;cases h1;rw [k1] at h2;cases h2;refine⟨Nat.le_succ _,fun e=>by simp only [LO.ver] at e;omega,fun b hb=>?_⟩
   rcases m1.2 with ⟨h,_⟩ | ⟨g,cap,cur,h,_⟩<;>rw [h] at hb<;>cases hb)
  e4 e1 e2 e3
  (fun b hb=>by
   obtain⟨r1,r2⟩:=q5 b hb;refine⟨r1,r2.imp id (fun r=>?_)⟩;rcases r with ⟨o,hv',n1,n2,n3,n4⟩ | ⟨j,hj,o,hv',n1,n2,n3,n4⟩
   ·exact⟨i,o,hv',.inl rfl,n1,n2,n3,n4⟩
   ·exact⟨j,o,hv',.inr (gB9 hj),n1,n2,n3,n4⟩)
  (fun C=>⟨by rw [List.length_append];exact hbig,q1,⟨_,q2,q3⟩,q4⟩)
 refine⟨.value v',w',?_,.inl ⟨_,rfl,uA hf hN hd ht hH' C ?_⟩⟩
 ·rw [←k6] at hrun;simp [execOp,resolve,invoke,builtin,hrun]
 ·simp only [SVr];refine⟨v',_,by rw [List.getElem?_set_self hie],by rw [List.getElem?_set_self (by rw [zY];exact hi)],Nat.le_refl _,?_,fun _=>rfl⟩;rcases hown.2 with ⟨h,_⟩ | ⟨g,cap,cur,h,_⟩<;>rw [h]<;>rfl
theorem hC4 {T e:TypeId}{gg:Bool}{z bs i:Nat}{fr:List (Nat × SV)}{L L':List LO}{N:Nat}(hT:tyE P T=some e)(he:tyI P e=some (gg,z,bs))(ht:Nat.blt t N=true)(hL':Sn (.own e z 0 []) L i L')
  (h:VO P A ops rest ⟨(t,.sl i 0)::fr,L',N⟩ K) :
  VO P A ops (⟨some t,.buildSlice T 0 #[],ty,pos,af,none⟩::rest) ⟨fr,L,N⟩ K:=by
 obtain⟨hi,hL2⟩:=hL'.spec;subst hi;subst hL2;refine gDn rfl (fun S env a w hH hf hN hd=>?_) h
 have hown:(w.alloc (.cells #[] e)).ownsRow 0 e z (.slice (some ⟨w.heap.size,0,none⟩) 0 0) ([]:List U).length []:=
  ⟨by simp,.inr ⟨w.heap.size,0,#[],rfl,Nat.zero_le _,heap_alloc_new w _,Nat.le_refl _,by simp [maxLen],by simp,by simp⟩⟩
 have hfp:=gX4 (us:=[]) (by simp) hown w.heap.size rfl;simp only [U.fps] at hfp
 obtain⟨hH',C⟩:=hH.newO (w':=w.alloc (.cells #[] e)) [] (.own e z 0 []) (.slice (some ⟨w.heap.size,0,none⟩) 0 0)
  (by simp) (fun b hb=>heap_alloc_old w _ hb) rfl rfl rfl (fun b hb=>by simp only [LO.ft] at hb;rw [hfp] at hb;simp at hb;subst hb;exact⟨by simp,.inl (Nat.le_refl _)⟩)
  (fun C=>⟨by simp [yI],by simp,⟨_,hown,by simp [Trs]⟩,by rw [hfp];simp⟩)
 have hk:kill [] 0 L=L:=by
  have:∀(L:List LO)(n:Nat),kill [] n L=L:=by
   intro L
   induction L with
   | nil=>intro n;rfl
   | cons o L ih=>intro n;simp [kill,ih]
  exact this L 0
 have hsl':=hI8 (S:=S) (w:=w.alloc (.cells #[] e)) (o:=.own e z 0 []) (hv:=.slice (some ⟨w.heap.size,0,none⟩) 0 0) (js:=[]) hH.len rfl rfl;simp only [hk] at hH' C hsl';refine⟨.value (.slice (some ⟨w.heap.size,0,none⟩) 0 0),_,?_,.inl ⟨_,rfl,uA hf hN hd ht hH' C hsl'⟩⟩;simp [execOp,Instr.buildSlice,run_underlying (wO hT),run_sizeOf he,Instr.fill,newRow];congr 2;apply Array.ext';simp
theorem hOh {T e:TypeId}{gg:Bool}{z bs i:Nat}{zs:List Value}{u:U}{js:List Nat}{fr:List (Nat × SV)}{L L':List LO}{N:Nat}(hy:OV L ((St.mk fr L N).ev x) u js)(hjs:decide js.Nodup=true)(hT:tyE P T=some e)(he:tyI P e=some (gg,z,bs))(hZ:tyZ P e=some zs)
  (hz:(Nat.blt 0 z && Nat.blt z 16777216 && zs.length==z)=true) (hu:u.sz=z) (ht:Nat.blt t N=true) (hi:L.length=i) (hL':kill js 0 L++[.own e z 0 [u]]=L')
  (h:VO P A ops rest ⟨(t,.sl i 0)::fr,L',N⟩ K) :
  VO P A ops (⟨some t,.buildSlice T 1 #[(0,x)],ty,pos,af,none⟩::rest) ⟨fr,L,N⟩ K:=by
 subst hL';subst hi;simp only [Bool.and_eq_true,Nat.blt_eq,beq_iff_eq] at hz;refine gDn rfl (fun S env a w hH hf hN hd=>?_) h;obtain⟨cs,c1,hcells,c2,c3,c4,c5⟩:=hy.r hH (of_decide_eq_true hjs) (kZ.ev hf hH x);have hcl:=Tr.len _ _ c2;rw [hu] at hcl;obtain⟨zv,hrz,hzc⟩:=gOn hZ w;have hold:∀b,b < w.heap.size→(w.alloc (.cells (a.eval x).cells e)).heap[b]? =w.heap[b]? :=fun b hb=>heap_alloc_old w _ hb;obtain⟨t5,t6⟩:=Tr.loc (w':=w.alloc (.cells (a.eval x).cells e)) _ _ c2 (fun b hb=>hold b (Tr.lt _ _ c2 b hb));have hsz:(a.eval x).cells.size=z:=by rw [←hcl,←hcells];simp
 have hown:(w.alloc (.cells (a.eval x).cells e)).ownsRow 0 e z (.slice (some ⟨w.heap.size,0,none⟩) 1 1) [u].length cs:=
  ⟨by simp [hcl],.inr ⟨w.heap.size,1,_,rfl,Nat.zero_le _,heap_alloc_new w _,Nat.le_refl _,by simp [maxLen],by rw [hsz];simp,by rw [hcells];rw [List.take_of_length_le (by simp [hcl])]⟩⟩
 have hall:∀v∈[u],v.sz=z:=by simpa using hu
 have hfp:=gX4 hall hown w.heap.size rfl;have htk:cs.take u.sz=cs:=List.take_of_length_le (by omega);have hdr:cs.drop u.sz=[]:=List.drop_eq_nil_of_le (by omega);simp only [U.fps,htk,t6,List.append_nil] at hfp
 obtain⟨hH',C⟩:=hH.newO (w':=w.alloc (.cells (a.eval x).cells e)) js (.own e z 0 [u]) (.slice (some ⟨w.heap.size,0,none⟩) 1 1)
  (by simp) hold rfl rfl rfl (fun b hb=>by
   simp only [LO.ft] at hb;rw [hfp] at hb;rcases List.mem_cons.1 hb with rfl | hb
   ·exact⟨by simp,.inl (Nat.le_refl _)⟩
   ·have:=Tr.lt _ _ c2 b hb
    exact⟨by simp;omega,.inr (c4 b hb)⟩)
  (fun C=>⟨by simp [yI],hall,⟨_,hown,by simp only [Trs,htk,hdr];exact⟨t5,trivial⟩⟩,by
   rw [hfp]
   exact List.nodup_cons.2 ⟨fun hm=>by have:=Tr.lt _ _ c2 _ hm;omega,c3⟩⟩)
 refine⟨.value (.slice (some ⟨w.heap.size,0,none⟩) 1 1),_,?_,.inl ⟨_,rfl,uA hf hN hd ht hH' C (hI8 hH.len rfl rfl)⟩⟩;have hzs:zv.cells.size=z:=by rw [←hz.2,←hzc];simp
 have hfill:Instr.fill (fun i=>some (i*z,z)) ((Array.range (1*z)).map (zv.cells[· % zv.cells.size]!)) [(0,a.eval x)]=some (a.eval x).cells:=by
  rw [gQ6 (off:=0) (n:=z) (by simp) hsz (by simp)];simp only [Instr.fill,Option.some.injEq,List.take_zero,List.nil_append,Nat.zero_add];apply Array.ext';simp
 have h1:¬z > 2^24:=by omega
 have h2:¬z=0:=by omega
 simp only [Nat.one_mul] at hfill;simp [execOp,Instr.buildSlice,run_underlying (wO hT),run_sizeOf he,hrz,h1,h2,newRow];simp only [gt_iff_lt] at h1;simp [hfill]
end
theorem gQ7:∀(L:List LO)(n:Nat),kill [] n L=L
 | [],_=>rfl
 | o::L,n=>by simp [kill,gQ7 L]
section
variable {P:Program}{A:Amb}{σ:St}{K:St→Prop}
variable {ops:Array Oper}{rest:List Oper}{t:Nat}{ty:TypeId}{pos:String}{af:Array Edge}{x y:Operand}{sv:SV}
end
section
variable {hv:Nat→Value}{e:Nat→Nat}{w:World}
end
section
variable {P:Program}
end
section
variable {A:Amb}{S:Nat→Prop}{L:List LO}{env:List Value}{w:World}
end
section
variable {P:Program}{A:Amb}{σ:St}{K:St→Prop}
variable {ops:Array Oper}{rest:List Oper}{t:Nat}{ty:TypeId}{pos:String}{af:Array Edge}{x y:Operand}{sv:SV}
end
section
variable {P:Program}{A:Amb}{σ:St}{K:St→Prop}{Q:Exit→St→Prop}
variable {dst:Option Nat}{ty:TypeId}{pos:String}{af:Array Edge}{g:Option (Nat × Bool)}{x y:Operand}{sv:SV}
theorem hAd{T T2:TypeId}{k k1 k2:IntKind}{m:Int}(hx:σ.ev x=.d (.i k m))(h1:P.underlying T=some (.int k1))(h2:P.underlying T2=some (.int k2)):Quiet P A σ ⟨dst,.convert T T2 x,ty,pos,af,g⟩ (.d (.i k2 (k2.wrap m))):=Quiet.pure fun S env a w hH ho=>by
 have h3:=ho x (by simp [Op.operands]);rw [hx,SVr.int] at h3;exact⟨.int k2 (k2.wrap m),by simp [execOp,h3,convert,run_underlying h1,run_underlying h2,Conv.intToInt],SVr.int.2 rfl⟩
theorem hC5{T T2 e:TypeId}{j ver e':Nat}{m:Int}(hx:σ.ev x=.sl j ver)(hL:σ.L[j]? =some (.own e' 1 ver [.i .u8 m]))(h1:P.underlying T=some (.slice e))(h2:P.underlying e=some (.int .u8))(h3:P.underlying T2=some .string) :
  Quiet P A σ ⟨dst,.convert T T2 x,ty,pos,af,g⟩ (.d (.s [UInt8.ofNat m.toNat])):=Quiet.pure fun S env a w hH ho=>by
 have h4:=ho x (by simp [Op.operands]);rw [hx] at h4;simp only [SVr] at h4;obtain⟨hv,o,k1,k2,k3,k5,k4⟩:=h4;rw [hL] at k2;obtain rfl:=Option.some.inj k2;have k6:=k4 rfl;obtain⟨_,_,⟨xs,h5,h6⟩,_⟩:=hH.objs j _ hv hL k1;simp only [Trs,Tr,U.sz] at h6;have hl:=h5.1
 match xs,hl with
 | [c],_=>
   simp only [List.take_succ_cons,List.take_zero,List.cons.injEq,and_true] at h6;obtain⟨rfl,_⟩:=h6;rcases h5.2 with ⟨_,h0⟩ | ⟨b,cap,cur,rfl,r⟩
   ·simp at h0
   ·refine⟨.string ⟨#[UInt8.ofNat m.toNat]⟩,?_,SVr.str.2 ⟨by simp [yI],rfl⟩⟩;have hld:=run_loadCells_list (P:=P) (w:=w) ⟨b,0,none⟩ [.int .u8 m] (fun j u hu=>h5.cells (g:=b) rfl j u hu);simp only [List.length_cons,List.length_nil,Nat.zero_add] at hld;simp [execOp,k6,convert,run_underlying h1,run_underlying h2,run_underlying h3,Conv.bytesToString,hld];rfl
theorem hVz{T T':TypeId}{a b:LB}(hx:σ.ev x=.d (.s a))(hy:σ.ev y=.d (.s b))(hl:a.length+b.length≤big):Quiet P A σ ⟨dst,.binOp .add T x y T',ty,pos,af,g⟩ (.d (.s (a++b))):=Quiet.pure fun S env ac w hH ho=>by
 have h1:=ho x (by simp [Op.operands]);have h2:=ho y (by simp [Op.operands]);rw [hx,SVr.str] at h1;rw [hy,SVr.str] at h2;refine⟨.string ⟨(a++b).toArray⟩,?_,SVr.str.2 ⟨by rw [List.length_append];exact hl,rfl⟩⟩;rw [yI] at hl;have hs:(⟨a.toArray⟩:ByteArray).size=a.length:=rfl;have hs':(⟨b.toArray⟩:ByteArray).size=b.length:=rfl;have happ:(⟨a.toArray⟩:ByteArray)++⟨b.toArray⟩=⟨(a++b).toArray⟩:=by
  apply ByteArray.ext;simp [ByteArray.data_append]
 simp [execOp,h1.2,h2.2,eqGuard,binOp,Op.stringOp,hs,hs',happ];omega
end
end Go.Eng
