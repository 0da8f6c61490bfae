import Derived.Test.YtfpdlnkkcnmebaaGreatEng19
namespace Go.Eng
open Go Go.RowKit
inductive OX:Nat→List TypeId→List U→List SV→List LO→Prop
 | nil {b:Nat}:OX b [] [] [] []
 | sl {b e z:Nat} {es:List TypeId} {us r:List U} {cs:List SV} {ls:List LO} (h:OX (b+1) es r cs ls):OX b (e::es) (.sl z us::r) (.sl b 0::cs) (.own e z 0 us::ls)
 | i {b:Nat} {k:IntKind} {n:Int} {es:List TypeId} {r:List U} {cs:List SV} {ls:List LO} (h:OX b es r cs ls):OX b es (.i k n::r) (.d (.i k n)::cs) ls
 | b {b:Nat} {x:Bool} {es:List TypeId} {r:List U} {cs:List SV} {ls:List LO} (h:OX b es r cs ls):OX b es (.b x::r) (.d (.b x)::cs) ls
 | s {b:Nat} {l:LB} {es:List TypeId} {r:List U} {cs:List SV} {ls:List LO} (h:OX b es r cs ls):OX b es (.s l::r) (.d (.s l)::cs) ls
inductive O1:Nat→List TypeId→U→SV→List LO→Prop
 | st {b:Nat} {es:List TypeId} {us fl:List U} {cs:List SV} {ls:List LO} (hl:Lvs us fl) (h:OX b es fl cs ls):O1 b es (.st us) (.ag cs) ls
 | leaf {b:Nat} {es:List TypeId} {u:U} {sv:SV} {ls:List LO} (hu:u.isSt=false) (h:OX b es [u] [sv] ls):O1 b es u sv ls
inductive Os:Nat→List TypeId→List U→List SV→List LO→Prop
 | nil {b:Nat}:Os b [] [] [] []
 | cons {b n:Nat} {es es1 es2:List TypeId} {u:U} {us:List U} {sv:SV} {svs:List SV} {ls ls1 ls2:List LO} (h:O1 b es1 u sv ls1) (hn:ls1.length=n) (h2:Os (b+n) es2 us svs ls2) (he:Jn es1 es2 es) (hl:Jn ls1 ls2 ls):Os b es (u::us) (sv::svs) ls
inductive OY:Nat→List TypeId→List U→SV→List LO→Prop
 | one {b:Nat} {es:List TypeId} {u:U} {sv:SV} {ls:List LO} (h:O1 b es u sv ls):OY b es [u] sv ls
 | tup {b:Nat} {es:List TypeId} {u u':U} {us:List U} {svs:List SV} {ls:List LO} (h:Os b es (u::u'::us) svs ls):OY b es (u::u'::us) (.tup svs) ls
inductive Ln {α:Type}:List α→Nat→Prop
 | z:Ln [] 0
 | s {a:α} {l:List α} {n:Nat} (h:Ln l n):Ln (a::l) (n+1)
theorem Ln.eq{α:Type}{l:List α}{n:Nat}(h:Ln l n):l.length=n:=by
 induction h with
 | z=>rfl
 | s h ih=>simp [ih]
inductive OXr:Nat→List TypeId→List U→List SV→List LO→List TypeId→Prop
 | nil {b:Nat} {es:List TypeId}:OXr b es [] [] [] es
 | sl {b e z:Nat} {es rs:List TypeId} {us r:List U} {cs:List SV} {ls:List LO} (h:OXr (b+1) es r cs ls rs):OXr b (e::es) (.sl z us::r) (.sl b 0::cs) (.own e z 0 us::ls) rs
 | i {b:Nat} {k:IntKind} {n:Int} {es rs:List TypeId} {r:List U} {cs:List SV} {ls:List LO} (h:OXr b es r cs ls rs):OXr b es (.i k n::r) (.d (.i k n)::cs) ls rs
 | b {b:Nat} {x:Bool} {es rs:List TypeId} {r:List U} {cs:List SV} {ls:List LO} (h:OXr b es r cs ls rs):OXr b es (.b x::r) (.d (.b x)::cs) ls rs
 | s {b:Nat} {l:LB} {es rs:List TypeId} {r:List U} {cs:List SV} {ls:List LO} (h:OXr b es r cs ls rs):OXr b es (.s l::r) (.d (.s l)::cs) ls rs
theorem OXr.ox{b:Nat}{es rs:List TypeId}{fl:List U}{cs:List SV}{ls:List LO}(h:OXr b es fl cs ls rs):∃e1,es=e1++rs∧OX b e1 fl cs ls:=by
 induction h with
 | nil=>exact⟨[],rfl,.nil⟩
 | @sl b e z es rs us r cs ls h ih=>obtain⟨e1,h1,h2⟩:=ih;exact⟨e::e1,by rw [h1];rfl,.sl h2⟩
 | i h ih=>obtain⟨e1,h1,h2⟩:=ih;exact⟨e1,h1,.i h2⟩
 | b h ih=>obtain⟨e1,h1,h2⟩:=ih;exact⟨e1,h1,.b h2⟩
 | s h ih=>obtain⟨e1,h1,h2⟩:=ih;exact⟨e1,h1,.s h2⟩
inductive O1r:Nat→List TypeId→U→SV→List LO→List TypeId→Prop
 | st {b:Nat} {es rs:List TypeId} {us fl:List U} {cs:List SV} {ls:List LO} (hl:Lvs us fl) (h:OXr b es fl cs ls rs):O1r b es (.st us) (.ag cs) ls rs
 | sl {b e z:Nat} {es:List TypeId} {us:List U}:O1r b (e::es) (.sl z us) (.sl b 0) [.own e z 0 us] es
 | i {b:Nat} {k:IntKind} {n:Int} {es:List TypeId}:O1r b es (.i k n) (.d (.i k n)) [] es
 | b {b:Nat} {x:Bool} {es:List TypeId}:O1r b es (.b x) (.d (.b x)) [] es
 | s {b:Nat} {l:LB} {es:List TypeId}:O1r b es (.s l) (.d (.s l)) [] es
theorem O1r.o1{b:Nat}{es rs:List TypeId}{u:U}{sv:SV}{ls:List LO}(h:O1r b es u sv ls rs):∃e1,es=e1++rs∧O1 b e1 u sv ls:=by
 cases h with
 | st hl h=>obtain⟨e1,h1,h2⟩:=h.ox;exact⟨e1,h1,.st hl h2⟩
 | @sl e z us=>exact⟨[e],rfl,.leaf rfl (.sl .nil)⟩
 | i=>exact⟨[],rfl,.leaf rfl (.i .nil)⟩
 | b=>exact⟨[],rfl,.leaf rfl (.b .nil)⟩
 | s=>exact⟨[],rfl,.leaf rfl (.s .nil)⟩
inductive Osr:Nat→List TypeId→List U→List SV→List LO→Prop
 | nil {b:Nat}:Osr b [] [] [] []
 | cons {b n:Nat} {es rs:List TypeId} {u:U} {us:List U} {sv:SV} {svs:List SV} {ls ls1 ls2:List LO} (h:O1r b es u sv ls1 rs) (hn:Ln ls1 n) (h2:Osr (b+n) rs us svs ls2) (hl:Jn ls1 ls2 ls):Osr b es (u::us) (sv::svs) ls
theorem Jn.mk{α:Type}:∀(x y:List α),Jn x y (x++y)
 | [],_=>.z
 | _::x,y=>.s (Jn.mk x y)
theorem Osr.os{b:Nat}{es:List TypeId}{us:List U}{svs:List SV}{ls:List LO}(h:Osr b es us svs ls):Os b es us svs ls:=by
 induction h with
 | nil=>exact .nil
 | cons h hn h2 hl ih=>
   obtain⟨e1,h3,h4⟩:=h.o1;subst h3;exact .cons h4 hn.eq ih (Jn.mk _ _) hl
inductive OYr:Nat→List TypeId→List U→SV→List LO→Prop
 | one {b:Nat} {es:List TypeId} {u:U} {sv:SV} {ls:List LO} (h:O1r b es u sv ls []):OYr b es [u] sv ls
 | tup {b:Nat} {es:List TypeId} {u u':U} {us:List U} {svs:List SV} {ls:List LO} (h:Osr b es (u::u'::us) svs ls):OYr b es (u::u'::us) (.tup svs) ls
theorem OYr.oy{b:Nat}{es:List TypeId}{us:List U}{sv:SV}{ls:List LO}(h:OYr b es us sv ls):OY b es us sv ls:=by
 cases h with
 | one h=>
   obtain⟨e1,h1,h2⟩:=h.o1;rw [List.append_nil] at h1;subst h1;exact .one h2
 | tup h=>exact .tup h.os
def mK(P:Program)(f:Nat)(args:List SV)(es:List TypeId)(us:List U):Prop:=Spec P f args [] (fun r L'=>OY 0 es us r L')
section
variable {S S':Nat→Prop}{L Lc:List LO}{env envc:List Value}{w:World}
theorem OX.own{b:Nat}{es:List TypeId}{fl:List U}{cs:List SV}{ls:List LO}(h:OX b es fl cs ls):∀o∈ls,∃e z us,o=.own e z 0 us:=by
 induction h with
 | nil=>intro o ho;cases ho
 | sl h ih=>intro o ho;rcases List.mem_cons.1 ho with rfl | ho;· exact⟨_,_,_,rfl⟩
            exact ih o ho
 | _ h ih=>exact ih
theorem O1.own{b:Nat}{es:List TypeId}{u:U}{sv:SV}{ls:List LO}(h:O1 b es u sv ls):∀o∈ls,∃e z us,o=.own e z 0 us:=by
 cases h with
 | st _ h=>exact h.own
 | leaf _ h=>exact h.own
theorem Os.own{b:Nat}{es:List TypeId}{us:List U}{svs:List SV}{ls:List LO}(h:Os b es us svs ls):∀o∈ls,∃e z us,o=.own e z 0 us:=by
 induction h with
 | nil=>intro o ho;cases ho
 | cons h hn h2 he hl ih=>
   intro o ho;rw [←hl.spec] at ho;rcases List.mem_append.1 ho with ho | ho
   ·exact h.own o ho
   ·exact ih o ho
theorem OY.own{b:Nat}{es:List TypeId}{us:List U}{sv:SV}{ls:List LO}(h:OY b es us sv ls):∀o∈ls,∃e z us,o=.own e z 0 us:=by
 cases h with
 | one h=>exact h.own
 | tup h=>exact h.own
theorem gF5{u:U}(hu:u.scal=true){v:Value}{L':List LO}{env':List Value}(h:SVr S L env w (.d u) v):SVr S' L' env' w (.d u) v:=by
 cases u with
 | i k n=>exact SVr.int.2 (SVr.int.1 h)
 | b x=>exact SVr.bool.2 (SVr.bool.1 h)
 | s l=>exact SVr.str.2 (SVr.str.1 h)
 | _=>cases hu
theorem hHx{m ver:Nat}{v:Value}(hlen:env.length=L.length)(h:SVr S Lc envc w (.sl m ver) v):SVr S' (L++Lc) (env++envc) w (.sl (L.length+m) ver) v:=by
 simp only [SVr] at h ⊢;obtain⟨hv,o,h1,h2,h3⟩:=h;refine⟨hv,o,?_,?_,h3⟩
 ·rw [List.getElem?_append_right (by omega),hlen,Nat.add_sub_cancel_left];exact h1
 ·rw [List.getElem?_append_right (by omega),Nat.add_sub_cancel_left];exact h2
theorem OX.shift(hlen:env.length=L.length){m:Nat}{es:List TypeId}{fl:List U}{cs:List SV}{ls:List LO}(h:OX m es fl cs ls):∀{n:Nat}{cs':List SV}{ls':List LO},n=L.length+m→OX n es fl cs' ls'→
  ls'=ls∧∀vs,kP S Lc envc w cs vs→kP S' (L++Lc) (env++envc) w cs' vs:=by
 induction h with
 | nil=>intro n cs' ls' _ h';cases h';exact⟨rfl,fun vs hv=>by cases vs<;>simp_all [kP]⟩
 | sl h ih=>
   intro n cs' ls' hn h';cases h' with
   | sl h'=>
     obtain⟨h1,h2⟩:=ih (by omega) h';refine⟨by rw [h1],fun vs hv=>?_⟩;cases vs with
     | nil=>simp [kP] at hv
     | cons v vs=>simp only [kP] at hv ⊢;subst hn;exact⟨hHx hlen hv.1,h2 vs hv.2⟩
 | i h ih=>
   intro n cs' ls' hn h';cases h' with
   | i h'=>
     obtain⟨h1,h2⟩:=ih hn h';refine⟨h1,fun vs hv=>?_⟩;cases vs with
     | nil=>simp [kP] at hv
     | cons v vs=>simp only [kP] at hv ⊢;exact⟨gF5 rfl hv.1,h2 vs hv.2⟩
 | b h ih=>
   intro n cs' ls' hn h';cases h' with
   | b h'=>
     obtain⟨h1,h2⟩:=ih hn h';refine⟨h1,fun vs hv=>?_⟩;cases vs with
     | nil=>simp [kP] at hv
     | cons v vs=>simp only [kP] at hv ⊢;exact⟨gF5 rfl hv.1,h2 vs hv.2⟩
 | s h ih=>
   intro n cs' ls' hn h';cases h' with
   | s h'=>
     obtain⟨h1,h2⟩:=ih hn h';refine⟨h1,fun vs hv=>?_⟩;cases vs with
     | nil=>simp [kP] at hv
     | cons v vs=>simp only [kP] at hv ⊢;exact⟨gF5 rfl hv.1,h2 vs hv.2⟩
theorem Lvs.inj{us a b:List U}(h:Lvs us a)(h':Lvs us b):a=b:=by rw [←h.eq,h'.eq]
theorem O1.shift(hlen:env.length=L.length){m n:Nat}{es:List TypeId}{u:U}{sv sv':SV}{ls ls':List LO}(hn:n=L.length+m)(h:O1 m es u sv ls)(h':O1 n es u sv' ls') :
  ls'=ls∧∀v,SVr S Lc envc w sv v→SVr S' (L++Lc) (env++envc) w sv' v:=by
 cases h with
 | st hl h=>
   cases h' with
   | st hl' h'=>
     obtain rfl:=hl.inj hl';obtain⟨h1,h2⟩:=OX.shift (S:=S) (S':=S') (Lc:=Lc) (envc:=envc) (w:=w) hlen h hn h';refine⟨h1,fun v hv=>?_⟩;simp only [SVr] at hv ⊢;obtain⟨vs,rfl,hv⟩:=hv;exact⟨vs,rfl,h2 vs hv⟩
   | leaf hu _=>cases hu
 | leaf hu h=>
   cases h' with
   | st hl' h'=>cases hu
   | leaf hu' h'=>
     obtain⟨h1,h2⟩:=OX.shift (S:=S) (S':=S') (Lc:=Lc) (envc:=envc) (w:=w) hlen h hn h';refine⟨h1,fun v hv=>?_⟩
     have:=h2 [v] (by simp only [kP];exact⟨hv,trivial⟩)
     simpa only [kP,and_true] using this
end
theorem OX.det{b:Nat}{es es':List TypeId}{fl:List U}{cs cs':List SV}{ls ls':List LO}{r r':List TypeId}(h:OX b es fl cs ls):∀{b':Nat} ,OX b' es' fl cs' ls'→es++r=es'++r'→es=es':=by
 induction h generalizing es' cs' ls' with
 | nil=>intro b' h' _;cases h';rfl
 | sl h ih=>intro b' h' he;cases h' with
   | sl h'=>simp only [List.cons_append,List.cons.injEq] at he;rw [he.1,ih h' he.2]
 | i h ih=>intro b' h' he;cases h' with | i h'=>exact ih h' he
 | b h ih=>intro b' h' he;cases h' with | b h'=>exact ih h' he
 | s h ih=>intro b' h' he;cases h' with | s h'=>exact ih h' he
section
variable {S S':Nat→Prop}{L Lc:List LO}{env envc:List Value}{w:World}
theorem O1.det{b b':Nat}{es es':List TypeId}{u:U}{sv sv':SV}{ls ls':List LO}{r r':List TypeId}(h:O1 b es u sv ls)(h':O1 b' es' u sv' ls')(he:es++r=es'++r'):es=es':=by
 cases h with
 | st hl h=>cases h' with
   | st hl' h'=>obtain rfl:=hl.inj hl';exact h.det h' he
   | leaf hu _=>cases hu
 | leaf hu h=>cases h' with
   | st _ _=>cases hu
   | leaf _ h'=>exact h.det h' he
theorem Os.shift(hlen:env.length=L.length){m:Nat}{es:List TypeId}{us:List U}{svs:List SV}{ls:List LO}(h:Os m es us svs ls):∀{n:Nat}{svs':List SV}{ls':List LO},n=L.length+m→Os n es us svs' ls'→
  ls'=ls∧∀vs,kP S Lc envc w svs vs→kP S' (L++Lc) (env++envc) w svs' vs:=by
 induction h with
 | nil=>intro n svs' ls' _ h';cases h';exact⟨rfl,fun vs hv=>by cases vs<;>simp_all [kP]⟩
 | cons h hn h2 he hl ih=>
   intro n svs' ls' hnn h';cases h' with
   | cons g gn g2 ge gl=>
     have e1:=he.spec;have e2:=ge.spec;have e3:=h.det g (e1.trans e2.symm);subst e3;have e4:=List.append_cancel_left (e1.trans e2.symm);subst e4;obtain⟨k1,k2⟩:=O1.shift (S:=S) (S':=S') (Lc:=Lc) (envc:=envc) (w:=w) hlen hnn h g;subst k1;obtain⟨k3,k4⟩:=ih (by omega) g2;subst k3;refine⟨by rw [←gl.spec,hl.spec],fun vs hv=>?_⟩;cases vs with
     | nil=>simp [kP] at hv
     | cons v vs=>simp only [kP] at hv ⊢;exact⟨k2 v hv.1,k4 vs hv.2⟩
theorem OY.shift(hlen:env.length=L.length){m n:Nat}{es:List TypeId}{us:List U}{sv sv':SV}{ls ls':List LO}(hn:n=L.length+m)(h:OY m es us sv ls)(h':OY n es us sv' ls') :
  ls'=ls∧∀v,SVr S Lc envc w sv v→SVr S' (L++Lc) (env++envc) w sv' v:=by
 cases h with
 | one h=>cases h' with
   | one h'=>exact O1.shift hlen hn h h'
 | tup h=>cases h' with
   | tup h'=>
     obtain⟨h1,h2⟩:=Os.shift (S:=S) (S':=S') (Lc:=Lc) (envc:=envc) (w:=w) hlen h hn h';refine⟨h1,fun v hv=>?_⟩;simp only [SVr] at hv ⊢;obtain⟨vs,rfl,hv⟩:=hv;exact⟨vs,rfl,h2 vs hv⟩
end
def LO.dat:LO→Option (Nat × Nat × List U)
 | .frz _ z v es=>some (z,v,es)
 | .arr _ z v es=>some (z,v,es)
 | .own _ z v es=>some (z,v,es)
 | _=>none
def WL(L:List LO):SV→U→Prop
 | .d u,u'=>u=u'
 | .nilsl,.sl _ us=>us=[]
 | .sl i ver,.sl z es=>(L[i]?).bind LO.dat=some (z,ver,es)
 | _,_=>False
def WLs(L:List LO):List SV→List U→Prop
 | [],[]=>True
 | sv::svs,u::us=>WL L sv u∧WLs L svs us
 | _,_=>False
def WD(L:List LO):SV→U→Prop
 | .ag cs,.st us=>WLs L cs (U.flats us)
 | sv,u=>WL L sv u
def WC(L:List LO):SV→SV→Prop
 | .fn f caps,.fn f' caps'=>f=f'∧VBs L caps caps'
 | sv,.d u=>WD L sv u
 | _,_=>False
def WCs(L:List LO):List SV→List SV→Prop
 | [],[]=>True
 | a::az,b::bs=>WC L a b∧WCs L az bs
 | _,_=>False
def gS2(S:Nat→Prop)(L:List LO)(env:List Value)(w:World)(b:Nat):Prop:=S b∨∃i,gT4 L env w i b
section
variable {A:Amb}{S:Nat→Prop}{L:List LO}{env:List Value}{w:World}
theorem WL.r(hH:pW A S L env w){sv:SV}{u:U}{v:Value}(h:WL L sv u)(hv:SVr S L env w sv v):SVr (gS2 S L env w) [] [] w (.d u) v:=by
 cases sv with
 | d u'=>have:u'=u:=h;subst this;exact SVr.bare _ _ rfl (SVr.more (fun b hb=>.inl hb) hv) _ _
 | nilsl=>
   cases u with
   | sl z us=>
     have:us=[]:=h
     subst this;simp only [SVr] at hv;subst hv;exact SVr.slice.2 ⟨by simp [yY],none,0,rfl,.inl rfl⟩
   | _=>exact h.elim
 | sl i ver=>
   cases u with
   | sl z us=>
     have h:(L[i]?).bind LO.dat=some (z,ver,us):=h;simp only [SVr] at hv;obtain⟨hv',o,k1,k2,k3,k5,k4⟩:=hv;rw [k2] at h;simp only [Option.bind_some] at h;have hob:=hH.objs i _ _ k2 k1;cases o with
     | frz e z' v' es'=>
       simp only [LO.dat,Option.some.injEq,Prod.mk.injEq] at h;obtain⟨rfl,rfl,rfl⟩:=h;rw [k4 rfl];simp only [SVr];exact RdV.mono (fun b hb _=>.inl hb) (fun _ _ _=>rfl) hob
     | own e z' v' es'=>
       simp only [LO.dat,Option.some.injEq,Prod.mk.injEq] at h;obtain⟨rfl,rfl,rfl⟩:=h;rw [k4 rfl];exact(SVr.leaf rfl).2 (Tr.rd _ _ (gRa hob) (fun b hb=>.inr ⟨i,_,_,k2,rfl,k1,hb⟩))
     | arr e z' v' es'=>
       simp only [LO.dat,Option.some.injEq,Prod.mk.injEq] at h;obtain⟨rfl,rfl,rfl⟩:=h;rw [k4 rfl];have hbk:∀b,blk hv'=some b→gS2 S L env w b:=fun b hb=>.inr ⟨i,_,_,k2,rfl,k1,hb⟩;obtain⟨hbg,hz,ys,m1,m2⟩:=hob;have hmono:Rds (gS2 S L env w) w es' ys:=Rds.mono (fun b hb _=>.inl hb) (fun _ _ _=>rfl) _ _ m2;simp only [SVr];rcases m1.2 with ⟨rfl,h0⟩ | ⟨g,cap,cur,rfl,hg0,hg,hnc,hcm,hcs,htake⟩
       ·have:es'=[]:=List.eq_nil_of_length_eq_zero h0
        subst this;exact⟨[_],rfl,by simp only [Rd];exact⟨hbg,none,0,rfl,.inl trivial⟩⟩
       ·refine⟨[.slice (some ⟨g,0,none⟩) es'.length cap],rfl,?_⟩;simp only [Rd];exact⟨hbg,_,cap - es'.length,by rw [Nat.add_sub_cancel' hnc],.inr ⟨g,0,rfl,hbk g rfl,RdE.of_Rds es' ys 0 hz hmono (gOt m1 rfl)⟩⟩
     | _=>simp [LO.dat] at h
   | _=>exact h.elim
 | _=>exact h.elim
theorem WLs.r(hH:pW A S L env w):∀{svs:List SV}{us:List U}{vs:List Value},(∀u∈us,u.isSt=false)→WLs L svs us→kP S L env w svs vs→yZ (fun u c=>Rd (gS2 S L env w) w u [c]) us vs
 | [],[],[],_,_,_=>trivial
 | sv::svs,u::us,v::vs,hu,h,hv=>by
   simp only [kP] at hv;exact⟨(SVr.leaf (hu u (by simp))).1 (WL.r hH h.1 hv.1),WLs.r hH (fun u hu'=>hu u (by simp [hu'])) h.2 hv.2⟩
 | [],_::_,_,_,h,_=>h.elim
 | _::_,[],_,_,h,_=>h.elim
 | [],[],_::_,_,_,h=>by simp [kP] at h
 | _::_,_::_,[],_,_,h=>by simp [kP] at h
theorem WD.r(hH:pW A S L env w){sv:SV}{u:U}{v:Value}(h:WD L sv u)(hv:SVr S L env w sv v):SVr (gS2 S L env w) [] [] w (.d u) v:=by
 cases sv with
 | ag cs=>
   cases u with
   | st us=>
     have h:WLs L cs (U.flats us):=h;simp only [SVr] at hv;obtain⟨vs,rfl,hv⟩:=hv
     have:=WLs.r hH (U.flats_leaf us) h hv
     simp only [SVr];refine⟨vs,rfl,?_⟩;simp only [Rd];exact Rds.of_leafs us vs this
   | _=>exact h.elim
 | d u'=>exact WL.r hH (show WL L (.d u') u by cases u<;>exact h) hv
 | nilsl=>exact WL.r hH (show WL L .nilsl u by cases u<;>exact h) hv
 | sl i ver=>exact WL.r hH (show WL L (.sl i ver) u by cases u<;>exact h) hv
 | junk=>cases u<;>exact h.elim
 | ptr i off=>cases u<;>exact h.elim
 | dp u=>cases u<;>exact h.elim
 | ep i ver z k off=>cases u<;>exact h.elim
 | fn f caps=>cases u<;>exact h.elim
 | tup vs=>cases u<;>exact h.elim
theorem gS3{b:Nat}(h:S b∨boxes L env b):gS2 S L env w b:=by
 rcases h with h | ⟨i,cs,hv,h1,h2,h3⟩
 ·exact .inl h
 ·exact .inr ⟨i,_,hv,h1,rfl,h2,h3⟩
theorem WC.r(hH:pW A S L env w){sv sv':SV}{v:Value}(h:WC L sv sv')(hv:SVr S L env w sv v):SVr (gS2 S L env w) [] [] w sv' v:=by
 cases sv' with
 | d u=>exact WD.r hH (show WD L sv u by cases sv<;>exact h) hv
 | fn f' caps'=>
   cases sv with
   | fn f caps=>
     obtain⟨rfl,h3⟩:=h;simp only [SVr] at hv ⊢;obtain⟨vs,rfl,h4⟩:=hv;refine⟨vs,rfl,?_⟩
     have:=VBs.r hH h3 h4
     exact kP.carry ⟨fun b hb _=>gS3 hb,fun _ _ _=>rfl,fun _ _ h=>h,fun _ _ _ h1 h2=>⟨_,_,h1,h2,Nat.le_refl _,fun _=>rfl⟩⟩ _ _ this
   | _=>exact h.elim
 | _=>cases sv<;>exact h.elim
theorem WCs.r(hH:pW A S L env w):∀{svs svs':List SV}{vs:List Value},WCs L svs svs'→kP S L env w svs vs→kP (gS2 S L env w) [] [] w svs' vs
 | [],[],[],_,_=>by simp [kP]
 | sv::svs,sv'::svs',v::vs,h,hv=>by
   simp only [kP] at hv ⊢;exact⟨WC.r hH h.1 hv.1,WCs.r hH h.2 hv.2⟩
 | [],_::_,_,h,_=>h.elim
 | _::_,[],_,h,_=>h.elim
 | [],[],_::_,_,h=>by simp [kP] at h
 | _::_,_::_,[],_,h=>by simp [kP] at h
theorem pW.lend(hH:pW A S L env w):pW ⟨w,gS2 S L env w,fun _=>False,[],[]⟩ (gS2 S L env w) [] [] w:=by
 refine⟨rfl,fun i o hv h=>by simp at h,fun i o hv b h=>by simp at h,fun i j o o' hv hv' b h=>by simp at h,?_,fun b hb=>.inl hb,fun _ _ _=>rfl,Nat.le_refl _,rfl,rfl,rfl,Base.nil rfl,hH.gok (fun _ h=>h.elim)⟩;rintro b (hb | ⟨i,o,hv,h1,h2,h3,h4⟩)
 ·exact hH.sS b hb
 ·exact(hH.excl i o hv b h1 h2 h3 h4).2.2
theorem pW.join(hH:pW A S L env w){S1 S':Nat→Prop}{Lc:List LO}{envc:List Value}{w':World}(hC:pW ⟨w,S1,fun _=>False,[],[]⟩ S' Lc envc w')(hown:∀o∈Lc,∃e z us,o=.own e z 0 us) :
  pW A S (L++Lc) (env++envc) w'∧Carry S L env w S (L++Lc) (env++envc) w':=by
 have hlen:=hH.len;have hold:∀b,b < w.heap.size→w'.heap[b]? =w.heap[b]? :=fun b hb=>hC.frame b hb (fun h=>h);have hfe:∀(i:Nat)(o':LO)(hv':Value),L[i]? =some o'→o'.live=true→env[i]? =some hv'→∀b,o'.ft w' hv' b→o'.ft w hv' b:=fun i o' hv' h1 hl h2 b hb'=>
  (LO.ft_eq (hH.objs i o' hv' h1 h2) (fun k hk=>hold k (hH.excl i o' hv' k h1 hl h2 hk).2.2) b).1 hb'
 have C:Carry S L env w S (L++Lc) (env++envc) w':=by
  refine⟨fun _ h _=>h,fun b _ hb=>hold b hb,fun i b hi=>?_,fun i hv' o' h1 h2=>?_⟩
  ·rw [List.getElem?_append_left (List.getElem?_eq_some_iff.1 hi).1];exact hi
  ·refine⟨hv',o',?_,?_,Nat.le_refl _,fun _=>rfl⟩
   ·rw [List.getElem?_append_left (List.getElem?_eq_some_iff.1 h1).1];exact h1
   ·rw [List.getElem?_append_left (List.getElem?_eq_some_iff.1 h2).1];exact h2
 have hsplit:∀(i:Nat)(o:LO)(hv:Value),(L++Lc)[i]? =some o→(env++envc)[i]? =some hv→(i < L.length∧L[i]? =some o∧env[i]? =some hv)∨(L.length≤i∧Lc[i - L.length]? =some o∧envc[i - L.length]? =some hv):=by
  intro i o hv h1 h2;by_cases hi:i < L.length
  ·rw [List.getElem?_append_left hi] at h1;rw [List.getElem?_append_left (by omega)] at h2;exact .inl ⟨hi,h1,h2⟩
  ·rw [List.getElem?_append_right (by omega)] at h1;rw [List.getElem?_append_right (by omega),hlen] at h2;exact .inr ⟨by omega,h1,h2⟩
 refine⟨⟨by simp [hlen,hC.len],?_,?_,?_,fun b hb=>Nat.lt_of_lt_of_le (hH.sS b hb) hC.size,hH.sA,fun b h1 h2=>?_,Nat.le_trans hH.size hC.size,hC.os.trans hH.os,hC.tape.trans hH.tape,hC.output.trans hH.output,hH.base.carry C hH.len (by simp),hH.glob⟩,C⟩
 ·intro i o hv h1 h2;rcases hsplit i o hv h1 h2 with ⟨_,k1,k2⟩ | ⟨_,k1,k2⟩
  ·exact gH2.carry C (fun b hl hb=>hold b (hH.excl i o hv b k1 hl k2 hb).2.2) (hH.objs i o hv k1 k2)
  ·obtain⟨e,z,us,rfl⟩:=hown o (List.mem_of_getElem? k1);exact hC.objs _ _ _ k1 k2
 ·intro i o hv b h1 hl h2 hb;rcases hsplit i o hv h1 h2 with ⟨_,k1,k2⟩ | ⟨_,k1,k2⟩
  ·have:=hH.excl i o hv b k1 hl k2 (hfe i o hv k1 hl k2 b hb)
   exact⟨this.1,this.2.1,Nat.lt_of_lt_of_le this.2.2 hC.size⟩
  ·have:=hC.excl _ o hv b k1 hl k2 hb
   have hge:w.heap.size≤b:=this.2.1.resolve_left (fun h=>h);exact⟨fun hs=>by have:=hH.sS b hs;omega,.inr (Nat.le_trans hH.size hge),this.2.2⟩
 ·intro i j o o' hv hv' b h1 h2 hl1 hl2 e1 e2 b1 b2;rcases hsplit i o hv h1 e1 with ⟨i1,k1,k2⟩ | ⟨i1,k1,k2⟩<;>rcases hsplit j o' hv' h2 e2 with ⟨j1,m1,m2⟩ | ⟨j1,m1,m2⟩
  ·exact hH.dist i j o o' hv hv' b k1 m1 hl1 hl2 k2 m2 (hfe _ _ _ k1 hl1 k2 _ b1) (hfe _ _ _ m1 hl2 m2 _ b2)
  ·have q1:=(hH.excl i o hv b k1 hl1 k2 (hfe _ _ _ k1 hl1 k2 _ b1)).2.2;have q2:=(hC.excl _ o' hv' b m1 hl2 m2 b2).2.1.resolve_left (fun h=>h);have q3:w.heap.size≤b:=q2;omega
  ·have q1:=(hH.excl j o' hv' b m1 hl2 m2 (hfe _ _ _ m1 hl2 m2 _ b2)).2.2;have q2:=(hC.excl _ o hv b k1 hl1 k2 b1).2.1.resolve_left (fun h=>h);have q3:w.heap.size≤b:=q2;omega
  ·have:=hC.dist _ _ o o' hv hv' b k1 m1 hl1 hl2 k2 m2 b1 b2
   omega
 ·rw [hold b (Nat.lt_of_lt_of_le h1 hH.size)];exact hH.frame b h1 h2
end
section
variable {P:Program}{A:Amb}{σ:St}{K:St→Prop}{ops:Array Oper}{rest:List Oper}
variable {t:Nat}{ty:TypeId}{pos:String}{af:Array Edge}{dst:Option Nat}{g:Option (Nat × Bool)}
theorem gY0{a:Act}{w:World}{f:Operand}{fi:Nat}{args:Array Operand}{at_:Array TypeId}(h1:a.eval f=.func (.func fi) #[] #[])(hc:hDf P fi) :
  (execOp a.eval ⟨dst,.call { callee:=.value f,args:=args,argTypes:=at_ },ty,pos,af,g⟩).run P w=.ok (.enter fi (args.toList.map a.eval).toArray) w:=by
 obtain⟨fn,c1,c2,c3⟩:=hc;have harr:args.map a.eval++(#[]:Array Value)=(args.toList.map a.eval).toArray:=by apply Array.ext';simp
 simp only [execOp,resolve,h1,Deferred.ofValue,Sem.run_bind,Sem.run_pure,Result.andThen_ok,invoke,callFunc,run_program,c1,c2,c3,Bool.false_eq_true,if_false,Array.empty_append,harr]
theorem gY1 {f:Operand}{fi:Nat}{args:Array Operand}{at_:Array TypeId}{dargs:List SV}{es:List TypeId}{us:List U}{fr:List (Nat × SV)}{L L' news:List LO}{N n:Nat}{sv:SV}(hf:(St.mk fr L N).ev f=.fn fi [])
  (hspec:mK P fi dargs es us) (hargs:WCs L (args.toList.map (St.mk fr L N).ev) dargs) (hn:Ln L n) (hy:OYr n es us sv news) (hj:Jn L news L') (ht:Nat.blt t N=true)
  (h:VO P A ops rest ⟨(t,sv)::fr,L',N⟩ K):VO P A ops (⟨some t,.call { callee:=.value f,args:=args,argTypes:=at_ },ty,pos,af,none⟩::rest) ⟨fr,L,N⟩ K:=by
 have hj':=hj.spec;have hn:=hn.eq;subst hj';subst hn;intro R hR a w ⟨S,env,hH,hfr,hN,hd⟩;refine wpList_plain rfl fun K' hK'=>?_;have h1:=mY.ev hfr hH f;rw [hf] at h1;simp only [SVr] at h1;obtain⟨cvs,h1,h2⟩:=h1;have h2':cvs=[]:=by cases cvs with
  | nil=>rfl
  | cons _ _=>simp [kP] at h2
 subst h2';have h3:kP S L env w (args.toList.map (St.mk fr L N).ev) (args.toList.map a.eval):=kP.evals (σ:=⟨fr,L,N⟩) _ fun x _=>mY.ev hfr hH x;have h5:=WCs.r hH hargs h3;obtain⟨hc,hs⟩:=hspec;unfold Oper.wp;rw [gY0 h1 hc];simp only [Oper.upon];refine(hs ⟨w,gS2 S L env w,fun _=>False,[],[]⟩ (gS2 S L env w) [] w _ rfl rfl rfl rfl hH.lend h5).mono ?_;rintro e w' ⟨r,sv',S',Lc,envc,rfl,hoy,hH',hr⟩;obtain⟨hj,C⟩:=hH.join hH' hoy.own;obtain⟨e1,e2⟩:=OY.shift (S:=S') (S':=S) (Lc:=Lc) (envc:=envc) (w:=w') hH.len (by rw [Nat.add_zero]) hoy hy.oy;subst e1;exact hK' _ _ (h R hR _ _ (uU (σ:=⟨fr,L,N⟩) hfr hN hd ht hj C (e2 r hr)))
theorem hDh {f:Operand}{fi:Nat}{args:Array Operand}{at_:Array TypeId}{dargs:List SV}{es:List TypeId}{us:List U}{fr:List (Nat × SV)}{L L' news:List LO}{N n:Nat}{sv:SV}(hf:(St.mk fr L N).ev f=.fn fi [])
  (hspec:mK P fi dargs es us) (hargs:WCs L (args.toList.map (St.mk fr L N).ev) dargs) (hn:Ln L n) (hy:OYr n es us sv news) (hj:Jn L news L') (ht:Nat.blt t N=true) :
  HSt P A ops ⟨fr,L,N⟩ ⟨some t,.call { callee:=.value f,args:=args,argTypes:=at_ },ty,pos,af,none⟩ sv L':=by
 intro fr' he K hK;refine gY1 (by rw [he f (by simp [Op.operands,Call.operands])];exact hf) hspec ?_ hn hy hj ht (gDc hK)
 have:args.toList.map (St.mk fr' L N).ev=args.toList.map (St.mk fr L N).ev:=List.map_congr_left fun x hx=>he x (by simp only [Op.operands,Call.operands];simp;exact .inr (by simpa using hx))
 rw [this];exact hargs
theorem hDi {f:Operand}{fi:Nat}{args:Array Operand}{at_:Array TypeId}{dargs:List SV}{u:U}(hf:σ.ev f=.fn fi [])
  (hspec:jI P fi dargs [u]) (hu:u.scal=true) (hargs:WCs σ.L (args.toList.map σ.ev) dargs) :
  Quiet P A σ ⟨dst,.call { callee:=.value f,args:=args,argTypes:=at_ },ty,pos,af,g⟩ (.d u):=by
 intro S env a w hH hx next R hn
 have h1:=hx f (by simp [Op.operands,Call.operands]);rw [hf] at h1;simp only [SVr] at h1;obtain⟨cvs,h1,h2⟩:=h1;have h2':cvs=[]:=by cases cvs with
  | nil=>rfl
  | cons _ _=>simp [kP] at h2
 subst h2';have h3:kP S σ.L env w (args.toList.map σ.ev) (args.toList.map a.eval):=kP.evals _ fun x hx'=>hx x (by simp [Op.operands,Call.operands];exact .inr (by simpa using hx'));have h5:=WCs.r hH hargs h3;obtain⟨hc,hs⟩:=hspec;unfold Oper.wp;rw [gY0 h1 hc];simp only [Oper.upon];refine(hs ⟨w,gS2 S σ.L env w,fun _=>False,[],[]⟩ (gS2 S σ.L env w) [] w _ rfl rfl rfl rfl hH.lend h5).mono ?_;rintro e w' ⟨r,sv',S',Lc,envc,rfl,⟨rfl,rfl⟩,hH',hr⟩;obtain⟨hj,C⟩:=hH.join hH' (fun o ho=>by cases ho);have henvc:envc=[]:=List.eq_nil_of_length_eq_zero (by simpa using hH'.len);subst henvc;simp only [List.append_nil] at hj C;exact hn r w' S hj C (gF5 hu hr)
end
end Go.Eng
