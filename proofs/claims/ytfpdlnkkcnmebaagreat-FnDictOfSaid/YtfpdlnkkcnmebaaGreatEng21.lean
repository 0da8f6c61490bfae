import Derived.Test.YtfpdlnkkcnmebaaGreatEng20
namespace Go.Eng
open Go Go.RowKit
inductive RP (L:List LO):List SV→List U→List TypeId→List (Option Nat)→Prop
 | nil:RP L [] [] [] []
 | sl {i ver e z:Nat} {us:List U} {svs:List SV} {fl:List U} {es:List TypeId} {ps:List (Option Nat)} (h:L[i]? =some (.own e z ver us)) (h2:RP L svs fl es ps):RP L (.sl i ver::svs) (.sl z us::fl) (e::es) (some i::ps)
 | nilsl {e z:Nat} {svs:List SV} {fl:List U} {es:List TypeId} {ps:List (Option Nat)} (h2:RP L svs fl es ps):RP L (.nilsl::svs) (.sl z []::fl) (e::es) (none::ps)
 | i {k:IntKind} {n:Int} {svs:List SV} {fl:List U} {es:List TypeId} {ps:List (Option Nat)} (h2:RP L svs fl es ps):RP L (.d (.i k n)::svs) (.i k n::fl) es ps
 | b {x:Bool} {svs:List SV} {fl:List U} {es:List TypeId} {ps:List (Option Nat)} (h2:RP L svs fl es ps):RP L (.d (.b x)::svs) (.b x::fl) es ps
 | s {l:LB} {svs:List SV} {fl:List U} {es:List TypeId} {ps:List (Option Nat)} (h2:RP L svs fl es ps):RP L (.d (.s l)::svs) (.s l::fl) es ps
inductive R1 (L:List LO):SV→U→List TypeId→List (Option Nat)→Prop
 | ag {cs:List SV} {us fl:List U} {es:List TypeId} {ps:List (Option Nat)} (hl:Lvs us fl) (h:RP L cs fl es ps):R1 L (.ag cs) (.st us) es ps
 | leaf {sv:SV} {u:U} {es:List TypeId} {ps:List (Option Nat)} (hu:u.isSt=false) (h:RP L [sv] [u] es ps):R1 L sv u es ps
inductive ROs (P:Program)(σ:St):List ResultVar→List U→List TypeId→List (Option Nat)→Prop
 | nil:ROs P σ [] [] [] []
 | cons {r:ResultVar} {rs:List ResultVar} {u:U} {us:List U} {sv:SV} {es es1 es2:List TypeId} {ps ps1 ps2:List (Option Nat)} (hr:hAg P σ r sv) (ho:R1 σ.L sv u es1 ps1) (h:ROs P σ rs us es2 ps2) (he:Jn es1 es2 es) (hp:Jn ps1 ps2 ps):ROs P σ (r::rs) (u::us) es ps
inductive PK (L:List LO)(env:List Value):List (Option Nat)→List LO→List Value→Prop
 | nil:PK L env [] [] []
 | sm {i e z ver:Nat} {us:List U} {hv:Value} {ps:List (Option Nat)} {ls:List LO} {hvs:List Value} (h:L[i]? =some (.own e z ver us)) (he:env[i]? =some hv) (r:PK L env ps ls hvs):PK L env (some i::ps) (.own e z 0 us::ls) (hv::hvs)
 | nn {e z:Nat} {ps:List (Option Nat)} {ls:List LO} {hvs:List Value} (r:PK L env ps ls hvs):PK L env (none::ps) (.own e z 0 []::ls) (.slice none 0 0::hvs)
section
variable {P:Program}{A:Amb}{S:Nat→Prop}{L:List LO}{env:List Value}{w:World}
theorem PK.append{ps ps':List (Option Nat)}{ls ls':List LO}{hvs hvs':List Value}(h:PK L env ps ls hvs)(h':PK L env ps' ls' hvs'):PK L env (ps++ps') (ls++ls') (hvs++hvs'):=by
 induction h with
 | nil=>exact h'
 | sm h he r ih=>exact .sm h he ih
 | nn r ih=>exact .nn ih
theorem PK.len{ps:List (Option Nat)}{ls:List LO}{hvs:List Value}(h:PK L env ps ls hvs):hvs.length=ls.length:=by
 induction h with
 | nil=>rfl
 | sm h he r ih=>simp [ih]
 | nn r ih=>simp [ih]
theorem PK.get{ps:List (Option Nat)}{ls:List LO}{hvs:List Value}(h:PK L env ps ls hvs):∀(j:Nat)(o:LO)(hv:Value),ls[j]? =some o→hvs[j]? =some hv→
  (∃i e z ver us,ps[j]? =some (some i)∧L[i]? =some (.own e z ver us)∧env[i]? =some hv∧o=.own e z 0 us)∨(∃e z,o=.own e z 0 []∧hv=.slice none 0 0):=by
 induction h with
 | nil=>intro j o hv h;simp at h
 | @sm i e z ver us hv0 ps ls hvs h he r ih=>
   intro j o hv h1 h2;cases j with
   | zero=>simp at h1 h2;subst h1;subst h2;exact .inl ⟨i,e,z,ver,us,rfl,h,he,rfl⟩
   | succ j=>simp only [List.getElem?_cons_succ] at h1 h2 ⊢;exact ih j o hv h1 h2
 | @nn e z ps ls hvs r ih=>
   intro j o hv h1 h2;cases j with
   | zero=>simp at h1 h2;subst h1;subst h2;exact .inr ⟨e,z,rfl,rfl⟩
   | succ j=>simp only [List.getElem?_cons_succ] at h1 h2 ⊢;exact ih j o hv h1 h2
theorem gS4:∀(ps:List (Option Nat))(j j' i:Nat),(ps.filterMap id).Nodup→ps[j]? =some (some i)→ps[j']? =some (some i)→j=j'
 | [],j,_,_,_,h,_=>by simp at h
 | p::ps,0,0,_,_,_,_=>rfl
 | p::ps,0,j'+1,i,hn,h,h'=>by
   simp at h;subst h;simp only [List.filterMap_cons,id_eq,List.nodup_cons] at hn;exact absurd (show i∈ps.filterMap id from List.mem_filterMap.2 ⟨some i,List.mem_of_getElem? (by simpa using h'),rfl⟩) hn.1
 | p::ps,j+1,0,i,hn,h,h'=>by
   simp at h';subst h';simp only [List.filterMap_cons,id_eq,List.nodup_cons] at hn;exact absurd (show i∈ps.filterMap id from List.mem_filterMap.2 ⟨some i,List.mem_of_getElem? (by simpa using h),rfl⟩) hn.1
 | p::ps,j+1,j'+1,i,hn,h,h'=>by
   have hn':(ps.filterMap id).Nodup:=by
    cases p with
    | none=>simpa [List.filterMap_cons] using hn
    | some q=>simp only [List.filterMap_cons,id_eq,List.nodup_cons] at hn;exact hn.2
   rw [gS4 ps j j' i hn' (by simpa using h) (by simpa using h')]
theorem gW7(e z v:Nat):gH2 S L env w (.own e z v []) (.slice none 0 0):=by
 obtain⟨_,k2⟩:=Tr.nil w z;exact⟨by simp [yY],by simp,⟨[],World.ownsRow_nil w 0 e z,by simp [Trs]⟩,by rw [k2];exact List.nodup_nil⟩
theorem PK.heap(hH:pW A S L env w){ps:List (Option Nat)}{ls:List LO}{hvs:List Value}(h:PK L env ps ls hvs)(hn:(ps.filterMap id).Nodup)(h0:A.L0=[]):pW A S ls hvs w:=by
 have nft:∀e z b,(LO.own e z 0 []).ft w (.slice none 0 0) b→False:=fun e z b hb=>by
  simp only [LO.ft] at hb;rw [(Tr.nil w z).2] at hb;cases hb
 refine⟨h.len,?_,?_,?_,hH.sS,hH.sA,hH.frame,hH.size,hH.os,hH.tape,hH.output,Base.nil h0,hH.glob⟩
 ·intro i o hv h1 h2;rcases h.get i o hv h1 h2 with ⟨k,e,z,ver,us,_,k2,k3,rfl⟩ | ⟨e,z,rfl,rfl⟩
  ·exact hH.objs k _ hv k2 k3
  ·exact gW7 e z 0
 ·intro i o hv b h1 hl h2 hb;rcases h.get i o hv h1 h2 with ⟨k,e,z,ver,us,_,k2,k3,rfl⟩ | ⟨e,z,rfl,rfl⟩
  ·exact hH.excl k (.own e z ver us) hv b k2 rfl k3 hb
  ·exact(nft e z b hb).elim
 ·intro i j o o' hv hv' b h1 h2 hl1 hl2 e1 e2 b1 b2;rcases h.get i o hv h1 e1 with ⟨k,e,z,ver,us,k1,k2,k3,rfl⟩ | ⟨e,z,rfl,rfl⟩
  ·rcases h.get j o' hv' h2 e2 with ⟨k',e',z',ver',us',k1',k2',k3',rfl⟩ | ⟨e',z',rfl,rfl⟩
   ·have:=hH.dist k k' (.own e z ver us) (.own e' z' ver' us') hv hv' b k2 k2' rfl rfl k3 k3' b1 b2
    subst this;exact gS4 ps i j k hn k1 k1'
   ·exact(nft e' z' b b2).elim
  ·exact(nft e z b b1).elim
theorem RP.r{svs:List SV}{fl:List U}{es:List TypeId}{ps:List (Option Nat)}(h:RP L svs fl es ps):∀(vs:List Value)(m:Nat),kP S L env w svs vs→
  ∃cs ls hvs,OX m es fl cs ls∧PK L env ps ls hvs∧∀(Lp Ls:List LO)(ep eq:List Value),Lp.length=m→ep.length=m→kP S (Lp++ls++Ls) (ep++hvs++eq) w cs vs:=by
 induction h with
 | nil=>
   intro vs m hv;cases vs with
   | nil=>exact⟨[],[],[],.nil,.nil,fun _ _ _ _ _ _=>by simp [kP]⟩
   | cons _ _=>simp [kP] at hv
 | @sl i ver e z us svs fl es ps h h2 ih=>
   intro vs m hv;cases vs with
   | nil=>simp [kP] at hv
   | cons v vs=>
     simp only [kP] at hv;obtain⟨cs,ls,hvs,k1,k2,k3⟩:=ih vs (m+1) hv.2;have h0:=hv.1;simp only [SVr] at h0;obtain⟨hv',o,q1,q2,q3,q5,q4⟩:=h0;rw [h] at q2;obtain rfl:=Option.some.inj q2;have q6:=q4 rfl;subst q6;refine⟨.sl m 0::cs,.own e z 0 us::ls,v::hvs,.sl k1,.sm h q1 k2,fun Lp Ls ep eq hl1 hl2=>?_⟩;simp only [kP];refine⟨?_,?_⟩
     ·simp only [SVr];refine⟨v,.own e z 0 us,?_,?_,Nat.le_refl _,q5,fun _=>rfl⟩
      ·rw [List.append_assoc,List.getElem?_append_right (by omega),hl2];simp
      ·rw [List.append_assoc,List.getElem?_append_right (by omega),hl1];simp
     ·have:=k3 (Lp++[.own e z 0 us]) Ls (ep++[v]) eq (by simp [hl1]) (by simp [hl2])
      simpa using this
 | @nilsl e z svs fl es ps h2 ih=>
   intro vs m hv;cases vs with
   | nil=>simp [kP] at hv
   | cons v vs=>
     simp only [kP] at hv;obtain⟨cs,ls,hvs,k1,k2,k3⟩:=ih vs (m+1) hv.2;have h0:=hv.1;simp only [SVr] at h0;subst h0;refine⟨.sl m 0::cs,.own e z 0 []::ls,.slice none 0 0::hvs,.sl k1,.nn k2,fun Lp Ls ep eq hl1 hl2=>?_⟩;simp only [kP];refine⟨?_,?_⟩
     ·simp only [SVr];refine⟨.slice none 0 0,.own e z 0 [],?_,?_,Nat.le_refl _,rfl,fun _=>rfl⟩
      ·rw [List.append_assoc,List.getElem?_append_right (by omega),hl2];simp
      ·rw [List.append_assoc,List.getElem?_append_right (by omega),hl1];simp
     ·have:=k3 (Lp++[.own e z 0 []]) Ls (ep++[.slice none 0 0]) eq (by simp [hl1]) (by simp [hl2])
      simpa using this
 | i h2 ih=>
   intro vs m hv;cases vs with
   | nil=>simp [kP] at hv
   | cons v vs=>
     simp only [kP] at hv;obtain⟨cs,ls,hvs,k1,k2,k3⟩:=ih vs m hv.2;refine⟨_,ls,hvs,.i k1,k2,fun Lp Ls ep eq hl1 hl2=>?_⟩;simp only [kP];exact⟨gF5 rfl hv.1,k3 Lp Ls ep eq hl1 hl2⟩
 | b h2 ih=>
   intro vs m hv;cases vs with
   | nil=>simp [kP] at hv
   | cons v vs=>
     simp only [kP] at hv;obtain⟨cs,ls,hvs,k1,k2,k3⟩:=ih vs m hv.2;refine⟨_,ls,hvs,.b k1,k2,fun Lp Ls ep eq hl1 hl2=>?_⟩;simp only [kP];exact⟨gF5 rfl hv.1,k3 Lp Ls ep eq hl1 hl2⟩
 | s h2 ih=>
   intro vs m hv;cases vs with
   | nil=>simp [kP] at hv
   | cons v vs=>
     simp only [kP] at hv;obtain⟨cs,ls,hvs,k1,k2,k3⟩:=ih vs m hv.2;refine⟨_,ls,hvs,.s k1,k2,fun Lp Ls ep eq hl1 hl2=>?_⟩;simp only [kP];exact⟨gF5 rfl hv.1,k3 Lp Ls ep eq hl1 hl2⟩
theorem R1.r{sv:SV}{u:U}{es:List TypeId}{ps:List (Option Nat)}(h:R1 L sv u es ps)(v:Value)(m:Nat)(hv:SVr S L env w sv v) :
  ∃sv' ls hvs,O1 m es u sv' ls∧PK L env ps ls hvs∧∀(Lp Ls:List LO)(ep eq:List Value),Lp.length=m→ep.length=m→SVr S (Lp++ls++Ls) (ep++hvs++eq) w sv' v:=by
 cases h with
 | ag hl h=>
   simp only [SVr] at hv;obtain⟨vs,rfl,hv⟩:=hv;obtain⟨cs,ls,hvs,k1,k2,k3⟩:=h.r vs m hv;refine⟨.ag cs,ls,hvs,.st hl k1,k2,fun Lp Ls ep eq hl1 hl2=>?_⟩;simp only [SVr];exact⟨vs,rfl,k3 Lp Ls ep eq hl1 hl2⟩
 | leaf hu h=>
   obtain⟨cs,ls,hvs,k1,k2,k3⟩:=h.r [v] m (by simp only [kP];exact⟨hv,trivial⟩);have k4:=k3 (List.replicate m default) [] (List.replicate m default) [] (by simp) (by simp)
   match cs,k4 with
   | [c],_=>
     refine⟨c,ls,hvs,.leaf hu k1,k2,fun Lp Ls ep eq hl1 hl2=>?_⟩
     have:=k3 Lp Ls ep eq hl1 hl2
     simpa only [kP,and_true] using this
   | [],k4=>simp [kP] at k4
   | _::_::_,k4=>simp [kP] at k4
theorem ROs.run{σ:St}{a:Act}(hH:pW A S σ.L env w)(hf:∀t,SVr S σ.L env w (look σ.fr t) (a.tmps.getD t undef)){rs:List ResultVar}{us:List U}{es:List TypeId}{ps:List (Option Nat)}(h:ROs P σ rs us es ps) :
  ∀(m:Nat),∃vs svs ls hvs,(rs.mapM (hMa a.tmps)).run P w=.ok vs w∧Os m es us svs ls∧PK σ.L env ps ls hvs∧∀(Lp Ls:List LO)(ep eq:List Value),Lp.length=m→ep.length=m→kP S (Lp++ls++Ls) (ep++hvs++eq) w svs vs:=by
 induction h with
 | nil=>intro m;exact⟨[],[],[],[],by simp,.nil,.nil,fun _ _ _ _ _ _=>by simp [kP]⟩
 | @cons r rs u us sv es es1 es2 ps ps1 ps2 hr ho h he hp ih=>
   intro m;obtain⟨v,k1,k2⟩:=hAg.run hH hf hr;obtain⟨sv',ls1,hvs1,o1,o2,o3⟩:=ho.r v m k2;obtain⟨vs,svs,ls,hvs,q1,q2,q3,q4⟩:=ih (m+ls1.length);have jn:∀{α:Type}(x y:List α),Jn x y (x++y):=fun x y=>by
    induction x with
    | nil=>exact .z
    | cons a x ih=>exact .s ih
   refine⟨v::vs,sv'::svs,ls1++ls,hvs1++hvs,?_,.cons o1 rfl q2 he (jn _ _),by rw [←hp.spec];exact o2.append q3,fun Lp Ls ep eq hl1 hl2=>?_⟩
   ·simp only [List.mapM_cons,Sem.run_bind];rw [k1];simp only [Result.andThen_ok];rw [q1];rfl
   ·simp only [kP];refine⟨?_,?_⟩
    ·have:=o3 Lp (ls++Ls) ep (hvs++eq) hl1 hl2
     simpa [List.append_assoc] using this
    ·have:=q4 (Lp++ls1) Ls (ep++hvs1) eq (by simp [hl1]) (by simp [hl2,o2.len])
     simpa [List.append_assoc] using this
end
section
variable {P:Program}
def qA(P:Program)(fn:Func)(es:List TypeId)(us:List U)(e:Exit)(σ:St):Prop:=(match e with | .normal=>True | .ret=>True | _=>False)∧∃ps,ROs P σ fn.results.toList us es ps∧decide ((ps.filterMap id).Nodup)=true
theorem qB {f:Nat}{fn:Func}{c:Code}{args:List SV}{es:List TypeId}{us:List U}(hf:P.funcs[f]? =some fn)(hb:fn.body=some c)(hname:(fn.name== "runtime.NumGoroutine")=false)
  (hn:Nat.ble args.length fn.ntmps=true) (hus:us≠[]) (h:∀A [gDv A 0],V P A c ⟨gLa 0 args,[],fn.ntmps⟩ (qA P fn es us)):mK P f args es us:=by
 refine⟨⟨fn,hf,hname,by rw [hb];rfl⟩,?_⟩;intro A S env w vs hw hS hA0 he hH hargs;have hb0:gDv A 0:=⟨by rw [hA0];rfl⟩
 have hlen:=kP.length hargs;have henv:env=[]:=List.eq_nil_of_length_eq_zero (by simpa using hH.len);subst henv;have hn':=Nat.le_of_ble_eq_true hn;refine calls_of_wp hf hb ?_;refine wp_mono (h A _ w ⟨S,[],hH,fun t=>?_,?_,rfl⟩) ?_
 ·have:=gH8 args vs 0 [] (List.replicate (fn.ntmps - vs.length) undef) rfl hargs t
  have e:vs.toArray++Array.replicate (fn.ntmps - vs.toArray.size) undef=([]++vs++List.replicate (fn.ntmps - vs.length) undef).toArray:=by apply Array.ext';simp
  rw [e];exact this
 ·simp;omega
 ·rintro e a' w' ⟨σ',⟨he,ps,hres,hnd⟩,S',env',hH',hf',hN',hd'⟩;obtain⟨rvs,svs,ls,hvs,k1,k2,k3,k4⟩:=hres.run hH' hf' 0;have hrun:(results fn a'.tmps).run P w'=.ok (if h:rvs.toArray.size=1 then rvs.toArray[0] else .tuple rvs.toArray) w':=by
   rw [gOo];simp only [Sem.run_bind];rw [←Array.toArray_toList (xs:=fn.results)];simp only [List.mapM_toArray,Sem.run_map];rw [k1];rfl
  have k5:=k4 [] [] [] [] rfl rfl;simp only [List.nil_append,List.append_nil] at k5;have hl:=kP.length k5;have fin:∃r sv S'' L' env'',(Ending.returned (if h:rvs.toArray.size=1 then rvs.toArray[0] else .tuple rvs.toArray))=.returned r∧OY 0 es us sv L'∧pW A S'' L' env'' w'∧SVr S'' L' env'' w' sv r:=by
   have hheap:=k3.heap hH' (of_decide_eq_true hnd) hA0
   match us,svs,rvs,k2,k5,hl,hus with
   | [u],[sv],[v],k2,k5,_,_=>
     refine⟨_,sv,S',ls,hvs,rfl,?_,hheap,?_⟩
     ·cases k2 with
      | cons h1 hn h2 he hl=>
        cases h2;have e1:=he.spec;have e2:=hl.spec;simp only [List.append_nil] at e1 e2;subst e1;subst e2;exact .one h1
     ·simpa [kP] using k5
   | u::u'::us,sv::sv'::svs,v::v'::rvs,k2,k5,_,_=>
     refine⟨_,.tup (sv::sv'::svs),S',ls,hvs,rfl,.tup k2,hheap,?_⟩;simp only [SVr];exact⟨v::v'::rvs,by simp,k5⟩
   | [_],_::_::_,_,k2,_,_,_=>cases k2 with | cons _ _ h2 _ _=>cases h2
   | _::_::_,[_],_,k2,_,_,_=>cases k2 with | cons _ _ h2 _ _=>cases h2
   | [_],[_],[],_,_,hl,_=>simp at hl
   | [_],[_],_::_::_,_,_,hl,_=>simp at hl
   | _::_::_,_::_::_,[],_,_,hl,_=>simp at hl
   | _::_::_,_::_::_,[_],_,_,hl,_=>simp at hl
  cases e with
  | normal=>exact⟨hd',_,hrun,fin⟩
  | ret=>exact⟨hd',_,hrun,fin⟩
  | exit id=>exact he.elim
  | goto l=>exact he.elim
  | panic c=>exact he.elim
  | outgrown=>exact he.elim
theorem OX.wl{L:List LO}{b:Nat}{es:List TypeId}{fl:List U}{cs:List SV}{ls:List LO}(h:OX b es fl cs ls):(∀k o,ls[k]? =some o→L[b+k]? =some o)→WLs L cs fl:=by
 induction h with
 | nil=>intro _;trivial
 | sl h ih=>
   intro hL;refine⟨?_,ih fun k o hk=>by have:=hL (k+1) o (by simpa using hk);rwa [←Nat.add_assoc,Nat.add_right_comm] at this⟩
   have:=hL 0 _ rfl
   simp only [WL];rw [Nat.add_zero] at this;rw [this];rfl
 | i h ih=>intro hL;exact⟨rfl,ih hL⟩
 | b h ih=>intro hL;exact⟨rfl,ih hL⟩
 | s h ih=>intro hL;exact⟨rfl,ih hL⟩
theorem O1.wd{L:List LO}{b:Nat}{es:List TypeId}{u:U}{sv:SV}{ls:List LO}(h:O1 b es u sv ls)(hL:∀k o,ls[k]? =some o→L[b+k]? =some o):WD L sv u:=by
 cases h with
 | st hl h=>have:=hl.eq;subst this;exact h.wl hL
 | leaf hu h=>
   have:=(h.wl hL).1
   cases sv<;>cases u<;>first | exact this | cases hu
theorem Os.wd{A:Amb}{S:Nat→Prop}{L:List LO}{env:List Value}{w:World}(hH:pW A S L env w){b:Nat}{es:List TypeId}{us:List U}{svs:List SV}{ls:List LO}(h:Os b es us svs ls):(∀k o,ls[k]? =some o→L[b+k]? =some o)→
  ∀vs,kP S L env w svs vs→kP (gS2 S L env w) [] [] w (us.map .d) vs:=by
 induction h with
 | nil=>intro _ vs hv;cases vs<;>simp_all [kP]
 | @cons b n es es1 es2 u us sv svs ls ls1 ls2 h hn h2 he hl ih=>
   intro hL vs hv;cases vs with
   | nil=>simp [kP] at hv
   | cons v vs=>
     simp only [kP,List.map_cons] at hv ⊢;rw [←hl.spec] at hL;refine⟨WD.r hH (h.wd fun k o hk=>hL k o (by rw [List.getElem?_append_left (List.getElem?_eq_some_iff.1 hk).1];exact hk)) hv.1,ih (fun k o hk=>?_) vs hv.2⟩
     have:=hL (ls1.length+k) o (by rw [List.getElem?_append_right (by omega),Nat.add_sub_cancel_left];exact hk)
     rw [←hn,Nat.add_assoc];exact this
theorem mK.p{f:Nat}{args:List SV}{es:List TypeId}{us:List U}(h:mK P f args es us):jI P f args us:=by
 refine⟨h.1,fun A S env w vs hw hS hl he hH hargs=>(h.2 A S env w vs hw hS hl he hH hargs).mono ?_⟩;rintro e w' ⟨r,sv,S',L',env',rfl,hoy,hH',hr⟩;refine⟨r,mkR us,gS2 S' L' env' w',[],[],rfl,⟨rfl,rfl⟩,⟨rfl,fun i o hv h=>by simp at h,fun i o hv b h=>by simp at h,fun i j o o' hv hv' b h=>by simp at h,?_,?_,hH'.frame,hH'.size,hH'.os,hH'.tape,hH'.output,Base.nil hl,hH'.glob⟩,?_⟩
 ·rintro b (hb | ⟨i,o,hv,h1,h2,h3,h4⟩)
  ·exact hH'.sS b hb
  ·exact(hH'.excl i o hv b h1 h2 h3 h4).2.2
 ·rintro b (hb | ⟨i,o,hv,h1,h2,h3,h4⟩)
  ·exact hH'.sA b hb
  ·exact .inr (hH'.excl i o hv b h1 h2 h3 h4).2.1
 ·cases hoy with
  | one h=>exact WD.r hH' (h.wd fun k o hk=>by simpa using hk) hr
  | tup h=>
    simp only [SVr] at hr;obtain⟨vs,rfl,hr⟩:=hr;simp only [mkR,SVr];exact⟨vs,rfl,h.wd hH' (fun k o hk=>by simpa using hk) vs hr⟩
end
end Go.Eng
