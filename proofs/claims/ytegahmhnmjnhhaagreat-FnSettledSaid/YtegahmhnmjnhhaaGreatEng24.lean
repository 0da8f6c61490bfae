import Derived.Test.YtegahmhnmjnhhaaGreatEng20
namespace Go.Eng
open Go Go.RowKit
inductive RP (L:List LO):List SV→List U→List TypeId→List (Option Nat)→Prop
 | nil:RP L [] [] [] []
 | sl {i ver e z:Nat} {us:List U} {svs:List SV} {fl:List U} {es:List TypeId} {ps:List (Option Nat)} (h:L[i]? =some (.own e z ver us)) (h2:RP L svs fl es ps):RP L (.sl i ver::svs) (.sl z us::fl) (e::es) (some i::ps)
 | nilsl {e z:Nat} {svs:List SV} {fl:List U} {es:List TypeId} {ps:List (Option Nat)} (h2:RP L svs fl es ps):RP L (.nilsl::svs) (.sl z []::fl) (e::es) (none::ps)
 | i {k:IntKind} {n:Int} {svs:List SV} {fl:List U} {es:List TypeId} {ps:List (Option Nat)} (h2:RP L svs fl es ps):RP L (.d (.i k n)::svs) (.i k n::fl) es ps
 | b {x:Bool} {svs:List SV} {fl:List U} {es:List TypeId} {ps:List (Option Nat)} (h2:RP L svs fl es ps):RP L (.d (.b x)::svs) (.b x::fl) es ps
 | s {l:List UInt8} {svs:List SV} {fl:List U} {es:List TypeId} {ps:List (Option Nat)} (h2:RP L svs fl es ps):RP L (.d (.s l)::svs) (.s l::fl) es ps
inductive R1 (L:List LO):SV→U→List TypeId→List (Option Nat)→Prop
 | ag {cs:List SV} {us fl:List U} {es:List TypeId} {ps:List (Option Nat)} (hl:Lvs us fl) (h:RP L cs fl es ps):R1 L (.ag cs) (.st us) es ps
 | leaf {sv:SV} {u:U} {es:List TypeId} {ps:List (Option Nat)} (hu:u.isSt=false) (h:RP L [sv] [u] es ps):R1 L sv u es ps
inductive ROs (P:Program) (σ:St):List ResultVar→List U→List TypeId→List (Option Nat)→Prop
 | nil:ROs P σ [] [] [] []
 | cons {r:ResultVar} {rs:List ResultVar} {u:U} {us:List U} {sv:SV} {es es1 es2:List TypeId} {ps ps1 ps2:List (Option Nat)} (hr:hEs P σ r sv) (ho:R1 σ.L sv u es1 ps1) (h:ROs P σ rs us es2 ps2) (he:Jn es1 es2 es) (hp:Jn ps1 ps2 ps):ROs P σ (r::rs) (u::us) es ps
inductive PK (L:List LO) (env:List Value):List (Option Nat)→List LO→List Value→Prop
 | nil:PK L env [] [] []
 | sm {i e z ver:Nat} {us:List U} {hv:Value} {ps:List (Option Nat)} {ls:List LO} {hvs:List Value} (h:L[i]? =some (.own e z ver us)) (he:env[i]? =some hv) (r:PK L env ps ls hvs):PK L env (some i::ps) (.own e z 0 us::ls) (hv::hvs)
 | nn {e z:Nat} {ps:List (Option Nat)} {ls:List LO} {hvs:List Value} (r:PK L env ps ls hvs):PK L env (none::ps) (.own e z 0 []::ls) (.slice none 0 0::hvs)
section
variable {P:Program} {A:Amb} {S:Nat→Prop} {L:List LO} {env:List Value} {w:World}
theorem PK.append{ps ps':List (Option Nat)}{ls ls':List LO}{hvs hvs':List Value}(h:PK L env ps ls hvs)(h':PK L env ps' ls' hvs'):PK L env (ps++ps') (ls++ls') (hvs++hvs'):=by
 induction h with
 | nil=>exact h'
 | sm h he r ih=>exact .sm h he ih
 | nn r ih=>exact .nn ih
theorem PK.len{ps:List (Option Nat)}{ls:List LO}{hvs:List Value}(h:PK L env ps ls hvs):hvs.length=ls.length:=by
 induction h with
 | nil=>rfl
 | sm h he r ih=>simp [ih]
 | nn r ih=>simp [ih]
theorem PK.get{ps:List (Option Nat)}{ls:List LO}{hvs:List Value}(h:PK L env ps ls hvs):∀(j:Nat) (o:LO) (hv:Value),ls[j]? =some o→hvs[j]? =some hv→
  (∃i e z ver us,ps[j]? =some (some i)∧L[i]? =some (.own e z ver us)∧env[i]? =some hv∧o=.own e z 0 us)∨(∃e z,o=.own e z 0 []∧hv=.slice none 0 0):=by
 induction h with
 | nil=>intro j o hv h;simp at h
 | @sm i e z ver us hv0 ps ls hvs h he r ih=>
   intro j o hv h1 h2;cases j with
   | zero=>simp at h1 h2;subst h1;subst h2;exact .inl ⟨i,e,z,ver,us,rfl,h,he,rfl⟩
   | succ j=>simp only [List.getElem?_cons_succ] at h1 h2 ⊢;exact ih j o hv h1 h2
 | @nn e z ps ls hvs r ih=>
   intro j o hv h1 h2;cases j with
   | zero=>simp at h1 h2;subst h1;subst h2;exact .inr ⟨e,z,rfl,rfl⟩
   | succ j=>simp only [List.getElem?_cons_succ] at h1 h2 ⊢;exact ih j o hv h1 h2
theorem gUe:∀(ps:List (Option Nat)) (j j' i:Nat),(ps.filterMap id).Nodup→ps[j]? =some (some i)→ps[j']? =some (some i)→j=j'
 | [],j,_,_,_,h,_=>by simp at h
 | p::ps,0,0,_,_,_,_=>rfl
 | p::ps,0,j'+1,i,hn,h,h'=>by
   simp at h;subst h;simp only [List.filterMap_cons,id_eq,List.nodup_cons] at hn;exact absurd (show i∈ps.filterMap id from List.mem_filterMap.2 ⟨some i,List.mem_of_getElem? (by simpa using h'),rfl⟩) hn.1
 | p::ps,j+1,0,i,hn,h,h'=>by
   simp at h';subst h';simp only [List.filterMap_cons,id_eq,List.nodup_cons] at hn;exact absurd (show i∈ps.filterMap id from List.mem_filterMap.2 ⟨some i,List.mem_of_getElem? (by simpa using h),rfl⟩) hn.1
 | p::ps,j+1,j'+1,i,hn,h,h'=>by
   have hn':(ps.filterMap id).Nodup:=by
    cases p with
    | none=>simpa [List.filterMap_cons] using hn
    | some q=>simp only [List.filterMap_cons,id_eq,List.nodup_cons] at hn;exact hn.2
   rw [gUe ps j j' i hn' (by simpa using h) (by simpa using h')]
theorem gZx(e z v:Nat):gF3 S L env w (.own e z v []) (.slice none 0 0):=by
 obtain⟨_,k2⟩:=Tr.nil w z;exact⟨by simp [wY],by simp,⟨[],World.ownsRow_nil w 0 e z,by simp [Trs]⟩,by rw [k2];exact List.nodup_nil⟩
theorem PK.heap(hH:mO A S L env w){ps:List (Option Nat)}{ls:List LO}{hvs:List Value}(h:PK L env ps ls hvs)(hn:(ps.filterMap id).Nodup)(h0:A.L0=[]):mO A S ls hvs w:=by
 have nft:∀e z b,(LO.own e z 0 []).ft w (.slice none 0 0) b→False:=fun e z b hb=>by
  simp only [LO.ft] at hb;rw [(Tr.nil w z).2] at hb;cases hb
 refine⟨h.len,?_,?_,?_,hH.sS,hH.sA,hH.frame,hH.size,hH.os,hH.tape,hH.output,Base.nil h0,hH.glob⟩
 ·intro i o hv h1 h2;rcases h.get i o hv h1 h2 with ⟨k,e,z,ver,us,_,k2,k3,rfl⟩ | ⟨e,z,rfl,rfl⟩
  ·exact hH.objs k _ hv k2 k3
  ·exact gZx e z 0
 ·intro i o hv b h1 hl h2 hb;rcases h.get i o hv h1 h2 with ⟨k,e,z,ver,us,_,k2,k3,rfl⟩ | ⟨e,z,rfl,rfl⟩
  ·exact hH.excl k (.own e z ver us) hv b k2 rfl k3 hb
  ·exact(nft e z b hb).elim
 ·intro i j o o' hv hv' b h1 h2 hl1 hl2 e1 e2 b1 b2;rcases h.get i o hv h1 e1 with ⟨k,e,z,ver,us,k1,k2,k3,rfl⟩ | ⟨e,z,rfl,rfl⟩
  ·rcases h.get j o' hv' h2 e2 with ⟨k',e',z',ver',us',k1',k2',k3',rfl⟩ | ⟨e',z',rfl,rfl⟩
   ·have:=hH.dist k k' (.own e z ver us) (.own e' z' ver' us') hv hv' b k2 k2' rfl rfl k3 k3' b1 b2
    subst this;exact gUe ps i j k hn k1 k1'
   ·exact(nft e' z' b b2).elim
  ·exact(nft e z b b1).elim
theorem RP.r{svs:List SV}{fl:List U}{es:List TypeId}{ps:List (Option Nat)}(h:RP L svs fl es ps):∀(vs:List Value) (m:Nat),kK S L env w svs vs→
  ∃cs ls hvs,OX m es fl cs ls∧PK L env ps ls hvs∧∀(Lp Ls:List LO) (ep eq:List Value),Lp.length=m→ep.length=m→kK S (Lp++ls++Ls) (ep++hvs++eq) w cs vs:=by
 induction h with
 | nil=>
   intro vs m hv;cases vs with
   | nil=>exact⟨[],[],[],.nil,.nil,fun _ _ _ _ _ _=>by simp [kK]⟩
   | cons _ _=>simp [kK] at hv
 | @sl i ver e z us svs fl es ps h h2 ih=>
   intro vs m hv;cases vs with
   | nil=>simp [kK] at hv
   | cons v vs=>
     simp only [kK] at hv;obtain⟨cs,ls,hvs,k1,k2,k3⟩:=ih vs (m+1) hv.2;have h0:=hv.1;simp only [SVr] at h0;obtain⟨hv',o,q1,q2,q3,q5,q4⟩:=h0;rw [h] at q2;obtain rfl:=Option.some.inj q2;have q6:=q4 rfl;subst q6;refine⟨.sl m 0::cs,.own e z 0 us::ls,v::hvs,.sl k1,.sm h q1 k2,fun Lp Ls ep eq hl1 hl2=>?_⟩;simp only [kK];refine⟨?_,?_⟩
     ·simp only [SVr];refine⟨v,.own e z 0 us,?_,?_,Nat.le_refl _,q5,fun _=>rfl⟩
      ·rw [List.append_assoc,List.getElem?_append_right (by omega),hl2];simp
      ·rw [List.append_assoc,List.getElem?_append_right (by omega),hl1];simp
     ·have:=k3 (Lp++[.own e z 0 us]) Ls (ep++[v]) eq (by simp [hl1]) (by simp [hl2])
      simpa using this
 | @nilsl e z svs fl es ps h2 ih=>
   intro vs m hv;cases vs with
   | nil=>simp [kK] at hv
   | cons v vs=>
     simp only [kK] at hv;obtain⟨cs,ls,hvs,k1,k2,k3⟩:=ih vs (m+1) hv.2;have h0:=hv.1;simp only [SVr] at h0;subst h0;refine⟨.sl m 0::cs,.own e z 0 []::ls,.slice none 0 0::hvs,.sl k1,.nn k2,fun Lp Ls ep eq hl1 hl2=>?_⟩;simp only [kK];refine⟨?_,?_⟩
     ·simp only [SVr];refine⟨.slice none 0 0,.own e z 0 [],?_,?_,Nat.le_refl _,rfl,fun _=>rfl⟩
      ·rw [List.append_assoc,List.getElem?_append_right (by omega),hl2];simp
      ·rw [List.append_assoc,List.getElem?_append_right (by omega),hl1];simp
     ·have:=k3 (Lp++[.own e z 0 []]) Ls (ep++[.slice none 0 0]) eq (by simp [hl1]) (by simp [hl2])
      simpa using this
 | i h2 ih=>
   intro vs m hv;cases vs with
   | nil=>simp [kK] at hv
   | cons v vs=>
     simp only [kK] at hv;obtain⟨cs,ls,hvs,k1,k2,k3⟩:=ih vs m hv.2;refine⟨_,ls,hvs,.i k1,k2,fun Lp Ls ep eq hl1 hl2=>?_⟩;simp only [kK];exact⟨gFp rfl hv.1,k3 Lp Ls ep eq hl1 hl2⟩
 | b h2 ih=>
   intro vs m hv;cases vs with
   | nil=>simp [kK] at hv
   | cons v vs=>
     simp only [kK] at hv;obtain⟨cs,ls,hvs,k1,k2,k3⟩:=ih vs m hv.2;refine⟨_,ls,hvs,.b k1,k2,fun Lp Ls ep eq hl1 hl2=>?_⟩;simp only [kK];exact⟨gFp rfl hv.1,k3 Lp Ls ep eq hl1 hl2⟩
 | s h2 ih=>
   intro vs m hv;cases vs with
   | nil=>simp [kK] at hv
   | cons v vs=>
     simp only [kK] at hv;obtain⟨cs,ls,hvs,k1,k2,k3⟩:=ih vs m hv.2;refine⟨_,ls,hvs,.s k1,k2,fun Lp Ls ep eq hl1 hl2=>?_⟩;simp only [kK];exact⟨gFp rfl hv.1,k3 Lp Ls ep eq hl1 hl2⟩
theorem R1.r{sv:SV}{u:U}{es:List TypeId}{ps:List (Option Nat)}(h:R1 L sv u es ps)(v:Value)(m:Nat)(hv:SVr S L env w sv v) :
  ∃sv' ls hvs,O1 m es u sv' ls∧PK L env ps ls hvs∧∀(Lp Ls:List LO) (ep eq:List Value),Lp.length=m→ep.length=m→SVr S (Lp++ls++Ls) (ep++hvs++eq) w sv' v:=by
 cases h with
 | ag hl h=>
   simp only [SVr] at hv;obtain⟨vs,rfl,hv⟩:=hv;obtain⟨cs,ls,hvs,k1,k2,k3⟩:=h.r vs m hv;refine⟨.ag cs,ls,hvs,.st hl k1,k2,fun Lp Ls ep eq hl1 hl2=>?_⟩;simp only [SVr];exact⟨vs,rfl,k3 Lp Ls ep eq hl1 hl2⟩
 | leaf hu h=>
   obtain⟨cs,ls,hvs,k1,k2,k3⟩:=h.r [v] m (by simp only [kK];exact⟨hv,trivial⟩);have k4:=k3 (List.replicate m default) [] (List.replicate m default) [] (by simp) (by simp)
   match cs,k4 with
   | [c],_=>
     refine⟨c,ls,hvs,.leaf hu k1,k2,fun Lp Ls ep eq hl1 hl2=>?_⟩
     have:=k3 Lp Ls ep eq hl1 hl2
     simpa only [kK,and_true] using this
   | [],k4=>simp [kK] at k4
   | _::_::_,k4=>simp [kK] at k4
theorem ROs.run{σ:St}{a:Act}(hH:mO A S σ.L env w)(hf:∀t,SVr S σ.L env w (look σ.fr t) (a.tmps.getD t undef)){rs:List ResultVar}{us:List U}{es:List TypeId}{ps:List (Option Nat)}(h:ROs P σ rs us es ps) :
  ∀(m:Nat),∃vs svs ls hvs,(rs.mapM (hQu a.tmps)).run P w=.ok vs w∧Os m es us svs ls∧PK σ.L env ps ls hvs∧∀(Lp Ls:List LO) (ep eq:List Value),Lp.length=m→ep.length=m→kK S (Lp++ls++Ls) (ep++hvs++eq) w svs vs:=by
 induction h with
 | nil=>intro m;exact⟨[],[],[],[],by simp,.nil,.nil,fun _ _ _ _ _ _=>by simp [kK]⟩
 | @cons r rs u us sv es es1 es2 ps ps1 ps2 hr ho h he hp ih=>
   intro m;obtain⟨v,k1,k2⟩:=hEs.run hH hf hr;obtain⟨sv',ls1,hvs1,o1,o2,o3⟩:=ho.r v m k2;obtain⟨vs,svs,ls,hvs,q1,q2,q3,q4⟩:=ih (m+ls1.length);have jn:∀{α:Type} (x y:List α),Jn x y (x++y):=fun x y=>by
    induction x with
    | nil=>exact .z
    | cons a x ih=>exact .s ih
   refine⟨v::vs,sv'::svs,ls1++ls,hvs1++hvs,?_,.cons o1 rfl q2 he (jn _ _),by rw [←hp.spec];exact o2.append q3,fun Lp Ls ep eq hl1 hl2=>?_⟩
   ·simp only [List.mapM_cons,Sem.run_bind];rw [k1];simp only [Result.andThen_ok];rw [q1];rfl
   ·simp only [kK];refine⟨?_,?_⟩
    ·have:=o3 Lp (ls++Ls) ep (hvs++eq) hl1 hl2
     simpa [List.append_assoc] using this
    ·have:=q4 (Lp++ls1) Ls (ep++hvs1) eq (by simp [hl1]) (by simp [hl2,o2.len])
     simpa [List.append_assoc] using this
end
section
variable {P:Program}
def mV(P:Program)(fn:Func)(es:List TypeId)(us:List U)(e:Exit)(σ:St):Prop:=(match e with | .normal=>True | .ret=>True | _=>False)∧∃ps,ROs P σ fn.results.toList us es ps∧decide ((ps.filterMap id).Nodup)=true
theorem pM {f:Nat} {fn:Func} {c:Code} {args:List SV} {es:List TypeId} {us:List U} (hf:P.funcs[f]? =some fn) (hb:fn.body=some c) (hname:(fn.name== "runtime.NumGoroutine")=false)
  (hn:Nat.ble args.length fn.ntmps=true) (hus:us≠[]) (h:∀A [gCz A 0],V P A c ⟨gLk 0 args,[],fn.ntmps⟩ (mV P fn es us)):kT P f args es us:=by
 refine⟨⟨fn,hf,hname,by rw [hb];rfl⟩,?_⟩;intro A S env w vs hw hS hA0 he hH hargs;have hb0:gCz A 0:=⟨by rw [hA0];rfl⟩
 have hlen:=kK.length hargs;have henv:env=[]:=List.eq_nil_of_length_eq_zero (by simpa using hH.len);subst henv;have hn':=Nat.le_of_ble_eq_true hn;refine calls_of_wp hf hb ?_;refine wp_mono (h A _ w ⟨S,[],hH,fun t=>?_,?_,rfl⟩) ?_
 ·have:=gIf args vs 0 [] (List.replicate (fn.ntmps - vs.length) undef) rfl hargs t
  have e:vs.toArray++Array.replicate (fn.ntmps - vs.toArray.size) undef=([]++vs++List.replicate (fn.ntmps - vs.length) undef).toArray:=by apply Array.ext';simp
  rw [e];exact this
 ·simp;omega
 ·rintro e a' w' ⟨σ',⟨he,ps,hres,hnd⟩,S',env',hH',hf',hN',hd'⟩;obtain⟨rvs,svs,ls,hvs,k1,k2,k3,k4⟩:=hres.run hH' hf' 0;have hrun:(results fn a'.tmps).run P w'=.ok (if h:rvs.toArray.size=1 then rvs.toArray[0] else .tuple rvs.toArray) w':=by
   rw [gPd];simp only [Sem.run_bind];rw [←Array.toArray_toList (xs:=fn.results)];simp only [List.mapM_toArray,Sem.run_map];rw [k1];rfl
  have k5:=k4 [] [] [] [] rfl rfl;simp only [List.nil_append,List.append_nil] at k5;have hl:=kK.length k5;have fin:∃r sv S'' L' env'',(Ending.returned (if h:rvs.toArray.size=1 then rvs.toArray[0] else .tuple rvs.toArray))=.returned r∧OY 0 es us sv L'∧mO A S'' L' env'' w'∧SVr S'' L' env'' w' sv r:=by
   have hheap:=k3.heap hH' (of_decide_eq_true hnd) hA0
   match us,svs,rvs,k2,k5,hl,hus with
   | [u],[sv],[v],k2,k5,_,_=>
     refine⟨_,sv,S',ls,hvs,rfl,?_,hheap,?_⟩
     ·cases k2 with
      | cons h1 hn h2 he hl=>
        cases h2;have e1:=he.spec;have e2:=hl.spec;simp only [List.append_nil] at e1 e2;subst e1;subst e2;exact .one h1
     ·simpa [kK] using k5
   | u::u'::us,sv::sv'::svs,v::v'::rvs,k2,k5,_,_=>
     refine⟨_,.tup (sv::sv'::svs),S',ls,hvs,rfl,.tup k2,hheap,?_⟩;simp only [SVr];exact⟨v::v'::rvs,by simp,k5⟩
   | [_],_::_::_,_,k2,_,_,_=>cases k2 with | cons _ _ h2 _ _=>cases h2
   | _::_::_,[_],_,k2,_,_,_=>cases k2 with | cons _ _ h2 _ _=>cases h2
   | [_],[_],[],_,_,hl,_=>simp at hl
   | [_],[_],_::_::_,_,_,hl,_=>simp at hl
   | _::_::_,_::_::_,[],_,_,hl,_=>simp at hl
   | _::_::_,_::_::_,[_],_,_,hl,_=>simp at hl
  cases e with
  | normal=>exact⟨hd',_,hrun,fin⟩
  | ret=>exact⟨hd',_,hrun,fin⟩
  | exit id=>exact he.elim
  | goto l=>exact he.elim
  | panic c=>exact he.elim
  | outgrown=>exact he.elim
theorem OX.wl{L:List LO}{b:Nat}{es:List TypeId}{fl:List U}{cs:List SV}{ls:List LO}(h:OX b es fl cs ls):(∀k o,ls[k]? =some o→L[b+k]? =some o)→WLs L cs fl:=by
 induction h with
 | nil=>intro _;trivial
 | sl h ih=>
   intro hL;refine⟨?_,ih fun k o hk=>by have:=hL (k+1) o (by simpa using hk);rwa [←Nat.add_assoc,Nat.add_right_comm] at this⟩
   have:=hL 0 _ rfl
   simp only [WL];rw [Nat.add_zero] at this;rw [this];rfl
 | i h ih=>intro hL;exact⟨rfl,ih hL⟩
 | b h ih=>intro hL;exact⟨rfl,ih hL⟩
 | s h ih=>intro hL;exact⟨rfl,ih hL⟩
theorem O1.wd{L:List LO}{b:Nat}{es:List TypeId}{u:U}{sv:SV}{ls:List LO}(h:O1 b es u sv ls)(hL:∀k o,ls[k]? =some o→L[b+k]? =some o):WD L sv u:=by
 cases h with
 | st hl h=>have:=hl.eq;subst this;exact h.wl hL
 | leaf hu h=>
   have:=(h.wl hL).1
   cases sv<;>cases u<;>first | exact this | cases hu
theorem Os.wd{A:Amb}{S:Nat→Prop}{L:List LO}{env:List Value}{w:World}(hH:mO A S L env w){b:Nat}{es:List TypeId}{us:List U}{svs:List SV}{ls:List LO}(h:Os b es us svs ls):(∀k o,ls[k]? =some o→L[b+k]? =some o)→
  ∀vs,kK S L env w svs vs→kK (gUc S L env w) [] [] w (us.map .d) vs:=by
 induction h with
 | nil=>intro _ vs hv;cases vs<;>simp_all [kK]
 | @cons b n es es1 es2 u us sv svs ls ls1 ls2 h hn h2 he hl ih=>
   intro hL vs hv;cases vs with
   | nil=>simp [kK] at hv
   | cons v vs=>
     simp only [kK,List.map_cons] at hv ⊢;rw [←hl.spec] at hL;refine⟨WD.r hH (h.wd fun k o hk=>hL k o (by rw [List.getElem?_append_left (List.getElem?_eq_some_iff.1 hk).1];exact hk)) hv.1,ih (fun k o hk=>?_) vs hv.2⟩
     have:=hL (ls1.length+k) o (by rw [List.getElem?_append_right (by omega),Nat.add_sub_cancel_left];exact hk)
     rw [←hn,Nat.add_assoc];exact this
theorem kT.p{f:Nat}{args:List SV}{es:List TypeId}{us:List U}(h:kT P f args es us):jC P f args us:=by
 refine⟨h.1,fun A S env w vs hw hS hl he hH hargs=>(h.2 A S env w vs hw hS hl he hH hargs).mono ?_⟩;rintro e w' ⟨r,sv,S',L',env',rfl,hoy,hH',hr⟩;refine⟨r,mkR us,gUc S' L' env' w',[],[],rfl,⟨rfl,rfl⟩,⟨rfl,fun i o hv h=>by simp at h,fun i o hv b h=>by simp at h,fun i j o o' hv hv' b h=>by simp at h,?_,?_,hH'.frame,hH'.size,hH'.os,hH'.tape,hH'.output,Base.nil hl,hH'.glob⟩,?_⟩
 ·rintro b (hb | ⟨i,o,hv,h1,h2,h3,h4⟩)
  ·exact hH'.sS b hb
  ·exact(hH'.excl i o hv b h1 h2 h3 h4).2.2
 ·rintro b (hb | ⟨i,o,hv,h1,h2,h3,h4⟩)
  ·exact hH'.sA b hb
  ·exact .inr (hH'.excl i o hv b h1 h2 h3 h4).2.1
 ·cases hoy with
  | one h=>exact WD.r hH' (h.wd fun k o hk=>by simpa using hk) hr
  | tup h=>
    simp only [SVr] at hr;obtain⟨vs,rfl,hr⟩:=hr;simp only [mkR,SVr];exact⟨vs,rfl,h.wd hH' (fun k o hk=>by simpa using hk) vs hr⟩
end
def gZy(zu:U)(zs:List Value):Prop:=∀w,Tr w zu zs∧zu.fp w zs=[]
theorem hO7{zu:U}{zs:List Value}{z:Nat}(hz:gZy zu zs)(hs:zu.sz=z){w:World}:∀(n:Nat) (cs:List Value),cs.length=n*z→(∀j,j < n*z→cs[j]? =zs[j % z]?)→Trs w (List.replicate n zu) cs∧U.fps w (List.replicate n zu) cs=[]:=by
 have hzl:zs.length=z:=by rw [Tr.len _ _ (hz w).1,hs]
 intro n
 induction n with
 | zero=>intro cs hl _;simp at hl;subst hl;simp [Trs,U.fps]
 | succ n ih=>
   intro cs hl hc;have hnz:(n+1)*z=z+n*z:=by rw [Nat.add_mul];omega
   have htk:cs.take z=zs:=by
    apply List.ext_getElem?;intro j;rw [List.getElem?_take];split
    ·rw [hc j (by omega),Nat.mod_eq_of_lt (by assumption)]
    ·rw [List.getElem?_eq_none (by omega)]
   obtain⟨k1,k2⟩:=ih (cs.drop z) (by rw [List.length_drop,hl,hnz];omega) (fun j hj=>by rw [List.getElem?_drop,hc (z+j) (by omega),Nat.add_mod_left]);simp only [List.replicate_succ,Trs,U.fps];rw [hs,htk,(hz w).2,k2];exact⟨⟨(hz w).1,k1⟩,rfl⟩
section
variable {P:Program} {A:Amb} {σ:St} {K:St→Prop}
variable {ops:Array Oper} {rest:List Oper} {t:Nat} {ty:TypeId} {pos:String} {af:Array Edge} {x y:Operand} {sv:SV}
theorem mO.newO {S:Nat→Prop} {L:List LO} {env:List Value} {w w':World} (h:mO A S L env w) (js:List Nat) (o:LO) (hv:Value)
  (hsz:w.heap.size≤w'.heap.size) (hold:∀b,b < w.heap.size→w'.heap[b]? =w.heap[b]?) (hos:w'.os=w.os) (htape:w'.tape=w.tape) (hout:w'.output=w.output)
  (hft:∀k,o.ft w' hv k→k < w'.heap.size∧(w.heap.size≤k∨∃j∈js,gTt L env w j k))
  (ho:Carry S L env w S (kill js 0 L++[o]) (env++[hv]) w'→gF3 S (kill js 0 L++[o]) (env++[hv]) w' o hv) :
  mO A S (kill js 0 L++[o]) (env++[hv]) w'∧Carry S L env w S (kill js 0 L++[o]) (env++[hv]) w':=by
 have hlen:=h.len
 refine h.eat js L.length o hv (by simp [zZ,hlen]) (fun j hj=>?_) (by rw [List.getElem?_append_right (by rw [zZ];exact Nat.le_refl _),zZ];simp) (fun j hj=>?_) (by rw [←hlen];simp) (fun k hk _=>hold k hk)
  (fun o' hv' h1 _=>by rw [List.getElem?_eq_none (Nat.le_refl _)] at h1;cases h1) hsz hos htape hout (fun k hk=>?_) ho
 ·by_cases hlt:j < L.length
  ·rw [List.getElem?_append_left (by rw [zZ];exact hlt),gMe,Nat.zero_add]
  ·rw [List.getElem?_eq_none (by simp [zZ];omega),List.getElem?_eq_none (by omega)];rfl
 ·by_cases hlt:j < env.length
  ·rw [List.getElem?_append_left hlt]
  ·rw [List.getElem?_eq_none (by simp;omega),List.getElem?_eq_none (by omega)]
 ·obtain⟨h1,h2⟩:=hft k hk;refine⟨h1,h2.imp id ?_⟩;rintro⟨j,hj,o',hv',k1,k2,k3,k4⟩;exact⟨j,o',hv',.inr (gB7 hj),k1,k2,k3,k4⟩
theorem hHq{S:Nat→Prop}{L:List LO}{env:List Value}{w:World}{o:LO}{hv:Value}{js:List Nat}(hlen:env.length=L.length)(h1:hv.oneCell'=true)(hv0:o.ver=0):SVr S (kill js 0 L++[o]) (env++[hv]) w (.sl L.length 0) hv:=by
 simp only [SVr];exact⟨hv,o,by rw [←hlen];simp,by rw [List.getElem?_append_right (by rw [zZ];exact Nat.le_refl _),zZ];simp,by rw [hv0];exact Nat.le_refl _,h1,fun _=>rfl⟩
theorem hMy {T e:TypeId} {gg:Bool} {z bs:Nat} {zs:List Value} {zu:U} {k k':IntKind} {l c:Int} {fr:List (Nat × SV)} {L L':List LO} {N i:Nat} (hx:(St.mk fr L N).ev x=.d (.i k l)) (hy:(St.mk fr L N).ev y=.d (.i k' c))
  (hT:tyE P T=some e) (he:tyI P e=some (gg,z,bs)) (hZ:tyZ P e=some zs) (hz:(Nat.blt 0 z && zs.length==z)=true) (hzu:gZy zu zs)
  (h0:0≤l) (hlc:l≤c) (hc:c≤big) (hbytes:(bs:Int)*c≤281474976710656) (ht:Nat.blt t N=true) (hi:L.length=i) (hL':Sn (.own e z 0 (List.replicate l.toNat zu)) L i L')
  (h:VO P A ops rest ⟨(t,.sl i 0)::fr,L',N⟩ K) :
  VO P A ops (⟨some t,.makeSlice T x y,ty,pos,af,none⟩::rest) ⟨fr,L,N⟩ K:=by
 have hL2:=hL'.spec.2;subst hi;subst hL2;refine gDh rfl (fun S env a w hH hf hN hd=>?_) h;have h1:=kZ.ev hf hH x;have h2:=kZ.ev hf hH y;rw [hx,SVr.int] at h1;rw [hy,SVr.int] at h2;simp only [Bool.and_eq_true,Nat.blt_eq,beq_iff_eq] at hz;obtain⟨i,hi,his,hib⟩:=gQr he;have hsl:=wS hT;obtain⟨zv,hzv,hzc⟩:∃zv,i.zero=some zv∧zv.cells.toList=zs:=by
  unfold tyZ at hZ;simp only [hi] at hZ;cases hz:i.zero with
  | none=>simp [hz] at hZ
  | some zv=>exact⟨zv,rfl,by simpa [hz] using hZ⟩
 have hzsz:zv.cells.size=z:=by rw [←hz.2,←hzc];simp
 rw [wY] at hc;have hrun:=run_make (P:=P) w T e i zv hsl hi hzv k k' l c h0 hlc (by rw [hib];exact hbytes) (by omega);have hsu:zu.sz=z:=by rw [←Tr.len _ _ (hzu w).1,hz.2]
 have hcells:∀(j:Nat),j < (madeCells zv.cells (c.toNat*i.size)).toList.length→(madeCells zv.cells (c.toNat*i.size)).toList[j]? =zs[j % z]? :=by
  intro j hj;simp only [Array.length_toList,size_madeCells] at hj;have hjm:j % z < zv.cells.size:=by rw [hzsz];exact Nat.mod_lt _ hz.1
  rw [Array.getElem?_toList];simp only [madeCells,Array.getElem?_map,←hzc,Array.getElem?_toList];rw [Array.getElem?_eq_getElem (by simpa using hj)];simp only [Array.getElem_range,Option.map_some,hzsz];rw [Array.getElem?_eq_getElem hjm,getElem!_pos zv.cells (j % z) hjm]
 have hln:l.toNat≤c.toNat:=by omega
 have hlz:l.toNat*z≤c.toNat*z:=Nat.mul_le_mul_right _ hln;have htr:=fun w'=>hO7 (w:=w') hzu hsu l.toNat ((madeCells zv.cells (c.toNat*i.size)).toList.take (l.toNat*z)) (by simp [size_madeCells,his,Nat.min_eq_left hln]) (fun j hj=>by rw [List.getElem?_take,if_pos hj];exact hcells j (by simp only [Array.length_toList,size_madeCells,his];omega));have hall:∀u∈List.replicate l.toNat zu,u.sz=z:=fun u hu=>by rw [(List.mem_replicate.1 hu).2];exact hsu
 have hown:(w.alloc (.cells (madeCells zv.cells (c.toNat*i.size)) e)).ownsRow 0 e z (.slice (some ⟨w.heap.size,0,none⟩) l.toNat c.toNat) (List.replicate l.toNat zu).length ((madeCells zv.cells (c.toNat*i.size)).toList.take (l.toNat*z)):=
  ⟨by simp [size_madeCells,his,Nat.min_eq_left hln],.inr ⟨w.heap.size,c.toNat,_,by rw [List.length_replicate],Nat.zero_le _,heap_alloc_new w _,by rw [List.length_replicate];exact hln,by simp only [maxLen];omega,by rw [size_madeCells,his],by rw [List.length_replicate]⟩⟩
 have hfp:=gXt hall hown w.heap.size rfl;rw [(htr _).2] at hfp
 obtain⟨hH',C⟩:=hH.newO (w':=w.alloc (.cells (madeCells zv.cells (c.toNat*i.size)) e)) [] (.own e z 0 (List.replicate l.toNat zu)) (.slice (some ⟨w.heap.size,0,none⟩) l.toNat c.toNat)
  (by simp) (fun b hb=>heap_alloc_old w _ hb) rfl rfl rfl (fun b hb=>by simp only [LO.ft] at hb;rw [hfp] at hb;simp at hb;subst hb;exact⟨by simp,.inl (Nat.le_refl _)⟩)
  (fun C=>⟨by rw [List.length_replicate,wY];omega,hall,⟨_,hown,(htr _).1⟩,by rw [hfp];simp⟩)
 have hk:kill [] 0 L=L:=by
  have:∀(L:List LO) (n:Nat),kill [] n L=L:=by
   intro L
   induction L with
   | nil=>intro n;rfl
   | cons o L ih=>intro n;simp [kill,ih]
  exact this L 0
 have hsl':=hHq (S:=S) (w:=w.alloc (.cells (madeCells zv.cells (c.toNat*i.size)) e)) (o:=.own e z 0 (List.replicate l.toNat zu)) (hv:=.slice (some ⟨w.heap.size,0,none⟩) l.toNat c.toNat) (js:=[]) hH.len rfl rfl;simp only [hk] at hH' C hsl';refine⟨.value (.slice (some ⟨w.heap.size,0,none⟩) l.toNat c.toNat),_,?_,.inl ⟨_,rfl,qW hf hN hd ht hH' C hsl'⟩⟩;simp only [execOp,h1,h2,Sem.run_bind,hrun,Result.andThen_ok,Sem.run_pure]
inductive hLb (L:List LO) (z:Nat):SV→List U→List Nat→Prop
 | own {j ver e:Nat} {us:List U} (h:L[j]? =some (.own e z ver us)):hLb L z (.sl j ver) us [j]
 | data {us:List U} (hs:∀u∈us,u.sz=z) (hn:U.noSls us=true):hLb L z (.d (.sl z us)) us []
 | nil:hLb L z .nilsl [] []
theorem hLb.r{S:Nat→Prop}{L:List LO}{env:List Value}{w:World}(hH:mO A S L env w){z:Nat}{us:List U}{js:List Nat}{v:Value}(h:hLb L z sv us js)(hv:SVr S L env w sv v) :
  ∃news,Src (fun _=>True) w z us v news∧Trs w us news∧(U.fps w us news).Nodup∧(∀b∈U.fps w us news,∃j∈js,gTt L env w j b)∧∀u∈us,u.sz=z:=by
 cases h with
 | @own j ver e us h=>
   simp only [SVr] at hv;obtain⟨hv',o,k1,k2,k3,k5,k4⟩:=hv;rw [h] at k2;obtain rfl:=Option.some.inj k2;have k6:=k4 rfl;subst k6;have hob:=hH.objs j _ _ h k1;obtain⟨hb,hz,⟨xs,h1,h2⟩,hnd⟩:=hob;have hr:=Trs.rd (S:=fun _=>True) us xs h2 (fun _ _=>trivial);refine⟨xs,⟨?_,hr,h1.1,Rds.oneCell us xs hr⟩,h2,?_,?_,hz⟩
   ·rcases h1.2 with ⟨rfl,h0⟩ | ⟨g,cap,cur,rfl,_,hg,hc1,hc2,hc3,htake⟩
    ·exact⟨none,0,by rw [h0],.inl (List.eq_nil_of_length_eq_zero h0)⟩
    ·exact⟨some ⟨g,0,none⟩,cap,rfl,.inr ⟨_,rfl,fun j u hu=>h1.cells (g:=g) rfl j u hu⟩⟩
   ·rcases gGd hz h1 with ⟨_,rfl,_⟩ | ⟨g,cap,rfl,hf⟩
    ·simp [U.fps]
    ·rw [hf] at hnd;exact(List.nodup_cons.1 hnd).2
   ·intro b hb';refine⟨j,by simp,_,_,h,rfl,k1,?_⟩;simp only [LO.ft];rcases gGd hz h1 with ⟨_,rfl,_⟩ | ⟨g,cap,rfl,hf⟩
    ·simp [U.fps] at hb'
    ·rw [hf];simp [hb']
 | data hs hn=>
   obtain⟨news,src⟩:=Src.of_data hv hs;obtain⟨k1,k2⟩:=Rds.tr (w':=w) _ _ hn src.rds;exact⟨news,⟨src.form,Rds.mono (fun _ _ _=>trivial) (fun _ _ _=>rfl) _ _ src.rds,src.len,src.one⟩,k1,by rw [k2];exact List.nodup_nil,by rw [k2];simp,hs⟩
 | nil=>
   simp only [SVr] at hv;subst hv;exact⟨[],⟨⟨none,0,rfl,.inl rfl⟩,by simp [Rds],by simp,by simp⟩,by simp [Trs],by simp [U.fps],by simp [U.fps],by simp⟩
theorem hQy {L:List LO} {env:List Value} {w w':World} {e z:Nat} {es us:List U} {hv v':Value} {xs news:List Value} {js:List Nat} {Q:Nat→Prop} (hz:∀u∈es,u.sz=z) (hus:∀u∈us,u.sz=z)
  (m1:w.ownsRow 0 e z hv es.length xs) (m2:Trs w es xs) (hnd:((U.sl z es).fp w [hv]).Nodup) (t1:Trs w us news) (t2:(U.fps w us news).Nodup) (t3:∀b∈U.fps w us news,(∃j∈js,gTt L env w j b)∧b < w.heap.size∧b∉(U.sl z es).fp w [hv])
  (hown:w'.ownsRow 0 e z v' (es.length+us.length) (xs++news)) (e5:∀k,k < w.heap.size→blk hv≠some k→w'.heap[k]? =w.heap[k]?)
  (e6:∀k,blk v'=some k→k < w'.heap.size∧(blk hv=some k∨w.heap.size≤k)) (hsz:w.heap.size≤w'.heap.size) (hQ:∀b,b∈(U.sl z es).fp w [hv]→b < w.heap.size∧Q b) :
  (∀u∈es++us,u.sz=z)∧w'.ownsRow 0 e z v' (es++us).length (xs++news)∧Trs w' (es++us) (xs++news)∧((U.sl z (es++us)).fp w' [v']).Nodup∧
  ∀b∈(U.sl z (es++us)).fp w' [v'],b < w'.heap.size∧(w.heap.size≤b∨Q b∨∃j∈js,gTt L env w j b):=by
 have hall:∀u∈es++us,u.sz=z:=fun u hu=>(List.mem_append.1 hu).elim (hz u) (hus u);have hown':w'.ownsRow 0 e z v' (es++us).length (xs++news):=by rw [List.length_append];exact hown
 have hin:∀b∈U.fps w es xs,b∈(U.sl z es).fp w [hv]∧blk hv≠some b:=by
  intro b hb;rcases gGd hz m1 with ⟨_,rfl,_⟩ | ⟨g,cap,rfl,hf⟩
  ·simp [U.fps] at hb
  ·rw [hf] at hnd ⊢;exact⟨by simp [hb],fun e=>by simp [blk] at e;subst e;exact(List.nodup_cons.1 hnd).1 hb⟩
 have hnb:∀b,blk hv=some b→b∈(U.sl z es).fp w [hv]:=by
  intro b hb;rcases gGd hz m1 with ⟨rfl,rfl,_⟩ | ⟨g,cap,rfl,hf⟩
  ·simp [blk] at hb
  ·simp [blk] at hb;subst hb;rw [hf];simp
 obtain⟨a1,a2⟩:=Trs.loc (w':=w') _ _ m2 (fun b hb=>e5 b (hQ b (hin b hb).1).1 (hin b hb).2);obtain⟨b1,b2⟩:=Trs.loc (w':=w') _ _ t1 (fun b hb=>e5 b (t3 b hb).2.1 (fun e=>(t3 b hb).2.2 (hnb b e)));obtain⟨c1,c2⟩:=Trs.append _ _ _ _ a1 b1;rw [a2,b2] at c2;have hes:(U.fps w es xs).Nodup:=by
  rcases gGd hz m1 with ⟨_,rfl,_⟩ | ⟨g,cap,rfl,hf⟩
  ·simp [U.fps]
  ·rw [hf] at hnd;exact(List.nodup_cons.1 hnd).2
 have hjoin:(U.fps w es xs++U.fps w us news).Nodup:=List.nodup_append.2 ⟨hes,t2,fun x hx y hy hxy=>(t3 y hy).2.2 (hxy▸(hin x hx).1)⟩;rcases gGd hall hown' with ⟨rfl,h0,hf⟩ | ⟨g,cap,rfl,hf⟩
 ·exact⟨hall,hown',c1,by rw [hf];exact List.nodup_nil,by rw [hf];simp⟩
 ·have h6:=e6 g rfl;rw [c2] at hf;refine⟨hall,hown',c1,?_,?_⟩
  ·rw [hf];refine List.nodup_cons.2 ⟨?_,hjoin⟩;rw [List.mem_append,not_or];refine⟨fun hm=>?_,fun hm=>?_⟩
   ·rcases h6.2 with h | h
    ·exact(hin g hm).2 h
    ·have:=(hQ g (hin g hm).1).1;omega
   ·rcases h6.2 with h | h
    ·exact(t3 g hm).2.2 (hnb g h)
    ·have:=(t3 g hm).2.1;omega
  ·intro b hb;rw [hf] at hb;rcases List.mem_cons.1 hb with rfl | hb
   ·exact⟨h6.1,h6.2.elim (fun h=>.inr (.inl (hQ b (hnb b h)).2)) .inl⟩
   ·rcases List.mem_append.1 hb with hb | hb
    ·have:=hQ b (hin b hb).1
     exact⟨Nat.lt_of_lt_of_le this.1 hsz,.inr (.inl this.2)⟩
    ·have:=t3 b hb
     exact⟨Nat.lt_of_lt_of_le this.2.1 hsz,.inr (.inr this.1)⟩
theorem hEu {T e T':TypeId} {gg:Bool} {z bs i ver:Nat} {zs:List Value} {es us:List U} {js:List Nat} {fr:List (Nat × SV)} {L L':List LO} {N:Nat} (hx:(St.mk fr L N).ev x=.sl i ver) (hL:L[i]? =some (.own e z ver es)) (hs:hLb L z ((St.mk fr L N).ev y) us js)
  (hjs:(!js.contains i)=true) (hT:tyE P T=some e) (he:tyI P e=some (gg,z,bs)) (hZ:tyZ P e=some zs) (hz:(Nat.blt 0 z && zs.length==z)=true)
  (hbig:es.length+us.length≤big) (hbytes:(es.length+us.length)*bs≤140737488355328) (ht:Nat.blt t N=true) (hL':(kill js 0 L).set i (.own e z (ver+1) (es++us))=L')
  (h:VO P A ops rest ⟨(t,.sl i (ver+1))::fr,L',N⟩ K) :
  VO P A ops (⟨some t,.call { callee:=.builtin .append,args:=#[x,y],argTypes:=#[T,T] },T',pos,af,none⟩::rest) ⟨fr,L,N⟩ K:=by
 subst hL';simp only [Bool.not_eq_true'] at hjs;refine gDh rfl (fun S env a w hH hf hN hd=>?_) h;have h1:=kZ.ev hf hH x;have h2:=kZ.ev hf hH y;rw [hx] at h1;simp only [Bool.and_eq_true,Nat.blt_eq,beq_iff_eq] at hz;obtain⟨news,src,t1,t2,t3,hus⟩:=hs.r hH h2;simp only [SVr] at h1;obtain⟨hv,o,k1,k2,k3,k5,k4⟩:=h1;rw [hL] at k2;obtain rfl:=Option.some.inj k2;have k6:=k4 rfl;obtain⟨hb0,hzs,⟨xs,m1,m2⟩,hnd⟩:=hH.objs i _ hv hL k1;obtain⟨v',w',hrun,hown,e1,e2,e3,e4,e5,e6⟩:=hI9 (P:=P) (ty:=T') hT he hz.1 hZ hz.2 m1 src hbig hbytes;have hself:∀b∈(U.sl z es).fp w [hv],gTt L env w i b:=fun b hb=>⟨_,_,hL,rfl,k1,hb⟩
 obtain⟨q1,q2,q3,q4,q5⟩:=hQy (L:=L) (env:=env) (Q:=gTt L env w i) (js:=js) hzs hus m1 m2 hnd t1 t2 (fun b hb=>by
   obtain⟨j,hj,ho⟩:=t3 b hb;refine⟨⟨j,hj,ho⟩,?_,fun hm=>?_⟩
   ·obtain⟨o,hv',n1,n2,n3,n4⟩:=ho;exact(hH.excl j o hv' b n1 n2 n3 n4).2.2
   ·have:=ho.inj hH (hself b hm)
    subst this;rw [gB7 hj] at hjs
    cases hjs) hown e5 e6 e4 (fun b hb=>⟨(hH.excl i _ hv b hL rfl k1 hb).2.2,hself b hb⟩)
 have hi:=(List.getElem?_eq_some_iff.1 hL).1;have hie:=(List.getElem?_eq_some_iff.1 k1).1;have hnb:∀b,blk hv=some b→b∈(U.sl z es).fp w [hv]:=by
  intro b hb;rw [gXt hzs m1 b hb];simp
 obtain⟨hH',C⟩:=hH.eat (w':=w') js i (.own e z (ver+1) (es++us)) v' (L':=(kill js 0 L).set i (.own e z (ver+1) (es++us))) (env':=env.set i v')
  (by simp [zZ,hH.len]) (fun j hj=>by rw [List.getElem?_set_ne (fun e=>hj e.symm),gMe,Nat.zero_add]) (by rw [List.getElem?_set_self (by rw [zZ];exact hi)]) (fun j hj=>by rw [List.getElem?_set_ne (fun e=>hj e.symm)]) (by rw [List.getElem?_set_self hie])
  (fun k hk hno=>e5 k hk (fun e=>hno _ _ hL k1 ⟨rfl,hnb k e⟩))
  (fun o hv' h1 h2=>by
   rw [hL] at h1;cases h1;rw [k1] at h2;cases h2;refine⟨Nat.le_succ _,fun e=>by simp only [LO.ver] at e;omega,fun b hb=>?_⟩
   rcases m1.2 with ⟨h,_⟩ | ⟨g,cap,cur,h,_⟩<;>rw [h] at hb<;>cases hb)
  e4 e1 e2 e3
  (fun b hb=>by
   obtain⟨r1,r2⟩:=q5 b hb;refine⟨r1,r2.imp id (fun r=>?_)⟩;rcases r with ⟨o,hv',n1,n2,n3,n4⟩ | ⟨j,hj,o,hv',n1,n2,n3,n4⟩
   ·exact⟨i,o,hv',.inl rfl,n1,n2,n3,n4⟩
   ·exact⟨j,o,hv',.inr (gB7 hj),n1,n2,n3,n4⟩)
  (fun C=>⟨by rw [List.length_append];exact hbig,q1,⟨_,q2,q3⟩,q4⟩)
 refine⟨.value v',w',?_,.inl ⟨_,rfl,qW hf hN hd ht hH' C ?_⟩⟩
 ·rw [←k6] at hrun;simp [execOp,resolve,invoke,builtin,hrun]
 ·simp only [SVr];refine⟨v',_,by rw [List.getElem?_set_self hie],by rw [List.getElem?_set_self (by rw [zZ];exact hi)],Nat.le_refl _,?_,fun _=>rfl⟩;rcases hown.2 with ⟨h,_⟩ | ⟨g,cap,cur,h,_⟩<;>rw [h]<;>rfl
theorem hCi {T e:TypeId} {gg:Bool} {z bs i:Nat} {fr:List (Nat × SV)} {L L':List LO} {N:Nat} (hT:tyE P T=some e) (he:tyI P e=some (gg,z,bs)) (ht:Nat.blt t N=true) (hL':Sn (.own e z 0 []) L i L')
  (h:VO P A ops rest ⟨(t,.sl i 0)::fr,L',N⟩ K) :
  VO P A ops (⟨some t,.buildSlice T 0 #[],ty,pos,af,none⟩::rest) ⟨fr,L,N⟩ K:=by
 obtain⟨hi,hL2⟩:=hL'.spec;subst hi;subst hL2;refine gDh rfl (fun S env a w hH hf hN hd=>?_) h
 have hown:(w.alloc (.cells #[] e)).ownsRow 0 e z (.slice (some ⟨w.heap.size,0,none⟩) 0 0) ([]:List U).length []:=
  ⟨by simp,.inr ⟨w.heap.size,0,#[],rfl,Nat.zero_le _,heap_alloc_new w _,Nat.le_refl _,by simp [maxLen],by simp,by simp⟩⟩
 have hfp:=gXt (us:=[]) (by simp) hown w.heap.size rfl;simp only [U.fps] at hfp
 obtain⟨hH',C⟩:=hH.newO (w':=w.alloc (.cells #[] e)) [] (.own e z 0 []) (.slice (some ⟨w.heap.size,0,none⟩) 0 0)
  (by simp) (fun b hb=>heap_alloc_old w _ hb) rfl rfl rfl (fun b hb=>by simp only [LO.ft] at hb;rw [hfp] at hb;simp at hb;subst hb;exact⟨by simp,.inl (Nat.le_refl _)⟩)
  (fun C=>⟨by simp [wY],by simp,⟨_,hown,by simp [Trs]⟩,by rw [hfp];simp⟩)
 have hk:kill [] 0 L=L:=by
  have:∀(L:List LO) (n:Nat),kill [] n L=L:=by
   intro L
   induction L with
   | nil=>intro n;rfl
   | cons o L ih=>intro n;simp [kill,ih]
  exact this L 0
 have hsl':=hHq (S:=S) (w:=w.alloc (.cells #[] e)) (o:=.own e z 0 []) (hv:=.slice (some ⟨w.heap.size,0,none⟩) 0 0) (js:=[]) hH.len rfl rfl;simp only [hk] at hH' C hsl';refine⟨.value (.slice (some ⟨w.heap.size,0,none⟩) 0 0),_,?_,.inl ⟨_,rfl,qW hf hN hd ht hH' C hsl'⟩⟩;simp [execOp,Instr.buildSlice,run_underlying (wS hT),run_sizeOf he,Instr.fill,newRow];congr 2;apply Array.ext';simp
theorem hMz {T e:TypeId} {gg:Bool} {z bs i:Nat} {zs:List Value} {u:U} {js:List Nat} {fr:List (Nat × SV)} {L L':List LO} {N:Nat} (hy:OV L ((St.mk fr L N).ev x) u js) (hjs:decide js.Nodup=true) (hT:tyE P T=some e) (he:tyI P e=some (gg,z,bs)) (hZ:tyZ P e=some zs)
  (hz:(Nat.blt 0 z && Nat.blt z 16777216 && zs.length==z)=true) (hu:u.sz=z) (ht:Nat.blt t N=true) (hi:L.length=i) (hL':kill js 0 L++[.own e z 0 [u]]=L')
  (h:VO P A ops rest ⟨(t,.sl i 0)::fr,L',N⟩ K) :
  VO P A ops (⟨some t,.buildSlice T 1 #[(0,x)],ty,pos,af,none⟩::rest) ⟨fr,L,N⟩ K:=by
 subst hL';subst hi;simp only [Bool.and_eq_true,Nat.blt_eq,beq_iff_eq] at hz;refine gDh rfl (fun S env a w hH hf hN hd=>?_) h;obtain⟨cs,c1,hcells,c2,c3,c4,c5⟩:=hy.r hH (of_decide_eq_true hjs) (kZ.ev hf hH x);have hcl:=Tr.len _ _ c2;rw [hu] at hcl;obtain⟨zv,hrz,hzc⟩:=gOb hZ w;have hold:∀b,b < w.heap.size→(w.alloc (.cells (a.eval x).cells e)).heap[b]? =w.heap[b]? :=fun b hb=>heap_alloc_old w _ hb;obtain⟨t5,t6⟩:=Tr.loc (w':=w.alloc (.cells (a.eval x).cells e)) _ _ c2 (fun b hb=>hold b (Tr.lt _ _ c2 b hb));have hsz:(a.eval x).cells.size=z:=by rw [←hcl,←hcells];simp
 have hown:(w.alloc (.cells (a.eval x).cells e)).ownsRow 0 e z (.slice (some ⟨w.heap.size,0,none⟩) 1 1) [u].length cs:=
  ⟨by simp [hcl],.inr ⟨w.heap.size,1,_,rfl,Nat.zero_le _,heap_alloc_new w _,Nat.le_refl _,by simp [maxLen],by rw [hsz];simp,by rw [hcells];rw [List.take_of_length_le (by simp [hcl])]⟩⟩
 have hall:∀v∈[u],v.sz=z:=by simpa using hu
 have hfp:=gXt hall hown w.heap.size rfl;have htk:cs.take u.sz=cs:=List.take_of_length_le (by omega);have hdr:cs.drop u.sz=[]:=List.drop_eq_nil_of_le (by omega);simp only [U.fps,htk,t6,List.append_nil] at hfp
 obtain⟨hH',C⟩:=hH.newO (w':=w.alloc (.cells (a.eval x).cells e)) js (.own e z 0 [u]) (.slice (some ⟨w.heap.size,0,none⟩) 1 1)
  (by simp) hold rfl rfl rfl (fun b hb=>by
   simp only [LO.ft] at hb;rw [hfp] at hb;rcases List.mem_cons.1 hb with rfl | hb
   ·exact⟨by simp,.inl (Nat.le_refl _)⟩
   ·have:=Tr.lt _ _ c2 b hb
    exact⟨by simp;omega,.inr (c4 b hb)⟩)
  (fun C=>⟨by simp [wY],hall,⟨_,hown,by simp only [Trs,htk,hdr];exact⟨t5,trivial⟩⟩,by
   rw [hfp]
   exact List.nodup_cons.2 ⟨fun hm=>by have:=Tr.lt _ _ c2 _ hm;omega,c3⟩⟩)
 refine⟨.value (.slice (some ⟨w.heap.size,0,none⟩) 1 1),_,?_,.inl ⟨_,rfl,qW hf hN hd ht hH' C (hHq hH.len rfl rfl)⟩⟩;have hzs:zv.cells.size=z:=by rw [←hz.2,←hzc];simp
 have hfill:Instr.fill (fun i=>some (i*z,z)) ((Array.range (1*z)).map (zv.cells[· % zv.cells.size]!)) [(0,a.eval x)]=some (a.eval x).cells:=by
  rw [gQm (off:=0) (n:=z) (by simp) hsz (by simp)];simp only [Instr.fill,Option.some.injEq,List.take_zero,List.nil_append,Nat.zero_add];apply Array.ext';simp
 have h1:¬z > 2^24:=by omega
 have h2:¬z=0:=by omega
 simp only [Nat.one_mul] at hfill;simp [execOp,Instr.buildSlice,run_underlying (wS hT),run_sizeOf he,hrz,h1,h2,newRow];simp only [gt_iff_lt] at h1;simp [hfill]
end
theorem gQn:∀(L:List LO) (n:Nat),kill [] n L=L
 | [],_=>rfl
 | o::L,n=>by simp [kill,gQn L]
section
variable {P:Program} {A:Amb} {σ:St} {K:St→Prop}
variable {ops:Array Oper} {rest:List Oper} {t:Nat} {ty:TypeId} {pos:String} {af:Array Edge} {x y:Operand} {sv:SV}
end
section
variable {hv:Nat→Value} {e:Nat→Nat} {w:World}
end
section
variable {P:Program}
end
end Go.Eng
