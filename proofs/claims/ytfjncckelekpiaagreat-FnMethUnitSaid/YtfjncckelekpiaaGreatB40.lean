import Derived.Test.YtfjncckelekpiaaGreatP6
set_option maxHeartbeats 4000000
set_option linter.unusedVariables false
set_option linter.unusedSimpArgs false
set_option linter.unusedSectionVars false
namespace Go.Proofs.YtfjncckelekpiaaGreat
open Go Go.Eng
attribute [local irreducible] V VO VQ VY Quiet QR gW pJ Rng vF uW uI
def uok(w:gG)(k p a s:Int):Bool:=match gAk w k p a s with
 | some x=>cnd (!x.2.2) true (gJw w p x.1.where_ x.1.params x.1.result x.2.1).isSome
 | none=>false
theorem hDu{w:gG}{k p a s:Int}(h:uok w k p a s=true){n:Nat}(hn:n≤1000){f:List pQ}{q:List kU}(h1:f.length≤n)(h2:q.length≤n):∃r,gNq w k p a s f q=some r∧r.1.length≤n+1∧r.2.length≤n+1:=by
 unfold uok at h;unfold gNq;split at h
 ·rename_i x hx;rw [kX hx];cases hc:(!x.2.2)with
  | true=>exact⟨_,rfl,by simp only;omega,by simp only;omega⟩
  | false=>
    rw [hc,gZ] at h;obtain⟨y,hy⟩:=Option.isSome_iff_exists.1 h;simp only [gZ];rw [kX hy];cases (y.2.1 != 0)with
    | true=>simp only [kJ];rw [wI (by simp;omega)];exact⟨_,rfl,by simp only;omega,by simp;omega⟩
    | false=>simp only [gZ];rw [wI (by simp;omega)];exact⟨_,rfl,by simp;omega,by simp only;omega⟩
 ·cases h
def Tot(n:Nat)(k:List pQ→List kU→Option (List pQ × List kU)):Prop:=∀a b,a.length≤n→b.length≤n→∃r,k a b=some r∧r.1.length≤1000
def ckS(w:gG)(p i:Nat):List kW→Nat→Bool
 | [],_=>true
 | _::xs,y=>uok w 1 p i y && ckS w p i xs (y+1)
def ckM(w:gG)(p i:Nat):List qX→Nat→Bool
 | [],_=>true
 | _::xs,y=>uok w 2 p i y && ckM w p i xs (y+1)
def ckF(w:gG)(p:Nat):List kF→Nat→Bool
 | [],_=>true
 | _::xs,y=>uok w 3 p y 0 && ckF w p xs (y+1)
def ckT(w:gG)(p:Nat):List mE→Nat→Bool
 | [],_=>true
 | t::ts,y=>ckS w p y t.signatures 0 && ckT w p ts (y+1)
def ckI(w:gG)(p:Nat):List jF→Nat→Bool
 | [],_=>true
 | t::ts,y=>ckM w p y t.methods 0 && ckI w p ts (y+1)
def cT:List mE→Nat
 | []=>0
 | t::ts=>t.signatures.length+cT ts
def cI:List jF→Nat
 | []=>0
 | t::ts=>t.methods.length+cI ts
section
variable {w:gG}{p i:Nat}{k:List pQ→List kU→Option (List pQ × List kU)}
theorem hRo:∀(xs:List kW)(y n:Nat),ckS w p i xs y=true→n+xs.length≤1000→Tot (n+xs.length) k→Tot n (uE w p i k xs y)
 | [],y,n,_,_,hk=>fun a b ha hb=>hk a b ha hb
 | x::xs,y,n,h,hn,hk=>fun a b ha hb=>by
   simp only [ckS,Bool.and_eq_true] at h;simp only [List.length_cons] at hn hk;obtain⟨r,f,q,r3⟩:=hDu h.1 (by omega) ha hb;rw [uE,kX f];exact hRo xs (y+1) (n+1) h.2 (by omega) (by rwa [show n+1+xs.length=n+(xs.length+1) by omega]) r.1 r.2 q r3
theorem hRp:∀(xs:List qX)(y n:Nat),ckM w p i xs y=true→n+xs.length≤1000→Tot (n+xs.length) k→Tot n (uF w p i k xs y)
 | [],y,n,_,_,hk=>fun a b ha hb=>hk a b ha hb
 | x::xs,y,n,h,hn,hk=>fun a b ha hb=>by
   simp only [ckM,Bool.and_eq_true] at h;simp only [List.length_cons] at hn hk;obtain⟨r,f,q,r3⟩:=hDu h.1 (by omega) ha hb;rw [uF,kX f];exact hRp xs (y+1) (n+1) h.2 (by omega) (by rwa [show n+1+xs.length=n+(xs.length+1) by omega]) r.1 r.2 q r3
theorem hRq:∀(xs:List kF)(y n:Nat),ckF w p xs y=true→n+xs.length≤1000→Tot (n+xs.length) k→Tot n (mV w p k xs y)
 | [],y,n,_,_,hk=>fun a b ha hb=>hk a b ha hb
 | x::xs,y,n,h,hn,hk=>fun a b ha hb=>by
   simp only [ckF,Bool.and_eq_true] at h;simp only [List.length_cons] at hn hk;obtain⟨r,f,q,r3⟩:=hDu h.1 (by omega) ha hb;rw [mV,kX f];exact hRq xs (y+1) (n+1) h.2 (by omega) (by rwa [show n+1+xs.length=n+(xs.length+1) by omega]) r.1 r.2 q r3
theorem hRt:∀(xs:List mE)(y n:Nat),ckT w p xs y=true→n+cT xs≤1000→Tot (n+cT xs) k→Tot n (uG w p k xs y)
 | [],y,n,_,_,hk=>fun a b ha hb=>hk a b ha hb
 | x::xs,y,n,h,hn,hk=>by
   simp only [ckT,Bool.and_eq_true] at h;simp only [cT] at hn hk;exact hRo x.signatures 0 n h.1 (by omega) (hRt xs (y+1) _ h.2 (by omega) (by rwa [Nat.add_assoc]))
theorem hRu:∀(xs:List jF)(y n:Nat),ckI w p xs y=true→n+cI xs≤1000→Tot (n+cI xs) k→Tot n (pY w p k xs y)
 | [],y,n,_,_,hk=>fun a b ha hb=>hk a b ha hb
 | x::xs,y,n,h,hn,hk=>by
   simp only [ckI,Bool.and_eq_true] at h;simp only [cI] at hn hk;exact hRp x.methods 0 n h.1 (by omega) (hRu xs (y+1) _ h.2 (by omega) (by rwa [Nat.add_assoc]))
end
def cP(q:jL):Nat:=cT q.traits+cI q.instances+q.functions.length
def ckP(w:gG)(p:Nat)(q:jL):Bool:=ckT w p q.traits 0 && (ckI w p q.instances 0 && ckF w p q.functions 0)
theorem hRw{w:gG}:∀(ps:List jL)(y n:Nat),(∀(j:Nat)(q:jL),ps[j]? =some q→ckP w (y+j) q=true∧cP q≤300)→n+300*ps.length≤1000→Tot n (mW w ps y)
 | [],y,n,_,hn=>fun a b ha hb=>⟨_,rfl,by simp only;omega⟩
 | q::ps,y,n,h,hn=>by
   obtain⟨f,h2⟩:=h 0 q rfl;simp only [ckP,Nat.add_zero,Bool.and_eq_true] at f;unfold cP at h2;simp only [List.length_cons] at hn;refine hRt q.traits 0 n f.1 (by omega) (hRu q.instances 0 _ f.2.1 (by omega) (hRq q.functions 0 _ f.2.2 (by omega) (hRw ps (y+1) _ (fun j r hr=>?_) (by omega))));rw [Nat.add_assoc,Nat.add_comm 1];exact h (j+1) r (by simpa using hr)
def fcP(w:gG)(i:Int)(q:jL):Bool:=(q.traits.all fun t=>(gEz w i t).isSome) && ((q.dataTypes.all fun t=>(gCd w i t).isSome) && ((q.instances.all fun t=>(gFz w i t).isSome) && q.functions.all fun t=>(gHx w i t).isSome))
theorem hXy{c i:Int}{k n:LB}{l:List mF}(h:l.length≤1000):∃r,gLx c i k n l=some r∧r.length≤l.length+1:=by
 unfold gLx;cases (c==0)with
 | true=>exact⟨l,rfl,by omega⟩
 | false=>simp only [gZ];rw [wI (by simp;omega)];exact⟨_,rfl,by simp⟩
section
variable {w:gG}{i:Int}
theorem f4:∀(xs:List kF)(l:List mF),(xs.all fun t=>(gHx w i t).isSome)=true→l.length+xs.length≤1000→∃r,gFl w i xs l=some r∧r.length≤l.length+xs.length
 | [],l,_,h=>⟨l,rfl,by simp⟩
 | x::xs,l,h,hl=>by
   simp only [List.all_cons,Bool.and_eq_true,List.length_cons] at h hl ⊢;obtain⟨c,hc⟩:=Option.isSome_iff_exists.1 h.1;obtain⟨r,f,r2⟩:=hXy (c:=c) (i:=i) (k:=[102,110]) (n:=x.name) (l:=l) (by omega);obtain⟨q,y,q2⟩:=f4 xs r h.2 (by omega);exact⟨q,by rw [gFl,kX hc,kX f,y],by omega⟩
theorem f3{q:jL}(h4:(q.functions.all fun t=>(gHx w i t).isSome)=true):∀(xs:List jF)(l:List mF),(xs.all fun t=>(gFz w i t).isSome)=true→l.length+xs.length+q.functions.length≤1000→∃r,gFm w i q xs l=some r∧r.length≤l.length+xs.length+q.functions.length
 | [],l,_,h=>by
   obtain⟨r,f,r2⟩:=f4 q.functions l h4 (by simpa using h);exact⟨r,f,by simpa using r2⟩
 | x::xs,l,h,hl=>by
   simp only [List.all_cons,Bool.and_eq_true,List.length_cons] at h hl ⊢;obtain⟨c,hc⟩:=Option.isSome_iff_exists.1 h.1;obtain⟨r,f,r2⟩:=hXy (c:=c) (i:=i) (k:=[105,110,115,116]) (n:=x.trait) (l:=l) (by omega);obtain⟨y,q1,q2⟩:=f3 h4 xs r h.2 (by omega);exact⟨y,by rw [gFm,kX hc,kX f,q1],by omega⟩
theorem f2{q:jL}(h3:(q.instances.all fun t=>(gFz w i t).isSome)=true)(h4:(q.functions.all fun t=>(gHx w i t).isSome)=true):∀(xs:List jW)(l:List mF),(xs.all fun t=>(gCd w i t).isSome)=true→l.length+xs.length+(q.instances.length+q.functions.length)≤1000→∃r,gFn w i q xs l=some r∧r.length≤l.length+xs.length+(q.instances.length+q.functions.length)
 | [],l,_,h=>by
   simp only [List.length_nil] at h ⊢;obtain⟨r,f,r2⟩:=f3 h4 q.instances l h3 (by omega);exact⟨r,f,by omega⟩
 | x::xs,l,h,hl=>by
   simp only [List.all_cons,Bool.and_eq_true,List.length_cons] at h hl ⊢;obtain⟨c,hc⟩:=Option.isSome_iff_exists.1 h.1;obtain⟨r,f,r2⟩:=hXy (c:=c) (i:=i) (k:=[100,97,116,97]) (n:=x.name) (l:=l) (by omega);obtain⟨y,q1,q2⟩:=f2 h3 h4 xs r h.2 (by omega);exact⟨y,by rw [gFn,kX hc,kX f,q1],by omega⟩
theorem f1{q:jL}(h2:(q.dataTypes.all fun t=>(gCd w i t).isSome)=true)(h3:(q.instances.all fun t=>(gFz w i t).isSome)=true)(h4:(q.functions.all fun t=>(gHx w i t).isSome)=true):∀(xs:List mE)(l:List mF),(xs.all fun t=>(gEz w i t).isSome)=true→l.length+xs.length+(q.dataTypes.length+(q.instances.length+q.functions.length))≤1000→∃r,gFo w i q xs l=some r∧r.length≤l.length+xs.length+(q.dataTypes.length+(q.instances.length+q.functions.length))
 | [],l,_,h=>by
   simp only [List.length_nil] at h ⊢;obtain⟨r,f,r2⟩:=f2 h3 h4 q.dataTypes l h2 (by omega);exact⟨r,f,by omega⟩
 | x::xs,l,h,hl=>by
   simp only [List.all_cons,Bool.and_eq_true,List.length_cons] at h hl ⊢;obtain⟨c,hc⟩:=Option.isSome_iff_exists.1 h.1;obtain⟨r,f,r2⟩:=hXy (c:=c) (i:=i) (k:=[116,114,97,105,116]) (n:=x.name) (l:=l) (by omega);obtain⟨y,q1,q2⟩:=f1 h2 h3 h4 xs r h.2 (by omega);exact⟨y,by rw [gFo,kX hc,kX f,q1],by omega⟩
end
theorem hTn{w:gG}{i:Int}{q:jL}(hq:at? w.packages i=some q)(h:fcP w i q=true)(hl:q.traits.length+(q.dataTypes.length+(q.instances.length+q.functions.length))≤300):∃r,gNc w i=some r∧r.length≤300:=by
 simp only [fcP,Bool.and_eq_true] at h;obtain⟨r,f,y⟩:=f1 h.2.1 h.2.2.1 h.2.2.2 q.traits [] h.1 (by simp only [List.length_nil];omega);unfold gNc;rw [kX hq];exact⟨r,f,by simp only [List.length_nil] at y;omega⟩
theorem hKp{w:gG}(hn:(zO w).isSome=true):∀(ps:List jL)(y:Nat)(l:List mF),(∀(j:Nat)(q:jL),ps[j]? =some q→∃r,gNc w ((y+j:Nat):Int)=some r∧r.length≤300)→l.length+300*ps.length≤1000→∃r,wU w ps y l=some r
 | [],y,l,_,hl=>by
   obtain⟨c,hc⟩:=Option.isSome_iff_exists.1 hn;rw [wU,kX hc];cases (!c)with
   | true=>simp only [kJ];rw [wI (by simp;omega)];exact⟨_,rfl⟩
   | false=>exact⟨_,rfl⟩
 | q::ps,y,l,h,hl=>by
   simp only [List.length_cons] at hl;obtain⟨r,f,r2⟩:=h 0 q rfl;rw [wU,kX (show gNc w (y:Int)=some r from f),wI (by omega)];refine hKp hn ps (y+1) _ (fun j r hr=>?_) (by simp only [List.length_append];omega);rw [Nat.add_assoc,Nat.add_comm 1];exact h (j+1) r (by simpa using hr)
theorem hVu{w:gG}{y:Nat}{k:Option Bool}(hk:k.isSome=true):∀xs,(qY w y k xs).isSome=true
 | []=>hk
 | x::xs=>by
   rw [qY];cases (!(gBa (uT w x) 0 (IntKind.i64.wrap ((y:Int) - 1))))with
   | true=>rfl
   | false=>exact hVu hk xs
theorem hVv{w:gG}:∀(ps:List jL)(y:Nat),(ps.all fun q=>(wH q).isSome)=true→(qK w ps y).isSome=true
 | [],_,_=>rfl
 | q::ps,y,h=>by
   simp only [List.all_cons,Bool.and_eq_true] at h;obtain⟨c,hc⟩:=Option.isSome_iff_exists.1 h.1;rw [qK,kX hc];simp only [lt_];cases cnd (!c) true (uT w q.name !=(y:Int))with
   | true=>rfl
   | false=>exact hVu (hVv ps (y+1) h.2) q.deps
structure WC (w:gG):Prop where
 va:(w.packages.all fun q=>(wH q).isSome)=true
 na:(zO w).isSome=true
 co:(yV w).isSome=true
 len:w.packages.length≤3
 pk:∀(j:Nat)(q:jL),w.packages[j]? =some q→ckP w j q=true∧fcP w j q=true∧cP q≤300∧q.traits.length+(q.dataTypes.length+(q.instances.length+q.functions.length))≤300
theorem WC.elab{w:gG}(h:WC w):∃r,gAi w=some r∧r.1.length≤1000:=by
 have hl:=h.len;obtain⟨c,hc⟩:=Option.isSome_iff_exists.1 (show(gBd w).isSome=true from hVv w.packages 0 h.va);have hf:∃r,gHn w=some r:=by
  unfold gHn;rw [kX hc];cases (!c)with
  | true=>exact⟨_,rfl⟩
  | false=>
    refine hKp h.na w.packages 0 [] (fun j q hj=>?_) (by simp only [List.length_nil];omega);obtain⟨_,y,_,h4⟩:=h.pk j q hj;rw [Nat.zero_add];exact hTn (by rw [gBb];exact hj) y h4
 obtain⟨f,hf⟩:=hf;obtain⟨d,hd⟩:=Option.isSome_iff_exists.1 h.co;have hv:∃v,gBr w=some v:=by
  unfold gBr;rw [kX hf];cases ((f.length:Int)==0)with
  | true=>simp only [kJ];rw [kX hd];exact⟨_,rfl⟩
  | false=>exact⟨_,rfl⟩
 obtain⟨v,hv⟩:=hv;unfold gAi;rw [kX hv];cases (!v)with
 | true=>exact⟨_,rfl,by simp⟩
 | false=>exact hRw w.packages 0 0 (fun j q hj=>by rw [Nat.zero_add];exact⟨(h.pk j q hj).1,(h.pk j q hj).2.2.1⟩) (by omega) [] [] (by simp) (by simp)
def WW(b:Bool)(ins:List jF)(fs:List kF):gG:=⟨[pC b,apP ins fs]⟩
def hPs:LB:=[109,97,105,110]
def evA(b:Bool)(h:List gH)(fs:List kF):Bool:=
 (ckP (WW b (h.map gQj) fs) 0 (pC b) && (fcP (WW b (h.map gQj) fs) 0 (pC b) && (ckI (WW b (h.map gQj) fs) 1 (h.map gQj) 0 && ((yV (WW b (h.map gQj) fs)).isSome && (((hJo.map jH8).all fun t=>(gCd (WW b (h.map gQj) fs) 1 t).isSome) && (h.map gQj).all fun t=>(gFz (WW b (h.map gQj) fs) 1 t).isSome)))))
def elf(w:gG)(f:kF):Bool:=(match gW7 f with
 | some x=>(gJw w 1 x.where_ x.params x.result x.body).isSome
 | none=>false) && (gHx w 1 f).isSome
def evM(b:Bool)(fs:List kF):Bool:=gSq.all fun h=>gY4.all fun m=>elf (WW b (h.map gQj) (hEu (gQm m)::fs)) (hEu (gQm m))
def evO(b:Bool)(f:kF):Bool:=gSq.all fun h=>[[],hBe].all fun q=>[[],hBf].all fun y=>[[],hBh].all fun o3=>(((q++(y++o3)).map hEu).all fun g=>elf (WW b (h.map gQj) (f::(q++(y++o3)).map hEu)) g) && (zO (WW b (h.map gQj) (f::(q++(y++o3)).map hEu))).isSome
theorem jAp(fs:List kF):(gSq.all fun h=>evA true h fs)=true:=by kernel_rfl
theorem jAq(fs:List kF):(gSq.all fun h=>evA false h fs)=true:=by kernel_rfl
theorem jAr(fs:List kF):evM true fs=true:=by kernel_rfl
theorem jAs(fs:List kF):evM false fs=true:=by kernel_rfl
theorem jAt(v:LS)(wh:List gU)(ps:List jT)(r:gF)(e:gY):evO true ⟨hPs,v,wh,ps,r,e⟩=true:=by kernel_rfl
theorem jAu(v:LS)(wh:List gU)(ps:List jT)(r:gF)(e:gY):evO false ⟨hPs,v,wh,ps,r,e⟩=true:=by kernel_rfl
theorem hVw:(fam.all fun q=>(wH (jE5 q)).isSome)=true:=by kernel_rfl
theorem hVx:(gY4.all fun m=>(hEu (gQm m)).name==hPs)=true:=by kernel_rfl
def szB(q:jL):Bool:=decide (cP q≤200) && decide (q.traits.length+(q.dataTypes.length+(q.instances.length+q.functions.length))≤200)
theorem hKq(b:Bool):((ckP ⟨[pC b]⟩ 0 (pC b) && (fcP ⟨[pC b]⟩ 0 (pC b) && ((yV ⟨[pC b]⟩).isSome && (zO ⟨[pC b]⟩).isSome))) && ((wH (pC b)).isSome && szB (pC b)))=true:=by cases b<;>kernel_rfl
theorem hVy:(gSq.all fun h=>szB (apP (h.map gQj) []))=true:=by kernel_rfl
theorem hVz:([[],hBe].all fun f=>[[],hBf].all fun q=>[[],hBh].all fun y=>decide ((f++(q++y)).length≤10))=true:=by kernel_rfl
theorem hTo{b:Bool}{ins:List jF}{fs:List kF}{y:Nat}{f:kF}(hy:fs[y]? =some f)(hl:fs.length≤100)(h:elf (WW b ins fs) f=true):uok (WW b ins fs) 3 ((1:Nat):Int) (y:Int) 0=true:=by
 unfold elf at h;rw [Bool.and_eq_true] at h;obtain⟨q,_⟩:=h;have hlt:=(List.getElem?_eq_some_iff.1 hy).1;cases hf:gW7 f with
 | none=>rw [hf] at q;cases q
 | some x=>
   rw [hf] at q;have hi:gBa (y:Int) 0 (IntKind.i64.wrap (((apP ins fs).functions.length:Int) - 1))=true:=by
    show gBa (y:Int) 0 (IntKind.i64.wrap ((fs.length:Int) - 1))=true;rw [gD7 _ (by omega) (by omega)];unfold gBa lt_;rw [decide_eq_true (by omega),decide_eq_true (by omega)];rfl
   have e:gAk (WW b ins fs) 3 ((1:Nat):Int) y 0=some (⟨3,((1:Nat):Int),y,0,x.vars,x.where_,x.params,x.result,⟨0,[],[],0,⟨0,[],[]⟩,[],[],[],[]⟩⟩,x.body,true):=by
    unfold gAk;rw [show gBa ((1:Nat):Int) 0 (IntKind.i64.wrap (((WW b ins fs).packages.length:Int) - 1))=true from by show gBa 1 0 (IntKind.i64.wrap (2 - 1))=true;decide];rw [show ((3:Int)==1)=false from rfl,show((3:Int)==2)=false from rfl,show((3:Int)==3)=true from rfl];simp only [Bool.not_true,gZ,kJ,lt_];rw [kX (show at? (WW b ins fs).packages ((1:Nat):Int)=some (apP ins fs)from rfl),hi];rw [show ((0:Int) != 0)=false from rfl];simp only [Bool.not_true,gZ];rw [kX (show at? (apP ins fs).functions (y:Int)=some f from by rw [gBb];exact hy),kX hf]
   unfold uok;rw [e];exact q
theorem hRx{w:gG}{p:Nat}:∀(xs:List kF)(y:Nat),(∀(j:Nat)(f:kF),xs[j]? =some f→uok w 3 p ((y+j:Nat):Int) 0=true)→ckF w p xs y=true
 | [],_,_=>rfl
 | x::xs,y,h=>by
   simp only [ckF,Bool.and_eq_true];refine⟨h 0 x rfl,hRx xs (y+1) fun j f hj=>?_⟩;rw [Nat.add_assoc,Nat.add_comm 1];exact h (j+1) f (by simpa using hj)
theorem DW.wc{w:gG}(hw:DW w):WC w:=by
 cases hw with
 | one b=>
   have h:=hKq b;simp only [Bool.and_eq_true,szB,decide_eq_true_eq] at h;obtain⟨⟨h1,h2,h3,h4⟩,h5,h6,h7⟩:=h;refine⟨by simpa using h5,h4,h3,by simp,fun j q hq=>?_⟩
   match j,hq with
   | 0,hq=>obtain rfl:=Option.some.inj hq;exact⟨h1,h2,by omega,by omega⟩
   | j+1,hq=>simp at hq
 | @two b h m y o2 o3 k1 k2 k3 k4 k5=>
   have hc:=hKq b;simp only [Bool.and_eq_true,szB,decide_eq_true_eq] at hc;obtain⟨_,c5,c6,c7⟩:=hc
   have ha:evA b h (fns m y o2 o3)=true:=by cases b;· exact List.all_eq_true.1 (jAq _) h k1
                                            ·exact List.all_eq_true.1 (jAp _) h k1
   simp only [evA,Bool.and_eq_true] at ha;obtain⟨a1,a2,a3,a4,a5,a6⟩:=ha;have m1:y∈[[],hBe]:=by rcases k3 with rfl | rfl<;>simp
   have m2:o2∈[[],hBf]:=by rcases k4 with rfl | rfl<;>simp
   have m3:o3∈[[],hBh]:=by rcases k5 with rfl | rfl<;>simp
   have hM:elf (WW b (h.map gQj) (fns m y o2 o3)) (hEu (gQm m))=true:=by
    cases b
    ·exact List.all_eq_true.1 (List.all_eq_true.1 (jAs ((y++(o2++o3)).map hEu)) h k1) m k2
    ·exact List.all_eq_true.1 (List.all_eq_true.1 (jAr ((y++(o2++o3)).map hEu)) h k1) m k2
   have hO:((((y++(o2++o3)).map hEu).all fun g=>elf (WW b (h.map gQj) (fns m y o2 o3)) g) && (zO (WW b (h.map gQj) (fns m y o2 o3))).isSome)=true:=by
    have hn:=beq_iff_eq.1 (List.all_eq_true.1 hVx m k2);unfold fns;rcases hf:hEu (gQm m)with ⟨n,v,wh,ps,r,e⟩
    rw [hf] at hn;have hn:n=hPs:=hn;subst hn;cases b
    ·exact List.all_eq_true.1 (List.all_eq_true.1 (List.all_eq_true.1 (List.all_eq_true.1 (jAu v wh ps r e) h k1) y m1) o2 m2) o3 m3
    ·exact List.all_eq_true.1 (List.all_eq_true.1 (List.all_eq_true.1 (List.all_eq_true.1 (jAt v wh ps r e) h k1) y m1) o2 m2) o3 m3
   rw [Bool.and_eq_true] at hO;have hL:=of_decide_eq_true (List.all_eq_true.1 (List.all_eq_true.1 (List.all_eq_true.1 hVz y m1) o2 m2) o3 m3);have hl:(fns m y o2 o3).length≤11:=by simp only [fns,List.length_cons,List.length_map];omega
   have hel:∀f∈fns m y o2 o3,elf (WW b (h.map gQj) (fns m y o2 o3)) f=true:=fun f hf=>by
    rcases List.mem_cons.1 (show f∈hEu (gQm m)::(y++(o2++o3)).map hEu from hf)with rfl | hf
    ·exact hM
    ·exact List.all_eq_true.1 hO.1 f hf
   have hs:=List.all_eq_true.1 hVy h k1;simp only [szB,Bool.and_eq_true,decide_eq_true_eq] at hs;refine⟨?_,hO.2,a4,by simp,fun j q hq=>?_⟩
   ·have hv:=List.all_eq_true.1 hVw _ (hN3 k1 k2 k3 k4 k5);simp only [List.all_cons,List.all_nil,Bool.and_true,Bool.and_eq_true];exact⟨c5,hv⟩
   ·match j,hq with
    | 0,hq=>obtain rfl:=Option.some.inj hq;exact⟨a1,a2,by omega,by omega⟩
    | 1,hq=>
      obtain rfl:=Option.some.inj hq;refine⟨?_,?_,?_,?_⟩
      ·simp only [ckP,Bool.and_eq_true];refine⟨rfl,a3,hRx (fns m y o2 o3) 0 fun j f hj=>?_⟩;rw [Nat.zero_add];exact hTo (b:=b) (ins:=h.map gQj) hj (by omega) (hel f (List.mem_of_getElem? hj))
      ·simp only [fcP,Bool.and_eq_true];refine⟨rfl,a5,a6,List.all_eq_true.2 fun f hf=>?_⟩
       have:=hel f hf
       unfold elf at this;rw [Bool.and_eq_true] at this;exact this.2
      ·have h1:cP (apP (h.map gQj) (fns m y o2 o3))=cP (apP (h.map gQj) [])+(fns m y o2 o3).length:=rfl;omega
      ·have h2:=hs.2;have h1:(apP (h.map gQj) (fns m y o2 o3)).functions.length=(fns m y o2 o3).length:=rfl;have h3:(apP (h.map gQj) (fns m y o2 o3)).instances.length=(apP (h.map gQj) []).instances.length:=rfl;have h4:(apP (h.map gQj) (fns m y o2 o3)).dataTypes.length=(apP (h.map gQj) []).dataTypes.length:=rfl;have h5:(apP (h.map gQj) (fns m y o2 o3)).traits.length=(apP (h.map gQj) []).traits.length:=rfl;omega
    | j+2,hq=>simp at hq
theorem gTm{α:Type}{l xs:List α}{x:α}{k:Nat}(h:l.drop k=x::xs):at? l (k:Int)=some x∧l.drop (k+1)=xs∧x∈l:=by
 refine⟨?_,?_,List.mem_of_mem_drop (i:=k) (by rw [h];simp)⟩
 ·rw [gBb]
  have:=congrArg (fun l=>l[0]?) h
  simpa [List.getElem?_drop] using this
 ·have:=congrArg List.tail h
  simpa [List.tail_drop] using this
mutual
def dd:gJ→Nat
 | ⟨_,_,_,az⟩=>dds az
def dds:List gJ→Nat
 | []=>0
 | a::l=>max (dd a+1) (dds l)
end
theorem hKu{a:gJ}:∀{l:List gJ},a∈l→dd a+1≤dds l
 | b::l,h=>by
   simp only [dds];rcases List.mem_cons.1 h with rfl | h
   ·omega
   ·have:=hKu h
    omega
theorem hKv{rec:gJ→gJ→Option Bool}(d:gJ)(hr:∀a∈d.args,rec a a=some true):∀(xs:List gJ)(k:Nat),d.args.drop k=xs→uZ rec d xs k=some true
 | [],_,_=>rfl
 | x::xs,k,h=>by
   obtain⟨f,q,y⟩:=gTm h;rw [uZ,kX f,kX (hr x y)];simp only [Bool.not_true,gZ];exact hKv d hr xs (k+1) q
theorem hKw{rec:gJ→gJ→Option Bool}(d:gJ)(hr:∀a∈d.args,rec a a=some true):∀(xs:List Int)(k:Nat),d.steps.drop k=xs→vB rec d d xs k=some true
 | [],_,_=>hKv d hr d.args 0 rfl
 | x::xs,k,h=>by
   obtain⟨f,q,y⟩:=gTm h;rw [vB,kX f];simp only [bne_self_eq_false,gZ];exact hKw d hr xs (k+1) q
theorem hBs:∀(n:Nat)(d:gJ),dd d < n→vS n d d=some true
 | 0,_,h=>by omega
 | n+1,⟨a,b,c,az⟩,h=>by
   simp only [dd] at h;rw [vS];unfold gDg;simp only [lt_,bne_self_eq_false,beq_self_eq_true,Bool.and_self,Bool.not_true,gZ];exact hKw _ (fun x hx=>hBs n x (by have:=hKu (l:=az) hx;omega)) c 0 rfl
def gRp:gJ:=⟨0,⟨0,0⟩,[],[]⟩
theorem Wz:W (jP gRp)=0:=rfl
theorem hKy:∀l:List Int,Ws (yC l)=0
 | []=>rfl
 | a::l=>by simp [yC,Ws,W,hKy l]
theorem gWb(k:Int)(a:gI)(s:List Int)(az:List gJ):W (jP ⟨k,a,s,az⟩)=s.length+(az.length+Ws (jQ az)):=by
 obtain⟨p,q⟩:=a;simp [jP,qQ,W,Ws,hKy,hAf,gYh]
def EvA:Nat→gN→Prop
 | 0,_=>False
 | k+1,e=>e.args.length≤100∧∀a∈e.args,EvA k a
theorem EvA.more:∀{k m:Nat}{e:gN},EvA k e→k≤m→EvA m e
 | 0,_,_,h,_=>h.elim
 | k+1,0,_,_,h=>by omega
 | k+1,m+1,_,h,hm=>⟨h.1,fun a ha=>(h.2 a ha).more (by omega)⟩
section
variable {w:gG}
end
theorem hFm:∀(steps:List Int)(k n p q:Int)(az:List gN)(j:Nat),EvA j ⟨k,n,⟨p,q⟩,az⟩→∃r,qP steps k n p q az=some r∧EvA (j+steps.length) r
 | [],k,n,p,q,az,j,h=>⟨_,rfl,h⟩
 | x::xs,k,n,p,q,az,j,h=>by
   obtain⟨r,f,y⟩:=hFm xs 3 x 0 0 [⟨k,n,⟨p,q⟩,az⟩] (j+1) ⟨by simp,by simpa using h⟩;exact⟨r,f,y.more (by simp only [List.length_cons];omega)⟩
theorem hPt(k n:Int)(a:gI)(steps:List Int):wX ⟨k,n,a,[]⟩ steps=qP steps k n a.package a.at_ []:=rfl
theorem hFo(k n:Int)(a:gI):EvA 1 ⟨k,n,a,[]⟩:=⟨by simp,by simp⟩
theorem hKz(g:gU):∀(l:List jO)(k:Nat),qR g l k≥0→∃(j:Nat)(a:jO),qR g l k=((k+j:Nat):Int)∧l[j]? =some a
 | [],k,h=>by simp [qR] at h
 | x::l,k,h=>by
   rw [qR] at h ⊢;cases hc:gDw x.goal g with
   | true=>exact⟨0,x,rfl,rfl⟩
   | false=>
     rw [hc,gZ] at h;obtain⟨j,a,f,q⟩:=hKz g l (k+1) h;exact⟨j+1,a,by rw [gZ,f];congr 1;omega,q⟩
theorem hTp{l:List jO}{g:gU}(h:mQ l g≥0):∃a,at? l (mQ l g)=some a∧a∈l:=by
 obtain⟨j,a,f,q⟩:=hKz g l 0 h;refine⟨a,?_,List.mem_of_getElem? q⟩;have f:mQ l g=((0+j:Nat):Int):=f;rw [f,gBb,Nat.zero_add,q]
theorem hK0{n:LB}{y:Nat}{z:jW × Int × Bool}(hz:DK z.1):∀(l:List jW),(∀d∈l,DK d)→DK (gA2 n y z l).1
 | [],_=>hz
 | d::l,h=>by
   rw [gA2];cases d.name==n with
   | true=>exact h d (by simp)
   | false=>exact hK0 hz l fun e he=>h e (by simp [he])
theorem hK5{n:LB}:∀(l:List jL)(y:Nat),(∀p∈l,PK p)→DK (yD n l y).1
 | [],_,_=>fun c hc=>by simp [yD] at hc
 | p::l,y,h=>by
   rw [yD];exact hK0 (hK5 l (y+1) fun q hq=>h q (by simp [hq])) _ (h p (by simp)).1.2
section
variable {w:gG}(hw:WD w)
include hw
theorem hK6{rec:gG→List jO→gU→List gF→Option Int}{facts:List jO}{g:gU}{op:List gF}{l:List gM}(hr:∀t,tok t→∃c,rec w facts ⟨g.trait,t⟩ (([]++op)++[g.type_])=some c)(hl:bok l){k:Option Int}(hk:∃c,k=some c):∀(xs:List gF),(∀t∈xs,tok t)→∃c,gDl rec w facts g op l k xs=some c
 | [],_=>hk
 | x::xs,h=>by
   have hx:=h x (by simp);obtain⟨c,hc⟩:=hr _ (hE8 hl x hx);rw [gDl,wI ⟨hl,hx⟩];simp only [lt_];rw [kX hc];cases (c != 0)with
   | true=>exact⟨_,rfl⟩
   | false=>exact hK6 hr hl hk xs fun t ht=>h t (by simp [ht])
theorem hK7{rec:gG→List jO→gU→List gF→Option Int}{facts:List jO}{g:gU}{op:List gF}{l:List gM}(hr:∀t,tok t→∃c,rec w facts ⟨g.trait,t⟩ (([]++op)++[g.type_])=some c)(hl:bok l):∀(xs:List mJ),(∀c∈xs,∀f∈c.fields,tok f)→∃c,gBw rec w facts g op l xs=some c
 | [],_=>⟨_,rfl⟩
 | x::xs,h=>by
   rw [gBw];exact hK6 hw hr hl (hK7 hr hl xs fun c hc=>h c (by simp [hc])) _ (h x (by simp))
theorem hK8{rec:gG→List jO→gU→List gF→Option Int}{facts:List jO}{g:gU}{op:List gF}(hr:∀t,tok t→∃c,rec w facts ⟨g.trait,t⟩ (([]++op)++[g.type_])=some c)(hop:op.length≤100)(hg:tok g.type_){d:jW × Int × Bool}(hd:DK d.1):∀(xs:LS)(k:Nat)(l:List gM),bok l→l.length=k→k+xs.length=g.type_.args.length→∃c,gBx rec w facts g op d xs k l=some c
 | [],k,l,hl,_,_=>by
   rw [gBx,wI (by simp;omega),wI (by simp;omega)];exact hK7 hw hr hl _ hd
 | x::xs,k,l,hl,hk,hn=>by
   simp only [List.length_cons] at hn;obtain⟨⟨a,b,ts⟩,he⟩:∃t,g.type_=t:=⟨_,rfl⟩
   have hts:ts.length≤4294967296:=by rw [he] at hg;exact hg.1
   rw [he] at hn;have hn:k+(xs.length+1)=ts.length:=hn;have ha:at? g.type_.args (k:Int)=some (ts[k]'(by omega)):=by rw [he,gBb];exact List.getElem?_eq_getElem _
   have ht:tok (ts[k]'(by omega)):=by rw [he] at hg;exact hZ5 _ hg _ (List.getElem_mem (by omega:k < ts.length))
   rw [gBx,kX ha,wI (by simp;omega)];refine hK8 hr hop hg hd xs (k+1) _ (fun b hb=>?_) (by simp;omega) (by rw [he];show k+1+xs.length=ts.length;omega);rcases List.mem_append.1 hb with hb | hb
   ·exact hl b hb
   ·obtain rfl:=List.mem_singleton.1 hb;exact ht
theorem hK9{rec:gG→List jO→gU→List gF→Option Int}{facts:List jO}{g:gU}{op:List gF}(hr:op.length≤30→∀t,tok t→∃c,rec w facts ⟨g.trait,t⟩ (([]++op)++[g.type_])=some c)(hg:tok g.type_):∀(xs:List gF),∃c,gBy rec w facts g op xs=some c
 | []=>by
   rw [gBy];simp only [lt_];cases f:cnd (g.type_.kind != 2) true (cnd (!(wQ w g.type_.name).2.2) true (((wQ w g.type_.name).1.vars.length:Int) !=(g.type_.args.length:Int)))with
   | true=>exact⟨_,rfl⟩
   | false=>
     simp only [gZ];have hv:(wQ w g.type_.name).1.vars.length=g.type_.args.length:=by
      cases q:(g.type_.kind != 2)with
      | true=>rw [q] at f;cases f
      | false=>
        rw [q,gZ] at f;cases y:(wQ w g.type_.name).2.2 with
        | false=>rw [y] at f;cases f
        | true=>
          rw [y] at f
          have:((wQ w g.type_.name).1.vars.length:Int)=(g.type_.args.length:Int):=by simpa [cnd] using f
          omega
     cases q:cnd (decide ((op.length:Int) > 30)) true (decide (tsz g.type_ > 400))with
     | true=>exact⟨_,rfl⟩
     | false=>
       simp only [gZ];have ho:op.length≤30:=by
        by_cases y:(op.length:Int) > 30
        ·rw [decide_eq_true y] at q;cases q
        ·omega
       exact hK8 hw (hr ho) (by omega) hg (hK5 w.packages 0 hw.pk) _ 0 [] (fun b hb=>by simp at hb) rfl (by omega)
 | x::xs=>by
   rw [gBy];cases teq x g.type_ with
   | true=>exact⟨_,rfl⟩
   | false=>exact hK9 hr hg xs
theorem hFp(facts:List jO):∀(n:Nat)(g:gU)(op:List gF),33≤op.length+n→op.length≤31→tok g.type_→∃c,gN9 n w facts g op=some c
 | 0,_,_,f,q,_=>by omega
 | n+1,g,op,f,q,hg=>by
   rw [gN9];unfold gQ8;simp only [lt_];cases cnd (g.type_.kind==2) (cnd (gKa g.type_.name) true (decide (mQ facts g≥0))) (decide (mQ facts g≥0))with
   | true=>exact⟨_,rfl⟩
   | false=>
     simp only [gZ];exact hK9 hw (fun ho t ht=>hFp facts n _ _ (by simp;omega) (by simp;omega) ht) hg op
def KK(B:Nat)(d:gJ):Prop:=W (jP d)≤B∧d.kind≠1∧dd d≤3
omit hw in
theorem hV0{d:gJ}(x:Int){B:Nat}(hB:B≤4000)(hd:KK B d):∃r,(∀n,1≤n→qH n w d x=some r)∧KK (B+1) r.1:=by
 have hz:KK (B+1) gRp:=⟨Nat.zero_le _,by decide,by simp [dd,dds,gRp]⟩
 by_cases hx:x < 0
 ·refine⟨(gRp,false),fun n hn=>?_,hz⟩;obtain⟨n,rfl⟩:∃m,n=m+1:=⟨n - 1,by omega⟩
  rw [qH];unfold vG;rw [decide_eq_true hx];rfl
 by_cases f:d.kind=2
 ·have hW:=hd.1;obtain⟨k,a,s,az⟩:=d;have f:k=2:=f;subst f;rw [gWb] at hW;have hdd:=hd.2.2;refine⟨(⟨2,a,s++[x],az⟩,true),fun n hn=>?_,?_,(show(2:Int)≠1 by decide),by simpa only [dd] using hdd⟩
  ·obtain⟨n,rfl⟩:∃m,n=m+1:=⟨n - 1,by omega⟩
   rw [qH];unfold vG;rw [decide_eq_false hx,show((2:Int)==2)=true from rfl];simp only [gZ,kJ,lt_,idX];rw [wI (by rw [gWb];omega)];exact wI (c:=s.length+[x].length≤4294967296) (by simp;omega)
  ·rw [gWb,List.length_append,List.length_singleton];omega
 ·refine⟨(gRp,false),fun n hn=>?_,hz⟩;obtain⟨n,rfl⟩:∃m,n=m+1:=⟨n - 1,by omega⟩
  rw [qH];unfold vG;rw [decide_eq_false hx,show(d.kind==2)=false by simpa using f,show(d.kind==1)=false by simpa using hd.2.1];rfl
def EZ(w:gG)(d:Nat)(e:gN):Prop:=∃r,(∀n,30+d≤n→qZ n w [] e=some r)∧W (jP r.1)+4≤12*4^d∧dd r.1≤3+d
omit hw in
theorem hRz:∀(steps:List Int)(k n p q:Int)(az:List gN)(B:Nat),B+steps.length≤8→(∃r,(∀m,10+B≤m→qZ m w [] ⟨k,n,⟨p,q⟩,az⟩=some r)∧KK B r.1)→∃e,qP steps k n p q az=some e∧EZ w 0 e
 | [],k,n,p,q,az,B,hB,h=>by
   obtain⟨r,r1,f⟩:=h;simp only [List.length_nil] at hB;exact⟨_,rfl,r,fun m hm=>r1 m (by omega),by have:=f.1;omega,f.2.2⟩
 | x::xs,k,n,p,q,az,B,hB,h=>by
   obtain⟨r,r1,f⟩:=h;simp only [List.length_cons] at hB;refine hRz xs 3 x 0 0 [⟨k,n,⟨p,q⟩,az⟩] (B+1) (by omega) ?_;have go:∀{q':gJ × Bool},(∀m,10+B≤m→cnd r.2 (bnd (qH m w r.1 x) fun y=>some (y.1,y.2)) (some (gRp,false))=some q')→∀m,10+(B+1)≤m→qZ m w [] ⟨3,x,⟨0,0⟩,[⟨k,n,⟨p,q⟩,az⟩]⟩=some q':=fun hq m hm=>by
    obtain⟨m,rfl⟩:∃j,m=j+1:=⟨m - 1,by omega⟩
    have e1:=r1 m (by omega);rw [qZ];unfold gGo;rw [show ((3:Int)==2)=false from rfl,show((3:Int)==1)=false from rfl,show((3:Int)==3)=true from rfl];simp only [gZ,kJ];show cnd true (bnd (qZ m w [] _) _) _=_;rw [kJ,kX e1];exact hq m (by omega)
   cases hr:r.2 with
   | false=>exact⟨(gRp,false),go fun m _=>by rw [hr];rfl,Nat.zero_le _,by decide,by simp [dd,dds,gRp]⟩
   | true=>
     obtain⟨q',q1,q2⟩:=hV0 (w:=w) x (by omega) f;exact⟨q',go fun m hm=>by rw [hr,kJ,kX (q1 m (by omega))],q2⟩
omit hw in
theorem hLa{k n:Int}{a:gI}(hk:k=0∨k=5)(d:Nat):EZ w d ⟨k,n,a,[]⟩:=by
 have hp:1≤4^d:=Nat.one_le_pow _ _ (by omega);rcases hk with rfl | rfl
 ·refine⟨(gRp,false),fun m hm=>?_,by show W (jP gRp)+4≤_;rw [Wz];omega,by simp [dd,dds,gRp]⟩;obtain⟨m,rfl⟩:∃j,m=j+1:=⟨m - 1,by omega⟩
  rfl
 ·refine⟨(⟨3,⟨0,0⟩,[],[]⟩,true),fun m hm=>?_,by have:W (jP ⟨3,⟨0,0⟩,[],[]⟩)=0:=rfl;simp only [this];omega,by simp [dd,dds]⟩;obtain⟨m,rfl⟩:∃j,m=j+1:=⟨m - 1,by omega⟩
  rfl
omit hw in
theorem EZ.more{d d':Nat}{e:gN}(h:EZ w d e)(hd:d≤d'):EZ w d' e:=by
 obtain⟨r,f,q,y⟩:=h
 have:=Nat.pow_le_pow_right (show 0 < 4 by omega) hd
 exact⟨r,fun n hn=>f n (by omega),by omega,by omega⟩
omit hw in
theorem hLb:∀(l:List gJ)(a:gJ),jQ (l++[a])=jQ l++[jP a]
 | [],_=>rfl
 | b::l,a=>by simp [jQ,hLb l a]
omit hw in
theorem hFq{n:Nat}{x:gJ}:∀{l:List gJ},dds l≤n→dd x+1≤n→dds (l++[x])≤n
 | [],_,h=>by simp only [List.nil_append,dds];omega
 | a::l,f,q=>by
   simp only [dds] at f
   have:=hFq (l:=l) (by omega) q
   simp only [List.cons_append,dds];omega
omit hw in
theorem hR1(e:gN){d M:Nat}(hM:M+4=12*4^d):∀(xs:List gN)(acc:List gJ),(∀a∈xs,EZ w d a)→acc.length+xs.length≤4→dds acc≤4+d→∃r,(∀n,30+d≤n→vN (qZ n) w [] e xs acc=some r)∧W (jP r.1)≤4+(Ws (jQ acc)+xs.length*M)∧dd r.1≤4+d
 | [],acc,_,hl,hd=>by
   refine⟨(⟨1,e.at_,[],acc⟩,true),fun n _=>rfl,?_,by simpa only [dd] using hd⟩;rw [gWb];simp only [List.length_nil] at hl ⊢;omega
 | a::xs,acc,h,hl,hd=>by
   obtain⟨r,f,h2,h3⟩:=h a (by simp);simp only [List.length_cons] at hl ⊢;cases hr:r.2 with
   | false=>
     refine⟨(gRp,false),fun n hn=>?_,by show W (jP gRp)≤_;rw [Wz];omega,by simp [dd,dds,gRp]⟩;rw [vN,kX (f n hn),hr];rfl
   | true=>
     obtain⟨q,y,q2,q3⟩:=hR1 e hM xs (acc++[r.1]) (fun b hb=>h b (by simp [hb])) (by simp;omega) (hFq hd (by omega));have e1:Ws (jQ (acc++[r.1]))=Ws (jQ acc)+W (jP r.1):=by
      rw [hLb,hCa];simp [Ws]
     refine⟨q,fun n hn=>?_,?_,q3⟩
     ·rw [vN,kX (f n hn),hr];simp only [Bool.not_true,gZ];rw [wI (by simp;omega)];exact y n hn
     ·rw [e1] at q2;rw [Nat.succ_mul];omega
structure GJ (k:Nat)(t:gF):Prop where
 tok:tok t
 dy:dyS t
 sz:tnd t≤16*5^k
 ed:ed t≤16+5*k
omit hw in
theorem GJ.args{k:Nat}{t:gF}(h:GJ k t):∀u∈t.args,GJ k u:=fun u hu=>by
 have f:=h.tok;have q:=h.dy;have y:=h.sz;have h4:=h.ed;obtain⟨a,n,ts⟩:=t;have hu:u∈ts:=hu;have e1:=hN8 hu;have e2:=gQ5 hu;simp only [tnd] at y;simp only [Go.Proofs.YtfjncckelekpiaaGreat.ed] at h4;exact⟨hZ5 _ f u hu,hAp.1 q.2 u hu,by omega,by omega⟩
def SF(l:List jO):Prop:=∀a∈l,a.steps.length≤6
theorem hLc(n:LB):∃p,zU w gTi n=some p∧p.1=[]:=by
 obtain⟨b,rest,hC⟩:=hw.core;have hT:TrB w gTi []:=by rw [hC];exact hXn (hUx b rest)
 unfold zU;rw [show gKg 5000 w gTi n 8=gMs (gKg 4999) w gTi n 8 4999 from rfl];unfold gMs;cases (gTi==n)with
 | true=>exact⟨_,rfl,rfl⟩
 | false=>
   simp only [gZ,lt_]
   rw [show gEq (gKg 4999) w n 8 (uC w gTi) 4999 0=some ([],false)from by
    rw [show (4999:Nat)=4998+1 from rfl,gEq,hT.s]
    rfl]
   exact⟨_,rfl,rfl⟩
variable {all:List gI}(hS:SW w all)
include hS
theorem hLd{facts:List jO}{d k n:Nat}(hk:d+k+1=12)(ih:∀(g:gU),GJ (k+1) g.type_→∃r,gBt n w facts g (d:Int)=some r∧EvA (10+d) r.1∧(facts=[]→EZ w d r.1)){o:gI}{l:List gM}(hl:∀b∈l,GJ k b.type_) :
  ∀(bs:List gU)(acc:List gN),(∀b∈bs,tok b.type_∧dyS b.type_∧tnd b.type_≤5)→acc.length+bs.length≤4→(∀a∈acc,EvA (10+d) a∧(facts=[]→EZ w d a))→
  ∃r,gEc (gBt n) w facts ((d+1:Nat):Int) (o,0) (l,true) bs acc=some r∧(r.1=⟨0,0,⟨0,0⟩,[]⟩∨∃es,r.1=⟨1,0,o,es⟩∧es.length≤4∧∀a∈es,EvA (10+d) a∧(facts=[]→EZ w d a))
 | [],acc,_,ha,hA=>⟨_,rfl,.inr ⟨acc,rfl,by simpa using ha,hA⟩⟩
 | b::bs,acc,h,ha,hA=>by
   obtain⟨f,q,y⟩:=h b (by simp);simp only [List.length_cons] at ha;have hb:bok l:=fun c hc=>(hl c hc).tok;have hpow:1≤5^k:=Nat.one_le_pow _ _ (by omega);have hbn:hZ4 (16*5^k) l:=⟨by omega,fun c hc=>(hl c hc).sz⟩
   have hg:GJ (k+1) (apT l b.type_):=by
    refine⟨hE8 hb _ f,hSy (fun c hc=>(hl c hc).dy) _ q,?_,?_⟩
    ·have e1:=hOk hbn b.type_;have e2:16*5^k*tnd b.type_≤16*5^k*5:=Nat.mul_le_mul_left _ y;rw [Nat.pow_succ];omega
    ·have e1:=hXq (fun c hc=>(hl c hc).ed) b.type_;have e2:=hOa b.type_;omega
   obtain⟨r,r1,r2,r3⟩:=ih ⟨b.trait,apT l b.type_⟩ hg;have w1:IntKind.i64.wrap (((d+1:Nat):Int) - 1)=(d:Int):=by rw [gD7 _ (by omega) (by omega)];omega
   rw [gEc,wI ⟨hb,f⟩];simp only [lt_];rw [w1,kX r1];cases hc:(r.2 != 0)with
   | true=>exact⟨_,rfl,.inl rfl⟩
   | false=>
     simp only [gZ];rw [wI (by simp;omega)];refine hLd hk ih hl bs (acc++[r.1]) (fun c hc=>h c (by simp [hc])) (by simp;omega) (fun a ha=>?_);rcases List.mem_append.1 ha with ha | ha
     ·exact hA a ha
     ·obtain rfl:=List.mem_singleton.1 ha;exact⟨r2,r3⟩
theorem hLf{facts:List jO}(hF:SF facts):∀(d k n:Nat)(g:gU),d+k=12→2*d+2≤n→GJ k g.type_→∃r,gBt n w facts g (d:Int)=some r∧EvA (10+d) r.1∧(facts=[]→EZ w d r.1):=by
 have hzero:∀(c:Int)(d:Nat),EvA (10+d) ((⟨0,0,⟨0,0⟩,[]⟩:gN),c).1∧(facts=[]→EZ w d ((⟨0,0,⟨0,0⟩,[]⟩:gN),c).1):=fun c d=>⟨(hFo _ _ _).more (by omega),fun _=>hLa (.inl rfl) d⟩
 have hfound:∀(d:Nat)(g:gU),decide (mQ facts g≥0)=true→∃r,(bnd (at? facts (mQ facts g)) fun x2=>bnd (wX ⟨2,x2.from_,⟨0,0⟩,[]⟩ x2.steps) fun x3=>some (x3,(0:Int)))=some r∧EvA (10+d) r.1∧(facts=[]→EZ w d r.1):=fun d g h=>by
  obtain⟨a,a1,a2⟩:=hTp (of_decide_eq_true h);obtain⟨r,r1,f⟩:=hFm a.steps 2 a.from_ 0 0 [] 1 (hFo _ _ _)
  have:=hF a a2
  rw [kX a1,hPt,kX r1];exact⟨_,rfl,f.more (by omega),fun h=>by rw [h] at a2;simp at a2⟩
 intro d
 induction d with
 | zero=>
   intro k n g hk hn hg;obtain⟨n,rfl⟩:∃i,n=i+1:=⟨n - 1,by omega⟩
   rw [gBt];unfold gM0;cases hf:decide (mQ facts g≥0)with
   | true=>simp only [kJ];exact hfound 0 g hf
   | false=>exact⟨_,rfl,hzero _ 0⟩
 | succ d ih=>
   intro k n g hk hn hg;obtain⟨n,rfl⟩:∃i,n=i+2:=⟨n - 2,by omega⟩
   have hpow:5^k≤5^12:=Nat.pow_le_pow_right (by omega) (by omega);have hp12:(5:Nat)^12=244140625:=by decide
   have hs:=hg.sz;have hd:=hg.ed;have sg:=hTu hS.toWI (g:=g) hg.tok (hXp (t:=g.type_) (by omega) (by omega));have key:∃r,gPg (n+1) w facts g ((d+1:Nat):Int)=some r∧EvA (10+(d+1)) r.1∧(facts=[]→EZ w (d+1) r.1):=by
    rw [gPg];unfold gSg;rw [kX sg];cases hc:((hVi w all (grT g.type_) g).2 != 0)with
    | true=>exact⟨_,rfl,hzero _ (d+1)⟩
    | false=>
      have hc0:(hVi w all (grT g.type_) g).2=0:=by simpa using hc
      obtain⟨o,ho⟩:∃o,hVi w all (grT g.type_) g=(o,0):=⟨(hVi w all (grT g.type_) g).1,by rw [←hc0]⟩
      obtain⟨oa,i,l,i1,i2,i3⟩:=hTv ho;obtain⟨j,j1,j2,j3⟩:=hS.look o oa;obtain rfl:i=j:=Option.some.inj (i1.symm.trans j1);obtain⟨w1,w2⟩:=(hw.look i1).wh;obtain⟨p,a1,a2⟩:=gS2 i1;have hl:∀b∈l,GJ k b.type_:=(hFa (Q:=GJ k) (fun x hx y hy=>hx.args y hy) i.head g.type_ [] l hg (fun b hb=>by simp at hb) i3).1;rw [ho];simp only [gZ];rw [kX a1,kX a2,gX9 i.head g.type_ j3 hg.tok,i3];simp only [bnd];obtain⟨r,r1,f⟩:=hLd hw hS (facts:=facts) (d:=d) (k:=k) (n:=n) (by omega) (fun g' h2=>ih (k+1) n g' (by omega) (by omega) h2) (o:=o) hl i.where_ [] w2 (by simpa using w1) (by simp);refine⟨r,r1,?_⟩;rcases f with f | ⟨es,f,e1,e2⟩
      ·rw [f];exact hzero 0 (d+1)
      ·rw [f];refine⟨⟨by show es.length≤100;omega,fun a ha=>(e2 a ha).1⟩,fun hf=>?_⟩;have hp:1≤4^d:=Nat.one_le_pow _ _ (by omega);obtain⟨q,q1,q2,q3⟩:=hR1 (w:=w) ⟨1,0,o,es⟩ (d:=d) (M:=12*4^d - 4) (by omega) es [] (fun a ha=>(e2 a ha).2 hf) (by simpa using e1) (by simp [dds]);refine⟨q,fun m hm=>?_,?_,by omega⟩
       ·obtain⟨m,rfl⟩:∃i,m=i+1:=⟨m - 1,by omega⟩
        rw [qZ];exact q1 m (by omega)
       ·have e3:es.length*(12*4^d - 4)≤4*(12*4^d - 4):=Nat.mul_le_mul_right _ e1;have e4:Ws (jQ [])=0:=rfl;rw [Nat.pow_succ];omega
   obtain⟨r,k1,k3⟩:=key;rw [gBt];unfold gM0;cases hf:decide (mQ facts g≥0)with
   | true=>simp only [kJ];exact hfound (d+1) g hf
   | false=>
     simp only [gZ];rw [show decide (((d+1:Nat):Int)≤0)=false from decide_eq_false (by omega)];simp only [gZ,lt_];cases (uC w g.trait).1.auto with
     | true=>
       obtain⟨c,hc⟩:=hFp hw facts 5000 g [] (by simp) (by simp) hg.tok;simp only [kJ];rw [kX hc];cases (c != 0)with
       | true=>exact⟨_,rfl,hzero _ (d+1)⟩
       | false=>exact⟨_,rfl,(hFo _ _ _).more (by omega),fun _=>hLa (.inr rfl) _⟩
     | false=>
       simp only [gZ];cases h1:cnd (g.type_.kind==1) true (g.type_.kind==3)with
       | true=>exact⟨_,rfl,hzero _ (d+1)⟩
       | false=>
         simp only [gZ];cases h4:(g.type_.kind==4)with
         | true=>
           have hn:g.type_.name=gTi:=hQ6 hg.dy h4;obtain⟨⟨p,ok⟩,p1,p2⟩:=hLc hw g.trait;obtain rfl:p=[]:=p2;simp only [kJ];rw [hn,kX p1];cases ok with
           | true=>
             refine⟨(⟨4,0,⟨0,0⟩,[]⟩,0),rfl,(hFo _ _ _).more (by omega),fun _=>?_⟩
             obtain⟨e,e1,e2⟩:=hRz (w:=w) [] 4 0 0 0 [] 0 (by simp) ⟨(⟨2,⟨0,0⟩,[],[]⟩,true),fun m hm=>by obtain⟨m,rfl⟩:∃j,m=j+1:=⟨m - 1,by omega⟩
                                                                                                        rfl,by rw [KK,gWb];simp [jQ,Ws,dd,dds]⟩
             cases e1;exact e2.more (by omega)
           | false=>
             simp only [gZ];rw [k1];exact⟨_,rfl,k3⟩
         | false=>
           simp only [gZ];rw [k1];exact⟨_,rfl,k3⟩
end
section
variable {w:gG}(hw:WD w){all:List gI}(hS:SW w all)
include hw hS
theorem hV3{g:gU}(hg:GJ 0 g.type_):∃r,gL5 w [] g=some r∧EZ w 12 r.1:=by
 obtain⟨r,f,_,q⟩:=hLf hw hS (facts:=[]) (fun a ha=>by simp at ha) 12 0 5000 g (by omega) (by omega) hg;unfold gL5;rw [kX (show gIp w []=some [] from rfl),show gBt 5000 w [] g 12=some r from f];exact⟨_,rfl,q rfl⟩
end
theorem TK.gj{t:gF}(h:TK 17 t):GJ 0 t:=⟨h.1,h.2.1,by have:=h.2.2;simp only [Nat.pow_zero];omega,by have:=h.2.2;have:=hOa t;omega⟩
theorem jAv{c:kP}(hc:gHv c):Dk (fun g=>GJ 0 g.type_) (gOe c):=by
 have nn:∀{k:Int},(4:Int)≠k→k=4→(k=4→False):=fun h e=>absurd e.symm h;have hT:∀{s:LB},TK 2 ⟨2,s,[]⟩:=.nil fun h=>absurd h (by decide);unfold gOe;refine dkB (tyK [[97],[98]] (by simp) 5000 3 (by omega) (by omega) _ hc) fun t c1 k1 ht=>dkB (hVg k1 (by omega) (by omega)) fun x c2 k2 _=>?_
 have fin:∀{f:Option (LB × Int × Int × Int × LB × List gF)}(q:kP)(u:gF),gHv q→TK 17 u→f=some (q.b,q.i,q.h,u.kind,u.name,u.args)→
   Dk (fun g=>GJ 0 g.type_) (bnd f fun b3=>bnd (gDc (kP.mk b3.1 b3.2.1 b3.2.2.1) [[115,104,111,119],[115,104,111,119],[101,113],[111,114,100],[97,100,100],[115,101,110,100],[122,122]]) fun ab=>some ((gU.mk ab.1 (gF.mk b3.2.2.2.1 b3.2.2.2.2.1 b3.2.2.2.2.2)),ab.2)):=fun q u k3 hu e=>by
  subst e;refine dkB (hTi (c:=q) k3 (by simp) (by simp)) fun y c4 k4 _=>dkS k4 ?_;obtain⟨a,b,d⟩:=u;exact hu.gj
 cases h0:(x==0)with
 | true=>
   obtain⟨u,q,e,k3,hu⟩:=jAo 2 (by omega) k2;exact fin q u k3 (hu.more (by omega)) (by simp only [kJ];exact kX e)
 | false=>
   cases h1:(x==1)with
   | true=>exact fin c2 ⟨2,[116,97,103],[]⟩ k2 (hT.more (by omega)) (by simp only [kJ,gZ];exact kX (gVn _ _ (by simp)))
   | false=>
     cases h2:(x==2)with
     | true=>
       obtain⟨s,q,e,k3,_⟩:=hTi (l:=[[116,97,103],[105,110,116],[98,111,111,108]]) k2 (by simp) (by simp);exact fin q ⟨2,[108,105,115,116],[⟨2,s,[]⟩]⟩ k3 ((hT.one fun h=>absurd h (by decide)).more (by omega)) (by simp only [kJ,gZ];rw [kX e,kX (gVn _ _ (by simp)),kX (gVn _ _ (by simp))])
     | false=>exact fin c2 t k2 (ht.more (by omega)) (by simp only [gZ])
def DOK(d:gJ):Prop:=W (jP d)≤4294967296∧dd d≤100
theorem jAw{w:gG}(hw:WD w){all:List gI}(hS:SW w all){c:kP}(hc:gHv c):Dk DOK (gOj c w):=by
 unfold gOj;refine dkB (jIk hc (by omega) (by omega)) fun x c1 q _=>dkC (fun _=>?_) fun _=>?_
 ·refine dkB (hVg q (by omega) (by omega)) fun y c2 f _=>dkB (hVg f (by omega) (by omega)) fun z c3 k3 hz=>dkG ⟨hz.1,by simp;omega⟩ (dkS k3 ?_);have hW:∀k:Int,W (jP ⟨k,⟨0,0⟩,([0,1]:List Int).take (Int.toNat z),[]⟩)≤2:=fun k=>by
   rw [gWb]
   have:=List.length_take_le' (Int.toNat z) ([0,1]:List Int)
   have h2:([0,1]:List Int).length=2:=rfl;simp only [jQ,Ws,List.length_nil];omega
  exact⟨Nat.le_trans (hW _) (by omega),by simp [dd,dds]⟩
 ·refine dkB (jAv q) fun g c2 f hg=>?_;obtain⟨r,r1,z,z1,z2,z3⟩:=hV3 hw hS hg;refine dkO r1 (dkO (z1 5000 (by omega)) (dkC (fun _=>dkS f ?_) fun _=>dkS f ?_))
  ·exact⟨by rw [gWb];simp [jQ,Ws],by simp [dd,dds]⟩
  ·have:(4:Nat)^12=16777216:=by decide
   exact⟨by show W (jP z.1)≤_;omega,by show dd z.1≤_;omega⟩
def uU(a1:List pQ)(f:gJ)(a4:LB)(x1:jF × Bool):List gJ→(List gJ)→Option (Int × List gJ)
 | [],y6=>(cnd (decide ((qF a1 2 f.at_.package f.at_.at_ (wB x1.1 a4)) < 0)) (some ((-1),[])) (some ((qF a1 2 f.at_.package f.at_.at_ (wB x1.1 a4)),y6)))
 | q::xs,y6=>gd (W (jP q)≤4294967296) (lt_ (idX q) fun y=>
gd (y6.length+[y].length≤4294967296) (
uU a1 f a4 x1 xs (y6++[y])))
def gCm(a0:gG)(a1:List pQ)(f:gJ)(a3:LB)(a4:LB):Option (Int × List gJ):=
bnd (yZ a0 f.at_) fun x1=>
lt_ (cnd (f.kind != 1) (true) (!x1.2)) fun b2=>
(cnd b2 (some ((-1),[])) (cnd (decide ((wB x1.1 a4)≥0)) (
uU a1 f a4 x1 f.args []) (
bnd (gWj a0 a1 a3 a4) fun q=>
gd (W (jP f)≤4294967296) (lt_ (idX f) fun y=>
gd (([]:List gJ).length+[y].length≤4294967296) (cnd (decide (q < 0)) (some ((-1),[])) (some (q,([]++[y]))))))))
theorem gTz(a0:gG)(a1:List pQ)(a2:gJ)(a3:LB)(a4:LB){r:Int × List gJ}(h:gCm a0 a1 a2 a3 a4=some r):gW Tryz.prog 7 [.d (jX a0),.L 21 (zR a1),.d (jP a2),.S a3,.S a4] [.i .i64 r.1,.sl 5 (jQ r.2)]:=by
 obtain⟨a8⟩:=a0;obtain⟨aq,⟨ad,ae⟩,ar,am⟩:=a2;unfold gCm at h;refine SpI Tryz.func7 fun A _=>?_;refine goL ?_;obtain⟨⟨⟨ag,ah,⟨f,q,y⟩,ai,aj,ak,⟨aa,ab,ac⟩,al⟩,bl⟩,bu,h⟩:=gK h;refine gX (gD (gDx _ _ bu)) ?_;obtain⟨b2,hb2,h⟩:=pI h;refine kG ⟨[(1,.L 21 (zR a1)),(3,.S a3),(4,.S a4),(5,.ptr 0 0),(7,.ptr 1 0),(12,.ptr 2 0),(31,.B b2)],[bPr a8,.box [.I aq,.I ad,.I ae,.L 1 (yC ar),.L 5 (jQ am)],bIn ag ah f q y ai aj ak aa ab ac al],Tryz.f7.ntmps⟩ ?_ ?_
 ·exact gqZ 28 hb2
 refine goC h ?_ ?_<;>intro c4 h
 ·refine goL ?_;refine qO ?_;refine goL ?_;refine jS 3 rfl rfl ?_;refine jH ?_;cases h;exact mM
 ·refine goS ?_;refine gX (gD (hNo (jF.mk ag ah (gF.mk f q y) ai aj ak (gF.mk aa ab ac) al) a4)) ?_;refine qO ?_;refine goC h ?_ ?_<;>intro c5 h
  ·refine goL ?_;refine gX (gD (gW8 a1 2 ad ae (wB (jF.mk ag ah (gF.mk f q y) ai aj ak (gF.mk aa ab ac) al) a4))) ?_;refine noB ?_;refine pG 1 4 (fun z9=>?_);refine kQ (fun(y8:Nat)(y6:List gJ)(v7:Nat)=>⟨[(7,.ptr 1 0),(15,.d (.i .i64 (qF a1 2 ad ae (wB (jF.mk ag ah (gF.mk f q y) ai aj ak (gF.mk aa ab ac) al) a4)))),(16,.sl 3 v7),(17,.N y8)],[bPr a8,.box [.I aq,.I ad,.I ae,.L 1 (yC ar),.L 5 (jQ am)],bIn ag ah f q y ai aj ak aa ab ac al,.arr 33 5 v7 (jQ y6)],Tryz.f7.ntmps⟩) (fun y8 y6 v7=>uU a1 (gJ.mk aq (gI.mk ad ae) ar am) a4 ((jF.mk ag ah (gF.mk f q y) ai aj ak (gF.mk aa ab ac) al),bl) (am.drop y8) y6=some r) (fun y8 y6 v7=>am.length - y8) 0 [] 0 eJ h ?_;rintro y8 y6 v7 h;refine goL ?_;refine kN (fun ba=>?_) (fun ba=>?_)
   ·have ap:=qB ba;obtain⟨bv,bm,bb⟩:=drop_at ap;rw [bb,uU.eq_2] at h;obtain⟨bc,⟨au,av⟩,bd,be⟩:=bv;refine noS ?_;refine kC (gP ?_);refine goL ?_;refine gX (gV y8 (gA7 bm)) ?_;obtain⟨bw,h⟩:=mI h;obtain⟨⟨aw,⟨an,ao⟩,ax,ay⟩,bn,h⟩:=pI h;have sx13:=(gUx (gJ.mk bc (gI.mk au av) bd be) bw).p;rw [bn] at sx13;refine pX (gD (sx13)) ?_;refine uN (u:=(.st [.i .i64 aw,.st [.i .i64 an,.i .i64 ao],.sl 1 (yC ax),.sl 5 (jQ ay)])) ?_;obtain⟨bx,h⟩:=mI h;refine vR bx ?_;refine goL ?_;refine gX (jK y8 (by omega)) ?_;exact⟨(y8+1),(y6++[(gJ.mk aw (gI.mk an ao) ax ay)]),(v7+1),h,by omega,eJ⟩
   ·have ap:=qC ba;rw [gT ap,uU.eq_1] at h;refine goX ?_;refine kN (fun bf=>?_) (fun bf=>?_)
    ·replace h:=jU bf h;refine goL ?_;refine qO ?_;refine goL ?_;refine jS 4 rfl rfl ?_;refine jH ?_;cases h;exact mM
    ·replace h:=jV bf h;refine goS ?_;refine jS 3 rfl rfl ?_;refine jH ?_;cases h;exact mM
  ·refine goL ?_;obtain⟨b3,bo,h⟩:=gK h;refine gX (gD (hBy _ _ _ _ bo)) ?_;obtain⟨bz,h⟩:=mI h;obtain⟨⟨bg,⟨a5,a6⟩,bh,bi⟩,bp,h⟩:=pI h;have sx18:=(gUx (gJ.mk aq (gI.mk ad ae) ar am) bz).p;rw [bp] at sx18;refine pX (gD (sx18)) ?_;refine uN (u:=(.st [.i .i64 bg,.st [.i .i64 a5,.i .i64 a6],.sl 1 (yC bh),.sl 5 (jQ bi)])) ?_;obtain⟨b0,h⟩:=mI h;refine vR b0 ?_;refine goC h ?_ ?_<;>intro b4 h
   ·refine goL ?_;refine qO ?_;refine goL ?_;refine jS 5 rfl rfl ?_;refine jH ?_;cases h;exact mM
   ·refine goS ?_;refine jS 3 rfl rfl ?_;refine jH ?_;cases h;exact mM
def zG(a0:LB):Option (gG × List pQ × gJ × LB × LB):=
lt_ (gOo a0) fun x1=>
bnd (gPe x1) fun f=>
bnd (gAi f.1) fun x3=>
bnd (gOj f.2 f.1) fun q=>
bnd (gDc q.2 [[115,104,111,119],[101,113],[97,100,100]]) fun y=>
bnd (gDc y.2 [[109],[116,119,111],[115,97,109,101],[112,108,117,115]]) fun x6=>
(some (f.1,x3.1,q.1,y.1,x6.1))
theorem gP7(a0:LB){r:gG × List pQ × gJ × LB × LB}(h:zG a0=some r):gW Tryz.prog 5 [.L 1 (gHs a0)] [jX r.1,.sl 21 (zR r.2.1),jP r.2.2.1,.s r.2.2.2.1,.s r.2.2.2.2]:=by
 unfold zG at h;refine SpI Tryz.func5 fun A _=>?_;refine goL ?_;obtain⟨⟨f,q,y⟩,aw,h⟩:=pI h;have sx1:=hTm a0;rw [aw] at sx1;refine gLg [] (sx1) ?_;rintro _ _ ⟨rfl,rfl⟩;show VO _ _ _ _ ⟨(_,.ptr 2 0)::_,[.box [.nilsl],.box [.I 0,.I 0,.I 0,.nilsl,.nilsl],bCu f q y],_⟩ _;refine goL ?_;obtain⟨⟨⟨ac⟩,⟨ad,ae,ag⟩⟩,ax,h⟩:=gK h;refine gCt 2 (hNz (kP.mk f q y) ax) ?_;refine goL ?_;obtain⟨⟨a5,a6⟩,ay,h⟩:=gK h;refine pX (gD (gQ3 _ ay)) ?_;refine gCj ?_;refine sZ 0 ?_;refine goW ?_;obtain⟨⟨⟨ah,⟨aa,ab⟩,ai,aj⟩,⟨ak,al,am⟩⟩,a2,h⟩:=gK h;refine gSk (LH.c1 2 (hJ8 _ _ a2)) ?_;refine goW ?_;refine uK (us:=kD [[115,104,111,119],[101,113],[97,100,100]]) ?_;obtain⟨⟨a7,⟨an,ao,ap⟩⟩,a3,h⟩:=gK h;refine gSk (LH.c1 2 (gLw _ _ a3)) ?_;refine goW ?_;refine uK (us:=kD [[109],[116,119,111],[115,97,109,101],[112,108,117,115]]) ?_;obtain⟨⟨a8,⟨aq,ar,au⟩⟩,a4,h⟩:=gK h;refine gSk (LH.c1 2 (gLw _ _ a4)) ?_;refine goW ?_;refine jY ?_;exact goR h
end Go.Proofs.YtfjncckelekpiaaGreat
