import Derived.Test.YtfjncckelekpiaaGreatEng8
import Derived.Still
import Derived.Laws.StructEq
import Derived.ChangeArms
import Derived.SizedLaws
namespace Go.Eng
open Go Go.RowKit
theorem jS {P:Program}{A:Amb}{fr:List (Nat × SV)}{L L':List LO}{N:Nat}{Q:Exit→St→Prop}{c:Code}(i:Nat){e z ver:Nat}{es:List U}(hL:L[i]? =some (.arr e z ver es))(hL':L.set i (.frz e z ver es)=L')
  (h:V P A c ⟨fr,L',N⟩ Q):V P A c ⟨fr,L,N⟩ Q:=by
 subst hL';exact fun a w hr=>h a w (mP.freeze (σ:=⟨fr,L,N⟩) hL hr)
theorem qV {P:Program}{A:Amb}{fr:List (Nat × SV)}{L L':List LO}{N:Nat}{K:St→Prop}{ops:Array Oper}{rest:List Oper}(i:Nat){e z ver:Nat}{es:List U}(hL:L[i]? =some (.arr e z ver es))(hL':L.set i (.frz e z ver es)=L')
  (h:VO P A ops rest ⟨fr,L',N⟩ K):VO P A ops rest ⟨fr,L,N⟩ K:=by
 subst hL';exact fun R hR a w hr=>h R hR a w (mP.freeze (σ:=⟨fr,L,N⟩) hL hr)
def VA(L:List LO):SV→SV→Prop
 | sv,.d u=>VD L sv u
 | .fn f caps,.fn f' caps'=>f=f'∧caps=caps'∧SV.lts 0 caps=true
 | _,_=>False
def VAs(L:List LO):List SV→List SV→Prop
 | [],[]=>True
 | a::az,b::bs=>VA L a b∧VAs L az bs
 | _,_=>False
mutual
theorem SVr.bare{S:Nat→Prop}{L:List LO}{env:List Value}{w:World}:∀(sv:SV)(v:Value),sv.lt 0=true→SVr S L env w sv v→∀L' env',SVr S L' env' w sv v
 | .junk,v,_,_,_,_=>by simp only [SVr]
 | .d u,v,_,h,_,_=>by simpa only [SVr] using h
 | .ag cs,v,hl,h,L',env'=>by
   simp only [SVr] at h ⊢;obtain⟨vs,h1,h2⟩:=h;exact⟨vs,h1,kV.bare cs vs (by simpa only [SV.lt] using hl) h2 L' env'⟩
 | .ptr i off,v,hl,_,_,_=>by simp [SV.lt] at hl
 | .sl i ver,v,hl,_,_,_=>by simp [SV.lt] at hl
 | .dp u,v,_,h,_,_=>by simpa only [SVr] using h
 | .ep i ver z k off,v,hl,_,_,_=>by simp [SV.lt] at hl
 | .fn f cs,v,hl,h,L',env'=>by
   simp only [SVr] at h ⊢;obtain⟨vs,h1,h2⟩:=h;exact⟨vs,h1,kV.bare cs vs (by simpa only [SV.lt] using hl) h2 L' env'⟩
 | .tup cs,v,hl,h,L',env'=>by
   simp only [SVr] at h ⊢;obtain⟨vs,h1,h2⟩:=h;exact⟨vs,h1,kV.bare cs vs (by simpa only [SV.lt] using hl) h2 L' env'⟩
 | .nilsl,v,_,h,_,_=>by simpa only [SVr] using h
theorem kV.bare{S:Nat→Prop}{L:List LO}{env:List Value}{w:World}:∀(svs:List SV)(vs:List Value),SV.lts 0 svs=true→kV S L env w svs vs→∀L' env',kV S L' env' w svs vs
 | [],[],_,_,_,_=>by simp only [kV]
 | sv::svs,v::vs,hl,h,L',env'=>by
   simp only [SV.lts,Bool.and_eq_true] at hl;simp only [kV] at h ⊢;exact⟨SVr.bare sv v hl.1 h.1 L' env',kV.bare svs vs hl.2 h.2 L' env'⟩
 | [],_::_,_,h,_,_=>by simp [kV] at h
 | _::_,[],_,h,_,_=>by simp [kV] at h
end
theorem VA.r{A:Amb}{S:Nat→Prop}{L:List LO}{env:List Value}{w:World}(hH:pU A S L env w){sv sv':SV}{v:Value}(h:VA L sv sv')(hv:SVr S L env w sv v):SVr S [] [] w sv' v:=by
 cases sv' with
 | d u=>
   have:=VD.r hH (show VD L sv u by cases sv<;>exact h) hv
   exact SVr.bare _ _ rfl this _ _
 | fn f' caps'=>
   cases sv with
   | fn f caps=>
     obtain⟨rfl,rfl,h3⟩:=h;exact SVr.bare _ _ (by simpa only [SV.lt] using h3) hv _ _
   | _=>exact h.elim
 | _=>cases sv<;>exact h.elim
theorem VAs.r{A:Amb}{S:Nat→Prop}{L:List LO}{env:List Value}{w:World}(hH:pU A S L env w):∀{svs svs':List SV}{vs:List Value},VAs L svs svs'→kV S L env w svs vs→kV S [] [] w svs' vs
 | [],[],[],_,_=>by simp [kV]
 | sv::svs,sv'::svs',v::vs,h,hv=>by
   simp only [kV] at hv ⊢;exact⟨VA.r hH h.1 hv.1,VAs.r hH h.2 hv.2⟩
 | [],_::_,_,h,_=>h.elim
 | _::_,[],_,h,_=>h.elim
 | [],[],_::_,_,h=>by simp [kV] at h
 | _::_,_::_,[],_,h=>by simp [kV] at h
def mkR:List U→SV
 | [u]=>.d u
 | us=>.tup (us.map .d)
def gW(P:Program)(f:Nat)(args:List SV)(us:List U):Prop:=Spec P f args [] (fun r L'=>r=mkR us∧L'=[])
theorem hB8(n:Nat):∀(us:List U),SV.lts n (us.map .d)=true
 | []=>rfl
 | _::us=>by simp [SV.lts,SV.lt,hB8 n us]
theorem hFy(us:List U):(mkR us).lt 0=true:=by
 match us with
 | []=>rfl
 | [u]=>rfl
 | u::v::us=>simp [mkR,SV.lt,SV.lts,hB8]
section
variable {P:Program}{A:Amb}{σ:St}{K:St→Prop}
variable {dst:Option Nat}{ty:TypeId}{pos:String}{af:Array Edge}{g:Option (Nat × Bool)}{x y:Operand}{sv:SV}
theorem pU.enter(A:Amb)(S:Nat→Prop){L:List LO}{env:List Value}{w:World}(hH:pU A S L env w):pU ⟨w,S,fun _=>False,[],[]⟩ S [] [] w:=
 ⟨rfl,fun i o hv h=>by simp at h,fun i o hv b h=>by simp at h,fun i j o o' hv hv' b h=>by simp at h,hH.sS,fun b hb=>.inl hb,fun _ _ _=>rfl,Nat.le_refl _,rfl,rfl,rfl,Base.nil rfl,hH.gok (fun _ h=>h.elim)⟩
theorem hLy {f:Operand}{fi:Nat}{caps:List SV}{args:Array Operand}{at_:Array TypeId}{dargs:List SV}{us:List U}(hf:σ.ev f=.fn fi caps)
  (hspec:gW P fi dargs us) (hargs:VAs σ.L (args.toList.map σ.ev++caps) dargs) :
  Quiet P A σ ⟨dst,.call { callee:=.value f,args:=args,argTypes:=at_ },ty,pos,af,g⟩ (mkR us):=by
 intro S env a w hH hx next R hn
 have h1:=hx f (by simp [Op.operands,Call.operands]);rw [hf] at h1;simp only [SVr] at h1;obtain⟨cvs,h1,h2⟩:=h1;have h3:kV S σ.L env w (args.toList.map σ.ev) (args.toList.map a.eval):=by
  rw [kV.iff]
  have:∀(l:List Operand),(∀x∈l,SVr S σ.L env w (σ.ev x) (a.eval x))→zX (SVr S σ.L env w) (l.map σ.ev) (l.map a.eval):=by
   intro l
   induction l with
   | nil=>intro _;trivial
   | cons x l ih=>intro h;exact⟨h x (by simp),ih (fun y hy=>h y (by simp [hy]))⟩
  exact this _ (fun x hx'=>hx x (by simp [Op.operands,Call.operands];exact .inr (by simpa using hx')))
 have h4:kV S σ.L env w (args.toList.map σ.ev++caps) (args.toList.map a.eval++cvs):=by
  rw [kV.iff] at h2 h3 ⊢;exact zX.append h3 h2
 have h5:=VAs.r hH hargs h4;obtain⟨⟨fn,c1,c2,c3⟩,hs⟩:=hspec;have hrun:(execOp a.eval ⟨dst,.call { callee:=.value f,args:=args,argTypes:=at_ },ty,pos,af,g⟩).run P w=.ok (.enter fi (args.toList.map a.eval++cvs).toArray) w:=by
  have harr:args.map a.eval++cvs.toArray=(args.toList.map a.eval++cvs).toArray:=by apply Array.ext';simp
  simp only [execOp,resolve,h1,Deferred.ofValue,Sem.run_bind,Sem.run_pure,Result.andThen_ok,invoke,callFunc,run_program,c1,c2,c3,Bool.false_eq_true,if_false,Array.empty_append,harr]
 unfold Oper.wp;rw [hrun];simp only [Oper.upon];refine(hs ⟨w,S,fun _=>False,[],[]⟩ S [] w _ rfl rfl rfl rfl (pU.enter A S hH) h5).mono ?_;rintro e w' ⟨r,sv,S',L',env',rfl,⟨rfl,rfl⟩,hH',hr⟩;have hold:∀b,b < w.heap.size→w'.heap[b]? =w.heap[b]? :=fun b hb=>hH'.frame b hb (fun h=>h);have C:Carry S σ.L env w (fun b=>S b∨S' b) σ.L env w':=⟨fun b h _=>.inl h,fun b _ hb=>hold b hb,fun _ _ h=>h,fun _ _ _ h1 h2=>⟨_,_,h1,h2,Nat.le_refl _,fun _=>rfl⟩⟩
 have hS':∀b,S' b→S b∨w.heap.size≤b:=fun b hb=>by
  rcases hH'.sA b hb with h | h | h
  ·exact .inl h
  ·exact h.elim
  ·exact .inr h
 have hfe:∀(i:Nat)(o':LO)(hv':Value),σ.L[i]? =some o'→o'.live=true→env[i]? =some hv'→∀b,o'.ft w' hv' b→o'.ft w hv' b:=fun i o' hv' h1 hl h2 b hb'=>
  (LO.ft_eq (hH.objs i o' hv' h1 h2) (fun k hk=>hold k (hH.excl i o' hv' k h1 hl h2 hk).2.2) b).1 hb'
 refine hn r w' (fun b=>S b∨S' b) ⟨hH.len,?_,?_,fun i j o o' hv hv' b k1 k2 l1 l2 m1 m2 n1 n2=>hH.dist i j o o' hv hv' b k1 k2 l1 l2 m1 m2 (hfe i o hv k1 l1 m1 b n1) (hfe j o' hv' k2 l2 m2 b n2),?_,?_,?_,Nat.le_trans hH.size hH'.size,hH'.os.trans hH.os,hH'.tape.trans hH.tape,hH'.output.trans hH.output,hH.base,hH.glob⟩ C ?_
 ·intro i o hv k1 k2;exact gLm.carry C (fun b hl hb=>hold b (hH.excl i o hv b k1 hl k2 hb).2.2) (hH.objs i o hv k1 k2)
 ·intro i o hv b k1 hl k2 hb
  have:=hH.excl i o hv b k1 hl k2 (hfe i o hv k1 hl k2 b hb)
  refine⟨fun hs=>hs.elim this.1 (fun hs=>?_),this.2.1,Nat.lt_of_lt_of_le this.2.2 hH'.size⟩;rcases hS' b hs with h | h
  ·exact this.1 h
  ·omega
 ·intro b hb;rcases hb with hb | hb
  ·exact Nat.lt_of_lt_of_le (hH.sS b hb) hH'.size
  ·exact hH'.sS b hb
 ·intro b hb;rcases hb with hb | hb
  ·exact hH.sA b hb
  ·rcases hS' b hb with h | h
   ·exact hH.sA b h
   ·exact .inr (.inr (Nat.le_trans hH.size h))
 ·intro b h1 h2;rw [hold b (Nat.lt_of_lt_of_le h1 hH.size)];exact hH.frame b h1 h2
 ·have C2:Carry S' [] env' w' (fun b=>S b∨S' b) [] env' w':=⟨fun b h _=>.inr h,fun _ _ _=>rfl,fun _ _ h=>h,fun _ _ _ h1 h2=>⟨_,_,h1,h2,Nat.le_refl _,fun _=>rfl⟩⟩
  exact SVr.bare _ _ (hFy us) (SVr.carry C2 _ _ hr) _ _
theorem hB9{n:Nat}{vs:List SV}(hx:σ.ev x=.tup vs)(hn:vs[n]? =some sv):Quiet P A σ ⟨dst,.extract x n,ty,pos,af,g⟩ sv:=Quiet.pure fun S env a w hH ho=>by
 have h1:=ho x (by simp [Op.operands]);rw [hx] at h1;simp only [SVr] at h1;obtain⟨ws,h2,h3⟩:=h1;obtain⟨v,h4,h5⟩:=kV.get h3 n sv hn;exact⟨v,by simp [execOp,h2,Instr.extract,h4],h5⟩
def gO2:Nat→List SV→List (Nat × SV)
 | _,[]=>[]
 | i,sv::svs=>(i,sv)::gO2 (i+1) svs
theorem gL0{S:Nat→Prop}{L:List LO}{env:List Value}{w:World}:∀(svs:List SV)(vs:List Value)(i:Nat)(pre post:List Value),pre.length=i→kV S L env w svs vs→∀t,SVr S L env w (look (gO2 i svs) t) ((pre++vs++post).toArray.getD t undef)
 | [],[],i,pre,post,_,_,t=>by simp [gO2,look,SVr]
 | sv::svs,v::vs,i,pre,post,hi,h,t=>by
   simp only [kV] at h;simp only [gO2,look];split
   ·rename_i ht;subst ht
    have:((pre++v::vs++post).toArray.getD t undef)=v:=by simp [Array.getD_eq_getD_getElem?,←hi]
    rw [this];exact h.1
   ·have:=gL0 svs vs (i+1) (pre++[v]) post (by simp [hi]) h.2 t
    simpa using this
 | [],_::_,_,_,_,_,h,_=>by simp [kV] at h
 | _::_,[],_,_,_,_,h,_=>by simp [kV] at h
def hTz(tmps:Array Value):ResultVar→Sem Value
 | .tmp t=>pure (tmps.getD t undef)
 | .cell a t=>do loadVar t (←asAddr (tmps.getD a undef))
theorem gS5(fn:Func)(tmps:Array Value):results fn tmps=(do
 let vs←fn.results.mapM (hTz tmps)
 pure (if h:vs.size=1 then vs[0] else .tuple vs)):=by
 unfold results;congr 1
def hHu(P:Program)(σ:St):ResultVar→SV→Prop
 | .tmp t,sv=>look σ.fr t=sv
 | .cell a T,sv=>∃i off cs g n bs,look σ.fr a=.ptr i off∧σ.L[i]? =some (.box cs)∧tyI P T=some (g,n,bs)∧
   (if g then Nat.ble (off+n) cs.length=true∧sv=.ag ((cs.drop off).take n)else n=1∧cs[off]? =some sv)
theorem gMg{σ:St}{a i off n bs:Nat}{T:TypeId}{cs ds:List SV}(h1:look σ.fr a=.ptr i off)(h2:σ.L[i]? =some (.box cs))(h3:tyI P T=some (true,n,bs))(h4:Nat.ble (off+n) cs.length=true)(h5:(cs.drop off).take n=ds):hHu P σ (.cell a T) (.ag ds):=
 ⟨i,off,cs,true,n,bs,h1,h2,h3,by simp only [if_true];exact⟨h4,by rw [h5]⟩⟩
theorem hHu.run{σ:St}{S:Nat→Prop}{env:List Value}{a:Act}{w:World}(hH:pU A S σ.L env w)(hf:∀t,SVr S σ.L env w (look σ.fr t) (a.tmps.getD t undef)){r:ResultVar}(h:hHu P σ r sv) :
  ∃v,(hTz a.tmps r).run P w=.ok v w∧SVr S σ.L env w sv v:=by
 cases r with
 | tmp t=>exact⟨_,rfl,h▸hf t⟩
 | cell x T=>
   obtain⟨i,off,cs,g,n,bs,h1,h2,h3,h4⟩:=h;have k1:=hf x;rw [h1] at k1;simp only [SVr] at k1;obtain⟨b,k2,k3⟩:=k1;obtain⟨b',vals,e,m1,m2,m3,m4⟩:=hH.objs i _ _ h2 k2;simp only [Value.pointer.injEq,Option.some.injEq,Addr.mk.injEq,and_true] at m1;subst m1;have hlen:=kV.length m3;cases g with
   | true=>
     simp only [if_true] at h4;obtain⟨hn,rfl⟩:=h4;have hn':=Nat.le_of_ble_eq_true hn;have hl:((vals.toList.drop off).take n).length=n:=by simp at hlen ⊢;omega
     have:=gH8 h3 w b off ((vals.toList.drop off).take n) hl ⟨vals,e,(0,0),m2,fun j hj=>by
      rw [hl] at hj;rw [List.getElem?_take,if_pos hj,List.getElem?_drop]
      simp⟩ (fun h=>by cases h)
     refine⟨.agg ((vals.toList.drop off).take n).toArray,by simp [hTz,k3,asAddr,this],?_⟩;simp only [SVr];exact⟨_,rfl,(kV.iff _ _).2 (zX.take n (zX.drop off ((kV.iff _ _).1 m3)))⟩
   | false=>
     simp only [Bool.false_eq_true,if_false] at h4;obtain⟨hn,h4⟩:=h4;subst hn;obtain⟨v,m5,m6⟩:=kV.get m3 off sv h4
     have:=gH8 h3 w b off [v] rfl ⟨vals,e,(0,0),m2,fun j hj=>by simp at hj;subst hj;simpa using m5⟩ (fun _=>rfl)
     exact⟨v,by simp [hTz,k3,asAddr,this],m6⟩
def hD9(P:Program)(σ:St):List ResultVar→List U→Prop
 | [],[]=>True
 | r::rs,u::us=>(∃sv,hHu P σ r sv∧VD σ.L sv u)∧hD9 P σ rs us
 | _,_=>False
theorem hD9.run{σ:St}{S:Nat→Prop}{env:List Value}{a:Act}{w:World}(hH:pU A S σ.L env w)(hf:∀t,SVr S σ.L env w (look σ.fr t) (a.tmps.getD t undef)) :
  ∀(rs:List ResultVar)(us:List U),hD9 P σ rs us→∃vs:List Value,
   (rs.mapM (hTz a.tmps)).run P w=.ok vs w∧kV S σ.L env w (us.map .d) vs
 | [],[],_=>⟨[],by simp,by simp [kV]⟩
 | r::rs,u::us,h=>by
   obtain⟨⟨sv,h1,h2⟩,h3⟩:=h;obtain⟨v,k1,k2⟩:=hHu.run hH hf h1;obtain⟨vs,k3,k4⟩:=hD9.run hH hf rs us h3;refine⟨v::vs,?_,?_⟩
   ·simp only [List.mapM_cons,Sem.run_bind];rw [k1];simp only [Result.andThen_ok];rw [k3];rfl
   ·simp only [List.map_cons,kV];exact⟨VD.r hH h2 k2,k4⟩
 | [],_::_,h=>h.elim
 | _::_,[],h=>h.elim
def vF(P:Program)(fn:Func)(us:List U)(e:Exit)(σ:St):Prop:=(match e with | .normal=>True | .ret=>True | _=>False)∧hD9 P σ fn.results.toList us
theorem jAy{S:Nat→Prop}{L:List LO}{env:List Value}{w:World}{us:List U}{vs:List Value}(h:kV S L env w (us.map .d) vs):SVr S L env w (mkR us) (if h:vs.toArray.size=1 then vs.toArray[0] else .tuple vs.toArray):=by
 match us,vs,h with
 | [],[],_=>simp only [mkR,SVr];exact⟨[],by simp,by simp [kV]⟩
 | [u],[v],h=>simpa [mkR,kV] using h
 | u::u'::us,v::v'::vs,h=>simp only [mkR,SVr];exact⟨v::v'::vs,by simp,h⟩
 | [_],[],h=>simp [kV] at h
 | [_],_::_::_,h=>simp [kV] at h
 | _::_::_,[_],h=>simp [kV] at h
 | [],_::_,h=>simp [kV] at h
 | _::_::_,[],h=>simp [kV] at h
theorem gWk {f:Nat}{fn:Func}{c:Code}{args:List SV}{us:List U}(hf:P.funcs[f]? =some fn)(hb:fn.body=some c)(hname:(fn.name== "runtime.NumGoroutine")=false)
  (hn:Nat.ble args.length fn.ntmps=true) (h:∀A [gBp A 0],V P A c ⟨gO2 0 args,[],fn.ntmps⟩ (vF P fn us)):gW P f args us:=by
 refine⟨⟨fn,hf,hname,by rw [hb];rfl⟩,?_⟩;intro A S env w vs hw hS hl he hH hargs;have hb0:gBp A 0:=⟨by rw [hl];rfl⟩
 have hlen:=kV.length hargs;have henv:env=[]:=List.eq_nil_of_length_eq_zero (by simpa using hH.len);subst henv;have hn':=Nat.le_of_ble_eq_true hn;refine calls_of_wp hf hb ?_;refine wp_mono (h A _ w ⟨S,[],hH,fun t=>?_,?_,rfl⟩) ?_
 ·have:=gL0 args vs 0 [] (List.replicate (fn.ntmps - vs.length) undef) rfl hargs t
  have e:vs.toArray++Array.replicate (fn.ntmps - vs.toArray.size) undef=([]++vs++List.replicate (fn.ntmps - vs.length) undef).toArray:=by apply Array.ext';simp
  rw [e];exact this
 ·simp;omega
 ·rintro e a' w' ⟨σ',⟨he,hres⟩,S',env',hH',hf',hN',hd'⟩;obtain⟨rvs,k1,k2⟩:=hD9.run hH' hf' fn.results.toList us hres;have hrun:(results fn a'.tmps).run P w'=.ok (if h:rvs.toArray.size=1 then rvs.toArray[0] else .tuple rvs.toArray) w':=by
   rw [gS5];simp only [Sem.run_bind];rw [←Array.toArray_toList (xs:=fn.results)];simp only [List.mapM_toArray,Sem.run_map];rw [k1];rfl
  have fin:∃r sv S'' L' env'',(Ending.returned (if h:rvs.toArray.size=1 then rvs.toArray[0] else .tuple rvs.toArray))=.returned r∧(sv=mkR us∧L'=[])∧pU A S'' L' env'' w'∧SVr S'' L' env'' w' sv r:=by
   refine⟨_,mkR us,S',[],[],rfl,⟨rfl,rfl⟩,?_,SVr.bare _ _ (hFy us) (jAy k2) _ _⟩
   have:=hH'.cut (L:=[]) (L2:=σ'.L) rfl (by rw [hl];exact Nat.le_refl _)
   simpa using this
  cases e with
  | normal=>exact⟨hd',_,hrun,fin⟩
  | ret=>exact⟨hd',_,hrun,fin⟩
  | exit id=>exact he.elim
  | goto l=>exact he.elim
  | panic c=>exact he.elim
  | outgrown=>exact he.elim
end
section
variable {P:Program}{A:Amb}{ops:Array Oper}{md:Region.Mode}{K:St→Prop}{σ σ':St}
def St.setO(σ:St)(d:Option Nat)(sv:SV):St:=
 match d with
 | some t=>σ.set t sv
 | none=>σ
def Gd(ops:Array Oper)(σ:St)(o:Oper)(b:Bool):Prop:=
 match o.guard with
 | none=>b=true
 | some (j,want)=>∃oj tj,ops[j]? =some oj∧oj.dst=some tj∧tj < σ.N∧((∃x,look σ.fr tj=.d (.b x)∧(x==want)=b)∨(look σ.fr tj=.tup []∧b=false))
def YS(P:Program)(A:Amb)(ops:Array Oper)(σ:St)(o:Oper)(sv:SV):Prop:=
 (∀d,o.dst=some d→Nat.blt d σ.N=true)∧((Gd ops σ o true∧Quiet P A σ o sv)∨(Gd ops σ o false∧(sv=.junk∨sv=.tup [])))
def VQ(P:Program)(A:Amb)(ops:Array Oper):List Oper→St→(St→Prop)→Prop
 | [],σ,K=>K σ
 | o::rest,σ,K=>∃sv,YS P A ops σ o sv∧VQ P A ops rest (σ.setO o.dst sv) K
theorem hR5(h:K σ):VQ P A ops [] σ K:=h
theorem jAz {rest:List Oper}{t:Nat}{op:Op}{ty:TypeId}{pos:String}{af:Array Edge}{sv:SV}{fr:List (Nat × SV)}{L:List LO}{N:Nat}
  (hq:Quiet P A ⟨fr,L,N⟩ ⟨some t,op,ty,pos,af,none⟩ sv) (ht:Nat.blt t N=true) (h:VQ P A ops rest ⟨(t,sv)::fr,L,N⟩ K) :
  VQ P A ops (⟨some t,op,ty,pos,af,none⟩::rest) ⟨fr,L,N⟩ K:=
 ⟨sv,⟨fun d hd=>by cases hd;exact ht,.inl ⟨rfl,hq⟩⟩,h⟩
theorem hFz {rest:List Oper}{t:Nat}{op:Op}{ty:TypeId}{pos:String}{af:Array Edge}{j tj:Nat}{want:Bool}{o':Oper}{sv:SV}
  (hj:ops[j]? =some o') (hdst:o'.dst=some tj) (htj:Nat.blt tj σ.N=true) (hb:look σ.fr tj=.d (.b want))
  (hq:Quiet P A σ ⟨some t,op,ty,pos,af,some (j,want)⟩ sv) (ht:Nat.blt t σ.N=true) (h:VQ P A ops rest (σ.set t sv) K) :
  VQ P A ops (⟨some t,op,ty,pos,af,some (j,want)⟩::rest) σ K:=
 ⟨sv,⟨fun d hd=>by cases hd;exact ht,.inl ⟨⟨o',tj,hj,hdst,by simpa [Nat.blt_eq] using htj,.inl ⟨want,hb,by simp⟩⟩,hq⟩⟩,h⟩
theorem hL8 {rest:List Oper}{t:Nat}{op:Op}{ty:TypeId}{pos:String}{af:Array Edge}{j tj:Nat}{want x:Bool}{o':Oper}
  (hj:ops[j]? =some o') (hdst:o'.dst=some tj) (htj:Nat.blt tj σ.N=true) (hb:look σ.fr tj=.d (.b x)) (hx:(x==want)=false)
  (ht:Nat.blt t σ.N=true) (h:VQ P A ops rest (σ.set t .junk) K) :
  VQ P A ops (⟨some t,op,ty,pos,af,some (j,want)⟩::rest) σ K:=
 ⟨.junk,⟨fun d hd=>by cases hd;exact ht,.inr ⟨⟨o',tj,hj,hdst,by simpa [Nat.blt_eq] using htj,.inl ⟨x,hb,hx⟩⟩,.inl rfl⟩⟩,h⟩
theorem hV9 {rest:List Oper}{t:Nat}{op:Op}{ty:TypeId}{pos:String}{af:Array Edge}{j tj:Nat}{want x:Bool}{o':Oper}{fr:List (Nat × SV)}{L:List LO}{N:Nat}
  (h:VQ P A ops rest ⟨(t,.tup [])::fr,L,N⟩ K) (hj:ops[j]? =some o':=by rfl) (hdst:o'.dst=some tj:=by rfl) (htj:Nat.blt tj N=true:=by rfl) (hb:look fr tj=.d (.b x):=by rfl) (hx:(x==want)=false:=by rfl)
  (ht:Nat.blt t N=true:=by rfl) :
  VQ P A ops (⟨some t,op,ty,pos,af,some (j,want)⟩::rest) ⟨fr,L,N⟩ K:=
 ⟨.tup [],⟨fun d hd=>by cases hd;exact ht,.inr ⟨⟨o',tj,hj,hdst,by simpa [Nat.blt_eq] using htj,.inl ⟨x,hb,hx⟩⟩,.inr rfl⟩⟩,h⟩
theorem hWb {rest:List Oper}{t:Nat}{op:Op}{ty:TypeId}{pos:String}{af:Array Edge}{j tj:Nat}{want:Bool}{o':Oper}{fr:List (Nat × SV)}{L:List LO}{N:Nat}
  (h:VQ P A ops rest ⟨(t,.tup [])::fr,L,N⟩ K) (hj:ops[j]? =some o':=by rfl) (hdst:o'.dst=some tj:=by rfl) (htj:Nat.blt tj N=true:=by rfl) (hb:look fr tj=.tup []:=by rfl)
  (ht:Nat.blt t N=true:=by rfl) :
  VQ P A ops (⟨some t,op,ty,pos,af,some (j,want)⟩::rest) ⟨fr,L,N⟩ K:=
 ⟨.tup [],⟨fun d hd=>by cases hd;exact ht,.inr ⟨⟨o',tj,hj,hdst,by simpa [Nat.blt_eq] using htj,.inr ⟨hb,rfl⟩⟩,.inr rfl⟩⟩,h⟩
structure Alike (σ σ':St):Prop where
 L:σ.L=σ'.L
 N:σ.N=σ'.N
 fr:∀t,look σ.fr t=look σ'.fr t
theorem Alike.refl:Alike σ σ:=⟨rfl,rfl,fun _=>rfl⟩
theorem Alike.symm(h:Alike σ σ'):Alike σ' σ:=⟨h.L.symm,h.N.symm,fun t=>(h.fr t).symm⟩
theorem Alike.trans{σ'':St}(h:Alike σ σ')(h':Alike σ' σ''):Alike σ σ'':=⟨h.L.trans h'.L,h.N.trans h'.N,fun t=>(h.fr t).trans (h'.fr t)⟩
theorem Alike.realz{a:Act}{w:World}(h:Alike σ σ')(hr:mP A σ a w):mP A σ' a w:=by
 obtain⟨S,env,hH,hf,hN,hd⟩:=hr;exact⟨S,env,h.L▸hH,fun t=>by rw [←h.fr t,←h.L];exact hf t,by rw [←h.N];exact hN,hd⟩
theorem Alike.setO(h:Alike σ σ')(d:Option Nat)(sv:SV):Alike (σ.setO d sv) (σ'.setO d sv):=by
 cases d with
 | none=>exact h
 | some t=>exact⟨h.L,h.N,fun u=>by simp only [St.setO,St.set,look];rw [h.fr u]⟩
theorem gD4(σ:St)(d:Option Nat)(sv:SV):(σ.setO d sv).L=σ.L:=by cases d<;>rfl
theorem gK7(σ:St)(d:Option Nat)(sv:SV):(σ.setO d sv).N=σ.N:=by cases d<;>rfl
theorem gBn(σ:St)(d:Option Nat)(sv:SV)(t:Nat)(h:∀u,d=some u→u≠t):look (σ.setO d sv).fr t=look σ.fr t:=by
 cases d with
 | none=>rfl
 | some u=>simp only [St.setO,St.set,look];rw [if_neg (fun e=>h u rfl e.symm)]
theorem gK8(σ:St)(x y:Option Nat)(v u:SV)(h:∀d,x=some d→y≠some d):Alike ((σ.setO x v).setO y u) ((σ.setO y u).setO x v):=by
 refine⟨by simp only [gD4],by simp only [gK7],fun t=>?_⟩;cases x with
 | none=>rfl
 | some d=>
   cases y with
   | none=>rfl
   | some e=>
     have hne:d≠e:=fun he=>h d rfl (by rw [he]);simp only [St.setO,St.set,look];split
     ·rename_i h1;rw [if_neg (by omega)]
     ·rfl
theorem YS.congr{o:Oper}{sv:SV}(hL:σ'.L=σ.L)(hN:σ'.N=σ.N)(h:∀t,t∈o.looksAt ops→look σ'.fr t=look σ.fr t)(hy:YS P A ops σ o sv):YS P A ops σ' o sv:=by
 have hev:∀x∈o.op.operands.toList,σ'.ev x=σ.ev x:=by
  intro x hx;cases x with
  | tmp t=>exact h t (by unfold Oper.looksAt;exact List.mem_append.2 (.inl (List.mem_filterMap.2 ⟨.tmp t,hx,rfl⟩)))
  | _=>rfl
 have hg:∀b,Gd ops σ o b→Gd ops σ' o b:=by
  intro b hb;unfold Gd at *;cases hgd:o.guard with
  | none=>simp only [hgd] at hb ⊢;exact hb
  | some p=>
    obtain⟨j,want⟩:=p;simp only [hgd] at hb ⊢;obtain⟨oj,tj,h1,h2,h3,h4⟩:=hb;refine⟨oj,tj,h1,h2,by rw [hN];exact h3,?_⟩;rw [h tj]
    ·exact h4
    unfold Oper.looksAt;refine List.mem_append.2 (.inr ?_);simp [hgd,h1,h2]
 refine⟨fun d hd=>by rw [hN];exact hy.1 d hd,?_⟩;rcases hy.2 with ⟨h1,h2⟩ | ⟨h1,h2⟩
 ·refine .inl ⟨hg _ h1,?_⟩;intro S env a w hH hx next R hn
  rw [hL] at hH;refine h2 S env a w hH (fun x hx'=>?_) next R (fun v w' S' k1 k2 k3=>hn v w' S' ?_ ?_ ?_)
  ·have:=hx x hx'
   rw [hL,hev x hx'] at this;exact this
  ·rw [hL];exact k1
  ·rw [hL];exact k2
  ·rw [hL];exact k3
 ·exact .inr ⟨hg _ h1,h2⟩
def gZq(P:Program)(A:Amb)(md:Region.Mode)(ops:Array Oper)(K:St→Prop):Nat→Array Bool→St→Prop
 | 0,listed,σ=>Region.ready md ops listed=[]∧K σ
 | fuel+1,listed,σ=>(Region.ready md ops listed=[]→K σ)∧
   ∀i∈Region.ready md ops listed,∃o sv,ops[i]? =some o∧YS P A ops σ o sv∧gZq P A md ops K fuel (listed.setIfInBounds i true) (σ.setO o.dst sv)
theorem gZq.alike(hK:∀σ σ',Alike σ σ'→K σ→K σ'):∀(fuel:Nat)(listed:Array Bool)(σ σ':St),Alike σ σ'→gZq P A md ops K fuel listed σ→gZq P A md ops K fuel listed σ'
 | 0,_,σ,σ',ha,h=>⟨h.1,hK _ _ ha h.2⟩
 | fuel+1,_,σ,σ',ha,h=>⟨fun h0=>hK _ _ ha (h.1 h0),fun i hi=>by
   obtain⟨o,sv,h1,h2,h3⟩:=h.2 i hi
   exact⟨o,sv,h1,h2.congr ha.L.symm ha.N.symm (fun t _=>(ha.fr t).symm),gZq.alike hK fuel _ _ _ (ha.setO o.dst sv) h3⟩⟩
theorem Gd.wanted{a:Act}{w:World}{S:Nat→Prop}{env:List Value}{o:Oper}{b:Bool}(hf:∀t,SVr S σ.L env w (look σ.fr t) (a.tmps.getD t undef))(hN:a.tmps.size=σ.N)(h:Gd ops σ o b) :
  Region.wanted o (yielded ops a.tmps)=b:=by
 unfold Gd at h;cases hgd:o.guard with
 | none=>simp only [hgd] at h;simp [Region.wanted,hgd,h]
 | some p=>
   obtain⟨j,want⟩:=p;simp only [hgd] at h;obtain⟨oj,tj,h1,h2,h3,h45⟩:=h;have h6:=hf tj;have ht':tj < a.tmps.size:=by rw [hN];exact h3
   rcases h45 with ⟨x,h4,h5⟩ | ⟨h4,rfl⟩
   ·rw [h4,SVr.bool] at h6;have hy:yielded ops a.tmps j=some x:=by
     simp only [yielded,h1,h2,Option.bind_some]
     have:a.tmps[tj]? =some (.bool x):=by
      rw [Array.getD_eq_getD_getElem?,Array.getElem?_eq_getElem ht'] at h6;rw [Array.getElem?_eq_getElem ht'];have h6':a.tmps[tj]=.bool x:=by simpa using h6
      rw [h6']
     rw [this]
    simp only [Region.wanted,hgd,hy];rw [←h5];cases x<;>cases want<;>rfl
   ·rw [h4] at h6;simp only [SVr] at h6;obtain⟨vs,h7,h8⟩:=h6;have hvs:vs=[]:=by cases vs with
     | nil=>rfl
     | cons _ _=>simp [kV] at h8
    subst hvs;have hy:yielded ops a.tmps j=none:=by
     simp only [yielded,h1,h2,Option.bind_some]
     have:a.tmps[tj]? =some (.tuple #[]):=by
      rw [Array.getD_eq_getD_getElem?,Array.getElem?_eq_getElem ht'] at h7;rw [Array.getElem?_eq_getElem ht'];have h7':a.tmps[tj]=.tuple #[]:=by simpa using h7
      rw [h7']
     rw [this]
    simp only [Region.wanted,hgd,hy];rfl
theorem gZq.wp{R:Exit→Act→World→Prop}(hR:∀σ' a' w',K σ'→mP A σ' a' w'→R .normal a' w'):∀(fuel:Nat)(listed:Array Bool)(σ:St)(a:Act)(w:World),mP A σ a w→
  gZq P A md ops K fuel listed σ→wpAny P md ops R fuel listed a w
 | 0,_,_,_,_,hr,h=>⟨h.1,hR _ _ _ h.2 hr⟩
 | fuel+1,listed,σ,a,w,hr,h=>by
   refine⟨fun h0=>hR _ _ _ (h.1 h0) hr,fun i hi=>?_⟩;obtain⟨o,sv,h1,h2,h3⟩:=h.2 i hi;obtain⟨S,env,hH,hf,hN,hd⟩:=hr;unfold wpOp;simp only [h1];have put:∀(S':Nat→Prop)(w':World)(v:Value),pU A S' σ.L env w'→Carry S σ.L env w S' σ.L env w'→SVr S' σ.L env w' sv v→mP A (σ.setO o.dst sv) (a.put o.dst v) w':=by
    intro S' w' v k1 k2 k3;cases hdst:o.dst with
    | none=>exact gFg hf hN hd k1 k2
    | some t=>exact vZ hf hN hd (h2.1 t hdst) k1 k2 k3
   rcases h2.2 with ⟨g1,g2⟩ | ⟨g1,g2⟩
   ·rw [if_pos (Gd.wanted hf hN g1)];refine .inl (g2 S env a w hH (fun x _=>evr hf x) _ _ (fun v w' S' k1 k2 k3=>?_));exact gZq.wp hR fuel _ _ _ _ (put S' w' v k1 k2 k3) h3
   ·rw [if_neg (by rw [Gd.wanted hf hN g1];simp)]
    exact gZq.wp hR fuel _ _ _ _ (put S w undef hH Carry.refl (by rcases g2 with rfl | rfl;· simp only [SVr]
                                                                  ·simp only [SVr];exact⟨[],rfl,by simp [kV]⟩)) h3
theorem YS.swap{j:Nat}{oi oj:Oper}{v:SV}{m:St→Prop}(hap:oi.apart ops oj=true){u:SV}(hy:YS P A ops σ oi v)(hj:YS P A ops (σ.setO oi.dst v) oj u)(_:m σ∨j=j) :
  YS P A ops σ oj u∧YS P A ops (σ.setO oj.dst u) oi v∧Alike ((σ.setO oi.dst v).setO oj.dst u) ((σ.setO oj.dst u).setO oi.dst v):=by
 obtain⟨h1,h2,h3⟩:=Oper.apart_spec hap;refine⟨hj.congr (gD4 _ _ _).symm (gK7 _ _ _).symm (fun t ht=>?_),hy.congr (gD4 _ _ _) (gK7 _ _ _) (fun t ht=>?_),gK8 _ _ _ _ _ h2⟩
 ·exact(gBn σ oi.dst v t (fun d hd e=>h1 d hd (e▸ht))).symm
 ·exact gBn σ oj.dst u t (fun d hd e=>h3 d hd (e▸ht))
theorem gZq.first(hK:∀σ σ',Alike σ σ'→K σ→K σ'){i:Nat}{oi:Oper}{v:SV}(hi:ops[i]? =some oi):∀(fuel:Nat)(listed:Array Bool)(σ:St),
  (∀(j:Nat)(oj:Oper),ops[j]? =some oj→j≠i→listed.getD j true=false→(∀e∈oj.after,Region.binds md e=true→e.on≠i)→oi.apart ops oj=true)→
  i∈Region.ready md ops listed→YS P A ops σ oi v→
  gZq P A md ops K fuel (listed.setIfInBounds i true) (σ.setO oi.dst v)→gZq P A md ops K (fuel+1) listed σ:=by
 intro fuel
 induction fuel with
 | zero=>
   intro listed σ _ hr hy H;refine⟨fun h=>(by rw [h] at hr;cases hr),fun j hj=>?_⟩;by_cases hji:j=i
   ·subst hji;exact⟨oi,v,hi,hy,H⟩
   ·have:=ready_mono hj hji
    rw [H.1] at this;cases this
 | succ fuel ih=>
   intro listed σ hfree hr hy H;refine⟨fun h=>(by rw [h] at hr;cases hr),fun j hj=>?_⟩;by_cases hji:j=i
   ·subst hji;exact⟨oi,v,hi,hy,H⟩
   ·obtain⟨oj,u,hoj,hyj,Hj⟩:=H.2 j (ready_mono hj hji);obtain⟨hjun,oj',hoj',hall⟩:=mem_ready.1 hj;rw [hoj] at hoj';obtain rfl:=Option.some.inj hoj';have hnot:∀e∈oj.after,Region.binds md e=true→e.on≠i:=fun e he hb heq=>by
     have h1:=hall e he hb;have h0:=(mem_ready.1 hr).1;rw [heq] at h1;rcases Nat.lt_or_ge i listed.size with h' | h'
     ·simp [h'] at h0 h1;rw [h0] at h1;cases h1
     ·simp [Array.getElem?_eq_none h'] at h1
    obtain⟨s1,s2,s3⟩:=YS.swap (j:=j) (m:=K) (hfree j oj hoj hji hjun hnot) hy hyj (.inr rfl)
    have hfree':∀(k:Nat)(ok:Oper),ops[k]? =some ok→k≠i→(listed.setIfInBounds j true).getD k true=false→
      (∀e∈ok.after,Region.binds md e=true→e.on≠i)→oi.apart ops ok=true:=fun k ok hk hki hun hno=>by
     refine hfree k ok hk hki ?_ hno;by_cases hjk:j=k
     ·subst hjk;exact hjun
     ·rw [getD_set_ne true hjk] at hun;exact hun
    refine⟨oj,u,hoj,s1,ih (listed.setIfInBounds j true) _ hfree' (ready_mono hr (Ne.symm hji)) s2 ?_⟩;rw [Array.setIfInBounds_comm _ _ hji];exact gZq.alike hK fuel _ _ _ s3 Hj
theorem gZq.lex(hK:∀σ σ',Alike σ σ'→K σ→K σ'):∀(l:List Oper)(k:Nat)(listed:Array Bool)(σ:St),(∀(j:Nat),l[j]? =ops[k+j]?)→
  Region.lexFrom md ops l.length k listed=true→VQ P A ops l σ K→gZq P A md ops K l.length listed σ
 | [],_,_,_,_,hB,h=>⟨by simpa [Region.lexFrom] using hB,h⟩
 | o::l,k,listed,σ,hl,hB,h=>by
   have h0:ops[k]? =some o:=by simpa using(hl 0).symm
   simp only [List.length_cons,Region.lexFrom,Bool.and_eq_true] at hB;obtain⟨⟨hr,hf⟩,hB'⟩:=hB;obtain⟨sv,hy,hrest⟩:=h
   exact gZq.first hK h0 l.length listed σ (Region.free_spec h0 hf) (by simpa using hr) hy
    (gZq.lex hK l (k+1) _ _ (fun j=>by have:=hl (j+1);simpa [Nat.add_assoc,Nat.add_comm 1 j] using this) hB' hrest)
theorem VQ.mono{K':St→Prop}(hK:∀s,K s→K' s):∀(l:List Oper)(σ:St),VQ P A ops l σ K→VQ P A ops l σ K'
 | [],_,h=>hK _ h
 | _::l,_,⟨sv,h1,h2⟩=>⟨sv,h1,VQ.mono hK l _ h2⟩
theorem mP.drew{a:Act}{w:World}(h:mP A σ a w):mP A σ a { w with drawn:=w.drawn+1 }:=by
 obtain⟨S,env,hH,hf,hN,hd⟩:=h;have C:Carry S σ.L env w S σ.L env { w with drawn:=w.drawn+1 }:=⟨fun _ h _=>h,fun _ _ _=>rfl,fun _ _ h=>h,fun _ _ _ h1 h2=>⟨_,_,h1,h2,Nat.le_refl _,fun _=>rfl⟩⟩
 have hfe:∀(i:Nat)(o':LO)(hv':Value),σ.L[i]? =some o'→env[i]? =some hv'→∀b,o'.ft { w with drawn:=w.drawn+1 } hv' b→o'.ft w hv' b:=fun i o' hv' h1 h2 b hb'=>
  (LO.ft_eq (w':={ w with drawn:=w.drawn+1 }) (hH.objs i o' hv' h1 h2) (fun _ _=>rfl) b).1 hb'
 exact⟨S,env,⟨hH.len,fun i o hv h1 h2=>gLm.carry C (fun _ _ _=>rfl) (hH.objs i o hv h1 h2),fun i o hv b h1 hl h2 hb=>hH.excl i o hv b h1 hl h2 (hfe i o hv h1 h2 b hb),fun i j o o' hv hv' b k1 k2 l1 l2 m1 m2 n1 n2=>hH.dist i j o o' hv hv' b k1 k2 l1 l2 m1 m2 (hfe i o hv k1 m1 b n1) (hfe j o' hv' k2 m2 b n2),hH.sS,hH.sA,hH.frame,hH.size,hH.os,hH.tape,hH.output,hH.base,hH.glob⟩,fun t=>SVr.carry C _ _ (hf t),hN,hd⟩
theorem hF0{id:Nat}{l:List Oper}{Q:Exit→St→Prop}(hm:P.follows .mixedOrders=true)(hB:Region.lexB .any l.toArray=true)(h:VQ P A l.toArray l σ (Q .normal)) :
  V P A (.region id l.toArray true) σ Q:=by
 intro a w hr;simp only [Region.lexB,Bool.and_eq_true] at hB;refine wp_region_any hm ?_;have h1:=VQ.mono (K':=fun s=>∃s',Alike s s'∧Q .normal s') (fun s hs=>⟨s,.refl,hs⟩) l σ h;have h2:=gZq.lex (md:=.any) (fun σ σ' ha ⟨s',k1,k2⟩=>⟨s',ha.symm.trans k1,k2⟩) l 0 (Array.replicate l.toArray.size false) σ (by simp) (by simpa using hB.2) h1;have h3:=gZq.wp (R:=fun e a' w'=>∃σ',Q e σ'∧mP A σ' a' w') (fun s a' w' ⟨s',k1,k2⟩ hr'=>⟨s',k2,k1.realz hr'⟩) l.length _ σ a _ hr.drew h2;simpa using h3
theorem hHv{id:Nat}{l:List Oper}{y:Code}{Q:Exit→St→Prop}(hm:P.follows .mixedOrders=true)(hB:Region.lexB .any l.toArray=true)(h:VQ P A l.toArray l σ (fun s=>V P A y s Q)) :
  V P A (.seq (.region id l.toArray true) y) σ Q:=kC (hF0 hm hB h)
end
section
variable {P:Program}{A:Amb}{ops:Array Oper}{K:St→Prop}{σ:St}{rest l:List Oper}{t:Nat}{ty:TypeId}{pos:String}{af:Array Edge}
end
inductive Sh where
 | int
 | bool
 | str
 | st (n:Nat)
 | sl (s:Sh)
def gK9(n:Int):Prop:= -9223372036854775808≤n∧n≤9223372036854775807
mutual
def W:U→Nat
 | .i _ _=>0
 | .b _=>0
 | .s l=>l.length
 | .st us=>Ws us
 | .sl _ us=>us.length+Ws us
def Ws:List U→Nat
 | []=>0
 | u::us=>W u+Ws us
end
theorem hCa:∀(us vs:List U),Ws (us++vs)=Ws us+Ws vs
 | [],vs=>by simp [Ws]
 | u::us,vs=>by simp [Ws,hCa us vs,Nat.add_assoc]
theorem gWl:∀{us:List U}{u:U},u∈us→W u≤Ws us
 | v::us,u,h=>by
   simp only [Ws];rcases List.mem_cons.1 h with rfl | h
   ·omega
   ·have:=gWl h;omega
theorem gWm{α:Type}{R:Nat→α→Prop}:∀(n:Nat),(∀i,i < n→∃u,R i u)→∃us:List α,us.length=n∧∀(i:Nat)(u:α),us[i]? =some u→R i u
 | 0,_=>⟨[],rfl,fun i u h=>by simp at h⟩
 | n+1,h=>by
   obtain⟨us,h1,h2⟩:=gWm n (fun i hi=>h i (by omega));obtain⟨u,hu⟩:=h n (by omega);refine⟨us++[u],by simp [h1],fun i v hv=>?_⟩;by_cases hi:i < us.length
   ·rw [List.getElem?_append_left hi] at hv;exact h2 i v hv
   ·rw [List.getElem?_append_right (by omega)] at hv
    have:i - us.length=0:=by
     apply Classical.byContradiction;intro hne;rw [List.getElem?_eq_none (by simp;omega)] at hv;cases hv
    rw [this] at hv;simp at hv;subst hv;rw [show i=n by omega];exact hu
theorem RdE.mk{S:Nat→Prop}{w:World}{z b:Nat}:∀(us:List U)(off:Nat),(∀(k:Nat)(u:U),us[k]? =some u→∃cs,cs.length=z∧At w b (off+k*z) cs∧Rd S w u cs)→RdE S w z b off us
 | [],_,_=>by simp [RdE]
 | u::us,off,h=>by
   simp only [RdE];refine⟨by simpa using h 0 u rfl,RdE.mk us (off+z) (fun k v hk=>?_)⟩
   have:=h (k+1) v (by simpa using hk)
   rwa [show off+(k+1)*z=off+z+k*z by rw [Nat.add_mul];omega] at this
theorem mapM_length{α β:Type}{f:α→Option β}:∀(l:List α)(r:List β),l.mapM f=some r→r.length=l.length
 | [],r,h=>by simp at h;subst h;rfl
 | x::l,r,h=>by
   simp only [List.mapM_cons] at h;cases hx:f x with
   | none=>rw [hx] at h;simp at h
   | some v=>
     rw [hx] at h;cases hr:l.mapM f with
     | none=>rw [hr] at h;simp at h
     | some r'=>
       rw [hr] at h;simp at h;subst h;simp [mapM_length l r' hr]
theorem hP6{w:World}{a:Addr}{n:Nat}{cs:List Value}(hn:0 < n)(h:w.cells? 0 a n=some cs):cs.length=n∧a.spot=none∧At w a.block a.off cs:=by
 unfold World.cells? at h;rw [if_pos (Nat.zero_le _)] at h;have hl:=mapM_length _ _ h;simp at hl;have key:∀(l:List Nat)(cs:List Value),(l.mapM fun i=>w.cell? (a.add i))=some cs→∀(j i:Nat),l[j]? =some i→w.cell? (a.add i)=cs[j]? :=by
  intro l
  induction l with
  | nil=>intro cs _ j i hi;simp at hi
  | cons x l ih=>
    intro cs h j i hi;simp only [List.mapM_cons] at h;cases hx:w.cell? (a.add x)with
    | none=>rw [hx] at h;simp at h
    | some v=>
      rw [hx] at h;cases hr:(l.mapM fun i=>w.cell? (a.add i))with
      | none=>rw [hr] at h;simp at h
      | some r=>
        rw [hr] at h;simp at h;subst h;cases j with
        | zero=>simp at hi;subst hi;simpa using hx
        | succ j=>simp at hi ⊢;exact ih r hr j i hi
 have hc:∀j,j < n→w.cell? (a.add j)=cs[j]? :=fun j hj=>key _ _ h j j (by simp [hj]);have h0:=hc 0 hn;have hs:a.spot=none∧∃row e fz,w.heap[a.block]? =some (.cells row e fz):=by
  have:a.add 0=a:=rfl
  rw [this,List.getElem?_eq_getElem (by omega)] at h0;unfold World.cell? at h0;split at h0
  ·rename_i c t f hh;split at h0
   ·cases h0
   ·rename_i hsp;exact⟨by simpa using hsp,c,t,f,hh⟩
  ·cases h0
 obtain⟨hs,row,e,fz,hh⟩:=hs;refine⟨hl,hs,row,e,fz,hh,fun j hj=>?_⟩;rw [←hc j (by omega)];obtain⟨b,o,sp⟩:=a;simp only at hs;subst hs;simp only at hh;rw [Addr.add_lit];simp [World.cell?,hh]
section
variable {H:Type}{enc:TypeId × Value→H}{P:Program}{w:World}{sp:Nat→Bool}{held:Bool}{tm:TypeId→Option Sh}
theorem hL9{n:Nat}(h:n≤reachBytes):n≤big:=by
 rw [gAy];unfold reachBytes at h;omega
theorem gXv{f:Nat}{args:List SV}{us:List U}{vs:List Value}(h:gW P f args us)(hv:kV (fun b=>b < w.heap.size) [] [] w args vs)(hg:Gok (fun _=>False) w) :
  Calls P f vs.toArray w (fun e w'=>∃r,e=.returned r∧SVr (fun _=>True) [] [] w' (mkR us) r∧Below w.heap.size w w'):=by
 have hH:pU ⟨w,fun b=>b < w.heap.size,fun _=>False,[],[]⟩ (fun b=>b < w.heap.size) [] [] w:=
  ⟨rfl,fun i o hv h=>by simp at h,fun i o hv b h=>by simp at h,fun i j o o' hv hv' b h=>by simp at h,fun b hb=>hb,fun b hb=>.inl hb,fun _ _ _=>rfl,Nat.le_refl _,rfl,rfl,rfl,Base.nil rfl,hg⟩
 refine(h.2 _ _ [] w vs rfl rfl rfl rfl hH hv).mono ?_;rintro e w' ⟨r,sv,S',L',env',rfl,⟨rfl,rfl⟩,hH',hr⟩;refine⟨r,rfl,?_,⟨hH'.os,hH'.tape,hH'.output,hH'.size,fun k hk=>hH'.frame k hk (fun h=>h)⟩⟩;have C:Carry S' [] env' w' (fun _=>True) [] env' w':=⟨fun _ _ _=>trivial,fun _ _ _=>rfl,fun _ _ h=>h,fun _ _ _ h1 h2=>⟨_,_,h1,h2,Nat.le_refl _,fun _=>rfl⟩⟩
 exact SVr.bare _ _ (hFy us) (SVr.carry C _ _ hr) _ _
theorem hP7{r:Value}{w':World}(h:SVr (fun _=>True) [] [] w' (mkR [.b true]) r):r=.bool true:=SVr.bool.1 h
end
class TI (P:Program) (T:TypeId) (g:outParam Bool) (n b:outParam Nat):Prop where
 h:tyI P T=some (g,n,b)
class TE (P:Program) (T:TypeId) (e:outParam TypeId):Prop where
 h:tyE P T=some e
class TF (P:Program) (T:TypeId) (f:Nat) (fo:outParam Nat):Prop where
 h:tyF P T f=some fo
class TZ (P:Program) (T:TypeId) (zs:outParam (List Value)):Prop where
 h:tyZ P T=some zs
class TS (P:Program) (T:TypeId):Prop where
 h:P.underlying T=some .string
class TB (P:Program) (T:TypeId):Prop where
 h:P.underlying T=some .bool
class TP (P:Program) (T:TypeId):Prop where
 h:hGd P T
inductive Nf:SV→SV→Prop
 | d {u:U}:Nf (.d u) (.d u)
 | ptr {i off:Nat}:Nf (.ptr i off) (.ptr i off)
 | sl {i ver:Nat}:Nf (.sl i ver) (.sl i ver)
 | dp {u:U}:Nf (.dp u) (.dp u)
 | ep {i ver z k off:Nat}:Nf (.ep i ver z k off) (.ep i ver z k off)
 | ag {l:List SV}:Nf (.ag l) (.ag l)
 | tup {l:List SV}:Nf (.tup l) (.tup l)
 | fn {f:Nat} {l:List SV}:Nf (.fn f l) (.fn f l)
 | nilsl:Nf .nilsl .nilsl
theorem Nf.eq{a b:SV}(h:Nf a b):a=b:=by cases h<;>rfl
inductive Tk {α:Type}:Nat→Nat→List α→List α→Prop
 | z {l:List α}:Tk 0 0 l []
 | t {n:Nat} {c:α} {l ds:List α}:Tk 0 n l ds→Tk 0 (n+1) (c::l) (c::ds)
 | s {o n:Nat} {c:α} {l ds:List α}:Tk o n l ds→Tk (o+1) n (c::l) ds
theorem Tk.spec{α:Type}{o n:Nat}{l ds:List α}(h:Tk o n l ds):o+n≤l.length∧(l.drop o).take n=ds:=by
 induction h with
 | z=>simp
 | t h ih=>simp only [List.drop_zero] at ih ⊢;simp [ih.2];omega
 | s h ih=>simp [ih.2];omega
inductive Pt {α:Type}:Nat→List α→List α→List α→Prop
 | z {l:List α}:Pt 0 [] l l
 | t {c c':α} {ds l r:List α}:Pt 0 ds l r→Pt 0 (c'::ds) (c::l) (c'::r)
 | s {o:Nat} {c:α} {ds l r:List α}:Pt o ds l r→Pt (o+1) ds (c::l) (c::r)
theorem Pt.spec{α:Type}{o:Nat}{ds l r:List α}(h:Pt o ds l r):o+ds.length≤l.length∧l.take o++ds++l.drop (o+ds.length)=r:=by
 induction h with
 | z=>simp
 | t h ih=>simp only [List.take_zero,List.nil_append,Nat.zero_add] at ih ⊢;simp [ih.2];omega
 | @s o c ds l r h ih=>
   refine⟨by simp;omega,?_⟩;rw [show o+1+ds.length=(o+ds.length)+1 by omega,List.drop_succ_cons,List.take_succ_cons,List.cons_append,List.cons_append,ih.2]
inductive Sn {α:Type}(x:α):List α→Nat→List α→Prop
 | z:Sn x [] 0 [x]
 | s {c:α} {l r:List α} {n:Nat}:Sn x l n r→Sn x (c::l) (n+1) (c::r)
theorem Sn.spec{α:Type}{x:α}{l r:List α}{n:Nat}(h:Sn x l n r):l.length=n∧l++[x]=r:=by
 induction h with
 | z=>simp
 | s h ih=>simp [ih.1,ih.2]
inductive St1 {α:Type}(x:α):Nat→List α→List α→Prop
 | z {c:α} {l:List α}:St1 x 0 (c::l) (x::l)
 | s {i:Nat} {c:α} {l r:List α}:St1 x i l r→St1 x (i+1) (c::l) (c::r)
theorem St1.spec{α:Type}{x:α}{i:Nat}{l r:List α}(h:St1 x i l r):l.set i x=r:=by
 induction h with
 | z=>rfl
 | s h ih=>simp [ih]
inductive Jn {α:Type}:List α→List α→List α→Prop
 | z {l:List α}:Jn [] l l
 | s {c:α} {a l r:List α}:Jn a l r→Jn (c::a) l (c::r)
theorem Jn.spec{α:Type}{a l r:List α}(h:Jn a l r):a++l=r:=by
 induction h with
 | z=>rfl
 | s h ih=>simp [ih]
mutual
inductive Fl:U→List SV→Prop
 | i {k:IntKind} {n:Int}:Fl (.i k n) [.d (.i k n)]
 | b {x:Bool}:Fl (.b x) [.d (.b x)]
 | s {l:LB}:Fl (.s l) [.d (.s l)]
 | sl {z:Nat} {us:List U}:Fl (.sl z us) [.d (.sl z us)]
 | st {us:List U} {cs:List SV}:Fls us cs→Fl (.st us) cs
inductive Fls:List U→List SV→Prop
 | nil:Fls [] []
 | cons {u:U} {us:List U} {a b c:List SV}:Fl u a→Fls us b→Jn a b c→Fls (u::us) c
end
mutual
theorem Fl.spec:∀{u:U}{cs:List SV},Fl u cs→u.flat.map .d=cs∧SV.ones cs=true
 | _,_,.i=>⟨rfl,rfl⟩
 | _,_,.b=>⟨rfl,rfl⟩
 | _,_,.s=>⟨rfl,rfl⟩
 | _,_,.sl=>⟨rfl,rfl⟩
 | _,_,.st h=>by simp only [U.flat];exact Fls.spec h
theorem Fls.spec:∀{us:List U}{cs:List SV},Fls us cs→(U.flats us).map .d=cs∧SV.ones cs=true
 | _,_,.nil=>⟨rfl,rfl⟩
 | _,_,.cons h1 h2 h3=>by
   have a:=Fl.spec h1;have b:=Fls.spec h2;have c:=h3.spec;subst c;refine⟨by simp only [U.flats,List.map_append,a.1,b.1],?_⟩
   have:∀(x y:List SV),SV.ones x=true→SV.ones y=true→SV.ones (x++y)=true:=by
    intro x
    induction x with
    | nil=>intro y _ h;exact h
    | cons c x ih=>intro y h h';simp only [List.cons_append,SV.ones,Bool.and_eq_true] at h ⊢;exact⟨h.1,ih y h.2 h'⟩
   exact this _ _ a.2 b.2
end
inductive Cl:SV→List SV→Prop
 | d {u:U} {cs:List SV}:Fl u cs→Cl (.d u) cs
 | ag {cs:List SV}:SV.ones cs=true→Cl (.ag cs) cs
 | sl {i ver:Nat}:Cl (.sl i ver) [.sl i ver]
 | ptr {i off:Nat}:Cl (.ptr i off) [.ptr i off]
 | fn {f:Nat} {l:List SV}:Cl (.fn f l) [.fn f l]
 | nilsl:Cl .nilsl [.nilsl]
theorem Cl.spec{sv:SV}{cs:List SV}(h:Cl sv cs):sv.cells=cs∧SV.ones cs=true:=by
 cases h with
 | d h=>exact Fl.spec h
 | ag h=>exact⟨rfl,h⟩
 | _=>exact⟨rfl,rfl⟩
def Rng(n:Int):Prop:= -9223372036854775808≤n∧n≤9223372036854775807
inductive hX3 (P:Program)(L:List LO)(T:TypeId)(f:Nat):SV→SV→Prop
 | ptr {i off fo:Nat} [TF P T f fo]:hX3 P L T f (.ptr i off) (.ptr i (off+fo))
 | dp {us:List U} {u:U} {fo:Nat} [TF P T f fo] (h:us[f]? =some u) (h2:U.szs (us.take f)=fo):hX3 P L T f (.dp (.st us)) (.dp u)
 | epo {i ver z k off fo z':Nat} {o:LO} {es:List U} [TF P T f fo] (h:L[i]? =some o) (h2:AsO o z' ver es):hX3 P L T f (.ep i ver z k off) (.ep i ver z k (off+fo))
inductive LdR (P:Program)(L:List LO)(T:TypeId):SV→SV→Prop
 | one {i off bs:Nat} {cs:List SV} {c sv:SV} [TI P T false 1 bs] (h:L[i]? =some (.box cs)) (h2:cs[off]? =some c) (h3:Nf c sv):LdR P L T (.ptr i off) sv
 | many {i off n bs:Nat} {cs ds:List SV} [TI P T true n bs] (h:L[i]? =some (.box cs)) (h2:Tk off n cs ds):LdR P L T (.ptr i off) (.ag ds)
 | dp {u:U} {g:Bool} {n bs:Nat} [TI P T g n bs] (h:u.isSt=g) (h2:u.sz=n):LdR P L T (.dp u) (.d u)
inductive hWe (P:Program)(L:List LO)(T:TypeId):SV→Int→Prop
 | sl {z:Nat} {us:List U} {e:TypeId} [TE P T e]:hWe P L T (.d (.sl z us)) us.length
 | own {i ver z:Nat} {o:LO} {es:List U} {e:TypeId} [TE P T e] (h:L[i]? =some o) (h2:AsO o z ver es):hWe P L T (.sl i ver) es.length
 | nil {e:TypeId} [TE P T e]:hWe P L T .nilsl 0
 | str {l:LB} [TS P T]:hWe P L T (.d (.s l)) l.length
inductive hMa (P:Program)(T:TypeId):BinOp→SV→SV→SV→Prop
 | add {m n:Int} (h:Rng (m+n)):hMa P T .add (.d (.i .i64 m)) (.d (.i .i64 n)) (.d (.i .i64 (m+n)))
 | sub {m n:Int} (h:Rng (m - n)):hMa P T .sub (.d (.i .i64 m)) (.d (.i .i64 n)) (.d (.i .i64 (m - n)))
 | cmp {op:BinOp} {k:IntKind} {m n:Int} {r:Bool} (h:jA9 op m n=some r):hMa P T op (.d (.i k m)) (.d (.i k n)) (.d (.b r))
 | eqs {l l':LB}:hMa P T .eql (.d (.s l)) (.d (.s l')) (.d (.b (l==l')))
 | nes {l l':LB}:hMa P T .neq (.d (.s l)) (.d (.s l')) (.d (.b (!(l==l'))))
 | eqb {a b:Bool} [TB P T]:hMa P T .eql (.d (.b a)) (.d (.b b)) (.d (.b (a==b)))
 | neb {a b:Bool} [TB P T]:hMa P T .neq (.d (.b a)) (.d (.b b)) (.d (.b (!(a==b))))
 | eqp {a b c d:Int} [TP P T]:hMa P T .eql (.ag [.d (.i .i64 a),.d (.i .i64 b)]) (.ag [.d (.i .i64 c),.d (.i .i64 d)]) (.d (.b (a==c && b==d)))
 | nep {a b c d:Int} [TP P T]:hMa P T .neq (.ag [.d (.i .i64 a),.d (.i .i64 b)]) (.ag [.d (.i .i64 c),.d (.i .i64 d)]) (.d (.b (!(a==c && b==d))))
inductive PkR:SV→SV→SV→SV→Prop
 | t {x y sv:SV} (h:Nf x sv):PkR (.d (.b true)) x y sv
 | f {x y sv:SV} (h:Nf y sv):PkR (.d (.b false)) x y sv
inductive QD (P:Program)(σ:St):Oper→SV→Prop
 | move {dst:Option Nat} {ty:TypeId} {pos:String} {af:Array Edge} {g:Option (Nat × Bool)} {x:Operand} {sv:SV} (h:Nf (σ.ev x) sv):QD P σ ⟨dst,.move x,ty,pos,af,g⟩ sv
 | assign {dst:Option Nat} {ty:TypeId} {pos:String} {af:Array Edge} {g:Option (Nat × Bool)} {x:Operand} {sv:SV} (h:Nf (σ.ev x) sv):QD P σ ⟨dst,.assign x,ty,pos,af,g⟩ sv
 | field {dst:Option Nat} {ty:TypeId} {pos:String} {af:Array Edge} {g:Option (Nat × Bool)} {x:Operand} {sv:SV} {T:TypeId} {f:Nat} (h:hX3 P σ.L T f (σ.ev x) sv):QD P σ ⟨dst,.fieldAddr T x f,ty,pos,af,g⟩ sv
 | load {dst:Option Nat} {ty:TypeId} {pos:String} {af:Array Edge} {g:Option (Nat × Bool)} {x:Operand} {sv:SV} {T:TypeId} (h:LdR P σ.L T (σ.ev x) sv):QD P σ ⟨dst,.load T x,ty,pos,af,g⟩ sv
 | bin {dst:Option Nat} {ty:TypeId} {pos:String} {af:Array Edge} {g:Option (Nat × Bool)} {x y:Operand} {sv:SV} {op:BinOp} {T T':TypeId} (h:hMa P T op (σ.ev x) (σ.ev y) sv):QD P σ ⟨dst,.binOp op T x y T',ty,pos,af,g⟩ sv
 | len {dst:Option Nat} {ty:TypeId} {pos:String} {af:Array Edge} {g:Option (Nat × Bool)} {x:Operand} {T:TypeId} {n:Int} (h:hWe P σ.L T (σ.ev x) n):QD P σ ⟨dst,.call { callee:=.builtin .len,args:=#[x],argTypes:=#[T] },ty,pos,af,g⟩ (.d (.i .i64 n))
 | not {dst:Option Nat} {ty:TypeId} {pos:String} {af:Array Edge} {g:Option (Nat × Bool)} {x:Operand} {T:TypeId} {t:Bool} (h:σ.ev x=.d (.b t)):QD P σ ⟨dst,.unOp .not T x,ty,pos,af,g⟩ (.d (.b (!t)))
 | pick {dst:Option Nat} {ty:TypeId} {pos:String} {af:Array Edge} {g:Option (Nat × Bool)} {c x y:Operand} {sv:SV} (h:PkR (σ.ev c) (σ.ev x) (σ.ev y) sv):QD P σ ⟨dst,.pick c x y,ty,pos,af,g⟩ sv
 | extract {dst:Option Nat} {ty:TypeId} {pos:String} {af:Array Edge} {g:Option (Nat × Bool)} {x:Operand} {n:Nat} {vs:List SV} {c sv:SV} (h:σ.ev x=.tup vs) (h2:vs[n]? =some c) (h3:Nf c sv):QD P σ ⟨dst,.extract x n,ty,pos,af,g⟩ sv
theorem QD.quiet{P:Program}{A:Amb}{σ:St}{o:Oper}{sv:SV}(h:QD P σ o sv):Quiet P A σ o sv:=by
 cases h with
 | move h=>exact hM3 h.eq
 | assign h=>exact hGc h.eq
 | @field dst ty pos af g x sv T f h=>
   generalize hx:σ.ev x=e at h;cases h with
   | @ptr i off fo tf=>exact gW2 hx tf.h
   | @dp us u fo tf h h2=>exact gYf hx tf.h h h2
   | @epo i ver z k off fo z' o es tf h h2=>exact hEs hx h h2 tf.h
 | @load dst ty pos af g x sv T h=>
   generalize hx:σ.ev x=e at h;cases h with
   | @one i off bs cs c sv ti h h2 h3=>exact hIc hx h ti.h (h3.eq▸h2)
   | @many i off n bs cs ds ti h h2=>exact hEo hx h ti.h (Nat.ble_eq_true_of_le h2.spec.1) h2.spec.2
   | @dp u g n bs ti h h2=>exact hXd hx ti.h h h2
 | @bin dst ty pos af g x y sv op T T' h=>
   generalize hx:σ.ev x=e at h;generalize hy:σ.ev y=e' at h;cases h with
   | cmp h=>exact jBa hx hy h
   | add h=>exact hWr hx hy h.1 h.2
   | sub h=>exact jBc hx hy h.1 h.2
   | eqs=>exact jBd hx hy
   | nes=>exact jBe hx hy
   | @eqb a b tb=>exact jBg tb.h hx hy
   | @neb a b tb=>exact jBf tb.h hx hy
   | @eqp a b c d tp=>exact jBh tp.h hx hy
   | @nep a b c d tp=>exact jBi tp.h hx hy
 | @len dst ty pos af g x T n h=>
   generalize hx:σ.ev x=e at h;cases h with
   | @sl z us e te=>exact hUp hx te.h
   | @own i ver z o es e te h h2=>exact hCq hx h h2 te.h
   | @nil e te=>exact hCo hx te.h
   | @str l ts=>exact hCp hx ts.h
 | not h=>exact hWt h
 | @pick dst ty pos af g c x y sv h=>
   generalize hc:σ.ev c=e at h;cases h with
   | t h=>exact hR8 hc h.eq
   | f h=>exact hR8 hc h.eq
 | extract h h2 h3=>exact hB9 h (h3.eq▸h2)
inductive GdR:Bool→SV→Bool→Prop
 | tt:GdR true (.d (.b true)) true
 | tf:GdR true (.d (.b false)) false
 | ft:GdR false (.d (.b true)) false
 | ff:GdR false (.d (.b false)) true
inductive OD (P:Program)(ops:Array Oper):Oper→St→St→Prop
 | box {t:Nat} {T:TypeId} {x:Operand} {ty:TypeId} {pos:String} {af:Array Edge} {fr:List (Nat × SV)} {L L':List LO} {N i:Nat} {cs:List SV} (h:Cl ((St.mk fr L N).ev x) cs) (ht:Nat.blt t N=true) (h2:Sn (.box cs) L i L') :
   OD P ops ⟨some t,.box T x,ty,pos,af,none⟩ ⟨fr,L,N⟩ ⟨(t,.ptr i 0)::fr,L',N⟩
 | alloc {t:Nat} {T:TypeId} {ty:TypeId} {pos:String} {af:Array Edge} {fr:List (Nat × SV)} {L L':List LO} {N i:Nat} {zs:List Value} {cs:List SV} [TZ P T zs] (hc:zs.map gJ3=cs) (hs:SV.ones cs=true) (ht:Nat.blt t N=true) (h2:Sn (.box cs) L i L') :
   OD P ops ⟨some t,.alloc T,ty,pos,af,none⟩ ⟨fr,L,N⟩ ⟨(t,.ptr i 0)::fr,L',N⟩
 | store {T:TypeId} {x y:Operand} {ty:TypeId} {pos:String} {af:Array Edge} {fr:List (Nat × SV)} {L L':List LO} {N i off n bs:Nat} {g:Bool} {cs ds cs':List SV} (hx:(St.mk fr L N).ev x=.ptr i off) (hL:L[i]? =some (.box cs)) (hy:Cl ((St.mk fr L N).ev y) ds) [TI P T g n bs] (hn:ds.length=n)
   (hp:Pt off ds cs cs') (hs:St1 (.box cs') i L L'):OD P ops ⟨none,.store T x y,ty,pos,af,none⟩ ⟨fr,L,N⟩ ⟨fr,L',N⟩
 | q {t:Nat} {op:Op} {ty:TypeId} {pos:String} {af:Array Edge} {sv:SV} {fr:List (Nat × SV)} {L:List LO} {N:Nat} (h:QD P ⟨fr,L,N⟩ ⟨some t,op,ty,pos,af,none⟩ sv) (ht:Nat.blt t N=true) :
     OD P ops ⟨some t,op,ty,pos,af,none⟩ ⟨fr,L,N⟩ ⟨(t,sv)::fr,L,N⟩
inductive OB (P:Program)(ops:Array Oper):Bool→Oper→Nat→St→St→Prop
 | run {o:Oper} {t:Nat} {σ σ':St} (h:OD P ops o σ σ'):OB P ops true o t σ σ'
 | pass {o:Oper} {t:Nat} {fr:List (Nat × SV)} {L:List LO} {N:Nat}:OB P ops false o t ⟨fr,L,N⟩ ⟨(t,.junk)::fr,L,N⟩
inductive OG (P:Program)(ops:Array Oper):Oper→St→St→Prop
 | plain {d:Option Nat} {op:Op} {ty:TypeId} {pos:String} {af:Array Edge} {σ σ':St} (h:OD P ops ⟨d,op,ty,pos,af,none⟩ σ σ'):OG P ops ⟨d,op,ty,pos,af,none⟩ σ σ'
 | guard {t:Nat} {op:Op} {ty:TypeId} {pos:String} {af:Array Edge} {j tj:Nat} {want b:Bool} {o':Oper} {fr:List (Nat × SV)} {L:List LO} {N:Nat} {σ':St} (hj:ops[j]? =some o') (hd:o'.dst=some tj) (htj:Nat.blt tj N=true) (ht:Nat.blt t N=true)
   (hb:GdR want (look fr tj) b) (h:OB P ops b ⟨some t,op,ty,pos,af,none⟩ t ⟨fr,L,N⟩ σ'):OG P ops ⟨some t,op,ty,pos,af,some (j,want)⟩ ⟨fr,L,N⟩ σ'
section
variable {P:Program}{A:Amb}{ops:Array Oper}{rest:List Oper}{o:Oper}{σ σ':St}{K:St→Prop}
theorem hT2(h:OD P ops o σ σ')(hv:VO P A ops rest σ' K):VO P A ops (o::rest) σ K:=by
 cases h with
 | q h ht=>exact hX5 h.quiet ht hv
 | box h ht h2=>exact hSn rfl h.spec.1 h.spec.2 ht h2.spec.1 h2.spec.2 hv
 | @alloc t T ty pos af fr L L' N i zs cs tz hc hs ht h2=>exact hGk tz.h hc hs ht h2.spec.1 h2.spec.2 hv
 | @store T x y ty pos af fr L L' N i off n bs g cs ds cs' hx hL hy ti hn hp hs=>
   subst hn;exact hGl hx hL rfl hy.spec.1 hy.spec.2 ti.h rfl (Nat.ble_eq_true_of_le hp.spec.1) hp.spec.2 hs.spec hv
theorem jFk(hv:VO P A ops rest σ' K)(h:OG P ops o σ σ':=by(repeat(first | exact Rng.mk (by omega) (by omega) | constructor));first | done | fail):VO P A ops (o::rest) σ K:=by
 cases h with
 | plain h=>exact hT2 h hv
 | @guard t op ty pos af j tj want b o' fr L N σ' hj hd htj ht hb h=>
   cases h with
   | run h=>
     generalize hl:look fr tj=e at hb;cases hb with
     | tt=>exact hMy hj hd htj hl (hT2 h hv)
     | ff=>exact hMy hj hd htj hl (hT2 h hv)
   | pass=>
     generalize hl:look fr tj=e at hb;cases hb with
     | tf=>exact hMz hj hd htj hl rfl ht hv
     | ft=>exact hMz hj hd htj hl rfl ht hv
theorem hT3 {d:Option Nat}{op:Op}{ty:TypeId}{pos:String}{af:Array Edge}{j tj:Nat}{want:Bool}{o':Oper}{fr:List (Nat × SV)}{L:List LO}{N:Nat}
  (hj:ops[j]? =some o') (hdst:o'.dst=some tj) (htj:Nat.blt tj N=true) (hb:look fr tj=.d (.b want)) (h:VO P A ops (⟨d,op,ty,pos,af,none⟩::rest) ⟨fr,L,N⟩ K) :
  VO P A ops (⟨d,op,ty,pos,af,some (j,want)⟩::rest) ⟨fr,L,N⟩ K:=hMy hj hdst htj hb h
end
inductive QB (P:Program):Bool→St→Oper→SV→Prop
 | run {o:Oper} {σ:St} {sv:SV} (h:QD P σ o sv):QB P true σ o sv
 | pass {o:Oper} {σ:St}:QB P false σ o .junk
inductive QG (P:Program)(ops:Array Oper):Oper→St→St→Prop
 | plain {t:Nat} {op:Op} {ty:TypeId} {pos:String} {af:Array Edge} {sv:SV} {fr:List (Nat × SV)} {L:List LO} {N:Nat} (h:QD P ⟨fr,L,N⟩ ⟨some t,op,ty,pos,af,none⟩ sv) (ht:Nat.blt t N=true) :
   QG P ops ⟨some t,op,ty,pos,af,none⟩ ⟨fr,L,N⟩ ⟨(t,sv)::fr,L,N⟩
 | guard {t:Nat} {op:Op} {ty:TypeId} {pos:String} {af:Array Edge} {j tj:Nat} {want b:Bool} {o':Oper} {fr:List (Nat × SV)} {L:List LO} {N:Nat} {sv:SV} (hj:ops[j]? =some o') (hd:o'.dst=some tj) (htj:Nat.blt tj N=true) (ht:Nat.blt t N=true)
   (hb:GdR want (look fr tj) b) (h:QB P b ⟨fr,L,N⟩ ⟨some t,op,ty,pos,af,some (j,want)⟩ sv):QG P ops ⟨some t,op,ty,pos,af,some (j,want)⟩ ⟨fr,L,N⟩ ⟨(t,sv)::fr,L,N⟩
theorem jFl{P:Program}{A:Amb}{ops:Array Oper}{rest:List Oper}{o:Oper}{σ σ':St}{K:St→Prop}(hv:VQ P A ops rest σ' K)(h:QG P ops o σ σ':=by(repeat(first | exact Rng.mk (by omega) (by omega) | constructor));first | done | fail):VQ P A ops (o::rest) σ K:=by
 cases h with
 | plain h ht=>exact jAz h.quiet ht hv
 | @guard t op ty pos af j tj want b o' fr L N sv hj hd htj ht hb h=>
   cases h with
   | run h=>
     generalize hl:look fr tj=e at hb;cases hb with
     | tt=>exact hFz hj hd htj hl h.quiet ht hv
     | ff=>exact hFz hj hd htj hl h.quiet ht hv
   | pass=>
     generalize hl:look fr tj=e at hb;cases hb with
     | tf=>exact hL8 hj hd htj hl rfl ht hv
     | ft=>exact hL8 hj hd htj hl rfl ht hv
inductive NfL (σ:St):List Operand→List SV→Prop
 | nil:NfL σ [] []
 | cons {x:Operand} {l:List Operand} {sv:SV} {r:List SV} (h:Nf (σ.ev x) sv) (h2:NfL σ l r):NfL σ (x::l) (sv::r)
theorem NfL.eq{σ:St}{l:List Operand}{r:List SV}(h:NfL σ l r):l.map σ.ev=r:=by
 induction h with
 | nil=>rfl
 | cons h _ ih=>simp [h.eq,ih]
def VB(L:List LO):SV→SV→Prop
 | .ptr i off,.dp u=>off=0∧∃cs,L[i]? =some (.box cs)∧VLs L cs u.flat
 | sv,sv'=>sv=sv'∧sv.lt 0=true
def VBs(L:List LO):List SV→List SV→Prop
 | [],[]=>True
 | a::az,b::bs=>VB L a b∧VBs L az bs
 | _,_=>False
def U.scal:U→Bool
 | .i _ _ | .b _ | .s _=>true
 | _=>false
section
variable {A:Amb}{S:Nat→Prop}{L:List LO}{env:List Value}{w:World}
def boxes(L:List LO)(env:List Value)(b:Nat):Prop:=∃(i:Nat)(cs:List SV)(hv:Value),L[i]? =some (.box cs)∧env[i]? =some hv∧blk hv=some b
theorem SVr.more{S1:Nat→Prop}(hS:∀b,S b→S1 b){sv:SV}{v:Value}(h:SVr S L env w sv v):SVr S1 L env w sv v:=
 SVr.carry ⟨fun b hb _=>hS b hb,fun _ _ _=>rfl,fun _ _ h=>h,fun _ _ _ h1 h2=>⟨_,_,h1,h2,Nat.le_refl _,fun _=>rfl⟩⟩ _ _ h
theorem VB.r(hH:pU A S L env w){sv sv':SV}{v:Value}(h:VB L sv sv')(hv:SVr S L env w sv v):SVr (fun b=>S b∨boxes L env b) [] [] w sv' v:=by
 have bare:sv=sv'→sv.lt 0=true→SVr (fun b=>S b∨boxes L env b) [] [] w sv' v:=by
  rintro rfl h2;exact SVr.bare _ _ h2 (SVr.more (fun b hb=>.inl hb) hv) _ _
 cases sv with
 | ptr i off=>
   cases sv' with
   | dp u=>
     obtain⟨rfl,cs,h1,h2⟩:=h;simp only [SVr] at hv ⊢;obtain⟨b,h3,rfl⟩:=hv;obtain⟨b',vals,e,h4,h5,h6,_⟩:=hH.objs i _ _ h1 h3;injection h4 with h4
     injection h4 with h4
     injection h4 with h4
     subst h4;have h7:=VLs.r hH (U.flat_leaf u) h2 h6;refine⟨b,0,vals.toList,rfl,.inr ⟨i,cs,_,h1,h3,rfl⟩,⟨vals,e,_,h5,?_⟩,?_⟩
     ·intro j hj;simp
     ·exact(Rd.of_leafs u _ h7).mono (fun b hb _=>.inl hb) (fun _ _ _=>rfl)
   | _=>exact bare h.1 h.2
 | _=>cases sv'<;>exact bare h.1 h.2
theorem VBs.r(hH:pU A S L env w):∀{svs svs':List SV}{vs:List Value},VBs L svs svs'→kV S L env w svs vs→kV (fun b=>S b∨boxes L env b) [] [] w svs' vs
 | [],[],[],_,_=>by simp [kV]
 | sv::svs,sv'::svs',v::vs,h,hv=>by
   simp only [kV] at hv ⊢;exact⟨VB.r hH h.1 hv.1,VBs.r hH h.2 hv.2⟩
 | [],_::_,_,h,_=>h.elim
 | _::_,[],_,h,_=>h.elim
 | [],[],_::_,_,h=>by simp [kV] at h
 | _::_,_::_,[],_,h=>by simp [kV] at h
end
section
variable {P:Program}{A:Amb}{σ:St}{K:St→Prop}
variable {dst:Option Nat}{ty:TypeId}{pos:String}{af:Array Edge}{g:Option (Nat × Bool)}{x y:Operand}{sv:SV}
theorem kV.evals{S:Nat→Prop}{env:List Value}{w:World}{a:Act}:∀(l:List Operand),(∀x∈l,SVr S σ.L env w (σ.ev x) (a.eval x))→kV S σ.L env w (l.map σ.ev) (l.map a.eval)
 | [],_=>by simp [kV]
 | x::l,h=>by
   simp only [List.map_cons,kV];exact⟨h x (by simp),kV.evals l fun y hy=>h y (by simp [hy])⟩
theorem hWg{f:Nat}{cs:Array Operand}{svs:List SV}(h:NfL σ cs.toList svs):Quiet P A σ ⟨dst,.makeFunc (.func f) #[] cs,ty,pos,af,g⟩ (.fn f svs):=Quiet.pure fun S env a w hH ho=>by
 refine⟨.func (.func f) #[] (cs.toList.map a.eval).toArray,?_,?_⟩
 ·have:cs.map a.eval=(cs.toList.map a.eval).toArray:=by apply Array.ext';simp
  simp [execOp,Instr.makeFunc,this]
 rw [←h.eq];simp only [SVr];exact⟨_,rfl,kV.evals _ fun x hx=>ho x (by simpa [Op.operands] using hx)⟩
theorem hT4 {f:Operand}{fi:Nat}{caps:List SV}{args:Array Operand}{at_:Array TypeId}{dargs:List SV}{us:List U}(hf:σ.ev f=.fn fi caps)
  (hspec:gW P fi (dargs++caps) us) (hargs:VAs σ.L (args.toList.map σ.ev) dargs) (hc:SV.lts 0 caps=true) :
  Quiet P A σ ⟨dst,.call { callee:=.value f,args:=args,argTypes:=at_ },ty,pos,af,g⟩ (mkR us):=by
 intro S env a w hH hx next R hn
 have h1:=hx f (by simp [Op.operands,Call.operands]);rw [hf] at h1;simp only [SVr] at h1;obtain⟨cvs,h1,h2⟩:=h1;have h3:kV S σ.L env w (args.toList.map σ.ev) (args.toList.map a.eval):=by
  rw [kV.iff]
  have:∀(l:List Operand),(∀x∈l,SVr S σ.L env w (σ.ev x) (a.eval x))→zX (SVr S σ.L env w) (l.map σ.ev) (l.map a.eval):=by
   intro l
   induction l with
   | nil=>intro _;trivial
   | cons x l ih=>intro h;exact⟨h x (by simp),ih (fun y hy=>h y (by simp [hy]))⟩
  exact this _ (fun x hx'=>hx x (by simp [Op.operands,Call.operands];exact .inr (by simpa using hx')))
 have _h4:kV S σ.L env w (args.toList.map σ.ev++caps) (args.toList.map a.eval++cvs):=by
  have h2':=h2;have h3':=h3;rw [kV.iff] at h2' h3' ⊢;exact zX.append h3' h2'
 have h5:kV S [] [] w (dargs++caps) (args.toList.map a.eval++cvs):=by
  have k1:=VAs.r hH hargs h3;have k2:=kV.bare _ _ hc h2 [] [];rw [kV.iff] at k1 k2 ⊢;exact zX.append k1 k2
 obtain⟨⟨fn,c1,c2,c3⟩,hs⟩:=hspec;have hrun:(execOp a.eval ⟨dst,.call { callee:=.value f,args:=args,argTypes:=at_ },ty,pos,af,g⟩).run P w=.ok (.enter fi (args.toList.map a.eval++cvs).toArray) w:=by
  have harr:args.map a.eval++cvs.toArray=(args.toList.map a.eval++cvs).toArray:=by apply Array.ext';simp
  simp only [execOp,resolve,h1,Deferred.ofValue,Sem.run_bind,Sem.run_pure,Result.andThen_ok,invoke,callFunc,run_program,c1,c2,c3,Bool.false_eq_true,if_false,Array.empty_append,harr]
 unfold Oper.wp;rw [hrun];simp only [Oper.upon];refine(hs ⟨w,S,fun _=>False,[],[]⟩ S [] w _ rfl rfl rfl rfl (pU.enter A S hH) h5).mono ?_;rintro e w' ⟨r,sv,S',L',env',rfl,⟨rfl,rfl⟩,hH',hr⟩;have hold:∀b,b < w.heap.size→w'.heap[b]? =w.heap[b]? :=fun b hb=>hH'.frame b hb (fun h=>h);have C:Carry S σ.L env w (fun b=>S b∨S' b) σ.L env w':=⟨fun b h _=>.inl h,fun b _ hb=>hold b hb,fun _ _ h=>h,fun _ _ _ h1 h2=>⟨_,_,h1,h2,Nat.le_refl _,fun _=>rfl⟩⟩
 have hS':∀b,S' b→S b∨w.heap.size≤b:=fun b hb=>by
  rcases hH'.sA b hb with h | h | h
  ·exact .inl h
  ·exact h.elim
  ·exact .inr h
 have hfe:∀(i:Nat)(o':LO)(hv':Value),σ.L[i]? =some o'→o'.live=true→env[i]? =some hv'→∀b,o'.ft w' hv' b→o'.ft w hv' b:=fun i o' hv' h1 hl h2 b hb'=>
  (LO.ft_eq (hH.objs i o' hv' h1 h2) (fun k hk=>hold k (hH.excl i o' hv' k h1 hl h2 hk).2.2) b).1 hb'
 refine hn r w' (fun b=>S b∨S' b) ⟨hH.len,?_,?_,fun i j o o' hv hv' b k1 k2 l1 l2 m1 m2 n1 n2=>hH.dist i j o o' hv hv' b k1 k2 l1 l2 m1 m2 (hfe i o hv k1 l1 m1 b n1) (hfe j o' hv' k2 l2 m2 b n2),?_,?_,?_,Nat.le_trans hH.size hH'.size,hH'.os.trans hH.os,hH'.tape.trans hH.tape,hH'.output.trans hH.output,hH.base,hH.glob⟩ C ?_
 ·intro i o hv k1 k2;exact gLm.carry C (fun b hl hb=>hold b (hH.excl i o hv b k1 hl k2 hb).2.2) (hH.objs i o hv k1 k2)
 ·intro i o hv b k1 hl k2 hb
  have:=hH.excl i o hv b k1 hl k2 (hfe i o hv k1 hl k2 b hb)
  refine⟨fun hs=>hs.elim this.1 (fun hs=>?_),this.2.1,Nat.lt_of_lt_of_le this.2.2 hH'.size⟩;rcases hS' b hs with h | h
  ·exact this.1 h
  ·omega
 ·intro b hb;rcases hb with hb | hb
  ·exact Nat.lt_of_lt_of_le (hH.sS b hb) hH'.size
  ·exact hH'.sS b hb
 ·intro b hb;rcases hb with hb | hb
  ·exact hH.sA b hb
  ·rcases hS' b hb with h | h
   ·exact hH.sA b h
   ·exact .inr (.inr (Nat.le_trans hH.size h))
 ·intro b h1 h2;rw [hold b (Nat.lt_of_lt_of_le h1 hH.size)];exact hH.frame b h1 h2
 ·have C2:Carry S' [] env' w' (fun b=>S b∨S' b) [] env' w':=⟨fun b h _=>.inr h,fun _ _ _=>rfl,fun _ _ h=>h,fun _ _ _ h1 h2=>⟨_,_,h1,h2,Nat.le_refl _,fun _=>rfl⟩⟩
  exact SVr.bare _ _ (hFy us) (SVr.carry C2 _ _ hr) _ _
end
section
variable {P:Program}{A:Amb}{σ:St}{K:St→Prop}
variable {dst:Option Nat}{ty:TypeId}{pos:String}{af:Array Edge}{g:Option (Nat × Bool)}{x y:Operand}{sv:SV}
end
end Go.Eng
