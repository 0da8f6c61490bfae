import Derived.Test.YtfpdlnkkcnmebaaGreatEng2
import Derived.Deep.LoopGhost
namespace Go.Eng
open Go Go.RowKit
section
variable {P:Program}{A:Amb}{σ σ':St}{Q Q':Exit→St→Prop}{K K':St→Prop}
def thenS(next:St→Prop)(Q:Exit→St→Prop):Exit→St→Prop
 | .normal,σ=>next σ
 | e,σ=>Q e σ
def hKl(id:Nat)(Q:Exit→St→Prop):Exit→St→Prop
 | .exit id',σ=>if id'=id then Q .normal σ else Q (.exit id') σ
 | e,σ=>Q e σ
theorem V.mono{c:Code}(h:V P A c σ Q)(hq:∀e s,Q e s→Q' e s):V P A c σ Q':=fun a w hr=>
 wp_mono (h a w hr) fun e _ _ ⟨s,h1,h2⟩=>⟨s,hq e s h1,h2⟩
theorem kI{x y:Code}(h:V P A x σ (thenS (fun s=>V P A y s Q) Q)):V P A (.seq x y) σ Q:=fun a w hr=>
 wp_seq (wp_mono (h a w hr) fun e a' w' ⟨s,h1,h2⟩=>by
  cases e with
  | normal=>exact h1 a' w' h2
  | exit id=>exact⟨s,h1,h2⟩
  | goto l=>exact⟨s,h1,h2⟩
  | ret=>exact⟨s,h1,h2⟩
  | panic c=>exact⟨s,h1,h2⟩
  | outgrown=>exact⟨s,h1,h2⟩)
theorem gUd{id:Nat}{l:List Oper}(h:VO P A l.toArray l σ (Q .normal)):V P A (.region id l.toArray false) σ Q:=fun a w hr=>
 wp_region_lit (h _ (fun s _ _ h1 h2=>⟨s,h1,h2⟩) a w hr)
theorem gO8{id:Nat}{l:List Oper}{y:Code}(h:VO P A l.toArray l σ (fun s=>V P A y s Q)):V P A (.seq (.region id l.toArray false) y) σ Q:=
 kI (gUd h)
theorem vN(h:Q .normal σ):V P A .skip σ Q:=fun _ _ hr=>wp_skip ⟨σ,h,hr⟩
theorem gS5{id:Nat}(h:Q (.exit id) σ):V P A (.exit id) σ Q:=fun _ _ hr=>wp_exit ⟨σ,h,hr⟩
theorem jF(h:Q .ret σ):V P A .ret σ Q:=fun _ _ hr=>wp_ret ⟨σ,h,hr⟩
theorem jA{id:Nat}{c:Code}(h:V P A c σ (hKl id Q)):V P A (.block id c) σ Q:=fun a w hr=>
 wp_block (wp_mono (h a w hr) fun e a' w' ⟨s,h1,h2⟩=>by
  cases e with
  | exit id'=>
    simp only [Exit.inBlock];simp only [hKl] at h1;split
    ·rename_i he;rw [if_pos he] at h1;exact⟨s,h1,h2⟩
    ·rename_i he;rw [if_neg he] at h1;exact⟨s,h1,h2⟩
  | normal=>exact⟨s,h1,h2⟩
  | goto l=>exact⟨s,h1,h2⟩
  | ret=>exact⟨s,h1,h2⟩
  | panic c=>exact⟨s,h1,h2⟩
  | outgrown=>exact⟨s,h1,h2⟩)
theorem hD8{c:Operand}{x y:Code}{t:Bool}(hc:σ.ev c=.d (.b t))(ht:t=true→V P A x σ Q)(hf:t=false→V P A y σ Q):V P A (.cond c x y) σ Q:=by
 intro a w hr;have hr':=hr;obtain⟨S,env,hH,hfr,hN,hd⟩:=hr;have h1:=mY.ev hfr hH c;rw [hc] at h1;simp only [SVr] at h1;obtain⟨cs,h2,h3⟩:=h1;simp only [Rd] at h3;subst h3;have h4:a.eval c=.bool t:=by rw [h2];rfl
 exact wp_cond_split h4 (fun h=>ht h a w hr') (fun h=>hf h a w hr')
mutual
def SV.lt(n:Nat):SV→Bool
 | .junk=>true
 | .d _=>true
 | .ag cs=>SV.lts n cs
 | .ptr i _=>Nat.blt i n
 | .sl i _=>Nat.blt i n
 | .dp _=>true
 | .ep i _ _ _ _=>Nat.blt i n
 | .fn _ cs=>SV.lts n cs
 | .tup cs=>SV.lts n cs
 | .nilsl=>true
def SV.lts(n:Nat):List SV→Bool
 | []=>true
 | c::cs=>SV.lt n c && SV.lts n cs
end
mutual
theorem SVr.cut{S:Nat→Prop}{L L2:List LO}{env:List Value}{w:World}(hl:env.length=(L++L2).length):∀(sv:SV)(v:Value),sv.lt L.length=true→SVr S (L++L2) env w sv v→SVr S L (env.take L.length) w sv v
 | .junk,v,_,h=>by simp only [SVr]
 | .d u,v,_,h=>by simpa only [SVr] using h
 | .ag cs,v,hlt,h=>by
   simp only [SVr] at h ⊢;obtain⟨vs,h1,h2⟩:=h;exact⟨vs,h1,kP.cut hl cs vs (by simpa only [SV.lt] using hlt) h2⟩
 | .ptr i off,v,hlt,h=>by
   simp only [SV.lt,Nat.blt_eq] at hlt;simp only [SVr] at h ⊢;obtain⟨b,h1,h2⟩:=h;exact⟨b,by rw [List.getElem?_take_of_lt hlt];exact h1,h2⟩
 | .sl i ver,v,hlt,h=>by
   simp only [SV.lt,Nat.blt_eq] at hlt;simp only [SVr] at h ⊢;obtain⟨hv,o,h1,h2,h3⟩:=h;exact⟨hv,o,by rw [List.getElem?_take_of_lt hlt];exact h1,by rw [List.getElem?_append_left hlt] at h2;exact h2,h3⟩
 | .dp u,v,_,h=>by simpa only [SVr] using h
 | .ep i ver z k off,v,hlt,h=>by
   simp only [SV.lt,Nat.blt_eq] at hlt;simp only [SVr] at h ⊢;obtain⟨hv,o,h1,h2,h3⟩:=h;exact⟨hv,o,by rw [List.getElem?_take_of_lt hlt];exact h1,by rw [List.getElem?_append_left hlt] at h2;exact h2,h3⟩
 | .fn f cs,v,hlt,h=>by
   simp only [SVr] at h ⊢;obtain⟨vs,h1,h2⟩:=h;exact⟨vs,h1,kP.cut hl cs vs (by simpa only [SV.lt] using hlt) h2⟩
 | .tup cs,v,hlt,h=>by
   simp only [SVr] at h ⊢;obtain⟨vs,h1,h2⟩:=h;exact⟨vs,h1,kP.cut hl cs vs (by simpa only [SV.lt] using hlt) h2⟩
 | .nilsl,v,_,h=>by simpa only [SVr] using h
theorem kP.cut{S:Nat→Prop}{L L2:List LO}{env:List Value}{w:World}(hl:env.length=(L++L2).length):∀(svs:List SV)(vs:List Value),SV.lts L.length svs=true→kP S (L++L2) env w svs vs→kP S L (env.take L.length) w svs vs
 | [],[],_,h=>by simp only [kP]
 | sv::svs,v::vs,hlt,h=>by
   simp only [SV.lts,Bool.and_eq_true] at hlt;simp only [kP] at h ⊢;exact⟨SVr.cut hl sv v hlt.1 h.1,kP.cut hl svs vs hlt.2 h.2⟩
 | [],_::_,_,h=>by simp [kP] at h
 | _::_,[],_,h=>by simp [kP] at h
end
def LO.lt(n:Nat):LO→Bool
 | .box cs=>SV.lts n cs
 | _=>true
def LO.lts(n:Nat):List LO→Bool
 | []=>true
 | o::os=>LO.lt n o && LO.lts n os
theorem LO.lts_get{n:Nat}:∀(L:List LO),LO.lts n L=true→∀(i:Nat)(o:LO),L[i]? =some o→o.lt n=true
 | [],_,i,o,h=>by simp at h
 | o0::L,hl,0,o,h=>by simp at h;subst h;simp only [LO.lts,Bool.and_eq_true] at hl;exact hl.1
 | o0::L,hl,i+1,o,h=>by simp only [LO.lts,Bool.and_eq_true] at hl;exact LO.lts_get L hl.2 i o (by simpa using h)
theorem pW.cut{A:Amb}{S:Nat→Prop}{L L2:List LO}{env:List Value}{w:World}(h:pW A S (L++L2) env w)(hL:LO.lts L.length L=true)(hA:A.L0.length≤L.length):pW A S L (env.take L.length) w:=by
 have hlen:=h.len;have pL:∀(i:Nat)(o:LO),L[i]? =some o→(L++L2)[i]? =some o:=fun i o ho=>by
  rw [List.getElem?_append_left (List.getElem?_eq_some_iff.1 ho).1];exact ho
 have pE:∀(i:Nat)(hv:Value),(env.take L.length)[i]? =some hv→env[i]? =some hv:=fun i hv he=>by
  rw [List.getElem?_take] at he;split at he
  ·exact he
  ·cases he
 refine⟨by rw [List.length_take,hlen,List.length_append];omega,?_,?_,?_,h.sS,h.sA,h.frame,h.size,h.os,h.tape,h.output,⟨hA,fun i hv o hv' o' k1 k2 k3 k4=>h.base.2 i hv o hv' o' k1 k2 (pE i hv' k3) (pL i o' k4)⟩,h.glob⟩
 ·intro i o hv ho he;have hob:=h.objs i o hv (pL i o ho) (pE i hv he);have hlt:=LO.lts_get L hL i o ho;cases o with
  | box cs=>
    obtain⟨b,vals,e,h1,h2,h3,h4⟩:=hob;exact⟨b,vals,e,h1,h2,kP.cut hlen _ _ (by simpa only [LO.lt] using hlt) h3,h4⟩
  | arr e z ver es=>exact hob
  | frz e z ver es=>exact hob
  | own e z ver es=>exact hob
  | dead ver=>exact hob
  | ownp h e z es=>exact hob
  | mix e z ver fs es=>exact hob
  | set ks=>exact hob
  | bld e T l=>exact hob
 ·intro i o hv b ho hl he hb;exact h.excl i o hv b (pL i o ho) hl (pE i hv he) hb
 ·intro i j o o' hv hv' b ho ho' hl hl' he he' hb hb';exact h.dist i j o o' hv hv' b (pL i o ho) (pL j o' ho') hl hl' (pE i hv he) (pE j hv' he') hb hb'
def LeF(fr:List (Nat × SV))(n:Nat):List (Nat × SV)→Prop
 | []=>True
 | p::r=>(look fr p.1=p.2∧p.2.lt n=true)∧LeF fr n r
structure Le (σ σ':St):Prop where
 N:σ.N=σ'.N
 fr:LeF σ.fr σ'.L.length σ'.fr
 L:∃L2,σ.L=σ'.L++L2
 lt:LO.lts σ'.L.length σ'.L=true
theorem LeF.look{fr:List (Nat × SV)}{n:Nat}:∀{fr':List (Nat × SV)},LeF fr n fr'→∀t,look fr' t=.junk∨(look fr t=look fr' t∧(look fr' t).lt n=true)
 | [],_,t=>.inl rfl
 | p::r,h,t=>by
   simp only [Go.Eng.look];by_cases ht:t=p.1
   ·simp only [ht,if_true];exact .inr h.1
   ·simp only [if_neg ht];exact LeF.look h.2 t
theorem mY.le{a:Act}{w:World}(hle:Le σ σ')(hA:A.L0.length≤σ'.L.length)(h:mY A σ a w):mY A σ' a w:=by
 obtain⟨S,env,hH,hfr,hN,hd⟩:=h;obtain⟨L2,hL⟩:=hle.L;rw [hL] at hH hfr;refine⟨S,env.take σ'.L.length,hH.cut hle.lt hA,fun t=>?_,by rw [←hle.N];exact hN,hd⟩;rcases LeF.look hle.fr t with hj | ⟨h1,h2⟩
 ·rw [hj];simp only [SVr]
 ·rw [←h1] at h2 ⊢;exact SVr.cut hH.len _ _ h2 (hfr t)
theorem hVp{c:Code}(hle:Le σ σ')(h:V P A c σ' Q)(hA:A.L0.length≤σ'.L.length:=by rw [gDv.h (A:=A)];exact Nat.le_of_ble_eq_true rfl):V P A c σ Q:=fun a w hr=>h a w (hr.le hle hA)
theorem gNx {α:Type}{c:Code}(I:α→St)(J:α→Prop)(μ:α→Nat)(x0:α)(h0:Le σ (I x0))(hJ:J x0)
  (round:∀x,J x→V P A c (I x) (thenS (fun s=>∃y,J y∧μ y < μ x∧Le s (I y)) Q)) (hA:∀x,A.L0.length≤(I x).L.length:=by intro x;rw [gDv.h (A:=A)];exact Nat.le_of_ble_eq_true rfl):V P A (.loop c) σ Q:=by
 intro a w hr;refine wp_loop_ghost (fun n a w=>∃x,μ x=n∧J x∧mY A (I x) a w) (μ x0) ⟨x0,rfl,hJ,hr.le h0 (hA _)⟩ ?_;intro n a w ⟨x,hn,hx,hr⟩;refine wp_mono (round x hx a w hr) ?_;intro e a' w' ⟨s,hq,hs⟩;cases e with
 | normal=>
   obtain⟨y,hJy,hlt,hle⟩:=hq;exact⟨μ y,hn▸hlt,y,rfl,hJy,hs.le hle (hA _)⟩
 | exit id=>exact⟨s,hq,hs⟩
 | goto l=>exact⟨s,hq,hs⟩
 | ret=>exact⟨s,hq,hs⟩
 | panic ch=>exact⟨s,hq,hs⟩
 | outgrown=>exact⟨s,hq,hs⟩
end
def tyI(P:Program)(T:TypeId):Option (Bool × Nat × Nat):=
 match P.info? T,P.underlying T with
 | some i,some (.struct _)=>some (true,i.size,i.bytes)
 | some i,some (.array _ _)=>some (true,i.size,i.bytes)
 | some i,some _=>some (false,i.size,i.bytes)
 | _,_=>none
def tyE(P:Program)(T:TypeId):Option TypeId:=
 match P.underlying T with
 | some (.slice e)=>some e
 | _=>none
def tyF(P:Program)(T:TypeId)(f:Nat):Option Nat:=
 match P.underlying T with
 | some (.struct fs)=>match fs[f]? with
   | some fd=>if (tyI P fd.type).map (·.2.1)=some 0 then none else(tyI P fd.type).map fun _=>fd.offset
   | none=>none
 | _=>none
def tyZ(P:Program)(T:TypeId):Option (List Value):=
 match P.info? T with
 | some i=>i.zero.map (·.cells.toList)
 | none=>none
section
variable {P:Program}{A:Amb}{σ σ':St}{K K':St→Prop}
theorem gLe{T:TypeId}{g:Bool}{n b:Nat}(h:tyI P T=some (g,n,b))(w:World):(isAgg T).run P w=.ok g w:=by
 unfold tyI at h;unfold isAgg;split at h
 ·rename_i i fs h1 h2;simp only [Option.some.injEq,Prod.mk.injEq] at h;simp [run_underlying h2,h.1]
 ·rename_i i m e h1 h2;simp only [Option.some.injEq,Prod.mk.injEq] at h;simp [run_underlying h2,h.1]
 ·rename_i i d hs ha h1 h2;simp only [Option.some.injEq,Prod.mk.injEq] at h;simp only [Sem.run_bind,run_underlying h2,Result.andThen_ok];cases d with
  | struct fs=>exact(hs fs rfl).elim
  | array m e=>exact(ha m e rfl).elim
  | _=>simp [←h.1]
 ·cases h
theorem run_typeInfo{T:TypeId}{i:TypeInfo}(h:P.info? T=some i)(w:World):(typeInfo T).run P w=.ok i w:=by
 simp [typeInfo,h]
theorem gPw{T:TypeId}{g:Bool}{n b:Nat}(h:tyI P T=some (g,n,b)):∃i,P.info? T=some i∧i.size=n∧i.bytes=b:=by
 unfold tyI at h
 split at h<;>first
  | (rename_i i _ h1 _;simp only [Option.some.injEq,Prod.mk.injEq] at h;exact⟨i,h1,h.2.1,h.2.2⟩)
  | (rename_i i _ _ h1 _;simp only [Option.some.injEq,Prod.mk.injEq] at h;exact⟨i,h1,h.2.1,h.2.2⟩)
  | (rename_i i _ _ _ h1 _;simp only [Option.some.injEq,Prod.mk.injEq] at h;exact⟨i,h1,h.2.1,h.2.2⟩)
  | cases h
theorem run_sizeOf{T:TypeId}{g:Bool}{n b:Nat}(h:tyI P T=some (g,n,b))(w:World):(sizeOf T).run P w=.ok n w:=by
 obtain⟨i,h1,h2,_⟩:=gPw h;simp [sizeOf,run_typeInfo h1,h2]
theorem zN{T e:TypeId}(h:tyE P T=some e):P.underlying T=some (.slice e):=by
 unfold tyE at h;split at h
 ·rename_i e' h';simp only [Option.some.injEq] at h;rw [h',h]
 ·cases h
def Quiet(P:Program)(A:Amb)(σ:St)(o:Oper)(sv:SV):Prop:=
 ∀(S:Nat→Prop)(env:List Value)(a:Act)(w:World),pW A S σ.L env w→(∀x∈o.op.operands.toList,SVr S σ.L env w (σ.ev x) (a.eval x))→
  ∀(next:Act→World→Prop)(R:Exit→Act→World→Prop),
   (∀v w' S',pW A S' σ.L env w'→Carry S σ.L env w S' σ.L env w'→SVr S' σ.L env w' sv v→next (a.put o.dst v) w')→o.wp P a w next R
theorem Act.getD_put(a:Act)(t:Nat)(v:Value)(ht:t < a.tmps.size)(u:Nat):(a.put (some t) v).tmps.getD u undef=if u=t then v else a.tmps.getD u undef:=by
 simp only [Act.put,Array.getD_eq_getD_getElem?,Array.getElem?_setIfInBounds];by_cases h:t=u
 ·subst h;simp [ht]
 ·rw [if_neg h,if_neg (fun e=>h e.symm)]
theorem uU {S S':Nat→Prop}{env env':List Value}{a:Act}{w w':World}{L':List LO}{t:Nat}{sv:SV}{v:Value}
  (hf:∀t,SVr S σ.L env w (look σ.fr t) (a.tmps.getD t undef)) (hN:a.tmps.size=σ.N) (hd:a.defers=[])
  (ht:Nat.blt t σ.N=true) (hH':pW A S' L' env' w') (C:Carry S σ.L env w S' L' env' w') (hv:SVr S' L' env' w' sv v) :
  mY A ⟨(t,sv)::σ.fr,L',σ.N⟩ (a.put (some t) v) w':=by
 have ht':t < a.tmps.size:=by rw [hN];simpa [Nat.blt_eq] using ht
 refine⟨S',env',hH',fun u=>?_,by simp [Act.put,hN],by simp [Act.put,hd]⟩;rw [Act.getD_put a t v ht' u];simp only [look];split
 ·exact hv
 ·exact SVr.carry C _ _ (hf u)
theorem gBw {S S':Nat→Prop}{env env':List Value}{a:Act}{w w':World}{L':List LO}{v:Value}
  (hf:∀t,SVr S σ.L env w (look σ.fr t) (a.tmps.getD t undef)) (hN:a.tmps.size=σ.N) (hd:a.defers=[])
  (hH':pW A S' L' env' w') (C:Carry S σ.L env w S' L' env' w') :
  mY A ⟨σ.fr,L',σ.N⟩ (a.put none v) w':=
 ⟨S',env',hH',fun u=>SVr.carry C _ _ (hf u),hN,hd⟩
theorem gDc{ops:Array Oper}(h:K σ):VO P A ops [] σ K:=fun _ hR _ _ hr=>hR _ _ _ h hr
theorem hO7 {ops:Array Oper}{rest:List Oper}{t:Nat}{op:Op}{ty:TypeId}{pos:String}{af:Array Edge}{sv:SV}{fr:List (Nat × SV)}{L:List LO}{N:Nat}
  (hq:Quiet P A ⟨fr,L,N⟩ ⟨some t,op,ty,pos,af,none⟩ sv) (ht:Nat.blt t N=true) (h:VO P A ops rest ⟨(t,sv)::fr,L,N⟩ K) :
  VO P A ops (⟨some t,op,ty,pos,af,none⟩::rest) ⟨fr,L,N⟩ K:=by
 intro R hR a w ⟨S,env,hH,hf,hN,hd⟩;refine wpList_plain rfl fun K' hK'=>?_;refine hq S env a w hH (fun x _=>mY.ev hf hH x) _ _ ?_;intro v w' S' hH' C hv;exact hK' _ _ (h R hR _ _ (uU hf hN hd ht hH' C hv))
theorem hD9 {ops:Array Oper}{rest:List Oper}{dst:Option Nat}{op:Op}{ty:TypeId}{pos:String}{af:Array Edge}{j tj:Nat}{want:Bool}{o':Oper}{fr:List (Nat × SV)}{L:List LO}{N:Nat}
  (hj:ops[j]? =some o') (hdst:o'.dst=some tj) (htj:Nat.blt tj N=true) (hb:look fr tj=.d (.b want)) (h:VO P A ops (⟨dst,op,ty,pos,af,none⟩::rest) ⟨fr,L,N⟩ K) :
  VO P A ops (⟨dst,op,ty,pos,af,some (j,want)⟩::rest) ⟨fr,L,N⟩ K:=by
 intro R hR a w hr;have h1:=h R hR a w hr;obtain⟨S,env,hH,hf,hN,hd⟩:=hr;have h2:=hf tj;rw [hb] at h2;simp only [SVr] at h2;obtain⟨cs,h3,h4⟩:=h2;simp only [Rd] at h4;subst h4;simp only [val,U.isSt,Bool.false_eq_true,if_false,List.headD_cons] at h3;have ht':tj < a.tmps.size:=by rw [hN];simpa [Nat.blt_eq] using htj
 have hy:yielded ops a.tmps j=some want:=by
  simp only [yielded,hj,hdst,Option.bind_some]
  have:a.tmps[tj]? =some (.bool want):=by
   rw [Array.getD_eq_getD_getElem?,Array.getElem?_eq_getElem ht'] at h3;rw [Array.getElem?_eq_getElem ht'];have h3':a.tmps[tj]=.bool want:=by simpa using h3
   rw [h3']
  rw [this]
 unfold wpList at h1 ⊢;simp only [Region.wanted,if_true] at h1;simp only [Region.wanted,hy,beq_self_eq_true,if_true];exact h1
theorem hEb {ops:Array Oper}{rest:List Oper}{t:Nat}{op:Op}{ty:TypeId}{pos:String}{af:Array Edge}{j tj:Nat}{want x:Bool}{o':Oper}{fr:List (Nat × SV)}{L:List LO}{N:Nat}
  (hj:ops[j]? =some o') (hdst:o'.dst=some tj) (htj:Nat.blt tj N=true) (hb:look fr tj=.d (.b x)) (hx:(x==want)=false) (ht:Nat.blt t N=true)
  (h:VO P A ops rest ⟨(t,.junk)::fr,L,N⟩ K) :
  VO P A ops (⟨some t,op,ty,pos,af,some (j,want)⟩::rest) ⟨fr,L,N⟩ K:=by
 intro R hR a w ⟨S,env,hH,hf,hN,hd⟩;have h1:=h R hR (a.put (some t) undef) w (uU hf hN hd ht hH Carry.refl (by simp only [SVr]));have h2:=hf tj;rw [hb] at h2;simp only [SVr] at h2;obtain⟨cs,h3,h4⟩:=h2;simp only [Rd] at h4;subst h4;simp only [val,U.isSt,Bool.false_eq_true,if_false,List.headD_cons] at h3;have ht':tj < a.tmps.size:=by rw [hN];simpa [Nat.blt_eq] using htj
 have hy:yielded ops a.tmps j=some x:=by
  simp only [yielded,hj,hdst,Option.bind_some]
  have:a.tmps[tj]? =some (.bool x):=by
   rw [Array.getD_eq_getD_getElem?,Array.getElem?_eq_getElem ht'] at h3;rw [Array.getElem?_eq_getElem ht'];have h3':a.tmps[tj]=.bool x:=by simpa using h3
   rw [h3']
  rw [this]
 unfold wpList;have hw:(some x==some want)=false:=by cases x<;>cases want<;>simp_all
 simp only [Region.wanted,hy,hw,Bool.false_eq_true,if_false];exact h1
theorem Quiet.pure {o:Oper}{sv:SV}(h:∀(S:Nat→Prop)(env:List Value)(a:Act)(w:World),pW A S σ.L env w→(∀x∈o.op.operands.toList,SVr S σ.L env w (σ.ev x) (a.eval x))→
  ∃v,(execOp a.eval o).run P w=.ok (.value v) w∧SVr S σ.L env w sv v):Quiet P A σ o sv:=by
 intro S env a w hH hx next R hn
 obtain⟨v,h1,h2⟩:=h S env a w hH hx;unfold Oper.wp;rw [h1];exact hn v w S hH Carry.refl h2
section
variable {dst:Option Nat}{ty:TypeId}{pos:String}{af:Array Edge}{g:Option (Nat × Bool)}{x y:Operand}{sv:SV}
theorem hEc(h:σ.ev x=sv):Quiet P A σ ⟨dst,.move x,ty,pos,af,g⟩ sv:=Quiet.pure fun S env a w hH hx=>
 ⟨a.eval x,rfl,h▸hx x (by simp [Op.operands])⟩
section
variable {u:U}{i off ver z k f:Nat}{l:List SV}
theorem gUe(h:σ.ev x=sv):Quiet P A σ ⟨dst,.assign x,ty,pos,af,g⟩ sv:=Quiet.pure fun S env a w hH hx=>
 ⟨a.eval x,rfl,h▸hx x (by simp [Op.operands])⟩
end
theorem SVr.int{S:Nat→Prop}{L:List LO}{env:List Value}{w:World}{k:IntKind}{n:Int}{v:Value}:SVr S L env w (.d (.i k n)) v↔v=.int k n:=by
 simp only [SVr,RdV,Rd];exact⟨fun⟨cs,h1,h2⟩=>by subst h2;exact h1,fun h=>⟨[.int k n],h,rfl⟩⟩
theorem SVr.bool{S:Nat→Prop}{L:List LO}{env:List Value}{w:World}{b:Bool}{v:Value}:SVr S L env w (.d (.b b)) v↔v=.bool b:=by
 simp only [SVr,RdV,Rd];exact⟨fun⟨cs,h1,h2⟩=>by subst h2;exact h1,fun h=>⟨[.bool b],h,rfl⟩⟩
theorem SVr.str{S:Nat→Prop}{L:List LO}{env:List Value}{w:World}{l:LB}{v:Value}:SVr S L env w (.d (.s l)) v↔l.length≤big∧v=.string ⟨l.toArray⟩:=by
 simp only [SVr,RdV,Rd];exact⟨fun⟨cs,h1,h2,h3⟩=>by subst h3;exact⟨h2,h1⟩,fun h=>⟨[.string ⟨l.toArray⟩],h.2,h.1,rfl⟩⟩
theorem hKm{c:Operand}{t:Bool}(hc:σ.ev c=.d (.b t))(h:(if t then σ.ev x else σ.ev y)=sv):Quiet P A σ ⟨dst,.pick c x y,ty,pos,af,g⟩ sv:=Quiet.pure fun S env a w hH hx=>by
 have h1:=hx c (by simp [Op.operands]);rw [hc,SVr.bool] at h1;refine⟨if t then a.eval x else a.eval y,by cases t<;>simp [execOp,asBool,h1],?_⟩;subst h;cases t
 ·exact hx y (by simp [Op.operands])
 ·exact hx x (by simp [Op.operands])
def hVq:BinOp→Int→Int→Option Bool
 | .eql,a,b=>some (a==b)
 | .neq,a,b=>some (a != b)
 | .lss,a,b=>some (decide (a < b))
 | .leq,a,b=>some (decide (a≤b))
 | .gtr,a,b=>some (decide (a > b))
 | .geq,a,b=>some (decide (a≥b))
 | _,_,_=>none
theorem hVr{op:BinOp}{T T':TypeId}{k:IntKind}{m n:Int}{r:Bool}(hx:σ.ev x=.d (.i k m))(hy:σ.ev y=.d (.i k n))(h:hVq op m n=some r) :
  Quiet P A σ ⟨dst,.binOp op T x y T',ty,pos,af,g⟩ (.d (.b r)):=Quiet.pure fun S env a w hH ho=>by
 have h1:=ho x (by simp [Op.operands]);have h2:=ho y (by simp [Op.operands]);rw [hx,SVr.int] at h1;rw [hy,SVr.int] at h2;refine⟨.bool r,?_,SVr.bool.2 rfl⟩;cases op<;>simp [hVq] at h<;>simp [execOp,h1,h2,eqGuard,binOp,Op.intCmp,h]
def arI:BinOp→IntKind→Int→Int→Option Int
 | .add,k,a,b=>some (k.wrap (a+b))
 | .sub,k,a,b=>some (k.wrap (a - b))
 | .mul,k,a,b=>some (k.wrap (a*b))
 | _,_,_,_=>none
theorem hVs{op:BinOp}{T T':TypeId}{k:IntKind}{m n r:Int}(hx:σ.ev x=.d (.i k m))(hy:σ.ev y=.d (.i k n))(h:arI op k m n=some r) :
  Quiet P A σ ⟨dst,.binOp op T x y T',ty,pos,af,g⟩ (.d (.i k r)):=Quiet.pure fun S env a w hH ho=>by
 have h1:=ho x (by simp [Op.operands]);have h2:=ho y (by simp [Op.operands]);rw [hx,SVr.int] at h1;rw [hy,SVr.int] at h2;refine⟨.int k r,?_,SVr.int.2 rfl⟩;cases op<;>simp [arI] at h<;>simp [execOp,h1,h2,eqGuard,binOp,Op.intArith,h]
theorem zV(n:Int)(h1: -9223372036854775808≤n)(h2:n≤9223372036854775807):IntKind.i64.wrap n=n:=IntWalk.i64_in n ⟨h1,h2⟩
theorem hO8{T T':TypeId}{m n:Int}(hx:σ.ev x=.d (.i .i64 m))(hy:σ.ev y=.d (.i .i64 n))(h1: -9223372036854775808≤m+n)(h2:m+n≤9223372036854775807) :
  Quiet P A σ ⟨dst,.binOp .add T x y T',ty,pos,af,g⟩ (.d (.i .i64 (m+n))):=hVs hx hy (by simp [arI,zV _ h1 h2])
theorem hVt{T T':TypeId}{m n:Int}(hx:σ.ev x=.d (.i .i64 m))(hy:σ.ev y=.d (.i .i64 n))(h1: -9223372036854775808≤m - n)(h2:m - n≤9223372036854775807) :
  Quiet P A σ ⟨dst,.binOp .sub T x y T',ty,pos,af,g⟩ (.d (.i .i64 (m - n))):=hVs hx hy (by simp [arI,zV _ h1 h2])
theorem hO9{T:TypeId}{t:Bool}(hx:σ.ev x=.d (.b t)):Quiet P A σ ⟨dst,.unOp .not T x,ty,pos,af,g⟩ (.d (.b (!t))):=Quiet.pure fun S env a w hH ho=>by
 have h1:=ho x (by simp [Op.operands]);rw [hx,SVr.bool] at h1;exact⟨.bool (!t),by simp [execOp,h1,Op.unary],SVr.bool.2 rfl⟩
theorem hVu{T T':TypeId}{l l':LB}(hx:σ.ev x=.d (.s l))(hy:σ.ev y=.d (.s l')) :
  Quiet P A σ ⟨dst,.binOp .eql T x y T',ty,pos,af,g⟩ (.d (.b (l==l'))):=Quiet.pure fun S env a w hH ho=>by
 have h1:=ho x (by simp [Op.operands]);have h2:=ho y (by simp [Op.operands]);rw [hx,SVr.str] at h1;rw [hy,SVr.str] at h2;refine⟨.bool (l==l'),?_,SVr.bool.2 rfl⟩;simp [execOp,h1.2,h2.2,eqGuard,binOp,Op.stringOp,ByteArray.toList_eq]
theorem hVv{T T':TypeId}{l l':LB}(hx:σ.ev x=.d (.s l))(hy:σ.ev y=.d (.s l')) :
  Quiet P A σ ⟨dst,.binOp .neq T x y T',ty,pos,af,g⟩ (.d (.b (!(l==l')))):=Quiet.pure fun S env a w hH ho=>by
 have h1:=ho x (by simp [Op.operands]);have h2:=ho y (by simp [Op.operands]);rw [hx,SVr.str] at h1;rw [hy,SVr.str] at h2;refine⟨.bool (!(l==l')),?_,SVr.bool.2 rfl⟩;simp [execOp,h1.2,h2.2,eqGuard,binOp,Op.stringOp,ByteArray.toList_eq]
theorem gUf{T:TypeId}(hT:P.underlying T=some .bool)(d:Nat)(a b:Bool)(w:World):(Op.equalIn (d+1) T (.bool a) (.bool b)).run P w=.ok (a==b) w:=by
 simp [Op.equalIn,run_underlying hT]
theorem gRh{T:TypeId}(hT:P.underlying T=some .bool)(a b:Bool)(w:World):(Op.equal T (.bool a) (.bool b)).run P w=.ok (a==b) w:=gUf hT 9999 a b w
theorem hVw{T T':TypeId}{a b:Bool}(hT:P.underlying T=some .bool)(hx:σ.ev x=.d (.b a))(hy:σ.ev y=.d (.b b)) :
  Quiet P A σ ⟨dst,.binOp .neq T x y T',ty,pos,af,g⟩ (.d (.b (!(a==b)))):=Quiet.pure fun S env ac w hH ho=>by
 have h1:=ho x (by simp [Op.operands]);have h2:=ho y (by simp [Op.operands]);rw [hx,SVr.bool] at h1;rw [hy,SVr.bool] at h2;refine⟨.bool (!(a==b)),?_,SVr.bool.2 rfl⟩;simp [execOp,h1,h2,eqGuard,binOp,gRh hT]
theorem hVx{T T':TypeId}{a b:Bool}(hT:P.underlying T=some .bool)(hx:σ.ev x=.d (.b a))(hy:σ.ev y=.d (.b b)) :
  Quiet P A σ ⟨dst,.binOp .eql T x y T',ty,pos,af,g⟩ (.d (.b (a==b))):=Quiet.pure fun S env ac w hH ho=>by
 have h1:=ho x (by simp [Op.operands]);have h2:=ho y (by simp [Op.operands]);rw [hx,SVr.bool] at h1;rw [hy,SVr.bool] at h2;refine⟨.bool (a==b),?_,SVr.bool.2 rfl⟩;simp [execOp,h1,h2,eqGuard,binOp,gRh hT]
def hEd(P:Program)(T:TypeId):Prop:=∀(w:World)(a b c d:Int),
 P.eqGuardType P.depth T=false∧(Op.equal T (.agg #[.int .i64 a,.int .i64 b]) (.agg #[.int .i64 c,.int .i64 d])).run P w=.ok (a==c && b==d) w
theorem SVr.pair{S:Nat→Prop}{L:List LO}{env:List Value}{w:World}{a b:Int}{v:Value}:SVr S L env w (.ag [.d (.i .i64 a),.d (.i .i64 b)]) v↔v=.agg #[.int .i64 a,.int .i64 b]:=by
 constructor
 ·intro h;rw [SVr.eq_def] at h;obtain⟨vs,rfl,h⟩:=h
  match vs,h with
  | [v1,v2],h=>
    simp only [kP] at h;rw [SVr.int,SVr.int] at h;obtain⟨rfl,rfl,_⟩:=h;rfl
  | [],h=>simp [kP] at h
  | [_],h=>simp [kP] at h
  | _::_::_::_,h=>simp [kP] at h
 ·rintro rfl;rw [SVr.eq_def];refine⟨[.int .i64 a,.int .i64 b],rfl,?_⟩;simp only [kP];rw [SVr.int,SVr.int];exact⟨rfl,rfl,trivial⟩
theorem hVy{T T':TypeId}{a b c d:Int}(hE:hEd P T)(hx:σ.ev x=.ag [.d (.i .i64 a),.d (.i .i64 b)])(hy:σ.ev y=.ag [.d (.i .i64 c),.d (.i .i64 d)]) :
  Quiet P A σ ⟨dst,.binOp .eql T x y T',ty,pos,af,g⟩ (.d (.b (a==c && b==d))):=Quiet.pure fun S env ac w hH ho=>by
 have h1:=ho x (by simp [Op.operands]);have h2:=ho y (by simp [Op.operands]);rw [hx,SVr.pair] at h1;rw [hy,SVr.pair] at h2;refine⟨.bool (a==c && b==d),?_,SVr.bool.2 rfl⟩
 have:=hE w a b c d
 simp [execOp,h1,h2,eqGuard,binOp,this.1,this.2]
theorem hVz{T T':TypeId}{a b c d:Int}(hE:hEd P T)(hx:σ.ev x=.ag [.d (.i .i64 a),.d (.i .i64 b)])(hy:σ.ev y=.ag [.d (.i .i64 c),.d (.i .i64 d)]) :
  Quiet P A σ ⟨dst,.binOp .neq T x y T',ty,pos,af,g⟩ (.d (.b (!(a==c && b==d)))):=Quiet.pure fun S env ac w hH ho=>by
 have h1:=ho x (by simp [Op.operands]);have h2:=ho y (by simp [Op.operands]);rw [hx,SVr.pair] at h1;rw [hy,SVr.pair] at h2;refine⟨.bool (!(a==c && b==d)),?_,SVr.bool.2 rfl⟩
 have:=hE w a b c d
 simp [execOp,h1,h2,eqGuard,binOp,this.1,this.2]
end
end
end Go.Eng
