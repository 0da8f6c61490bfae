import Derived.Test.YtfaplndgbgoaaaaGreatDoorEng65
set_option linter.unusedVariables false
set_option linter.unusedSimpArgs false
set_option linter.unusedSectionVars false
namespace Go.Eng
open Go
def SV.isD:SV→Bool
 | .d _=>true
 | _=>false
theorem gPp{ρ:Nat→Nat}:∀{ds:List SV},ds.all SV.isD=true→SV.rens ρ ds=ds
 | [],_=>rfl
 | sv::ds,h=>by
   simp only [List.all_cons,Bool.and_eq_true] at h
   have h1:SV.ren ρ sv=sv:=by
    cases sv with
    | d u=>rfl
    | _=>simp [SV.isD] at h
   simp only [SV.rens,h1,gPp h.2]
section
variable {P:Program} {A:Amb} {ops:Array Oper} {K:St→Prop} {r:List (Nat × Bool)} {pf:PF} {fr:List (Nat × SV)} {L L':List LO} {N i t:Nat} {rest:List Oper}
variable {ty:TypeId} {pos:String} {af:Array Edge}
theorem qG {f:Operand} {fi:Nat} {caps:List SV} {args:Array Operand} {at_:Array TypeId} {cargs ds0 ds:List SV} {sv:SV} (j:Nat) (hspec:Spec P fi cargs [.box ds0] (fun s Lo=>s=sv∧Lo=[.box ds])) (h:VY P A ops K r pf ⟨(t,sv)::fr,L',N⟩)
  (hL':St1 (.box ds) j L L':=by repeat constructor) (hi:ops[i]? =some ⟨some t,.call { callee:=.value f,args:=args,argTypes:=at_ },ty,pos,af,none⟩:=by rfl) (hsv:sv.ren (rn [j] L.length)=sv:=by rfl) (hds:ds.all SV.isD=true:=by rfl)
  (hf:(St.mk fr L N).ev f=.fn fi caps:=by rfl) (hp:gN0 L (rn [j] L.length) 0 [.box ds0]:=by((repeat(first | exact trivial | exact rfl | refine And.intro ?_ ?_));first | done | fail))
  (hjs:(decide [j].Nodup && ([j].all fun j=>Nat.blt j L.length) && [j].length==[LO.box ds0].length && LO.lts [LO.box ds0].length [LO.box ds0])=true:=by rfl)
  (hargs:AGs L (rn [j] L.length) [LO.box ds0].length (args.toList.map (St.mk fr L N).ev++caps) cargs:=by((repeat(first | exact trivial | exact .inl ⟨rfl,rfl⟩ | exact .inr ⟨_,rfl,by((repeat(first | exact trivial | exact rfl | exact⟨_,rfl⟩ | refine And.intro ?_ ?_));first | done | fail)⟩ | refine And.intro ?_ ?_));first | done | fail))
  (ht:Nat.blt t N=true:=by rfl) (hpf:yG ops i L' pf:=by(repeat(first | exact yG.nil | (apply yG.keep;focus ((repeat constructor);done)) | (apply yG.dep;focus kernel_rfl)))) :
  VY P A ops K ((i,false)::r) pf ⟨fr,L,N⟩:=
 gBy [j] hspec h hi hsv (by simp only [List.map_cons,List.map_nil,LO.ren,gPp hds,gHe,List.append_nil];exact hL'.spec) hf hp hjs hargs ht hpf
theorem zI {f:Operand} {fi:Nat} {caps:List SV} {args:Array Operand} {at_:Array TypeId} {cargs ds0 ds:List SV} {sv:SV} (j:Nat) (hspec:Spec P fi cargs [.box ds0] (fun s Lo=>s=sv∧Lo=[.box ds])) (h:VO P A ops rest ⟨(t,sv)::fr,L',N⟩ K)
  (hL':St1 (.box ds) j L L':=by repeat constructor) (hsv:sv.ren (rn [j] L.length)=sv:=by rfl) (hds:ds.all SV.isD=true:=by rfl)
  (hf:(St.mk fr L N).ev f=.fn fi caps:=by rfl) (hp:gN0 L (rn [j] L.length) 0 [.box ds0]:=by((repeat(first | exact trivial | exact rfl | refine And.intro ?_ ?_));first | done | fail))
  (hjs:(decide [j].Nodup && ([j].all fun j=>Nat.blt j L.length) && [j].length==[LO.box ds0].length && LO.lts [LO.box ds0].length [LO.box ds0])=true:=by rfl)
  (hargs:AGs L (rn [j] L.length) [LO.box ds0].length (args.toList.map (St.mk fr L N).ev++caps) cargs:=by((repeat(first | exact trivial | exact .inl ⟨rfl,rfl⟩ | exact .inr ⟨_,rfl,by((repeat(first | exact trivial | exact rfl | exact⟨_,rfl⟩ | refine And.intro ?_ ?_));first | done | fail)⟩ | refine And.intro ?_ ?_));first | done | fail))
  (ht:Nat.blt t N=true:=by rfl) :
  VO P A ops (⟨some t,.call { callee:=.value f,args:=args,argTypes:=at_ },ty,pos,af,none⟩::rest) ⟨fr,L,N⟩ K:=by
 refine gG0 [j] hspec ?_ hf hp hjs hargs ht
 rintro _ _ ⟨rfl,rfl⟩
 rw [hsv,show gHe [j] ([LO.box ds].map (LO.ren (rn [j] L.length))) L=L' from by simp only [List.map_cons,List.map_nil,LO.ren,gPp hds,gHe,List.append_nil];exact hL'.spec]
 exact h
theorem eJ{s t:St}(h:Le s t:=by refine⟨rfl,?_,⟨_,rfl⟩,rfl⟩;repeat(first | exact trivial | refine And.intro ⟨rfl,rfl⟩ ?_)):Le s t:=h
end
end Go.Eng
set_option linter.unusedVariables false
set_option linter.unusedSimpArgs false
set_option linter.unusedSectionVars false
namespace Go.Eng
open Go
@[reducible] def SV.N(n:Nat):SV:=.d (.i .i64 (n:Int))
@[reducible] def SV.I(n:Int):SV:=.d (.i .i64 n)
@[reducible] def SV.S(s:List UInt8):SV:=.d (.s s)
@[reducible] def SV.L(t:Nat)(l:List U):SV:=.d (.sl t l)
@[reducible] def SV.B(b:Bool):SV:=.d (.b b)
section
variable {P:Program} {A:Amb} {ops:Array Oper} {K:St→Prop} {Q:Exit→St→Prop} {rest:List Oper} {σ σ' σJ:St} {fr:List (Nat × SV)} {L:List LO} {N t:Nat} {sv:SV}
variable {ty:TypeId} {pos:String} {af:Array Edge} {op:Op}
theorem goS {X Y:Prop} (hy:Y) (h:Y→X:=by
  intro hy
  refine gAi ?_
  show V _ _ _ _ _
  exact goL hy):X:=h hy
theorem goX {X Y:Prop} (hy:Y) (h:Y→X:=by
  intro hy
  refine gQz ?_
  show V _ _ _ _ _
  exact goL hy):X:=h hy
theorem goR {X E:Prop} (h:E) (g:E→X:=by
  intro h
  refine goL ?_
  refine jN ?_
  cases h
  exact qK):X:=g h
theorem noS {X Y:Prop} (hy:Y) (h:Y→X:=by
  intro hy
  refine gAi ?_
  show V _ _ _ _ _
  exact hy):X:=h hy
theorem noX {X Y:Prop} (hy:Y) (h:Y→X:=by
  intro hy
  refine gQz ?_
  show V _ _ _ _ _
  exact hy):X:=h hy
theorem noB {X Y:Prop} (hy:Y) (h:Y→X:=by
  intro hy
  refine jE ?_
  show V _ _ _ _ _
  exact hy):X:=h hy
theorem gKs{x y:Code}{Q2:Exit→St→Prop}{σ:St}(σJ:Nat→St)(h1:V P A x σ (thenS (fun s=>∃v,Le s (σJ v)) Q))(h2:∀v,V P A y (σJ v) Q2)(hA:∀v,A.L0.length≤(σJ v).L.length:=by intro v;rw [gBx.h (A:=A)];exact Nat.le_of_ble_eq_true rfl):V P A x σ (thenS (fun s=>V P A y s Q2) Q):=
 V.mono h1 (fun e s hq=>by
  cases e with
  | normal=>
    obtain⟨v,h⟩:=hq
    exact hOc h (h2 v) (hA v)
  | _=>exact hq)
theorem jI(hq:QR P ⟨fr,L,N⟩ ⟨some t,op,ty,pos,af,none⟩ sv){Y:Prop}(hy:Y)(h:Y→VO P A ops rest ⟨(t,sv)::fr,L,N⟩ K:=by intro hy;exact goL hy)(ht:Nat.blt t N=true:=by rfl):VO P A ops (⟨some t,op,ty,pos,af,none⟩::rest) ⟨fr,L,N⟩ K:=qP hq (h hy) ht
theorem gFl(hq:Quiet P A ⟨fr,L,N⟩ ⟨some t,op,ty,pos,af,none⟩ sv){Y:Prop}(hy:Y)(h:Y→VO P A ops rest ⟨(t,sv)::fr,L,N⟩ K:=by intro hy;exact goL hy)(ht:Nat.blt t N=true:=by rfl):VO P A ops (⟨some t,op,ty,pos,af,none⟩::rest) ⟨fr,L,N⟩ K:=gA6 hq (h hy) ht
theorem hOu{α:Type}{b:Bool}{u v r:α}(h:cnd b u v=r){c:Operand}{x y:Code}(ht:b=true→u=r→V P A x σ Q)(hf:b=false→v=r→V P A y σ Q)(hc:σ.ev c=.d (.b b):=by rfl):V P A (.cond c x y) σ Q:=mO (fun e=>ht e (gX e h)) (fun e=>hf e (gY e h)) hc
theorem goC {α:Type} {b:Bool} {u v r:α} (h:cnd b u v=r) {X Y Z:Prop} (ht:b=true→u=r→Y) (hf:b=false→v=r→Z) (g:(b=true→u=r→Y)→(b=false→v=r→Z)→X:=by
  intro ht hf
  refine goL ?_
  exact hOu h ht hf):X:=g ht hf
theorem hHa {c:Code} {fr':List (Nat × SV)} {L':List LO} (h:V P A c ⟨fr',L',N⟩ Q) (hL:DzL L L L':=by(repeat(first | exact DzS.frz rfl | apply DzS.ag | exact DzS.same | apply DzO.box | exact DzO.same | constructor));first | done | fail)
  (hfr:DzF L fr fr':=by(repeat(first | exact DzS.frz rfl | apply DzS.ag | exact DzS.same | constructor));first | done | fail):V P A c ⟨fr,L,N⟩ Q:=hKg h hL hfr
theorem SpI {f:Nat} {fn:Func} {c:Code} {args:List SV} {us:List U} (hf:P.funcs[f]? =some fn) (h:∀A [gBx A 0],V P A c ⟨gH3 0 args,[],fn.ntmps⟩ (uJ P fn us)) (hb:fn.body=some c:=by rfl) (hname:(fn.name== "runtime.NumGoroutine")=false:=by kernel_rfl)
  (hn:Nat.ble args.length fn.ntmps=true:=by rfl):jB P f args us:=gM8 hf hb hname hn h
end
end Go.Eng
