import Derived.Test.YtfjncckelekpiaaGreatRows
import Derived.Test.YtfjncckelekpiaaGreatBrB
import Derived.OpenShut
import Derived.ShutString
import Derived.ChangeOld
import Derived.Below
set_option linter.unusedVariables false
set_option linter.unusedSimpArgs false
namespace Go.Proofs.YtfjncckelekpiaaGreat.lFnMethUnit
open Go Go.Eng Go.ChangeShapes Go.WideShapes Go.ChangeAt Go.RowKit
open Go.ChangeMaps (open_string shut_string)
open Go.Proofs.YtfjncckelekpiaaGreat
theorem jA:(Rows.fnMethUnitRow.inPlace==Tryz.pinned.checked.prog.inPlace 3)=true:=by kernel_rfl
theorem jB:(Rows.fnMethUnitRow.unfollowed==Tryz.pinned.checked.prog.unfollowed 3)=true:=by kernel_rfl
theorem jC:(Rows.fnMethUnitRow.recurses==Tryz.pinned.checked.prog.recurses 3)=true:=by kernel_rfl
theorem jD:(Rows.fnMethUnitRow.named==Tryz.pinned.checked.prog.varsNamed 3)=true:=by kernel_rfl
theorem jE:laidOutB Tryz.pinned.checked.prog=true:=by kernel_rfl
theorem closed:joinedFacts Tryz.pinned.checked.prog 3 Tryz.f3 Rows.fnMethUnitSpec Rows.fnMethUnitRow=true:=by
 unfold joinedFacts;rw [jA,jB,jC,jD,jE];kernel_rfl
theorem own:ownKnob Tryz.prog.godebug=none:=by kernel_rfl
theorem laidOut:laidOutB Tryz.prog=true:=jE
set_option maxRecDepth 100000 in
theorem lifted(os:Os)(started:os.Started)(H:Type)(enc:TypeId × Value→H) :
  ReturnsInHanded {} Tryz.checked os 3 .any (Rows.fnMethUnitSpec.pre6 enc Tryz.prog Tryz.f3 Rows.fnMethUnitRow.domain false) (Rows.fnMethUnitSpec.post enc Tryz.prog Tryz.f3 false true false false):=by
 refine returnsInHanded_of_change_sized (C:=Tryz.checked) own started (by kernel_rfl) Tryz.func3
  (ChangeSpec.witness6 (enc:=enc) (C:=Tryz.checked) false ⟨#[],#[.slice none 0 0],[]⟩ 8 (by kernel_rfl) (by kernel_rfl) (by kernel_rfl) (by kernel_rfl)) ?_
 intro W base args ds gs before hval0 hW hcnd hsz _;have hval:∀(j:Nat) t v,Tryz.f3.params[j]? =some t→args[j]? =some v→Value.okWide Tryz.prog W .any base t v:=hval0;have hW':=hW;obtain⟨p,q,hA0,hV,rfl,hfz,hnd⟩:=hW;have hA:DataW.TrodAll enc Tryz.prog W 0 (fun _=>true) true Tryz.f3.params.toList args.toList ds p:=hA0;rw [Tryz.params3] at hA hval;obtain⟨f,vs0,d0,ds0,p0,q0,hargs,rfl,rfl,y,r0⟩:=trodAll_cons hA;obtain⟨rfl,rfl,rfl⟩:=trodAll_nil r0;obtain rfl:args=#[f]:=by cases args;simp_all
 obtain⟨rfl,rfl⟩:=trodVars_none hV;have hwt:∀x∈DataW.weightsEach Tryz.prog (Tryz.f3.params.toList++Rows.fnMethUnitSpec.plain.varTypes Tryz.prog) ([d0]++[]),x≤reachBytes:=by
  intro x hx
  have:=List.all_eq_true.1 hsz x hx
  simpa using this
 rw [Tryz.params3] at hwt;have k0:=y;have lt0:∀x∈p0,x.block < W.heap.size:=by obtain⟨m,hm⟩:=k0;exact DataW.trod_lt m _ _ _ hm
 have hna:∀cs,f≠.agg cs:=fun cs hc=>by
  subst hc
  have:=hval 0 22 _ rfl rfl
  simp [Value.okWide,Cell.okWide,Cell.ok,Tryz.underlying22] at this
 obtain⟨code,s0⟩:=hTw Tryz.underlying22 Tryz.underlying5 (by kernel_rfl) (of_decide_eq_true (by kernel_rfl)) y (fun x hx=>hwt x (by simp [DataW.weightsEach,hx])) hna;have hco:code.length≤1048576→gHv (gOo code):=fun hl=>by
  obtain⟨_,e1,e2⟩:=hFk code;exact⟨by rw [e2];omega,by rw [e1];exact hl⟩
 clear hA0 hval0;refine(gXv (gZn code (gZp code hco)) (vs:=[f]) (by simp only [kV];exact⟨s0,trivial⟩) trivial).mono fun e W' ⟨r,he,hr,bel⟩=>?_;subst he;obtain rfl:=hP7 hr;exact⟨_,rfl,_,_,_,[],_,[],hW',trodAll_mk1 (shut_bool Tryz.underlying4 _),(trodAll_cons_mk (Below.trod laidOut (by kernel_rfl) (of_decide_eq_true (by kernel_rfl)) k0 bel lt0) trodAll_mk0),rfl,bel.frame _,fun h=>by cases h⟩
theorem proved:Rows.FnMethUnitSaid:=
 OpenClaim.holds_of_wide 3 Tryz.f3 rfl rfl rfl rfl rfl rfl rfl ⟨rfl,rfl,rfl,rfl,rfl⟩ rfl rfl rfl rfl rfl (by kernel_rfl) Tryz.func3 closed
  (of_decide_eq_true (by kernel_rfl)) (by unfold Func.isWrapper;first | (rw [if_pos (by decide +kernel)];kernel_rfl) | (rw [if_neg (by decide +kernel)];exact⟨rfl,rfl⟩))
  (fun os started H enc _=>lifted os started H enc)
#print axioms proved
end Go.Proofs.YtfjncckelekpiaaGreat.lFnMethUnit
