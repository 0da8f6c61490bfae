import Derived.Test.YtfaplndgbgoaaaaGreatDoorRows
import Derived.Test.YtfaplndgbgoaaaaGreatDoorCards
import Derived.Test.YtfaplndgbgoaaaaGreatDoorTie
import Derived.LaidLaws
import Derived.LaidSub
import Derived.MakeChecks
import Derived.Stop.LaidErr
import Derived.SevenTiedAt
import Derived.Test.YtfaplndgbgoaaaaGreatDoorBrB
import Derived.WalkKit
import Derived.ProofKit
import Derived.OpenShut
import Derived.ShutString
import Derived.ChangeOld
import Derived.Below
set_option linter.unusedVariables false
set_option linter.unusedSimpArgs false
namespace Go.Proofs.YtfaplndgbgoaaaaGreatDoor.lFnFresh
open Go Go.Eng Go.ChangeShapes Go.WideShapes Go.ChangeAt Go.RowKit
open Go.ChangeMaps (open_string shut_string)
open Go.Proofs.YtfaplndgbgoaaaaGreatDoor
theorem own:ownKnob Tryz.prog.godebug=none:=by kernel_rfl
theorem laidOut:laidOutB Tryz.prog=true:=by kernel_rfl
def hCd(d:DataW Unit):Array Value:=match d with
 | .agg l=>(l.map fun x=>match x with | .lit (.int k z)=>Value.int k z | _=>Value.bool false).toArray
 | _=>#[]
def gZh(d:DataW Unit):Obj→Obj
 | .cells _ t frozen=>.cells (hCd d) t frozen
 | o=>o
noncomputable def gR2(os:Os):World:=
 { World.holding Tryz.prog os ⟨#[],#[],[]⟩with heap:=(((World.holding Tryz.prog os ⟨#[],#[],[]⟩).heap.modify 0 (gZh Rows.laid_internal_strconv_uint64pow10)).modify 1 (gZh Rows.laid_math_bits_deBruijn32tab)).modify 2 (gZh Rows.laid_math_bits_deBruijn64tab) }
theorem gOq(W:World):laidMetH Tryz.prog Rows.fnFreshRow.laid W=laidMet Tryz.prog Rows.fnFreshRow.laid W:=MakeChecks.laidMetH_plain _ _ _ (by kernel_rfl)
theorem gQc(os:Os)(args:Array Value):laidMetH Tryz.prog Rows.fnFreshRow.laid ((gR2 os).forCall (fun _ _=>0) ⟨#[],args,[]⟩).memory:=by
 rw [gOq]
 exact laidMet_of_run' 8 (by kernel_rfl) (by kernel_rfl)
theorem hIf:(Rows.laid_internal_strconv_uint64pow10:DataW Unit)=Lib.tabData .u64 Lib.pow10Tab:=by kernel_rfl
theorem gok{W:World}(h:laidMetH Tryz.prog Rows.fnFreshRow.laid W):Gok (fun _=>False) W:=by
 rw [gOq] at h
 have h2:=h.tail.tail
 rw [hIf] at h2
 have h3:Lib.TabIs Tryz.prog W "internal/strconv.uint64pow10" .u64 Lib.pow10Tab:=Lib.tabIs_of_head (g:=0) (by kernel_rfl) (by kernel_rfl) (by kernel_rfl:Tryz.prog.underlying 137=some (.array 20 113)) (by kernel_rfl) (by kernel_rfl) (by kernel_rfl) h2
 refine⟨h3,?_,fun h=>h⟩
 have h4:=h3.cell (g:=0) (by kernel_rfl) 0 (by decide)
 unfold World.cell? at h4
 by_cases hz:0 < W.heap.size
 ·exact hz
 ·rw [Array.getElem?_eq_none (by simp only;omega)] at h4
  cases h4
set_option maxRecDepth 100000 in
theorem lifted(os:Os)(started:os.Started)(H:Type)(enc:TypeId × Value→H) :
  ReturnsInHanded {} Tryz.checked os 3 .any (fun w args=>(Rows.fnFreshSpec.pre enc Tryz.prog Tryz.f3 [] false w args∧laidMetH Tryz.prog Rows.fnFreshRow.laid w)∧sizedMet enc Tryz.prog Tryz.f3 (OpenSpec.ofChange Rows.fnFreshSpec) false w args) (Rows.fnFreshSpec.post enc Tryz.prog Tryz.f3 false true false false):=by
 refine returnsInHanded_of_change_and (C:=Tryz.checked) (X:=fun w _=>laidMetH Tryz.prog Rows.fnFreshRow.laid w) (fun _ _ _ hh h=>h.of_heap hh) own started (by kernel_rfl) Tryz.func3
  (ChangeSpec.witness_at (enc:=enc) (C:=Tryz.checked) (os:=os) (X:=fun w _=>laidMetH Tryz.prog Rows.fnFreshRow.laid w) false (gR2 os) #[.slice none 0 0] 8 rfl (by kernel_rfl) (by kernel_rfl) (by kernel_rfl) (by kernel_rfl) (by kernel_rfl) (gQc os _)) ?_
 intro W base args ds gs before hval0 hW hcnd hsz hL _
 have hval:∀(j:Nat) t v,Tryz.f3.params[j]? =some t→args[j]? =some v→Value.okWide Tryz.prog W .any base t v:=hval0
 have hW':=hW
 obtain⟨p,q,hA0,hV,rfl,hfz,hnd⟩:=hW
 have hA:DataW.TrodAll enc Tryz.prog W 0 (fun _=>true) true Tryz.f3.params.toList args.toList ds p:=hA0
 rw [Tryz.params3] at hA hval
 obtain⟨v0,vs0,d0,ds0,p0,q0,hargs,rfl,rfl,h0,r0⟩:=trodAll_cons hA
 obtain⟨rfl,rfl,rfl⟩:=trodAll_nil r0
 obtain rfl:args=#[v0]:=by cases args;simp_all
 obtain⟨rfl,rfl⟩:=trodVars_none hV
 have hwt:∀x∈DataW.weightsEach Tryz.prog (Tryz.f3.params.toList++Rows.fnFreshSpec.plain.varTypes Tryz.prog) ([d0]++[]),x≤reachBytes:=by
  intro x hx
  have:=List.all_eq_true.1 hsz x hx
  simpa using this
 rw [Tryz.params3] at hwt
 have k0:=h0
 have lt0:∀x∈p0,x.block < W.heap.size:=by obtain⟨m,hm⟩:=k0;exact DataW.trod_lt m _ _ _ hm
 have hna:∀cs,v0≠.agg cs:=fun cs hc=>by
  subst hc
  have:=hval 0 22 _ rfl rfl
  simp [Value.okWide,Cell.okWide,Cell.ok,Tryz.underlying22] at this
 obtain⟨code,s0⟩:=hDh Tryz.underlying22 Tryz.underlying5 (by kernel_rfl) (of_decide_eq_true (by kernel_rfl)) h0 (fun x hx=>hwt x (by simp [DataW.weightsEach,hx])) hna
 have hco:code.length≤1048576→gAq (gH0 code):=fun hl=>by
  obtain⟨_,e1,e2⟩:=gTj code
  exact⟨by rw [e2];omega,by rw [e1];exact hl⟩
 clear hA0 hval0
 refine(gNw (gVc code (gVd code hco)) (vs:=[v0]) (by simp only [jV];exact⟨s0,trivial⟩) (gok hL)).mono fun e W' ⟨r,he,hr,bel⟩=>?_
 subst he
 obtain rfl:=hAf hr
 exact⟨_,rfl,_,_,_,[],_,[],hW',trodAll_mk1 (shut_bool Tryz.underlying4 _),(trodAll_cons_mk (Below.trod laidOut (by kernel_rfl) (of_decide_eq_true (by kernel_rfl)) k0 bel lt0) trodAll_mk0),rfl,bel.frame _,fun h=>by cases h⟩
theorem gZi:Rows.FnFreshSaid:=
 OpenClaim.holds_of_wide 3 Tryz.f3 rfl rfl rfl rfl rfl rfl rfl ⟨rfl,rfl,rfl,rfl,rfl⟩ rfl rfl rfl rfl rfl (by kernel_rfl) Tryz.func3 (by kernel_rfl)
  (of_decide_eq_true (by kernel_rfl)) (by unfold Func.isWrapper;first | (rw [if_pos (by decide +kernel)];kernel_rfl) | (rw [if_neg (by decide +kernel)];exact⟨rfl,rfl⟩))
  (fun os started H enc _=>lifted os started H enc)
set_option maxRecDepth 100000 in
theorem proved:Rows.FnFreshCardSaid:=
 Claim7.holds_tied_plain_at .later [] [.data,.data,.data] true Rows.fnFreshCard.stood.harness false
  gZi (fun _ h=>by cases h) (by kernel_rfl) (fun _ h=>by cases h) fnFresh_row_tie rfl ⟨rfl,rfl⟩ (by kernel_rfl) rfl
  (fun f fn hf hfn=>by
   obtain rfl:f=3:=Option.some.inj ((show Tryz.prog.funcNamed "loop.example/g00508/laws.FnFresh" =some 3 by kernel_rfl).symm.trans hf) |>.symm
   obtain rfl:fn=Tryz.f3:=(Option.some.inj (Tryz.func3.symm.trans hfn)).symm
   exact⟨by kernel_rfl,fun j t ht=>by
    rw [Tryz.params3] at ht
    have hall:(#[22]:Array TypeId).all (fun t=> !Tryz.prog.wantsStandIn t)=true:=by kernel_rfl
    have:=Array.all_eq_true_iff_forall_mem.1 hall t (Array.mem_of_getElem? ht)
    exact(by simpa using this:Tryz.prog.wantsStandIn t=false)⟩)
  (by kernel_rfl)
#print axioms proved
end Go.Proofs.YtfaplndgbgoaaaaGreatDoor.lFnFresh
