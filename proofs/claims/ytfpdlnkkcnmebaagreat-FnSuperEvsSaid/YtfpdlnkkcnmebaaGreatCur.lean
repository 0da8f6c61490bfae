import Derived.Test.YtfpdlnkkcnmebaaGreatEng69
set_option linter.unusedVariables false
set_option linter.unusedSimpArgs false
set_option linter.unusedSectionVars false
namespace Go.Eng
open Go Go.RowKit
mutual
theorem hHz{w:World}:∀(u:U)(cs:List Value),u.noSl=true→u.fp w cs=[]
 | .i _ _,_,_=>rfl
 | .b _,_,_=>rfl
 | .s _,_,_=>rfl
 | .st us,cs,h=>by
   simp only [U.noSl] at h;simp only [U.fp];exact gGv us cs h
 | .sl _ _,_,h=>by cases h
theorem gGv{w:World}:∀(us:List U)(cs:List Value),U.noSls us=true→U.fps w us cs=[]
 | [],_,_=>by simp only [U.fps]
 | u::us,cs,h=>by
   simp only [U.noSls,Bool.and_eq_true] at h;simp only [U.fps];rw [hHz u _ h.1,gGv us _ h.2,List.append_nil]
end
theorem gUc:∀(us vs:List U),U.noSls (us++vs)=(U.noSls us && U.noSls vs)
 | [],vs=>by simp [U.noSls]
 | u::us,vs=>by simp only [List.cons_append,U.noSls,gUc us vs,Bool.and_assoc]
theorem gRq(us:List U)(k:Nat)(h:U.noSls us=true):U.noSls (us.take k)=true∧U.noSls (us.drop k)=true:=by
 have:=gUc (us.take k) (us.drop k)
 rw [List.take_append_drop,h] at this;simpa [Bool.and_eq_true] using this.symm
section
variable {P:Program}{A:Amb}{K:St→Prop}{ops:Array Oper}{rest:List Oper}{t:Nat}{ty ty2:TypeId}{pos pos2:String}{af af2:Array Edge}{x y:Operand}
theorem hK7 {T e:TypeId}{gg:Bool}{z bs i ver k:Nat}{zs:List Value}{zu:U}{es:List U}{fr:List (Nat × SV)}{L L':List LO}{N:Nat} [TE P T e] [TI P e gg z bs] [TZ P e zs] (hk:k≤es.length) (hns:U.noSls es=true) (hzu:gV9 zu zs)
  (h:VO P A ops rest ⟨(t,.junk)::fr,L',N⟩ K) (hz:(Nat.blt 0 z && zs.length==z && zu.noSl && zs.all fun v=>v.oneCell')=true:=by rfl)
  (hx:(St.mk fr L N).ev x=.sl i ver:=by rfl) (hL:L[i]? =some (.own e z ver es):=by rfl) (hy:(St.mk fr L N).ev y=.d (.i .i64 (k:Int)):=by rfl) (ht:Nat.blt t N=true:=by rfl)
  (hL':St1 (.own e z ver (es.take k++List.replicate (es.length - k) zu)) i L L':=by repeat constructor) :
  VO P A ops (⟨some t,.slice T x (some y) none none,ty,pos,af,none⟩::⟨none,.call { callee:=.builtin .clear,args:=#[.tmp t],argTypes:=#[T] },ty2,pos2,af2,none⟩::rest) ⟨fr,L,N⟩ K:=by
 have:=hL'.spec
 subst this;intro R hR a w ⟨S,env,hH,hf,hN,hd⟩;have f:=mV.ev hf hH x;have q:=mV.ev hf hH y;rw [hx] at f;rw [hy,SVr.int] at q;simp only [SVr] at f;obtain⟨hv,o,k1,k2,_,_,k3⟩:=f;rw [hL] at k2;cases k2;have hxe:=k3 rfl;obtain⟨o1,o2,⟨xs,o3,o4⟩,o5⟩:=hH.objs i _ hv hL k1;simp only [Bool.and_eq_true,Nat.blt_eq,beq_iff_eq] at hz;obtain⟨⟨⟨hz0,hzl⟩,hzn⟩,hz1⟩:=hz;have hT:P.underlying T=some (.slice e):=zB TE.h;have hel:P.elem T=e:=by simp [Program.elem,hT]
 have hT':P.underlying T=some (.slice (P.elem T)):=by rw [hel];exact hT
 have hsz:=run_sizeOf (w:=w) (TI.h:tyI P e=some (gg,z,bs));obtain⟨inf,hi,his,hib⟩:=gOu (TI.h:tyI P e=some (gg,z,bs));have hZ:tyZ P e=some zs:=TZ.h;obtain⟨zv,hzv,hzc⟩:∃zv,inf.zero=some zv∧zv.cells.toList=zs:=by
  unfold tyZ at hZ;simp only [hi] at hZ;cases hz:inf.zero with
  | none=>simp [hz] at hZ
  | some zv=>exact⟨zv,rfl,by simpa [hz] using hZ⟩
 have hzsz:zv.cells.size=z:=by rw [←hzl,←hzc];simp
 have hzr:(zeroValue e).run P w=.ok zv w:=by simp [zeroValue,run_typeInfo hi,hzv]
 have htN:=Nat.lt_of_lt_of_eq (Nat.le_of_ble_eq_true ht) hN.symm;have hrunl:∀(base:Option Addr)(cap:Nat),(Instr.slice T (.slice base es.length cap) (some (.int .i64 (k:Int))) none none).run P w=.ok (sliced base k es.length cap z) w:=by
  intro base cap;have hrun:=run_slice_l (w:=w) T base es.length cap hT' .i64 (k:Int) (by omega) (by omega);rw [hel,hsz] at hrun;simpa [Result.andThen] using hrun
 have hput:∀v,(a.put (some t) v).eval (.tmp t)=v:=fun v=>by
  show(a.put (some t) v).tmps.getD t undef=v;rw [Act.getD_put a t v htN];simp
 have hst:∀v,(Instr.slice T hv (some (.int .i64 (k:Int))) none none).run P w=.ok v w→∀w2,(Builtin.clear_ #[T] ty2 #[v]).run P w=.ok (.tuple #[]) w2→
   mV A ⟨(t,.junk)::fr,L.set i (.own e z ver (es.take k++List.replicate (es.length - k) zu)),N⟩ (a.put (some t) v) w2→
   wpList P ops R (⟨some t,.slice T x (some y) none none,ty,pos,af,none⟩::⟨none,.call { callee:=.builtin .clear,args:=#[.tmp t],argTypes:=#[T] },ty2,pos2,af2,none⟩::rest) a w:=by
  intro v hv1 w2 hv2 hr;refine wpList_plain rfl fun K1 hK1=>?_;unfold Oper.wp;have e1:(execOp a.eval ⟨some t,.slice T x (some y) none none,ty,pos,af,none⟩).run P w=.ok (.value v) w:=by
   simp [execOp,hxe,q,Instr.sliceAt,run_underlying hT,hv1]
  rw [e1];refine hK1 _ _ (wpList_plain rfl fun K2 hK2=>?_);unfold Oper.wp;have e2:(execOp (a.put (some t) v).eval ⟨none,.call { callee:=.builtin .clear,args:=#[.tmp t],argTypes:=#[T] },ty2,pos2,af2,none⟩).run P w=.ok (.value (.tuple #[])) w2:=by
   simp [execOp,resolve,invoke,builtin,hput,hv2]
  rw [e2];exact hK2 _ _ (h R hR _ _ hr)
 have hiL:=(List.getElem?_eq_some_iff.1 hL).1;rcases Nat.eq_or_lt_of_le hk with hke | hlt
 ·have hform:∃base cap,hv=.slice base es.length cap:=by
   rcases o3.2 with ⟨rfl,h0⟩ | ⟨g,cap,cur,rfl,_⟩
   ·exact⟨none,0,by rw [h0]⟩
   ·exact⟨_,cap,rfl⟩
  obtain⟨base,cap,rfl⟩:=hform;refine hst _ (hrunl base cap) w ?_ ?_
  ·have h0:∀(ad:Option Addr)(c:Nat),(Builtin.clear_ #[T] ty2 #[.slice ad 0 c]).run P w=.ok (.tuple #[]) w:=fun ad c=>by
    cases ad<;>simp [Builtin.clear_,run_underlying hT]
   unfold sliced;rw [hke,Nat.sub_self];exact h0 _ _
  ·have he:es.take k++List.replicate (es.length - k) zu=es:=by subst hke;simp
   have hs:L.set i (.own e z ver es)=L:=by
    apply List.ext_getElem?;intro j;by_cases hj:i=j
    ·subst hj;rw [List.getElem?_set_self hiL,hL]
    ·rw [List.getElem?_set_ne hj]
   rw [he,hs];exact uH hf hN hd ht hH Carry.refl (by simp only [SVr])
 ·rcases o3.2 with ⟨rfl,h0⟩ | ⟨g,cap,cur,rfl,hg0,hg,hnc,hcm,hcs,htake⟩
  ·omega
  have hkz:k*z+(es.length - k)*z=es.length*z:=by rw [←Nat.add_mul];congr 1;omega
  have hcap:es.length*z≤cap*z:=Nat.mul_le_mul_right _ hnc;have hxl:=o3.1;obtain⟨cs,hcsd⟩:∃cs,cs=(Builtin.zeroCells zv.cells (es.length - k)).toList:=⟨_,rfl⟩
  have hcl:cs.length=(es.length - k)*z:=by rw [hcsd];simp [Builtin.zeroCells,hzsz]
  have hce:∀j,j < (es.length - k)*z→cs[j]? =zs[j % z]? :=by
   intro j hj;have hjm:j % z < zv.cells.size:=by rw [hzsz];exact Nat.mod_lt _ hz0
   rw [hcsd,Array.getElem?_toList];simp only [Builtin.zeroCells,Array.getElem?_map,←hzc,Array.getElem?_toList];rw [Array.getElem?_eq_getElem (by simpa [hzsz] using hj)];simp only [Array.getElem_range,Option.map_some,hzsz];rw [Array.getElem?_eq_getElem hjm,getElem!_pos zv.cells (j % z) hjm]
  have hc1:∀v∈cs,v.oneCell'=true:=by
   intro v hv;obtain⟨j,hj⟩:=List.mem_iff_getElem?.1 hv;have hjl:=(List.getElem?_eq_some_iff.1 hj).1;rw [hce j (by omega)] at hj;exact List.all_eq_true.1 hz1 v (List.mem_of_getElem? hj)
  have hsc:=run_storeCells_at P g (k*z) e cs 0 cur w hg (by omega) hc1;rw [Nat.add_zero] at hsc;have hrow:=setRow_heap w g cur ((cur.toList.take (k*z)++cs++cur.toList.drop (k*z+cs.length)).toArray) e (0,0) hg;refine hst _ (hrunl _ _) (w.setRow g (cur.toList.take (k*z)++cs++cur.toList.drop (k*z+cs.length)).toArray) ?_ ?_
  ·obtain⟨m,hm⟩:∃m,es.length - k=m+1:=⟨es.length - k - 1,by omega⟩
   have hv0:sliced (some ⟨g,0,none⟩) k es.length cap z=.slice (some ⟨g,k*z,none⟩) (m+1) (cap - k):=by
    simp [sliced,show ¬cap=k by omega,Addr.add_lit,hm]
   rw [hv0];rw [hm] at hcsd;simp [Builtin.clear_,run_underlying hT,hzr,←hcsd,hsc]
  ·have hzs:zu.sz=z:=by rw [←Tr.len _ _ (hzu w).1,hzl]
   have hz1':∀v∈es.take k,v.sz=z:=fun v hv=>o2 v (List.mem_of_mem_take hv);have hz2':∀v∈es.take k++List.replicate (es.length - k) zu,v.sz=z:=fun v hv=>by
    rcases List.mem_append.1 hv with hv | hv
    ·exact hz1' v hv
    ·rw [(List.mem_replicate.1 hv).2];exact hzs
   have s1:U.szs (es.take k)=k*z:=by rw [gNo _ hz1',List.length_take,Nat.min_eq_left hk]
   have o4':=o4;rw [←List.take_append_drop k es] at o4';obtain⟨p1,_,_⟩:=Trs.split (es.take k) xs _ o4';rw [s1] at p1;obtain⟨n1,n2⟩:=gRq es k hns;obtain⟨t1,t2⟩:=Trs.loc (w':=w.setRow g (cur.toList.take (k*z)++cs++cur.toList.drop (k*z+cs.length)).toArray) _ _ p1 (fun b hb=>by rw [gGv _ _ n1] at hb;simp at hb);obtain⟨t3,t4⟩:=hGx (w:=w.setRow g (cur.toList.take (k*z)++cs++cur.toList.drop (k*z+cs.length)).toArray) hzu hzs (es.length - k) cs hcl hce;obtain⟨r1,r2⟩:=Trs.append _ _ _ _ t1 t3;rw [t2,gGv _ _ n1,t4,List.append_nil] at r2;have hl':(es.take k++List.replicate (es.length - k) zu).length=es.length:=by simp;omega
   have hown':(w.setRow g (cur.toList.take (k*z)++cs++cur.toList.drop (k*z+cs.length)).toArray).ownsRow 0 e z (.slice (some ⟨g,0,none⟩) es.length cap) (es.take k++List.replicate (es.length - k) zu).length (xs.take (k*z)++cs):=by
    refine⟨by simp only [List.length_append,List.length_take,hl',hxl,hcl];omega,.inr ⟨g,cap,_,by rw [hl'],hg0,hrow,by rw [hl'];exact hnc,hcm,by simp only [List.size_toArray,List.length_append,List.length_take,List.length_drop,Array.length_toList,hcl];omega,?_⟩⟩;rw [hl',←htake]
    have:=gIy cur.toList (k*z) (es.length*z) cs (by rw [hcl];omega) (by simp only [Array.length_toList];omega)
    rw [this,List.drop_eq_nil_of_le (by simp only [List.length_take,Array.length_toList,hcl];omega),List.append_nil]
   have hfp:=gUm o2 o3 g rfl;have hfp':=gUm hz2' hown' g rfl;rw [r2] at hfp';rw [gGv _ _ hns] at hfp
   obtain⟨hH',C⟩:=hH.eat (w':=w.setRow g (cur.toList.take (k*z)++cs++cur.toList.drop (k*z+cs.length)).toArray) [] i (.own e z ver (es.take k++List.replicate (es.length - k) zu)) (.slice (some ⟨g,0,none⟩) es.length cap) (L':=L.set i (.own e z ver (es.take k++List.replicate (es.length - k) zu))) (env':=env)
    (by rw [List.length_set];exact hH.len) (fun j hj=>by rw [List.getElem?_set_ne (fun e=>hj e.symm)];simp) (List.getElem?_set_self hiL) (fun _ _=>rfl) k1
    (fun k' hk' hno=>setRow_other w g k' _ (fun e=>hno _ _ hL k1 ⟨rfl,by simp only [LO.ft];rw [hfp,e];simp⟩))
    (fun o hv f q=>by rw [hL] at f;cases f;rw [k1] at q;cases q;exact⟨Nat.le_refl _,fun _=>rfl,fun _ _=>rfl⟩)
    (by rw [setRow_size];exact Nat.le_refl _) rfl rfl rfl
    (fun b hb=>by
     simp only [LO.ft] at hb;rw [hfp'] at hb;simp only [List.mem_singleton] at hb;subst hb
     exact⟨by rw [setRow_size];exact(Array.getElem?_eq_some_iff.1 hg).1,.inr ⟨i,_,_,.inl rfl,hL,rfl,k1,by simp only [LO.ft];rw [hfp];simp⟩⟩)
    (fun C=>⟨by rw [hl'];exact o1,hz2',⟨_,hown',r1⟩,by rw [hfp'];simp⟩)
   exact uH hf hN hd ht hH' C (by simp only [SVr])
theorem hH4 {T e:TypeId}{gg:Bool}{zz bs i ver k:Nat}{es:List U}{fr:List (Nat × SV)}{L L':List LO}{N:Nat} [TE P T e] [TI P e gg zz bs] (hk:k≤es.length) (hns:U.noSls es=true)
  (h:VO P A ops rest ⟨(t,.sl i (ver+1))::fr,L',N⟩ K)
  (hx:(St.mk fr L N).ev x=.sl i ver:=by rfl) (hL:L[i]? =some (.own e zz ver es):=by rfl) (hy:(St.mk fr L N).ev y=.d (.i .i64 (k:Int)):=by rfl) (ht:Nat.blt t N=true:=by rfl) (hL':St1 (.own e zz (ver+1) (es.take k)) i L L':=by repeat constructor) :
  VO P A ops (⟨some t,.slice T x none (some y) none,ty,pos,af,none⟩::rest) ⟨fr,L,N⟩ K:=by
 have:=hL'.spec
 subst this;refine gCp rfl (fun S env a w hH hf hN hd=>?_) h;have c:=mV.ev hf hH x;have f:=mV.ev hf hH y;rw [hx] at c;rw [hy,SVr.int] at f;simp only [SVr] at c;obtain⟨hv,o,k1,k2,_,_,k3⟩:=c;rw [hL] at k2;cases k2;have hxe:=k3 rfl;have hob:=hH.objs i _ hv hL k1;obtain⟨o1,o2,⟨xs,o3,o4⟩,o5⟩:=hob;have hi:=(List.getElem?_eq_some_iff.1 hL).1;have hie:i < env.length:=by rw [hH.len];exact hi
 have hT:P.underlying T=some (.slice e):=zB TE.h;have hel:P.elem T=e:=by simp [Program.elem,hT]
 have hT':P.underlying T=some (.slice (P.elem T)):=by rw [hel];exact hT
 have hsz:=run_sizeOf (w:=w) (TI.h:tyI P e=some (gg,zz,bs));have hrunh:∀(base:Option Addr)(cap:Nat),es.length≤cap→(Instr.slice T (.slice base es.length cap) none (some (.int .i64 (k:Int))) none).run P w=.ok (.slice base k cap) w:=by
  intro base cap hc;have hrun:=run_slice_h (w:=w) T base es.length cap hT' .i64 (k:Int) (by omega) (by omega);rw [hel,hsz] at hrun;simp only [Result.andThen] at hrun;rw [hrun];cases base<;>simp [sliced,Addr.add_lit];rename_i a0;obtain⟨b0,o0,p0⟩:=a0;cases p0<;>simp [Addr.add]
 have htl:(es.take k).length=k:=by rw [List.length_take];omega
 have hz1':∀v∈es.take k,v.sz=zz:=fun v hv=>o2 v (List.mem_of_mem_take hv);have s1:U.szs (es.take k)=k*zz:=by rw [gNo _ hz1',htl]
 have o4':=o4;rw [←List.take_append_drop k es] at o4';obtain⟨p1,_,_⟩:=Trs.split (es.take k) xs _ o4';rw [s1] at p1;obtain⟨n1,n2⟩:=gRq es k hns;have form:∃base cap,hv=.slice base es.length cap∧es.length≤cap∧(base=none∧cap=0∨∃g cur,base=some ⟨g,0,none⟩∧w.heap[g]? =some (.cells cur e (0,0))∧cap≤maxLen∧cur.size=cap*zz∧cur.toList.take (es.length*zz)=xs∧g∈(U.sl zz es).fp w [hv]):=by
  rcases o3.2 with ⟨rfl,h0⟩ | ⟨g,cap,cur,rfl,_,q,r2,r3,r4,r5⟩
  ·exact⟨none,0,by rw [h0],by omega,.inl ⟨rfl,rfl⟩⟩
  ·exact⟨some ⟨g,0,none⟩,cap,rfl,r2,.inr ⟨g,cur,rfl,q,r3,r4,r5,by simp [U.fp]⟩⟩
 obtain⟨base,cap,f1,f0,f3⟩:=form;obtain⟨hH',C⟩:pQ A S (L.set i (.own e zz (ver+1) (es.take k))) (env.set i (.slice base k cap)) w∧Carry S L env w S (L.set i (.own e zz (ver+1) (es.take k))) (env.set i (.slice base k cap)) w:=by
  refine hH.eat [] i _ (.slice base k cap) (by rw [List.length_set,List.length_set];exact hH.len) (fun j hj=>?_) (List.getElem?_set_self hi) (fun j hj=>List.getElem?_set_ne (fun e=>hj e.symm)) (List.getElem?_set_self hie) (fun _ _ _=>rfl) (fun o hv1 c f=>?_) (Nat.le_refl _) rfl rfl rfl (fun k' hk'=>?_) (fun C=>?_)
  ·rw [List.getElem?_set_ne (fun e=>hj e.symm)];simp
  ·rw [hL] at c;rw [k1] at f;cases c;cases f;refine⟨Nat.le_succ _,fun h=>absurd h (by simp [LO.ver]),fun b hb=>?_⟩;rw [f1] at hb;cases hb
  ·rcases f3 with ⟨rfl,rfl⟩ | ⟨g,cur,rfl,q,r2,r3,r5,r4⟩
   ·simp [LO.ft,U.fp] at hk'
   ·simp only [LO.ft,U.fp] at hk';rw [gGv _ _ n1] at hk';simp at hk';subst hk';exact⟨(Array.getElem?_eq_some_iff.1 q).1,.inr ⟨i,_,hv,.inl rfl,hL,rfl,k1,r4⟩⟩
  ·rcases f3 with ⟨rfl,rfl⟩ | ⟨g,cur,rfl,q,r2,r3,r5,r4⟩
   ·have hes:es=[]:=List.eq_nil_of_length_eq_zero (by omega);subst hes;obtain rfl:k=0:=by simpa using hk
    exact⟨by simp [yC],by simp,⟨[],World.ownsRow_nil w 0 e zz,by simp [Trs]⟩,by simp [U.fp]⟩
   ·refine⟨by rw [htl];omega,hz1',⟨xs.take (k*zz),⟨by rw [htl,List.length_take,o3.1,Nat.min_eq_left (Nat.mul_le_mul_right _ hk)],.inr ⟨g,cap,cur,by rw [htl],Nat.zero_le _,q,by rw [htl];omega,r2,r3,?_⟩⟩,p1⟩,?_⟩
    ·rw [htl,←r5,List.take_take,Nat.min_eq_left (Nat.mul_le_mul_right _ hk)]
    ·simp only [U.fp];rw [gGv _ _ n1];simp
 refine⟨.value (.slice base k cap),w,?_,.inl ⟨_,rfl,uH hf hN hd ht hH' C ?_⟩⟩
 ·have hxe':a.eval x=.slice base es.length cap:=by rw [hxe,f1]
  simp [execOp,hxe',f,Instr.sliceAt,run_underlying hT,hrunh base cap f0]
 ·simp only [SVr];exact⟨.slice base k cap,_,List.getElem?_set_self hie,List.getElem?_set_self hi,Nat.le_refl _,rfl,fun _=>rfl⟩
end
end Go.Eng
namespace Go.Eng
open Go
theorem gVw {X Y:Prop}(hy:Y)(h:Y→X:=by
  intro hy
  repeat(first | refine hLx ?_ | refine hFh rfl hMl ?_ | refine hFh rfl QR_not ?_ | refine gFx (gY7 rfl gKh gQ) ?_ | refine gFx (gY7 rfl gKi gQ) ?_ | refine gFx (hPe rfl gQ (by(repeat constructor);first | done | fail)) ?_ | refine gH (hPf rfl (by repeat constructor) (by repeat(first | exact vE.nil | (apply vE.keep;focus ((repeat constructor);done)) | (apply vE.dep;focus kernel_rfl))) gQ) ?_)
  exact hy):X:=h hy
end Go.Eng
namespace Go.Eng
open Go Go.RowKit
section
variable {P:Program}{A:Amb}{K:St→Prop}{ops:Array Oper}{rest:List Oper}{t i:Nat}{ty ty2:TypeId}{pos pos2:String}{af af2:Array Edge}{x y:Operand}{fr:List (Nat × SV)}{L L':List LO}{N:Nat}
variable {α:Type}{en:α→U}{es:List α→List U}{z:Nat}[E:Enc α en es z]{ver:Nat}{T e bs:Nat}{gg:Bool}
theorem St1.mk{β:Type}{x:β}:∀{i:Nat}{l:List β},i < l.length→St1 x i l (l.set i x)
 | 0,_::_,_=>.z
 | i+1,_::l,h=>.s (St1.mk (by simpa using h))
theorem gXb{α:Type}{en:α→U}{es:List α→List U}{z:Nat}[E:Enc α en es z](hn:∀a:α,(en a).noSl=true)(l:List α):U.noSls (es l)=true:=by
 rw [E.h]
 induction l with
 | nil=>rfl
 | cons a l ih=>simp [U.noSls,hn a,ih]
theorem hH8{es:List U}(i:Nat)(h:VO P A ops rest ⟨fr,L',N⟩ K)(hL:L[i]? =some (.own e z ver es):=by rfl)(hL':L.set i (.arr e z ver es)=L':=by rfl):VO P A ops rest ⟨fr,L,N⟩ K:=by
 subst hL';exact fun R hR a w hr=>h R hR a w (hr.share hL)
theorem hH9 {l:List α}(c:α){zs:List Value}{k:Int}(hk:0≤k∧k≤(l.length:Int)) [TE P T e] [TI P e gg z bs] [TZ P e zs]
  (h:VO P A ops rest ⟨(t,.junk)::fr,L',N⟩ K)
  (hx:(St.mk fr L N).ev x=.sl i ver:=by rfl) (hL:L[i]? =some (.arr e z ver (es l)):=by rfl) (hy:(St.mk fr L N).ev y=.d (.i .i64 k):=by rfl) (ht:Nat.blt t N=true:=by rfl)
  (hn:∀a:α,(en a).noSl=true:=by exact fun _=>rfl) (hzu:gV9 (en c) zs:=by exact hLh (by repeat constructor) (by repeat constructor)) (hz:(Nat.blt 0 z && zs.length==z && (en c).noSl && zs.all fun v=>v.oneCell')=true:=by rfl)
  (hL':L.set i (.arr e z ver (es (l.take k.toNat++List.replicate (l.length - k.toNat) c)))=L':=by rfl) :
  VO P A ops (⟨some t,.slice T x (some y) none none,ty,pos,af,none⟩::⟨none,.call { callee:=.builtin .clear,args:=#[.tmp t],argTypes:=#[T] },ty2,pos2,af2,none⟩::rest) ⟨fr,L,N⟩ K:=by
 have hi:=(List.getElem?_eq_some_iff.1 hL).1;subst hL';rw [show k=((k.toNat:Nat):Int) by omega] at hy;refine hI5 i ?_ hL (gXb (es:=es) hn l) (St1.mk hi);refine hK7 (k:=k.toNat) (by rw [Enc.len];omega) (gXb (es:=es) hn l) hzu ?_ hz hx (List.getElem?_set_self hi) hy ht (St1.mk (by simpa using hi));refine hH8 i ?_ (by rw [List.set_set];exact List.getElem?_set_self hi) rfl;rw [List.set_set,List.set_set];rw [Enc.app (es:=es),Enc.rep (es:=es)] at h;have f:(es l).take k.toNat=es (l.take k.toNat):=by rw [Enc.h (es:=es),Enc.h (es:=es),List.map_take]
 rw [f,Enc.len];exact h
theorem hIa {l:List α}{k:Int}(hk:0≤k∧k≤(l.length:Int)) [TE P T e] [TI P e gg z bs]
  (h:VO P A ops rest ⟨(t,.sl i (ver+1))::fr,L',N⟩ K)
  (hx:(St.mk fr L N).ev x=.sl i ver:=by rfl) (hL:L[i]? =some (.arr e z ver (es l)):=by rfl) (hy:(St.mk fr L N).ev y=.d (.i .i64 k):=by rfl) (ht:Nat.blt t N=true:=by rfl)
  (hn:∀a:α,(en a).noSl=true:=by exact fun _=>rfl) (hL':L.set i (.arr e z (ver+1) (es (l.take k.toNat)))=L':=by rfl) :
  VO P A ops (⟨some t,.slice T x none (some y) none,ty,pos,af,none⟩::rest) ⟨fr,L,N⟩ K:=by
 have hi:=(List.getElem?_eq_some_iff.1 hL).1;subst hL';rw [show k=((k.toNat:Nat):Int) by omega] at hy;refine hI5 i ?_ hL (gXb (es:=es) hn l) (St1.mk hi);refine hH4 (k:=k.toNat) (by rw [Enc.len];omega) (gXb (es:=es) hn l) ?_ hx (List.getElem?_set_self hi) hy ht (St1.mk (by simpa using hi));refine hH8 i ?_ (by rw [List.set_set];exact List.getElem?_set_self hi) rfl;rw [List.set_set,List.set_set];have c:(es l).take k.toNat=es (l.take k.toNat):=by rw [Enc.h (es:=es),Enc.h (es:=es),List.map_take]
 rw [c];exact h
theorem hK8 {l:List α}{k:Nat}(a:α)(hk:k < l.length) [TI P T gg z bs] (h:VO P A ops rest ⟨fr,L',N⟩ K) (hx:(St.mk fr L N).ev x=.ep i ver z k 0:=by rfl) (hL:L[i]? =some (.arr e z ver (es l)):=by rfl)
  (hy:VD L ((St.mk fr L N).ev y) (en a):=by((repeat(first | exact trivial | exact rfl | exact⟨_,rfl⟩ | refine And.intro ?_ ?_));first | done | fail)) (hL':L.set i (.arr e z ver (es (l.set k a)))=L':=by rfl) :
  VO P A ops (⟨none,.store T x y,ty,pos,af,none⟩::rest) ⟨fr,L,N⟩ K:=by
 rw [Enc.set (es:=es)] at hL';exact gWo hx hL hy TI.h (Enc.hz a) (by rw [Enc.len];exact hk) hL' h
theorem hVo {σ:St}{dst:Option Nat}{g:Option (Nat × Bool)}{f:Operand}{fi:Nat}{caps caps':List SV}{args:Array Operand}{at_:Array TypeId}{dargs:List SV}{u:U}
  (hspec:jF P fi (dargs++caps') [u]) (hu:u.scal=true:=by rfl) (hf:σ.ev f=.fn fi caps:=by rfl) (hargs:WCs σ.L (args.toList.map σ.ev) dargs:=by((repeat(first | exact trivial | exact rfl | exact⟨_,rfl⟩ | refine Exists.intro _ (And.intro rfl ?_) | refine And.intro ?_ ?_));first | done | fail)) (hcaps:VBs σ.L caps caps':=by((repeat(first | exact trivial | exact rfl | exact⟨_,rfl⟩ | refine Exists.intro _ (And.intro rfl ?_) | refine And.intro ?_ ?_));first | done | fail)) :
  Quiet P A σ ⟨dst,.call { callee:=.value f,args:=args,argTypes:=at_ },ty,pos,af,g⟩ (.d u):=by
 intro S env a w hH hx next R hn
 have c:=hx f (by simp [Op.operands,Call.operands]);rw [hf] at c;simp only [SVr] at c;obtain⟨cvs,c,q⟩:=c;have h3:kK S σ.L env w (args.toList.map σ.ev) (args.toList.map a.eval):=kK.evals _ fun x hx'=>hx x (by simp [Op.operands,Call.operands];exact .inr (by simpa using hx'));have h4:=WCs.r hH hargs h3;have h5:kK (gRt S σ.L env w) [] [] w (dargs++caps') (args.toList.map a.eval++cvs):=by
  have k:kK (gRt S σ.L env w) [] [] w caps' cvs:=kK.carry ⟨fun b hb _=>gRu hb,fun _ _ _=>rfl,fun _ _ h=>h,fun _ _ _ c q=>⟨_,_,c,q,Nat.le_refl _,fun _=>rfl⟩⟩ _ _ (VBs.r hH hcaps q);rw [kK.iff] at h4 k ⊢;exact yR.append h4 k
 obtain⟨⟨fn,c1,c2,c3⟩,hs⟩:=hspec;have hrun:(execOp a.eval ⟨dst,.call { callee:=.value f,args:=args,argTypes:=at_ },ty,pos,af,g⟩).run P w=.ok (.enter fi (args.toList.map a.eval++cvs).toArray) w:=by
  have harr:args.map a.eval++cvs.toArray=(args.toList.map a.eval++cvs).toArray:=by apply Array.ext';simp
  simp only [execOp,resolve,c,Deferred.ofValue,Sem.run_bind,Sem.run_pure,Result.andThen_ok,invoke,callFunc,run_program,c1,c2,c3,Bool.false_eq_true,if_false,Array.empty_append,harr]
 unfold Oper.wp;rw [hrun];simp only [Oper.upon];refine(hs ⟨w,gRt S σ.L env w,fun _=>False,[],[]⟩ (gRt S σ.L env w) [] w _ rfl rfl rfl rfl hH.lend h5).mono ?_;rintro e w' ⟨r,sv',S',Lc,envc,rfl,⟨rfl,rfl⟩,hH',hr⟩;obtain⟨hj,C⟩:=hH.join hH' (fun o ho=>by cases ho);have henvc:envc=[]:=List.eq_nil_of_length_eq_zero (by simpa using hH'.len);subst henvc;simp only [List.append_nil] at hj C;exact hn r w' S hj C (gFn hu hr)
end
theorem gUd{L:List LO}{ρ:Nat→Nat}:∀(js:List Nat)(Lc:List LO)(n:Nat),js.length=Lc.length→(∀(m:Nat)(h:m < js.length),ρ (n+m)=js[m])→gNq L ρ n Lc→gH5 js (Lc.map (LO.ren ρ)) L=L
 | [],[],n,_,_,_=>by simp [gH5]
 | [],o::os,n,h,_,_=>by simp at h
 | j::js,[],n,h,_,_=>by simp at h
 | j::js,o::os,n,h,hr,hp=>by
   have f:ρ n=j:=hr 0 (by simp);have c:=hp.1;rw [f] at c;have hs:L.set j (o.ren ρ)=L:=by
    obtain⟨hj,e⟩:=List.getElem?_eq_some_iff.1 c;rw [←e];exact List.set_getElem_self hj
   simp only [List.map_cons,gH5,hs]
   exact gUd js os (n+1) (by simpa using h) (fun m hm=>by
    have:=hr (m+1) (by simpa using hm)
    rw [show n+1+m=n+(m+1) by omega,this]
    simp) hp.2
theorem gZ7{L Lc:List LO}{js:List Nat}(hp:gNq L (rn js L.length) 0 Lc)(hjs:(decide js.Nodup && (js.all fun j=>Nat.blt j L.length) && js.length==Lc.length && LO.lts Lc.length Lc)=true):gH5 js (Lc.map (LO.ren (rn js L.length))) L=L:=by
 simp only [Bool.and_eq_true,beq_iff_eq] at hjs;refine gUd js Lc 0 hjs.1.2 (fun m hm=>?_) hp;unfold rn;rw [Nat.zero_add,List.getElem?_eq_getElem hm];rfl
section
variable {P:Program}{A:Amb}{ops:Array Oper}{K:St→Prop}{r:List (Nat × Bool)}{pf:PF}{fr:List (Nat × SV)}{L:List LO}{N i t:Nat}
variable {ty:TypeId}{pos:String}{af:Array Edge}{sv:SV}
theorem gPo {f:Operand}{fi:Nat}{caps:List SV}{args:Array Operand}{at_:Array TypeId}{cargs:List SV}{Lc:List LO}{sv0:SV}(js:List Nat)(hspec:Spec P fi cargs Lc (fun sv Lo'=>sv=sv0∧Lo'=Lc))(h:VY P A ops K r pf ⟨(t,sv)::fr,L,N⟩)
  (hi:ops[i]? =some ⟨some t,.call { callee:=.value f,args:=args,argTypes:=at_ },ty,pos,af,none⟩:=by rfl) (hsv:sv0.ren (rn js L.length)=sv:=by rfl)
  (hf:(St.mk fr L N).ev f=.fn fi caps:=by rfl) (hp:gNq L (rn js L.length) 0 Lc:=by((repeat(first | exact trivial | exact rfl | refine And.intro ?_ ?_));first | done | fail))
  (hjs:(decide js.Nodup && (js.all fun j=>Nat.blt j L.length) && js.length==Lc.length && LO.lts Lc.length Lc)=true:=by rfl)
  (hargs:AGs L (rn js L.length) Lc.length (args.toList.map (St.mk fr L N).ev++caps) cargs:=by((repeat(first | exact trivial | exact .inl ⟨rfl,rfl⟩ | exact .inr ⟨_,rfl,by((repeat(first | exact trivial | exact rfl | exact⟨_,rfl⟩ | refine And.intro ?_ ?_));first | done | fail)⟩ | refine And.intro ?_ ?_));first | done | fail))
  (ht:Nat.blt t N=true:=by rfl) (hpf:vE ops i L pf:=by(repeat(first | exact vE.nil | (apply vE.keep;focus ((repeat constructor);done)) | (apply vE.dep;focus kernel_rfl)))) :
  VY P A ops K ((i,false)::r) pf ⟨fr,L,N⟩:=gCn js hspec h hi hsv (gZ7 hp hjs) hf hp hjs hargs ht hpf
end
theorem DzL.refl{L0:List LO}:∀(l:List LO),DzL L0 l l
 | []=>.nil
 | _::l=>.cons .same (DzL.refl l)
theorem DzF.refl{L0:List LO}:∀(l:List (Nat × SV)),DzF L0 l l
 | []=>.nil
 | (_,_)::l=>.cons .same (DzF.refl l)
theorem Sn.mk'{α:Type}{x:α}:∀(l:List α),Sn x l l.length (l++[x])
 | []=>.z
 | _::l=>.s (Sn.mk' l)
section
variable {P:Program}{A:Amb}{ops:Array Oper}{K:St→Prop}{r:List (Nat × Bool)}{pf:PF}{fr:List (Nat × SV)}{L L1 L':List LO}{N i t m:Nat}
variable {ty:TypeId}{pos:String}{af:Array Edge}{x y:Operand}{T:TypeId}
theorem pM {e z bs n:Nat}{gg:Bool} [TE P T e] [TI P e gg z bs] {zs:List Value} [TZ P e zs] {us:List U} {ps:Array (Nat × Operand)} (h:VY P A ops K r pf ⟨(t,.d (.sl z us))::fr,L',N⟩) (hi:ops[i]? =some ⟨some t,.buildSlice T n ps,ty,pos,af,none⟩:=by rfl) (hps:ps.toList=((ps.toList.map Prod.snd).zipIdx 0).map (fun p=>(p.2,p.1)):=by rfl)
  (hy:VDs ⟨fr,L,N⟩ (ps.toList.map Prod.snd) us:=by(repeat(first | exact .nil | refine .cons (by((repeat(first | exact trivial | exact rfl | exact⟨_,rfl⟩ | refine And.intro ?_ ?_));first | done | fail)) ?_))) (hu:(us.all fun u=>u.sz==z)=true:=by rfl) (hn:((ps.toList.map Prod.snd).length==n && Nat.blt 0 n)=true:=by rfl)
  (hz:(Nat.blt 0 z && Nat.ble (n*z) 16777216 && zs.length==z)=true:=by rfl) (ht:Nat.blt t N=true:=by rfl) (hL':Sn (.frz e z 0 us) L m L':=by repeat constructor)
  (hp:vE ops i L' pf:=by(repeat(first | exact vE.nil | (apply vE.keep;focus ((repeat constructor);done)) | (apply vE.dep;focus kernel_rfl)))):VY P A ops K ((i,false)::r) pf ⟨fr,L,N⟩:=by
 obtain⟨hm,rfl⟩:=hL'.spec;refine gFo hi (fun fr' he' K' hK=>?_) hp h;refine gAg (i:=L.length) (L':=L++[.arr e z 0 us]) ?_ hps (VDs.same (σ:=⟨fr,L,N⟩) (σ':=⟨fr',L,N⟩) rfl hy (fun x hx=>he' x (by simpa [Op.operands] using hx))) hu hn hz ht (Sn.mk' L);refine mD L.length (e:=e) (z:=z) (ver:=0) (es:=us) (by simp) (by simp [List.set_append_right]:(L++[LO.arr e z 0 us]).set L.length (.frz e z 0 us)=L++[.frz e z 0 us]) ?_;exact gZb (gCz hK) (DzL.refl _) (.cons (.frz (e:=e) (v:=0) (by simp)) (DzF.refl _))
theorem hGu {α:Type}{en:α→U}{es:List α→List U}{z:Nat}[E:Enc α en es z]{bs ver e' j k:Nat}{gg:Bool}{l:List α}{a:α}(ha:l[k]? =some a) [TI P T gg z bs] (h:VY P A ops K r pf ⟨(t,.d (en a))::fr,L,N⟩) (hi:ops[i]? =some ⟨some t,.load T x,ty,pos,af,none⟩:=by rfl)
  (hx:(St.mk fr L N).ev x=.ep j ver z k 0:=by rfl) (hL:L[j]? =some (.arr e' z ver (es l)):=by rfl) (hg:(en a).isSt=gg:=by rfl) (ht:Nat.blt t N=true:=by rfl)
  (hp:vE ops i L pf:=by(repeat(first | exact vE.nil | (apply vE.keep;focus ((repeat constructor);done)) | (apply vE.dep;focus kernel_rfl)))):VY P A ops K ((i,false)::r) pf ⟨fr,L,N⟩:=
 gFo hi (fun fr' he' K' hK=>yS (hFd (σ:=⟨fr',L,N⟩) ha (by rw [he' x (by simp [Op.operands])];exact hx) hL hg) (gCz hK) ht) hp h
end
end Go.Eng
set_option maxHeartbeats 4000000
namespace Go.Proofs.YtfpdlnkkcnmebaaGreat
open Go Go.Eng
attribute [local irreducible] V VO VQ VY Quiet QR jF mJ Rng qI qJ qB
def gGg(code:LB):Nat→Int→Int→Option (gN)
 | 0,f,c=>none
 | h+1,f,c=>lt_ ((cnd (decide (c < (code.length:Int))) ((decide (c < 4000))) (false))) fun q=>
(cnd q (
bnd (at? code c) fun x7=>
gGg code h (gZs (IntKind.i64.wrap ((IntKind.i64.wrap ((IntKind.i64.wrap (f*131))+(IntKind.i64.wrap (x7.toNat:Int))))+7)) 1073741823) (IntKind.i64.wrap (c+1))) (
(some (gN.mk code 0 f))))
def gPp(code:LB)(c:Nat):Option (gN):=
gGg code c (IntKind.i64.wrap ((28803:Int)+(code.length:Int))) 0
theorem hIb(code:LB){n0:Nat}{r:gN}(h:gPp code n0=some r):Go.Eng.Spec Tryz.prog 31 [.L 1 (gEb code)] [] (fun sv Lo=>sv=.ptr 0 0∧Lo=[bCu r.b r.i r.h]):=by
 unfold gPp at h;refine kS 0 Tryz.func31 rfl (by kernel_rfl) rfl rfl fun A _=>?_;refine goL ?_;refine jK (hBq) ?_;refine jK (pV) ?_;refine noB ?_;refine kV (fun(c:Nat)(f:Int)(q:Int)=>⟨[(0,.L 1 (gEb code)),(3,.I f),(4,.I q)],[],Tryz.f31.ntmps⟩) (fun c f q=>gGg code c f q=some r) (fun c f q=>c) n0 (IntKind.i64.wrap ((28803:Int)+(code.length:Int))) 0 eJ h ?_;rintro c f q h;rcases c with _ | c
 ·cases h
 rw [gGg.eq_2] at h;refine goL ?_;obtain⟨b4,hb4,h⟩:=qW h;refine kC ⟨[(0,.L 1 (gEb code)),(3,.I f),(4,.I q),(15,.B b4)],[],Tryz.f31.ntmps⟩ ?_ ?_
 ·exact gqZ 12 hb4
 refine goC h ?_ ?_<;>intro c6 h
 ·refine noS ?_;refine kH (jE ?_);refine goL ?_;refine jK (pV) ?_;obtain⟨x7,aa,h⟩:=gJ h;obtain⟨ab,aa⟩:=gAz aa;refine jK (qY ab (hIz aa)) ?_;refine qM (hI3 Tryz.underlying5 Tryz.underlying3) ?_;refine qM (pV) ?_;refine qM (pV) ?_;refine jK (hBs) ?_;refine jK (pV) ?_;exact⟨c,(gZs (IntKind.i64.wrap ((IntKind.i64.wrap ((IntKind.i64.wrap (f*131))+(IntKind.i64.wrap (x7.toNat:Int))))+7)) 1073741823),(IntKind.i64.wrap (q+1)),h,Nat.lt_succ_self _,eJ⟩
 ·refine goX ?_;refine gAc (jU TBd.h TZ.h rfl (by repeat constructor)) ?_;refine jG ?_;obtain rfl:=Option.some.inj h;exact gBa [.ptr 0 0] _ ⟨rfl,rfl⟩
def gJ6(code:LB):gN:=(gPp code 4001).getD ⟨[],0,0⟩
theorem gPq(code:LB):∀(n:Nat)(f c:Int),0≤c→c≤4000→(4001 - c).toNat≤n→∃h,gGg code n f c=some ⟨code,0,h⟩
 | 0,f,c,q,h1,hn=>by omega
 | n+1,f,c,q,h1,hn=>by
   simp only [gGg,lt_];cases hc:decide (c < (code.length:Int))with
   | false=>exact⟨f,rfl⟩
   | true=>
     simp only [jV];cases hd:decide (c < 4000)with
     | false=>exact⟨f,rfl⟩
     | true=>
       have h3:=of_decide_eq_true hc;have h4:=of_decide_eq_true hd;have hx:at? code c=some (code[c.toNat]'(by omega)):=by unfold at?;rw [if_pos q];exact List.getElem?_eq_getElem _
       simp only [jV];rw [kF hx,gAb (c+1) (by omega) (by omega)];exact gPq code n _ (c+1) (by omega) (by omega) (by omega)
theorem gXc(code:LB):gPp code 4001=some (gJ6 code)∧(gJ6 code).b=code∧(gJ6 code).i=0:=by
 obtain⟨h,e⟩:=gPq code 4001 (IntKind.i64.wrap ((28803:Int)+(code.length:Int))) 0 (by omega) (by omega) (by omega);have e':gPp code 4001=some ⟨code,0,h⟩:=e;unfold gJ6;rw [e'];exact⟨rfl,rfl,rfl⟩
theorem hIc(code:LB):Go.Eng.Spec Tryz.prog 31 [.L 1 (gEb code)] [] (fun sv Lo=>sv=.ptr 0 0∧Lo=[.box [.d (.sl 1 (gEb (gJ6 code).b)),.d (.i .i64 (gJ6 code).i),.d (.i .i64 (gJ6 code).h)]]):=hIb code (gXc code).1
def gF8(c:gN):Option (Int × gN):=
(cnd (decide (c.i < (c.b.length:Int))) (
bnd (at? c.b c.i) fun f=>
(some ((gZs (IntKind.i64.wrap ((gZs (hMa (hFe (IntKind.i64.wrap ((IntKind.i64.wrap (c.h*6364136223846793005))+1442695040888963407)) 33) (hFe (IntKind.i64.wrap ((IntKind.i64.wrap (c.h*6364136223846793005))+1442695040888963407)) 45)) 255)+(IntKind.i64.wrap (f.toNat:Int)))) 255),(gN.mk c.b (IntKind.i64.wrap (c.i+1)) (IntKind.i64.wrap ((IntKind.i64.wrap (c.h*6364136223846793005))+1442695040888963407)))))) (
(some ((gZs (hMa (hFe (IntKind.i64.wrap ((IntKind.i64.wrap (c.h*6364136223846793005))+1442695040888963407)) 33) (hFe (IntKind.i64.wrap ((IntKind.i64.wrap (c.h*6364136223846793005))+1442695040888963407)) 45)) 255),(gN.mk c.b c.i (IntKind.i64.wrap ((IntKind.i64.wrap (c.h*6364136223846793005))+1442695040888963407)))))))
theorem gMa(c:gN){r:Int × gN}(h:gF8 c=some r):Go.Eng.Spec Tryz.prog 70 [.ptr 0 0] [bCu c.b c.i c.h] (fun sv Lo=>sv=.I r.1∧Lo=[bCu r.2.b r.2.i r.2.h]):=by
 obtain⟨ab,ac,f⟩:=c;unfold gF8 at h;refine kS 1 Tryz.func70 rfl (by kernel_rfl) rfl rfl fun A _=>?_;refine goL ?_;refine qM (pV) ?_;refine jK (pV) ?_;refine gCy (hG6) ?_;refine goL ?_;refine gCy (hG6) ?_;refine gCy (hMb) ?_;refine gCy (hBs) ?_;refine goC h ?_ ?_<;>intro c1 h
 ·refine goL ?_;obtain⟨x2,q,h⟩:=gJ h;obtain⟨aa,q⟩:=gAz q;refine gCy (qY aa (hIz q)) ?_;refine goL ?_;refine gCy (hI3 Tryz.underlying5 Tryz.underlying3) ?_;refine gCy (pV) ?_;refine gCy (hBs) ?_;refine goL ?_;refine jK (pV) ?_;refine jG ?_;obtain rfl:=Option.some.inj h;exact gBa [.d (.i .i64 (gZs (IntKind.i64.wrap ((gZs (hMa (hFe (IntKind.i64.wrap ((IntKind.i64.wrap (f*6364136223846793005))+1442695040888963407)) 33) (hFe (IntKind.i64.wrap ((IntKind.i64.wrap (f*6364136223846793005))+1442695040888963407)) 45)) 255)+(IntKind.i64.wrap (x2.toNat:Int)))) 255))] _ ⟨rfl,rfl⟩
 ·refine goS ?_;refine jG ?_;obtain rfl:=Option.some.inj h;exact gBa [.d (.i .i64 (gZs (hMa (hFe (IntKind.i64.wrap ((IntKind.i64.wrap (f*6364136223846793005))+1442695040888963407)) 33) (hFe (IntKind.i64.wrap ((IntKind.i64.wrap (f*6364136223846793005))+1442695040888963407)) 45)) 255))] _ ⟨rfl,rfl⟩
def mX(c:gN)(n:Int):Option (Int × gN):=
(cnd (decide (n≤0)) (
(some (0,c))) (
(cnd (decide (n≤256)) (
bnd (gF8 c) fun f=>
gd (n≠0) (
(some ((Int.tmod f.1 n),f.2)))) (
bnd (gF8 c) fun h=>
bnd (gF8 h.2) fun q=>
bnd (gF8 q.2) fun x7=>
bnd (gF8 x7.2) fun x8=>
gd (n≠0) (
(some ((Int.tmod (IntKind.i64.wrap ((IntKind.i64.wrap ((IntKind.i64.wrap ((IntKind.i64.wrap (h.1*16777216))+(IntKind.i64.wrap (q.1*65536))))+(IntKind.i64.wrap (x7.1*256))))+x8.1)) n),x8.2)))))))
theorem pU(c:gN)(n:Int){r:Int × gN}(h:mX c n=some r):Go.Eng.Spec Tryz.prog 42 [.ptr 0 0,.I n] [bCu c.b c.i c.h] (fun sv Lo=>sv=.I r.1∧Lo=[bCu r.2.b r.2.i r.2.h]):=by
 obtain⟨ai,aj,ak⟩:=c;unfold mX at h;refine kS 1 Tryz.func42 rfl (by kernel_rfl) rfl rfl fun A _=>?_;refine goC h ?_ ?_<;>intro c1 h
 ·refine goL ?_;refine jG ?_;obtain rfl:=Option.some.inj h;exact gBa [.I 0] _ ⟨rfl,rfl⟩
 ·refine goS ?_;refine mQ (fun c2=>?_) (fun c2=>?_)
  ·replace h:=kT c2 h;refine goL ?_;obtain⟨⟨al,⟨aq,ar,au⟩⟩,a0,h⟩:=gJ h;refine mZ 0 (gMa (gN.mk ai aj ak) a0) ?_;refine goL ?_;obtain⟨g4,h⟩:=pO h;refine jK (hBt g4) ?_;refine jG ?_;obtain rfl:=Option.some.inj h;exact gBa [.I (Int.tmod al n)] _ ⟨rfl,rfl⟩
  ·replace h:=kU c2 h;refine goS ?_;obtain⟨⟨am,⟨f,q,aa⟩⟩,a3,h⟩:=gJ h;refine mZ 0 (gMa (gN.mk ai aj ak) a3) ?_;refine goL ?_;obtain⟨⟨an,⟨ab,ac,ad⟩⟩,a4,h⟩:=gJ h;refine mZ 0 (gMa (gN.mk f q aa) a4) ?_;refine goL ?_;obtain⟨⟨ao,⟨ae,ag,ah⟩⟩,a5,h⟩:=gJ h;refine mZ 0 (gMa (gN.mk ab ac ad) a5) ?_;refine goL ?_;obtain⟨⟨ap,⟨av,aw,ax⟩⟩,a6,h⟩:=gJ h;refine mZ 0 (gMa (gN.mk ae ag ah) a6) ?_;refine goL ?_;refine jK (pV) ?_;refine qM (pV) ?_;refine jK (pV) ?_;refine qM (pV) ?_;refine jK (pV) ?_;refine jK (pV) ?_;obtain⟨g9,h⟩:=pO h;refine jK (hBt g9) ?_;refine jG ?_;obtain rfl:=Option.some.inj h;exact gBa [.d (.i .i64 (Int.tmod (IntKind.i64.wrap ((IntKind.i64.wrap ((IntKind.i64.wrap ((IntKind.i64.wrap (am*16777216))+(IntKind.i64.wrap (an*65536))))+(IntKind.i64.wrap (ao*256))))+ap)) n))] _ ⟨rfl,rfl⟩
def qE(c:gN)(l:LS):Option (LB × gN):=
bnd (mX c (l.length:Int)) fun f=>
bnd (at? l f.1) fun h=>
(some (h,f.2))
theorem jZ(c:gN)(l:LS){r:LB × gN}(h:qE c l=some r):Go.Eng.Spec Tryz.prog 63 [.ptr 0 0,.L 1 (gP l)] [bCu c.b c.i c.h] (fun sv Lo=>sv=.S r.1∧Lo=[bCu r.2.b r.2.i r.2.h]):=by
 obtain⟨ad,ae,ag⟩:=c;unfold qE at h;refine kS 1 Tryz.func63 rfl (by kernel_rfl) rfl rfl fun A _=>?_;refine goL ?_;obtain⟨⟨ai,⟨aa,ab,ac⟩⟩,ah,h⟩:=gJ h;refine mZ 0 (pU (gN.mk ad ae ag) (l.length:Int) ah) ?_;obtain⟨x2,f,h⟩:=gJ h;obtain⟨q,f⟩:=gAz f;refine jK (qY q (gNp f)) ?_;refine jG ?_;obtain rfl:=Option.some.inj h;exact gBa [.S x2] _ ⟨rfl,rfl⟩
end Go.Proofs.YtfpdlnkkcnmebaaGreat
