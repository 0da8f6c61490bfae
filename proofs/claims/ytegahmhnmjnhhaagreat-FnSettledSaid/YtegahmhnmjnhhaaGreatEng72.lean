import Derived.Test.YtegahmhnmjnhhaaGreatEng69
set_option linter.unusedVariables false
set_option linter.unusedSimpArgs false
set_option linter.unusedSectionVars false
namespace Go.Eng
open Go Go.RowKit
mutual
theorem hRd{w:World}:∀(u:U) (cs:List Value),u.noSl=true→u.fp w cs=[]
 | .i _ _,_,_=>rfl
 | .b _,_,_=>rfl
 | .s _,_,_=>rfl
 | .st us,cs,h=>by
   simp only [U.noSl] at h;simp only [U.fp];exact gHt us cs h
 | .sl _ _,_,h=>by cases h
theorem gHt{w:World}:∀(us:List U) (cs:List Value),U.noSls us=true→U.fps w us cs=[]
 | [],_,_=>by simp only [U.fps]
 | u::us,cs,h=>by
   simp only [U.noSls,Bool.and_eq_true] at h;simp only [U.fps];rw [hRd u _ h.1,gHt us _ h.2,List.append_nil]
end
theorem gYd:∀(us vs:List U),U.noSls (us++vs)=(U.noSls us && U.noSls vs)
 | [],vs=>by simp [U.noSls]
 | u::us,vs=>by simp only [List.cons_append,U.noSls,gYd us vs,Bool.and_assoc]
theorem gUi(us:List U)(k:Nat)(h:U.noSls us=true):U.noSls (us.take k)=true∧U.noSls (us.drop k)=true:=by
 have:=gYd (us.take k) (us.drop k)
 rw [List.take_append_drop,h] at this;simpa [Bool.and_eq_true] using this.symm
section
variable {P:Program} {A:Amb} {K:St→Prop} {ops:Array Oper} {rest:List Oper} {t:Nat} {ty ty2:TypeId} {pos pos2:String} {af af2:Array Edge} {x y:Operand}
theorem hU2 {T e:TypeId} {gg:Bool} {z bs i ver k:Nat} {zs:List Value} {zu:U} {es:List U} {fr:List (Nat × SV)} {L L':List LO} {N:Nat} [TE P T e] [TI P e gg z bs] [TZ P e zs] (hk:k≤es.length) (hns:U.noSls es=true) (hzu:gZy zu zs)
  (h:VO P A ops rest ⟨(t,.junk)::fr,L',N⟩ K) (hz:(Nat.blt 0 z && zs.length==z && zu.noSl && zs.all fun v=>v.oneCell')=true:=by rfl)
  (hx:(St.mk fr L N).ev x=.sl i ver:=by rfl) (hL:L[i]? =some (.own e z ver es):=by rfl) (hy:(St.mk fr L N).ev y=.d (.i .i64 (k:Int)):=by rfl) (ht:Nat.blt t N=true:=by rfl)
  (hL':St1 (.own e z ver (es.take k++List.replicate (es.length - k) zu)) i L L':=by repeat constructor) :
  VO P A ops (⟨some t,.slice T x (some y) none none,ty,pos,af,none⟩::⟨none,.call { callee:=.builtin .clear,args:=#[.tmp t],argTypes:=#[T] },ty2,pos2,af2,none⟩::rest) ⟨fr,L,N⟩ K:=by
 have:=hL'.spec
 subst this;intro R hR a w ⟨S,env,hH,hf,hN,hd⟩;have h1:=kZ.ev hf hH x;have h2:=kZ.ev hf hH y;rw [hx] at h1;rw [hy,SVr.int] at h2;simp only [SVr] at h1;obtain⟨hv,o,k1,k2,_,_,k3⟩:=h1;rw [hL] at k2;cases k2;have hxe:=k3 rfl;obtain⟨o1,o2,⟨xs,o3,o4⟩,o5⟩:=hH.objs i _ hv hL k1;simp only [Bool.and_eq_true,Nat.blt_eq,beq_iff_eq] at hz;obtain⟨⟨⟨hz0,hzl⟩,hzn⟩,hz1⟩:=hz;have hT:P.underlying T=some (.slice e):=wS TE.h;have hel:P.elem T=e:=by simp [Program.elem,hT]
 have hT':P.underlying T=some (.slice (P.elem T)):=by rw [hel];exact hT
 have hsz:=run_sizeOf (w:=w) (TI.h:tyI P e=some (gg,z,bs));obtain⟨inf,hi,his,hib⟩:=gQr (TI.h:tyI P e=some (gg,z,bs));have hZ:tyZ P e=some zs:=TZ.h;obtain⟨zv,hzv,hzc⟩:∃zv,inf.zero=some zv∧zv.cells.toList=zs:=by
  unfold tyZ at hZ;simp only [hi] at hZ;cases hz:inf.zero with
  | none=>simp [hz] at hZ
  | some zv=>exact⟨zv,rfl,by simpa [hz] using hZ⟩
 have hzsz:zv.cells.size=z:=by rw [←hzl,←hzc];simp
 have hzr:(zeroValue e).run P w=.ok zv w:=by simp [zeroValue,run_typeInfo hi,hzv]
 have htN:=Nat.lt_of_lt_of_eq (Nat.le_of_ble_eq_true ht) hN.symm;have hrunl:∀(base:Option Addr) (cap:Nat),(Instr.slice T (.slice base es.length cap) (some (.int .i64 (k:Int))) none none).run P w=.ok (sliced base k es.length cap z) w:=by
  intro base cap;have hrun:=run_slice_l (w:=w) T base es.length cap hT' .i64 (k:Int) (by omega) (by omega);rw [hel,hsz] at hrun;simpa [Result.andThen] using hrun
 have hput:∀v,(a.put (some t) v).eval (.tmp t)=v:=fun v=>by
  show(a.put (some t) v).tmps.getD t undef=v;rw [Act.getD_put a t v htN];simp
 have hst:∀v,(Instr.slice T hv (some (.int .i64 (k:Int))) none none).run P w=.ok v w→∀w2,(Builtin.clear_ #[T] ty2 #[v]).run P w=.ok (.tuple #[]) w2→
   kZ A ⟨(t,.junk)::fr,L.set i (.own e z ver (es.take k++List.replicate (es.length - k) zu)),N⟩ (a.put (some t) v) w2→
   wpList P ops R (⟨some t,.slice T x (some y) none none,ty,pos,af,none⟩::⟨none,.call { callee:=.builtin .clear,args:=#[.tmp t],argTypes:=#[T] },ty2,pos2,af2,none⟩::rest) a w:=by
  intro v hv1 w2 hv2 hr;refine wpList_plain rfl fun K1 hK1=>?_;unfold Oper.wp;have e1:(execOp a.eval ⟨some t,.slice T x (some y) none none,ty,pos,af,none⟩).run P w=.ok (.value v) w:=by
   simp [execOp,hxe,h2,Instr.sliceAt,run_underlying hT,hv1]
  rw [e1];refine hK1 _ _ (wpList_plain rfl fun K2 hK2=>?_);unfold Oper.wp;have e2:(execOp (a.put (some t) v).eval ⟨none,.call { callee:=.builtin .clear,args:=#[.tmp t],argTypes:=#[T] },ty2,pos2,af2,none⟩).run P w=.ok (.value (.tuple #[])) w2:=by
   simp [execOp,resolve,invoke,builtin,hput,hv2]
  rw [e2];exact hK2 _ _ (h R hR _ _ hr)
 have hiL:=(List.getElem?_eq_some_iff.1 hL).1;rcases Nat.eq_or_lt_of_le hk with hke | hlt
 ·have hform:∃base cap,hv=.slice base es.length cap:=by
   rcases o3.2 with ⟨rfl,h0⟩ | ⟨g,cap,cur,rfl,_⟩
   ·exact⟨none,0,by rw [h0]⟩
   ·exact⟨_,cap,rfl⟩
  obtain⟨base,cap,rfl⟩:=hform;refine hst _ (hrunl base cap) w ?_ ?_
  ·have h0:∀(ad:Option Addr) (c:Nat),(Builtin.clear_ #[T] ty2 #[.slice ad 0 c]).run P w=.ok (.tuple #[]) w:=fun ad c=>by
    cases ad<;>simp [Builtin.clear_,run_underlying hT]
   unfold sliced;rw [hke,Nat.sub_self];exact h0 _ _
  ·have he:es.take k++List.replicate (es.length - k) zu=es:=by subst hke;simp
   have hs:L.set i (.own e z ver es)=L:=by
    apply List.ext_getElem?;intro j;by_cases hj:i=j
    ·subst hj;rw [List.getElem?_set_self hiL,hL]
    ·rw [List.getElem?_set_ne hj]
   rw [he,hs];exact qW hf hN hd ht hH Carry.refl (by simp only [SVr])
 ·rcases o3.2 with ⟨rfl,h0⟩ | ⟨g,cap,cur,rfl,hg0,hg,hnc,hcm,hcs,htake⟩
  ·omega
  have hkz:k*z+(es.length - k)*z=es.length*z:=by rw [←Nat.add_mul];congr 1;omega
  have hcap:es.length*z≤cap*z:=Nat.mul_le_mul_right _ hnc;have hxl:=o3.1;obtain⟨cs,hcsd⟩:∃cs,cs=(Builtin.zeroCells zv.cells (es.length - k)).toList:=⟨_,rfl⟩
  have hcl:cs.length=(es.length - k)*z:=by rw [hcsd];simp [Builtin.zeroCells,hzsz]
  have hce:∀j,j < (es.length - k)*z→cs[j]? =zs[j % z]? :=by
   intro j hj;have hjm:j % z < zv.cells.size:=by rw [hzsz];exact Nat.mod_lt _ hz0
   rw [hcsd,Array.getElem?_toList];simp only [Builtin.zeroCells,Array.getElem?_map,←hzc,Array.getElem?_toList];rw [Array.getElem?_eq_getElem (by simpa [hzsz] using hj)];simp only [Array.getElem_range,Option.map_some,hzsz];rw [Array.getElem?_eq_getElem hjm,getElem!_pos zv.cells (j % z) hjm]
  have hc1:∀v∈cs,v.oneCell'=true:=by
   intro v hv;obtain⟨j,hj⟩:=List.mem_iff_getElem?.1 hv;have hjl:=(List.getElem?_eq_some_iff.1 hj).1;rw [hce j (by omega)] at hj;exact List.all_eq_true.1 hz1 v (List.mem_of_getElem? hj)
  have hsc:=run_storeCells_at P g (k*z) e cs 0 cur w hg (by omega) hc1;rw [Nat.add_zero] at hsc;have hrow:=setRow_heap w g cur ((cur.toList.take (k*z)++cs++cur.toList.drop (k*z+cs.length)).toArray) e (0,0) hg;refine hst _ (hrunl _ _) (w.setRow g (cur.toList.take (k*z)++cs++cur.toList.drop (k*z+cs.length)).toArray) ?_ ?_
  ·obtain⟨m,hm⟩:∃m,es.length - k=m+1:=⟨es.length - k - 1,by omega⟩
   have hv0:sliced (some ⟨g,0,none⟩) k es.length cap z=.slice (some ⟨g,k*z,none⟩) (m+1) (cap - k):=by
    simp [sliced,show ¬cap=k by omega,Addr.add_lit,hm]
   rw [hv0];rw [hm] at hcsd;simp [Builtin.clear_,run_underlying hT,hzr,←hcsd,hsc]
  ·have hzs:zu.sz=z:=by rw [←Tr.len _ _ (hzu w).1,hzl]
   have hz1':∀v∈es.take k,v.sz=z:=fun v hv=>o2 v (List.mem_of_mem_take hv);have hz2':∀v∈es.take k++List.replicate (es.length - k) zu,v.sz=z:=fun v hv=>by
    rcases List.mem_append.1 hv with hv | hv
    ·exact hz1' v hv
    ·rw [(List.mem_replicate.1 hv).2];exact hzs
   have s1:U.szs (es.take k)=k*z:=by rw [gPe _ hz1',List.length_take,Nat.min_eq_left hk]
   have o4':=o4;rw [←List.take_append_drop k es] at o4';obtain⟨p1,_,_⟩:=Trs.split (es.take k) xs _ o4';rw [s1] at p1;obtain⟨n1,n2⟩:=gUi es k hns;obtain⟨t1,t2⟩:=Trs.loc (w':=w.setRow g (cur.toList.take (k*z)++cs++cur.toList.drop (k*z+cs.length)).toArray) _ _ p1 (fun b hb=>by rw [gHt _ _ n1] at hb;simp at hb);obtain⟨t3,t4⟩:=hO7 (w:=w.setRow g (cur.toList.take (k*z)++cs++cur.toList.drop (k*z+cs.length)).toArray) hzu hzs (es.length - k) cs hcl hce;obtain⟨r1,r2⟩:=Trs.append _ _ _ _ t1 t3;rw [t2,gHt _ _ n1,t4,List.append_nil] at r2;have hl':(es.take k++List.replicate (es.length - k) zu).length=es.length:=by simp;omega
   have hown':(w.setRow g (cur.toList.take (k*z)++cs++cur.toList.drop (k*z+cs.length)).toArray).ownsRow 0 e z (.slice (some ⟨g,0,none⟩) es.length cap) (es.take k++List.replicate (es.length - k) zu).length (xs.take (k*z)++cs):=by
    refine⟨by simp only [List.length_append,List.length_take,hl',hxl,hcl];omega,.inr ⟨g,cap,_,by rw [hl'],hg0,hrow,by rw [hl'];exact hnc,hcm,by simp only [List.size_toArray,List.length_append,List.length_take,List.length_drop,Array.length_toList,hcl];omega,?_⟩⟩;rw [hl',←htake]
    have:=gNd cur.toList (k*z) (es.length*z) cs (by rw [hcl];omega) (by simp only [Array.length_toList];omega)
    rw [this,List.drop_eq_nil_of_le (by simp only [List.length_take,Array.length_toList,hcl];omega),List.append_nil]
   have hfp:=gXt o2 o3 g rfl;have hfp':=gXt hz2' hown' g rfl;rw [r2] at hfp';rw [gHt _ _ hns] at hfp
   obtain⟨hH',C⟩:=hH.eat (w':=w.setRow g (cur.toList.take (k*z)++cs++cur.toList.drop (k*z+cs.length)).toArray) [] i (.own e z ver (es.take k++List.replicate (es.length - k) zu)) (.slice (some ⟨g,0,none⟩) es.length cap) (L':=L.set i (.own e z ver (es.take k++List.replicate (es.length - k) zu))) (env':=env)
    (by rw [List.length_set];exact hH.len) (fun j hj=>by rw [List.getElem?_set_ne (fun e=>hj e.symm)];simp) (List.getElem?_set_self hiL) (fun _ _=>rfl) k1
    (fun k' hk' hno=>setRow_other w g k' _ (fun e=>hno _ _ hL k1 ⟨rfl,by simp only [LO.ft];rw [hfp,e];simp⟩))
    (fun o hv h1 h2=>by rw [hL] at h1;cases h1;rw [k1] at h2;cases h2;exact⟨Nat.le_refl _,fun _=>rfl,fun _ _=>rfl⟩)
    (by rw [setRow_size];exact Nat.le_refl _) rfl rfl rfl
    (fun b hb=>by
     simp only [LO.ft] at hb;rw [hfp'] at hb;simp only [List.mem_singleton] at hb;subst hb
     exact⟨by rw [setRow_size];exact(Array.getElem?_eq_some_iff.1 hg).1,.inr ⟨i,_,_,.inl rfl,hL,rfl,k1,by simp only [LO.ft];rw [hfp];simp⟩⟩)
    (fun C=>⟨by rw [hl'];exact o1,hz2',⟨_,hown',r1⟩,by rw [hfp'];simp⟩)
   exact qW hf hN hd ht hH' C (by simp only [SVr])
theorem hRf {T e:TypeId} {gg:Bool} {zz bs i ver k:Nat} {es:List U} {fr:List (Nat × SV)} {L L':List LO} {N:Nat} [TE P T e] [TI P e gg zz bs] (hk:k≤es.length) (hns:U.noSls es=true)
  (h:VO P A ops rest ⟨(t,.sl i (ver+1))::fr,L',N⟩ K)
  (hx:(St.mk fr L N).ev x=.sl i ver:=by rfl) (hL:L[i]? =some (.own e zz ver es):=by rfl) (hy:(St.mk fr L N).ev y=.d (.i .i64 (k:Int)):=by rfl) (ht:Nat.blt t N=true:=by rfl) (hL':St1 (.own e zz (ver+1) (es.take k)) i L L':=by repeat constructor) :
  VO P A ops (⟨some t,.slice T x none (some y) none,ty,pos,af,none⟩::rest) ⟨fr,L,N⟩ K:=by
 have:=hL'.spec
 subst this;refine gDh rfl (fun S env a w hH hf hN hd=>?_) h;have h1:=kZ.ev hf hH x;have h2:=kZ.ev hf hH y;rw [hx] at h1;rw [hy,SVr.int] at h2;simp only [SVr] at h1;obtain⟨hv,o,k1,k2,_,_,k3⟩:=h1;rw [hL] at k2;cases k2;have hxe:=k3 rfl;have hob:=hH.objs i _ hv hL k1;obtain⟨o1,o2,⟨xs,o3,o4⟩,o5⟩:=hob;have hi:=(List.getElem?_eq_some_iff.1 hL).1;have hie:i < env.length:=by rw [hH.len];exact hi
 have hT:P.underlying T=some (.slice e):=wS TE.h;have hel:P.elem T=e:=by simp [Program.elem,hT]
 have hT':P.underlying T=some (.slice (P.elem T)):=by rw [hel];exact hT
 have hsz:=run_sizeOf (w:=w) (TI.h:tyI P e=some (gg,zz,bs));have hrunh:∀(base:Option Addr) (cap:Nat),es.length≤cap→(Instr.slice T (.slice base es.length cap) none (some (.int .i64 (k:Int))) none).run P w=.ok (.slice base k cap) w:=by
  intro base cap hc;have hrun:=run_slice_h (w:=w) T base es.length cap hT' .i64 (k:Int) (by omega) (by omega);rw [hel,hsz] at hrun;simp only [Result.andThen] at hrun;rw [hrun];cases base<;>simp [sliced,Addr.add_lit];rename_i a0;obtain⟨b0,o0,p0⟩:=a0;cases p0<;>simp [Addr.add]
 have htl:(es.take k).length=k:=by rw [List.length_take];omega
 have hz1':∀v∈es.take k,v.sz=zz:=fun v hv=>o2 v (List.mem_of_mem_take hv);have s1:U.szs (es.take k)=k*zz:=by rw [gPe _ hz1',htl]
 have o4':=o4;rw [←List.take_append_drop k es] at o4';obtain⟨p1,_,_⟩:=Trs.split (es.take k) xs _ o4';rw [s1] at p1;obtain⟨n1,n2⟩:=gUi es k hns;have form:∃base cap,hv=.slice base es.length cap∧es.length≤cap∧(base=none∧cap=0∨∃g cur,base=some ⟨g,0,none⟩∧w.heap[g]? =some (.cells cur e (0,0))∧cap≤maxLen∧cur.size=cap*zz∧cur.toList.take (es.length*zz)=xs∧g∈(U.sl zz es).fp w [hv]):=by
  rcases o3.2 with ⟨rfl,h0⟩ | ⟨g,cap,cur,rfl,_,r1,r2,r3,r4,r5⟩
  ·exact⟨none,0,by rw [h0],by omega,.inl ⟨rfl,rfl⟩⟩
  ·exact⟨some ⟨g,0,none⟩,cap,rfl,r2,.inr ⟨g,cur,rfl,r1,r3,r4,r5,by simp [U.fp]⟩⟩
 obtain⟨base,cap,f1,f0,f3⟩:=form;obtain⟨hH',C⟩:mO A S (L.set i (.own e zz (ver+1) (es.take k))) (env.set i (.slice base k cap)) w∧Carry S L env w S (L.set i (.own e zz (ver+1) (es.take k))) (env.set i (.slice base k cap)) w:=by
  refine hH.eat [] i _ (.slice base k cap) (by rw [List.length_set,List.length_set];exact hH.len) (fun j hj=>?_) (List.getElem?_set_self hi) (fun j hj=>List.getElem?_set_ne (fun e=>hj e.symm)) (List.getElem?_set_self hie) (fun _ _ _=>rfl) (fun o hv1 h1 h2=>?_) (Nat.le_refl _) rfl rfl rfl (fun k' hk'=>?_) (fun C=>?_)
  ·rw [List.getElem?_set_ne (fun e=>hj e.symm)];simp
  ·rw [hL] at h1;rw [k1] at h2;cases h1;cases h2;refine⟨Nat.le_succ _,fun h=>absurd h (by simp [LO.ver]),fun b hb=>?_⟩;rw [f1] at hb;cases hb
  ·rcases f3 with ⟨rfl,rfl⟩ | ⟨g,cur,rfl,r1,r2,r3,r5,r4⟩
   ·simp [LO.ft,U.fp] at hk'
   ·simp only [LO.ft,U.fp] at hk';rw [gHt _ _ n1] at hk';simp at hk';subst hk';exact⟨(Array.getElem?_eq_some_iff.1 r1).1,.inr ⟨i,_,hv,.inl rfl,hL,rfl,k1,r4⟩⟩
  ·rcases f3 with ⟨rfl,rfl⟩ | ⟨g,cur,rfl,r1,r2,r3,r5,r4⟩
   ·have hes:es=[]:=List.eq_nil_of_length_eq_zero (by omega);subst hes;obtain rfl:k=0:=by simpa using hk
    exact⟨by simp [wY],by simp,⟨[],World.ownsRow_nil w 0 e zz,by simp [Trs]⟩,by simp [U.fp]⟩
   ·refine⟨by rw [htl];omega,hz1',⟨xs.take (k*zz),⟨by rw [htl,List.length_take,o3.1,Nat.min_eq_left (Nat.mul_le_mul_right _ hk)],.inr ⟨g,cap,cur,by rw [htl],Nat.zero_le _,r1,by rw [htl];omega,r2,r3,?_⟩⟩,p1⟩,?_⟩
    ·rw [htl,←r5,List.take_take,Nat.min_eq_left (Nat.mul_le_mul_right _ hk)]
    ·simp only [U.fp];rw [gHt _ _ n1];simp
 refine⟨.value (.slice base k cap),w,?_,.inl ⟨_,rfl,qW hf hN hd ht hH' C ?_⟩⟩
 ·have hxe':a.eval x=.slice base es.length cap:=by rw [hxe,f1]
  simp [execOp,hxe',h2,Instr.sliceAt,run_underlying hT,hrunh base cap f0]
 ·simp only [SVr];exact⟨.slice base k cap,_,List.getElem?_set_self hie,List.getElem?_set_self hi,Nat.le_refl _,rfl,fun _=>rfl⟩
end
end Go.Eng
namespace Go.Eng
open Go
theorem gSu {X Y:Prop} (hy:Y) (h:Y→X:=by
  intro hy
  repeat(first | refine hUn ?_ | refine hE5 rfl hU1 ?_ | refine hE5 rfl hI7 ?_ | refine gAt (hEy rfl gLn jX) ?_ | refine gAt (hEy rfl gLo jX) ?_ | refine gAt (hYo rfl jX (by(repeat constructor);first | done | fail)) ?_ | refine jV (hSy rfl (by repeat constructor) (by repeat(first | exact vV.nil | (apply vV.keep;focus ((repeat constructor);done)) | (apply vV.dep;focus kernel_rfl))) jX) ?_)
  exact hy):X:=h hy
end Go.Eng
namespace Go.Eng
open Go Go.RowKit
section
variable {P:Program} {A:Amb} {K:St→Prop} {ops:Array Oper} {rest:List Oper} {t i:Nat} {ty ty2:TypeId} {pos pos2:String} {af af2:Array Edge} {x y:Operand} {fr:List (Nat × SV)} {L L':List LO} {N:Nat}
variable {α:Type} {en:α→U} {es:List α→List U} {z:Nat} [E:Enc α en es z] {ver:Nat} {T e bs:Nat} {gg:Bool}
theorem St1.mk{β:Type}{x:β}:∀{i:Nat} {l:List β},i < l.length→St1 x i l (l.set i x)
 | 0,_::_,_=>.z
 | i+1,_::l,h=>.s (St1.mk (by simpa using h))
theorem hCx{α:Type}{en:α→U}{es:List α→List U}{z:Nat} [E:Enc α en es z](hn:∀a:α,(en a).noSl=true)(l:List α):U.noSls (es l)=true:=by
 rw [E.h]
 induction l with
 | nil=>rfl
 | cons a l ih=>simp [U.noSls,hn a,ih]
theorem hE6{es:List U}(i:Nat)(h:VO P A ops rest ⟨fr,L',N⟩ K)(hL:L[i]? =some (.own e z ver es):=by rfl)(hL':L.set i (.arr e z ver es)=L':=by rfl):VO P A ops rest ⟨fr,L,N⟩ K:=by
 subst hL';exact fun R hR a w hr=>h R hR a w (hr.share hL)
theorem hRg {l:List α} (a0:α) {zs:List Value} {k:Int} (hk:0≤k∧k≤(l.length:Int)) [TE P T e] [TI P e gg z bs] [TZ P e zs]
  (h:VO P A ops rest ⟨(t,.junk)::fr,L',N⟩ K)
  (hx:(St.mk fr L N).ev x=.sl i ver:=by rfl) (hL:L[i]? =some (.arr e z ver (es l)):=by rfl) (hy:(St.mk fr L N).ev y=.d (.i .i64 k):=by rfl) (ht:Nat.blt t N=true:=by rfl)
  (hn:∀a:α,(en a).noSl=true:=by exact fun _=>rfl) (hzu:gZy (en a0) zs:=by exact hUf (by repeat constructor) (by repeat constructor)) (hz:(Nat.blt 0 z && zs.length==z && (en a0).noSl && zs.all fun v=>v.oneCell')=true:=by rfl)
  (hL':L.set i (.arr e z ver (es (l.take k.toNat++List.replicate (l.length - k.toNat) a0)))=L':=by rfl) :
  VO P A ops (⟨some t,.slice T x (some y) none none,ty,pos,af,none⟩::⟨none,.call { callee:=.builtin .clear,args:=#[.tmp t],argTypes:=#[T] },ty2,pos2,af2,none⟩::rest) ⟨fr,L,N⟩ K:=by
 have hi:=(List.getElem?_eq_some_iff.1 hL).1;subst hL';rw [show k=((k.toNat:Nat):Int) by omega] at hy;refine hUw i ?_ hL (hCx (es:=es) hn l) (St1.mk hi);refine hU2 (k:=k.toNat) (by rw [Enc.len];omega) (hCx (es:=es) hn l) hzu ?_ hz hx (List.getElem?_set_self hi) hy ht (St1.mk (by simpa using hi));refine hE6 i ?_ (by rw [List.set_set];exact List.getElem?_set_self hi) rfl;rw [List.set_set,List.set_set];rw [Enc.app (es:=es),Enc.rep (es:=es)] at h;have e1:(es l).take k.toNat=es (l.take k.toNat):=by rw [Enc.h (es:=es),Enc.h (es:=es),List.map_take]
 rw [e1,Enc.len];exact h
theorem hRh {l:List α} {k:Int} (hk:0≤k∧k≤(l.length:Int)) [TE P T e] [TI P e gg z bs]
  (h:VO P A ops rest ⟨(t,.sl i (ver+1))::fr,L',N⟩ K)
  (hx:(St.mk fr L N).ev x=.sl i ver:=by rfl) (hL:L[i]? =some (.arr e z ver (es l)):=by rfl) (hy:(St.mk fr L N).ev y=.d (.i .i64 k):=by rfl) (ht:Nat.blt t N=true:=by rfl)
  (hn:∀a:α,(en a).noSl=true:=by exact fun _=>rfl) (hL':L.set i (.arr e z (ver+1) (es (l.take k.toNat)))=L':=by rfl) :
  VO P A ops (⟨some t,.slice T x none (some y) none,ty,pos,af,none⟩::rest) ⟨fr,L,N⟩ K:=by
 have hi:=(List.getElem?_eq_some_iff.1 hL).1;subst hL';rw [show k=((k.toNat:Nat):Int) by omega] at hy;refine hUw i ?_ hL (hCx (es:=es) hn l) (St1.mk hi);refine hRf (k:=k.toNat) (by rw [Enc.len];omega) (hCx (es:=es) hn l) ?_ hx (List.getElem?_set_self hi) hy ht (St1.mk (by simpa using hi));refine hE6 i ?_ (by rw [List.set_set];exact List.getElem?_set_self hi) rfl;rw [List.set_set,List.set_set];have e1:(es l).take k.toNat=es (l.take k.toNat):=by rw [Enc.h (es:=es),Enc.h (es:=es),List.map_take]
 rw [e1];exact h
theorem hU3 {l:List α} {k:Nat} (a:α) (hk:k < l.length) [TI P T gg z bs] (h:VO P A ops rest ⟨fr,L',N⟩ K) (hx:(St.mk fr L N).ev x=.ep i ver z k 0:=by rfl) (hL:L[i]? =some (.arr e z ver (es l)):=by rfl)
  (hy:VD L ((St.mk fr L N).ev y) (en a):=by((repeat(first | exact trivial | exact rfl | exact⟨_,rfl⟩ | refine And.intro ?_ ?_));first | done | fail)) (hL':L.set i (.arr e z ver (es (l.set k a)))=L':=by rfl) :
  VO P A ops (⟨none,.store T x y,ty,pos,af,none⟩::rest) ⟨fr,L,N⟩ K:=by
 rw [Enc.set (es:=es)] at hL';exact hAb hx hL hy TI.h (Enc.hz a) (by rw [Enc.len];exact hk) hL' h
theorem jGg {σ:St} {dst:Option Nat} {g:Option (Nat × Bool)} {f:Operand} {fi:Nat} {caps caps':List SV} {args:Array Operand} {at_:Array TypeId} {dargs:List SV} {u:U}
  (hspec:jC P fi (dargs++caps') [u]) (hu:u.scal=true:=by rfl) (hf:σ.ev f=.fn fi caps:=by rfl) (hargs:WCs σ.L (args.toList.map σ.ev) dargs:=by((repeat(first | exact trivial | exact rfl | exact⟨_,rfl⟩ | refine Exists.intro _ (And.intro rfl ?_) | refine And.intro ?_ ?_));first | done | fail)) (hcaps:VBs σ.L caps caps':=by((repeat(first | exact trivial | exact rfl | exact⟨_,rfl⟩ | refine Exists.intro _ (And.intro rfl ?_) | refine And.intro ?_ ?_));first | done | fail)) :
  Quiet P A σ ⟨dst,.call { callee:=.value f,args:=args,argTypes:=at_ },ty,pos,af,g⟩ (.d u):=by
 intro S env a w hH hx next R hn
 have h1:=hx f (by simp [Op.operands,Call.operands]);rw [hf] at h1;simp only [SVr] at h1;obtain⟨cvs,h1,h2⟩:=h1;have h3:kK S σ.L env w (args.toList.map σ.ev) (args.toList.map a.eval):=kK.evals _ fun x hx'=>hx x (by simp [Op.operands,Call.operands];exact .inr (by simpa using hx'));have h4:=WCs.r hH hargs h3;have h5:kK (gUc S σ.L env w) [] [] w (dargs++caps') (args.toList.map a.eval++cvs):=by
  have k:kK (gUc S σ.L env w) [] [] w caps' cvs:=kK.carry ⟨fun b hb _=>gUd hb,fun _ _ _=>rfl,fun _ _ h=>h,fun _ _ _ h1 h2=>⟨_,_,h1,h2,Nat.le_refl _,fun _=>rfl⟩⟩ _ _ (VBs.r hH hcaps h2);rw [kK.iff] at h4 k ⊢;exact vE.append h4 k
 obtain⟨⟨fn,c1,c2,c3⟩,hs⟩:=hspec;have hrun:(execOp a.eval ⟨dst,.call { callee:=.value f,args:=args,argTypes:=at_ },ty,pos,af,g⟩).run P w=.ok (.enter fi (args.toList.map a.eval++cvs).toArray) w:=by
  have harr:args.map a.eval++cvs.toArray=(args.toList.map a.eval++cvs).toArray:=by apply Array.ext';simp
  simp only [execOp,resolve,h1,Deferred.ofValue,Sem.run_bind,Sem.run_pure,Result.andThen_ok,invoke,callFunc,run_program,c1,c2,c3,Bool.false_eq_true,if_false,Array.empty_append,harr]
 unfold Oper.wp;rw [hrun];simp only [Oper.upon];refine(hs ⟨w,gUc S σ.L env w,fun _=>False,[],[]⟩ (gUc S σ.L env w) [] w _ rfl rfl rfl rfl hH.lend h5).mono ?_;rintro e w' ⟨r,sv',S',Lc,envc,rfl,⟨rfl,rfl⟩,hH',hr⟩;obtain⟨hj,C⟩:=hH.join hH' (fun o ho=>by cases ho);have henvc:envc=[]:=List.eq_nil_of_length_eq_zero (by simpa using hH'.len);subst henvc;simp only [List.append_nil] at hj C;exact hn r w' S hj C (gFp hu hr)
end
end Go.Eng
