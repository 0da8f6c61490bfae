import Derived.Test.YtegahmhnmjnhhaaGreatEng50
import Derived.Lib.SliceRun
set_option linter.unusedVariables false
set_option linter.unusedSimpArgs false
namespace Go.Eng
open Go Go.RowKit
theorem Rds.split{S:Nat→Prop}{w:World}:∀(us:List U) (vs:List U) (cs:List Value),Rds S w (us++vs) cs→∃c1 c2,cs=c1++c2∧Rds S w us c1∧Rds S w vs c2
 | [],vs,cs,h=>⟨[],cs,rfl,by simp only [Rds],h⟩
 | u::us,vs,cs,h=>by
   simp only [List.cons_append,Rds] at h;obtain⟨c1,c2,rfl,h1,h2⟩:=h;obtain⟨d1,d2,rfl,h3,h4⟩:=Rds.split us vs c2 h2;exact⟨c1++d1,d2,by rw [List.append_assoc],by simp only [Rds];exact⟨c1,d1,rfl,h1,h3⟩,h4⟩
theorem gX8{w:World}{S:Nat→Prop}{L:List LO}{env:List Value}{e z ver:Nat}{es:List U}{hv:Value}(h:gF3 S L env w (.arr e z ver es) hv):(∀S' L' env',S'=S→gF3 S' L' env' w (.mix e z ver [] es) hv)∧∀b,(LO.mix e z ver [] es).ft w hv b↔(LO.arr e z ver es).ft w hv b:=by
 obtain⟨h1,h2,xs,h3,h4⟩:=h;have hf:=gXu (fs:=[]) (n:=es.length) (by simp) (Nat.zero_le _) h3;constructor
 ·rintro S' L' env' rfl;refine⟨by simpa using h1,by simpa using h2,⟨xs,by simpa using h3,by simp [Trs],by simpa using h4⟩,?_⟩;rcases hf with ⟨_,_,_,hf⟩ | ⟨g,cap,_,hf⟩
  ·rw [hf];exact List.nodup_nil
  ·rw [hf];simp [U.fps]
 ·intro b;simp only [LO.ft];rcases hf with ⟨rfl,_,_,hf⟩ | ⟨g,cap,rfl,hf⟩
  ·rw [hf];simp [blk]
  ·rw [hf];simp [blk,U.fps,eq_comm]
theorem hIt{w:World}{S:Nat→Prop}{L:List LO}{env:List Value}{e z ver:Nat}{fs:List U}{hv:Value}(h:gF3 S L env w (.mix e z ver fs []) hv):∀S' L' env',gF3 S' L' env' w (.own e z ver fs) hv:=by
 intro S' L' env';obtain⟨h1,h2,⟨xs,h3,h4,_⟩,h5⟩:=h;simp only [List.append_nil] at h1 h2 h3;exact⟨h1,h2,⟨xs,h3,by rw [List.take_of_length_le (by rw [h3.1];exact Nat.le_refl _)] at h4;exact h4⟩,h5⟩
section
variable {P:Program} {A:Amb} {σ:St} {K:St→Prop} {Q:Exit→St→Prop}
variable {ops:Array Oper} {rest:List Oper} {t:Nat} {ty:TypeId} {pos:String} {af:Array Edge} {x y:Operand} {sv:SV} {dst:Option Nat} {g:Option (Nat × Bool)}
theorem kZ.toMix{a:Act}{w:World}{fr:List (Nat × SV)}{L:List LO}{N i e z ver:Nat}{es:List U}(hL:L[i]? =some (.arr e z ver es))(h:kZ A ⟨fr,L,N⟩ a w):kZ A ⟨fr,L.set i (.mix e z ver [] es),N⟩ a w:=by
 obtain⟨S,env,hH,hf,hN,hd⟩:=h;have hi:=(List.getElem?_eq_some_iff.1 hL).1;obtain⟨hv,hhv⟩:∃hv,env[i]? =some hv:=⟨_,List.getElem?_eq_getElem (by rw [hH.len];exact hi)⟩
 have hob:=hH.objs i _ hv hL hhv;obtain⟨hH',C⟩:mO A S (L.set i (.mix e z ver [] es)) env w∧Carry S L env w S (L.set i (.mix e z ver [] es)) env w:=by
  refine hH.eat [] i _ hv (by rw [List.length_set];exact hH.len) (fun j hj=>?_) (List.getElem?_set_self hi) (fun _ _=>rfl) hhv (fun _ _ _=>rfl) (fun o hv1 h1 h2=>?_) (Nat.le_refl _) rfl rfl rfl (fun k hk=>?_) (fun C=>(gX8 hob).1 _ _ _ rfl)
  ·rw [List.getElem?_set_ne (fun e=>hj e.symm)];simp
  ·rw [hL] at h1;rw [hhv] at h2;cases h1;cases h2;exact⟨Nat.le_refl _,fun _=>rfl,fun _ _=>rfl⟩
  ·have:=((gX8 hob).2 k).1 hk
   exact⟨(hH.excl i _ hv k hL rfl hhv this).2.2,.inr ⟨i,_,hv,.inl rfl,hL,rfl,hhv,this⟩⟩
 exact⟨S,env,hH',fun t=>SVr.carry C _ _ (hf t),hN,hd⟩
theorem kZ.ofMix{a:Act}{w:World}{fr:List (Nat × SV)}{L:List LO}{N i e z ver:Nat}{fs:List U}(hL:L[i]? =some (.mix e z ver fs []))(h:kZ A ⟨fr,L,N⟩ a w):kZ A ⟨fr,L.set i (.own e z ver fs),N⟩ a w:=by
 obtain⟨S,env,hH,hf,hN,hd⟩:=h;have hi:=(List.getElem?_eq_some_iff.1 hL).1;obtain⟨hv,hhv⟩:∃hv,env[i]? =some hv:=⟨_,List.getElem?_eq_getElem (by rw [hH.len];exact hi)⟩
 have hob:=hH.objs i _ hv hL hhv;obtain⟨hH',C⟩:mO A S (L.set i (.own e z ver fs)) env w∧Carry S L env w S (L.set i (.own e z ver fs)) env w:=by
  refine hH.eat [] i _ hv (by rw [List.length_set];exact hH.len) (fun j hj=>?_) (List.getElem?_set_self hi) (fun _ _=>rfl) hhv (fun _ _ _=>rfl) (fun o hv1 h1 h2=>?_) (Nat.le_refl _) rfl rfl rfl (fun k hk=>?_) (fun C=>hIt hob _ _ _)
  ·rw [List.getElem?_set_ne (fun e=>hj e.symm)];simp
  ·rw [hL] at h1;rw [hhv] at h2;cases h1;cases h2;exact⟨Nat.le_refl _,fun _=>rfl,fun _ _=>rfl⟩
  ·exact⟨(hH.excl i _ hv k hL rfl hhv hk).2.2,.inr ⟨i,_,hv,.inl rfl,hL,rfl,hhv,hk⟩⟩
 exact⟨S,env,hH',fun t=>SVr.carry C _ _ (hf t),hN,hd⟩
theorem hQ9{c:Code}{fr:List (Nat × SV)}{L L':List LO}{N e z ver:Nat}{es:List U}(i:Nat)(h:V P A c ⟨fr,L',N⟩ Q)(hL:L[i]? =some (.arr e z ver es):=by rfl)(hL':St1 (.mix e z ver [] es) i L L':=by repeat constructor):V P A c ⟨fr,L,N⟩ Q:=by
 have:=hL'.spec
 subst this;exact fun a w hr=>h a w (hr.toMix hL)
theorem hRa{c:Code}{fr:List (Nat × SV)}{L L':List LO}{N e z ver:Nat}{fs:List U}(i:Nat)(h:V P A c ⟨fr,L',N⟩ Q)(hL:L[i]? =some (.mix e z ver fs []):=by rfl)(hL':St1 (.own e z ver fs) i L L':=by repeat constructor):V P A c ⟨fr,L,N⟩ Q:=by
 have:=hL'.spec
 subst this;exact fun a w hr=>h a w (hr.ofMix hL)
theorem hIu{T e:TypeId}{i ver e' z:Nat}{fs es:List U}{T':TypeId}(hx:σ.ev x=.sl i ver)(hL:σ.L[i]? =some (.mix e' z ver fs es)) [hT:TE P T e] :
  Quiet P A σ ⟨dst,.call { callee:=.builtin .len,args:=#[x],argTypes:=#[T] },T',pos,af,g⟩ (.d (.i .i64 (fs++es).length)):=Quiet.pure fun S env a w hH ho=>by
 have h1:=ho x (by simp [Op.operands,Call.operands]);rw [hx] at h1;simp only [SVr] at h1;obtain⟨hv,o,k1,k2,k3,k5,k4⟩:=h1;rw [hL] at k2;obtain rfl:=Option.some.inj k2;have k6:=k4 rfl;obtain⟨_,_,⟨xs,h3,_,_⟩,_⟩:=hH.objs i _ hv hL k1;have hu:P.underlying T=some (.slice e):=wS TE.h;rcases h3.2 with ⟨r1,r2⟩ | ⟨b,cap,cur,r1,_⟩
 ·rw [r2];exact⟨.int .i64 0,by simp [execOp,resolve,invoke,builtin,Builtin.len_,k6,r1,run_underlying hu,goInt],SVr.int.2 rfl⟩
 ·exact⟨.int .i64 (fs++es).length,by simp [execOp,resolve,invoke,builtin,Builtin.len_,k6,r1,run_underlying hu,goInt],SVr.int.2 rfl⟩
theorem gZ6 {T e:TypeId} {i ver z:Nat} {fs es:List U} {k:IntKind} {n:Int} {gg:Bool} {bs:Nat} (hx:σ.ev x=.sl i ver) (hL:σ.L[i]? =some (.mix e z ver fs es)) (hy:σ.ev y=.d (.i k n)) (hT:tyE P T=some e) (he:tyI P e=some (gg,z,bs))
  (hn:0≤n) (hn2:n < (fs++es).length):Quiet P A σ ⟨dst,.indexAddr T x y,ty,pos,af,g⟩ (.ep i ver z n.toNat 0):=Quiet.pure fun S env a w hH ho=>by
 have h1:=ho x (by simp [Op.operands]);have h2:=ho y (by simp [Op.operands]);rw [hy,SVr.int] at h2;rw [hx] at h1;simp only [SVr] at h1;obtain⟨hv,o,k1,k2,k3,k5,k4⟩:=h1;rw [hL] at k2;obtain rfl:=Option.some.inj k2;have k6:=k4 rfl;obtain⟨_,_,⟨xs,h3,_,_⟩,_⟩:=hH.objs i _ hv hL k1;rcases h3.2 with ⟨_,r2⟩ | ⟨b,cap,cur,r1,_⟩
 ·rw [r2] at hn2;omega
 ·refine⟨.pointer (some ⟨b,n.toNat*z,none⟩),?_,?_⟩
  ·simp [execOp,Instr.indexAt,h2,k6,r1,asIntOf,run_underlying (wS hT),run_sizeOf he,hn,(by simpa using hn2:n < (fs.length:Int)+es.length),Addr.add_lit]
  ·simp only [SVr];exact⟨hv,_,k1,hL,Nat.le_refl _,rfl,fun _=>⟨b,by rw [r1];rfl,rfl⟩⟩
theorem hUs{T e:TypeId}{i ver z:Nat}{fs es:List U}{gg:Bool}{bs:Nat}(k:Nat)(hn2:k < (fs++es).length)(hx:σ.ev x=.sl i ver:=by rfl)(hL:σ.L[i]? =some (.mix e z ver fs es):=by rfl)(hy:σ.ev y=.d (.i .i64 (k:Int)):=by rfl) [TE P T e] [TI P e gg z bs] :
  Quiet P A σ ⟨dst,.indexAddr T x y,ty,pos,af,g⟩ (.ep i ver z k 0):=by
 have:=gZ6 (P:=P) (A:=A) (dst:=dst) (ty:=ty) (pos:=pos) (af:=af) (g:=g) hx hL hy (TE.h:tyE P T=some e) (TI.h:tyI P e=some (gg,z,bs)) (Int.natCast_nonneg k) (by omega)
 simpa using this
theorem gSq{T:TypeId}{i ver z k off f fo:Nat}{e' z':Nat}{fs es:List U}(hx:σ.ev x=.ep i ver z k off)(hL:σ.L[i]? =some (.mix e' z' ver fs es))(hF:tyF P T f=some fo) :
  Quiet P A σ ⟨dst,.fieldAddr T x f,ty,pos,af,g⟩ (.ep i ver z k (off+fo)):=Quiet.pure fun S env a w hH ho=>by
 have h1:=ho x (by simp [Op.operands]);rw [hx] at h1;simp only [SVr] at h1;obtain⟨hv,o,k1,k2,k3,k5,k4⟩:=h1;rw [hL] at k2;obtain rfl:=Option.some.inj k2;obtain⟨b,e1,e2⟩:=k4 rfl;refine⟨.pointer (some ⟨b,k*z+off+fo,none⟩),by simp only [execOp,e2,Sem.run_bind,gZ7 hF,Result.andThen_ok,Sem.run_pure],?_⟩;simp only [SVr];exact⟨hv,_,k1,hL,Nat.le_refl _,rfl,fun _=>⟨b,e1,by rw [Nat.add_assoc]⟩⟩
theorem hE3{T:TypeId}{i ver z k off:Nat}{e':Nat}{fs es pre:List U}{u:U}{gg:Bool}{zu bs:Nat}(hx:σ.ev x=.ep i ver z k off)(hL:σ.L[i]? =some (.mix e' z ver fs (.st (pre++[u])::es)))(hk:fs.length=k)(hoff:U.szs pre=off)(hT:tyI P T=some (gg,zu,bs))(hzu:u.sz=zu)(hg:u.isSt=gg) :
  Quiet P A σ ⟨dst,.load T x,ty,pos,af,g⟩ (.d u):=Quiet.pure fun S env a w hH ho=>by
 have h1:=ho x (by simp [Op.operands]);rw [hx] at h1;simp only [SVr] at h1;obtain⟨hv,o,k1,k2,k3,k5,k4⟩:=h1;rw [hL] at k2;obtain rfl:=Option.some.inj k2;obtain⟨b,e1,e2⟩:=k4 rfl;obtain⟨_,hz,⟨xs,h3,_,h4⟩,_⟩:=hH.objs i _ hv hL k1;have hat:=gNb h3 e1;subst hk;subst hoff;subst hzu;subst hg;simp only [Rds] at h4;obtain⟨c1,c2,hxs,h5,_⟩:=h4;simp only [Rd] at h5;obtain⟨p1,p2,rfl,h6,h7⟩:=Rds.split pre [u] c1 h5;simp only [Rds] at h7;obtain⟨q1,q2,rfl,h8,rfl⟩:=h7;have hp1:=Rds.length _ _ h6;have hq1:=Rd.length _ _ h8;have hcell:∀j,j < q1.length→xs[fs.length*z+U.szs pre+j]? =q1[j]? :=by
  intro j hj
  have:(xs.drop (fs.length*z))[U.szs pre+j]? =q1[j]? :=by
   rw [hxs,List.append_nil,List.append_assoc,List.getElem?_append_right (by omega),hp1,Nat.add_sub_cancel_left,List.getElem?_append_left hj]
  rw [←this,List.getElem?_drop,Nat.add_assoc]
 refine⟨val u q1,?_,?_⟩
 ·obtain⟨row,e,fz,r1,r2⟩:=hat
  have:=gDg hT w b (fs.length*z+U.szs pre) q1 hq1 ⟨row,e,fz,r1,fun j hj=>?_⟩ (fun h=>gCb h)
  ·simp [execOp,Instr.loadAt,e2,Instr.sureAddr,this,val]
  ·rw [←hcell j hj];have hlt:fs.length*z+U.szs pre+j < xs.length:=by
    have:=hcell j hj
    rw [List.getElem?_eq_getElem hj] at this;exact(List.getElem?_eq_some_iff.1 this).1
   have:=r2 (fs.length*z+U.szs pre+j) hlt
   simpa using this
 ·simp only [SVr];exact⟨_,rfl,h8⟩
theorem hIv {T:TypeId} {gg:Bool} {i ver z k off e bs zu:Nat} {fs es pre:List U} {old u:U} {js:List Nat} {fr:List (Nat × SV)} {L L':List LO} {N:Nat} (hx:(St.mk fr L N).ev x=.ep i ver z k off) (hL:L[i]? =some (.mix e z ver fs (.st (pre++[old])::es))) (hk:fs.length=k) (hoff:U.szs pre=off) (hpre:U.noSls pre=true)
  (hy:OV L ((St.mk fr L N).ev y) u js) (hjs:(decide js.Nodup && !js.contains i)=true) (hT:tyI P T=some (gg,zu,bs)) (hu:u.sz=zu) (hou:old.sz=zu) (hL':(kill js 0 L).set i (.mix e z ver (fs++[.st (pre++[u])]) es)=L')
  (h:VO P A ops rest ⟨fr,L',N⟩ K) :
  VO P A ops (⟨none,.store T x y,ty,pos,af,none⟩::rest) ⟨fr,L,N⟩ K:=by
 subst hL';simp only [Bool.and_eq_true,decide_eq_true_eq,Bool.not_eq_true'] at hjs;refine gDh rfl (fun S env a w hH hf hN hd=>?_) h;have h1:=kZ.ev hf hH x;obtain⟨cs,c1,hcells,c2,c3,c4,c5⟩:=hy.r hH hjs.1 (kZ.ev hf hH y);rw [hx] at h1;simp only [SVr] at h1;obtain⟨hv,o,k1,k2,k3,k5,k4⟩:=h1;rw [hL] at k2;obtain rfl:=Option.some.inj k2;obtain⟨b,e1,e2⟩:=k4 rfl;have hob:=hH.objs i _ hv hL k1;obtain⟨hbg,hz,⟨xs,m1,m2,m3⟩,hnd⟩:=hob;have hcl:=Tr.len _ _ c2;rw [hu] at hcl;have hzf:∀v∈fs,v.sz=z:=fun v hv'=>hz v (by simp [hv']);have hfp:=gXu hzf (by simp) m1;rcases hfp with ⟨rfl,_⟩ | ⟨g,cap,rfl,hfp⟩
 ·simp [blk] at e1
 simp only [blk,Option.some.injEq] at e1;subst e1;rcases m1.2 with ⟨hnil,_⟩ | ⟨g',cap',cur,hveq,hg0,hg,hnc,hcm,hcs,htake⟩
 ·cases hnil
 cases hveq;rw [hfp] at hnd;simp only [Rds] at m3;obtain⟨d1,d2,hxs,m4,m5⟩:=m3;simp only [Rd] at m4;obtain⟨p1,p2,rfl,m6,m7⟩:=Rds.split pre [old] d1 m4;have hp1:=Rds.length _ _ m6;have hp2:=Rds.length _ _ m7;have hd2:=Rds.length _ _ m5;simp only [U.szs,Nat.add_zero,hou] at hp2;have hzz:(U.st (pre++[old])).sz=z:=hz _ (by simp);have hszapp:∀(us vs:List U),U.szs (us++vs)=U.szs us+U.szs vs:=by
  intro us vs
  induction us with
  | nil=>simp [U.szs]
  | cons a us ih=>simp only [List.cons_append,U.szs,ih];omega
 have hzo:z=off+zu:=by
  simp only [U.sz,hszapp,U.szs,hou,hoff] at hzz;omega
 have hX:(xs.take (fs.length*z)).length=fs.length*z:=by
  rw [List.length_take,m1.1];exact Nat.min_eq_left (Nat.mul_le_mul_right _ (by simp))
 have hxs2:xs=xs.take (fs.length*z)++(p1++(p2++d2)):=by
  conv=>lhs;rw [←List.take_append_drop (fs.length*z) xs,hxs]
  simp
 have hcur:cur.toList=xs.take (fs.length*z)++(p1++(p2++(d2++cur.toList.drop ((fs++U.st (pre++[old])::es).length*z)))):=by
  conv=>lhs;rw [←List.take_append_drop ((fs++U.st (pre++[old])::es).length*z) cur.toList,htake,hxs2]
  simp
 generalize hX1:xs.take (fs.length*z)=X1 at *;generalize hR1:cur.toList.drop ((fs++U.st (pre++[old])::es).length*z)=R1 at *;have hk':k*z=X1.length:=by rw [hX,hk]
 have hst:=run_storeCells_at P g (k*z+off) e cs 0 cur w hg (by
  have:cur.toList.length=X1.length+(p1.length+(p2.length+(d2.length+R1.length))):=by rw [hcur];simp
  simp only [Array.length_toList] at this
  omega) c5
 have hnew:cur.toList.take (k*z+off)++cs++cur.toList.drop (k*z+off+cs.length)=X1++(p1++(cs++(d2++R1))):=by
  rw [hcur,←List.append_assoc X1 p1,List.take_left' (by rw [List.length_append];omega),←List.append_assoc (X1++p1) p2,List.drop_left' (by simp only [List.length_append];omega)];simp
 rw [Nat.add_zero,hnew] at hst;have hrow:=setRow_heap w g cur ((X1++(p1++(cs++(d2++R1)))).toArray) e (0,0) hg;have hoth:∀b',b'≠g→(w.setRow g (X1++(p1++(cs++(d2++R1)))).toArray).heap[b']? =w.heap[b']? :=fun b' hb'=>setRow_other w g b' _ hb';obtain⟨q1,q2⟩:=List.nodup_cons.1 hnd;have hap:∀b'∈u.fp w cs,b'≠g∧b'∉U.fps w fs X1:=by
  intro b' hb';obtain⟨j,hj,ho⟩:=c4 b' hb';have hnot:¬ (LO.mix e z ver fs (U.st (pre++[old])::es)).ft w (.slice (some ⟨g,0,none⟩) (fs++U.st (pre++[old])::es).length cap) b':=by
   intro hft
   have:=ho.inj hH ⟨_,_,hL,rfl,k1,hft⟩
   subst this;rw [gB7 hj] at hjs;cases hjs.2
  simp only [LO.ft] at hnot;rw [hfp] at hnot;simp only [List.mem_cons,not_or] at hnot;exact hnot
 obtain⟨t1,t2⟩:=Trs.loc _ _ m2 (fun b' hb'=>hoth b' (fun e=>q1 (e▸hb')));obtain⟨t5,t6⟩:=Tr.loc _ _ c2 (fun b' hb'=>hoth b' (hap b' hb').1);obtain⟨s1,s2⟩:=Rds.tr (w':=w.setRow g (X1++(p1++(cs++(d2++R1)))).toArray) _ _ hpre m6;have su:Trs (w.setRow g (X1++(p1++(cs++(d2++R1)))).toArray) [u] cs∧U.fps (w.setRow g (X1++(p1++(cs++(d2++R1)))).toArray) [u] cs=u.fp w cs:=by
  simp only [Trs,U.fps];rw [List.take_of_length_le (by omega),List.drop_of_length_le (by omega),t6];exact⟨⟨t5,rfl⟩,by simp⟩
 obtain⟨v1,v2⟩:=Trs.append _ _ _ _ s1 su.1;rw [s2,su.2,List.nil_append] at v2;have hel:Trs (w.setRow g (X1++(p1++(cs++(d2++R1)))).toArray) [.st (pre++[u])] (p1++cs)∧U.fps (w.setRow g (X1++(p1++(cs++(d2++R1)))).toArray) [.st (pre++[u])] (p1++cs)=u.fp w cs:=by
  have hl:(p1++cs).length≤(U.st (pre++[u])).sz:=by
   simp only [U.sz,hszapp,U.szs,List.length_append];omega
  simp only [Trs,U.fps];rw [List.take_of_length_le hl,List.drop_of_length_le hl];simp only [Tr,U.fp];exact⟨⟨v1,trivial⟩,by rw [v2];simp⟩
 obtain⟨r1,r2⟩:=Trs.append _ _ _ _ t1 hel.1;rw [t2,hel.2] at r2;have hlenE:(fs++[U.st (pre++[u])]++es).length=(fs++U.st (pre++[old])::es).length:=by simp
 have hz':∀v∈fs++[U.st (pre++[u])]++es,v.sz=z:=by
  intro v hv';simp only [List.mem_append,List.mem_singleton] at hv';rcases hv' with (hv' | rfl) | hv'
  ·exact hzf v hv'
  ·simp only [U.sz,hszapp,U.szs];omega
  ·exact hz v (by simp [hv'])
 have hf1:(fs++[U.st (pre++[u])]).length*z=(X1++(p1++cs)).length:=by
  simp only [List.length_append,List.length_singleton,Nat.add_mul,Nat.one_mul];rw [hk,hk'];omega
 have hown':(w.setRow g (X1++(p1++(cs++(d2++R1)))).toArray).ownsRow 0 e z (.slice (some ⟨g,0,none⟩) (fs++U.st (pre++[old])::es).length cap) (fs++[U.st (pre++[u])]++es).length (X1++(p1++cs)++d2):=by
  have hxl:(X1++(p1++cs)++d2).length=xs.length:=by
   rw [hxs2];simp only [List.length_append];omega
  refine⟨by rw [hxl,m1.1,hlenE],.inr ⟨g,cap,_,by rw [hlenE],hg0,hrow,by rw [hlenE];exact hnc,hcm,?_,?_⟩⟩
  ·rw [←hcs]
   have:cur.toList.length=X1.length+(p1.length+(p2.length+(d2.length+R1.length))):=by rw [hcur];simp
   simp only [Array.length_toList] at this;simp only [List.size_toArray,List.length_append];omega
  ·rw [hlenE,←m1.1,←hxl];show List.take _ (X1++(p1++(cs++(d2++R1))))=_;rw [show X1++(p1++(cs++(d2++R1)))=X1++(p1++cs)++d2++R1 by simp,List.take_left]
 have hfp':(U.sl z (fs++[U.st (pre++[u])])).fp (w.setRow g (X1++(p1++(cs++(d2++R1)))).toArray) [.slice (some ⟨g,0,none⟩) (fs++U.st (pre++[old])::es).length cap]=g::(U.fps w fs X1++u.fp w cs):=by
  rcases gXu (fs:=fs++[U.st (pre++[u])]) (fun v hv'=>hz' v (by simp only [List.mem_append] at hv' ⊢;exact .inl hv')) (by simp) hown' with ⟨h,_⟩ | ⟨g2,cap2,h,hf2⟩
  ·cases h
  ·injection h with h1 _ _
   injection h1 with h1
   injection h1 with h1
   subst h1;rw [hf2,hf1,List.take_left,r2]
 have hi:=(List.getElem?_eq_some_iff.1 hL).1
 obtain⟨hH',C⟩:=hH.eat (w':=w.setRow g (X1++(p1++(cs++(d2++R1)))).toArray) js i (.mix e z ver (fs++[U.st (pre++[u])]) es) (.slice (some ⟨g,0,none⟩) (fs++U.st (pre++[old])::es).length cap) (L':=(kill js 0 L).set i (.mix e z ver (fs++[U.st (pre++[u])]) es)) (env':=env)
  (by simp [zZ,hH.len]) (fun j hj=>by rw [List.getElem?_set_ne (fun e=>hj e.symm),gMe,Nat.zero_add]) (by rw [List.getElem?_set_self (by rw [zZ];exact hi)]) (fun _ _=>rfl) k1
  (fun k' hk' hno=>hoth k' (fun e=>hno _ _ hL k1 ⟨rfl,by simp only [LO.ft];rw [hfp,e];simp⟩))
  (fun o hv h1 h2=>by rw [hL] at h1;cases h1;rw [k1] at h2;cases h2;exact⟨Nat.le_refl _,fun _=>rfl,fun _ _=>rfl⟩)
  (by rw [setRow_size];exact Nat.le_refl _) rfl rfl rfl
  (fun b' hb'=>by
   simp only [LO.ft] at hb';rw [hfp'] at hb';simp only [List.mem_cons,List.mem_append] at hb';have old':∀j,gTt L env w j b'→(j=i∨js.contains j=true)→b' < (w.setRow g (X1++(p1++(cs++(d2++R1)))).toArray).heap.size∧(w.heap.size≤b'∨∃j o hv,(j=i∨js.contains j=true)∧L[j]? =some o∧o.live=true∧env[j]? =some hv∧o.ft w hv b'):=by
    rintro j ⟨o,hv,n1,n2,n3,n4⟩ hj;exact⟨by rw [setRow_size];exact(hH.excl j o hv b' n1 n2 n3 n4).2.2,.inr ⟨j,o,hv,hj,n1,n2,n3,n4⟩⟩
   have self:b'∈(U.sl z fs).fp w [.slice (some ⟨g,0,none⟩) (fs++U.st (pre++[old])::es).length cap]→gTt L env w i b':=fun hm=>⟨_,_,hL,rfl,k1,hm⟩
   rw [hfp] at self;rcases hb' with rfl | hb' | hb'
   ·exact old' i (self (by simp)) (.inl rfl)
   ·exact old' i (self (by simp [hb'])) (.inl rfl)
   ·obtain⟨j,hj,ho⟩:=c4 b' hb'
    exact old' j ho (.inr (gB7 hj)))
  (fun C=>⟨by rw [hlenE];exact hbg,hz',⟨_,hown',by rw [hf1,List.take_left];exact r1,by rw [hf1,List.drop_left];exact Rds.mono C.hS C.hw _ _ m5⟩,by
   rw [hfp'];refine List.nodup_cons.2 ⟨?_,List.nodup_append.2 ⟨q2,c3,fun a' ha' b' hb' hab=>(hap b' hb').2 (hab▸ha')⟩⟩;simp only [List.mem_append,not_or]
   exact⟨q1,fun hm=>(hap g hm).1 rfl⟩⟩)
 refine⟨.skip,_,?_,.inr ⟨rfl,gBk hf hN hd hH' C⟩⟩;have hsz:(a.eval y).cells.size=zu:=by rw [←hcl,←hcells];simp
 have e2':a.eval x=.pointer (some ⟨g,k*z+off,none⟩):=e2;simp [execOp,Instr.storeAt,e2',Instr.sureAddr,storeVar,run_sizeOf hT,hsz,hcells,hst]
theorem hNd{T T' e:TypeId}{z:Nat}{us:List U}{fr:List (Nat × SV)}{L:List LO}{N:Nat} [TE P T e](h:∀b:Bool,(b=true→us=[])→VO P A ops rest ⟨(t,.d (.b b))::fr,L,N⟩ K)(hx:(St.mk fr L N).ev x=.d (.sl z us):=by rfl)(ht:Nat.blt t N=true:=by rfl) :
  VO P A ops (⟨some t,.binOp .eql T x (.const (.slice none 0 0)) T',ty,pos,af,none⟩::rest) ⟨fr,L,N⟩ K:=by
 intro R hR a w ⟨S,env,hH,hf,hN,hd⟩;have h1:=kZ.ev hf hH x;rw [hx,SVr.slice] at h1;obtain⟨_,base,cap,h1,h2⟩:=h1;refine wpList_plain rfl fun K' hK'=>?_;have hT:P.underlying T=some (.slice e):=wS TE.h;have hrun:(execOp a.eval ⟨some t,.binOp .eql T x (.const (.slice none 0 0)) T',ty,pos,af,none⟩).run P w=.ok (.value (.bool base.isNone)) w:=by
  have h0:a.eval (.const (.slice none 0 0))=.slice none 0 0:=rfl;simp [execOp,h1,h0,eqGuard,Lib.run_eql_slice_nil w T e base us.length (us.length+cap) 0 0 hT]
 unfold Oper.wp;rw [hrun];refine hK' _ _ (h base.isNone (fun hb=>?_) R hR _ _ (qW (σ:=⟨fr,L,N⟩) hf hN hd ht hH Carry.refl (SVr.bool.2 rfl)));rcases h2 with h2 | ⟨b,off,rfl,_⟩
 ·exact h2
 ·cases hb
theorem hIw{w:World}{S:Nat→Prop}{L:List LO}{env:List Value}{e z ver:Nat}{fs:List U}{hv:Value}(h:gF3 S L env w (.own e z ver fs) hv):∀S' L' env',gF3 S' L' env' w (.mix e z ver fs []) hv:=by
 intro S' L' env';obtain⟨h1,h2,⟨xs,h3,h4⟩,h5⟩:=h;have hl:fs.length*z=xs.length:=h3.1.symm;exact⟨by simpa using h1,by simpa using h2,⟨xs,by simpa using h3,by rw [hl,List.take_length];exact h4,by rw [hl,List.drop_length];simp [Rds]⟩,h5⟩
theorem hNe{c:Code}{fr:List (Nat × SV)}{L L':List LO}{N e z ver:Nat}{fs:List U}(i:Nat)(h:V P A c ⟨fr,L',N⟩ Q)(hL:L[i]? =some (.own e z ver fs):=by rfl)(hL':St1 (.mix e z ver fs []) i L L':=by repeat constructor):V P A c ⟨fr,L,N⟩ Q:=by
 have:=hL'.spec
 subst this;intro a w ⟨S,env,hH,hf,hN,hd⟩;refine h a w ?_;have hi:=(List.getElem?_eq_some_iff.1 hL).1;obtain⟨hv,hhv⟩:∃hv,env[i]? =some hv:=⟨_,List.getElem?_eq_getElem (by rw [hH.len];exact hi)⟩
 have hob:=hH.objs i _ hv hL hhv;obtain⟨hH',C⟩:mO A S (L.set i (.mix e z ver fs [])) env w∧Carry S L env w S (L.set i (.mix e z ver fs [])) env w:=by
  refine hH.eat [] i _ hv (by rw [List.length_set];exact hH.len) (fun j hj=>?_) (List.getElem?_set_self hi) (fun _ _=>rfl) hhv (fun _ _ _=>rfl) (fun o hv1 h1 h2=>?_) (Nat.le_refl _) rfl rfl rfl (fun k hk=>?_) (fun C=>hIw hob _ _ _)
  ·rw [List.getElem?_set_ne (fun e=>hj e.symm)];simp
  ·rw [hL] at h1;rw [hhv] at h2;cases h1;cases h2;exact⟨Nat.le_refl _,fun _=>rfl,fun _ _=>rfl⟩
  ·exact⟨(hH.excl i _ hv k hL rfl hhv hk).2.2,.inr ⟨i,_,hv,.inl rfl,hL,rfl,hhv,hk⟩⟩
 exact⟨S,env,hH',fun t=>SVr.carry C _ _ (hf t),hN,hd⟩
end
section
variable {P:Program} {A:Amb} {ops:Array Oper} {K:St→Prop} {r:List (Nat × Bool)} {pf:PF} {fr:List (Nat × SV)} {L L1 L':List LO} {N i t m:Nat}
variable {ty:TypeId} {pos:String} {af:Array Edge} {x y:Operand} {T:TypeId}
theorem hPd {α:Type} {en:α→U} {es:List α→List U} {z:Nat} [E:Enc α en es z] {e bs ver e':Nat} {gg:Bool} {l:List α} (k:Nat) (hk:k < l.length) [TE P T e] [TI P e gg z bs] (h:VY P A ops K r pf ⟨(t,.ep m ver z k 0)::fr,L,N⟩)
  (hi:ops[i]? =some ⟨some t,.indexAddr T x y,ty,pos,af,none⟩:=by rfl) (hx:(St.mk fr L N).ev x=.sl m ver:=by rfl) (hL:L[m]? =some (.own e' z ver (es l)):=by rfl) (hy:(St.mk fr L N).ev y=.d (.i .i64 (k:Int)):=by rfl) (ht:Nat.blt t N=true:=by rfl)
  (hp:vV ops i L pf:=by(repeat(first | exact vV.nil | (apply vV.keep;focus ((repeat constructor);done)) | (apply vV.dep;focus kernel_rfl)))):VY P A ops K ((i,false)::r) pf ⟨fr,L,N⟩:=
 gJc hi (fun fr' he' K' hK=>gAq (hM5 (j:=m) k hk (by rw [he' x (by simp [Op.operands])];exact hx) hL (by rw [he' y (by simp [Op.operands])];exact hy)) (gFt hK) ht) hp h
theorem hUt {α:Type} {en:α→U} {es:List α→List U} {z:Nat} [E:Enc α en es z] {e bs ver k:Nat} {gg:Bool} {l:List α} (a:α) {js:List Nat} (hk:k < l.length) [TI P T gg z bs] (h:VY P A ops K r pf ⟨fr,L',N⟩)
  (hi:ops[i]? =some ⟨none,.store T x y,ty,pos,af,none⟩:=by rfl) (hx:(St.mk fr L N).ev x=.ep m ver z k 0:=by rfl) (hL:L[m]? =some (.own e z ver (es l)):=by rfl)
  (hy:OV L ((St.mk fr L N).ev y) (en a) js:=by((repeat constructor);first | done | fail)) (hjs:(decide js.Nodup && !js.contains m)=true:=by decide) (hk1:KR js L L1:=by repeat constructor) (hL':St1 (.own e z ver (es (l.set k a))) m L1 L':=by repeat constructor)
  (hp:vV ops i L' pf:=by(repeat(first | exact vV.nil | (apply vV.keep;focus ((repeat constructor);done)) | (apply vV.dep;focus kernel_rfl)))):VY P A ops K ((i,false)::r) pf ⟨fr,L,N⟩:=by
 rw [Enc.set (es:=es)] at hL';exact gJc (sv:=.junk) hi (fun fr' he' K' hK=>hCl (by rw [he' x (by simp [Op.operands])];exact hx) hL (by rw [he' y (by simp [Op.operands])];exact hy) hjs TI.h (Enc.hz a) (by rw [Enc.len];exact hk) hk1 hL' (gFt hK)) hp h
theorem pJ {op:Op} {sv:SV} (hv:VY P A ops K r pf ⟨(t,sv)::fr,L,N⟩) (hi:ops[i]? =some ⟨some t,op,ty,pos,af,none⟩:=by rfl) (h:QF P ops ⟨some t,op,ty,pos,af,none⟩ ⟨fr,L,N⟩ t sv:=by(repeat(first | exact Rng.mk (by omega) (by omega) | constructor));first | done | fail)
  (hp:vV ops i L pf:=by(repeat(first | exact vV.nil | (apply vV.keep;focus ((repeat constructor);done)) | (apply vV.dep;focus kernel_rfl)))):VY P A ops K ((i,false)::r) pf ⟨fr,L,N⟩:=by
 refine gJc hi (fun fr' he' K' hK=>?_) hp hv;obtain⟨h1,_,h3 | h3⟩:=h.pst (A:=A)
 ·exact hS6 (h3.2 fr' L he' (gSe.refl _)) (h1 t rfl) (gFt hK)
 ·exact absurd h3.1 (by simp [Gd])
end
section
variable {P:Program} {A:Amb} {σ:St} {K:St→Prop} {Q:Exit→St→Prop}
variable {ops:Array Oper} {rest:List Oper} {t:Nat} {ty:TypeId} {pos:String} {af:Array Edge} {x y:Operand} {sv:SV} {dst:Option Nat} {g:Option (Nat × Bool)}
theorem hIy{c:Code}{fr:List (Nat × SV)}{L L':List LO}{N e z ver:Nat}{es:List U}(t m:Nat)(h:V P A c ⟨(t,.sl m (ver+1))::fr,L',N⟩ Q)(ht:look fr t=.nilsl:=by rfl)(hL:L[m]? =some (.arr e z ver es):=by rfl)(hL':St1 (.arr e z (ver+1) []) m L L':=by repeat constructor):V P A c ⟨fr,L,N⟩ Q:=by
 have:=hL'.spec
 subst this;intro a w ⟨S,env,hH,hf,hN,hd⟩;refine h a w ?_;have hi:=(List.getElem?_eq_some_iff.1 hL).1;have hie:m < env.length:=by rw [hH.len];exact hi
 obtain⟨hv,hhv⟩:∃hv,env[m]? =some hv:=⟨_,List.getElem?_eq_getElem hie⟩
 have hob:=hH.objs m _ hv hL hhv;obtain⟨hH',C⟩:mO A S (L.set m (.arr e z (ver+1) [])) (env.set m (.slice none 0 0)) w∧Carry S L env w S (L.set m (.arr e z (ver+1) [])) (env.set m (.slice none 0 0)) w:=by
  refine hH.eat [] m _ (.slice none 0 0) (by rw [List.length_set,List.length_set];exact hH.len) (fun j hj=>?_) (List.getElem?_set_self hi) (fun j hj=>List.getElem?_set_ne (fun e=>hj e.symm)) (List.getElem?_set_self hie) (fun _ _ _=>rfl) (fun o hv1 h1 h2=>?_) (Nat.le_refl _) rfl rfl rfl (fun k hk=>?_) (fun C=>?_)
  ·rw [List.getElem?_set_ne (fun e=>hj e.symm)];simp
  ·rw [hL] at h1;rw [hhv] at h2;cases h1;cases h2;refine⟨Nat.le_succ _,fun h=>absurd h (by simp [LO.ver]),fun b hb=>?_⟩;subst hb;rcases gV9 hob with ⟨h,_⟩ | ⟨_,_,h⟩<;>cases h
  ·simp [LO.ft,blk] at hk
  ·exact⟨by simp [wY],by simp,[],World.ownsRow_nil w 0 e z,by simp [Rds]⟩
 refine⟨S,_,hH',fun t'=>?_,hN,hd⟩;have ht':=SVr.carry C _ _ (hf t');simp only at ht';by_cases he:t'=t
 ·subst he;simp only [Go.Eng.look,if_true];rw [ht] at ht';simp only [SVr] at ht' ⊢;rw [ht'];exact⟨.slice none 0 0,_,List.getElem?_set_self hie,List.getElem?_set_self hi,Nat.le_refl _,rfl,fun _=>rfl⟩
 ·simp only [Go.Eng.look,if_neg he];exact ht'
end
section
variable {P:Program} {A:Amb} {Q:Exit→St→Prop} {c:Code}
end
theorem VDs.same{σ σ':St}(hL:σ'.L=σ.L){l:List Operand}{us:List U}(h:VDs σ l us):(∀x∈l,σ'.ev x=σ.ev x)→VDs σ' l us:=by
 induction h with
 | nil=>exact fun _=>.nil
 | @cons x l u us h h2 ih=>exact fun he=>.cons (by rw [hL,he x (by simp)];exact h) (ih fun y hy=>he y (by simp [hy]))
section
variable {P:Program} {A:Amb} {ops:Array Oper} {K:St→Prop} {r:List (Nat × Bool)} {pf:PF} {fr:List (Nat × SV)} {L L1 L':List LO} {N i t m:Nat}
variable {ty:TypeId} {pos:String} {af:Array Edge} {x y:Operand} {T:TypeId}
theorem qE {e z bs n:Nat} {gg:Bool} [TE P T e] [TI P e gg z bs] {zs:List Value} [TZ P e zs] {us:List U} {ps:Array (Nat × Operand)} (h:VY P A ops K r pf ⟨(t,.sl m 0)::fr,L',N⟩) (hi:ops[i]? =some ⟨some t,.buildSlice T n ps,ty,pos,af,none⟩:=by rfl) (hps:ps.toList=((ps.toList.map Prod.snd).zipIdx 0).map (fun p=>(p.2,p.1)):=by rfl)
  (hy:VDs ⟨fr,L,N⟩ (ps.toList.map Prod.snd) us:=by(repeat(first | exact .nil | refine .cons (by((repeat(first | exact trivial | exact rfl | exact⟨_,rfl⟩ | refine And.intro ?_ ?_));first | done | fail)) ?_))) (hu:(us.all fun u=>u.sz==z)=true:=by rfl) (hn:((ps.toList.map Prod.snd).length==n && Nat.blt 0 n)=true:=by rfl)
  (hz:(Nat.blt 0 z && Nat.ble (n*z) 16777216 && zs.length==z)=true:=by rfl) (ht:Nat.blt t N=true:=by rfl) (hL':Sn (.arr e z 0 us) L m L':=by repeat constructor)
  (hp:vV ops i L' pf:=by(repeat(first | exact vV.nil | (apply vV.keep;focus ((repeat constructor);done)) | (apply vV.dep;focus kernel_rfl)))):VY P A ops K ((i,false)::r) pf ⟨fr,L,N⟩:=
 gJc hi (fun fr' he' K' hK=>gSp (gFt hK) hps (VDs.same (σ:=⟨fr,L,N⟩) (σ':=⟨fr',L,N⟩) rfl hy (fun x hx=>he' x (by simpa [Op.operands] using hx))) hu hn hz ht hL') hp h
theorem pV {α:Type} {en:α→U} {es:List α→List U} {z:Nat} [E:Enc α en es z] {l l2:List α} (hg:l.length+l2.length≤4294967296) {e bs ver:Nat} {T':TypeId} {gg:Bool} [TE P T e] [TI P e gg z bs] {zs:List Value} [TZ P e zs]
  (h:VY P A ops K r pf ⟨(t,.sl m (ver+1))::fr,L',N⟩) (hi:ops[i]? =some ⟨some t,.call { callee:=.builtin .append,args:=#[x,y],argTypes:=#[T,T] },T',pos,af,none⟩:=by rfl) (hx:(St.mk fr L N).ev x=.sl m ver:=by rfl) (hL:L[m]? =some (.arr e z ver (es l)):=by rfl) (hs:SrcOf ⟨fr,L,N⟩ z (es l2) ((St.mk fr L N).ev y):=by first | exact⟨_,rfl⟩ | exact⟨rfl,rfl,Enc.all _⟩ | exact rfl)
  (hz:(Nat.blt 0 z && zs.length==z)=true:=by rfl) (hb:Nat.ble bs 32768=true:=by rfl) (ht:Nat.blt t N=true:=by rfl) (hL':L.set m (.arr e z (ver+1) (es (l++l2)))=L':=by rfl)
  (hp:vV ops i L' pf:=by(repeat(first | exact vV.nil | (apply vV.keep;focus ((repeat constructor);done)) | (apply vV.dep;focus kernel_rfl)))):VY P A ops K ((i,false)::r) pf ⟨fr,L,N⟩:=
 gJc hi (fun fr' he' K' hK=>gBd (l:=l) (r:=l2) hg (gFt hK) (by rw [he' x (by simp [Op.operands,Call.operands])];exact hx) hL (by rw [he' y (by simp [Op.operands,Call.operands])];exact hs) hz hb ht hL') hp h
end
section
variable {P:Program} {A:Amb} {ops:Array Oper} {K:St→Prop} {r:List (Nat × Bool)} {pf:PF} {o:Oper} {fr:List (Nat × SV)} {L L1 L':List LO} {N i t j:Nat} {sv:SV}
theorem kZ.adoptA{a:Act}{w:World}{cs cs':List SV}{e z:Nat}(hL:L[j]? =some (.box cs))(k:Nat)(hc:cs[k]? =some .nilsl)(hcs:cs.set k (.sl L.length 0)=cs')(h:kZ A ⟨fr,L,N⟩ a w):kZ A ⟨fr,L.set j (.box cs')++[.arr e z 0 []],N⟩ a w:=by
 subst hcs;obtain⟨S,env,hH,hf,hN,hd⟩:=h;have hj:=(List.getElem?_eq_some_iff.1 hL).1;obtain⟨hH1,C1⟩:=hH.newO [] (.arr e z 0 []) (.slice none 0 0) (Nat.le_refl _) (fun _ _=>rfl) rfl rfl rfl (fun b hb=>by simp [LO.ft,blk] at hb) (fun _=>⟨by simp [wY],by simp,[],World.ownsRow_nil w 0 e z,by simp [Rds]⟩);rw [gQn] at hH1 C1;have hL1:(L++[LO.arr e z 0 []])[j]? =some (.box cs):=by rw [List.getElem?_append_left hj];exact hL
 have hje:j < (env++[Value.slice none 0 0]).length:=by rw [hH1.len];simp;omega
 obtain⟨hv,he⟩:∃hv,(env++[Value.slice none 0 0])[j]? =some hv:=⟨_,List.getElem?_eq_getElem hje⟩
 obtain⟨b,vals,e',r1,r2,r3,r4⟩:=hH1.objs j _ hv hL1 he
 obtain⟨hH2,C2⟩:=hH1.turnF (w':=w) j (.box cs) (.box (cs.set k (.sl L.length 0))) hv hL1 rfl he rfl rfl (fun _ _=>rfl) rfl rfl rfl (fun k hk=>hk) (fun C=>⟨b,vals,e',r1,r2,by
  have r3':=kK.carry C _ _ r3;rw [kK.iff] at r3' ⊢;obtain⟨v,v1,v2⟩:=vE.get ((kK.iff _ _).1 r3) k _ hc;simp only [SVr] at v2;subst v2
  have hset:=vE.set k (.sl L.length 0) (.slice none 0 0) r3' (by
   simp only [SVr];refine⟨.slice none 0 0,.arr e z 0 [],by rw [←hH.len];simp,?_,Nat.le_refl _,rfl,fun _=>rfl⟩;rw [List.getElem?_set_ne (by omega)]
   simp)
  have hk:k < vals.toList.length:=(List.getElem?_eq_some_iff.1 v1).1
  have:vals.toList.set k (.slice none 0 0)=vals.toList:=by
   apply List.ext_getElem?;intro m;rw [List.getElem?_set];by_cases hm:k=m
   ·subst hm;rw [if_pos rfl,if_pos hk,v1]
   ·rw [if_neg hm]
  rwa [this] at hset,r4⟩)
 have hse:(L++[LO.arr e z 0 []]).set j (.box (cs.set k (.sl L.length 0)))=L.set j (.box (cs.set k (.sl L.length 0)))++[.arr e z 0 []]:=by rw [List.set_append_left _ _ hj]
 rw [hse] at hH2 C2;exact⟨S,_,hH2,fun t=>SVr.carry C2 _ _ (SVr.carry C1 _ _ (hf t)),hN,hd⟩
theorem wT {Q:Exit→St→Prop} {c:Code} {cs cs':List SV} {n:Nat} (e z:Nat) (j k:Nat) (hL:L[j]? =some (.box cs)) (hc:cs[k]? =some .nilsl) (hn:Ln L n) (hcs:St1 (.sl n 0) k cs cs') (h1:St1 (.box cs') j L L1) (h2:Jn L1 [.arr e z 0 []] L')
  (h:V P A c ⟨fr,L',N⟩ Q):V P A c ⟨fr,L,N⟩ Q:=by
 have e1:=hn.eq;have e2:=hcs.spec;have e3:=h1.spec;have e4:=h2.spec;subst e1;subst e2;subst e3;subst e4;exact fun a w hr=>h a w (kZ.adoptA hL k hc rfl hr)
end
section
variable {P:Program} {A:Amb} {σ:St} {K:St→Prop}
variable {ops:Array Oper} {rest:List Oper} {t:Nat} {ty:TypeId} {pos:String} {af:Array Edge} {x y:Operand} {dst:Option Nat} {g:Option (Nat × Bool)}
end
theorem jG(l:List gB):(jJ l).length=l.length:=Enc.len l
theorem gV(l:List gG):(gN l).length=l.length:=Enc.len l
section
variable {P:Program} {A:Amb} {ops:Array Oper} {K:St→Prop} {r:List (Nat × Bool)} {pf:PF} {fr:List (Nat × SV)} {L L1 L':List LO} {N i:Nat} {o:Oper} {sv:SV}
theorem gJ2(zi:Nat){e z ver:Nat}{es:List U}(hz:L[zi]? =some (.own e z ver es))(hL1:L.set zi (.frz e z ver es)=L1)(h:VY P A ops K ((i,false)::r) pf ⟨fr,L1,N⟩):VY P A ops K ((i,false)::r) pf ⟨fr,L,N⟩:=by
 obtain⟨o,Z,h1,h2,h3⟩:=h;exact⟨o,Z,h1,fun fr' he K' hK=>gMg zi hz hL1 (h2 fr' he K' hK),h3⟩
theorem gBe(zi:Nat){e z ver:Nat}{es:List U}(hz:L[zi]? =some (.arr e z ver es))(hL1:L.set zi (.frz e z ver es)=L1)(h:VY P A ops K ((i,false)::r) pf ⟨fr,L1,N⟩):VY P A ops K ((i,false)::r) pf ⟨fr,L,N⟩:=by
 obtain⟨o,Z,h1,h2,h3⟩:=h;exact⟨o,Z,h1,fun fr' he K' hK=>uZ zi hz hL1 (h2 fr' he K' hK),h3⟩
end
section
variable {P:Program} {σ:St}
theorem hLc {fn:Func} {Q:SV→List LO→Prop} {n:Nat} (svs:List SV) (Lo:List LO) (hq:Q (mkG svs) Lo) (hL:∃L2,σ.L=Lo++L2:=by exact⟨_,rfl⟩) (hl:(LO.lts Lo.length Lo && SV.lts Lo.length svs && Nat.ble n Lo.length)=true:=by rfl)
  (hr:gZ0 P σ fn.results.toList svs:=by((repeat(first | exact .nil | refine .data rfl rfl ?_ | refine .data rfl (by((repeat(first | exact trivial | exact rfl | exact⟨_,rfl⟩ | refine And.intro ?_ ?_));first | done | fail)) ?_ | refine .same rfl ?_ | refine .same (gI1 rfl rfl TI.h rfl rfl) ?_ | refine .same (ResV_one rfl rfl TI.h rfl) ?_ | refine .data (gI1 rfl rfl TI.h rfl rfl) (by((repeat(first | exact trivial | exact rfl | exact⟨_,rfl⟩ | refine And.intro ?_ ?_));first | done | fail)) ?_ | refine .data (ResV_one rfl rfl TI.h rfl) (by((repeat(first | exact trivial | exact rfl | exact⟨_,rfl⟩ | refine And.intro ?_ ?_));first | done | fail)) ?_));first | done | fail)):mI P fn Q n .ret σ:=jCv svs Lo hq hL hl hr
end
theorem Spec.nilF{P:Program}{f e z:Nat}{args:List SV}{es:List U}{u2:U}(h:Go.Eng.Spec P f (.sl 0 0::args) [.arr e z 0 []] (fun sv Lo=>∃v,sv=.tup [.sl 0 v,.d u2]∧Lo=[.arr e z v es]))(ha:SV.lts 0 args=true:=by rfl) :
  Go.Eng.Spec P f (.nilsl::args) [] (fun sv Lo=>sv=.tup [.d (.sl z es),.d u2]∧Lo=[]):=by
 refine⟨h.1,fun A S env w vs h1 h2 h3 h4 hH hargs=>?_⟩;have henv:env=[]:=List.eq_nil_of_length_eq_zero hH.len;subst henv;cases vs with
 | nil=>simp [kK] at hargs
 | cons v0 vs=>
   simp only [kK] at hargs;obtain⟨hv0,hargs⟩:=hargs;simp only [SVr] at hv0;subst hv0;have hob:∀S L env,gF3 S L env w (.arr e z 0 []) (.slice none 0 0):=fun _ _ _=>⟨by simp [wY],by simp,[],World.ownsRow_nil w 0 e z,by simp [Rds]⟩
   have hH2:mO { A with L0:=[.arr e z 0 []],env0:=[.slice none 0 0] } S [.arr e z 0 []] [.slice none 0 0] w:=by
    refine⟨rfl,fun i o hv k1 k2=>?_,fun i o hv b k1 k2 k3 k4=>?_,fun i j o o' hv hv' b k1 k2 k3 k4 k5 k6 k7 k8=>?_,hH.sS,hH.sA,hH.frame,hH.size,hH.os,hH.tape,hH.output,Base.refl rfl rfl,hH.glob⟩
    ·cases i with
     | zero=>simp at k1 k2;subst k1;subst k2;exact hob _ _ _
     | succ i=>simp at k1
    ·cases i with
     | zero=>simp at k1 k3;subst k1;subst k3;simp [LO.ft,blk] at k4
     | succ i=>simp at k1
    ·cases i with
     | zero=>simp at k1 k5;subst k1;subst k5;simp [LO.ft,blk] at k7
     | succ i=>simp at k1
   refine(h.2 { A with L0:=[.arr e z 0 []],env0:=[.slice none 0 0] } S [.slice none 0 0] w (.slice none 0 0::vs) h1 h2 rfl rfl hH2 ?_).mono ?_
   ·simp only [kK];refine⟨?_,kK.bare _ _ ha hargs _ _⟩;simp only [SVr];exact⟨.slice none 0 0,.arr e z 0 [],rfl,rfl,Nat.le_refl _,rfl,fun _=>rfl⟩
   ·rintro ex w' ⟨r,sv,S',L',env',hr,⟨v,rfl,rfl⟩,hH',hsv⟩;obtain⟨hv,henv'⟩:∃hv,env'=[hv]:=by
     have:=hH'.len
     match env',this with
     | [hv],_=>exact⟨hv,rfl⟩
    subst henv';have hob':=hH'.objs 0 _ hv rfl rfl;have hex:∀b,blk hv=some b→¬S' b∧(A.E b∨A.w0.heap.size≤b)∧b < w'.heap.size:=fun b hb=>hH'.excl 0 _ hv b rfl rfl rfl hb;simp only [SVr] at hsv;obtain⟨xs,rfl,hxs⟩:=hsv
    match xs,hxs with
    | [x0,x1],hxs=>
      simp only [kK] at hxs;obtain⟨hx0,hx1,_⟩:=hxs;simp only [SVr] at hx0;obtain⟨hv1,o1,q1,q2,q3,q4,q5⟩:=hx0;simp at q1 q2;subst q1;subst q2;obtain rfl:=q5 rfl;refine⟨_,_,fun b=>S' b∨blk x0=some b,[],[],hr,⟨rfl,rfl⟩,⟨rfl,by simp,by simp,by simp,fun b hb=>hb.elim (hH'.sS b) (fun hb=>(hex b hb).2.2),fun b hb=>hb.elim (hH'.sA b) (fun hb=>.inr (hex b hb).2.1),hH'.frame,hH'.size,hH'.os,hH'.tape,hH'.output,Base.nil h3,hH'.glob⟩,?_⟩;simp only [SVr];refine⟨[x0,x1],rfl,?_⟩;simp only [kK];refine⟨?_,?_,trivial⟩
      ·simp only [SVr];obtain⟨hbg,hz,ys,m1,m2⟩:=hob';have hmono:Rds (fun b=>S' b∨blk x0=some b) w' es ys:=Rds.mono (fun b hb _=>.inl hb) (fun _ _ _=>rfl) _ _ m2;rcases m1.2 with ⟨rfl,h0⟩ | ⟨g,cap,cur,rfl,hg0,hg,hnc,hcm,hcs,htake⟩
       ·have:es=[]:=List.eq_nil_of_length_eq_zero h0
        subst this;exact⟨[_],rfl,by simp only [Rd];exact⟨hbg,none,0,rfl,.inl trivial⟩⟩
       ·refine⟨[.slice (some ⟨g,0,none⟩) es.length cap],rfl,?_⟩;simp only [Rd];exact⟨hbg,_,cap - es.length,by rw [Nat.add_sub_cancel' hnc],.inr ⟨g,0,rfl,.inr rfl,RdE.of_Rds es ys 0 hz hmono (gNb m1 rfl)⟩⟩
      ·simp only [SVr] at hx1 ⊢;exact RdV.mono (fun b hb _=>.inl hb) (fun _ _ _=>rfl) hx1
end Go.Eng
