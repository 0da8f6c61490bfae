import Derived.Test.YtfaplndgbgoaaaaGreatDoorEng50
import Derived.Lib.SliceRun
set_option linter.unusedVariables false
set_option linter.unusedSimpArgs false
namespace Go.Eng
open Go Go.RowKit
theorem Rds.split{S:Nat→Prop}{w:World}:∀(us:List U) (vs:List U) (cs:List Value),Rds S w (us++vs) cs→∃c1 c2,cs=c1++c2∧Rds S w us c1∧Rds S w vs c2
 | [],vs,cs,h=>⟨[],cs,rfl,by simp only [Rds],h⟩
 | u::us,vs,cs,h=>by
   simp only [List.cons_append,Rds] at h
   obtain⟨c1,c2,rfl,h1,h2⟩:=h
   obtain⟨d1,d2,rfl,h3,h4⟩:=Rds.split us vs c2 h2
   exact⟨c1++d1,d2,by rw [List.append_assoc],by simp only [Rds];exact⟨c1,d1,rfl,h1,h3⟩,h4⟩
theorem gQ2{w:World}{S:Nat→Prop}{L:List LO}{env:List Value}{e z ver:Nat}{es:List U}{hv:Value}(h:gE5 S L env w (.arr e z ver es) hv):(∀S' L' env',S'=S→gE5 S' L' env' w (.mix e z ver [] es) hv)∧∀b,(LO.mix e z ver [] es).ft w hv b↔(LO.arr e z ver es).ft w hv b:=by
 obtain⟨h1,h2,xs,h3,h4⟩:=h
 have hf:=gQp (fs:=[]) (n:=es.length) (by simp) (Nat.zero_le _) h3
 constructor
 ·rintro S' L' env' rfl
  refine⟨by simpa using h1,by simpa using h2,⟨xs,by simpa using h3,by simp [Trs],by simpa using h4⟩,?_⟩
  rcases hf with ⟨_,_,_,hf⟩ | ⟨g,cap,_,hf⟩
  ·rw [hf];exact List.nodup_nil
  ·rw [hf];simp [U.fps]
 ·intro b
  simp only [LO.ft]
  rcases hf with ⟨rfl,_,_,hf⟩ | ⟨g,cap,rfl,hf⟩
  ·rw [hf];simp [blk]
  ·rw [hf];simp [blk,U.fps,eq_comm]
theorem gXv{w:World}{S:Nat→Prop}{L:List LO}{env:List Value}{e z ver:Nat}{fs:List U}{hv:Value}(h:gE5 S L env w (.mix e z ver fs []) hv):∀S' L' env',gE5 S' L' env' w (.own e z ver fs) hv:=by
 intro S' L' env'
 obtain⟨h1,h2,⟨xs,h3,h4,_⟩,h5⟩:=h
 simp only [List.append_nil] at h1 h2 h3
 exact⟨h1,h2,⟨xs,h3,by rw [List.take_of_length_le (by rw [h3.1];exact Nat.le_refl _)] at h4;exact h4⟩,h5⟩
section
variable {P:Program} {A:Amb} {σ:St} {K:St→Prop} {Q:Exit→St→Prop}
variable {ops:Array Oper} {rest:List Oper} {t:Nat} {ty:TypeId} {pos:String} {af:Array Edge} {x y:Operand} {sv:SV} {dst:Option Nat} {g:Option (Nat × Bool)}
theorem mH.toMix{a:Act}{w:World}{fr:List (Nat × SV)}{L:List LO}{N i e z ver:Nat}{es:List U}(hL:L[i]? =some (.arr e z ver es))(h:mH A ⟨fr,L,N⟩ a w):mH A ⟨fr,L.set i (.mix e z ver [] es),N⟩ a w:=by
 obtain⟨S,env,hH,hf,hN,hd⟩:=h
 have hi:=(List.getElem?_eq_some_iff.1 hL).1
 obtain⟨hv,hhv⟩:∃hv,env[i]? =some hv:=⟨_,List.getElem?_eq_getElem (by rw [hH.len];exact hi)⟩
 have hob:=hH.objs i _ hv hL hhv
 obtain⟨hH',C⟩:mQ A S (L.set i (.mix e z ver [] es)) env w∧Carry S L env w S (L.set i (.mix e z ver [] es)) env w:=by
  refine hH.eat [] i _ hv (by rw [List.length_set];exact hH.len) (fun j hj=>?_) (List.getElem?_set_self hi) (fun _ _=>rfl) hhv (fun _ _ _=>rfl) (fun o hv1 h1 h2=>?_) (Nat.le_refl _) rfl rfl rfl (fun k hk=>?_) (fun C=>(gQ2 hob).1 _ _ _ rfl)
  ·rw [List.getElem?_set_ne (fun e=>hj e.symm)]
   simp
  ·rw [hL] at h1;rw [hhv] at h2
   cases h1;cases h2
   exact⟨Nat.le_refl _,fun _=>rfl,fun _ _=>rfl⟩
  ·have:=((gQ2 hob).2 k).1 hk
   exact⟨(hH.excl i _ hv k hL rfl hhv this).2.2,.inr ⟨i,_,hv,.inl rfl,hL,rfl,hhv,this⟩⟩
 exact⟨S,env,hH',fun t=>SVr.carry C _ _ (hf t),hN,hd⟩
theorem mH.ofMix{a:Act}{w:World}{fr:List (Nat × SV)}{L:List LO}{N i e z ver:Nat}{fs:List U}(hL:L[i]? =some (.mix e z ver fs []))(h:mH A ⟨fr,L,N⟩ a w):mH A ⟨fr,L.set i (.own e z ver fs),N⟩ a w:=by
 obtain⟨S,env,hH,hf,hN,hd⟩:=h
 have hi:=(List.getElem?_eq_some_iff.1 hL).1
 obtain⟨hv,hhv⟩:∃hv,env[i]? =some hv:=⟨_,List.getElem?_eq_getElem (by rw [hH.len];exact hi)⟩
 have hob:=hH.objs i _ hv hL hhv
 obtain⟨hH',C⟩:mQ A S (L.set i (.own e z ver fs)) env w∧Carry S L env w S (L.set i (.own e z ver fs)) env w:=by
  refine hH.eat [] i _ hv (by rw [List.length_set];exact hH.len) (fun j hj=>?_) (List.getElem?_set_self hi) (fun _ _=>rfl) hhv (fun _ _ _=>rfl) (fun o hv1 h1 h2=>?_) (Nat.le_refl _) rfl rfl rfl (fun k hk=>?_) (fun C=>gXv hob _ _ _)
  ·rw [List.getElem?_set_ne (fun e=>hj e.symm)]
   simp
  ·rw [hL] at h1;rw [hhv] at h2
   cases h1;cases h2
   exact⟨Nat.le_refl _,fun _=>rfl,fun _ _=>rfl⟩
  ·exact⟨(hH.excl i _ hv k hL rfl hhv hk).2.2,.inr ⟨i,_,hv,.inl rfl,hL,rfl,hhv,hk⟩⟩
 exact⟨S,env,hH',fun t=>SVr.carry C _ _ (hf t),hN,hd⟩
theorem hEg{c:Code}{fr:List (Nat × SV)}{L L':List LO}{N e z ver:Nat}{es:List U}(i:Nat)(h:V P A c ⟨fr,L',N⟩ Q)(hL:L[i]? =some (.arr e z ver es):=by rfl)(hL':St1 (.mix e z ver [] es) i L L':=by repeat constructor):V P A c ⟨fr,L,N⟩ Q:=by
 have:=hL'.spec
 subst this
 exact fun a w hr=>h a w (hr.toMix hL)
theorem hEh{c:Code}{fr:List (Nat × SV)}{L L':List LO}{N e z ver:Nat}{fs:List U}(i:Nat)(h:V P A c ⟨fr,L',N⟩ Q)(hL:L[i]? =some (.mix e z ver fs []):=by rfl)(hL':St1 (.own e z ver fs) i L L':=by repeat constructor):V P A c ⟨fr,L,N⟩ Q:=by
 have:=hL'.spec
 subst this
 exact fun a w hr=>h a w (hr.ofMix hL)
theorem gXw{T e:TypeId}{i ver e' z:Nat}{fs es:List U}{T':TypeId}(hx:σ.ev x=.sl i ver)(hL:σ.L[i]? =some (.mix e' z ver fs es)) [hT:TE P T e] :
  Quiet P A σ ⟨dst,.call { callee:=.builtin .len,args:=#[x],argTypes:=#[T] },T',pos,af,g⟩ (.d (.i .i64 (fs++es).length)):=Quiet.pure fun S env a w hH ho=>by
 have h1:=ho x (by simp [Op.operands,Call.operands])
 rw [hx] at h1
 simp only [SVr] at h1
 obtain⟨hv,o,k1,k2,k3,k5,k4⟩:=h1
 rw [hL] at k2
 obtain rfl:=Option.some.inj k2
 have k6:=k4 rfl
 obtain⟨_,_,⟨xs,h3,_,_⟩,_⟩:=hH.objs i _ hv hL k1
 have hu:P.underlying T=some (.slice e):=wO TE.h
 rcases h3.2 with ⟨r1,r2⟩ | ⟨b,cap,cur,r1,_⟩
 ·rw [r2]
  exact⟨.int .i64 0,by simp [execOp,resolve,invoke,builtin,Builtin.len_,k6,r1,run_underlying hu,goInt],SVr.int.2 rfl⟩
 ·exact⟨.int .i64 (fs++es).length,by simp [execOp,resolve,invoke,builtin,Builtin.len_,k6,r1,run_underlying hu,goInt],SVr.int.2 rfl⟩
theorem gSp {T e:TypeId} {i ver z:Nat} {fs es:List U} {k:IntKind} {n:Int} {gg:Bool} {bs:Nat} (hx:σ.ev x=.sl i ver) (hL:σ.L[i]? =some (.mix e z ver fs es)) (hy:σ.ev y=.d (.i k n)) (hT:tyE P T=some e) (he:tyI P e=some (gg,z,bs))
  (hn:0≤n) (hn2:n < (fs++es).length):Quiet P A σ ⟨dst,.indexAddr T x y,ty,pos,af,g⟩ (.ep i ver z n.toNat 0):=Quiet.pure fun S env a w hH ho=>by
 have h1:=ho x (by simp [Op.operands])
 have h2:=ho y (by simp [Op.operands])
 rw [hy,SVr.int] at h2
 rw [hx] at h1
 simp only [SVr] at h1
 obtain⟨hv,o,k1,k2,k3,k5,k4⟩:=h1
 rw [hL] at k2
 obtain rfl:=Option.some.inj k2
 have k6:=k4 rfl
 obtain⟨_,_,⟨xs,h3,_,_⟩,_⟩:=hH.objs i _ hv hL k1
 rcases h3.2 with ⟨_,r2⟩ | ⟨b,cap,cur,r1,_⟩
 ·rw [r2] at hn2;omega
 ·refine⟨.pointer (some ⟨b,n.toNat*z,none⟩),?_,?_⟩
  ·simp [execOp,Instr.indexAt,h2,k6,r1,asIntOf,run_underlying (wO hT),run_sizeOf he,hn,(by simpa using hn2:n < (fs.length:Int)+es.length),Addr.add_lit]
  ·simp only [SVr]
   exact⟨hv,_,k1,hL,Nat.le_refl _,rfl,fun _=>⟨b,by rw [r1];rfl,rfl⟩⟩
theorem hGx{T e:TypeId}{i ver z:Nat}{fs es:List U}{gg:Bool}{bs:Nat}(k:Nat)(hn2:k < (fs++es).length)(hx:σ.ev x=.sl i ver:=by rfl)(hL:σ.L[i]? =some (.mix e z ver fs es):=by rfl)(hy:σ.ev y=.d (.i .i64 (k:Int)):=by rfl) [TE P T e] [TI P e gg z bs] :
  Quiet P A σ ⟨dst,.indexAddr T x y,ty,pos,af,g⟩ (.ep i ver z k 0):=by
 have:=gSp (P:=P) (A:=A) (dst:=dst) (ty:=ty) (pos:=pos) (af:=af) (g:=g) hx hL hy (TE.h:tyE P T=some e) (TI.h:tyI P e=some (gg,z,bs)) (Int.natCast_nonneg k) (by omega)
 simpa using this
theorem gM4{T:TypeId}{i ver z k off f fo:Nat}{e' z':Nat}{fs es:List U}(hx:σ.ev x=.ep i ver z k off)(hL:σ.L[i]? =some (.mix e' z' ver fs es))(hF:tyF P T f=some fo) :
  Quiet P A σ ⟨dst,.fieldAddr T x f,ty,pos,af,g⟩ (.ep i ver z k (off+fo)):=Quiet.pure fun S env a w hH ho=>by
 have h1:=ho x (by simp [Op.operands])
 rw [hx] at h1
 simp only [SVr] at h1
 obtain⟨hv,o,k1,k2,k3,k5,k4⟩:=h1
 rw [hL] at k2
 obtain rfl:=Option.some.inj k2
 obtain⟨b,e1,e2⟩:=k4 rfl
 refine⟨.pointer (some ⟨b,k*z+off+fo,none⟩),by simp only [execOp,e2,Sem.run_bind,gSq hF,Result.andThen_ok,Sem.run_pure],?_⟩
 simp only [SVr]
 exact⟨hv,_,k1,hL,Nat.le_refl _,rfl,fun _=>⟨b,e1,by rw [Nat.add_assoc]⟩⟩
theorem gVl{T:TypeId}{i ver z k off:Nat}{e':Nat}{fs es pre:List U}{u:U}{gg:Bool}{zu bs:Nat}(hx:σ.ev x=.ep i ver z k off)(hL:σ.L[i]? =some (.mix e' z ver fs (.st (pre++[u])::es)))(hk:fs.length=k)(hoff:U.szs pre=off)(hT:tyI P T=some (gg,zu,bs))(hzu:u.sz=zu)(hg:u.isSt=gg) :
  Quiet P A σ ⟨dst,.load T x,ty,pos,af,g⟩ (.d u):=Quiet.pure fun S env a w hH ho=>by
 have h1:=ho x (by simp [Op.operands])
 rw [hx] at h1
 simp only [SVr] at h1
 obtain⟨hv,o,k1,k2,k3,k5,k4⟩:=h1
 rw [hL] at k2
 obtain rfl:=Option.some.inj k2
 obtain⟨b,e1,e2⟩:=k4 rfl
 obtain⟨_,hz,⟨xs,h3,_,h4⟩,_⟩:=hH.objs i _ hv hL k1
 have hat:=gM6 h3 e1
 subst hk;subst hoff;subst hzu;subst hg
 simp only [Rds] at h4
 obtain⟨c1,c2,hxs,h5,_⟩:=h4
 simp only [Rd] at h5
 obtain⟨p1,p2,rfl,h6,h7⟩:=Rds.split pre [u] c1 h5
 simp only [Rds] at h7
 obtain⟨q1,q2,rfl,h8,rfl⟩:=h7
 have hp1:=Rds.length _ _ h6
 have hq1:=Rd.length _ _ h8
 have hcell:∀j,j < q1.length→xs[fs.length*z+U.szs pre+j]? =q1[j]? :=by
  intro j hj
  have:(xs.drop (fs.length*z))[U.szs pre+j]? =q1[j]? :=by
   rw [hxs,List.append_nil,List.append_assoc,List.getElem?_append_right (by omega),hp1,Nat.add_sub_cancel_left,List.getElem?_append_left hj]
  rw [←this,List.getElem?_drop,Nat.add_assoc]
 refine⟨val u q1,?_,?_⟩
 ·obtain⟨row,e,fz,r1,r2⟩:=hat
  have:=gBp hT w b (fs.length*z+U.szs pre) q1 hq1 ⟨row,e,fz,r1,fun j hj=>?_⟩ (fun h=>gAj h)
  ·simp [execOp,Instr.loadAt,e2,Instr.sureAddr,this,val]
  ·rw [←hcell j hj]
   have hlt:fs.length*z+U.szs pre+j < xs.length:=by
    have:=hcell j hj
    rw [List.getElem?_eq_getElem hj] at this
    exact(List.getElem?_eq_some_iff.1 this).1
   have:=r2 (fs.length*z+U.szs pre+j) hlt
   simpa using this
 ·simp only [SVr]
  exact⟨_,rfl,h8⟩
theorem gXx {T:TypeId} {gg:Bool} {i ver z k off e bs zu:Nat} {fs es pre:List U} {old u:U} {js:List Nat} {fr:List (Nat × SV)} {L L':List LO} {N:Nat} (hx:(St.mk fr L N).ev x=.ep i ver z k off) (hL:L[i]? =some (.mix e z ver fs (.st (pre++[old])::es))) (hk:fs.length=k) (hoff:U.szs pre=off) (hpre:U.noSls pre=true)
  (hy:OV L ((St.mk fr L N).ev y) u js) (hjs:(decide js.Nodup && !js.contains i)=true) (hT:tyI P T=some (gg,zu,bs)) (hu:u.sz=zu) (hou:old.sz=zu) (hL':(kill js 0 L).set i (.mix e z ver (fs++[.st (pre++[u])]) es)=L')
  (h:VO P A ops rest ⟨fr,L',N⟩ K) :
  VO P A ops (⟨none,.store T x y,ty,pos,af,none⟩::rest) ⟨fr,L,N⟩ K:=by
 subst hL'
 simp only [Bool.and_eq_true,decide_eq_true_eq,Bool.not_eq_true'] at hjs
 refine gCv rfl (fun S env a w hH hf hN hd=>?_) h
 have h1:=mH.ev hf hH x
 obtain⟨cs,c1,hcells,c2,c3,c4,c5⟩:=hy.r hH hjs.1 (mH.ev hf hH y)
 rw [hx] at h1
 simp only [SVr] at h1
 obtain⟨hv,o,k1,k2,k3,k5,k4⟩:=h1
 rw [hL] at k2
 obtain rfl:=Option.some.inj k2
 obtain⟨b,e1,e2⟩:=k4 rfl
 have hob:=hH.objs i _ hv hL k1
 obtain⟨hbg,hz,⟨xs,m1,m2,m3⟩,hnd⟩:=hob
 have hcl:=Tr.len _ _ c2
 rw [hu] at hcl
 have hzf:∀v∈fs,v.sz=z:=fun v hv'=>hz v (by simp [hv'])
 have hfp:=gQp hzf (by simp) m1
 rcases hfp with ⟨rfl,_⟩ | ⟨g,cap,rfl,hfp⟩
 ·simp [blk] at e1
 simp only [blk,Option.some.injEq] at e1
 subst e1
 rcases m1.2 with ⟨hnil,_⟩ | ⟨g',cap',cur,hveq,hg0,hg,hnc,hcm,hcs,htake⟩
 ·cases hnil
 cases hveq
 rw [hfp] at hnd
 simp only [Rds] at m3
 obtain⟨d1,d2,hxs,m4,m5⟩:=m3
 simp only [Rd] at m4
 obtain⟨p1,p2,rfl,m6,m7⟩:=Rds.split pre [old] d1 m4
 have hp1:=Rds.length _ _ m6
 have hp2:=Rds.length _ _ m7
 have hd2:=Rds.length _ _ m5
 simp only [U.szs,Nat.add_zero,hou] at hp2
 have hzz:(U.st (pre++[old])).sz=z:=hz _ (by simp)
 have hszapp:∀(us vs:List U),U.szs (us++vs)=U.szs us+U.szs vs:=by
  intro us vs
  induction us with
  | nil=>simp [U.szs]
  | cons a us ih=>simp only [List.cons_append,U.szs,ih];omega
 have hzo:z=off+zu:=by
  simp only [U.sz,hszapp,U.szs,hou,hoff] at hzz
  omega
 have hX:(xs.take (fs.length*z)).length=fs.length*z:=by
  rw [List.length_take,m1.1]
  exact Nat.min_eq_left (Nat.mul_le_mul_right _ (by simp))
 have hxs2:xs=xs.take (fs.length*z)++(p1++(p2++d2)):=by
  conv=>lhs;rw [←List.take_append_drop (fs.length*z) xs,hxs]
  simp
 have hcur:cur.toList=xs.take (fs.length*z)++(p1++(p2++(d2++cur.toList.drop ((fs++U.st (pre++[old])::es).length*z)))):=by
  conv=>lhs;rw [←List.take_append_drop ((fs++U.st (pre++[old])::es).length*z) cur.toList,htake,hxs2]
  simp
 generalize hX1:xs.take (fs.length*z)=X1 at *
 generalize hR1:cur.toList.drop ((fs++U.st (pre++[old])::es).length*z)=R1 at *
 have hk':k*z=X1.length:=by rw [hX,hk]
 have hst:=run_storeCells_at P g (k*z+off) e cs 0 cur w hg (by
  have:cur.toList.length=X1.length+(p1.length+(p2.length+(d2.length+R1.length))):=by rw [hcur];simp
  simp only [Array.length_toList] at this
  omega) c5
 have hnew:cur.toList.take (k*z+off)++cs++cur.toList.drop (k*z+off+cs.length)=X1++(p1++(cs++(d2++R1))):=by
  rw [hcur,←List.append_assoc X1 p1,List.take_left' (by rw [List.length_append];omega),←List.append_assoc (X1++p1) p2,List.drop_left' (by simp only [List.length_append];omega)]
  simp
 rw [Nat.add_zero,hnew] at hst
 have hrow:=setRow_heap w g cur ((X1++(p1++(cs++(d2++R1)))).toArray) e (0,0) hg
 have hoth:∀b',b'≠g→(w.setRow g (X1++(p1++(cs++(d2++R1)))).toArray).heap[b']? =w.heap[b']? :=fun b' hb'=>setRow_other w g b' _ hb'
 obtain⟨q1,q2⟩:=List.nodup_cons.1 hnd
 have hap:∀b'∈u.fp w cs,b'≠g∧b'∉U.fps w fs X1:=by
  intro b' hb'
  obtain⟨j,hj,ho⟩:=c4 b' hb'
  have hnot:¬ (LO.mix e z ver fs (U.st (pre++[old])::es)).ft w (.slice (some ⟨g,0,none⟩) (fs++U.st (pre++[old])::es).length cap) b':=by
   intro hft
   have:=ho.inj hH ⟨_,_,hL,rfl,k1,hft⟩
   subst this
   rw [gAg hj] at hjs
   cases hjs.2
  simp only [LO.ft] at hnot
  rw [hfp] at hnot
  simp only [List.mem_cons,not_or] at hnot
  exact hnot
 obtain⟨t1,t2⟩:=Trs.loc _ _ m2 (fun b' hb'=>hoth b' (fun e=>q1 (e▸hb')))
 obtain⟨t5,t6⟩:=Tr.loc _ _ c2 (fun b' hb'=>hoth b' (hap b' hb').1)
 obtain⟨s1,s2⟩:=Rds.tr (w':=w.setRow g (X1++(p1++(cs++(d2++R1)))).toArray) _ _ hpre m6
 have su:Trs (w.setRow g (X1++(p1++(cs++(d2++R1)))).toArray) [u] cs∧U.fps (w.setRow g (X1++(p1++(cs++(d2++R1)))).toArray) [u] cs=u.fp w cs:=by
  simp only [Trs,U.fps]
  rw [List.take_of_length_le (by omega),List.drop_of_length_le (by omega),t6]
  exact⟨⟨t5,rfl⟩,by simp⟩
 obtain⟨v1,v2⟩:=Trs.append _ _ _ _ s1 su.1
 rw [s2,su.2,List.nil_append] at v2
 have hel:Trs (w.setRow g (X1++(p1++(cs++(d2++R1)))).toArray) [.st (pre++[u])] (p1++cs)∧U.fps (w.setRow g (X1++(p1++(cs++(d2++R1)))).toArray) [.st (pre++[u])] (p1++cs)=u.fp w cs:=by
  have hl:(p1++cs).length≤(U.st (pre++[u])).sz:=by
   simp only [U.sz,hszapp,U.szs,List.length_append]
   omega
  simp only [Trs,U.fps]
  rw [List.take_of_length_le hl,List.drop_of_length_le hl]
  simp only [Tr,U.fp]
  exact⟨⟨v1,trivial⟩,by rw [v2];simp⟩
 obtain⟨r1,r2⟩:=Trs.append _ _ _ _ t1 hel.1
 rw [t2,hel.2] at r2
 have hlenE:(fs++[U.st (pre++[u])]++es).length=(fs++U.st (pre++[old])::es).length:=by simp
 have hz':∀v∈fs++[U.st (pre++[u])]++es,v.sz=z:=by
  intro v hv'
  simp only [List.mem_append,List.mem_singleton] at hv'
  rcases hv' with (hv' | rfl) | hv'
  ·exact hzf v hv'
  ·simp only [U.sz,hszapp,U.szs];omega
  ·exact hz v (by simp [hv'])
 have hf1:(fs++[U.st (pre++[u])]).length*z=(X1++(p1++cs)).length:=by
  simp only [List.length_append,List.length_singleton,Nat.add_mul,Nat.one_mul]
  rw [hk,hk']
  omega
 have hown':(w.setRow g (X1++(p1++(cs++(d2++R1)))).toArray).ownsRow 0 e z (.slice (some ⟨g,0,none⟩) (fs++U.st (pre++[old])::es).length cap) (fs++[U.st (pre++[u])]++es).length (X1++(p1++cs)++d2):=by
  have hxl:(X1++(p1++cs)++d2).length=xs.length:=by
   rw [hxs2];simp only [List.length_append];omega
  refine⟨by rw [hxl,m1.1,hlenE],.inr ⟨g,cap,_,by rw [hlenE],hg0,hrow,by rw [hlenE];exact hnc,hcm,?_,?_⟩⟩
  ·rw [←hcs]
   have:cur.toList.length=X1.length+(p1.length+(p2.length+(d2.length+R1.length))):=by rw [hcur];simp
   simp only [Array.length_toList] at this
   simp only [List.size_toArray,List.length_append]
   omega
  ·rw [hlenE,←m1.1,←hxl]
   show List.take _ (X1++(p1++(cs++(d2++R1))))=_
   rw [show X1++(p1++(cs++(d2++R1)))=X1++(p1++cs)++d2++R1 by simp,List.take_left]
 have hfp':(U.sl z (fs++[U.st (pre++[u])])).fp (w.setRow g (X1++(p1++(cs++(d2++R1)))).toArray) [.slice (some ⟨g,0,none⟩) (fs++U.st (pre++[old])::es).length cap]=g::(U.fps w fs X1++u.fp w cs):=by
  rcases gQp (fs:=fs++[U.st (pre++[u])]) (fun v hv'=>hz' v (by simp only [List.mem_append] at hv' ⊢;exact .inl hv')) (by simp) hown' with ⟨h,_⟩ | ⟨g2,cap2,h,hf2⟩
  ·cases h
  ·injection h with h1 _ _
   injection h1 with h1
   injection h1 with h1
   subst h1
   rw [hf2,hf1,List.take_left,r2]
 have hi:=(List.getElem?_eq_some_iff.1 hL).1
 obtain⟨hH',C⟩:=hH.eat (w':=w.setRow g (X1++(p1++(cs++(d2++R1)))).toArray) js i (.mix e z ver (fs++[U.st (pre++[u])]) es) (.slice (some ⟨g,0,none⟩) (fs++U.st (pre++[old])::es).length cap) (L':=(kill js 0 L).set i (.mix e z ver (fs++[U.st (pre++[u])]) es)) (env':=env)
  (by simp [yI,hH.len]) (fun j hj=>by rw [List.getElem?_set_ne (fun e=>hj e.symm),gIh,Nat.zero_add]) (by rw [List.getElem?_set_self (by rw [yI];exact hi)]) (fun _ _=>rfl) k1
  (fun k' hk' hno=>hoth k' (fun e=>hno _ _ hL k1 ⟨rfl,by simp only [LO.ft];rw [hfp,e];simp⟩))
  (fun o hv h1 h2=>by rw [hL] at h1;cases h1;rw [k1] at h2;cases h2;exact⟨Nat.le_refl _,fun _=>rfl,fun _ _=>rfl⟩)
  (by rw [setRow_size];exact Nat.le_refl _) rfl rfl rfl
  (fun b' hb'=>by
   simp only [LO.ft] at hb'
   rw [hfp'] at hb'
   simp only [List.mem_cons,List.mem_append] at hb'
   have old':∀j,gNx L env w j b'→(j=i∨js.contains j=true)→b' < (w.setRow g (X1++(p1++(cs++(d2++R1)))).toArray).heap.size∧(w.heap.size≤b'∨∃j o hv,(j=i∨js.contains j=true)∧L[j]? =some o∧o.live=true∧env[j]? =some hv∧o.ft w hv b'):=by
    rintro j ⟨o,hv,n1,n2,n3,n4⟩ hj
    exact⟨by rw [setRow_size];exact(hH.excl j o hv b' n1 n2 n3 n4).2.2,.inr ⟨j,o,hv,hj,n1,n2,n3,n4⟩⟩
   have self:b'∈(U.sl z fs).fp w [.slice (some ⟨g,0,none⟩) (fs++U.st (pre++[old])::es).length cap]→gNx L env w i b':=fun hm=>⟨_,_,hL,rfl,k1,hm⟩
   rw [hfp] at self
   rcases hb' with rfl | hb' | hb'
   ·exact old' i (self (by simp)) (.inl rfl)
   ·exact old' i (self (by simp [hb'])) (.inl rfl)
   ·obtain⟨j,hj,ho⟩:=c4 b' hb'
    exact old' j ho (.inr (gAg hj)))
  (fun C=>⟨by rw [hlenE];exact hbg,hz',⟨_,hown',by rw [hf1,List.take_left];exact r1,by rw [hf1,List.drop_left];exact Rds.mono C.hS C.hw _ _ m5⟩,by
   rw [hfp']
   refine List.nodup_cons.2 ⟨?_,List.nodup_append.2 ⟨q2,c3,fun a' ha' b' hb' hab=>(hap b' hb').2 (hab▸ha')⟩⟩
   simp only [List.mem_append,not_or]
   exact⟨q1,fun hm=>(hap g hm).1 rfl⟩⟩)
 refine⟨.skip,_,?_,.inr ⟨rfl,gBd hf hN hd hH' C⟩⟩
 have hsz:(a.eval y).cells.size=zu:=by rw [←hcl,←hcells];simp
 have e2':a.eval x=.pointer (some ⟨g,k*z+off,none⟩):=e2
 simp [execOp,Instr.storeAt,e2',Instr.sureAddr,storeVar,run_sizeOf hT,hsz,hcells,hst]
theorem hA4{T T' e:TypeId}{z:Nat}{us:List U}{fr:List (Nat × SV)}{L:List LO}{N:Nat} [TE P T e](h:∀b:Bool,(b=true→us=[])→VO P A ops rest ⟨(t,.d (.b b))::fr,L,N⟩ K)(hx:(St.mk fr L N).ev x=.d (.sl z us):=by rfl)(ht:Nat.blt t N=true:=by rfl) :
  VO P A ops (⟨some t,.binOp .eql T x (.const (.slice none 0 0)) T',ty,pos,af,none⟩::rest) ⟨fr,L,N⟩ K:=by
 intro R hR a w ⟨S,env,hH,hf,hN,hd⟩
 have h1:=mH.ev hf hH x
 rw [hx,SVr.slice] at h1
 obtain⟨_,base,cap,h1,h2⟩:=h1
 refine wpList_plain rfl fun K' hK'=>?_
 have hT:P.underlying T=some (.slice e):=wO TE.h
 have hrun:(execOp a.eval ⟨some t,.binOp .eql T x (.const (.slice none 0 0)) T',ty,pos,af,none⟩).run P w=.ok (.value (.bool base.isNone)) w:=by
  have h0:a.eval (.const (.slice none 0 0))=.slice none 0 0:=rfl
  simp [execOp,h1,h0,eqGuard,Lib.run_eql_slice_nil w T e base us.length (us.length+cap) 0 0 hT]
 unfold Oper.wp
 rw [hrun]
 refine hK' _ _ (h base.isNone (fun hb=>?_) R hR _ _ (qY (σ:=⟨fr,L,N⟩) hf hN hd ht hH Carry.refl (SVr.bool.2 rfl)))
 rcases h2 with h2 | ⟨b,off,rfl,_⟩
 ·exact h2
 ·cases hb
theorem gXy{w:World}{S:Nat→Prop}{L:List LO}{env:List Value}{e z ver:Nat}{fs:List U}{hv:Value}(h:gE5 S L env w (.own e z ver fs) hv):∀S' L' env',gE5 S' L' env' w (.mix e z ver fs []) hv:=by
 intro S' L' env'
 obtain⟨h1,h2,⟨xs,h3,h4⟩,h5⟩:=h
 have hl:fs.length*z=xs.length:=h3.1.symm
 exact⟨by simpa using h1,by simpa using h2,⟨xs,by simpa using h3,by rw [hl,List.take_length];exact h4,by rw [hl,List.drop_length];simp [Rds]⟩,h5⟩
theorem hA5{c:Code}{fr:List (Nat × SV)}{L L':List LO}{N e z ver:Nat}{fs:List U}(i:Nat)(h:V P A c ⟨fr,L',N⟩ Q)(hL:L[i]? =some (.own e z ver fs):=by rfl)(hL':St1 (.mix e z ver fs []) i L L':=by repeat constructor):V P A c ⟨fr,L,N⟩ Q:=by
 have:=hL'.spec
 subst this
 intro a w ⟨S,env,hH,hf,hN,hd⟩
 refine h a w ?_
 have hi:=(List.getElem?_eq_some_iff.1 hL).1
 obtain⟨hv,hhv⟩:∃hv,env[i]? =some hv:=⟨_,List.getElem?_eq_getElem (by rw [hH.len];exact hi)⟩
 have hob:=hH.objs i _ hv hL hhv
 obtain⟨hH',C⟩:mQ A S (L.set i (.mix e z ver fs [])) env w∧Carry S L env w S (L.set i (.mix e z ver fs [])) env w:=by
  refine hH.eat [] i _ hv (by rw [List.length_set];exact hH.len) (fun j hj=>?_) (List.getElem?_set_self hi) (fun _ _=>rfl) hhv (fun _ _ _=>rfl) (fun o hv1 h1 h2=>?_) (Nat.le_refl _) rfl rfl rfl (fun k hk=>?_) (fun C=>gXy hob _ _ _)
  ·rw [List.getElem?_set_ne (fun e=>hj e.symm)]
   simp
  ·rw [hL] at h1;rw [hhv] at h2
   cases h1;cases h2
   exact⟨Nat.le_refl _,fun _=>rfl,fun _ _=>rfl⟩
  ·exact⟨(hH.excl i _ hv k hL rfl hhv hk).2.2,.inr ⟨i,_,hv,.inl rfl,hL,rfl,hhv,hk⟩⟩
 exact⟨S,env,hH',fun t=>SVr.carry C _ _ (hf t),hN,hd⟩
end
section
variable {P:Program} {A:Amb} {ops:Array Oper} {K:St→Prop} {r:List (Nat × Bool)} {pf:PF} {fr:List (Nat × SV)} {L L1 L':List LO} {N i t m:Nat}
variable {ty:TypeId} {pos:String} {af:Array Edge} {x y:Operand} {T:TypeId}
theorem hCo {α:Type} {en:α→U} {es:List α→List U} {z:Nat} [E:Enc α en es z] {e bs ver e':Nat} {gg:Bool} {l:List α} (k:Nat) (hk:k < l.length) [TE P T e] [TI P e gg z bs] (h:VY P A ops K r pf ⟨(t,.ep m ver z k 0)::fr,L,N⟩)
  (hi:ops[i]? =some ⟨some t,.indexAddr T x y,ty,pos,af,none⟩:=by rfl) (hx:(St.mk fr L N).ev x=.sl m ver:=by rfl) (hL:L[m]? =some (.own e' z ver (es l)):=by rfl) (hy:(St.mk fr L N).ev y=.d (.i .i64 (k:Int)):=by rfl) (ht:Nat.blt t N=true:=by rfl)
  (hp:yG ops i L pf:=by(repeat(first | exact yG.nil | (apply yG.keep;focus ((repeat constructor);done)) | (apply yG.dep;focus kernel_rfl)))):VY P A ops K ((i,false)::r) pf ⟨fr,L,N⟩:=
 gGd hi (fun fr' he' K' hK=>gA6 (hGs (j:=m) k hk (by rw [he' x (by simp [Op.operands])];exact hx) hL (by rw [he' y (by simp [Op.operands])];exact hy)) (gDq hK) ht) hp h
theorem hGy {α:Type} {en:α→U} {es:List α→List U} {z:Nat} [E:Enc α en es z] {e bs ver k:Nat} {gg:Bool} {l:List α} (a:α) {js:List Nat} (hk:k < l.length) [TI P T gg z bs] (h:VY P A ops K r pf ⟨fr,L',N⟩)
  (hi:ops[i]? =some ⟨none,.store T x y,ty,pos,af,none⟩:=by rfl) (hx:(St.mk fr L N).ev x=.ep m ver z k 0:=by rfl) (hL:L[m]? =some (.own e z ver (es l)):=by rfl)
  (hy:OV L ((St.mk fr L N).ev y) (en a) js:=by((repeat constructor);first | done | fail)) (hjs:(decide js.Nodup && !js.contains m)=true:=by decide) (hk1:KR js L L1:=by repeat constructor) (hL':St1 (.own e z ver (es (l.set k a))) m L1 L':=by repeat constructor)
  (hp:yG ops i L' pf:=by(repeat(first | exact yG.nil | (apply yG.keep;focus ((repeat constructor);done)) | (apply yG.dep;focus kernel_rfl)))):VY P A ops K ((i,false)::r) pf ⟨fr,L,N⟩:=by
 rw [Enc.set (es:=es)] at hL'
 exact gGd (sv:=.junk) hi (fun fr' he' K' hK=>gTs (by rw [he' x (by simp [Op.operands])];exact hx) hL (by rw [he' y (by simp [Op.operands])];exact hy) hjs TI.h (Enc.hz a) (by rw [Enc.len];exact hk) hk1 hL' (gDq hK)) hp h
theorem mU {op:Op} {sv:SV} (hv:VY P A ops K r pf ⟨(t,sv)::fr,L,N⟩) (hi:ops[i]? =some ⟨some t,op,ty,pos,af,none⟩:=by rfl) (h:QF P ops ⟨some t,op,ty,pos,af,none⟩ ⟨fr,L,N⟩ t sv:=by(repeat(first | exact Rng.mk (by omega) (by omega) | constructor));first | done | fail)
  (hp:yG ops i L pf:=by(repeat(first | exact yG.nil | (apply yG.keep;focus ((repeat constructor);done)) | (apply yG.dep;focus kernel_rfl)))):VY P A ops K ((i,false)::r) pf ⟨fr,L,N⟩:=by
 refine gGd hi (fun fr' he' K' hK=>?_) hp hv
 obtain⟨h1,_,h3 | h3⟩:=h.pst (A:=A)
 ·exact hFt (h3.2 fr' L he' (gMu.refl _)) (h1 t rfl) (gDq hK)
 ·exact absurd h3.1 (by simp [Gd])
end
end Go.Eng
set_option linter.unusedVariables false
set_option linter.unusedSimpArgs false
namespace Go.Eng
open Go Go.RowKit
section
variable {P:Program} {A:Amb} {σ:St} {K:St→Prop} {Q:Exit→St→Prop}
variable {ops:Array Oper} {rest:List Oper} {t:Nat} {ty:TypeId} {pos:String} {af:Array Edge} {x y:Operand} {sv:SV} {dst:Option Nat} {g:Option (Nat × Bool)}
end
section
variable {P:Program} {A:Amb} {Q:Exit→St→Prop} {c:Code}
end
theorem VDs.same{σ σ':St}(hL:σ'.L=σ.L){l:List Operand}{us:List U}(h:VDs σ l us):(∀x∈l,σ'.ev x=σ.ev x)→VDs σ' l us:=by
 induction h with
 | nil=>exact fun _=>.nil
 | @cons x l u us h h2 ih=>exact fun he=>.cons (by rw [hL,he x (by simp)];exact h) (ih fun y hy=>he y (by simp [hy]))
section
variable {P:Program} {A:Amb} {ops:Array Oper} {K:St→Prop} {r:List (Nat × Bool)} {pf:PF} {fr:List (Nat × SV)} {L L1 L':List LO} {N i t m:Nat}
variable {ty:TypeId} {pos:String} {af:Array Edge} {x y:Operand} {T:TypeId}
theorem pY {e z bs n:Nat} {gg:Bool} [TE P T e] [TI P e gg z bs] {zs:List Value} [TZ P e zs] {us:List U} {ps:Array (Nat × Operand)} (h:VY P A ops K r pf ⟨(t,.sl m 0)::fr,L',N⟩) (hi:ops[i]? =some ⟨some t,.buildSlice T n ps,ty,pos,af,none⟩:=by rfl) (hps:ps.toList=((ps.toList.map Prod.snd).zipIdx 0).map (fun p=>(p.2,p.1)):=by rfl)
  (hy:VDs ⟨fr,L,N⟩ (ps.toList.map Prod.snd) us:=by(repeat(first | exact .nil | refine .cons (by((repeat(first | exact trivial | exact rfl | exact⟨_,rfl⟩ | refine And.intro ?_ ?_));first | done | fail)) ?_))) (hu:(us.all fun u=>u.sz==z)=true:=by rfl) (hn:((ps.toList.map Prod.snd).length==n && Nat.blt 0 n)=true:=by rfl)
  (hz:(Nat.blt 0 z && Nat.ble (n*z) 16777216 && zs.length==z)=true:=by rfl) (ht:Nat.blt t N=true:=by rfl) (hL':Sn (.arr e z 0 us) L m L':=by repeat constructor)
  (hp:yG ops i L' pf:=by(repeat(first | exact yG.nil | (apply yG.keep;focus ((repeat constructor);done)) | (apply yG.dep;focus kernel_rfl)))):VY P A ops K ((i,false)::r) pf ⟨fr,L,N⟩:=
 gGd hi (fun fr' he' K' hK=>gM3 (gDq hK) hps (VDs.same (σ:=⟨fr,L,N⟩) (σ':=⟨fr',L,N⟩) rfl hy (fun x hx=>he' x (by simpa [Op.operands] using hx))) hu hn hz ht hL') hp h
theorem pV {α:Type} {en:α→U} {es:List α→List U} {z:Nat} [E:Enc α en es z] {l l2:List α} (hg:l.length+l2.length≤4294967296) {e bs ver:Nat} {T':TypeId} {gg:Bool} [TE P T e] [TI P e gg z bs] {zs:List Value} [TZ P e zs]
  (h:VY P A ops K r pf ⟨(t,.sl m (ver+1))::fr,L',N⟩) (hi:ops[i]? =some ⟨some t,.call { callee:=.builtin .append,args:=#[x,y],argTypes:=#[T,T] },T',pos,af,none⟩:=by rfl) (hx:(St.mk fr L N).ev x=.sl m ver:=by rfl) (hL:L[m]? =some (.arr e z ver (es l)):=by rfl) (hs:SrcOf ⟨fr,L,N⟩ z (es l2) ((St.mk fr L N).ev y):=by first | exact⟨_,rfl⟩ | exact⟨rfl,rfl,Enc.all _⟩ | exact rfl)
  (hz:(Nat.blt 0 z && zs.length==z)=true:=by rfl) (hb:Nat.ble bs 32768=true:=by rfl) (ht:Nat.blt t N=true:=by rfl) (hL':L.set m (.arr e z (ver+1) (es (l++l2)))=L':=by rfl)
  (hp:yG ops i L' pf:=by(repeat(first | exact yG.nil | (apply yG.keep;focus ((repeat constructor);done)) | (apply yG.dep;focus kernel_rfl)))):VY P A ops K ((i,false)::r) pf ⟨fr,L,N⟩:=
 gGd hi (fun fr' he' K' hK=>gBf (l:=l) (r:=l2) hg (gDq hK) (by rw [he' x (by simp [Op.operands,Call.operands])];exact hx) hL (by rw [he' y (by simp [Op.operands,Call.operands])];exact hs) hz hb ht hL') hp h
end
section
variable {P:Program} {A:Amb} {ops:Array Oper} {K:St→Prop} {r:List (Nat × Bool)} {pf:PF} {o:Oper} {fr:List (Nat × SV)} {L L1 L':List LO} {N i t j:Nat} {sv:SV}
theorem mH.adoptA{a:Act}{w:World}{cs cs':List SV}{e z:Nat}(hL:L[j]? =some (.box cs))(k:Nat)(hc:cs[k]? =some .nilsl)(hcs:cs.set k (.sl L.length 0)=cs')(h:mH A ⟨fr,L,N⟩ a w):mH A ⟨fr,L.set j (.box cs')++[.arr e z 0 []],N⟩ a w:=by
 subst hcs
 obtain⟨S,env,hH,hf,hN,hd⟩:=h
 have hj:=(List.getElem?_eq_some_iff.1 hL).1
 obtain⟨hH1,C1⟩:=hH.newO [] (.arr e z 0 []) (.slice none 0 0) (Nat.le_refl _) (fun _ _=>rfl) rfl rfl rfl (fun b hb=>by simp [LO.ft,blk] at hb) (fun _=>⟨by simp [yH],by simp,[],World.ownsRow_nil w 0 e z,by simp [Rds]⟩)
 rw [gLs] at hH1 C1
 have hL1:(L++[LO.arr e z 0 []])[j]? =some (.box cs):=by rw [List.getElem?_append_left hj];exact hL
 have hje:j < (env++[Value.slice none 0 0]).length:=by rw [hH1.len];simp;omega
 obtain⟨hv,he⟩:∃hv,(env++[Value.slice none 0 0])[j]? =some hv:=⟨_,List.getElem?_eq_getElem hje⟩
 obtain⟨b,vals,e',r1,r2,r3,r4⟩:=hH1.objs j _ hv hL1 he
 obtain⟨hH2,C2⟩:=hH1.turnF (w':=w) j (.box cs) (.box (cs.set k (.sl L.length 0))) hv hL1 rfl he rfl rfl (fun _ _=>rfl) rfl rfl rfl (fun k hk=>hk) (fun C=>⟨b,vals,e',r1,r2,by
  have r3':=jV.carry C _ _ r3
  rw [jV.iff] at r3' ⊢
  obtain⟨v,v1,v2⟩:=wB.get ((jV.iff _ _).1 r3) k _ hc
  simp only [SVr] at v2
  subst v2
  have hset:=wB.set k (.sl L.length 0) (.slice none 0 0) r3' (by
   simp only [SVr]
   refine⟨.slice none 0 0,.arr e z 0 [],by rw [←hH.len];simp,?_,Nat.le_refl _,rfl,fun _=>rfl⟩
   rw [List.getElem?_set_ne (by omega)]
   simp)
  have hk:k < vals.toList.length:=(List.getElem?_eq_some_iff.1 v1).1
  have:vals.toList.set k (.slice none 0 0)=vals.toList:=by
   apply List.ext_getElem?
   intro m
   rw [List.getElem?_set]
   by_cases hm:k=m
   ·subst hm;rw [if_pos rfl,if_pos hk,v1]
   ·rw [if_neg hm]
  rwa [this] at hset,r4⟩)
 have hse:(L++[LO.arr e z 0 []]).set j (.box (cs.set k (.sl L.length 0)))=L.set j (.box (cs.set k (.sl L.length 0)))++[.arr e z 0 []]:=by rw [List.set_append_left _ _ hj]
 rw [hse] at hH2 C2
 exact⟨S,_,hH2,fun t=>SVr.carry C2 _ _ (SVr.carry C1 _ _ (hf t)),hN,hd⟩
theorem yJ {Q:Exit→St→Prop} {c:Code} {cs cs':List SV} {n:Nat} (e z:Nat) (j k:Nat) (hL:L[j]? =some (.box cs)) (hc:cs[k]? =some .nilsl) (hn:Ln L n) (hcs:St1 (.sl n 0) k cs cs') (h1:St1 (.box cs') j L L1) (h2:Jn L1 [.arr e z 0 []] L')
  (h:V P A c ⟨fr,L',N⟩ Q):V P A c ⟨fr,L,N⟩ Q:=by
 have e1:=hn.eq
 have e2:=hcs.spec
 have e3:=h1.spec
 have e4:=h2.spec
 subst e1;subst e2;subst e3;subst e4
 exact fun a w hr=>h a w (mH.adoptA hL k hc rfl hr)
end
section
variable {P:Program} {A:Amb} {σ:St} {K:St→Prop}
variable {ops:Array Oper} {rest:List Oper} {t:Nat} {ty:TypeId} {pos:String} {af:Array Edge} {x y:Operand} {dst:Option Nat} {g:Option (Nat × Bool)}
end
theorem jG(l:List gD):(gJ l).length=l.length:=Enc.len l
theorem gU(l:List gI):(gQ l).length=l.length:=Enc.len l
section
variable {P:Program} {A:Amb} {ops:Array Oper} {K:St→Prop} {r:List (Nat × Bool)} {pf:PF} {fr:List (Nat × SV)} {L L1 L':List LO} {N i:Nat} {o:Oper} {sv:SV}
theorem gXz(zi:Nat){e z ver:Nat}{es:List U}(hz:L[zi]? =some (.own e z ver es))(hL1:L.set zi (.frz e z ver es)=L1)(h:VY P A ops K ((i,false)::r) pf ⟨fr,L1,N⟩):VY P A ops K ((i,false)::r) pf ⟨fr,L,N⟩:=by
 obtain⟨o,Z,h1,h2,h3⟩:=h
 exact⟨o,Z,h1,fun fr' he K' hK=>gKr zi hz hL1 (h2 fr' he K' hK),h3⟩
theorem zO(zi:Nat){e z ver:Nat}{es:List U}(hz:L[zi]? =some (.arr e z ver es))(hL1:L.set zi (.frz e z ver es)=L1)(h:VY P A ops K ((i,false)::r) pf ⟨fr,L1,N⟩):VY P A ops K ((i,false)::r) pf ⟨fr,L,N⟩:=by
 obtain⟨o,Z,h1,h2,h3⟩:=h
 exact⟨o,Z,h1,fun fr' he K' hK=>vO zi hz hL1 (h2 fr' he K' hK),h3⟩
end
section
variable {P:Program} {σ:St}
theorem hOs {fn:Func} {Q:SV→List LO→Prop} {n:Nat} (svs:List SV) (Lo:List LO) (hq:Q (mkG svs) Lo) (hL:∃L2,σ.L=Lo++L2:=by exact⟨_,rfl⟩) (hl:(LO.lts Lo.length Lo && SV.lts Lo.length svs && Nat.ble n Lo.length)=true:=by rfl)
  (hr:gSi P σ fn.results.toList svs:=by((repeat(first | exact .nil | refine .data rfl rfl ?_ | refine .data rfl (by((repeat(first | exact trivial | exact rfl | exact⟨_,rfl⟩ | refine And.intro ?_ ?_));first | done | fail)) ?_ | refine .same rfl ?_ | refine .same (gF5 rfl rfl TI.h rfl rfl) ?_ | refine .same (ResV_one rfl rfl TI.h rfl) ?_ | refine .data (gF5 rfl rfl TI.h rfl rfl) (by((repeat(first | exact trivial | exact rfl | exact⟨_,rfl⟩ | refine And.intro ?_ ?_));first | done | fail)) ?_ | refine .data (ResV_one rfl rfl TI.h rfl) (by((repeat(first | exact trivial | exact rfl | exact⟨_,rfl⟩ | refine And.intro ?_ ?_));first | done | fail)) ?_));first | done | fail)):qW P fn Q n .ret σ:=hPz svs Lo hq hL hl hr
end
end Go.Eng
set_option linter.unusedVariables false
set_option linter.unusedSimpArgs false
namespace Go.Eng
open Go Go.RowKit
theorem RdE.take{S:Nat→Prop}{w:World}{z b:Nat}:∀(us:List U) (off k:Nat),RdE S w z b off us→RdE S w z b off (us.take k)
 | _,_,0,_=>by simp [RdE]
 | [],_,_+1,_=>by simp [RdE]
 | u::us,off,k+1,h=>by
   simp only [RdE] at h
   simp only [List.take_succ_cons,RdE]
   exact⟨h.1,RdE.take us (off+z) k h.2⟩
section
variable {P:Program} {σ:St} {dst:Option Nat} {ty T:TypeId} {pos:String} {af:Array Edge} {g:Option (Nat × Bool)} {x y h:Operand}
theorem hGz{α:Type}{en:α→U}{es:List α→List U}{z:Nat} [E:Enc α en es z]{e bs:Nat}{gg:Bool}{l:List α}{k:Int}(hk:0≤k∧k≤l.length) [TE P T e] [TI P e gg z bs](hx:σ.ev x=.d (.sl z (es l)):=by rfl)(hh:σ.ev h=.d (.i .i64 k):=by rfl) :
  QR P σ ⟨dst,.slice T x none (some h) none,ty,pos,af,g⟩ (.d (.sl z (es (l.take k.toNat)))):=fun A fr' L' he _=>Quiet.pure fun S env a w hH ho=>by
 have h1:=ho x (by simp [Op.operands])
 have h2:=ho h (by simp [Op.operands])
 rw [he x (by simp [Op.operands]),hx] at h1
 rw [he h (by simp [Op.operands]),hh,SVr.int] at h2
 rw [SVr.slice] at h1
 obtain⟨hbg,base,cap,h3,h4⟩:=h1
 have hlen:(es l).length=l.length:=Enc.len l
 have htk:es (l.take k.toNat)=(es l).take k.toNat:=by rw [E.h,E.h,List.map_take]
 have hT:P.underlying T=some (.slice e):=wO TE.h
 have hel:P.elem T=e:=by simp [Program.elem,hT]
 have hT':P.underlying T=some (.slice (P.elem T)):=by rw [hel];exact hT
 obtain⟨hk0,hk1⟩:=hk
 have hkn:k.toNat≤(es l).length:=by omega
 have hrun:=run_slice_h (w:=w) T base (es l).length ((es l).length+cap) hT' .i64 k hk0 (by omega)
 have hsz:=run_sizeOf (w:=w) (TI.h:tyI P e=some (gg,z,bs))
 rw [hel,hsz] at hrun
 simp only [Result.andThen] at hrun
 refine⟨sliced base 0 k.toNat ((es l).length+cap) z,?_,?_⟩
 ·simp [execOp,h3,h2,Instr.sliceAt,run_underlying hT,hrun]
 ·rw [SVr.slice,htk]
  have htl:((es l).take k.toNat).length=k.toNat:=by rw [List.length_take];omega
  refine⟨by omega,?_⟩
  rcases h4 with h4 | ⟨b,off,rfl,h5,h6⟩
  ·have hl0:(es l).length=0:=by rw [h4];rfl
   have hk2:k.toNat=0:=by omega
   refine⟨if 0+cap=0 then base else base.map (·.add (0*z)),cap,?_,.inl (by rw [h4];simp)⟩
   rw [htl,hl0,hk2]
   simp [sliced]
  ·by_cases hc:(es l).length+cap=0
   ·have hk2:k.toNat=0:=by omega
    have hnil:(es l).take k.toNat=[]:=List.eq_nil_of_length_eq_zero (by omega)
    refine⟨some ⟨b,off,none⟩,0,?_,.inl hnil⟩
    rw [htl,hc,hk2]
    simp [sliced]
   ·refine⟨some ⟨b,off,none⟩,(es l).length+cap - k.toNat,?_,.inr ⟨b,off,rfl,h5,RdE.take _ _ _ h6⟩⟩
    rw [htl]
    have:k.toNat+((es l).length+cap - k.toNat)=(es l).length+cap:=by omega
    rw [this]
    simp [sliced,hc,Addr.add_lit]
end
section
variable {P:Program} {A:Amb} {ops:Array Oper} {K:St→Prop} {r:List (Nat × Bool)} {pf:PF} {fr:List (Nat × SV)} {L L1 L':List LO} {N i t m:Nat}
variable {ty:TypeId} {pos:String} {af:Array Edge} {x y:Operand} {T:TypeId}
end
end Go.Eng
