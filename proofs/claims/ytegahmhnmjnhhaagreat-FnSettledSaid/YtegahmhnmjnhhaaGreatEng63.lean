import Derived.Test.YtegahmhnmjnhhaaGreatEng52
import Derived.MapKept
import Derived.Lib.AppendZeros
import Derived.Lib.AppendStr
import Derived.Laws.BytesString
import Derived.Laws.Strings2
import Derived.Laws.Strings3
set_option linter.unusedVariables false
set_option linter.unusedSimpArgs false
namespace Go.Eng
open Go Go.RowKit
theorem RdE.take{S:Nat→Prop}{w:World}{z b:Nat}:∀(us:List U) (off k:Nat),RdE S w z b off us→RdE S w z b off (us.take k)
 | _,_,0,_=>by simp [RdE]
 | [],_,_+1,_=>by simp [RdE]
 | u::us,off,k+1,h=>by
   simp only [RdE] at h;simp only [List.take_succ_cons,RdE];exact⟨h.1,RdE.take us (off+z) k h.2⟩
section
variable {P:Program} {σ:St} {dst:Option Nat} {ty T:TypeId} {pos:String} {af:Array Edge} {g:Option (Nat × Bool)} {x y h:Operand}
theorem hUv{α:Type}{en:α→U}{es:List α→List U}{z:Nat} [E:Enc α en es z]{e bs:Nat}{gg:Bool}{l:List α}{k:Int}(hk:0≤k∧k≤l.length) [TE P T e] [TI P e gg z bs](hx:σ.ev x=.d (.sl z (es l)):=by rfl)(hh:σ.ev h=.d (.i .i64 k):=by rfl) :
  QR P σ ⟨dst,.slice T x none (some h) none,ty,pos,af,g⟩ (.d (.sl z (es (l.take k.toNat)))):=fun A fr' L' he _=>Quiet.pure fun S env a w hH ho=>by
 have h1:=ho x (by simp [Op.operands]);have h2:=ho h (by simp [Op.operands]);rw [he x (by simp [Op.operands]),hx] at h1;rw [he h (by simp [Op.operands]),hh,SVr.int] at h2;rw [SVr.slice] at h1;obtain⟨hbg,base,cap,h3,h4⟩:=h1;have hlen:(es l).length=l.length:=Enc.len l;have htk:es (l.take k.toNat)=(es l).take k.toNat:=by rw [E.h,E.h,List.map_take]
 have hT:P.underlying T=some (.slice e):=wS TE.h;have hel:P.elem T=e:=by simp [Program.elem,hT]
 have hT':P.underlying T=some (.slice (P.elem T)):=by rw [hel];exact hT
 obtain⟨hk0,hk1⟩:=hk;have hkn:k.toNat≤(es l).length:=by omega
 have hrun:=run_slice_h (w:=w) T base (es l).length ((es l).length+cap) hT' .i64 k hk0 (by omega);have hsz:=run_sizeOf (w:=w) (TI.h:tyI P e=some (gg,z,bs));rw [hel,hsz] at hrun;simp only [Result.andThen] at hrun;refine⟨sliced base 0 k.toNat ((es l).length+cap) z,?_,?_⟩
 ·simp [execOp,h3,h2,Instr.sliceAt,run_underlying hT,hrun]
 ·rw [SVr.slice,htk];have htl:((es l).take k.toNat).length=k.toNat:=by rw [List.length_take];omega
  refine⟨by omega,?_⟩;rcases h4 with h4 | ⟨b,off,rfl,h5,h6⟩
  ·have hl0:(es l).length=0:=by rw [h4];rfl
   have hk2:k.toNat=0:=by omega
   refine⟨if 0+cap=0 then base else base.map (·.add (0*z)),cap,?_,.inl (by rw [h4];simp)⟩;rw [htl,hl0,hk2];simp [sliced]
  ·by_cases hc:(es l).length+cap=0
   ·have hk2:k.toNat=0:=by omega
    have hnil:(es l).take k.toNat=[]:=List.eq_nil_of_length_eq_zero (by omega);refine⟨some ⟨b,off,none⟩,0,?_,.inl hnil⟩;rw [htl,hc,hk2];simp [sliced]
   ·refine⟨some ⟨b,off,none⟩,(es l).length+cap - k.toNat,?_,.inr ⟨b,off,rfl,h5,RdE.take _ _ _ h6⟩⟩;rw [htl]
    have:k.toNat+((es l).length+cap - k.toNat)=(es l).length+cap:=by omega
    rw [this];simp [sliced,hc,Addr.add_lit]
end
section
variable {P:Program} {A:Amb} {ops:Array Oper} {K:St→Prop} {r:List (Nat × Bool)} {pf:PF} {fr:List (Nat × SV)} {L L1 L':List LO} {N i t m:Nat}
variable {ty:TypeId} {pos:String} {af:Array Edge} {x y:Operand} {T:TypeId}
end
end Go.Eng
namespace Go.Eng
open Go Go.RowKit Go.MapKept
section
variable {P:Program} {A:Amb} {σ:St} {K:St→Prop}
variable {ops:Array Oper} {rest:List Oper} {t:Nat} {dst:Option Nat} {g:Option (Nat × Bool)} {ty:TypeId} {pos:String} {af:Array Edge} {x y z:Operand} {sv:SV} {T:TypeId}
end
theorem RdE.drop{S:Nat→Prop}{w:World}{z b:Nat}:∀(us:List U) (off k:Nat),RdE S w z b off us→RdE S w z b (off+k*z) (us.drop k)
 | us,off,0,h=>by simpa using h
 | [],_,_+1,_=>by simp [RdE]
 | u::us,off,k+1,h=>by
   simp only [RdE] at h;simp only [List.drop_succ_cons]
   have:=RdE.drop us (off+z) k h.2
   rwa [show off+(k+1)*z=off+z+k*z by rw [Nat.add_mul];omega]
section
variable {P:Program} {σ:St} {dst:Option Nat} {ty T:TypeId} {pos:String} {af:Array Edge} {g:Option (Nat × Bool)} {x y h:Operand}
theorem gMv{α:Type}{en:α→U}{es:List α→List U}{z:Nat} [E:Enc α en es z]{e bs:Nat}{gg:Bool}{l:List α}{k:Int}(hk:0≤k∧k≤l.length) [TE P T e] [TI P e gg z bs](hx:σ.ev x=.d (.sl z (es l)):=by rfl)(hh:σ.ev h=.d (.i .i64 k):=by rfl) :
  QR P σ ⟨dst,.slice T x (some h) none none,ty,pos,af,g⟩ (.d (.sl z (es (l.drop k.toNat)))):=fun A fr' L' he _=>Quiet.pure fun S env a w hH ho=>by
 have h1:=ho x (by simp [Op.operands]);have h2:=ho h (by simp [Op.operands]);rw [he x (by simp [Op.operands]),hx] at h1;rw [he h (by simp [Op.operands]),hh,SVr.int] at h2;rw [SVr.slice] at h1;obtain⟨hbg,base,cap,h3,h4⟩:=h1;have hlen:(es l).length=l.length:=Enc.len l;have htk:es (l.drop k.toNat)=(es l).drop k.toNat:=by rw [E.h,E.h,List.map_drop]
 have hT:P.underlying T=some (.slice e):=wS TE.h;have hel:P.elem T=e:=by simp [Program.elem,hT]
 have hT':P.underlying T=some (.slice (P.elem T)):=by rw [hel];exact hT
 obtain⟨hk0,hk1⟩:=hk;have hkn:k.toNat≤(es l).length:=by omega
 have hrun:=run_slice_l (w:=w) T base (es l).length ((es l).length+cap) hT' .i64 k hk0 (by omega);have hsz:=run_sizeOf (w:=w) (TI.h:tyI P e=some (gg,z,bs));rw [hel,hsz] at hrun;simp only [Result.andThen] at hrun;refine⟨sliced base k.toNat (es l).length ((es l).length+cap) z,?_,?_⟩
 ·simp [execOp,h3,h2,Instr.sliceAt,run_underlying hT,hrun]
 ·rw [SVr.slice,htk];have htl:((es l).drop k.toNat).length=(es l).length - k.toNat:=by rw [List.length_drop]
  refine⟨by omega,?_⟩;have hcap:(es l).length+cap - k.toNat=(es l).length - k.toNat+cap:=by omega
  refine⟨if (es l).length+cap=k.toNat then base else base.map (·.add (k.toNat*z)),cap,?_,?_⟩
  ·rw [htl,←hcap];rfl
  ·by_cases hnil:(es l).drop k.toNat=[]
   ·exact .inl hnil
   ·right;rcases h4 with h4 | ⟨b,off,rfl,h5,h6⟩
    ·rw [h4] at hnil;simp at hnil
    ·have hne:¬ (es l).length+cap=k.toNat:=fun e=>hnil (List.drop_eq_nil_of_le (by omega));refine⟨b,off+k.toNat*z,by rw [if_neg hne];simp [Addr.add_lit],h5,RdE.drop _ _ _ h6⟩
end
section
variable {P:Program} {σ:St}
end
section
variable {P:Program} {A:Amb} {ops:Array Oper} {K:St→Prop} {r:List (Nat × Bool)} {pf:PF} {fr:List (Nat × SV)} {L L':List LO} {N i t:Nat} {sv:SV}
variable {ty:TypeId} {pos:String} {af:Array Edge}
theorem gSt(hp:vV ops i L' pf)(h:VY P A ops K r pf ⟨(t,sv)::fr,L',N⟩):vV ops i L' pf∧VY P A ops K r pf ⟨(t,sv)::fr,L',N⟩:=⟨hp,h⟩
theorem gUg {f:Operand} {fi:Nat} {caps:List SV} {args:Array Operand} {at_:Array TypeId} {cargs:List SV} {Lc:List LO} {Q:SV→List LO→Prop} (js:List Nat) (hspec:Spec P fi cargs Lc Q)
  (h:∀sv Lo,Q sv Lo→vV ops i (gKq js (Lo.map (LO.ren (rn js L.length))) L) pf∧VY P A ops K r pf ⟨(t,sv.ren (rn js L.length))::fr,gKq js (Lo.map (LO.ren (rn js L.length))) L,N⟩)
  (hi:ops[i]? =some ⟨some t,.call { callee:=.value f,args:=args,argTypes:=at_ },ty,pos,af,none⟩:=by rfl)
  (hf:(St.mk fr L N).ev f=.fn fi caps:=by rfl) (hp:gSm L (rn js L.length) 0 Lc:=by((repeat(first | exact trivial | exact rfl | refine And.intro ?_ ?_));first | done | fail))
  (hjs:(decide js.Nodup && (js.all fun j=>Nat.blt j L.length) && js.length==Lc.length && LO.lts Lc.length Lc)=true:=by rfl)
  (hargs:AGs L (rn js L.length) Lc.length (args.toList.map (St.mk fr L N).ev++caps) cargs:=by((repeat(first | exact trivial | exact .inl ⟨rfl,rfl⟩ | exact .inr ⟨_,rfl,by((repeat(first | exact trivial | exact rfl | exact⟨_,rfl⟩ | refine And.intro ?_ ?_));first | done | fail)⟩ | refine And.intro ?_ ?_));first | done | fail))
  (ht:Nat.blt t N=true:=by rfl):VY P A ops K ((i,false)::r) pf ⟨fr,L,N⟩:=by
 refine⟨_,fun s l=>∃sv Lo,Q sv Lo∧s=sv.ren (rn js L.length)∧l=gKq js (Lo.map (LO.ren (rn js L.length))) L,hi,?_,?_⟩
 ·intro fr' he K' hK;have hm:args.toList.map (St.mk fr' L N).ev=args.toList.map (St.mk fr L N).ev:=List.map_congr_left fun x hx=>he x (by simp only [Op.operands,Call.operands];simp;exact .inr (by simpa using hx));refine yY (caps:=caps) js hspec ?_ (by rw [he f (by simp [Op.operands,Call.operands])];exact hf) hp hjs (by rw [hm];exact hargs) ht;intro sv Lo hq;exact gFt (hK _ _ ⟨sv,Lo,hq,rfl,rfl⟩)
 ·rintro _ _ ⟨sv,Lo,hq,rfl,rfl⟩;obtain⟨h1,h2⟩:=h sv Lo hq;exact⟨h1.ok,h2⟩
theorem pW {f:Operand} {fi:Nat} {caps:List SV} {args:Array Operand} {at_:Array TypeId} {dargs:List SV} {us:List U} (hspec:jC P fi dargs us) (hv:VY P A ops K r pf ⟨(t,mkR us)::fr,L,N⟩)
  (hi:ops[i]? =some ⟨some t,.call { callee:=.value f,args:=args,argTypes:=at_ },ty,pos,af,none⟩:=by rfl) (hf:(St.mk fr L N).ev f=.fn fi caps:=by rfl)
  (hargs:VAs L (args.toList.map (St.mk fr L N).ev++caps) dargs:=by((repeat(first | exact trivial | exact rfl | exact⟨_,rfl⟩ | exact(‹∀n,SV.lts n _=true› _) | refine And.intro ?_ ?_));first | done | fail))
  (ht:Nat.blt t N=true:=by rfl) (hp:vV ops i L pf:=by(repeat(first | exact vV.nil | (apply vV.keep;focus ((repeat constructor);done)) | (apply vV.dep;focus kernel_rfl)))):VY P A ops K ((i,false)::r) pf ⟨fr,L,N⟩:=by
 refine gJc hi (fun fr' he K' hK=>?_) hp hv;have hm:args.toList.map (St.mk fr' L N).ev=args.toList.map (St.mk fr L N).ev:=List.map_congr_left fun x hx=>he x (by simp only [Op.operands,Call.operands];simp;exact .inr (by simpa using hx));exact hS6 (hG9 (by rw [he f (by simp [Op.operands,Call.operands])];exact hf) hspec (by simp only;rw [hm];exact hargs)) ht (gFt hK)
end
end Go.Eng
namespace Go.Eng
open Go Go.RowKit
theorem gYc{w:World}{S:Nat→Prop}{L:List LO}{env:List Value}{e z ver:Nat}{es:List U}{hv:Value}(hn:U.noSls es=true)(h:gF3 S L env w (.arr e z ver es) hv):(∀S' L' env',gF3 S' L' env' w (.own e z ver es) hv)∧∀b,(LO.own e z ver es).ft w hv b↔(LO.arr e z ver es).ft w hv b:=by
 obtain⟨h1,h2,xs,h3,h4⟩:=h;obtain⟨k1,k2⟩:=Rds.tr (w':=w) _ _ hn h4;have hf:=gGd h2 h3;constructor
 ·intro S' L' env';refine⟨h1,h2,⟨xs,h3,k1⟩,?_⟩;rcases hf with ⟨_,_,hf⟩ | ⟨g,cap,_,hf⟩
  ·rw [hf];exact List.nodup_nil
  ·rw [hf,k2];simp
 ·intro b;simp only [LO.ft];rcases hf with ⟨rfl,_,hf⟩ | ⟨g,cap,rfl,hf⟩
  ·rw [hf];simp [blk]
  ·rw [hf,k2];simp [blk,eq_comm]
section
variable {P:Program} {A:Amb} {σ:St} {K:St→Prop} {Q:Exit→St→Prop} {ops:Array Oper} {rest:List Oper} {r:List (Nat × Bool)} {pf:PF}
theorem kZ.arrOwn{a:Act}{w:World}{fr:List (Nat × SV)}{L:List LO}{N i e z ver:Nat}{es:List U}(hL:L[i]? =some (.arr e z ver es))(hn:U.noSls es=true)(h:kZ A ⟨fr,L,N⟩ a w):kZ A ⟨fr,L.set i (.own e z ver es),N⟩ a w:=by
 obtain⟨S,env,hH,hf,hN,hd⟩:=h;have hi:=(List.getElem?_eq_some_iff.1 hL).1;obtain⟨hv,hhv⟩:∃hv,env[i]? =some hv:=⟨_,List.getElem?_eq_getElem (by rw [hH.len];exact hi)⟩
 have hob:=hH.objs i _ hv hL hhv;obtain⟨hH',C⟩:mO A S (L.set i (.own e z ver es)) env w∧Carry S L env w S (L.set i (.own e z ver es)) env w:=by
  refine hH.eat [] i _ hv (by rw [List.length_set];exact hH.len) (fun j hj=>?_) (List.getElem?_set_self hi) (fun _ _=>rfl) hhv (fun _ _ _=>rfl) (fun o hv1 h1 h2=>?_) (Nat.le_refl _) rfl rfl rfl (fun k hk=>?_) (fun C=>(gYc hn hob).1 _ _ _)
  ·rw [List.getElem?_set_ne (fun e=>hj e.symm)];simp
  ·rw [hL] at h1;rw [hhv] at h2;cases h1;cases h2;exact⟨Nat.le_refl _,fun _=>rfl,fun _ _=>rfl⟩
  ·have:=((gYc hn hob).2 k).1 hk
   exact⟨(hH.excl i _ hv k hL rfl hhv this).2.2,.inr ⟨i,_,hv,.inl rfl,hL,rfl,hhv,this⟩⟩
 exact⟨S,env,hH',fun t=>SVr.carry C _ _ (hf t),hN,hd⟩
theorem hUw{fr:List (Nat × SV)}{L L':List LO}{N e z ver:Nat}{es:List U}(i:Nat)(h:VO P A ops rest ⟨fr,L',N⟩ K)(hL:L[i]? =some (.arr e z ver es):=by rfl)(hn:U.noSls es=true:=by first | exact gPf _ | exact gPg _)(hL':St1 (.own e z ver es) i L L':=by repeat constructor):VO P A ops rest ⟨fr,L,N⟩ K:=by
 have:=hL'.spec
 subst this;exact fun R hR a w hr=>h R hR a w (hr.arrOwn hL hn)
end
section
variable {P:Program} {A:Amb} {σ:St} {K:St→Prop} {Q:Exit→St→Prop}
variable {ops:Array Oper} {rest:List Oper} {t:Nat} {ty:TypeId} {pos:String} {af:Array Edge} {x y:Operand} {sv:SV} {dst:Option Nat} {g:Option (Nat × Bool)}
theorem hI5{α:Type}{en:α→U}{es:List α→List U}{z:Nat} [E:Enc α en es z]{e bs ver j:Nat}{T:TypeId}{i:Int}{gg:Bool}{l:List α}(h0:0≤i)(hk:i.toNat < l.length) [TE P T e] [TI P e gg z bs](hx:σ.ev x=.sl j ver:=by rfl)(hL:σ.L[j]? =some (.arr e z ver (es l)):=by rfl)(hy:σ.ev y=.d (.i .i64 i):=by rfl) :
  Quiet P A σ ⟨dst,.indexAddr T x y,ty,pos,af,g⟩ (.ep j ver z i.toNat 0):=by
 have:=gSs (P:=P) (A:=A) (dst:=dst) (ty:=ty) (pos:=pos) (af:=af) (g:=g) hx hL hy (TE.h:tyE P T=some e) (TI.h:tyI P e=some (gg,z,bs)) h0 (by rw [Enc.len];omega)
 simpa using this
end
section
variable {P:Program} {A:Amb} {ops:Array Oper} {K:St→Prop} {r:List (Nat × Bool)} {pf:PF} {fr:List (Nat × SV)} {L L1 L':List LO} {N i t m:Nat}
variable {ty:TypeId} {pos:String} {af:Array Edge} {x y:Operand} {T:TypeId}
end
section
variable {P:Program} {A:Amb} {Q Q2:Exit→St→Prop} {c x y:Code}
theorem gEf{σ:St}(σJ:St)(h1:V P A x σ (thenS (fun s=>Le s σJ) Q))(h2:V P A y σJ Q2)(hA:A.L0.length≤σJ.L.length:=by rw [gCz.h (A:=A)];exact Nat.le_of_ble_eq_true rfl):V P A x σ (thenS (fun s=>V P A y s Q2) Q):=
 V.mono h1 (fun e s hq=>by
  cases e with
  | normal=>exact jBc hq h2 hA
  | _=>exact hq)
theorem kZ.nild{a:Act}{w:World}{fr:List (Nat × SV)}{L:List LO}{N:Nat}{cs cs':List SV}{z j:Nat}(hL:L[j]? =some (.box cs))(k:Nat)(hc:cs[k]? =some .nilsl)(hcs:cs.set k (.d (.sl z []))=cs')(h:kZ A ⟨fr,L,N⟩ a w):kZ A ⟨fr,L.set j (.box cs'),N⟩ a w:=by
 subst hcs;obtain⟨S,env,hH,hf,hN,hd⟩:=h;have hj:=(List.getElem?_eq_some_iff.1 hL).1;obtain⟨hv,he⟩:∃hv,env[j]? =some hv:=⟨_,List.getElem?_eq_getElem (by rw [hH.len];exact hj)⟩
 obtain⟨b,vals,e',r1,r2,r3,r4⟩:=hH.objs j _ hv hL he
 obtain⟨hH2,C2⟩:=hH.turnF (w':=w) j (.box cs) (.box (cs.set k (.d (.sl z [])))) hv hL rfl he rfl rfl (fun _ _=>rfl) rfl rfl rfl (fun k hk=>hk) (fun C=>⟨b,vals,e',r1,r2,by
  have r3':=kK.carry C _ _ r3;rw [kK.iff] at r3' ⊢;obtain⟨v,v1,v2⟩:=vE.get ((kK.iff _ _).1 r3) k _ hc;simp only [SVr] at v2;subst v2
  have hset:=vE.set k (.d (.sl z [])) (.slice none 0 0) r3' (by
   simp only [SVr]
   exact⟨[.slice none 0 0],rfl,by simp [Rd]⟩)
  have hk:k < vals.toList.length:=(List.getElem?_eq_some_iff.1 v1).1
  have:vals.toList.set k (.slice none 0 0)=vals.toList:=by
   apply List.ext_getElem?;intro m;rw [List.getElem?_set];by_cases hm:k=m
   ·subst hm;rw [if_pos rfl,if_pos hk,v1]
   ·rw [if_neg hm]
  rwa [this] at hset,r4⟩)
 exact⟨S,_,hH2,fun t=>SVr.carry C2 _ _ (hf t),hN,hd⟩
theorem gUh{fr:List (Nat × SV)}{L L1:List LO}{N:Nat}{cs cs':List SV}(z j k:Nat)(hL:L[j]? =some (.box cs))(hc:cs[k]? =some .nilsl)(hcs:St1 (.d (.sl z [])) k cs cs')(h1:St1 (.box cs') j L L1)(h:V P A c ⟨fr,L1,N⟩ Q):V P A c ⟨fr,L,N⟩ Q:=by
 have e2:=hcs.spec;have e3:=h1.spec;subst e2;subst e3;exact fun a w hr=>h a w (hr.nild hL k hc rfl)
end
section
variable {P:Program} {A:Amb} {σ:St} {K:St→Prop} {Q:Exit→St→Prop}
variable {ops:Array Oper} {rest:List Oper} {x y:Operand}
theorem kZ.share{a:Act}{w:World}{fr:List (Nat × SV)}{L:List LO}{N i e z ver:Nat}{es:List U}(hL:L[i]? =some (.own e z ver es))(h:kZ A ⟨fr,L,N⟩ a w):kZ A ⟨fr,L.set i (.arr e z ver es),N⟩ a w:=by
 obtain⟨S,env,hH,hf,hN,hd⟩:=h;have hi:=(List.getElem?_eq_some_iff.1 hL).1;have hie:i < env.length:=by rw [hH.len];exact hi
 obtain⟨hv,he⟩:∃hv,env[i]? =some hv:=⟨_,List.getElem?_eq_getElem hie⟩
 have hob:=hH.objs i _ hv hL he;obtain⟨o1,o2,⟨xs,o3,o4⟩,o5⟩:=hob;have hfp:∀b,b∈U.fps w es xs→b∈(U.sl z es).fp w [hv]∧blk hv≠some b:=by
  intro b hb;rcases gGd o2 o3 with ⟨rfl,rfl,hf⟩ | ⟨g,cap,rfl,hf⟩
  ·simp [U.fps] at hb
  ·rw [hf] at o5 ⊢;exact⟨by simp [hb],fun hg=>by simp [blk] at hg;subst hg;exact(List.nodup_cons.1 o5).1 hb⟩
 have hblk:∀b,blk hv=some b→b∈(U.sl z es).fp w [hv]:=by
  intro b hb;rcases gGd o2 o3 with ⟨rfl,rfl,hf⟩ | ⟨g,cap,rfl,hf⟩
  ·simp [blk] at hb
  ·rw [hf];simp [blk] at hb;simp [hb]
 let S':Nat→Prop:=fun b=>S b∨b∈U.fps w es xs;have hset:∀(j:Nat) (o':LO),(L.set i (.arr e z ver es))[j]? =some o'→(j=i∧o'=.arr e z ver es)∨(j≠i∧L[j]? =some o'):=by
  intro j o' hj;by_cases hij:i=j
  ·subst hij;rw [List.getElem?_set_self hi] at hj;exact .inl ⟨rfl,(Option.some.inj hj).symm⟩
  ·rw [List.getElem?_set_ne hij] at hj;exact .inr ⟨fun e=>hij e.symm,hj⟩
 have C:Carry S L env w S' (L.set i (.arr e z ver es)) env w:=by
  refine⟨fun b hb _=>.inl hb,fun _ _ _=>rfl,fun _ _ h=>h,fun j hv' o' h1 h2=>?_⟩;by_cases hij:i=j
  ·subst hij;rw [hL] at h2;obtain rfl:=Option.some.inj h2;exact⟨hv',.arr e z ver es,h1,by rw [List.getElem?_set_self hi],Nat.le_refl _,fun _=>rfl⟩
  ·exact⟨hv',o',h1,by rw [List.getElem?_set_ne hij];exact h2,Nat.le_refl _,fun _=>rfl⟩
 refine⟨S',env,⟨by simp [hH.len],?_,?_,?_,?_,?_,hH.frame,hH.size,hH.os,hH.tape,hH.output,hH.base.carry C hH.len (by simp),hH.glob⟩,fun t=>SVr.carry C _ _ (hf t),hN,hd⟩
 ·intro j o' hv' h1 h2;rcases hset j o' h1 with ⟨rfl,rfl⟩ | ⟨hj,h3⟩
  ·rw [he] at h2;obtain rfl:=Option.some.inj h2;exact⟨o1,o2,xs,o3,Trs.rd _ _ o4 (fun b hb=>.inr hb)⟩
  ·exact gF3.carry C (fun _ _ _=>rfl) (hH.objs j o' hv' h3 h2)
 ·intro j o' hv' b h1 hl h2 hb;rcases hset j o' h1 with ⟨rfl,rfl⟩ | ⟨hj,h3⟩
  ·rw [he] at h2;obtain rfl:=Option.some.inj h2
   have:=hH.excl j _ hv b hL rfl he (hblk b hb)
   exact⟨fun hs=>hs.elim this.1 (fun hs=>(hfp b hs).2 hb),this.2⟩
  ·have:=hH.excl j o' hv' b h3 hl h2 hb
   exact⟨fun hs=>hs.elim this.1 (fun hs=>hj (hH.dist j i o' _ hv' hv b h3 hL hl rfl h2 he hb (hfp b hs).1)),this.2⟩
 ·intro j j' o1' o2' hv1 hv2 k h1 h2 hl1 hl2 e1 e2 b1 b2;rcases hset j o1' h1 with ⟨rfl,rfl⟩ | ⟨hj,h3⟩<;>rcases hset j' o2' h2 with ⟨rfl,rfl⟩ | ⟨hj',h3'⟩
  ·rfl
  ·rw [he] at e1;obtain rfl:=Option.some.inj e1;exact hH.dist j j' _ o2' hv hv2 k hL h3' rfl hl2 he e2 (hblk k b1) b2
  ·rw [he] at e2;obtain rfl:=Option.some.inj e2;exact hH.dist j j' o1' _ hv1 hv k h3 hL hl1 rfl e1 he b1 (hblk k b2)
  ·exact hH.dist j j' o1' o2' hv1 hv2 k h3 h3' hl1 hl2 e1 e2 b1 b2
 ·intro b hb;rcases hb with hb | hb
  ·exact hH.sS b hb
  ·exact(hH.excl i _ hv b hL rfl he (hfp b hb).1).2.2
 ·intro b hb;rcases hb with hb | hb
  ·exact hH.sA b hb
  ·exact .inr (hH.excl i _ hv b hL rfl he (hfp b hb).1).2.1
end
section
variable {P:Program} {A:Amb} {σ:St} {K:St→Prop}
variable {ops:Array Oper} {rest:List Oper}
end
section
variable {P:Program} {A:Amb} {σ:St} {K:St→Prop}
variable {ops:Array Oper} {rest:List Oper} {x y:Operand} {dst:Option Nat} {g:Option (Nat × Bool)} {ty:TypeId} {pos:String} {af:Array Edge}
end
section
variable {P:Program} {A:Amb} {σ:St} {K:St→Prop} {Q:Exit→St→Prop}
end
section
end
section
variable {P:Program} {A:Amb} {ops:Array Oper} {K:St→Prop} {r:List (Nat × Bool)} {pf:PF} {fr:List (Nat × SV)} {L L1 L':List LO} {N i t m:Nat}
variable {ty:TypeId} {pos:String} {af:Array Edge} {x y:Operand} {T:TypeId}
end
section
variable {P:Program} {A:Amb} {ops:Array Oper} {K:St→Prop} {t:OT} {pf:PF} {fr:List (Nat × SV)} {L:List LO} {N i d:Nat} {b:Bool} {op:Op} {ty:TypeId} {pos:String} {af:Array Edge} {sv:SV}
theorem hE5(hi:ops[i]? =some ⟨some d,op,ty,pos,af,none⟩)(hq:QR P ⟨fr,[],N⟩ ⟨some d,op,ty,pos,af,none⟩ sv)(h:VT P A ops K t ((i,[])::pf) ⟨(d,sv)::fr,L,N⟩ false)(hd:Nat.blt d N=true:=by rfl):VT P A ops K (.q i t) pf ⟨fr,L,N⟩ b:=
 ⟨_,sv,[],hi,⟨fun d' hd'=>by cases hd';exact hd,fun k cs hk=>by simp at hk,.inl ⟨rfl,fun fr' L' he _=>hq A fr' L' (fun x hx=>(he x hx).trans (by cases x<;>rfl)) (fun k cs hk=>by simp at hk)⟩⟩,h⟩
end
structure vB where
 s:List UInt8
 at_:Int
 deep:Int
 size:Int
 bad:Bool
section
variable {P:Program} {σ:St} {dst:Option Nat} {ty T:TypeId} {pos:String} {af:Array Edge} {g:Option (Nat × Bool)} {x lo hi:Operand}
theorem hPf [TS P T]{l:List UInt8}{i j:Int}(hk:0≤i∧i≤j∧j≤(l.length:Int))(hx:σ.ev x=.d (.s l):=by rfl)(hi_:σ.ev lo=.d (.i .i64 i):=by rfl)(hj:σ.ev hi=.d (.i .i64 j):=by rfl) :
  QR P σ ⟨dst,.slice T x (some lo) (some hi) none,ty,pos,af,g⟩ (.d (.s ((l.drop i.toNat).take (j.toNat - i.toNat)))):=fun A fr' L' he _=>Quiet.pure fun S env a w hH ho=>by
 have h1:=ho x (by simp [Op.operands]);have h2:=ho lo (by simp [Op.operands]);have h3:=ho hi (by simp [Op.operands]);rw [he x (by simp [Op.operands]),hx] at h1;rw [he lo (by simp [Op.operands]),hi_,SVr.int] at h2;rw [he hi (by simp [Op.operands]),hj,SVr.int] at h3;obtain⟨hb,h1⟩:=SVr.str.1 h1;obtain⟨k0,k1,k2⟩:=hk;have hsz:(ByteArray.mk l.toArray).size=l.length:=by simp [ByteArray.size]
 have hrun:=run_slice_string (P:=P) (w:=w) T (ByteArray.mk l.toArray) .i64 .i64 i j TS.h k0 k1 (by rw [hsz];exact k2);rw [ByteArray.extract_mk] at hrun;refine⟨.string ⟨((l.drop i.toNat).take (j.toNat - i.toNat)).toArray⟩,?_,SVr.str.2 ⟨?_,rfl⟩⟩
 ·simp [execOp,h1,h2,h3,Instr.sliceAt,run_underlying TS.h,hrun]
 ·have:((l.drop i.toNat).take (j.toNat - i.toNat)).length≤l.length:=by simp;omega
  omega
theorem hPg [TS P T]{l:List UInt8}{i:Int}(hk:0≤i∧i≤(l.length:Int))(hx:σ.ev x=.d (.s l):=by rfl)(hi_:σ.ev lo=.d (.i .i64 i):=by rfl) :
  QR P σ ⟨dst,.slice T x (some lo) none none,ty,pos,af,g⟩ (.d (.s (l.drop i.toNat))):=fun A fr' L' he _=>Quiet.pure fun S env a w hH ho=>by
 have h1:=ho x (by simp [Op.operands]);have h2:=ho lo (by simp [Op.operands]);rw [he x (by simp [Op.operands]),hx] at h1;rw [he lo (by simp [Op.operands]),hi_,SVr.int] at h2;obtain⟨hb,h1⟩:=SVr.str.1 h1;have hsz:(ByteArray.mk l.toArray).size=l.length:=by simp [ByteArray.size]
 have hrun:=run_slice_string_from_if (P:=P) (w:=w) T (ByteArray.mk l.toArray) .i64 i TS.h;rw [if_pos (by rw [hsz];exact hk),ByteArray.extract_mk,hsz,←List.length_drop,List.take_length] at hrun;refine⟨.string ⟨(l.drop i.toNat).toArray⟩,?_,SVr.str.2 ⟨?_,rfl⟩⟩
 ·simp [execOp,h1,h2,Instr.sliceAt,run_underlying TS.h,hrun]
 ·have:(l.drop i.toNat).length≤l.length:=by simp
  omega
theorem hPh{α:Type}{en:α→U}{es:List α→List U}{z:Nat} [E:Enc α en es z]{e bs:Nat}{gg:Bool}{l:List α}{i j:Int}(hk:0≤i∧i≤j∧j≤(l.length:Int)) [TE P T e] [TI P e gg z bs](hx:σ.ev x=.d (.sl z (es l)):=by rfl)(hi_:σ.ev lo=.d (.i .i64 i):=by rfl)(hj:σ.ev hi=.d (.i .i64 j):=by rfl) :
  QR P σ ⟨dst,.slice T x (some lo) (some hi) none,ty,pos,af,g⟩ (.d (.sl z (es ((l.drop i.toNat).take (j.toNat - i.toNat))))):=fun A fr' L' he _=>Quiet.pure fun S env a w hH ho=>by
 have h1:=ho x (by simp [Op.operands]);have h2:=ho lo (by simp [Op.operands]);have h2':=ho hi (by simp [Op.operands]);rw [he x (by simp [Op.operands]),hx] at h1;rw [he lo (by simp [Op.operands]),hi_,SVr.int] at h2;rw [he hi (by simp [Op.operands]),hj,SVr.int] at h2';rw [SVr.slice] at h1;obtain⟨hbg,base,cap,h3,h4⟩:=h1;have hlen:(es l).length=l.length:=Enc.len l;have htk:es ((l.drop i.toNat).take (j.toNat - i.toNat))=((es l).drop i.toNat).take (j.toNat - i.toNat):=by rw [E.h,E.h,List.map_take,List.map_drop]
 have hT:P.underlying T=some (.slice e):=wS TE.h;have hel:P.elem T=e:=by simp [Program.elem,hT]
 have hT':P.underlying T=some (.slice (P.elem T)):=by rw [hel];exact hT
 obtain⟨hk0,hk1,hk2⟩:=hk;have hrun:=run_slice_lh (w:=w) T base (es l).length ((es l).length+cap) hT' .i64 .i64 i j hk0 hk1 (by omega);have hsz:=run_sizeOf (w:=w) (TI.h:tyI P e=some (gg,z,bs));rw [hel,hsz] at hrun;simp only [Result.andThen] at hrun;refine⟨sliced base i.toNat j.toNat ((es l).length+cap) z,?_,?_⟩
 ·simp [execOp,h3,h2,h2',Instr.sliceAt,run_underlying hT,hrun]
 ·rw [SVr.slice,htk];have htl:(((es l).drop i.toNat).take (j.toNat - i.toNat)).length=j.toNat - i.toNat:=by rw [List.length_take,List.length_drop];omega
  refine⟨by omega,if (es l).length+cap=i.toNat then base else base.map (·.add (i.toNat*z)),(es l).length+cap - j.toNat,?_,?_⟩
  ·rw [htl,show j.toNat - i.toNat+((es l).length+cap - j.toNat)=(es l).length+cap - i.toNat by omega];rfl
  ·by_cases hnil:((es l).drop i.toNat).take (j.toNat - i.toNat)=[]
   ·exact .inl hnil
   ·right;rcases h4 with h4 | ⟨b,off,rfl,h5,h6⟩
    ·rw [h4] at hnil;simp at hnil
    ·have hne:¬ (es l).length+cap=i.toNat:=fun e=>hnil (by rw [List.drop_eq_nil_of_le (by omega)];simp);refine⟨b,off+i.toNat*z,by rw [if_neg hne];simp [Addr.add_lit],h5,RdE.take _ _ _ (RdE.drop _ _ _ h6)⟩
end
def jDz(P:Program)(T:TypeId)(f:Nat):Option (Nat × Bool × Nat):=
 match P.underlying T with
 | some (.struct fs)=>match fs[f]? with
   | some fd=>(tyI P fd.type).map fun x=>(fd.offset,x.1,x.2.1)
   | none=>none
 | _=>none
theorem Rds.at{S:Nat→Prop}{w:World}{u:U}:∀(us:List U) (cs:List Value) (f:Nat),Rds S w us cs→us[f]? =some u→∃c1 c2 c3,cs=c1++c2++c3∧c1.length=U.szs (us.take f)∧Rd S w u c2
 | [],cs,f,_,hf=>by simp at hf
 | u0::us,cs,f,h,hf=>by
   simp only [Rds] at h;obtain⟨d1,d2,rfl,k2,k3⟩:=h;cases f with
   | zero=>
     simp only [List.getElem?_cons_zero,Option.some.injEq] at hf;subst hf;exact⟨[],d1,d2,rfl,rfl,k2⟩
   | succ f=>
     obtain⟨c1,c2,c3,rfl,e1,e2⟩:=Rds.at us d2 f k3 (by simpa using hf);refine⟨d1++c1,c2,c3,by simp,?_,e2⟩
     have:=Rd.length u0 d1 k2
     simp only [List.length_append,List.take_succ_cons,U.szs];omega
section
variable {P:Program} {σ:St} {dst:Option Nat} {ty T:TypeId} {pos:String} {af:Array Edge} {g:Option (Nat × Bool)} {x:Operand}
theorem gIi{us:List U}{u:U}{f:Nat}(hx:σ.ev x=.d (.st us):=by rfl)(hu:us[f]? =some u:=by rfl)(hF:jDz P T f=some (U.szs (us.take f),u.isSt,u.sz):=by kernel_rfl) :
  QR P σ ⟨dst,.field T x f,ty,pos,af,g⟩ (.d u):=fun A fr' L' he _=>Quiet.pure fun S env a w hH ho=>by
 have h1:=ho x (by simp [Op.operands]);rw [he x (by simp [Op.operands]),hx] at h1;simp only [SVr] at h1;obtain⟨cs,h2,h3⟩:=h1;simp only [Rd] at h3;obtain⟨c1,c2,c3,rfl,e1,e2⟩:=Rds.at us cs f h3 hu;have e3:=Rd.length u c2 e2;unfold jDz at hF;split at hF
 ·rename_i fs hund;split at hF
  ·rename_i fd hfd;cases hty:tyI P fd.type with
   | none=>rw [hty] at hF;cases hF
   | some t3=>
     obtain⟨q1,q2,q3⟩:=t3;rw [hty] at hF;simp only [Option.map_some,Option.some.injEq,Prod.mk.injEq] at hF;obtain⟨f1,rfl,rfl⟩:=hF;refine⟨val u c2,?_,by simp only [SVr];exact⟨c2,rfl,e2⟩⟩;rw [←e1] at f1;cases hs:u.isSt with
     | true=>
       rw [hs] at hty;have hex:(c1++c2++c3).toArray.extract c1.length (c1.length+c2.length)=c2.toArray:=by
        apply Array.ext';simp
       have hv:val u c2=.agg c2.toArray:=by unfold val;rw [if_pos hs]
       have h2':a.eval x=.agg (c1++c2++c3).toArray:=h2;rw [hv,←hex];simp only [execOp,h2',Instr.field,Sem.run_bind,run_underlying hund,Result.andThen_ok,hfd,asAgg,Sem.run_pure,part,gOa hty,run_sizeOf hty,f1,←e3,if_true]
     | false=>
       rw [hs] at hty;have hl:c2.length=1:=by rw [e3];cases u<;>first | rfl | simp [U.isSt] at hs
       obtain⟨v,rfl⟩:=List.length_eq_one_iff.1 hl;have hv:val u [v]=v:=by unfold val;rw [if_neg (by rw [hs];decide)];rfl
       have h2':a.eval x=.agg (c1++[v]++c3).toArray:=h2;rw [hv];simp [execOp,h2',Instr.field,run_underlying hund,hfd,asAgg,part,gOa hty,f1]
  ·cases hF
 ·cases hF
end
end Go.Eng
set_option linter.unusedSectionVars false
namespace Go.Eng
open Go
theorem Spec.verF {P:Program} {f e z v:Nat} {args:List SV} {es0 es:List U} {g:Nat→SV} (h:Go.Eng.Spec P f args [.arr e z v es0] (fun sv Lo=>∃v',sv=g v'∧Lo=[.arr e z v' es]))
  (hg:∀(S:Nat→Prop) (hv:Value) (w:World) (v':Nat) (r:Value),SVr S [.arr e z v' es] [hv] w (g v') r→SVr S [.arr e z (v+1) es] [hv] w (g (v+1)) r) :
  Go.Eng.Spec P f args [.arr e z v es0] (fun sv Lo=>sv=g (v+1)∧Lo=[.arr e z (v+1) es]):=by
 refine⟨h.1,fun A S env w vs h1 h2 h3 h4 hH hargs=>(h.2 A S env w vs h1 h2 h3 h4 hH hargs).mono ?_⟩;rintro ex w' ⟨r,sv,S',L',env',hr,⟨v',rfl,rfl⟩,hH',hsv⟩;obtain⟨hv,rfl⟩:∃hv,env'=[hv]:=by
  have:=hH'.len
  match env',this with
  | [hv],_=>exact⟨hv,rfl⟩
 refine⟨r,_,S',_,[hv],hr,⟨rfl,rfl⟩,?_,hg S' hv w' v' r hsv⟩;refine⟨rfl,fun i o hv1 k1 k2=>?_,fun i o hv1 b k1 k2 k3 k4=>?_,fun i j o o' hv1 hv2 b k1 k2 k3 k4 k5 k6 k7 k8=>?_,hH'.sS,hH'.sA,hH'.frame,hH'.size,hH'.os,hH'.tape,hH'.output,?_,hH'.glob⟩
 ·cases i with
  | zero=>
    simp at k1 k2;subst k1;subst k2;exact hH'.objs 0 (.arr e z v' es) hv rfl rfl
  | succ i=>simp at k1
 ·cases i with
  | zero=>
    simp at k1 k3;subst k1;subst k3;exact hH'.excl 0 (.arr e z v' es) hv b rfl rfl rfl k4
  | succ i=>simp at k1
 ·cases i with
  | zero=>cases j with
    | zero=>rfl
    | succ j=>simp at k2
  | succ i=>simp at k1
 ·have hb:=hH'.base;refine⟨by simpa using hb.1,fun i hv1 o hv2 o' k1 k2 k3 k4=>?_⟩;cases i with
  | zero=>
    simp at k3 k4;subst k3;subst k4;rw [h3] at k2;simp at k2;subst k2;have hb2:=hb.2 0 hv1 (.arr e z v es0) hv (.arr e z v' es) k1 (by rw [h3];rfl) rfl rfl;refine⟨by simp [LO.ver],fun he=>by simp [LO.ver] at he,hb2.2.2⟩
  | succ i=>simp at k3
theorem hUx{S:Nat→Prop}{e z v v':Nat}{es:List U}{hv:Value}{w:World}{r:Value}(h:SVr S [.arr e z v' es] [hv] w (.sl 0 v') r):SVr S [.arr e z v es] [hv] w (.sl 0 v) r:=by
 simp only [SVr] at h ⊢;obtain⟨hv1,o,q1,q2,q3,q4,q5⟩:=h;simp at q1 q2;subst q1;subst q2;exact⟨hv,_,rfl,rfl,Nat.le_refl _,q4,fun _=>q5 rfl⟩
theorem hUy{S:Nat→Prop}{e z v v':Nat}{es:List U}{hv:Value}{w:World}{u:U}{r:Value}(h:SVr S [.arr e z v' es] [hv] w (.ag [.d u,.sl 0 v']) r):SVr S [.arr e z v es] [hv] w (.ag [.d u,.sl 0 v]) r:=by
 simp only [SVr] at h;obtain⟨xs,rfl,hxs⟩:=h
 match xs,hxs with
 | [x0,x1],hxs=>
   simp only [kK] at hxs;simp only [SVr];refine⟨[x0,x1],rfl,?_⟩;simp only [kK];refine⟨?_,hUx hxs.2.1,trivial⟩
   have:=hxs.1
   simp only [SVr] at this ⊢;exact this
end Go.Eng
