import Derived.Test.YtfaplndgbgoaaaaGreatDoorEng53
import Derived.MapKept
import Derived.Lib.AppendZeros
import Derived.Lib.AppendStr
import Derived.Laws.BytesString
import Derived.Laws.Strings2
import Derived.Laws.Strings3
set_option linter.unusedVariables false
set_option linter.unusedSimpArgs false
namespace Go.Eng
open Go Go.RowKit Go.MapKept
section
variable {P:Program} {A:Amb} {σ:St} {K:St→Prop}
variable {ops:Array Oper} {rest:List Oper} {t:Nat} {dst:Option Nat} {g:Option (Nat × Bool)} {ty:TypeId} {pos:String} {af:Array Edge} {x y z:Operand} {sv:SV} {T:TypeId}
end
theorem RdE.drop{S:Nat→Prop}{w:World}{z b:Nat}:∀(us:List U) (off k:Nat),RdE S w z b off us→RdE S w z b (off+k*z) (us.drop k)
 | us,off,0,h=>by simpa using h
 | [],_,_+1,_=>by simp [RdE]
 | u::us,off,k+1,h=>by
   simp only [RdE] at h
   simp only [List.drop_succ_cons]
   have:=RdE.drop us (off+z) k h.2
   rwa [show off+(k+1)*z=off+z+k*z by rw [Nat.add_mul];omega]
section
variable {P:Program} {σ:St} {dst:Option Nat} {ty T:TypeId} {pos:String} {af:Array Edge} {g:Option (Nat × Bool)} {x y h:Operand}
theorem gIz{α:Type}{en:α→U}{es:List α→List U}{z:Nat} [E:Enc α en es z]{e bs:Nat}{gg:Bool}{l:List α}{k:Int}(hk:0≤k∧k≤l.length) [TE P T e] [TI P e gg z bs](hx:σ.ev x=.d (.sl z (es l)):=by rfl)(hh:σ.ev h=.d (.i .i64 k):=by rfl) :
  QR P σ ⟨dst,.slice T x (some h) none none,ty,pos,af,g⟩ (.d (.sl z (es (l.drop k.toNat)))):=fun A fr' L' he _=>Quiet.pure fun S env a w hH ho=>by
 have h1:=ho x (by simp [Op.operands])
 have h2:=ho h (by simp [Op.operands])
 rw [he x (by simp [Op.operands]),hx] at h1
 rw [he h (by simp [Op.operands]),hh,SVr.int] at h2
 rw [SVr.slice] at h1
 obtain⟨hbg,base,cap,h3,h4⟩:=h1
 have hlen:(es l).length=l.length:=Enc.len l
 have htk:es (l.drop k.toNat)=(es l).drop k.toNat:=by rw [E.h,E.h,List.map_drop]
 have hT:P.underlying T=some (.slice e):=wO TE.h
 have hel:P.elem T=e:=by simp [Program.elem,hT]
 have hT':P.underlying T=some (.slice (P.elem T)):=by rw [hel];exact hT
 obtain⟨hk0,hk1⟩:=hk
 have hkn:k.toNat≤(es l).length:=by omega
 have hrun:=run_slice_l (w:=w) T base (es l).length ((es l).length+cap) hT' .i64 k hk0 (by omega)
 have hsz:=run_sizeOf (w:=w) (TI.h:tyI P e=some (gg,z,bs))
 rw [hel,hsz] at hrun
 simp only [Result.andThen] at hrun
 refine⟨sliced base k.toNat (es l).length ((es l).length+cap) z,?_,?_⟩
 ·simp [execOp,h3,h2,Instr.sliceAt,run_underlying hT,hrun]
 ·rw [SVr.slice,htk]
  have htl:((es l).drop k.toNat).length=(es l).length - k.toNat:=by rw [List.length_drop]
  refine⟨by omega,?_⟩
  have hcap:(es l).length+cap - k.toNat=(es l).length - k.toNat+cap:=by omega
  refine⟨if (es l).length+cap=k.toNat then base else base.map (·.add (k.toNat*z)),cap,?_,?_⟩
  ·rw [htl,←hcap];rfl
  ·by_cases hnil:(es l).drop k.toNat=[]
   ·exact .inl hnil
   ·right
    rcases h4 with h4 | ⟨b,off,rfl,h5,h6⟩
    ·rw [h4] at hnil;simp at hnil
    ·have hne:¬ (es l).length+cap=k.toNat:=fun e=>hnil (List.drop_eq_nil_of_le (by omega))
     refine⟨b,off+k.toNat*z,by rw [if_neg hne];simp [Addr.add_lit],h5,RdE.drop _ _ _ h6⟩
end
section
variable {P:Program} {σ:St}
end
section
variable {P:Program} {A:Amb} {ops:Array Oper} {K:St→Prop} {r:List (Nat × Bool)} {pf:PF} {fr:List (Nat × SV)} {L L':List LO} {N i t:Nat} {sv:SV}
variable {ty:TypeId} {pos:String} {af:Array Edge}
theorem gT2(hp:yG ops i L' pf)(h:VY P A ops K r pf ⟨(t,sv)::fr,L',N⟩):yG ops i L' pf∧VY P A ops K r pf ⟨(t,sv)::fr,L',N⟩:=⟨hp,h⟩
theorem gX3 {f:Operand} {fi:Nat} {caps:List SV} {args:Array Operand} {at_:Array TypeId} {cargs:List SV} {Lc:List LO} {Q:SV→List LO→Prop} (js:List Nat) (hspec:Spec P fi cargs Lc Q)
  (h:∀sv Lo,Q sv Lo→yG ops i (gHe js (Lo.map (LO.ren (rn js L.length))) L) pf∧VY P A ops K r pf ⟨(t,sv.ren (rn js L.length))::fr,gHe js (Lo.map (LO.ren (rn js L.length))) L,N⟩)
  (hi:ops[i]? =some ⟨some t,.call { callee:=.value f,args:=args,argTypes:=at_ },ty,pos,af,none⟩:=by rfl)
  (hf:(St.mk fr L N).ev f=.fn fi caps:=by rfl) (hp:gN0 L (rn js L.length) 0 Lc:=by((repeat(first | exact trivial | exact rfl | refine And.intro ?_ ?_));first | done | fail))
  (hjs:(decide js.Nodup && (js.all fun j=>Nat.blt j L.length) && js.length==Lc.length && LO.lts Lc.length Lc)=true:=by rfl)
  (hargs:AGs L (rn js L.length) Lc.length (args.toList.map (St.mk fr L N).ev++caps) cargs:=by((repeat(first | exact trivial | exact .inl ⟨rfl,rfl⟩ | exact .inr ⟨_,rfl,by((repeat(first | exact trivial | exact rfl | exact⟨_,rfl⟩ | refine And.intro ?_ ?_));first | done | fail)⟩ | refine And.intro ?_ ?_));first | done | fail))
  (ht:Nat.blt t N=true:=by rfl):VY P A ops K ((i,false)::r) pf ⟨fr,L,N⟩:=by
 refine⟨_,fun s l=>∃sv Lo,Q sv Lo∧s=sv.ren (rn js L.length)∧l=gHe js (Lo.map (LO.ren (rn js L.length))) L,hi,?_,?_⟩
 ·intro fr' he K' hK
  have hm:args.toList.map (St.mk fr' L N).ev=args.toList.map (St.mk fr L N).ev:=List.map_congr_left fun x hx=>he x (by simp only [Op.operands,Call.operands];simp;exact .inr (by simpa using hx))
  refine gG0 (caps:=caps) js hspec ?_ (by rw [he f (by simp [Op.operands,Call.operands])];exact hf) hp hjs (by rw [hm];exact hargs) ht
  intro sv Lo hq
  exact gDq (hK _ _ ⟨sv,Lo,hq,rfl,rfl⟩)
 ·rintro _ _ ⟨sv,Lo,hq,rfl,rfl⟩
  obtain⟨h1,h2⟩:=h sv Lo hq
  exact⟨h1.ok,h2⟩
theorem pG {f:Operand} {fi:Nat} {caps:List SV} {args:Array Operand} {at_:Array TypeId} {dargs:List SV} {us:List U} (hspec:jB P fi dargs us) (hv:VY P A ops K r pf ⟨(t,mkR us)::fr,L,N⟩)
  (hi:ops[i]? =some ⟨some t,.call { callee:=.value f,args:=args,argTypes:=at_ },ty,pos,af,none⟩:=by rfl) (hf:(St.mk fr L N).ev f=.fn fi caps:=by rfl)
  (hargs:VAs L (args.toList.map (St.mk fr L N).ev++caps) dargs:=by((repeat(first | exact trivial | exact rfl | exact⟨_,rfl⟩ | exact(‹∀n,SV.lts n _=true› _) | refine And.intro ?_ ?_));first | done | fail))
  (ht:Nat.blt t N=true:=by rfl) (hp:yG ops i L pf:=by(repeat(first | exact yG.nil | (apply yG.keep;focus ((repeat constructor);done)) | (apply yG.dep;focus kernel_rfl)))):VY P A ops K ((i,false)::r) pf ⟨fr,L,N⟩:=by
 refine gGd hi (fun fr' he K' hK=>?_) hp hv
 have hm:args.toList.map (St.mk fr' L N).ev=args.toList.map (St.mk fr L N).ev:=List.map_congr_left fun x hx=>he x (by simp only [Op.operands,Call.operands];simp;exact .inr (by simpa using hx))
 exact hFt (gX9 (by rw [he f (by simp [Op.operands,Call.operands])];exact hf) hspec (by simp only;rw [hm];exact hargs)) ht (gDq hK)
end
end Go.Eng
set_option linter.unusedVariables false
set_option linter.unusedSimpArgs false
namespace Go.Eng
open Go Go.RowKit
section
variable {P:Program} {A:Amb} {σ:St} {K:St→Prop} {Q:Exit→St→Prop} {ops:Array Oper} {rest:List Oper} {r:List (Nat × Bool)} {pf:PF}
end
end Go.Eng
set_option linter.unusedVariables false
set_option linter.unusedSimpArgs false
namespace Go.Eng
open Go Go.RowKit
section
variable {P:Program} {A:Amb} {σ:St} {K:St→Prop} {Q:Exit→St→Prop}
variable {ops:Array Oper} {rest:List Oper} {t:Nat} {ty:TypeId} {pos:String} {af:Array Edge} {x y:Operand} {sv:SV} {dst:Option Nat} {g:Option (Nat × Bool)}
theorem hG6{α:Type}{en:α→U}{es:List α→List U}{z:Nat} [E:Enc α en es z]{e bs ver j:Nat}{T:TypeId}{i:Int}{gg:Bool}{l:List α}(h0:0≤i)(hk:i.toNat < l.length) [TE P T e] [TI P e gg z bs](hx:σ.ev x=.sl j ver:=by rfl)(hL:σ.L[j]? =some (.arr e z ver (es l)):=by rfl)(hy:σ.ev y=.d (.i .i64 i):=by rfl) :
  Quiet P A σ ⟨dst,.indexAddr T x y,ty,pos,af,g⟩ (.ep j ver z i.toNat 0):=by
 have:=gSs (P:=P) (A:=A) (dst:=dst) (ty:=ty) (pos:=pos) (af:=af) (g:=g) hx hL hy (TE.h:tyE P T=some e) (TI.h:tyI P e=some (gg,z,bs)) h0 (by rw [Enc.len];omega)
 simpa using this
end
section
variable {P:Program} {A:Amb} {ops:Array Oper} {K:St→Prop} {r:List (Nat × Bool)} {pf:PF} {fr:List (Nat × SV)} {L L1 L':List LO} {N i t m:Nat}
variable {ty:TypeId} {pos:String} {af:Array Edge} {x y:Operand} {T:TypeId}
end
end Go.Eng
set_option linter.unusedVariables false
set_option linter.unusedSimpArgs false
namespace Go.Eng
open Go Go.RowKit
section
variable {P:Program} {A:Amb} {Q Q2:Exit→St→Prop} {c x y:Code}
theorem gD4{σ:St}(σJ:St)(h1:V P A x σ (thenS (fun s=>Le s σJ) Q))(h2:V P A y σJ Q2)(hA:A.L0.length≤σJ.L.length:=by rw [gBx.h (A:=A)];exact Nat.le_of_ble_eq_true rfl):V P A x σ (thenS (fun s=>V P A y s Q2) Q):=
 V.mono h1 (fun e s hq=>by
  cases e with
  | normal=>exact hOc hq h2 hA
  | _=>exact hq)
theorem mH.nild{a:Act}{w:World}{fr:List (Nat × SV)}{L:List LO}{N:Nat}{cs cs':List SV}{z j:Nat}(hL:L[j]? =some (.box cs))(k:Nat)(hc:cs[k]? =some .nilsl)(hcs:cs.set k (.d (.sl z []))=cs')(h:mH A ⟨fr,L,N⟩ a w):mH A ⟨fr,L.set j (.box cs'),N⟩ a w:=by
 subst hcs
 obtain⟨S,env,hH,hf,hN,hd⟩:=h
 have hj:=(List.getElem?_eq_some_iff.1 hL).1
 obtain⟨hv,he⟩:∃hv,env[j]? =some hv:=⟨_,List.getElem?_eq_getElem (by rw [hH.len];exact hj)⟩
 obtain⟨b,vals,e',r1,r2,r3,r4⟩:=hH.objs j _ hv hL he
 obtain⟨hH2,C2⟩:=hH.turnF (w':=w) j (.box cs) (.box (cs.set k (.d (.sl z [])))) hv hL rfl he rfl rfl (fun _ _=>rfl) rfl rfl rfl (fun k hk=>hk) (fun C=>⟨b,vals,e',r1,r2,by
  have r3':=jV.carry C _ _ r3
  rw [jV.iff] at r3' ⊢
  obtain⟨v,v1,v2⟩:=wB.get ((jV.iff _ _).1 r3) k _ hc
  simp only [SVr] at v2
  subst v2
  have hset:=wB.set k (.d (.sl z [])) (.slice none 0 0) r3' (by
   simp only [SVr]
   exact⟨[.slice none 0 0],rfl,by simp [Rd]⟩)
  have hk:k < vals.toList.length:=(List.getElem?_eq_some_iff.1 v1).1
  have:vals.toList.set k (.slice none 0 0)=vals.toList:=by
   apply List.ext_getElem?
   intro m
   rw [List.getElem?_set]
   by_cases hm:k=m
   ·subst hm;rw [if_pos rfl,if_pos hk,v1]
   ·rw [if_neg hm]
  rwa [this] at hset,r4⟩)
 exact⟨S,_,hH2,fun t=>SVr.carry C2 _ _ (hf t),hN,hd⟩
theorem gQ6{fr:List (Nat × SV)}{L L1:List LO}{N:Nat}{cs cs':List SV}(z j k:Nat)(hL:L[j]? =some (.box cs))(hc:cs[k]? =some .nilsl)(hcs:St1 (.d (.sl z [])) k cs cs')(h1:St1 (.box cs') j L L1)(h:V P A c ⟨fr,L1,N⟩ Q):V P A c ⟨fr,L,N⟩ Q:=by
 have e2:=hcs.spec
 have e3:=h1.spec
 subst e2;subst e3
 exact fun a w hr=>h a w (hr.nild hL k hc rfl)
end
end Go.Eng
set_option linter.unusedVariables false
set_option linter.unusedSimpArgs false
namespace Go.Eng
open Go Go.RowKit
section
variable {P:Program} {A:Amb} {σ:St} {K:St→Prop} {Q:Exit→St→Prop}
variable {ops:Array Oper} {rest:List Oper} {x y:Operand}
end
end Go.Eng
set_option linter.unusedVariables false
set_option linter.unusedSimpArgs false
namespace Go.Eng
open Go Go.RowKit
section
variable {P:Program} {A:Amb} {σ:St} {K:St→Prop}
variable {ops:Array Oper} {rest:List Oper}
end
end Go.Eng
set_option linter.unusedVariables false
set_option linter.unusedSimpArgs false
namespace Go.Eng
open Go Go.RowKit
section
variable {P:Program} {A:Amb} {σ:St} {K:St→Prop}
variable {ops:Array Oper} {rest:List Oper} {x y:Operand} {dst:Option Nat} {g:Option (Nat × Bool)} {ty:TypeId} {pos:String} {af:Array Edge}
end
end Go.Eng
set_option linter.unusedVariables false
set_option linter.unusedSimpArgs false
namespace Go.Eng
open Go Go.RowKit
section
variable {P:Program} {A:Amb} {σ:St} {K:St→Prop} {Q:Exit→St→Prop}
end
section
end
section
variable {P:Program} {A:Amb} {ops:Array Oper} {K:St→Prop} {r:List (Nat × Bool)} {pf:PF} {fr:List (Nat × SV)} {L L1 L':List LO} {N i t m:Nat}
variable {ty:TypeId} {pos:String} {af:Array Edge} {x y:Operand} {T:TypeId}
end
section
variable {P:Program} {A:Amb} {ops:Array Oper} {K:St→Prop} {t:OT} {pf:PF} {fr:List (Nat × SV)} {L:List LO} {N i d:Nat} {b:Bool} {op:Op} {ty:TypeId} {pos:String} {af:Array Edge} {sv:SV}
theorem hOt(hi:ops[i]? =some ⟨some d,op,ty,pos,af,none⟩)(hq:QR P ⟨fr,[],N⟩ ⟨some d,op,ty,pos,af,none⟩ sv)(h:VT P A ops K t ((i,[])::pf) ⟨(d,sv)::fr,L,N⟩ false)(hd:Nat.blt d N=true:=by rfl):VT P A ops K (.q i t) pf ⟨fr,L,N⟩ b:=
 ⟨_,sv,[],hi,⟨fun d' hd'=>by cases hd';exact hd,fun k cs hk=>by simp at hk,.inl ⟨rfl,fun fr' L' he _=>hq A fr' L' (fun x hx=>(he x hx).trans (by cases x<;>rfl)) (fun k cs hk=>by simp at hk)⟩⟩,h⟩
end
end Go.Eng
set_option linter.unusedVariables false
set_option linter.unusedSimpArgs false
namespace Go.Eng
open Go Go.RowKit
structure uE where
 s:List UInt8
 at_:Int
 deep:Int
 size:Int
 bad:Bool
section
variable {P:Program} {σ:St} {dst:Option Nat} {ty T:TypeId} {pos:String} {af:Array Edge} {g:Option (Nat × Bool)} {x lo hi:Operand}
theorem hCq [TS P T]{l:List UInt8}{i j:Int}(hk:0≤i∧i≤j∧j≤(l.length:Int))(hx:σ.ev x=.d (.s l):=by rfl)(hi_:σ.ev lo=.d (.i .i64 i):=by rfl)(hj:σ.ev hi=.d (.i .i64 j):=by rfl) :
  QR P σ ⟨dst,.slice T x (some lo) (some hi) none,ty,pos,af,g⟩ (.d (.s ((l.drop i.toNat).take (j.toNat - i.toNat)))):=fun A fr' L' he _=>Quiet.pure fun S env a w hH ho=>by
 have h1:=ho x (by simp [Op.operands])
 have h2:=ho lo (by simp [Op.operands])
 have h3:=ho hi (by simp [Op.operands])
 rw [he x (by simp [Op.operands]),hx] at h1
 rw [he lo (by simp [Op.operands]),hi_,SVr.int] at h2
 rw [he hi (by simp [Op.operands]),hj,SVr.int] at h3
 obtain⟨hb,h1⟩:=SVr.str.1 h1
 obtain⟨k0,k1,k2⟩:=hk
 have hsz:(ByteArray.mk l.toArray).size=l.length:=by simp [ByteArray.size]
 have hrun:=run_slice_string (P:=P) (w:=w) T (ByteArray.mk l.toArray) .i64 .i64 i j TS.h k0 k1 (by rw [hsz];exact k2)
 rw [ByteArray.extract_mk] at hrun
 refine⟨.string ⟨((l.drop i.toNat).take (j.toNat - i.toNat)).toArray⟩,?_,SVr.str.2 ⟨?_,rfl⟩⟩
 ·simp [execOp,h1,h2,h3,Instr.sliceAt,run_underlying TS.h,hrun]
 ·have:((l.drop i.toNat).take (j.toNat - i.toNat)).length≤l.length:=by simp;omega
  omega
theorem hCr [TS P T]{l:List UInt8}{i:Int}(hk:0≤i∧i≤(l.length:Int))(hx:σ.ev x=.d (.s l):=by rfl)(hi_:σ.ev lo=.d (.i .i64 i):=by rfl) :
  QR P σ ⟨dst,.slice T x (some lo) none none,ty,pos,af,g⟩ (.d (.s (l.drop i.toNat))):=fun A fr' L' he _=>Quiet.pure fun S env a w hH ho=>by
 have h1:=ho x (by simp [Op.operands])
 have h2:=ho lo (by simp [Op.operands])
 rw [he x (by simp [Op.operands]),hx] at h1
 rw [he lo (by simp [Op.operands]),hi_,SVr.int] at h2
 obtain⟨hb,h1⟩:=SVr.str.1 h1
 have hsz:(ByteArray.mk l.toArray).size=l.length:=by simp [ByteArray.size]
 have hrun:=run_slice_string_from_if (P:=P) (w:=w) T (ByteArray.mk l.toArray) .i64 i TS.h
 rw [if_pos (by rw [hsz];exact hk),ByteArray.extract_mk,hsz,←List.length_drop,List.take_length] at hrun
 refine⟨.string ⟨(l.drop i.toNat).toArray⟩,?_,SVr.str.2 ⟨?_,rfl⟩⟩
 ·simp [execOp,h1,h2,Instr.sliceAt,run_underlying TS.h,hrun]
 ·have:(l.drop i.toNat).length≤l.length:=by simp
  omega
theorem hCt{α:Type}{en:α→U}{es:List α→List U}{z:Nat} [E:Enc α en es z]{e bs:Nat}{gg:Bool}{l:List α}{i j:Int}(hk:0≤i∧i≤j∧j≤(l.length:Int)) [TE P T e] [TI P e gg z bs](hx:σ.ev x=.d (.sl z (es l)):=by rfl)(hi_:σ.ev lo=.d (.i .i64 i):=by rfl)(hj:σ.ev hi=.d (.i .i64 j):=by rfl) :
  QR P σ ⟨dst,.slice T x (some lo) (some hi) none,ty,pos,af,g⟩ (.d (.sl z (es ((l.drop i.toNat).take (j.toNat - i.toNat))))):=fun A fr' L' he _=>Quiet.pure fun S env a w hH ho=>by
 have h1:=ho x (by simp [Op.operands])
 have h2:=ho lo (by simp [Op.operands])
 have h2':=ho hi (by simp [Op.operands])
 rw [he x (by simp [Op.operands]),hx] at h1
 rw [he lo (by simp [Op.operands]),hi_,SVr.int] at h2
 rw [he hi (by simp [Op.operands]),hj,SVr.int] at h2'
 rw [SVr.slice] at h1
 obtain⟨hbg,base,cap,h3,h4⟩:=h1
 have hlen:(es l).length=l.length:=Enc.len l
 have htk:es ((l.drop i.toNat).take (j.toNat - i.toNat))=((es l).drop i.toNat).take (j.toNat - i.toNat):=by rw [E.h,E.h,List.map_take,List.map_drop]
 have hT:P.underlying T=some (.slice e):=wO TE.h
 have hel:P.elem T=e:=by simp [Program.elem,hT]
 have hT':P.underlying T=some (.slice (P.elem T)):=by rw [hel];exact hT
 obtain⟨hk0,hk1,hk2⟩:=hk
 have hrun:=run_slice_lh (w:=w) T base (es l).length ((es l).length+cap) hT' .i64 .i64 i j hk0 hk1 (by omega)
 have hsz:=run_sizeOf (w:=w) (TI.h:tyI P e=some (gg,z,bs))
 rw [hel,hsz] at hrun
 simp only [Result.andThen] at hrun
 refine⟨sliced base i.toNat j.toNat ((es l).length+cap) z,?_,?_⟩
 ·simp [execOp,h3,h2,h2',Instr.sliceAt,run_underlying hT,hrun]
 ·rw [SVr.slice,htk]
  have htl:(((es l).drop i.toNat).take (j.toNat - i.toNat)).length=j.toNat - i.toNat:=by rw [List.length_take,List.length_drop];omega
  refine⟨by omega,if (es l).length+cap=i.toNat then base else base.map (·.add (i.toNat*z)),(es l).length+cap - j.toNat,?_,?_⟩
  ·rw [htl,show j.toNat - i.toNat+((es l).length+cap - j.toNat)=(es l).length+cap - i.toNat by omega];rfl
  ·by_cases hnil:((es l).drop i.toNat).take (j.toNat - i.toNat)=[]
   ·exact .inl hnil
   ·right
    rcases h4 with h4 | ⟨b,off,rfl,h5,h6⟩
    ·rw [h4] at hnil;simp at hnil
    ·have hne:¬ (es l).length+cap=i.toNat:=fun e=>hnil (by rw [List.drop_eq_nil_of_le (by omega)];simp)
     refine⟨b,off+i.toNat*z,by rw [if_neg hne];simp [Addr.add_lit],h5,RdE.take _ _ _ (RdE.drop _ _ _ h6)⟩
end
def hRf(P:Program)(T:TypeId)(f:Nat):Option (Nat × Bool × Nat):=
 match P.underlying T with
 | some (.struct fs)=>match fs[f]? with
   | some fd=>(tyI P fd.type).map fun x=>(fd.offset,x.1,x.2.1)
   | none=>none
 | _=>none
theorem Rds.at{S:Nat→Prop}{w:World}{u:U}:∀(us:List U) (cs:List Value) (f:Nat),Rds S w us cs→us[f]? =some u→∃c1 c2 c3,cs=c1++c2++c3∧c1.length=U.szs (us.take f)∧Rd S w u c2
 | [],cs,f,_,hf=>by simp at hf
 | u0::us,cs,f,h,hf=>by
   simp only [Rds] at h
   obtain⟨d1,d2,rfl,k2,k3⟩:=h
   cases f with
   | zero=>
     simp only [List.getElem?_cons_zero,Option.some.injEq] at hf
     subst hf
     exact⟨[],d1,d2,rfl,rfl,k2⟩
   | succ f=>
     obtain⟨c1,c2,c3,rfl,e1,e2⟩:=Rds.at us d2 f k3 (by simpa using hf)
     refine⟨d1++c1,c2,c3,by simp,?_,e2⟩
     have:=Rd.length u0 d1 k2
     simp only [List.length_append,List.take_succ_cons,U.szs]
     omega
section
variable {P:Program} {σ:St} {dst:Option Nat} {ty T:TypeId} {pos:String} {af:Array Edge} {g:Option (Nat × Bool)} {x:Operand}
theorem gFv{us:List U}{u:U}{f:Nat}(hx:σ.ev x=.d (.st us):=by rfl)(hu:us[f]? =some u:=by rfl)(hF:hRf P T f=some (U.szs (us.take f),u.isSt,u.sz):=by kernel_rfl) :
  QR P σ ⟨dst,.field T x f,ty,pos,af,g⟩ (.d u):=fun A fr' L' he _=>Quiet.pure fun S env a w hH ho=>by
 have h1:=ho x (by simp [Op.operands])
 rw [he x (by simp [Op.operands]),hx] at h1
 simp only [SVr] at h1
 obtain⟨cs,h2,h3⟩:=h1
 simp only [Rd] at h3
 obtain⟨c1,c2,c3,rfl,e1,e2⟩:=Rds.at us cs f h3 hu
 have e3:=Rd.length u c2 e2
 unfold hRf at hF
 split at hF
 ·rename_i fs hund
  split at hF
  ·rename_i fd hfd
   cases hty:tyI P fd.type with
   | none=>rw [hty] at hF;cases hF
   | some t3=>
     obtain⟨q1,q2,q3⟩:=t3
     rw [hty] at hF
     simp only [Option.map_some,Option.some.injEq,Prod.mk.injEq] at hF
     obtain⟨f1,rfl,rfl⟩:=hF
     refine⟨val u c2,?_,by simp only [SVr];exact⟨c2,rfl,e2⟩⟩
     rw [←e1] at f1
     cases hs:u.isSt with
     | true=>
       rw [hs] at hty
       have hex:(c1++c2++c3).toArray.extract c1.length (c1.length+c2.length)=c2.toArray:=by
        apply Array.ext'
        simp
       have hv:val u c2=.agg c2.toArray:=by unfold val;rw [if_pos hs]
       have h2':a.eval x=.agg (c1++c2++c3).toArray:=h2
       rw [hv,←hex]
       simp only [execOp,h2',Instr.field,Sem.run_bind,run_underlying hund,Result.andThen_ok,hfd,asAgg,Sem.run_pure,part,gJ7 hty,run_sizeOf hty,f1,←e3,if_true]
     | false=>
       rw [hs] at hty
       have hl:c2.length=1:=by rw [e3];cases u<;>first | rfl | simp [U.isSt] at hs
       obtain⟨v,rfl⟩:=List.length_eq_one_iff.1 hl
       have hv:val u [v]=v:=by unfold val;rw [if_neg (by rw [hs];decide)];rfl
       have h2':a.eval x=.agg (c1++[v]++c3).toArray:=h2
       rw [hv]
       simp [execOp,h2',Instr.field,run_underlying hund,hfd,asAgg,part,gJ7 hty,f1]
  ·cases hF
 ·cases hF
end
end Go.Eng
set_option linter.unusedVariables false
set_option linter.unusedSimpArgs false
set_option linter.unusedSectionVars false
namespace Go.Eng
open Go
theorem Spec.verF {P:Program} {f e z v:Nat} {args:List SV} {es0 es:List U} {g:Nat→SV} (h:Go.Eng.Spec P f args [.arr e z v es0] (fun sv Lo=>∃v',sv=g v'∧Lo=[.arr e z v' es]))
  (hg:∀(S:Nat→Prop) (hv:Value) (w:World) (v':Nat) (r:Value),SVr S [.arr e z v' es] [hv] w (g v') r→SVr S [.arr e z (v+1) es] [hv] w (g (v+1)) r) :
  Go.Eng.Spec P f args [.arr e z v es0] (fun sv Lo=>sv=g (v+1)∧Lo=[.arr e z (v+1) es]):=by
 refine⟨h.1,fun A S env w vs h1 h2 h3 h4 hH hargs=>(h.2 A S env w vs h1 h2 h3 h4 hH hargs).mono ?_⟩
 rintro ex w' ⟨r,sv,S',L',env',hr,⟨v',rfl,rfl⟩,hH',hsv⟩
 obtain⟨hv,rfl⟩:∃hv,env'=[hv]:=by
  have:=hH'.len
  match env',this with
  | [hv],_=>exact⟨hv,rfl⟩
 refine⟨r,_,S',_,[hv],hr,⟨rfl,rfl⟩,?_,hg S' hv w' v' r hsv⟩
 refine⟨rfl,fun i o hv1 k1 k2=>?_,fun i o hv1 b k1 k2 k3 k4=>?_,fun i j o o' hv1 hv2 b k1 k2 k3 k4 k5 k6 k7 k8=>?_,hH'.sS,hH'.sA,hH'.frame,hH'.size,hH'.os,hH'.tape,hH'.output,?_,hH'.glob⟩
 ·cases i with
  | zero=>
    simp at k1 k2;subst k1;subst k2
    exact hH'.objs 0 (.arr e z v' es) hv rfl rfl
  | succ i=>simp at k1
 ·cases i with
  | zero=>
    simp at k1 k3;subst k1;subst k3
    exact hH'.excl 0 (.arr e z v' es) hv b rfl rfl rfl k4
  | succ i=>simp at k1
 ·cases i with
  | zero=>cases j with
    | zero=>rfl
    | succ j=>simp at k2
  | succ i=>simp at k1
 ·have hb:=hH'.base
  refine⟨by simpa using hb.1,fun i hv1 o hv2 o' k1 k2 k3 k4=>?_⟩
  cases i with
  | zero=>
    simp at k3 k4;subst k3;subst k4
    rw [h3] at k2
    simp at k2;subst k2
    have hb2:=hb.2 0 hv1 (.arr e z v es0) hv (.arr e z v' es) k1 (by rw [h3];rfl) rfl rfl
    refine⟨by simp [LO.ver],fun he=>by simp [LO.ver] at he,hb2.2.2⟩
  | succ i=>simp at k3
theorem hG7{S:Nat→Prop}{e z v v':Nat}{es:List U}{hv:Value}{w:World}{r:Value}(h:SVr S [.arr e z v' es] [hv] w (.sl 0 v') r):SVr S [.arr e z v es] [hv] w (.sl 0 v) r:=by
 simp only [SVr] at h ⊢
 obtain⟨hv1,o,q1,q2,q3,q4,q5⟩:=h
 simp at q1 q2
 subst q1;subst q2
 exact⟨hv,_,rfl,rfl,Nat.le_refl _,q4,fun _=>q5 rfl⟩
theorem hG8{S:Nat→Prop}{e z v v':Nat}{es:List U}{hv:Value}{w:World}{u:U}{r:Value}(h:SVr S [.arr e z v' es] [hv] w (.ag [.d u,.sl 0 v']) r):SVr S [.arr e z v es] [hv] w (.ag [.d u,.sl 0 v]) r:=by
 simp only [SVr] at h
 obtain⟨xs,rfl,hxs⟩:=h
 match xs,hxs with
 | [x0,x1],hxs=>
   simp only [jV] at hxs
   simp only [SVr]
   refine⟨[x0,x1],rfl,?_⟩
   simp only [jV]
   refine⟨?_,hG7 hxs.2.1,trivial⟩
   have:=hxs.1
   simp only [SVr] at this ⊢
   exact this
end Go.Eng
set_option linter.unusedVariables false
set_option linter.unusedSimpArgs false
set_option linter.unusedSectionVars false
namespace Go.Eng
open Go
mutual
inductive DzS (L:List LO):SV→SV→Prop
 | frz {i v e z:Nat} {es:List U} (h:L[i]? =some (.frz e z v es)):DzS L (.sl i v) (.d (.sl z es))
 | same {sv:SV}:DzS L sv sv
 | ag {cs ds:List SV} (h:gZm L cs ds):DzS L (.ag cs) (.ag ds)
inductive gZm (L:List LO):List SV→List SV→Prop
 | nil:gZm L [] []
 | cons {a b:SV} {az bs:List SV} (h:DzS L a b) (h2:gZm L az bs):gZm L (a::az) (b::bs)
end
inductive DzO (L:List LO):LO→LO→Prop
 | box {cs ds:List SV} (h:gZm L cs ds):DzO L (.box cs) (.box ds)
 | same {o:LO}:DzO L o o
inductive DzL (L:List LO):List LO→List LO→Prop
 | nil:DzL L [] []
 | cons {a b:LO} {az bs:List LO} (h:DzO L a b) (h2:DzL L az bs):DzL L (a::az) (b::bs)
inductive DzF (L:List LO):List (Nat × SV)→List (Nat × SV)→Prop
 | nil:DzF L [] []
 | cons {t:Nat} {a b:SV} {az bs:List (Nat × SV)} (h:DzS L a b) (h2:DzF L az bs):DzF L ((t,a)::az) ((t,b)::bs)
section
variable {A:Amb} {S:Nat→Prop} {L L':List LO} {env:List Value} {w:World}
mutual
theorem DzS.r(hH:mQ A S L env w):∀{a b:SV} {x:Value},DzS L a b→SVr S L env w a x→SVr S L env w b x
 | _,_,x,.frz h,hx=>by
   simp only [SVr] at hx
   obtain⟨hv,o,k1,k2,k3,k4,k5⟩:=hx
   rw [h] at k2
   obtain rfl:=Option.some.inj k2
   have:=hH.objs _ _ _ h k1
   rw [k5 rfl]
   simp only [SVr]
   exact this
 | _,_,x,.same,hx=>hx
 | _,_,x,.ag hs,hx=>by
   simp only [SVr] at hx ⊢
   obtain⟨vs,h1,h2⟩:=hx
   exact⟨vs,h1,gZm.r hH hs h2⟩
theorem gZm.r(hH:mQ A S L env w):∀{az bs:List SV} {xs:List Value},gZm L az bs→jV S L env w az xs→jV S L env w bs xs
 | _,_,[],.nil,h=>by simp only [jV]
 | _,_,_::_,.nil,h=>by simp only [jV] at h
 | _,_,[],.cons _ _,h=>by simp only [jV] at h
 | _,_,_::_,.cons h1 h2,h=>by
   simp only [jV] at h ⊢
   exact⟨DzS.r hH h1 h.1,gZm.r hH h2 h.2⟩
end
theorem DzL.get{L0:List LO}:∀{az bs:List LO},DzL L0 az bs→az.length=bs.length∧∀(m:Nat) (b:LO),bs[m]? =some b→∃a,az[m]? =some a∧DzO L0 a b
 | _,_,.nil=>⟨rfl,fun m b h=>by simp at h⟩
 | _,_,.cons (a:=a0) h h2=>by
   obtain⟨k1,k2⟩:=DzL.get h2
   refine⟨by simp [k1],fun m b hb=>?_⟩
   cases m with
   | zero=>simp at hb;subst hb;exact⟨a0,by simp,h⟩
   | succ m=>
     obtain⟨a,q1,q2⟩:=k2 m b (by simpa using hb)
     exact⟨a,by simpa using q1,q2⟩
theorem DzF.look{L0:List LO}:∀{az bs:List (Nat × SV)},DzF L0 az bs→∀t,DzS L0 (Go.Eng.look az t) (Go.Eng.look bs t)
 | _,_,.nil,t=>.same
 | _,_,.cons (t:=t0) h h2,t=>by
   simp only [Go.Eng.look]
   by_cases ht:t=t0
   ·simp only [ht,if_true];exact h
   ·simp only [if_neg ht];exact DzF.look h2 t
theorem mH.dz{a:Act}{fr fr':List (Nat × SV)}{N:Nat}(hL:DzL L L L')(hfr:DzF L fr fr')(h:mH A ⟨fr,L,N⟩ a w):mH A ⟨fr',L',N⟩ a w:=by
 obtain⟨S,env,hH,hf,hN,hd⟩:=h
 obtain⟨hlen,hget⟩:=hL.get
 have hback:∀(m:Nat) (o:LO),L[m]? =some o→∃o',L'[m]? =some o'∧DzO L o o':=by
  intro m o ho
  have hm:m < L'.length:=by rw [←hlen];exact(List.getElem?_eq_some_iff.1 ho).1
  obtain⟨o0,k1,k2⟩:=hget m _ (List.getElem?_eq_getElem hm)
  rw [ho] at k1
  obtain rfl:=Option.some.inj k1
  exact⟨_,List.getElem?_eq_getElem hm,k2⟩
 have hver:∀{o o':LO},DzO L o o'→o'.ver=o.ver∧o'.live=o.live∧∀hv b,o'.ft w hv b↔o.ft w hv b:=by
  intro o o' h
  cases h with
  | _=>exact⟨rfl,rfl,fun _ _=>Iff.rfl⟩
 have C:Carry S L env w S L' env w:=⟨fun _ h _=>h,fun _ _ _=>rfl,fun _ _ h=>h,fun i hv o h1 h2=>by
  obtain⟨o',k1,k2⟩:=hback i o h2
  exact⟨hv,o',h1,k1,by rw [(hver k2).1];exact Nat.le_refl _,fun _=>rfl⟩⟩
 refine⟨S,env,⟨by rw [←hlen];exact hH.len,fun i o' hv h1 h2=>?_,fun i o' hv b h1 h2 h3 h4=>?_,fun i k o1 o2 hv1 hv2 b h1 h2 h3 h4 h5 h6 h7 h8=>?_,hH.sS,hH.sA,hH.frame,hH.size,hH.os,hH.tape,hH.output,?_,hH.glob⟩,fun t=>SVr.carry C _ _ (DzS.r hH (hfr.look t) (hf t)),hN,hd⟩
 ·obtain⟨o,k1,k2⟩:=hget i o' h1
  have hob:=hH.objs i o hv k1 h2
  cases k2 with
  | same=>exact gE5.carry C (fun _ _ _=>rfl) hob
  | box hs=>
    obtain⟨b,vals,e,r1,r2,r3,r4⟩:=hob
    exact gE5.carry C (fun _ _ _=>rfl) (show gE5 S L env w _ hv from⟨b,vals,e,r1,r2,gZm.r hH hs r3,r4⟩)
 ·obtain⟨o,k1,k2⟩:=hget i o' h1
  obtain⟨_,q1,q2⟩:=hver k2
  exact hH.excl i o hv b k1 (by rw [←q1];exact h2) h3 ((q2 hv b).1 h4)
 ·obtain⟨p1,k1,k2⟩:=hget i o1 h1
  obtain⟨p2,k3,k4⟩:=hget k o2 h2
  obtain⟨_,q1,q2⟩:=hver k2
  obtain⟨_,q3,q4⟩:=hver k4
  exact hH.dist i k p1 p2 hv1 hv2 b k1 k3 (by rw [←q1];exact h3) (by rw [←q3];exact h4) h5 h6 ((q2 _ _).1 h7) ((q4 _ _).1 h8)
 ·refine⟨by rw [←hlen];exact hH.base.1,fun i hv o hv' o' h1 h2 h3 h4=>?_⟩
  obtain⟨o0,k1,k2⟩:=hget i o' h4
  have:=hH.base.2 i hv o hv' o0 h1 h2 h3 k1
  rw [(hver k2).1]
  exact this
end
section
variable {P:Program} {A:Amb} {ops:Array Oper} {K:St→Prop} {r:List (Nat × Bool)} {pf:PF} {fr fr':List (Nat × SV)} {L L':List LO} {N i m t:Nat} {rest:List Oper} {Q:Exit→St→Prop}
variable {ty T:TypeId} {pos:String} {af:Array Edge}
theorem hKg {c:Code} (h:V P A c ⟨fr',L',N⟩ Q) (hL:DzL L L L':=by(repeat(first | exact DzS.frz rfl | refine DzS.ag ?_ | exact DzS.same | refine DzO.box ?_ | exact DzO.same | constructor));first | done | fail)
  (hfr:DzF L fr fr':=by(repeat(first | exact DzS.frz rfl | refine DzS.ag ?_ | exact DzS.same | constructor));first | done | fail):V P A c ⟨fr,L,N⟩ Q:=fun a w hr=>h a w (hr.dz hL hfr)
theorem gX4 (h:VO P A ops rest ⟨fr',L',N⟩ K) (hL:DzL L L L':=by(repeat(first | exact DzS.frz rfl | refine DzS.ag ?_ | exact DzS.same | refine DzO.box ?_ | exact DzO.same | constructor));first | done | fail)
  (hfr:DzF L fr fr':=by(repeat(first | exact DzS.frz rfl | refine DzS.ag ?_ | exact DzS.same | constructor));first | done | fail):VO P A ops rest ⟨fr,L,N⟩ K:=fun R hR a w hr=>h R hR a w (hr.dz hL hfr)
theorem gT3 {e z bs:Nat} {gg:Bool} [TE P T e] [TI P e gg z bs] (h:VY P A ops K r pf ⟨(t,.sl m 0)::fr,L',N⟩) (hi:ops[i]? =some ⟨some t,.buildSlice T 0 #[],ty,pos,af,none⟩:=by rfl) (ht:Nat.blt t N=true:=by rfl) (hL':Sn (.arr e z 0 []) L m L':=by repeat constructor)
  (hp:yG ops i L' pf:=by(repeat(first | exact yG.nil | (apply yG.keep;focus ((repeat constructor);done)) | (apply yG.dep;focus kernel_rfl)))):VY P A ops K ((i,false)::r) pf ⟨fr,L,N⟩:=
 gGd hi (fun fr' he' K' hK=>zN (gDq hK) ht hL') hp h
end
section
variable {P:Program} {σ:St} {dst:Option Nat} {ty T:TypeId} {pos:String} {af:Array Edge} {g:Option (Nat × Bool)} {x:Operand}
theorem hG9{t:Bool}(hx:σ.ev x=.d (.b t):=by rfl):QR P σ ⟨dst,.unOp .not T x,ty,pos,af,g⟩ (.d (.b (!t))):=fun A fr' L' he _=>hDy (by rw [he x (by simp [Op.operands])];exact hx)
end
end Go.Eng
set_option linter.unusedVariables false
set_option linter.unusedSectionVars false
namespace Go.Eng
open Go
section
variable {P:Program} {A:Amb} {ops:Array Oper} {K:St→Prop} {Q:Exit→St→Prop} {rest:List Oper} {σ:St} {c:Code}
theorem gX5 {α0 α1 α2 α3 α4 α5 α6 α7 α8:Type} (I:α0→α1→α2→α3→α4→α5→α6→α7→α8→St) (J:α0→α1→α2→α3→α4→α5→α6→α7→α8→Prop) (μ:α0→α1→α2→α3→α4→α5→α6→α7→α8→Nat) (x0:α0) (x1:α1) (x2:α2) (x3:α3) (x4:α4) (x5:α5) (x6:α6) (x7:α7) (x8:α8) (h0:Le σ (I x0 x1 x2 x3 x4 x5 x6 x7 x8)) (hJ:J x0 x1 x2 x3 x4 x5 x6 x7 x8)
  (round:∀a0 a1 a2 a3 a4 a5 a6 a7 a8,J a0 a1 a2 a3 a4 a5 a6 a7 a8→V P A c (I a0 a1 a2 a3 a4 a5 a6 a7 a8) (thenS (fun s=>∃b0 b1 b2 b3 b4 b5 b6 b7 b8,J b0 b1 b2 b3 b4 b5 b6 b7 b8∧μ b0 b1 b2 b3 b4 b5 b6 b7 b8 < μ a0 a1 a2 a3 a4 a5 a6 a7 a8∧Le s (I b0 b1 b2 b3 b4 b5 b6 b7 b8)) Q)) (hA:∀a0 a1 a2 a3 a4 a5 a6 a7 a8,A.L0.length≤(I a0 a1 a2 a3 a4 a5 a6 a7 a8).L.length:=by intros;rw [gBx.h (A:=A)];exact Nat.le_of_ble_eq_true rfl):V P A (.loop c) σ Q:=
 gK9 (α:=α0 × α1 × α2 × α3 × α4 × α5 × α6 × α7 × α8) (fun x=>I (x.1) (x.2.1) (x.2.2.1) (x.2.2.2.1) (x.2.2.2.2.1) (x.2.2.2.2.2.1) (x.2.2.2.2.2.2.1) (x.2.2.2.2.2.2.2.1) (x.2.2.2.2.2.2.2.2)) (fun x=>J (x.1) (x.2.1) (x.2.2.1) (x.2.2.2.1) (x.2.2.2.2.1) (x.2.2.2.2.2.1) (x.2.2.2.2.2.2.1) (x.2.2.2.2.2.2.2.1) (x.2.2.2.2.2.2.2.2)) (fun x=>μ (x.1) (x.2.1) (x.2.2.1) (x.2.2.2.1) (x.2.2.2.2.1) (x.2.2.2.2.2.1) (x.2.2.2.2.2.2.1) (x.2.2.2.2.2.2.2.1) (x.2.2.2.2.2.2.2.2)) (x0,x1,x2,x3,x4,x5,x6,x7,x8) h0 hJ (fun x hx=>V.mono (round (x.1) (x.2.1) (x.2.2.1) (x.2.2.2.1) (x.2.2.2.2.1) (x.2.2.2.2.2.1) (x.2.2.2.2.2.2.1) (x.2.2.2.2.2.2.2.1) (x.2.2.2.2.2.2.2.2) hx) (fun e s hq=>by
  cases e with
  | normal=>
    obtain⟨b0,b1,b2,b3,b4,b5,b6,b7,b8,h1,h2,h3⟩:=hq
    exact⟨(b0,b1,b2,b3,b4,b5,b6,b7,b8),h1,h2,h3⟩
  | _=>exact hq)) (fun x=>hA (x.1) (x.2.1) (x.2.2.1) (x.2.2.2.1) (x.2.2.2.2.1) (x.2.2.2.2.2.1) (x.2.2.2.2.2.2.1) (x.2.2.2.2.2.2.2.1) (x.2.2.2.2.2.2.2.2))
theorem hA6 {α0 α1 α2 α3 α4 α5 α6 α7 α8 α9 α10 α11 α12:Type} (I:α0→α1→α2→α3→α4→α5→α6→α7→α8→α9→α10→α11→α12→St) (J:α0→α1→α2→α3→α4→α5→α6→α7→α8→α9→α10→α11→α12→Prop) (μ:α0→α1→α2→α3→α4→α5→α6→α7→α8→α9→α10→α11→α12→Nat) (x0:α0) (x1:α1) (x2:α2) (x3:α3) (x4:α4) (x5:α5) (x6:α6) (x7:α7) (x8:α8) (x9:α9) (x10:α10) (x11:α11) (x12:α12) (h0:Le σ (I x0 x1 x2 x3 x4 x5 x6 x7 x8 x9 x10 x11 x12)) (hJ:J x0 x1 x2 x3 x4 x5 x6 x7 x8 x9 x10 x11 x12)
  (round:∀a0 a1 a2 a3 a4 a5 a6 a7 a8 a9 a10 a11 a12,J a0 a1 a2 a3 a4 a5 a6 a7 a8 a9 a10 a11 a12→V P A c (I a0 a1 a2 a3 a4 a5 a6 a7 a8 a9 a10 a11 a12) (thenS (fun s=>∃b0 b1 b2 b3 b4 b5 b6 b7 b8 b9 b10 b11 b12,J b0 b1 b2 b3 b4 b5 b6 b7 b8 b9 b10 b11 b12∧μ b0 b1 b2 b3 b4 b5 b6 b7 b8 b9 b10 b11 b12 < μ a0 a1 a2 a3 a4 a5 a6 a7 a8 a9 a10 a11 a12∧Le s (I b0 b1 b2 b3 b4 b5 b6 b7 b8 b9 b10 b11 b12)) Q)) (hA:∀a0 a1 a2 a3 a4 a5 a6 a7 a8 a9 a10 a11 a12,A.L0.length≤(I a0 a1 a2 a3 a4 a5 a6 a7 a8 a9 a10 a11 a12).L.length:=by intros;rw [gBx.h (A:=A)];exact Nat.le_of_ble_eq_true rfl):V P A (.loop c) σ Q:=
 gK9 (α:=α0 × α1 × α2 × α3 × α4 × α5 × α6 × α7 × α8 × α9 × α10 × α11 × α12) (fun x=>I (x.1) (x.2.1) (x.2.2.1) (x.2.2.2.1) (x.2.2.2.2.1) (x.2.2.2.2.2.1) (x.2.2.2.2.2.2.1) (x.2.2.2.2.2.2.2.1) (x.2.2.2.2.2.2.2.2.1) (x.2.2.2.2.2.2.2.2.2.1) (x.2.2.2.2.2.2.2.2.2.2.1) (x.2.2.2.2.2.2.2.2.2.2.2.1) (x.2.2.2.2.2.2.2.2.2.2.2.2)) (fun x=>J (x.1) (x.2.1) (x.2.2.1) (x.2.2.2.1) (x.2.2.2.2.1) (x.2.2.2.2.2.1) (x.2.2.2.2.2.2.1) (x.2.2.2.2.2.2.2.1) (x.2.2.2.2.2.2.2.2.1) (x.2.2.2.2.2.2.2.2.2.1) (x.2.2.2.2.2.2.2.2.2.2.1) (x.2.2.2.2.2.2.2.2.2.2.2.1) (x.2.2.2.2.2.2.2.2.2.2.2.2)) (fun x=>μ (x.1) (x.2.1) (x.2.2.1) (x.2.2.2.1) (x.2.2.2.2.1) (x.2.2.2.2.2.1) (x.2.2.2.2.2.2.1) (x.2.2.2.2.2.2.2.1) (x.2.2.2.2.2.2.2.2.1) (x.2.2.2.2.2.2.2.2.2.1) (x.2.2.2.2.2.2.2.2.2.2.1) (x.2.2.2.2.2.2.2.2.2.2.2.1) (x.2.2.2.2.2.2.2.2.2.2.2.2)) (x0,x1,x2,x3,x4,x5,x6,x7,x8,x9,x10,x11,x12) h0 hJ (fun x hx=>V.mono (round (x.1) (x.2.1) (x.2.2.1) (x.2.2.2.1) (x.2.2.2.2.1) (x.2.2.2.2.2.1) (x.2.2.2.2.2.2.1) (x.2.2.2.2.2.2.2.1) (x.2.2.2.2.2.2.2.2.1) (x.2.2.2.2.2.2.2.2.2.1) (x.2.2.2.2.2.2.2.2.2.2.1) (x.2.2.2.2.2.2.2.2.2.2.2.1) (x.2.2.2.2.2.2.2.2.2.2.2.2) hx) (fun e s hq=>by
  cases e with
  | normal=>
    obtain⟨b0,b1,b2,b3,b4,b5,b6,b7,b8,b9,b10,b11,b12,h1,h2,h3⟩:=hq
    exact⟨(b0,b1,b2,b3,b4,b5,b6,b7,b8,b9,b10,b11,b12),h1,h2,h3⟩
  | _=>exact hq)) (fun x=>hA (x.1) (x.2.1) (x.2.2.1) (x.2.2.2.1) (x.2.2.2.2.1) (x.2.2.2.2.2.1) (x.2.2.2.2.2.2.1) (x.2.2.2.2.2.2.2.1) (x.2.2.2.2.2.2.2.2.1) (x.2.2.2.2.2.2.2.2.2.1) (x.2.2.2.2.2.2.2.2.2.2.1) (x.2.2.2.2.2.2.2.2.2.2.2.1) (x.2.2.2.2.2.2.2.2.2.2.2.2))
end
section
variable {P:Program} {A:Amb} {ops:Array Oper} {K:St→Prop} {r:List (Nat × Bool)} {pf:PF} {fr:List (Nat × SV)} {L:List LO} {N i t:Nat} {pos:String} {af:Array Edge} {x:Operand}
theorem gX6 {α:Type} {e:α→U} {es:List α→List U} {z z':Nat} [E:Enc α e es z] {el:TypeId} {T T':TypeId} [TE P T el] {l:List α} {j ver e':Nat} (h:VY P A ops K r pf ⟨(t,.d (.i .i64 (l.length:Int)))::fr,L,N⟩)
  (hi:ops[i]? =some ⟨some t,.call { callee:=.builtin .len,args:=#[x],argTypes:=#[T] },T',pos,af,none⟩:=by rfl) (hx:(St.mk fr L N).ev x=.sl j ver:=by rfl) (hL:L[j]? =some (.arr e' z' ver (es l)):=by rfl) (ht:Nat.blt t N=true:=by rfl)
  (hp:yG ops i L pf:=by(repeat(first | exact yG.nil | (apply yG.keep;focus ((repeat constructor);done)) | (apply yG.dep;focus kernel_rfl)))):VY P A ops K ((i,false)::r) pf ⟨fr,L,N⟩:=
 gGd hi (fun fr' he' K' hK=>gA6 (gQ1 (es:=es) (l:=l) (by rw [he' x (by simp [Op.operands,Call.operands])];exact hx) hL) (gDq hK) ht) hp h
end
end Go.Eng
