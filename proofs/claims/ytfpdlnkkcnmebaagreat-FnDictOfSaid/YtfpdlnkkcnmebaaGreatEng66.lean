import Derived.Test.YtfpdlnkkcnmebaaGreatEng56
import Derived.Lib.AppendStr
import Derived.Laws.BytesString
import Derived.Laws.Strings2
import Derived.Laws.Strings3
set_option linter.unusedVariables false
set_option linter.unusedSimpArgs false
namespace Go.Eng
open Go Go.RowKit
section
variable {P:Program}{A:Amb}{Q Q2:Exit→St→Prop}{c x y:Code}
theorem wY{σ:St}(σJ:St)(h1:V P A x σ (thenS (fun s=>Le s σJ) Q))(h2:V P A y σJ Q2)(hA:A.L0.length≤σJ.L.length:=by rw [gDv.h (A:=A)];exact Nat.le_of_ble_eq_true rfl):V P A x σ (thenS (fun s=>V P A y s Q2) Q):=
 V.mono h1 (fun e s hq=>by
  cases e with
  | normal=>exact hVp hq h2 hA
  | _=>exact hq)
theorem mY.nild{a:Act}{w:World}{fr:List (Nat × SV)}{L:List LO}{N:Nat}{cs cs':List SV}{z j:Nat}(hL:L[j]? =some (.box cs))(k:Nat)(hc:cs[k]? =some .nilsl)(hcs:cs.set k (.d (.sl z []))=cs')(h:mY A ⟨fr,L,N⟩ a w):mY A ⟨fr,L.set j (.box cs'),N⟩ a w:=by
 subst hcs;obtain⟨S,env,hH,hf,hN,hd⟩:=h;have hj:=(List.getElem?_eq_some_iff.1 hL).1;obtain⟨hv,he⟩:∃hv,env[j]? =some hv:=⟨_,List.getElem?_eq_getElem (by rw [hH.len];exact hj)⟩
 obtain⟨b,vals,e',r1,r2,r3,r4⟩:=hH.objs j _ hv hL he
 obtain⟨hH2,C2⟩:=hH.turnF (w':=w) j (.box cs) (.box (cs.set k (.d (.sl z [])))) hv hL rfl he rfl rfl (fun _ _=>rfl) rfl rfl rfl (fun k hk=>hk) (fun C=>⟨b,vals,e',r1,r2,by
  have r3':=kP.carry C _ _ r3;rw [kP.iff] at r3' ⊢;obtain⟨v,v1,v2⟩:=yZ.get ((kP.iff _ _).1 r3) k _ hc;simp only [SVr] at v2;subst v2
  have hset:=yZ.set k (.d (.sl z [])) (.slice none 0 0) r3' (by
   simp only [SVr]
   exact⟨[.slice none 0 0],rfl,by simp [Rd]⟩)
  have hk:k < vals.toList.length:=(List.getElem?_eq_some_iff.1 v1).1
  have:vals.toList.set k (.slice none 0 0)=vals.toList:=by
   apply List.ext_getElem?;intro m;rw [List.getElem?_set];by_cases hm:k=m
   ·subst hm;rw [if_pos rfl,if_pos hk,v1]
   ·rw [if_neg hm]
  rwa [this] at hset,r4⟩)
 exact⟨S,_,hH2,fun t=>SVr.carry C2 _ _ (hf t),hN,hd⟩
theorem gS8{fr:List (Nat × SV)}{L L1:List LO}{N:Nat}{cs cs':List SV}(z j k:Nat)(hL:L[j]? =some (.box cs))(hc:cs[k]? =some .nilsl)(hcs:St1 (.d (.sl z [])) k cs cs')(h1:St1 (.box cs') j L L1)(h:V P A c ⟨fr,L1,N⟩ Q):V P A c ⟨fr,L,N⟩ Q:=by
 have e2:=hcs.spec;have e3:=h1.spec;subst e2;subst e3;exact fun a w hr=>h a w (hr.nild hL k hc rfl)
end
section
variable {P:Program}{A:Amb}{σ:St}{K:St→Prop}{Q:Exit→St→Prop}
variable {ops:Array Oper}{rest:List Oper}{x y:Operand}
theorem mY.share{a:Act}{w:World}{fr:List (Nat × SV)}{L:List LO}{N i e z ver:Nat}{es:List U}(hL:L[i]? =some (.own e z ver es))(h:mY A ⟨fr,L,N⟩ a w):mY A ⟨fr,L.set i (.arr e z ver es),N⟩ a w:=by
 obtain⟨S,env,hH,hf,hN,hd⟩:=h;have hi:=(List.getElem?_eq_some_iff.1 hL).1;have hie:i < env.length:=by rw [hH.len];exact hi
 obtain⟨hv,he⟩:∃hv,env[i]? =some hv:=⟨_,List.getElem?_eq_getElem hie⟩
 have hob:=hH.objs i _ hv hL he;obtain⟨o1,o2,⟨xs,o3,o4⟩,o5⟩:=hob;have hfp:∀b,b∈U.fps w es xs→b∈(U.sl z es).fp w [hv]∧blk hv≠some b:=by
  intro b hb;rcases gGm o2 o3 with ⟨rfl,rfl,hf⟩ | ⟨g,cap,rfl,hf⟩
  ·simp [U.fps] at hb
  ·rw [hf] at o5 ⊢;exact⟨by simp [hb],fun hg=>by simp [blk] at hg;subst hg;exact(List.nodup_cons.1 o5).1 hb⟩
 have hblk:∀b,blk hv=some b→b∈(U.sl z es).fp w [hv]:=by
  intro b hb;rcases gGm o2 o3 with ⟨rfl,rfl,hf⟩ | ⟨g,cap,rfl,hf⟩
  ·simp [blk] at hb
  ·rw [hf];simp [blk] at hb;simp [hb]
 let S':Nat→Prop:=fun b=>S b∨b∈U.fps w es xs;have hset:∀(j:Nat)(o':LO),(L.set i (.arr e z ver es))[j]? =some o'→(j=i∧o'=.arr e z ver es)∨(j≠i∧L[j]? =some o'):=by
  intro j o' hj;by_cases hij:i=j
  ·subst hij;rw [List.getElem?_set_self hi] at hj;exact .inl ⟨rfl,(Option.some.inj hj).symm⟩
  ·rw [List.getElem?_set_ne hij] at hj;exact .inr ⟨fun e=>hij e.symm,hj⟩
 have C:Carry S L env w S' (L.set i (.arr e z ver es)) env w:=by
  refine⟨fun b hb _=>.inl hb,fun _ _ _=>rfl,fun _ _ h=>h,fun j hv' o' h1 h2=>?_⟩;by_cases hij:i=j
  ·subst hij;rw [hL] at h2;obtain rfl:=Option.some.inj h2;exact⟨hv',.arr e z ver es,h1,by rw [List.getElem?_set_self hi],Nat.le_refl _,fun _=>rfl⟩
  ·exact⟨hv',o',h1,by rw [List.getElem?_set_ne hij];exact h2,Nat.le_refl _,fun _=>rfl⟩
 refine⟨S',env,⟨by simp [hH.len],?_,?_,?_,?_,?_,hH.frame,hH.size,hH.os,hH.tape,hH.output,hH.base.carry C hH.len (by simp),hH.glob⟩,fun t=>SVr.carry C _ _ (hf t),hN,hd⟩
 ·intro j o' hv' h1 h2;rcases hset j o' h1 with ⟨rfl,rfl⟩ | ⟨hj,h3⟩
  ·rw [he] at h2;obtain rfl:=Option.some.inj h2;exact⟨o1,o2,xs,o3,Trs.rd _ _ o4 (fun b hb=>.inr hb)⟩
  ·exact gH2.carry C (fun _ _ _=>rfl) (hH.objs j o' hv' h3 h2)
 ·intro j o' hv' b h1 hl h2 hb;rcases hset j o' h1 with ⟨rfl,rfl⟩ | ⟨hj,h3⟩
  ·rw [he] at h2;obtain rfl:=Option.some.inj h2
   have:=hH.excl j _ hv b hL rfl he (hblk b hb)
   exact⟨fun hs=>hs.elim this.1 (fun hs=>(hfp b hs).2 hb),this.2⟩
  ·have:=hH.excl j o' hv' b h3 hl h2 hb
   exact⟨fun hs=>hs.elim this.1 (fun hs=>hj (hH.dist j i o' _ hv' hv b h3 hL hl rfl h2 he hb (hfp b hs).1)),this.2⟩
 ·intro j j' o1' o2' hv1 hv2 k h1 h2 hl1 hl2 e1 e2 b1 b2;rcases hset j o1' h1 with ⟨rfl,rfl⟩ | ⟨hj,h3⟩<;>rcases hset j' o2' h2 with ⟨rfl,rfl⟩ | ⟨hj',h3'⟩
  ·rfl
  ·rw [he] at e1;obtain rfl:=Option.some.inj e1;exact hH.dist j j' _ o2' hv hv2 k hL h3' rfl hl2 he e2 (hblk k b1) b2
  ·rw [he] at e2;obtain rfl:=Option.some.inj e2;exact hH.dist j j' o1' _ hv1 hv k h3 hL hl1 rfl e1 he b1 (hblk k b2)
  ·exact hH.dist j j' o1' o2' hv1 hv2 k h3 h3' hl1 hl2 e1 e2 b1 b2
 ·intro b hb;rcases hb with hb | hb
  ·exact hH.sS b hb
  ·exact(hH.excl i _ hv b hL rfl he (hfp b hb).1).2.2
 ·intro b hb;rcases hb with hb | hb
  ·exact hH.sA b hb
  ·exact .inr (hH.excl i _ hv b hL rfl he (hfp b hb).1).2.1
end
section
variable {P:Program}{A:Amb}{σ:St}{K:St→Prop}
variable {ops:Array Oper}{rest:List Oper}
end
section
variable {P:Program}{A:Amb}{σ:St}{K:St→Prop}
variable {ops:Array Oper}{rest:List Oper}{x y:Operand}{dst:Option Nat}{g:Option (Nat × Bool)}{ty:TypeId}{pos:String}{af:Array Edge}
end
section
variable {P:Program}{A:Amb}{σ:St}{K:St→Prop}{Q:Exit→St→Prop}
end
section
end
theorem hPi{P:Program}{A:Amb}{σ:St}{x h:Operand}{dst:Option Nat}{g:Option (Nat × Bool)}{T ty:TypeId}{pos:String}{af:Array Edge}{α:Type}{en:α→U}{es:List α→List U}{z:Nat}[E:Enc α en es z]{e bs j ver e':Nat}{gg:Bool}{l:List α}{k:Int}(hk:0≤k∧k≤l.length) [TE P T e] [TI P e gg z bs](hx:σ.ev x=.sl j ver:=by rfl)(hL:σ.L[j]? =some (.frz e' z ver (es l)):=by rfl)(hh:σ.ev h=.d (.i .i64 k):=by rfl) :
  Quiet P A σ ⟨dst,.slice T x none (some h) none,ty,pos,af,g⟩ (.d (.sl z (es (l.take k.toNat)))):=Quiet.pure fun S env a w hH ho=>by
 have h1:=ho x (by simp [Op.operands]);have h2:=ho h (by simp [Op.operands]);rw [hx] at h1;rw [hh,SVr.int] at h2;simp only [SVr] at h1;obtain⟨hv,o,q1,q2,q3,q5,q4⟩:=h1;rw [hL] at q2;obtain rfl:=Option.some.inj q2;have h1:SVr S σ.L env w (.d (.sl z (es l))) (a.eval x):=by
  rw [q4 rfl];simp only [SVr];exact hH.objs j _ hv hL q1
 rw [SVr.slice] at h1;obtain⟨hbg,base,cap,h3,h4⟩:=h1;have hlen:(es l).length=l.length:=Enc.len l;have htk:es (l.take k.toNat)=(es l).take k.toNat:=by rw [E.h,E.h,List.map_take]
 have hT:P.underlying T=some (.slice e):=zN TE.h;have hel:P.elem T=e:=by simp [Program.elem,hT]
 have hT':P.underlying T=some (.slice (P.elem T)):=by rw [hel];exact hT
 obtain⟨hk0,hk1⟩:=hk;have hkn:k.toNat≤(es l).length:=by omega
 have hrun:=run_slice_h (w:=w) T base (es l).length ((es l).length+cap) hT' .i64 k hk0 (by omega);have hsz:=run_sizeOf (w:=w) (TI.h:tyI P e=some (gg,z,bs));rw [hel,hsz] at hrun;simp only [Result.andThen] at hrun;refine⟨sliced base 0 k.toNat ((es l).length+cap) z,?_,?_⟩
 ·simp [execOp,h3,h2,Instr.sliceAt,run_underlying hT,hrun]
 ·rw [SVr.slice,htk];have htl:((es l).take k.toNat).length=k.toNat:=by rw [List.length_take];omega
  refine⟨by omega,?_⟩;rcases h4 with h4 | ⟨b,off,rfl,h5,h6⟩
  ·have hl0:(es l).length=0:=by rw [h4];rfl
   have hk2:k.toNat=0:=by omega
   refine⟨if 0+cap=0 then base else base.map (·.add (0*z)),cap,?_,.inl (by rw [h4];simp)⟩;rw [htl,hl0,hk2];simp [sliced]
  ·by_cases hc:(es l).length+cap=0
   ·have hk2:k.toNat=0:=by omega
    have hnil:(es l).take k.toNat=[]:=List.eq_nil_of_length_eq_zero (by omega);refine⟨some ⟨b,off,none⟩,0,?_,.inl hnil⟩;rw [htl,hc,hk2];simp [sliced]
   ·refine⟨some ⟨b,off,none⟩,(es l).length+cap - k.toNat,?_,.inr ⟨b,off,rfl,h5,RdE.take _ _ _ h6⟩⟩;rw [htl]
    have:k.toNat+((es l).length+cap - k.toNat)=(es l).length+cap:=by omega
    rw [this];simp [sliced,hc,Addr.add_lit]
section
variable {P:Program}{A:Amb}{ops:Array Oper}{K:St→Prop}{r:List (Nat × Bool)}{pf:PF}{fr:List (Nat × SV)}{L L1 L':List LO}{N i t m:Nat}
variable {ty:TypeId}{pos:String}{af:Array Edge}{x y:Operand}{T:TypeId}
theorem hKv {α:Type}{en:α→U}{es:List α→List U}{z:Nat}[E:Enc α en es z]{e bs ver e':Nat}{gg:Bool}{l:List α}{k:Int}(hk:0≤k∧k≤l.length) [TE P T e] [TI P e gg z bs] (h:VY P A ops K r pf ⟨(t,.d (.sl z (es (l.take k.toNat))))::fr,L,N⟩)
  (hi:ops[i]? =some ⟨some t,.slice T x none (some y) none,ty,pos,af,none⟩:=by rfl) (hx:(St.mk fr L N).ev x=.sl m ver:=by rfl) (hL:L[m]? =some (.frz e' z ver (es l)):=by rfl) (hy:(St.mk fr L N).ev y=.d (.i .i64 k):=by rfl) (ht:Nat.blt t N=true:=by rfl)
  (hp:vU ops i L pf:=by(repeat(first | exact vU.nil | (apply vU.keep;focus ((repeat constructor);done)) | (apply vU.dep;focus kernel_rfl)))):VY P A ops K ((i,false)::r) pf ⟨fr,L,N⟩:=
 gE5 hi (fun fr' he' K' hK=>vP (hPi (j:=m) hk (by rw [he' x (by simp [Op.operands])];exact hx) hL (by rw [he' y (by simp [Op.operands])];exact hy)) (gDc hK) ht) hp h
end
section
variable {P:Program}{A:Amb}{ops:Array Oper}{K:St→Prop}{t:OT}{pf:PF}{fr:List (Nat × SV)}{L:List LO}{N i d:Nat}{b:Bool}{op:Op}{ty:TypeId}{pos:String}{af:Array Edge}{sv:SV}
theorem gXn(hi:ops[i]? =some ⟨some d,op,ty,pos,af,none⟩)(hq:QR P ⟨fr,[],N⟩ ⟨some d,op,ty,pos,af,none⟩ sv)(h:VT P A ops K t ((i,[])::pf) ⟨(d,sv)::fr,L,N⟩ false)(hd:Nat.blt d N=true:=by rfl):VT P A ops K (.q i t) pf ⟨fr,L,N⟩ b:=
 ⟨_,sv,[],hi,⟨fun d' hd'=>by cases hd';exact hd,fun k cs hk=>by simp at hk,.inl ⟨rfl,fun fr' L' he _=>hq A fr' L' (fun x hx=>(he x hx).trans (by cases x<;>rfl)) (fun k cs hk=>by simp at hk)⟩⟩,h⟩
end
structure wC where
 s:LB
 at_:Int
 deep:Int
 size:Int
 bad:Bool
section
variable {P:Program}{σ:St}{dst:Option Nat}{ty T:TypeId}{pos:String}{af:Array Edge}{g:Option (Nat × Bool)}{x lo hi:Operand}
theorem hKw [TS P T]{l:LB}{i j:Int}(hk:0≤i∧i≤j∧j≤(l.length:Int))(hx:σ.ev x=.d (.s l):=by rfl)(hi_:σ.ev lo=.d (.i .i64 i):=by rfl)(hj:σ.ev hi=.d (.i .i64 j):=by rfl) :
  QR P σ ⟨dst,.slice T x (some lo) (some hi) none,ty,pos,af,g⟩ (.d (.s ((l.drop i.toNat).take (j.toNat - i.toNat)))):=fun A fr' L' he _=>Quiet.pure fun S env a w hH ho=>by
 have h1:=ho x (by simp [Op.operands]);have h2:=ho lo (by simp [Op.operands]);have h3:=ho hi (by simp [Op.operands]);rw [he x (by simp [Op.operands]),hx] at h1;rw [he lo (by simp [Op.operands]),hi_,SVr.int] at h2;rw [he hi (by simp [Op.operands]),hj,SVr.int] at h3;obtain⟨hb,h1⟩:=SVr.str.1 h1;obtain⟨k0,k1,k2⟩:=hk;have hsz:(ByteArray.mk l.toArray).size=l.length:=by simp [ByteArray.size]
 have hrun:=run_slice_string (P:=P) (w:=w) T (ByteArray.mk l.toArray) .i64 .i64 i j TS.h k0 k1 (by rw [hsz];exact k2);rw [ByteArray.extract_mk] at hrun;refine⟨.string ⟨((l.drop i.toNat).take (j.toNat - i.toNat)).toArray⟩,?_,SVr.str.2 ⟨?_,rfl⟩⟩
 ·simp [execOp,h1,h2,h3,Instr.sliceAt,run_underlying TS.h,hrun]
 ·have:((l.drop i.toNat).take (j.toNat - i.toNat)).length≤l.length:=by simp;omega
  omega
theorem hKy [TS P T]{l:LB}{i:Int}(hk:0≤i∧i≤(l.length:Int))(hx:σ.ev x=.d (.s l):=by rfl)(hi_:σ.ev lo=.d (.i .i64 i):=by rfl) :
  QR P σ ⟨dst,.slice T x (some lo) none none,ty,pos,af,g⟩ (.d (.s (l.drop i.toNat))):=fun A fr' L' he _=>Quiet.pure fun S env a w hH ho=>by
 have h1:=ho x (by simp [Op.operands]);have h2:=ho lo (by simp [Op.operands]);rw [he x (by simp [Op.operands]),hx] at h1;rw [he lo (by simp [Op.operands]),hi_,SVr.int] at h2;obtain⟨hb,h1⟩:=SVr.str.1 h1;have hsz:(ByteArray.mk l.toArray).size=l.length:=by simp [ByteArray.size]
 have hrun:=run_slice_string_from_if (P:=P) (w:=w) T (ByteArray.mk l.toArray) .i64 i TS.h;rw [if_pos (by rw [hsz];exact hk),ByteArray.extract_mk,hsz,←List.length_drop,List.take_length] at hrun;refine⟨.string ⟨(l.drop i.toNat).toArray⟩,?_,SVr.str.2 ⟨?_,rfl⟩⟩
 ·simp [execOp,h1,h2,Instr.sliceAt,run_underlying TS.h,hrun]
 ·have:(l.drop i.toNat).length≤l.length:=by simp
  omega
theorem hKz{α:Type}{en:α→U}{es:List α→List U}{z:Nat}[E:Enc α en es z]{e bs:Nat}{gg:Bool}{l:List α}{i j:Int}(hk:0≤i∧i≤j∧j≤(l.length:Int)) [TE P T e] [TI P e gg z bs](hx:σ.ev x=.d (.sl z (es l)):=by rfl)(hi_:σ.ev lo=.d (.i .i64 i):=by rfl)(hj:σ.ev hi=.d (.i .i64 j):=by rfl) :
  QR P σ ⟨dst,.slice T x (some lo) (some hi) none,ty,pos,af,g⟩ (.d (.sl z (es ((l.drop i.toNat).take (j.toNat - i.toNat))))):=fun A fr' L' he _=>Quiet.pure fun S env a w hH ho=>by
 have h1:=ho x (by simp [Op.operands]);have h2:=ho lo (by simp [Op.operands]);have h2':=ho hi (by simp [Op.operands]);rw [he x (by simp [Op.operands]),hx] at h1;rw [he lo (by simp [Op.operands]),hi_,SVr.int] at h2;rw [he hi (by simp [Op.operands]),hj,SVr.int] at h2';rw [SVr.slice] at h1;obtain⟨hbg,base,cap,h3,h4⟩:=h1;have hlen:(es l).length=l.length:=Enc.len l;have htk:es ((l.drop i.toNat).take (j.toNat - i.toNat))=((es l).drop i.toNat).take (j.toNat - i.toNat):=by rw [E.h,E.h,List.map_take,List.map_drop]
 have hT:P.underlying T=some (.slice e):=zN TE.h;have hel:P.elem T=e:=by simp [Program.elem,hT]
 have hT':P.underlying T=some (.slice (P.elem T)):=by rw [hel];exact hT
 obtain⟨hk0,hk1,hk2⟩:=hk;have hrun:=run_slice_lh (w:=w) T base (es l).length ((es l).length+cap) hT' .i64 .i64 i j hk0 hk1 (by omega);have hsz:=run_sizeOf (w:=w) (TI.h:tyI P e=some (gg,z,bs));rw [hel,hsz] at hrun;simp only [Result.andThen] at hrun;refine⟨sliced base i.toNat j.toNat ((es l).length+cap) z,?_,?_⟩
 ·simp [execOp,h3,h2,h2',Instr.sliceAt,run_underlying hT,hrun]
 ·rw [SVr.slice,htk];have htl:(((es l).drop i.toNat).take (j.toNat - i.toNat)).length=j.toNat - i.toNat:=by rw [List.length_take,List.length_drop];omega
  refine⟨by omega,if (es l).length+cap=i.toNat then base else base.map (·.add (i.toNat*z)),(es l).length+cap - j.toNat,?_,?_⟩
  ·rw [htl,show j.toNat - i.toNat+((es l).length+cap - j.toNat)=(es l).length+cap - i.toNat by omega];rfl
  ·by_cases hnil:((es l).drop i.toNat).take (j.toNat - i.toNat)=[]
   ·exact .inl hnil
   ·right;rcases h4 with h4 | ⟨b,off,rfl,h5,h6⟩
    ·rw [h4] at hnil;simp at hnil
    ·have hne:¬ (es l).length+cap=i.toNat:=fun e=>hnil (by rw [List.drop_eq_nil_of_le (by omega)];simp);refine⟨b,off+i.toNat*z,by rw [if_neg hne];simp [Addr.add_lit],h5,RdE.take _ _ _ (RdE.drop _ _ _ h6)⟩
end
def hY1(P:Program)(T:TypeId)(f:Nat):Option (Nat × Bool × Nat):=
 match P.underlying T with
 | some (.struct fs)=>match fs[f]? with
   | some fd=>(tyI P fd.type).map fun x=>(fd.offset,x.1,x.2.1)
   | none=>none
 | _=>none
theorem Rds.at{S:Nat→Prop}{w:World}{u:U}:∀(us:List U)(cs:List Value)(f:Nat),Rds S w us cs→us[f]? =some u→∃c1 c2 c3,cs=c1++c2++c3∧c1.length=U.szs (us.take f)∧Rd S w u c2
 | [],cs,f,_,hf=>by simp at hf
 | u0::us,cs,f,h,hf=>by
   simp only [Rds] at h;obtain⟨d1,d2,rfl,k2,k3⟩:=h;cases f with
   | zero=>
     simp only [List.getElem?_cons_zero,Option.some.injEq] at hf;subst hf;exact⟨[],d1,d2,rfl,rfl,k2⟩
   | succ f=>
     obtain⟨c1,c2,c3,rfl,e1,e2⟩:=Rds.at us d2 f k3 (by simpa using hf);refine⟨d1++c1,c2,c3,by simp,?_,e2⟩
     have:=Rd.length u0 d1 k2
     simp only [List.length_append,List.take_succ_cons,U.szs];omega
section
variable {P:Program}{σ:St}{dst:Option Nat}{ty T:TypeId}{pos:String}{af:Array Edge}{g:Option (Nat × Bool)}{x:Operand}
theorem gIc{us:List U}{u:U}{f:Nat}(hx:σ.ev x=.d (.st us):=by rfl)(hu:us[f]? =some u:=by rfl)(hF:hY1 P T f=some (U.szs (us.take f),u.isSt,u.sz):=by kernel_rfl) :
  QR P σ ⟨dst,.field T x f,ty,pos,af,g⟩ (.d u):=fun A fr' L' he _=>Quiet.pure fun S env a w hH ho=>by
 have h1:=ho x (by simp [Op.operands]);rw [he x (by simp [Op.operands]),hx] at h1;simp only [SVr] at h1;obtain⟨cs,h2,h3⟩:=h1;simp only [Rd] at h3;obtain⟨c1,c2,c3,rfl,e1,e2⟩:=Rds.at us cs f h3 hu;have e3:=Rd.length u c2 e2;unfold hY1 at hF;split at hF
 ·rename_i fs hund;split at hF
  ·rename_i fd hfd;cases hty:tyI P fd.type with
   | none=>rw [hty] at hF;cases hF
   | some t3=>
     obtain⟨q1,q2,q3⟩:=t3;rw [hty] at hF;simp only [Option.map_some,Option.some.injEq,Prod.mk.injEq] at hF;obtain⟨f1,rfl,rfl⟩:=hF;refine⟨val u c2,?_,by simp only [SVr];exact⟨c2,rfl,e2⟩⟩;rw [←e1] at f1;cases hs:u.isSt with
     | true=>
       rw [hs] at hty;have hex:(c1++c2++c3).toArray.extract c1.length (c1.length+c2.length)=c2.toArray:=by
        apply Array.ext';simp
       have hv:val u c2=.agg c2.toArray:=by unfold val;rw [if_pos hs]
       have h2':a.eval x=.agg (c1++c2++c3).toArray:=h2;rw [hv,←hex];simp only [execOp,h2',Instr.field,Sem.run_bind,run_underlying hund,Result.andThen_ok,hfd,asAgg,Sem.run_pure,part,gLe hty,run_sizeOf hty,f1,←e3,if_true]
     | false=>
       rw [hs] at hty;have hl:c2.length=1:=by rw [e3];cases u<;>first | rfl | simp [U.isSt] at hs
       obtain⟨v,rfl⟩:=List.length_eq_one_iff.1 hl;have hv:val u [v]=v:=by unfold val;rw [if_neg (by rw [hs];decide)];rfl
       have h2':a.eval x=.agg (c1++[v]++c3).toArray:=h2;rw [hv];simp [execOp,h2',Instr.field,run_underlying hund,hfd,asAgg,part,gLe hty,f1]
  ·cases hF
 ·cases hF
end
end Go.Eng
set_option linter.unusedSectionVars false
namespace Go.Eng
open Go
theorem Spec.verF {P:Program}{f e z v:Nat}{args:List SV}{es0 es:List U}{g:Nat→SV}(h:Go.Eng.Spec P f args [.arr e z v es0] (fun sv Lo=>∃v',sv=g v'∧Lo=[.arr e z v' es]))
  (hg:∀(S:Nat→Prop)(hv:Value)(w:World)(v':Nat)(r:Value),SVr S [.arr e z v' es] [hv] w (g v') r→SVr S [.arr e z (v+1) es] [hv] w (g (v+1)) r) :
  Go.Eng.Spec P f args [.arr e z v es0] (fun sv Lo=>sv=g (v+1)∧Lo=[.arr e z (v+1) es]):=by
 refine⟨h.1,fun A S env w vs h1 h2 h3 h4 hH hargs=>(h.2 A S env w vs h1 h2 h3 h4 hH hargs).mono ?_⟩;rintro ex w' ⟨r,sv,S',L',env',hr,⟨v',rfl,rfl⟩,hH',hsv⟩;obtain⟨hv,rfl⟩:∃hv,env'=[hv]:=by
  have:=hH'.len
  match env',this with
  | [hv],_=>exact⟨hv,rfl⟩
 refine⟨r,_,S',_,[hv],hr,⟨rfl,rfl⟩,?_,hg S' hv w' v' r hsv⟩;refine⟨rfl,fun i o hv1 k1 k2=>?_,fun i o hv1 b k1 k2 k3 k4=>?_,fun i j o o' hv1 hv2 b k1 k2 k3 k4 k5 k6 k7 k8=>?_,hH'.sS,hH'.sA,hH'.frame,hH'.size,hH'.os,hH'.tape,hH'.output,?_,hH'.glob⟩
 ·cases i with
  | zero=>
    simp at k1 k2;subst k1;subst k2;exact hH'.objs 0 (.arr e z v' es) hv rfl rfl
  | succ i=>simp at k1
 ·cases i with
  | zero=>
    simp at k1 k3;subst k1;subst k3;exact hH'.excl 0 (.arr e z v' es) hv b rfl rfl rfl k4
  | succ i=>simp at k1
 ·cases i with
  | zero=>cases j with
    | zero=>rfl
    | succ j=>simp at k2
  | succ i=>simp at k1
 ·have hb:=hH'.base;refine⟨by simpa using hb.1,fun i hv1 o hv2 o' k1 k2 k3 k4=>?_⟩;cases i with
  | zero=>
    simp at k3 k4;subst k3;subst k4;rw [h3] at k2;simp at k2;subst k2;have hb2:=hb.2 0 hv1 (.arr e z v es0) hv (.arr e z v' es) k1 (by rw [h3];rfl) rfl rfl;refine⟨by simp [LO.ver],fun he=>by simp [LO.ver] at he,hb2.2.2⟩
  | succ i=>simp at k3
theorem hPj{S:Nat→Prop}{e z v v':Nat}{es:List U}{hv:Value}{w:World}{r:Value}(h:SVr S [.arr e z v' es] [hv] w (.sl 0 v') r):SVr S [.arr e z v es] [hv] w (.sl 0 v) r:=by
 simp only [SVr] at h ⊢;obtain⟨hv1,o,q1,q2,q3,q4,q5⟩:=h;simp at q1 q2;subst q1;subst q2;exact⟨hv,_,rfl,rfl,Nat.le_refl _,q4,fun _=>q5 rfl⟩
theorem hPk{S:Nat→Prop}{e z v v':Nat}{es:List U}{hv:Value}{w:World}{u:U}{r:Value}(h:SVr S [.arr e z v' es] [hv] w (.ag [.d u,.sl 0 v']) r):SVr S [.arr e z v es] [hv] w (.ag [.d u,.sl 0 v]) r:=by
 simp only [SVr] at h;obtain⟨xs,rfl,hxs⟩:=h
 match xs,hxs with
 | [x0,x1],hxs=>
   simp only [kP] at hxs;simp only [SVr];refine⟨[x0,x1],rfl,?_⟩;simp only [kP];refine⟨?_,hPj hxs.2.1,trivial⟩
   have:=hxs.1
   simp only [SVr] at this ⊢;exact this
mutual
inductive DzS (L:List LO):SV→SV→Prop
 | frz {i v e z:Nat} {es:List U} (h:L[i]? =some (.frz e z v es)):DzS L (.sl i v) (.d (.sl z es))
 | same {sv:SV}:DzS L sv sv
 | ag {cs ds:List SV} (h:hGw L cs ds):DzS L (.ag cs) (.ag ds)
inductive hGw (L:List LO):List SV→List SV→Prop
 | nil:hGw L [] []
 | cons {a b:SV} {az bs:List SV} (h:DzS L a b) (h2:hGw L az bs):hGw L (a::az) (b::bs)
end
inductive DzO (L:List LO):LO→LO→Prop
 | box {cs ds:List SV} (h:hGw L cs ds):DzO L (.box cs) (.box ds)
 | same {o:LO}:DzO L o o
inductive DzL (L:List LO):List LO→List LO→Prop
 | nil:DzL L [] []
 | cons {a b:LO} {az bs:List LO} (h:DzO L a b) (h2:DzL L az bs):DzL L (a::az) (b::bs)
inductive DzF (L:List LO):List (Nat × SV)→List (Nat × SV)→Prop
 | nil:DzF L [] []
 | cons {t:Nat} {a b:SV} {az bs:List (Nat × SV)} (h:DzS L a b) (h2:DzF L az bs):DzF L ((t,a)::az) ((t,b)::bs)
section
variable {A:Amb}{S:Nat→Prop}{L L':List LO}{env:List Value}{w:World}
mutual
theorem DzS.r(hH:pW A S L env w):∀{a b:SV}{x:Value},DzS L a b→SVr S L env w a x→SVr S L env w b x
 | _,_,x,.frz h,hx=>by
   simp only [SVr] at hx;obtain⟨hv,o,k1,k2,k3,k4,k5⟩:=hx;rw [h] at k2;obtain rfl:=Option.some.inj k2
   have:=hH.objs _ _ _ h k1
   rw [k5 rfl];simp only [SVr];exact this
 | _,_,x,.same,hx=>hx
 | _,_,x,.ag hs,hx=>by
   simp only [SVr] at hx ⊢;obtain⟨vs,h1,h2⟩:=hx;exact⟨vs,h1,hGw.r hH hs h2⟩
theorem hGw.r(hH:pW A S L env w):∀{az bs:List SV}{xs:List Value},hGw L az bs→kP S L env w az xs→kP S L env w bs xs
 | _,_,[],.nil,h=>by simp only [kP]
 | _,_,_::_,.nil,h=>by simp only [kP] at h
 | _,_,[],.cons _ _,h=>by simp only [kP] at h
 | _,_,_::_,.cons h1 h2,h=>by
   simp only [kP] at h ⊢;exact⟨DzS.r hH h1 h.1,hGw.r hH h2 h.2⟩
end
theorem DzL.get{L0:List LO}:∀{az bs:List LO},DzL L0 az bs→az.length=bs.length∧∀(m:Nat)(b:LO),bs[m]? =some b→∃a,az[m]? =some a∧DzO L0 a b
 | _,_,.nil=>⟨rfl,fun m b h=>by simp at h⟩
 | _,_,.cons (a:=a0) h h2=>by
   obtain⟨k1,k2⟩:=DzL.get h2;refine⟨by simp [k1],fun m b hb=>?_⟩;cases m with
   | zero=>simp at hb;subst hb;exact⟨a0,by simp,h⟩
   | succ m=>
     obtain⟨a,q1,q2⟩:=k2 m b (by simpa using hb);exact⟨a,by simpa using q1,q2⟩
theorem DzF.look{L0:List LO}:∀{az bs:List (Nat × SV)},DzF L0 az bs→∀t,DzS L0 (Go.Eng.look az t) (Go.Eng.look bs t)
 | _,_,.nil,t=>.same
 | _,_,.cons (t:=t0) h h2,t=>by
   simp only [Go.Eng.look];by_cases ht:t=t0
   ·simp only [ht,if_true];exact h
   ·simp only [if_neg ht];exact DzF.look h2 t
theorem mY.dz{a:Act}{fr fr':List (Nat × SV)}{N:Nat}(hL:DzL L L L')(hfr:DzF L fr fr')(h:mY A ⟨fr,L,N⟩ a w):mY A ⟨fr',L',N⟩ a w:=by
 obtain⟨S,env,hH,hf,hN,hd⟩:=h;obtain⟨hlen,hget⟩:=hL.get;have hback:∀(m:Nat)(o:LO),L[m]? =some o→∃o',L'[m]? =some o'∧DzO L o o':=by
  intro m o ho;have hm:m < L'.length:=by rw [←hlen];exact(List.getElem?_eq_some_iff.1 ho).1
  obtain⟨o0,k1,k2⟩:=hget m _ (List.getElem?_eq_getElem hm);rw [ho] at k1;obtain rfl:=Option.some.inj k1;exact⟨_,List.getElem?_eq_getElem hm,k2⟩
 have hver:∀{o o':LO},DzO L o o'→o'.ver=o.ver∧o'.live=o.live∧∀hv b,o'.ft w hv b↔o.ft w hv b:=by
  intro o o' h;cases h with
  | _=>exact⟨rfl,rfl,fun _ _=>Iff.rfl⟩
 have C:Carry S L env w S L' env w:=⟨fun _ h _=>h,fun _ _ _=>rfl,fun _ _ h=>h,fun i hv o h1 h2=>by
  obtain⟨o',k1,k2⟩:=hback i o h2
  exact⟨hv,o',h1,k1,by rw [(hver k2).1];exact Nat.le_refl _,fun _=>rfl⟩⟩
 refine⟨S,env,⟨by rw [←hlen];exact hH.len,fun i o' hv h1 h2=>?_,fun i o' hv b h1 h2 h3 h4=>?_,fun i k o1 o2 hv1 hv2 b h1 h2 h3 h4 h5 h6 h7 h8=>?_,hH.sS,hH.sA,hH.frame,hH.size,hH.os,hH.tape,hH.output,?_,hH.glob⟩,fun t=>SVr.carry C _ _ (DzS.r hH (hfr.look t) (hf t)),hN,hd⟩
 ·obtain⟨o,k1,k2⟩:=hget i o' h1;have hob:=hH.objs i o hv k1 h2;cases k2 with
  | same=>exact gH2.carry C (fun _ _ _=>rfl) hob
  | box hs=>
    obtain⟨b,vals,e,r1,r2,r3,r4⟩:=hob;exact gH2.carry C (fun _ _ _=>rfl) (show gH2 S L env w _ hv from⟨b,vals,e,r1,r2,hGw.r hH hs r3,r4⟩)
 ·obtain⟨o,k1,k2⟩:=hget i o' h1;obtain⟨_,q1,q2⟩:=hver k2;exact hH.excl i o hv b k1 (by rw [←q1];exact h2) h3 ((q2 hv b).1 h4)
 ·obtain⟨p1,k1,k2⟩:=hget i o1 h1;obtain⟨p2,k3,k4⟩:=hget k o2 h2;obtain⟨_,q1,q2⟩:=hver k2;obtain⟨_,q3,q4⟩:=hver k4;exact hH.dist i k p1 p2 hv1 hv2 b k1 k3 (by rw [←q1];exact h3) (by rw [←q3];exact h4) h5 h6 ((q2 _ _).1 h7) ((q4 _ _).1 h8)
 ·refine⟨by rw [←hlen];exact hH.base.1,fun i hv o hv' o' h1 h2 h3 h4=>?_⟩;obtain⟨o0,k1,k2⟩:=hget i o' h4
  have:=hH.base.2 i hv o hv' o0 h1 h2 h3 k1
  rw [(hver k2).1];exact this
end
section
variable {P:Program}{A:Amb}{ops:Array Oper}{K:St→Prop}{r:List (Nat × Bool)}{pf:PF}{fr fr':List (Nat × SV)}{L L':List LO}{N i m t:Nat}{rest:List Oper}{Q:Exit→St→Prop}
variable {ty T:TypeId}{pos:String}{af:Array Edge}
theorem hR8 {c:Code}(h:V P A c ⟨fr',L',N⟩ Q)(hL:DzL L L L':=by(repeat(first | exact DzS.frz rfl | refine DzS.ag ?_ | exact DzS.same | refine DzO.box ?_ | exact DzO.same | constructor));first | done | fail)
  (hfr:DzF L fr fr':=by(repeat(first | exact DzS.frz rfl | refine DzS.ag ?_ | exact DzS.same | constructor));first | done | fail):V P A c ⟨fr,L,N⟩ Q:=fun a w hr=>h a w (hr.dz hL hfr)
theorem hAv (h:VO P A ops rest ⟨fr',L',N⟩ K)(hL:DzL L L L':=by(repeat(first | exact DzS.frz rfl | refine DzS.ag ?_ | exact DzS.same | refine DzO.box ?_ | exact DzO.same | constructor));first | done | fail)
  (hfr:DzF L fr fr':=by(repeat(first | exact DzS.frz rfl | refine DzS.ag ?_ | exact DzS.same | constructor));first | done | fail):VO P A ops rest ⟨fr,L,N⟩ K:=fun R hR a w hr=>h R hR a w (hr.dz hL hfr)
theorem hK0 {e z bs:Nat}{gg:Bool} [TE P T e] [TI P e gg z bs] (h:VY P A ops K r pf ⟨(t,.sl m 0)::fr,L',N⟩) (hi:ops[i]? =some ⟨some t,.buildSlice T 0 #[],ty,pos,af,none⟩:=by rfl) (ht:Nat.blt t N=true:=by rfl) (hL':Sn (.arr e z 0 []) L m L':=by repeat constructor)
  (hp:vU ops i L' pf:=by(repeat(first | exact vU.nil | (apply vU.keep;focus ((repeat constructor);done)) | (apply vU.dep;focus kernel_rfl)))):VY P A ops K ((i,false)::r) pf ⟨fr,L,N⟩:=
 gE5 hi (fun fr' he' K' hK=>gAu (gDc hK) ht hL') hp h
end
section
variable {P:Program}{σ:St}{dst:Option Nat}{ty T:TypeId}{pos:String}{af:Array Edge}{g:Option (Nat × Bool)}{x:Operand}
end
section
variable {P:Program}{A:Amb}{ops:Array Oper}{K:St→Prop}{Q:Exit→St→Prop}{rest:List Oper}{σ:St}{c:Code}
theorem hMx {α0 α1 α2 α3 α4 α5 α6 α7 α8:Type}(I:α0→α1→α2→α3→α4→α5→α6→α7→α8→St)(J:α0→α1→α2→α3→α4→α5→α6→α7→α8→Prop)(μ:α0→α1→α2→α3→α4→α5→α6→α7→α8→Nat)(x0:α0)(x1:α1)(x2:α2)(x3:α3)(x4:α4)(x5:α5)(x6:α6)(x7:α7)(x8:α8)(h0:Le σ (I x0 x1 x2 x3 x4 x5 x6 x7 x8))(hJ:J x0 x1 x2 x3 x4 x5 x6 x7 x8)
  (round:∀a0 a1 a2 a3 a4 a5 a6 a7 a8,J a0 a1 a2 a3 a4 a5 a6 a7 a8→V P A c (I a0 a1 a2 a3 a4 a5 a6 a7 a8) (thenS (fun s=>∃b0 b1 b2 b3 b4 b5 b6 b7 b8,J b0 b1 b2 b3 b4 b5 b6 b7 b8∧μ b0 b1 b2 b3 b4 b5 b6 b7 b8 < μ a0 a1 a2 a3 a4 a5 a6 a7 a8∧Le s (I b0 b1 b2 b3 b4 b5 b6 b7 b8)) Q)) (hA:∀a0 a1 a2 a3 a4 a5 a6 a7 a8,A.L0.length≤(I a0 a1 a2 a3 a4 a5 a6 a7 a8).L.length:=by intros;rw [gDv.h (A:=A)];exact Nat.le_of_ble_eq_true rfl):V P A (.loop c) σ Q:=
 gNx (α:=α0 × α1 × α2 × α3 × α4 × α5 × α6 × α7 × α8) (fun x=>I (x.1) (x.2.1) (x.2.2.1) (x.2.2.2.1) (x.2.2.2.2.1) (x.2.2.2.2.2.1) (x.2.2.2.2.2.2.1) (x.2.2.2.2.2.2.2.1) (x.2.2.2.2.2.2.2.2)) (fun x=>J (x.1) (x.2.1) (x.2.2.1) (x.2.2.2.1) (x.2.2.2.2.1) (x.2.2.2.2.2.1) (x.2.2.2.2.2.2.1) (x.2.2.2.2.2.2.2.1) (x.2.2.2.2.2.2.2.2)) (fun x=>μ (x.1) (x.2.1) (x.2.2.1) (x.2.2.2.1) (x.2.2.2.2.1) (x.2.2.2.2.2.1) (x.2.2.2.2.2.2.1) (x.2.2.2.2.2.2.2.1) (x.2.2.2.2.2.2.2.2)) (x0,x1,x2,x3,x4,x5,x6,x7,x8) h0 hJ (fun x hx=>V.mono (round (x.1) (x.2.1) (x.2.2.1) (x.2.2.2.1) (x.2.2.2.2.1) (x.2.2.2.2.2.1) (x.2.2.2.2.2.2.1) (x.2.2.2.2.2.2.2.1) (x.2.2.2.2.2.2.2.2) hx) (fun e s hq=>by
  cases e with
  | normal=>
    obtain⟨b0,b1,b2,b3,b4,b5,b6,b7,b8,h1,h2,h3⟩:=hq;exact⟨(b0,b1,b2,b3,b4,b5,b6,b7,b8),h1,h2,h3⟩
  | _=>exact hq)) (fun x=>hA (x.1) (x.2.1) (x.2.2.1) (x.2.2.2.1) (x.2.2.2.2.1) (x.2.2.2.2.2.1) (x.2.2.2.2.2.2.1) (x.2.2.2.2.2.2.2.1) (x.2.2.2.2.2.2.2.2))
theorem hIq {α0 α1 α2 α3 α4 α5 α6 α7 α8 α9 α10 α11 α12:Type}(I:α0→α1→α2→α3→α4→α5→α6→α7→α8→α9→α10→α11→α12→St)(J:α0→α1→α2→α3→α4→α5→α6→α7→α8→α9→α10→α11→α12→Prop)(μ:α0→α1→α2→α3→α4→α5→α6→α7→α8→α9→α10→α11→α12→Nat)(x0:α0)(x1:α1)(x2:α2)(x3:α3)(x4:α4)(x5:α5)(x6:α6)(x7:α7)(x8:α8)(x9:α9)(x10:α10)(x11:α11)(x12:α12)(h0:Le σ (I x0 x1 x2 x3 x4 x5 x6 x7 x8 x9 x10 x11 x12))(hJ:J x0 x1 x2 x3 x4 x5 x6 x7 x8 x9 x10 x11 x12)
  (round:∀a0 a1 a2 a3 a4 a5 a6 a7 a8 a9 a10 a11 a12,J a0 a1 a2 a3 a4 a5 a6 a7 a8 a9 a10 a11 a12→V P A c (I a0 a1 a2 a3 a4 a5 a6 a7 a8 a9 a10 a11 a12) (thenS (fun s=>∃b0 b1 b2 b3 b4 b5 b6 b7 b8 b9 b10 b11 b12,J b0 b1 b2 b3 b4 b5 b6 b7 b8 b9 b10 b11 b12∧μ b0 b1 b2 b3 b4 b5 b6 b7 b8 b9 b10 b11 b12 < μ a0 a1 a2 a3 a4 a5 a6 a7 a8 a9 a10 a11 a12∧Le s (I b0 b1 b2 b3 b4 b5 b6 b7 b8 b9 b10 b11 b12)) Q)) (hA:∀a0 a1 a2 a3 a4 a5 a6 a7 a8 a9 a10 a11 a12,A.L0.length≤(I a0 a1 a2 a3 a4 a5 a6 a7 a8 a9 a10 a11 a12).L.length:=by intros;rw [gDv.h (A:=A)];exact Nat.le_of_ble_eq_true rfl):V P A (.loop c) σ Q:=
 gNx (α:=α0 × α1 × α2 × α3 × α4 × α5 × α6 × α7 × α8 × α9 × α10 × α11 × α12) (fun x=>I (x.1) (x.2.1) (x.2.2.1) (x.2.2.2.1) (x.2.2.2.2.1) (x.2.2.2.2.2.1) (x.2.2.2.2.2.2.1) (x.2.2.2.2.2.2.2.1) (x.2.2.2.2.2.2.2.2.1) (x.2.2.2.2.2.2.2.2.2.1) (x.2.2.2.2.2.2.2.2.2.2.1) (x.2.2.2.2.2.2.2.2.2.2.2.1) (x.2.2.2.2.2.2.2.2.2.2.2.2)) (fun x=>J (x.1) (x.2.1) (x.2.2.1) (x.2.2.2.1) (x.2.2.2.2.1) (x.2.2.2.2.2.1) (x.2.2.2.2.2.2.1) (x.2.2.2.2.2.2.2.1) (x.2.2.2.2.2.2.2.2.1) (x.2.2.2.2.2.2.2.2.2.1) (x.2.2.2.2.2.2.2.2.2.2.1) (x.2.2.2.2.2.2.2.2.2.2.2.1) (x.2.2.2.2.2.2.2.2.2.2.2.2)) (fun x=>μ (x.1) (x.2.1) (x.2.2.1) (x.2.2.2.1) (x.2.2.2.2.1) (x.2.2.2.2.2.1) (x.2.2.2.2.2.2.1) (x.2.2.2.2.2.2.2.1) (x.2.2.2.2.2.2.2.2.1) (x.2.2.2.2.2.2.2.2.2.1) (x.2.2.2.2.2.2.2.2.2.2.1) (x.2.2.2.2.2.2.2.2.2.2.2.1) (x.2.2.2.2.2.2.2.2.2.2.2.2)) (x0,x1,x2,x3,x4,x5,x6,x7,x8,x9,x10,x11,x12) h0 hJ (fun x hx=>V.mono (round (x.1) (x.2.1) (x.2.2.1) (x.2.2.2.1) (x.2.2.2.2.1) (x.2.2.2.2.2.1) (x.2.2.2.2.2.2.1) (x.2.2.2.2.2.2.2.1) (x.2.2.2.2.2.2.2.2.1) (x.2.2.2.2.2.2.2.2.2.1) (x.2.2.2.2.2.2.2.2.2.2.1) (x.2.2.2.2.2.2.2.2.2.2.2.1) (x.2.2.2.2.2.2.2.2.2.2.2.2) hx) (fun e s hq=>by
  cases e with
  | normal=>
    obtain⟨b0,b1,b2,b3,b4,b5,b6,b7,b8,b9,b10,b11,b12,h1,h2,h3⟩:=hq;exact⟨(b0,b1,b2,b3,b4,b5,b6,b7,b8,b9,b10,b11,b12),h1,h2,h3⟩
  | _=>exact hq)) (fun x=>hA (x.1) (x.2.1) (x.2.2.1) (x.2.2.2.1) (x.2.2.2.2.1) (x.2.2.2.2.2.1) (x.2.2.2.2.2.2.1) (x.2.2.2.2.2.2.2.1) (x.2.2.2.2.2.2.2.2.1) (x.2.2.2.2.2.2.2.2.2.1) (x.2.2.2.2.2.2.2.2.2.2.1) (x.2.2.2.2.2.2.2.2.2.2.2.1) (x.2.2.2.2.2.2.2.2.2.2.2.2))
end
section
variable {P:Program}{A:Amb}{ops:Array Oper}{K:St→Prop}{r:List (Nat × Bool)}{pf:PF}{fr:List (Nat × SV)}{L:List LO}{N i t:Nat}{pos:String}{af:Array Edge}{x:Operand}
theorem hEt {α:Type}{e:α→U}{es:List α→List U}{z z':Nat}[E:Enc α e es z]{el:TypeId}{T T':TypeId} [TE P T el] {l:List α} {j ver e':Nat} (h:VY P A ops K r pf ⟨(t,.d (.i .i64 (l.length:Int)))::fr,L,N⟩)
  (hi:ops[i]? =some ⟨some t,.call { callee:=.builtin .len,args:=#[x],argTypes:=#[T] },T',pos,af,none⟩:=by rfl) (hx:(St.mk fr L N).ev x=.sl j ver:=by rfl) (hL:L[j]? =some (.arr e' z' ver (es l)):=by rfl) (ht:Nat.blt t N=true:=by rfl)
  (hp:vU ops i L pf:=by(repeat(first | exact vU.nil | (apply vU.keep;focus ((repeat constructor);done)) | (apply vU.dep;focus kernel_rfl)))):VY P A ops K ((i,false)::r) pf ⟨fr,L,N⟩:=
 gE5 hi (fun fr' he' K' hK=>vP (gVp (es:=es) (l:=l) (by rw [he' x (by simp [Op.operands,Call.operands])];exact hx) hL) (gDc hK) ht) hp h
end
def SV.isD:SV→Bool
 | .d _=>true
 | _=>false
theorem gUi{ρ:Nat→Nat}:∀{ds:List SV},ds.all SV.isD=true→SV.rens ρ ds=ds
 | [],_=>rfl
 | sv::ds,h=>by
   simp only [List.all_cons,Bool.and_eq_true] at h;have h1:SV.ren ρ sv=sv:=by
    cases sv with
    | d u=>rfl
    | _=>simp [SV.isD] at h
   simp only [SV.rens,h1,gUi h.2]
section
variable {P:Program}{A:Amb}{ops:Array Oper}{K:St→Prop}{r:List (Nat × Bool)}{pf:PF}{fr:List (Nat × SV)}{L L':List LO}{N i t:Nat}{rest:List Oper}
variable {ty:TypeId}{pos:String}{af:Array Edge}
theorem qU {f:Operand}{fi:Nat}{caps:List SV}{args:Array Operand}{at_:Array TypeId}{cargs ds0 ds:List SV}{sv:SV}(j:Nat)(hspec:Spec P fi cargs [.box ds0] (fun s Lo=>s=sv∧Lo=[.box ds]))(h:VY P A ops K r pf ⟨(t,sv)::fr,L',N⟩)
  (hL':St1 (.box ds) j L L':=by repeat constructor) (hi:ops[i]? =some ⟨some t,.call { callee:=.value f,args:=args,argTypes:=at_ },ty,pos,af,none⟩:=by rfl) (hsv:sv.ren (rn [j] L.length)=sv:=by rfl) (hds:ds.all SV.isD=true:=by rfl)
  (hf:(St.mk fr L N).ev f=.fn fi caps:=by rfl) (hp:gOr L (rn [j] L.length) 0 [.box ds0]:=by((repeat(first | exact trivial | exact rfl | refine And.intro ?_ ?_));first | done | fail))
  (hjs:(decide [j].Nodup && ([j].all fun j=>Nat.blt j L.length) && [j].length==[LO.box ds0].length && LO.lts [LO.box ds0].length [LO.box ds0])=true:=by rfl)
  (hargs:AGs L (rn [j] L.length) [LO.box ds0].length (args.toList.map (St.mk fr L N).ev++caps) cargs:=by((repeat(first | exact trivial | exact .inl ⟨rfl,rfl⟩ | exact .inr ⟨_,rfl,by((repeat(first | exact trivial | exact rfl | exact⟨_,rfl⟩ | refine And.intro ?_ ?_));first | done | fail)⟩ | refine And.intro ?_ ?_));first | done | fail))
  (ht:Nat.blt t N=true:=by rfl) (hpf:vU ops i L' pf:=by(repeat(first | exact vU.nil | (apply vU.keep;focus ((repeat constructor);done)) | (apply vU.dep;focus kernel_rfl)))) :
  VY P A ops K ((i,false)::r) pf ⟨fr,L,N⟩:=
 gDm [j] hspec h hi hsv (by simp only [List.map_cons,List.map_nil,LO.ren,gUi hds,gI1,List.append_nil];exact hL'.spec) hf hp hjs hargs ht hpf
theorem mI {f:Operand}{fi:Nat}{caps:List SV}{args:Array Operand}{at_:Array TypeId}{cargs ds0 ds:List SV}{sv:SV}(j:Nat)(hspec:Spec P fi cargs [.box ds0] (fun s Lo=>s=sv∧Lo=[.box ds]))(h:VO P A ops rest ⟨(t,sv)::fr,L',N⟩ K)
  (hL':St1 (.box ds) j L L':=by repeat constructor) (hsv:sv.ren (rn [j] L.length)=sv:=by rfl) (hds:ds.all SV.isD=true:=by rfl)
  (hf:(St.mk fr L N).ev f=.fn fi caps:=by rfl) (hp:gOr L (rn [j] L.length) 0 [.box ds0]:=by((repeat(first | exact trivial | exact rfl | refine And.intro ?_ ?_));first | done | fail))
  (hjs:(decide [j].Nodup && ([j].all fun j=>Nat.blt j L.length) && [j].length==[LO.box ds0].length && LO.lts [LO.box ds0].length [LO.box ds0])=true:=by rfl)
  (hargs:AGs L (rn [j] L.length) [LO.box ds0].length (args.toList.map (St.mk fr L N).ev++caps) cargs:=by((repeat(first | exact trivial | exact .inl ⟨rfl,rfl⟩ | exact .inr ⟨_,rfl,by((repeat(first | exact trivial | exact rfl | exact⟨_,rfl⟩ | refine And.intro ?_ ?_));first | done | fail)⟩ | refine And.intro ?_ ?_));first | done | fail))
  (ht:Nat.blt t N=true:=by rfl) :
  VO P A ops (⟨some t,.call { callee:=.value f,args:=args,argTypes:=at_ },ty,pos,af,none⟩::rest) ⟨fr,L,N⟩ K:=by
 refine gBz [j] hspec ?_ hf hp hjs hargs ht;rintro _ _ ⟨rfl,rfl⟩;rw [hsv,show gI1 [j] ([LO.box ds].map (LO.ren (rn [j] L.length))) L=L' from by simp only [List.map_cons,List.map_nil,LO.ren,gUi hds,gI1,List.append_nil];exact hL'.spec];exact h
theorem eJ{s t:St}(h:Le s t:=by refine⟨rfl,?_,⟨_,rfl⟩,rfl⟩;repeat(first | exact trivial | refine And.intro ⟨rfl,rfl⟩ ?_)):Le s t:=h
end
end Go.Eng
