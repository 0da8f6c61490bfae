import Derived.Test.YtfpdlnkkcnmebaaGreatEng61
import Derived.Laws.Strings2
import Derived.Laws.Strings3
set_option linter.unusedVariables false
set_option linter.unusedSimpArgs false
namespace Go.Eng
open Go Go.RowKit
structure vJ where
 s:LB
 at_:Int
 deep:Int
 size:Int
 bad:Bool
section
variable {P:Program}{σ:St}{dst:Option Nat}{ty T:TypeId}{pos:String}{af:Array Edge}{g:Option (Nat × Bool)}{x lo hi:Operand}
theorem hG8 [TS P T]{l:LB}{i j:Int}(hk:0≤i∧i≤j∧j≤(l.length:Int))(hx:σ.ev x=.d (.s l):=by rfl)(hi_:σ.ev lo=.d (.i .i64 i):=by rfl)(hj:σ.ev hi=.d (.i .i64 j):=by rfl) :
  QR P σ ⟨dst,.slice T x (some lo) (some hi) none,ty,pos,af,g⟩ (.d (.s ((l.drop i.toNat).take (j.toNat - i.toNat)))):=fun A fr' L' he _=>Quiet.pure fun S env a w hH ho=>by
 have h1:=ho x (by simp [Op.operands]);have h2:=ho lo (by simp [Op.operands]);have h3:=ho hi (by simp [Op.operands]);rw [he x (by simp [Op.operands]),hx] at h1;rw [he lo (by simp [Op.operands]),hi_,SVr.int] at h2;rw [he hi (by simp [Op.operands]),hj,SVr.int] at h3;obtain⟨hb,h1⟩:=SVr.str.1 h1;obtain⟨k0,k1,k2⟩:=hk;have hsz:(ByteArray.mk l.toArray).size=l.length:=by simp [ByteArray.size]
 have hrun:=run_slice_string (P:=P) (w:=w) T (ByteArray.mk l.toArray) .i64 .i64 i j TS.h k0 k1 (by rw [hsz];exact k2);rw [ByteArray.extract_mk] at hrun;refine⟨.string ⟨((l.drop i.toNat).take (j.toNat - i.toNat)).toArray⟩,?_,SVr.str.2 ⟨?_,rfl⟩⟩
 ·simp [execOp,h1,h2,h3,Instr.sliceAt,run_underlying TS.h,hrun]
 ·have:((l.drop i.toNat).take (j.toNat - i.toNat)).length≤l.length:=by simp;omega
  omega
theorem hG9 [TS P T]{l:LB}{i:Int}(hk:0≤i∧i≤(l.length:Int))(hx:σ.ev x=.d (.s l):=by rfl)(hi_:σ.ev lo=.d (.i .i64 i):=by rfl) :
  QR P σ ⟨dst,.slice T x (some lo) none none,ty,pos,af,g⟩ (.d (.s (l.drop i.toNat))):=fun A fr' L' he _=>Quiet.pure fun S env a w hH ho=>by
 have h1:=ho x (by simp [Op.operands]);have h2:=ho lo (by simp [Op.operands]);rw [he x (by simp [Op.operands]),hx] at h1;rw [he lo (by simp [Op.operands]),hi_,SVr.int] at h2;obtain⟨hb,h1⟩:=SVr.str.1 h1;have hsz:(ByteArray.mk l.toArray).size=l.length:=by simp [ByteArray.size]
 have hrun:=run_slice_string_from_if (P:=P) (w:=w) T (ByteArray.mk l.toArray) .i64 i TS.h;rw [if_pos (by rw [hsz];exact hk),ByteArray.extract_mk,hsz,←List.length_drop,List.take_length] at hrun;refine⟨.string ⟨(l.drop i.toNat).toArray⟩,?_,SVr.str.2 ⟨?_,rfl⟩⟩
 ·simp [execOp,h1,h2,Instr.sliceAt,run_underlying TS.h,hrun]
 ·have:(l.drop i.toNat).length≤l.length:=by simp
  omega
theorem hHa{α:Type}{en:α→U}{es:List α→List U}{z:Nat}[E:Enc α en es z]{e bs:Nat}{gg:Bool}{l:List α}{i j:Int}(hk:0≤i∧i≤j∧j≤(l.length:Int)) [TE P T e] [TI P e gg z bs](hx:σ.ev x=.d (.sl z (es l)):=by rfl)(hi_:σ.ev lo=.d (.i .i64 i):=by rfl)(hj:σ.ev hi=.d (.i .i64 j):=by rfl) :
  QR P σ ⟨dst,.slice T x (some lo) (some hi) none,ty,pos,af,g⟩ (.d (.sl z (es ((l.drop i.toNat).take (j.toNat - i.toNat))))):=fun A fr' L' he _=>Quiet.pure fun S env a w hH ho=>by
 have h1:=ho x (by simp [Op.operands]);have h2:=ho lo (by simp [Op.operands]);have h2':=ho hi (by simp [Op.operands]);rw [he x (by simp [Op.operands]),hx] at h1;rw [he lo (by simp [Op.operands]),hi_,SVr.int] at h2;rw [he hi (by simp [Op.operands]),hj,SVr.int] at h2';rw [SVr.slice] at h1;obtain⟨hbg,base,cap,h3,h4⟩:=h1;have hlen:(es l).length=l.length:=Enc.len l;have htk:es ((l.drop i.toNat).take (j.toNat - i.toNat))=((es l).drop i.toNat).take (j.toNat - i.toNat):=by rw [E.h,E.h,List.map_take,List.map_drop]
 have hT:P.underlying T=some (.slice e):=zB TE.h;have hel:P.elem T=e:=by simp [Program.elem,hT]
 have hT':P.underlying T=some (.slice (P.elem T)):=by rw [hel];exact hT
 obtain⟨hk0,hk1,hk2⟩:=hk;have hrun:=run_slice_lh (w:=w) T base (es l).length ((es l).length+cap) hT' .i64 .i64 i j hk0 hk1 (by omega);have hsz:=run_sizeOf (w:=w) (TI.h:tyI P e=some (gg,z,bs));rw [hel,hsz] at hrun;simp only [Result.andThen] at hrun;refine⟨sliced base i.toNat j.toNat ((es l).length+cap) z,?_,?_⟩
 ·simp [execOp,h3,h2,h2',Instr.sliceAt,run_underlying hT,hrun]
 ·rw [SVr.slice,htk];have htl:(((es l).drop i.toNat).take (j.toNat - i.toNat)).length=j.toNat - i.toNat:=by rw [List.length_take,List.length_drop];omega
  refine⟨by omega,if (es l).length+cap=i.toNat then base else base.map (·.add (i.toNat*z)),(es l).length+cap - j.toNat,?_,?_⟩
  ·rw [htl,show j.toNat - i.toNat+((es l).length+cap - j.toNat)=(es l).length+cap - i.toNat by omega];rfl
  ·by_cases hnil:((es l).drop i.toNat).take (j.toNat - i.toNat)=[]
   ·exact .inl hnil
   ·right;rcases h4 with h4 | ⟨b,off,rfl,h5,h6⟩
    ·rw [h4] at hnil;simp at hnil
    ·have hne:¬ (es l).length+cap=i.toNat:=fun e=>hnil (by rw [List.drop_eq_nil_of_le (by omega)];simp);refine⟨b,off+i.toNat*z,by rw [if_neg hne];simp [Addr.add_lit],h5,RdE.take _ _ _ (RdE.drop _ _ _ h6)⟩
end
def hVa(P:Program)(T:TypeId)(f:Nat):Option (Nat × Bool × Nat):=
 match P.underlying T with
 | some (.struct fs)=>match fs[f]? with
   | some fd=>(tyI P fd.type).map fun x=>(fd.offset,x.1,x.2.1)
   | none=>none
 | _=>none
theorem Rds.at{S:Nat→Prop}{w:World}{u:U}:∀(us:List U)(cs:List Value)(f:Nat),Rds S w us cs→us[f]? =some u→∃c1 c2 c3,cs=c1++c2++c3∧c1.length=U.szs (us.take f)∧Rd S w u c2
 | [],cs,f,_,hf=>by simp at hf
 | u0::us,cs,f,h,hf=>by
   simp only [Rds] at h;obtain⟨d1,d2,rfl,k2,k3⟩:=h;cases f with
   | zero=>
     simp only [List.getElem?_cons_zero,Option.some.injEq] at hf;subst hf;exact⟨[],d1,d2,rfl,rfl,k2⟩
   | succ f=>
     obtain⟨c1,c2,c3,rfl,e1,e2⟩:=Rds.at us d2 f k3 (by simpa using hf);refine⟨d1++c1,c2,c3,by simp,?_,e2⟩
     have:=Rd.length u0 d1 k2
     simp only [List.length_append,List.take_succ_cons,U.szs];omega
section
variable {P:Program}{σ:St}{dst:Option Nat}{ty T:TypeId}{pos:String}{af:Array Edge}{g:Option (Nat × Bool)}{x:Operand}
theorem gHj{us:List U}{u:U}{f:Nat}(hx:σ.ev x=.d (.st us):=by rfl)(hu:us[f]? =some u:=by rfl)(hF:hVa P T f=some (U.szs (us.take f),u.isSt,u.sz):=by kernel_rfl) :
  QR P σ ⟨dst,.field T x f,ty,pos,af,g⟩ (.d u):=fun A fr' L' he _=>Quiet.pure fun S env a w hH ho=>by
 have h1:=ho x (by simp [Op.operands]);rw [he x (by simp [Op.operands]),hx] at h1;simp only [SVr] at h1;obtain⟨cs,h2,h3⟩:=h1;simp only [Rd] at h3;obtain⟨c1,c2,c3,rfl,e1,e2⟩:=Rds.at us cs f h3 hu;have e3:=Rd.length u c2 e2;unfold hVa at hF;split at hF
 ·rename_i fs hund;split at hF
  ·rename_i fd hfd;cases hty:tyI P fd.type with
   | none=>rw [hty] at hF;cases hF
   | some t3=>
     obtain⟨q1,q2,q3⟩:=t3;rw [hty] at hF;simp only [Option.map_some,Option.some.injEq,Prod.mk.injEq] at hF;obtain⟨f1,rfl,rfl⟩:=hF;refine⟨val u c2,?_,by simp only [SVr];exact⟨c2,rfl,e2⟩⟩;rw [←e1] at f1;cases hs:u.isSt with
     | true=>
       rw [hs] at hty;have hex:(c1++c2++c3).toArray.extract c1.length (c1.length+c2.length)=c2.toArray:=by
        apply Array.ext';simp
       have hv:val u c2=.agg c2.toArray:=by unfold val;rw [if_pos hs]
       have h2':a.eval x=.agg (c1++c2++c3).toArray:=h2;rw [hv,←hex];simp only [execOp,h2',Instr.field,Sem.run_bind,run_underlying hund,Result.andThen_ok,hfd,asAgg,Sem.run_pure,part,gKj hty,run_sizeOf hty,f1,←e3,if_true]
     | false=>
       rw [hs] at hty;have hl:c2.length=1:=by rw [e3];cases u<;>first | rfl | simp [U.isSt] at hs
       obtain⟨v,rfl⟩:=List.length_eq_one_iff.1 hl;have hv:val u [v]=v:=by unfold val;rw [if_neg (by rw [hs];decide)];rfl
       have h2':a.eval x=.agg (c1++[v]++c3).toArray:=h2;rw [hv];simp [execOp,h2',Instr.field,run_underlying hund,hfd,asAgg,part,gKj hty,f1]
  ·cases hF
 ·cases hF
end
end Go.Eng
set_option linter.unusedSectionVars false
namespace Go.Eng
open Go
theorem Spec.verF {P:Program}{f e z v:Nat}{args:List SV}{es0 es:List U}{g:Nat→SV}(h:Go.Eng.Spec P f args [.arr e z v es0] (fun sv Lo=>∃v',sv=g v'∧Lo=[.arr e z v' es]))
  (hg:∀(S:Nat→Prop)(hv:Value)(w:World)(v':Nat)(r:Value),SVr S [.arr e z v' es] [hv] w (g v') r→SVr S [.arr e z (v+1) es] [hv] w (g (v+1)) r) :
  Go.Eng.Spec P f args [.arr e z v es0] (fun sv Lo=>sv=g (v+1)∧Lo=[.arr e z (v+1) es]):=by
 refine⟨h.1,fun A S env w vs h1 h2 h3 h4 hH hargs=>(h.2 A S env w vs h1 h2 h3 h4 hH hargs).mono ?_⟩;rintro ex w' ⟨r,sv,S',L',env',hr,⟨v',rfl,rfl⟩,hH',hsv⟩;obtain⟨hv,rfl⟩:∃hv,env'=[hv]:=by
  have:=hH'.len
  match env',this with
  | [hv],_=>exact⟨hv,rfl⟩
 refine⟨r,_,S',_,[hv],hr,⟨rfl,rfl⟩,?_,hg S' hv w' v' r hsv⟩;refine⟨rfl,fun i o hv1 k1 k2=>?_,fun i o hv1 b k1 k2 k3 k4=>?_,fun i j o o' hv1 hv2 b k1 k2 k3 k4 k5 k6 k7 k8=>?_,hH'.sS,hH'.sA,hH'.frame,hH'.size,hH'.os,hH'.tape,hH'.output,?_,hH'.glob⟩
 ·cases i with
  | zero=>
    simp at k1 k2;subst k1;subst k2;exact hH'.objs 0 (.arr e z v' es) hv rfl rfl
  | succ i=>simp at k1
 ·cases i with
  | zero=>
    simp at k1 k3;subst k1;subst k3;exact hH'.excl 0 (.arr e z v' es) hv b rfl rfl rfl k4
  | succ i=>simp at k1
 ·cases i with
  | zero=>cases j with
    | zero=>rfl
    | succ j=>simp at k2
  | succ i=>simp at k1
 ·have hb:=hH'.base;refine⟨by simpa using hb.1,fun i hv1 o hv2 o' k1 k2 k3 k4=>?_⟩;cases i with
  | zero=>
    simp at k3 k4;subst k3;subst k4;rw [h3] at k2;simp at k2;subst k2;have hb2:=hb.2 0 hv1 (.arr e z v es0) hv (.arr e z v' es) k1 (by rw [h3];rfl) rfl rfl;refine⟨by simp [LO.ver],fun he=>by simp [LO.ver] at he,hb2.2.2⟩
  | succ i=>simp at k3
theorem hMg{S:Nat→Prop}{e z v v':Nat}{es:List U}{hv:Value}{w:World}{r:Value}(h:SVr S [.arr e z v' es] [hv] w (.sl 0 v') r):SVr S [.arr e z v es] [hv] w (.sl 0 v) r:=by
 simp only [SVr] at h ⊢;obtain⟨hv1,o,q1,q2,q3,q4,q5⟩:=h;simp at q1 q2;subst q1;subst q2;exact⟨hv,_,rfl,rfl,Nat.le_refl _,q4,fun _=>q5 rfl⟩
theorem hMi{S:Nat→Prop}{e z v v':Nat}{es:List U}{hv:Value}{w:World}{u:U}{r:Value}(h:SVr S [.arr e z v' es] [hv] w (.ag [.d u,.sl 0 v']) r):SVr S [.arr e z v es] [hv] w (.ag [.d u,.sl 0 v]) r:=by
 simp only [SVr] at h;obtain⟨xs,rfl,hxs⟩:=h
 match xs,hxs with
 | [x0,x1],hxs=>
   simp only [kK] at hxs;simp only [SVr];refine⟨[x0,x1],rfl,?_⟩;simp only [kK];refine⟨?_,hMg hxs.2.1,trivial⟩
   have:=hxs.1
   simp only [SVr] at this ⊢;exact this
mutual
inductive DzS (L:List LO):SV→SV→Prop
 | frz {i v e z:Nat} {es:List U} (h:L[i]? =some (.frz e z v es)):DzS L (.sl i v) (.d (.sl z es))
 | same {sv:SV}:DzS L sv sv
 | ag {cs ds:List SV} (h:hDx L cs ds):DzS L (.ag cs) (.ag ds)
inductive hDx (L:List LO):List SV→List SV→Prop
 | nil:hDx L [] []
 | cons {a b:SV} {az bs:List SV} (h:DzS L a b) (h2:hDx L az bs):hDx L (a::az) (b::bs)
end
inductive DzO (L:List LO):LO→LO→Prop
 | box {cs ds:List SV} (h:hDx L cs ds):DzO L (.box cs) (.box ds)
 | same {o:LO}:DzO L o o
inductive DzL (L:List LO):List LO→List LO→Prop
 | nil:DzL L [] []
 | cons {a b:LO} {az bs:List LO} (h:DzO L a b) (h2:DzL L az bs):DzL L (a::az) (b::bs)
inductive DzF (L:List LO):List (Nat × SV)→List (Nat × SV)→Prop
 | nil:DzF L [] []
 | cons {t:Nat} {a b:SV} {az bs:List (Nat × SV)} (h:DzS L a b) (h2:DzF L az bs):DzF L ((t,a)::az) ((t,b)::bs)
section
variable {A:Amb}{S:Nat→Prop}{L L':List LO}{env:List Value}{w:World}
mutual
theorem DzS.r(hH:pQ A S L env w):∀{a b:SV}{x:Value},DzS L a b→SVr S L env w a x→SVr S L env w b x
 | _,_,x,.frz h,hx=>by
   simp only [SVr] at hx;obtain⟨hv,o,k1,k2,k3,k4,k5⟩:=hx;rw [h] at k2;obtain rfl:=Option.some.inj k2
   have:=hH.objs _ _ _ h k1
   rw [k5 rfl];simp only [SVr];exact this
 | _,_,x,.same,hx=>hx
 | _,_,x,.ag hs,hx=>by
   simp only [SVr] at hx ⊢;obtain⟨vs,h1,h2⟩:=hx;exact⟨vs,h1,hDx.r hH hs h2⟩
theorem hDx.r(hH:pQ A S L env w):∀{az bs:List SV}{xs:List Value},hDx L az bs→kK S L env w az xs→kK S L env w bs xs
 | _,_,[],.nil,h=>by simp only [kK]
 | _,_,_::_,.nil,h=>by simp only [kK] at h
 | _,_,[],.cons _ _,h=>by simp only [kK] at h
 | _,_,_::_,.cons h1 h2,h=>by
   simp only [kK] at h ⊢;exact⟨DzS.r hH h1 h.1,hDx.r hH h2 h.2⟩
end
theorem DzL.get{L0:List LO}:∀{az bs:List LO},DzL L0 az bs→az.length=bs.length∧∀(m:Nat)(b:LO),bs[m]? =some b→∃a,az[m]? =some a∧DzO L0 a b
 | _,_,.nil=>⟨rfl,fun m b h=>by simp at h⟩
 | _,_,.cons (a:=a0) h h2=>by
   obtain⟨k1,k2⟩:=DzL.get h2;refine⟨by simp [k1],fun m b hb=>?_⟩;cases m with
   | zero=>simp at hb;subst hb;exact⟨a0,by simp,h⟩
   | succ m=>
     obtain⟨a,q1,q2⟩:=k2 m b (by simpa using hb);exact⟨a,by simpa using q1,q2⟩
theorem DzF.look{L0:List LO}:∀{az bs:List (Nat × SV)},DzF L0 az bs→∀t,DzS L0 (Go.Eng.look az t) (Go.Eng.look bs t)
 | _,_,.nil,t=>.same
 | _,_,.cons (t:=t0) h h2,t=>by
   simp only [Go.Eng.look];by_cases ht:t=t0
   ·simp only [ht,if_true];exact h
   ·simp only [if_neg ht];exact DzF.look h2 t
theorem mV.dz{a:Act}{fr fr':List (Nat × SV)}{N:Nat}(hL:DzL L L L')(hfr:DzF L fr fr')(h:mV A ⟨fr,L,N⟩ a w):mV A ⟨fr',L',N⟩ a w:=by
 obtain⟨S,env,hH,hf,hN,hd⟩:=h;obtain⟨hlen,hget⟩:=hL.get;have hback:∀(m:Nat)(o:LO),L[m]? =some o→∃o',L'[m]? =some o'∧DzO L o o':=by
  intro m o ho;have hm:m < L'.length:=by rw [←hlen];exact(List.getElem?_eq_some_iff.1 ho).1
  obtain⟨o0,k1,k2⟩:=hget m _ (List.getElem?_eq_getElem hm);rw [ho] at k1;obtain rfl:=Option.some.inj k1;exact⟨_,List.getElem?_eq_getElem hm,k2⟩
 have hver:∀{o o':LO},DzO L o o'→o'.ver=o.ver∧o'.live=o.live∧∀hv b,o'.ft w hv b↔o.ft w hv b:=by
  intro o o' h;cases h with
  | _=>exact⟨rfl,rfl,fun _ _=>Iff.rfl⟩
 have C:Carry S L env w S L' env w:=⟨fun _ h _=>h,fun _ _ _=>rfl,fun _ _ h=>h,fun i hv o h1 h2=>by
  obtain⟨o',k1,k2⟩:=hback i o h2
  exact⟨hv,o',h1,k1,by rw [(hver k2).1];exact Nat.le_refl _,fun _=>rfl⟩⟩
 refine⟨S,env,⟨by rw [←hlen];exact hH.len,fun i o' hv h1 h2=>?_,fun i o' hv b h1 h2 h3 h4=>?_,fun i k o1 o2 hv1 hv2 b h1 h2 h3 h4 h5 h6 h7 h8=>?_,hH.sS,hH.sA,hH.frame,hH.size,hH.os,hH.tape,hH.output,?_,hH.glob⟩,fun t=>SVr.carry C _ _ (DzS.r hH (hfr.look t) (hf t)),hN,hd⟩
 ·obtain⟨o,k1,k2⟩:=hget i o' h1;have hob:=hH.objs i o hv k1 h2;cases k2 with
  | same=>exact gG9.carry C (fun _ _ _=>rfl) hob
  | box hs=>
    obtain⟨b,vals,e,r1,r2,r3,r4⟩:=hob;exact gG9.carry C (fun _ _ _=>rfl) (show gG9 S L env w _ hv from⟨b,vals,e,r1,r2,hDx.r hH hs r3,r4⟩)
 ·obtain⟨o,k1,k2⟩:=hget i o' h1;obtain⟨_,q1,q2⟩:=hver k2;exact hH.excl i o hv b k1 (by rw [←q1];exact h2) h3 ((q2 hv b).1 h4)
 ·obtain⟨p1,k1,k2⟩:=hget i o1 h1;obtain⟨p2,k3,k4⟩:=hget k o2 h2;obtain⟨_,q1,q2⟩:=hver k2;obtain⟨_,q3,q4⟩:=hver k4;exact hH.dist i k p1 p2 hv1 hv2 b k1 k3 (by rw [←q1];exact h3) (by rw [←q3];exact h4) h5 h6 ((q2 _ _).1 h7) ((q4 _ _).1 h8)
 ·refine⟨by rw [←hlen];exact hH.base.1,fun i hv o hv' o' h1 h2 h3 h4=>?_⟩;obtain⟨o0,k1,k2⟩:=hget i o' h4
  have:=hH.base.2 i hv o hv' o0 h1 h2 h3 k1
  rw [(hver k2).1];exact this
end
section
variable {P:Program}{A:Amb}{ops:Array Oper}{K:St→Prop}{r:List (Nat × Bool)}{pf:PF}{fr fr':List (Nat × SV)}{L L':List LO}{N i m t:Nat}{rest:List Oper}{Q:Exit→St→Prop}
variable {ty T:TypeId}{pos:String}{af:Array Edge}
theorem hOu {c:Code}(h:V P A c ⟨fr',L',N⟩ Q)(hL:DzL L L L':=by(repeat(first | exact DzS.frz rfl | refine DzS.ag ?_ | exact DzS.same | refine DzO.box ?_ | exact DzO.same | constructor));first | done | fail)
  (hfr:DzF L fr fr':=by(repeat(first | exact DzS.frz rfl | refine DzS.ag ?_ | exact DzS.same | constructor));first | done | fail):V P A c ⟨fr,L,N⟩ Q:=fun a w hr=>h a w (hr.dz hL hfr)
theorem gZb (h:VO P A ops rest ⟨fr',L',N⟩ K)(hL:DzL L L L':=by(repeat(first | exact DzS.frz rfl | refine DzS.ag ?_ | exact DzS.same | refine DzO.box ?_ | exact DzO.same | constructor));first | done | fail)
  (hfr:DzF L fr fr':=by(repeat(first | exact DzS.frz rfl | refine DzS.ag ?_ | exact DzS.same | constructor));first | done | fail):VO P A ops rest ⟨fr,L,N⟩ K:=fun R hR a w hr=>h R hR a w (hr.dz hL hfr)
end
section
variable {P:Program}{σ:St}{dst:Option Nat}{ty T:TypeId}{pos:String}{af:Array Edge}{g:Option (Nat × Bool)}{x:Operand}
end
section
variable {P:Program}{A:Amb}{ops:Array Oper}{K:St→Prop}{Q:Exit→St→Prop}{rest:List Oper}{σ:St}{c:Code}
theorem hI6 {α0 α1 α2 α3 α4 α5 α6 α7 α8:Type}(I:α0→α1→α2→α3→α4→α5→α6→α7→α8→St)(J:α0→α1→α2→α3→α4→α5→α6→α7→α8→Prop)(μ:α0→α1→α2→α3→α4→α5→α6→α7→α8→Nat)(x0:α0)(x1:α1)(x2:α2)(x3:α3)(x4:α4)(x5:α5)(x6:α6)(x7:α7)(x8:α8)(h0:Le σ (I x0 x1 x2 x3 x4 x5 x6 x7 x8))(hJ:J x0 x1 x2 x3 x4 x5 x6 x7 x8)
  (round:∀a0 a1 a2 a3 a4 a5 a6 a7 a8,J a0 a1 a2 a3 a4 a5 a6 a7 a8→V P A c (I a0 a1 a2 a3 a4 a5 a6 a7 a8) (thenS (fun s=>∃b0 b1 b2 b3 b4 b5 b6 b7 b8,J b0 b1 b2 b3 b4 b5 b6 b7 b8∧μ b0 b1 b2 b3 b4 b5 b6 b7 b8 < μ a0 a1 a2 a3 a4 a5 a6 a7 a8∧Le s (I b0 b1 b2 b3 b4 b5 b6 b7 b8)) Q)) (hA:∀a0 a1 a2 a3 a4 a5 a6 a7 a8,A.L0.length≤(I a0 a1 a2 a3 a4 a5 a6 a7 a8).L.length:=by intros;rw [gC7.h (A:=A)];exact Nat.le_of_ble_eq_true rfl):V P A (.loop c) σ Q:=
 gQf (α:=α0 × α1 × α2 × α3 × α4 × α5 × α6 × α7 × α8) (fun x=>I (x.1) (x.2.1) (x.2.2.1) (x.2.2.2.1) (x.2.2.2.2.1) (x.2.2.2.2.2.1) (x.2.2.2.2.2.2.1) (x.2.2.2.2.2.2.2.1) (x.2.2.2.2.2.2.2.2)) (fun x=>J (x.1) (x.2.1) (x.2.2.1) (x.2.2.2.1) (x.2.2.2.2.1) (x.2.2.2.2.2.1) (x.2.2.2.2.2.2.1) (x.2.2.2.2.2.2.2.1) (x.2.2.2.2.2.2.2.2)) (fun x=>μ (x.1) (x.2.1) (x.2.2.1) (x.2.2.2.1) (x.2.2.2.2.1) (x.2.2.2.2.2.1) (x.2.2.2.2.2.2.1) (x.2.2.2.2.2.2.2.1) (x.2.2.2.2.2.2.2.2)) (x0,x1,x2,x3,x4,x5,x6,x7,x8) h0 hJ (fun x hx=>V.mono (round (x.1) (x.2.1) (x.2.2.1) (x.2.2.2.1) (x.2.2.2.2.1) (x.2.2.2.2.2.1) (x.2.2.2.2.2.2.1) (x.2.2.2.2.2.2.2.1) (x.2.2.2.2.2.2.2.2) hx) (fun e s hq=>by
  cases e with
  | normal=>
    obtain⟨b0,b1,b2,b3,b4,b5,b6,b7,b8,h1,h2,h3⟩:=hq;exact⟨(b0,b1,b2,b3,b4,b5,b6,b7,b8),h1,h2,h3⟩
  | _=>exact hq)) (fun x=>hA (x.1) (x.2.1) (x.2.2.1) (x.2.2.2.1) (x.2.2.2.2.1) (x.2.2.2.2.2.1) (x.2.2.2.2.2.2.1) (x.2.2.2.2.2.2.2.1) (x.2.2.2.2.2.2.2.2))
theorem hFi {α0 α1 α2 α3 α4 α5 α6 α7 α8 α9 α10 α11 α12:Type}(I:α0→α1→α2→α3→α4→α5→α6→α7→α8→α9→α10→α11→α12→St)(J:α0→α1→α2→α3→α4→α5→α6→α7→α8→α9→α10→α11→α12→Prop)(μ:α0→α1→α2→α3→α4→α5→α6→α7→α8→α9→α10→α11→α12→Nat)(x0:α0)(x1:α1)(x2:α2)(x3:α3)(x4:α4)(x5:α5)(x6:α6)(x7:α7)(x8:α8)(x9:α9)(x10:α10)(x11:α11)(x12:α12)(h0:Le σ (I x0 x1 x2 x3 x4 x5 x6 x7 x8 x9 x10 x11 x12))(hJ:J x0 x1 x2 x3 x4 x5 x6 x7 x8 x9 x10 x11 x12)
  (round:∀a0 a1 a2 a3 a4 a5 a6 a7 a8 a9 a10 a11 a12,J a0 a1 a2 a3 a4 a5 a6 a7 a8 a9 a10 a11 a12→V P A c (I a0 a1 a2 a3 a4 a5 a6 a7 a8 a9 a10 a11 a12) (thenS (fun s=>∃b0 b1 b2 b3 b4 b5 b6 b7 b8 b9 b10 b11 b12,J b0 b1 b2 b3 b4 b5 b6 b7 b8 b9 b10 b11 b12∧μ b0 b1 b2 b3 b4 b5 b6 b7 b8 b9 b10 b11 b12 < μ a0 a1 a2 a3 a4 a5 a6 a7 a8 a9 a10 a11 a12∧Le s (I b0 b1 b2 b3 b4 b5 b6 b7 b8 b9 b10 b11 b12)) Q)) (hA:∀a0 a1 a2 a3 a4 a5 a6 a7 a8 a9 a10 a11 a12,A.L0.length≤(I a0 a1 a2 a3 a4 a5 a6 a7 a8 a9 a10 a11 a12).L.length:=by intros;rw [gC7.h (A:=A)];exact Nat.le_of_ble_eq_true rfl):V P A (.loop c) σ Q:=
 gQf (α:=α0 × α1 × α2 × α3 × α4 × α5 × α6 × α7 × α8 × α9 × α10 × α11 × α12) (fun x=>I (x.1) (x.2.1) (x.2.2.1) (x.2.2.2.1) (x.2.2.2.2.1) (x.2.2.2.2.2.1) (x.2.2.2.2.2.2.1) (x.2.2.2.2.2.2.2.1) (x.2.2.2.2.2.2.2.2.1) (x.2.2.2.2.2.2.2.2.2.1) (x.2.2.2.2.2.2.2.2.2.2.1) (x.2.2.2.2.2.2.2.2.2.2.2.1) (x.2.2.2.2.2.2.2.2.2.2.2.2)) (fun x=>J (x.1) (x.2.1) (x.2.2.1) (x.2.2.2.1) (x.2.2.2.2.1) (x.2.2.2.2.2.1) (x.2.2.2.2.2.2.1) (x.2.2.2.2.2.2.2.1) (x.2.2.2.2.2.2.2.2.1) (x.2.2.2.2.2.2.2.2.2.1) (x.2.2.2.2.2.2.2.2.2.2.1) (x.2.2.2.2.2.2.2.2.2.2.2.1) (x.2.2.2.2.2.2.2.2.2.2.2.2)) (fun x=>μ (x.1) (x.2.1) (x.2.2.1) (x.2.2.2.1) (x.2.2.2.2.1) (x.2.2.2.2.2.1) (x.2.2.2.2.2.2.1) (x.2.2.2.2.2.2.2.1) (x.2.2.2.2.2.2.2.2.1) (x.2.2.2.2.2.2.2.2.2.1) (x.2.2.2.2.2.2.2.2.2.2.1) (x.2.2.2.2.2.2.2.2.2.2.2.1) (x.2.2.2.2.2.2.2.2.2.2.2.2)) (x0,x1,x2,x3,x4,x5,x6,x7,x8,x9,x10,x11,x12) h0 hJ (fun x hx=>V.mono (round (x.1) (x.2.1) (x.2.2.1) (x.2.2.2.1) (x.2.2.2.2.1) (x.2.2.2.2.2.1) (x.2.2.2.2.2.2.1) (x.2.2.2.2.2.2.2.1) (x.2.2.2.2.2.2.2.2.1) (x.2.2.2.2.2.2.2.2.2.1) (x.2.2.2.2.2.2.2.2.2.2.1) (x.2.2.2.2.2.2.2.2.2.2.2.1) (x.2.2.2.2.2.2.2.2.2.2.2.2) hx) (fun e s hq=>by
  cases e with
  | normal=>
    obtain⟨b0,b1,b2,b3,b4,b5,b6,b7,b8,b9,b10,b11,b12,h1,h2,h3⟩:=hq;exact⟨(b0,b1,b2,b3,b4,b5,b6,b7,b8,b9,b10,b11,b12),h1,h2,h3⟩
  | _=>exact hq)) (fun x=>hA (x.1) (x.2.1) (x.2.2.1) (x.2.2.2.1) (x.2.2.2.2.1) (x.2.2.2.2.2.1) (x.2.2.2.2.2.2.1) (x.2.2.2.2.2.2.2.1) (x.2.2.2.2.2.2.2.2.1) (x.2.2.2.2.2.2.2.2.2.1) (x.2.2.2.2.2.2.2.2.2.2.1) (x.2.2.2.2.2.2.2.2.2.2.2.1) (x.2.2.2.2.2.2.2.2.2.2.2.2))
end
section
variable {P:Program}{A:Amb}{ops:Array Oper}{K:St→Prop}{r:List (Nat × Bool)}{pf:PF}{fr:List (Nat × SV)}{L:List LO}{N i t:Nat}{pos:String}{af:Array Edge}{x:Operand}
theorem hB6 {α:Type}{e:α→U}{es:List α→List U}{z z':Nat}[E:Enc α e es z]{el:TypeId}{T T':TypeId} [TE P T el] {l:List α} {j ver e':Nat} (h:VY P A ops K r pf ⟨(t,.d (.i .i64 (l.length:Int)))::fr,L,N⟩)
  (hi:ops[i]? =some ⟨some t,.call { callee:=.builtin .len,args:=#[x],argTypes:=#[T] },T',pos,af,none⟩:=by rfl) (hx:(St.mk fr L N).ev x=.sl j ver:=by rfl) (hL:L[j]? =some (.arr e' z' ver (es l)):=by rfl) (ht:Nat.blt t N=true:=by rfl)
  (hp:vE ops i L pf:=by(repeat(first | exact vE.nil | (apply vE.keep;focus ((repeat constructor);done)) | (apply vE.dep;focus kernel_rfl)))):VY P A ops K ((i,false)::r) pf ⟨fr,L,N⟩:=
 gFo hi (fun fr' he' K' hK=>yS (gUy (es:=es) (l:=l) (by rw [he' x (by simp [Op.operands,Call.operands])];exact hx) hL) (gCz hK) ht) hp h
end
def SV.isD:SV→Bool
 | .d _=>true
 | _=>false
theorem gTc{ρ:Nat→Nat}:∀{ds:List SV},ds.all SV.isD=true→SV.rens ρ ds=ds
 | [],_=>rfl
 | sv::ds,h=>by
   simp only [List.all_cons,Bool.and_eq_true] at h;have h1:SV.ren ρ sv=sv:=by
    cases sv with
    | d u=>rfl
    | _=>simp [SV.isD] at h
   simp only [SV.rens,h1,gTc h.2]
section
variable {P:Program}{A:Amb}{ops:Array Oper}{K:St→Prop}{r:List (Nat × Bool)}{pf:PF}{fr:List (Nat × SV)}{L L':List LO}{N i t:Nat}{rest:List Oper}
variable {ty:TypeId}{pos:String}{af:Array Edge}
theorem mH {f:Operand}{fi:Nat}{caps:List SV}{args:Array Operand}{at_:Array TypeId}{cargs ds0 ds:List SV}{sv:SV}(j:Nat)(hspec:Spec P fi cargs [.box ds0] (fun s Lo=>s=sv∧Lo=[.box ds]))(h:VY P A ops K r pf ⟨(t,sv)::fr,L',N⟩)
  (hL':St1 (.box ds) j L L':=by repeat constructor) (hi:ops[i]? =some ⟨some t,.call { callee:=.value f,args:=args,argTypes:=at_ },ty,pos,af,none⟩:=by rfl) (hsv:sv.ren (rn [j] L.length)=sv:=by rfl) (hds:ds.all SV.isD=true:=by rfl)
  (hf:(St.mk fr L N).ev f=.fn fi caps:=by rfl) (hp:gNq L (rn [j] L.length) 0 [.box ds0]:=by((repeat(first | exact trivial | exact rfl | refine And.intro ?_ ?_));first | done | fail))
  (hjs:(decide [j].Nodup && ([j].all fun j=>Nat.blt j L.length) && [j].length==[LO.box ds0].length && LO.lts [LO.box ds0].length [LO.box ds0])=true:=by rfl)
  (hargs:AGs L (rn [j] L.length) [LO.box ds0].length (args.toList.map (St.mk fr L N).ev++caps) cargs:=by((repeat(first | exact trivial | exact .inl ⟨rfl,rfl⟩ | exact .inr ⟨_,rfl,by((repeat(first | exact trivial | exact rfl | exact⟨_,rfl⟩ | refine And.intro ?_ ?_));first | done | fail)⟩ | refine And.intro ?_ ?_));first | done | fail))
  (ht:Nat.blt t N=true:=by rfl) (hpf:vE ops i L' pf:=by(repeat(first | exact vE.nil | (apply vE.keep;focus ((repeat constructor);done)) | (apply vE.dep;focus kernel_rfl)))) :
  VY P A ops K ((i,false)::r) pf ⟨fr,L,N⟩:=
 gCn [j] hspec h hi hsv (by simp only [List.map_cons,List.map_nil,LO.ren,gTc hds,gH5,List.append_nil];exact hL'.spec) hf hp hjs hargs ht hpf
theorem mZ {f:Operand}{fi:Nat}{caps:List SV}{args:Array Operand}{at_:Array TypeId}{cargs ds0 ds:List SV}{sv:SV}(j:Nat)(hspec:Spec P fi cargs [.box ds0] (fun s Lo=>s=sv∧Lo=[.box ds]))(h:VO P A ops rest ⟨(t,sv)::fr,L',N⟩ K)
  (hL':St1 (.box ds) j L L':=by repeat constructor) (hsv:sv.ren (rn [j] L.length)=sv:=by rfl) (hds:ds.all SV.isD=true:=by rfl)
  (hf:(St.mk fr L N).ev f=.fn fi caps:=by rfl) (hp:gNq L (rn [j] L.length) 0 [.box ds0]:=by((repeat(first | exact trivial | exact rfl | refine And.intro ?_ ?_));first | done | fail))
  (hjs:(decide [j].Nodup && ([j].all fun j=>Nat.blt j L.length) && [j].length==[LO.box ds0].length && LO.lts [LO.box ds0].length [LO.box ds0])=true:=by rfl)
  (hargs:AGs L (rn [j] L.length) [LO.box ds0].length (args.toList.map (St.mk fr L N).ev++caps) cargs:=by((repeat(first | exact trivial | exact .inl ⟨rfl,rfl⟩ | exact .inr ⟨_,rfl,by((repeat(first | exact trivial | exact rfl | exact⟨_,rfl⟩ | refine And.intro ?_ ?_));first | done | fail)⟩ | refine And.intro ?_ ?_));first | done | fail))
  (ht:Nat.blt t N=true:=by rfl) :
  VO P A ops (⟨some t,.call { callee:=.value f,args:=args,argTypes:=at_ },ty,pos,af,none⟩::rest) ⟨fr,L,N⟩ K:=by
 refine gCl [j] hspec ?_ hf hp hjs hargs ht;rintro _ _ ⟨rfl,rfl⟩;rw [hsv,show gH5 [j] ([LO.box ds].map (LO.ren (rn [j] L.length))) L=L' from by simp only [List.map_cons,List.map_nil,LO.ren,gTc hds,gH5,List.append_nil];exact hL'.spec];exact h
theorem eJ{s t:St}(h:Le s t:=by refine⟨rfl,?_,⟨_,rfl⟩,rfl⟩;repeat(first | exact trivial | refine And.intro ⟨rfl,rfl⟩ ?_)):Le s t:=h
end
@[reducible] def SV.N(n:Nat):SV:=.d (.i .i64 (n:Int))
@[reducible] def SV.I(n:Int):SV:=.d (.i .i64 n)
@[reducible] def SV.S(s:LB):SV:=.d (.s s)
@[reducible] def SV.L(t:Nat)(l:List U):SV:=.d (.sl t l)
@[reducible] def SV.B(b:Bool):SV:=.d (.b b)
section
variable {P:Program}{A:Amb}{ops:Array Oper}{K:St→Prop}{Q:Exit→St→Prop}{rest:List Oper}{σ σ' σJ:St}{fr:List (Nat × SV)}{L:List LO}{N t:Nat}{sv:SV}
variable {ty:TypeId}{pos:String}{af:Array Edge}{op:Op}
theorem goS {X Y:Prop}(hy:Y)(h:Y→X:=by
  intro hy;refine yE ?_;show V _ _ _ _ _
  exact goL hy):X:=h hy
theorem goX {X Y:Prop}(hy:Y)(h:Y→X:=by
  intro hy;refine gRw ?_;show V _ _ _ _ _
  exact goL hy):X:=h hy
theorem goR {X E:Prop}(h:E)(g:E→X:=by
  intro h;refine goL ?_;refine jG ?_;cases h
  exact uA):X:=g h
theorem noS {X Y:Prop}(hy:Y)(h:Y→X:=by
  intro hy;refine yE ?_;show V _ _ _ _ _
  exact hy):X:=h hy
theorem noX {X Y:Prop}(hy:Y)(h:Y→X:=by
  intro hy;refine gRw ?_;show V _ _ _ _ _
  exact hy):X:=h hy
theorem noB {X Y:Prop}(hy:Y)(h:Y→X:=by
  intro hy;refine jE ?_;show V _ _ _ _ _
  exact hy):X:=h hy
theorem gIx{x y:Code}{Q2:Exit→St→Prop}{σ:St}(σJ:Nat→St)(h1:V P A x σ (thenS (fun s=>∃v,Le s (σJ v)) Q))(h2:∀v,V P A y (σJ v) Q2)(hA:∀v,A.L0.length≤(σJ v).L.length:=by intro v;rw [gC7.h (A:=A)];exact Nat.le_of_ble_eq_true rfl):V P A x σ (thenS (fun s=>V P A y s Q2) Q):=
 V.mono h1 (fun e s hq=>by
  cases e with
  | normal=>
    obtain⟨v,h⟩:=hq;exact hPk h (h2 v) (hA v)
  | _=>exact hq)
theorem jK(hq:QR P ⟨fr,L,N⟩ ⟨some t,op,ty,pos,af,none⟩ sv){Y:Prop}(hy:Y)(h:Y→VO P A ops rest ⟨(t,sv)::fr,L,N⟩ K:=by intro hy;exact goL hy)(ht:Nat.blt t N=true:=by rfl):VO P A ops (⟨some t,op,ty,pos,af,none⟩::rest) ⟨fr,L,N⟩ K:=qM hq (h hy) ht
theorem gAc(hq:Quiet P A ⟨fr,L,N⟩ ⟨some t,op,ty,pos,af,none⟩ sv){Y:Prop}(hy:Y)(h:Y→VO P A ops rest ⟨(t,sv)::fr,L,N⟩ K:=by intro hy;exact goL hy)(ht:Nat.blt t N=true:=by rfl):VO P A ops (⟨some t,op,ty,pos,af,none⟩::rest) ⟨fr,L,N⟩ K:=yS hq (h hy) ht
theorem hSg{α:Type}{b:Bool}{u v r:α}(h:cnd b u v=r){c:Operand}{x y:Code}(ht:b=true→u=r→V P A x σ Q)(hf:b=false→v=r→V P A y σ Q)(hc:σ.ev c=.d (.b b):=by rfl):V P A (.cond c x y) σ Q:=mQ (fun e=>ht e (kT e h)) (fun e=>hf e (kU e h)) hc
theorem goC {α:Type}{b:Bool}{u v r:α}(h:cnd b u v=r){X Y Z:Prop}(ht:b=true→u=r→Y)(hf:b=false→v=r→Z)(g:(b=true→u=r→Y)→(b=false→v=r→Z)→X:=by
  intro ht hf;refine goL ?_
  exact hSg h ht hf):X:=g ht hf
theorem hMk {c:Code}{fr':List (Nat × SV)}{L':List LO}(h:V P A c ⟨fr',L',N⟩ Q)(hL:DzL L L L':=by(repeat(first | exact DzS.frz rfl | apply DzS.ag | exact DzS.same | apply DzO.box | exact DzO.same | constructor));first | done | fail)
  (hfr:DzF L fr fr':=by(repeat(first | exact DzS.frz rfl | apply DzS.ag | exact DzS.same | constructor));first | done | fail):V P A c ⟨fr,L,N⟩ Q:=hOu h hL hfr
theorem SpI {f:Nat}{fn:Func}{c:Code}{args:List SV}{us:List U}(hf:P.funcs[f]? =some fn)(h:∀A [gC7 A 0],V P A c ⟨gKf 0 args,[],fn.ntmps⟩ (qI P fn us))(hb:fn.body=some c:=by rfl)(hname:(fn.name== "runtime.NumGoroutine")=false:=by kernel_rfl)
  (hn:Nat.ble args.length fn.ntmps=true:=by rfl):jF P f args us:=gP2 hf hb hname hn h
end
@[reducible] def bTy(x0:Int)(x1:LB)(x2:List gB):LO:=.box [.I x0,.S x1,.L 3 (gK x2)]
@[reducible] def bIn(x0:LB)(x1:LS)(x2:Int)(x3:LB)(x4:List gB)(x5:List gT)(x6:Bool)(x7:Bool)(x8:Int)(x9:LB)(x10:List gB)(x11:List gX):LO:=.box [.S x0,.L 1 (gP x1),.I x2,.S x3,.L 3 (gK x4),.L 4 (jQ x5),.B x6,.B x7,.I x8,.S x9,.L 3 (gK x10),.L 11 (kR x11)]
@[reducible] def bEx(x0:Int)(x1:LB)(x2:LB)(x3:Int)(x4:Int)(x5:LB)(x6:List gB)(x7:List gU)(x8:List gH0):LO:=.box [.I x0,.S x1,.S x2,.I x3,.I x4,.S x5,.L 3 (gK x6),.L 9 (jS x7),.L 11 (mW x8)]
@[reducible] def bSx(x0:LB)(x1:List gD):LO:=.box [.S x0,.L 2 (jA x1)]
@[reducible] def bSg(x0:LB)(x1:List gB)(x2:Int)(x3:LB)(x4:List gB)(x5:Bool)(x6:LS)(x7:Int)(x8:LB)(x9:LB)(x10:Int)(x11:Int)(x12:LB)(x13:List gB)(x14:List gU)(x15:List gH0):LO:=.box [.S x0,.L 3 (gK x1),.I x2,.S x3,.L 3 (gK x4),.B x5,.L 1 (gP x6),.I x7,.S x8,.S x9,.I x10,.I x11,.S x12,.L 3 (gK x13),.L 9 (jS x14),.L 11 (mW x15)]
@[reducible] def bPk(x0:LB)(x1:LS)(x2:List mE)(x3:List kP)(x4:List gY)(x5:List kI):LO:=.box [.S x0,.L 1 (gP x1),.L 5 (uY x2),.L 3 (pG x3),.L 12 (pI x4),.L 16 (pJ x5)]
@[reducible] def bTr(x0:LB)(x1:LS)(x2:Bool)(x3:Bool)(x4:List jD):LO:=.box [.S x0,.L 1 (gP x1),.B x2,.B x3,.L 16 (kG x4)]
@[reducible] def bCu(x0:LB)(x1:Int)(x2:Int):LO:=.box [.L 1 (gEb x0),.I x1,.I x2]
@[reducible] def bPr(x0:List jX):LO:=.box [.L 6 (kQ x0)]
@[reducible] def bBd(x0:LB)(x1:Int)(x2:LB)(x3:List gB):LO:=.box [.S x0,.I x1,.S x2,.L 3 (gK x3)]
@[reducible] def bDa(x0:LB)(x1:LS)(x2:List gZ):LO:=.box [.S x0,.L 1 (gP x1),.L 2 (mY x2)]
@[reducible] def bIp(x0:LB)(x1:Int)(x2:Int)(x3:Int)(x4:Bool):LO:=.box [.S x0,.I x1,.I x2,.I x3,.B x4]
section
variable {P:Program}{A:Amb}{ops:Array Oper}{K:St→Prop}{rest:List Oper}{fr:List (Nat × SV)}{L:List LO}{N:Nat}
variable {c:Bool}{α:Type}{u v r:α}{Y Z:Prop}
theorem gqA (tj:Nat)(h:cnd c u v=r)(ht:c=true→u=r→Y)
  (g:Y→VO P A ops rest ⟨(tj,.d (.b true))::fr,L,N⟩ K:=by
   intro hy;refine goL ?_
   first | (refine gQc ?_;exact hy) | exact hy)
  (hf:c=false→v=r→VO P A ops rest ⟨(tj,.d (.b false))::fr,L,N⟩ K:=by
   intro c h;refine goL ?_;cases h
   exact eJ)
  (hb:look fr tj=.d (.b c):=by rfl):VO P A ops rest ⟨fr,L,N⟩ K:=wW tj (fun e=>g (ht e (kT e h))) (fun e=>hf e (kU e h)) hb
theorem gqO (tj:Nat)(h:cnd c u v=r)(hf:c=false→v=r→Y)
  (g:Y→VO P A ops rest ⟨(tj,.d (.b false))::fr,L,N⟩ K:=by
   intro hy;refine goL ?_
   first | (refine gQc ?_;exact hy) | exact hy)
  (ht:c=true→u=r→VO P A ops rest ⟨(tj,.d (.b true))::fr,L,N⟩ K:=by
   intro c h;refine goL ?_;cases h
   exact eJ)
  (hb:look fr tj=.d (.b c):=by rfl):VO P A ops rest ⟨fr,L,N⟩ K:=wW tj (fun e=>ht e (kT e h)) (fun e=>g (hf e (kU e h))) hb
theorem gqZ (tj:Nat)(h:cnd c u v=r)
  (ht:c=true→u=r→VO P A ops rest ⟨(tj,.d (.b true))::fr,L,N⟩ K:=by
   intro c h;refine goL ?_;cases h
   exact eJ)
  (hf:c=false→v=r→VO P A ops rest ⟨(tj,.d (.b false))::fr,L,N⟩ K:=by
   intro c h;refine goL ?_;cases h
   exact eJ)
  (hb:look fr tj=.d (.b c):=by rfl):VO P A ops rest ⟨fr,L,N⟩ K:=wW tj (fun e=>ht e (kT e h)) (fun e=>hf e (kU e h)) hb
theorem gqV (tj:Nat)(h:cnd c u v=r)(ht:c=true→u=r→Y)(hf:c=false→v=r→Z)
  (g:Y→VO P A ops rest ⟨(tj,.d (.b true))::fr,L,N⟩ K:=by
   intro hy;refine goL ?_
   first | (refine gQc ?_;exact hy) | exact hy)
  (g':Z→VO P A ops rest ⟨(tj,.d (.b false))::fr,L,N⟩ K:=by
   intro hy;refine goL ?_
   first | (refine gQc ?_;exact hy) | exact hy)
  (hb:look fr tj=.d (.b c):=by rfl):VO P A ops rest ⟨fr,L,N⟩ K:=wW tj (fun e=>g (ht e (kT e h))) (fun e=>g' (hf e (kU e h))) hb
end
end Go.Eng
namespace Go.Eng
open Go Go.RowKit
structure wO where
 w:gM
 assumed:List jI
theorem hMl{P:Program}{σ:St}{dst:Option Nat}{ty:TypeId}{pos:String}{af:Array Edge}{g:Option (Nat × Bool)}{x:Operand}{n:Nat}{vs:List SV}{sv:SV}(hx:σ.ev x=.tup vs:=by rfl)(hn:vs[n]? =some sv:=by rfl):QR P σ ⟨dst,.extract x n,ty,pos,af,g⟩ sv:=
 fun A fr' L' he _=>gP1 (by rw [he x (by simp [Op.operands])];exact hx) hn
theorem Spec.nilF1{P:Program}{f e z:Nat}{a0:SV}{args:List SV}{es:List U}(h:Go.Eng.Spec P f (a0::.sl 0 0::args) [.arr e z 0 []] (fun sv Lo=>∃v,sv=.sl 0 v∧Lo=[.arr e z v es]))(ha0:a0.lt 0=true:=by rfl)(ha:SV.lts 0 args=true:=by rfl) :
  Go.Eng.Spec P f (a0::.nilsl::args) [] (fun sv Lo=>sv=.d (.sl z es)∧Lo=[]):=by
 refine⟨h.1,fun A S env w vs h1 h2 h3 h4 hH hargs=>?_⟩;have henv:env=[]:=List.eq_nil_of_length_eq_zero hH.len;subst henv
 match vs,hargs with
 | [],hargs=>simp [kK] at hargs
 | [_],hargs=>simp [kK] at hargs
 | va::v0::vs,hargs=>
   simp only [kK] at hargs;obtain⟨hva,hv0,hargs⟩:=hargs;simp only [SVr] at hv0;subst hv0;have hob:∀S L env,gG9 S L env w (.arr e z 0 []) (.slice none 0 0):=fun _ _ _=>⟨by simp [yC],by simp,[],World.ownsRow_nil w 0 e z,by simp [Rds]⟩
   have hH2:pQ { A with L0:=[.arr e z 0 []],env0:=[.slice none 0 0] } S [.arr e z 0 []] [.slice none 0 0] w:=by
    refine⟨rfl,fun i o hv k1 k2=>?_,fun i o hv b k1 k2 k3 k4=>?_,fun i j o o' hv hv' b k1 k2 k3 k4 k5 k6 k7 k8=>?_,hH.sS,hH.sA,hH.frame,hH.size,hH.os,hH.tape,hH.output,Base.refl rfl rfl,hH.glob⟩
    ·cases i with
     | zero=>simp at k1 k2;subst k1;subst k2;exact hob _ _ _
     | succ i=>simp at k1
    ·cases i with
     | zero=>simp at k1 k3;subst k1;subst k3;simp [LO.ft,blk] at k4
     | succ i=>simp at k1
    ·cases i with
     | zero=>simp at k1 k5;subst k1;subst k5;simp [LO.ft,blk] at k7
     | succ i=>simp at k1
   refine(h.2 { A with L0:=[.arr e z 0 []],env0:=[.slice none 0 0] } S [.slice none 0 0] w (va::.slice none 0 0::vs) h1 h2 rfl rfl hH2 ?_).mono ?_
   ·simp only [kK];refine⟨SVr.bare _ _ ha0 hva _ _,?_,kK.bare _ _ ha hargs _ _⟩;simp only [SVr];exact⟨.slice none 0 0,.arr e z 0 [],rfl,rfl,Nat.le_refl _,rfl,fun _=>rfl⟩
   ·rintro ex w' ⟨r,sv,S',L',env',hr,⟨v,rfl,rfl⟩,hH',hsv⟩;obtain⟨hv,henv'⟩:∃hv,env'=[hv]:=by
     have:=hH'.len
     match env',this with
     | [hv],_=>exact⟨hv,rfl⟩
    subst henv';have hob':=hH'.objs 0 _ hv rfl rfl;have hex:∀b,blk hv=some b→¬S' b∧(A.E b∨A.w0.heap.size≤b)∧b < w'.heap.size:=fun b hb=>hH'.excl 0 _ hv b rfl rfl rfl hb;simp only [SVr] at hsv;obtain⟨hv1,o1,q1,q2,q3,q4,q5⟩:=hsv;simp at q1 q2;subst q1;subst q2;obtain rfl:=q5 rfl;refine⟨_,_,fun b=>S' b∨blk r=some b,[],[],hr,⟨rfl,rfl⟩,⟨rfl,by simp,by simp,by simp,fun b hb=>hb.elim (hH'.sS b) (fun hb=>(hex b hb).2.2),fun b hb=>hb.elim (hH'.sA b) (fun hb=>.inr (hex b hb).2.1),hH'.frame,hH'.size,hH'.os,hH'.tape,hH'.output,Base.nil h3,hH'.glob⟩,?_⟩;simp only [SVr];obtain⟨hbg,hz,ys,m1,m2⟩:=hob';have hmono:Rds (fun b=>S' b∨blk r=some b) w' es ys:=Rds.mono (fun b hb _=>.inl hb) (fun _ _ _=>rfl) _ _ m2;rcases m1.2 with ⟨rfl,h0⟩ | ⟨g,cap,cur,rfl,hg0,hg,hnc,hcm,hcs,htake⟩
    ·have:es=[]:=List.eq_nil_of_length_eq_zero h0
     subst this;exact⟨[_],rfl,by simp only [Rd];exact⟨hbg,none,0,rfl,.inl trivial⟩⟩
    ·refine⟨[.slice (some ⟨g,0,none⟩) es.length cap],rfl,?_⟩;simp only [Rd];exact⟨hbg,_,cap - es.length,by rw [Nat.add_sub_cancel' hnc],.inr ⟨g,0,rfl,.inr rfl,RdE.of_Rds es ys 0 hz hmono (gNr m1 rfl)⟩⟩
section
variable {P:Program}{A:Amb}
end
end Go.Eng
