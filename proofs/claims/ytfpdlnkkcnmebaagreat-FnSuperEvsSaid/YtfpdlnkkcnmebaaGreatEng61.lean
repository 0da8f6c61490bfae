import Derived.Test.YtfpdlnkkcnmebaaGreatEng53
import Derived.MapKept
import Derived.Lib.AppendZeros
import Derived.Lib.AppendStr
import Derived.Laws.BytesString
set_option linter.unusedVariables false
set_option linter.unusedSimpArgs false
namespace Go.Eng
open Go Go.RowKit Go.MapKept
section
variable {P:Program}{A:Amb}{σ:St}{K:St→Prop}
variable {ops:Array Oper}{rest:List Oper}{t:Nat}{dst:Option Nat}{g:Option (Nat × Bool)}{ty:TypeId}{pos:String}{af:Array Edge}{x y z:Operand}{sv:SV}{T:TypeId}
end
theorem RdE.drop{S:Nat→Prop}{w:World}{z b:Nat}:∀(us:List U)(off k:Nat),RdE S w z b off us→RdE S w z b (off+k*z) (us.drop k)
 | us,off,0,h=>by simpa using h
 | [],_,_+1,_=>by simp [RdE]
 | u::us,off,k+1,h=>by
   simp only [RdE] at h;simp only [List.drop_succ_cons]
   have:=RdE.drop us (off+z) k h.2
   rwa [show off+(k+1)*z=off+z+k*z by rw [Nat.add_mul];omega]
section
variable {P:Program}{σ:St}{dst:Option Nat}{ty T:TypeId}{pos:String}{af:Array Edge}{g:Option (Nat × Bool)}{x y h:Operand}
theorem gLk{α:Type}{en:α→U}{es:List α→List U}{z:Nat}[E:Enc α en es z]{e bs:Nat}{gg:Bool}{l:List α}{k:Int}(hk:0≤k∧k≤l.length) [TE P T e] [TI P e gg z bs](hx:σ.ev x=.d (.sl z (es l)):=by rfl)(hh:σ.ev h=.d (.i .i64 k):=by rfl) :
  QR P σ ⟨dst,.slice T x (some h) none none,ty,pos,af,g⟩ (.d (.sl z (es (l.drop k.toNat)))):=fun A fr' L' he _=>Quiet.pure fun S env a w hH ho=>by
 have h1:=ho x (by simp [Op.operands]);have h2:=ho h (by simp [Op.operands]);rw [he x (by simp [Op.operands]),hx] at h1;rw [he h (by simp [Op.operands]),hh,SVr.int] at h2;rw [SVr.slice] at h1;obtain⟨hbg,base,cap,h3,h4⟩:=h1;have hlen:(es l).length=l.length:=Enc.len l;have htk:es (l.drop k.toNat)=(es l).drop k.toNat:=by rw [E.h,E.h,List.map_drop]
 have hT:P.underlying T=some (.slice e):=zB TE.h;have hel:P.elem T=e:=by simp [Program.elem,hT]
 have hT':P.underlying T=some (.slice (P.elem T)):=by rw [hel];exact hT
 obtain⟨hk0,hk1⟩:=hk;have hkn:k.toNat≤(es l).length:=by omega
 have hrun:=run_slice_l (w:=w) T base (es l).length ((es l).length+cap) hT' .i64 k hk0 (by omega);have hsz:=run_sizeOf (w:=w) (TI.h:tyI P e=some (gg,z,bs));rw [hel,hsz] at hrun;simp only [Result.andThen] at hrun;refine⟨sliced base k.toNat (es l).length ((es l).length+cap) z,?_,?_⟩
 ·simp [execOp,h3,h2,Instr.sliceAt,run_underlying hT,hrun]
 ·rw [SVr.slice,htk];have htl:((es l).drop k.toNat).length=(es l).length - k.toNat:=by rw [List.length_drop]
  refine⟨by omega,?_⟩;have hcap:(es l).length+cap - k.toNat=(es l).length - k.toNat+cap:=by omega
  refine⟨if (es l).length+cap=k.toNat then base else base.map (·.add (k.toNat*z)),cap,?_,?_⟩
  ·rw [htl,←hcap];rfl
  ·by_cases hnil:(es l).drop k.toNat=[]
   ·exact .inl hnil
   ·right;rcases h4 with h4 | ⟨b,off,rfl,h5,h6⟩
    ·rw [h4] at hnil;simp at hnil
    ·have hne:¬ (es l).length+cap=k.toNat:=fun e=>hnil (List.drop_eq_nil_of_le (by omega));refine⟨b,off+k.toNat*z,by rw [if_neg hne];simp [Addr.add_lit],h5,RdE.drop _ _ _ h6⟩
end
section
variable {P:Program}{σ:St}
end
section
variable {P:Program}{A:Amb}{ops:Array Oper}{K:St→Prop}{r:List (Nat × Bool)}{pf:PF}{fr:List (Nat × SV)}{L L':List LO}{N i t:Nat}{sv:SV}
variable {ty:TypeId}{pos:String}{af:Array Edge}
theorem gRz(hp:vE ops i L' pf)(h:VY P A ops K r pf ⟨(t,sv)::fr,L',N⟩):vE ops i L' pf∧VY P A ops K r pf ⟨(t,sv)::fr,L',N⟩:=⟨hp,h⟩
theorem gU2 {f:Operand}{fi:Nat}{caps:List SV}{args:Array Operand}{at_:Array TypeId}{cargs:List SV}{Lc:List LO}{Q:SV→List LO→Prop}(js:List Nat)(hspec:Spec P fi cargs Lc Q)
  (h:∀sv Lo,Q sv Lo→vE ops i (gH5 js (Lo.map (LO.ren (rn js L.length))) L) pf∧VY P A ops K r pf ⟨(t,sv.ren (rn js L.length))::fr,gH5 js (Lo.map (LO.ren (rn js L.length))) L,N⟩)
  (hi:ops[i]? =some ⟨some t,.call { callee:=.value f,args:=args,argTypes:=at_ },ty,pos,af,none⟩:=by rfl)
  (hf:(St.mk fr L N).ev f=.fn fi caps:=by rfl) (hp:gNq L (rn js L.length) 0 Lc:=by((repeat(first | exact trivial | exact rfl | refine And.intro ?_ ?_));first | done | fail))
  (hjs:(decide js.Nodup && (js.all fun j=>Nat.blt j L.length) && js.length==Lc.length && LO.lts Lc.length Lc)=true:=by rfl)
  (hargs:AGs L (rn js L.length) Lc.length (args.toList.map (St.mk fr L N).ev++caps) cargs:=by((repeat(first | exact trivial | exact .inl ⟨rfl,rfl⟩ | exact .inr ⟨_,rfl,by((repeat(first | exact trivial | exact rfl | exact⟨_,rfl⟩ | refine And.intro ?_ ?_));first | done | fail)⟩ | refine And.intro ?_ ?_));first | done | fail))
  (ht:Nat.blt t N=true:=by rfl):VY P A ops K ((i,false)::r) pf ⟨fr,L,N⟩:=by
 refine⟨_,fun s l=>∃sv Lo,Q sv Lo∧s=sv.ren (rn js L.length)∧l=gH5 js (Lo.map (LO.ren (rn js L.length))) L,hi,?_,?_⟩
 ·intro fr' he K' hK;have hm:args.toList.map (St.mk fr' L N).ev=args.toList.map (St.mk fr L N).ev:=List.map_congr_left fun x hx=>he x (by simp only [Op.operands,Call.operands];simp;exact .inr (by simpa using hx));refine gCl (caps:=caps) js hspec ?_ (by rw [he f (by simp [Op.operands,Call.operands])];exact hf) hp hjs (by rw [hm];exact hargs) ht;intro sv Lo hq;exact gCz (hK _ _ ⟨sv,Lo,hq,rfl,rfl⟩)
 ·rintro _ _ ⟨sv,Lo,hq,rfl,rfl⟩;obtain⟨h1,h2⟩:=h sv Lo hq;exact⟨h1.ok,h2⟩
theorem qK {f:Operand}{fi:Nat}{caps:List SV}{args:Array Operand}{at_:Array TypeId}{dargs:List SV}{us:List U}(hspec:jF P fi dargs us)(hv:VY P A ops K r pf ⟨(t,mkR us)::fr,L,N⟩)
  (hi:ops[i]? =some ⟨some t,.call { callee:=.value f,args:=args,argTypes:=at_ },ty,pos,af,none⟩:=by rfl) (hf:(St.mk fr L N).ev f=.fn fi caps:=by rfl)
  (hargs:VAs L (args.toList.map (St.mk fr L N).ev++caps) dargs:=by((repeat(first | exact trivial | exact rfl | exact⟨_,rfl⟩ | exact(‹∀n,SV.lts n _=true› _) | refine And.intro ?_ ?_));first | done | fail))
  (ht:Nat.blt t N=true:=by rfl) (hp:vE ops i L pf:=by(repeat(first | exact vE.nil | (apply vE.keep;focus ((repeat constructor);done)) | (apply vE.dep;focus kernel_rfl)))):VY P A ops K ((i,false)::r) pf ⟨fr,L,N⟩:=by
 refine gFo hi (fun fr' he K' hK=>?_) hp hv;have hm:args.toList.map (St.mk fr' L N).ev=args.toList.map (St.mk fr L N).ev:=List.map_congr_left fun x hx=>he x (by simp only [Op.operands,Call.operands];simp;exact .inr (by simpa using hx));exact hLs (hAf (by rw [he f (by simp [Op.operands,Call.operands])];exact hf) hspec (by simp only;rw [hm];exact hargs)) ht (gCz hK)
end
end Go.Eng
namespace Go.Eng
open Go Go.RowKit
theorem gU3{w:World}{S:Nat→Prop}{L:List LO}{env:List Value}{e z ver:Nat}{es:List U}{hv:Value}(hn:U.noSls es=true)(h:gG9 S L env w (.arr e z ver es) hv):(∀S' L' env',gG9 S' L' env' w (.own e z ver es) hv)∧∀b,(LO.own e z ver es).ft w hv b↔(LO.arr e z ver es).ft w hv b:=by
 obtain⟨h1,h2,xs,h3,h4⟩:=h;obtain⟨k1,k2⟩:=Rds.tr (w':=w) _ _ hn h4;have hf:=gF4 h2 h3;constructor
 ·intro S' L' env';refine⟨h1,h2,⟨xs,h3,k1⟩,?_⟩;rcases hf with ⟨_,_,hf⟩ | ⟨g,cap,_,hf⟩
  ·rw [hf];exact List.nodup_nil
  ·rw [hf,k2];simp
 ·intro b;simp only [LO.ft];rcases hf with ⟨rfl,_,hf⟩ | ⟨g,cap,rfl,hf⟩
  ·rw [hf];simp [blk]
  ·rw [hf,k2];simp [blk,eq_comm]
section
variable {P:Program}{A:Amb}{σ:St}{K:St→Prop}{Q:Exit→St→Prop}{ops:Array Oper}{rest:List Oper}{r:List (Nat × Bool)}{pf:PF}
theorem mV.arrOwn{a:Act}{w:World}{fr:List (Nat × SV)}{L:List LO}{N i e z ver:Nat}{es:List U}(hL:L[i]? =some (.arr e z ver es))(hn:U.noSls es=true)(h:mV A ⟨fr,L,N⟩ a w):mV A ⟨fr,L.set i (.own e z ver es),N⟩ a w:=by
 obtain⟨S,env,hH,hf,hN,hd⟩:=h;have hi:=(List.getElem?_eq_some_iff.1 hL).1;obtain⟨hv,hhv⟩:∃hv,env[i]? =some hv:=⟨_,List.getElem?_eq_getElem (by rw [hH.len];exact hi)⟩
 have hob:=hH.objs i _ hv hL hhv;obtain⟨hH',C⟩:pQ A S (L.set i (.own e z ver es)) env w∧Carry S L env w S (L.set i (.own e z ver es)) env w:=by
  refine hH.eat [] i _ hv (by rw [List.length_set];exact hH.len) (fun j hj=>?_) (List.getElem?_set_self hi) (fun _ _=>rfl) hhv (fun _ _ _=>rfl) (fun o hv1 h1 h2=>?_) (Nat.le_refl _) rfl rfl rfl (fun k hk=>?_) (fun C=>(gU3 hn hob).1 _ _ _)
  ·rw [List.getElem?_set_ne (fun e=>hj e.symm)];simp
  ·rw [hL] at h1;rw [hhv] at h2;cases h1;cases h2;exact⟨Nat.le_refl _,fun _=>rfl,fun _ _=>rfl⟩
  ·have:=((gU3 hn hob).2 k).1 hk
   exact⟨(hH.excl i _ hv k hL rfl hhv this).2.2,.inr ⟨i,_,hv,.inl rfl,hL,rfl,hhv,this⟩⟩
 exact⟨S,env,hH',fun t=>SVr.carry C _ _ (hf t),hN,hd⟩
theorem hI5{fr:List (Nat × SV)}{L L':List LO}{N e z ver:Nat}{es:List U}(i:Nat)(h:VO P A ops rest ⟨fr,L',N⟩ K)(hL:L[i]? =some (.arr e z ver es):=by rfl)(hn:U.noSls es=true:=by first | exact vQ _ | exact vR _)(hL':St1 (.own e z ver es) i L L':=by repeat constructor):VO P A ops rest ⟨fr,L,N⟩ K:=by
 have:=hL'.spec
 subst this;exact fun R hR a w hr=>h R hR a w (hr.arrOwn hL hn)
theorem gRl{fr:List (Nat × SV)}{L L':List LO}{N e z ver j:Nat}{es:List U}(i:Nat)(hL:L[i]? =some (.arr e z ver es))(hL':L.set i (.own e z ver es)=L')(hn:U.noSls es=true)(h:VY P A ops K ((j,false)::r) pf ⟨fr,L',N⟩):VY P A ops K ((j,false)::r) pf ⟨fr,L,N⟩:=by
 subst hL';obtain⟨o,Z,h1,h2,h3⟩:=h;exact⟨o,Z,h1,fun fr' he K' hK R hR a w hr=>h2 fr' he K' hK R hR a w (hr.arrOwn hL hn),h3⟩
end
section
variable {P:Program}{A:Amb}{σ:St}{K:St→Prop}{Q:Exit→St→Prop}
variable {ops:Array Oper}{rest:List Oper}{t:Nat}{ty:TypeId}{pos:String}{af:Array Edge}{x y:Operand}{sv:SV}{dst:Option Nat}{g:Option (Nat × Bool)}
theorem gZa {T:TypeId}{gg:Bool}{i ver z k off e bs zu:Nat}{es pre post:List U}{old u:U}{fr:List (Nat × SV)}{L L':List LO}{N:Nat}(hx:(St.mk fr L N).ev x=.ep i ver z k off)(hL:L[i]? =some (.arr e z ver es))(hk:es[k]? =some (.st (pre++old::post)))(hoff:U.szs pre=off)
  (hy:VD L ((St.mk fr L N).ev y) u) (hT:tyI P T=some (gg,zu,bs)) (hu:u.sz=zu) (hou:old.sz=zu) (hL':L.set i (.arr e z ver (es.set k (.st (pre++u::post))))=L')
  (h:VO P A ops rest ⟨fr,L',N⟩ K) :
  VO P A ops (⟨none,.store T x y,ty,pos,af,none⟩::rest) ⟨fr,L,N⟩ K:=by
 subst hL';refine gCp rfl (fun S env a w hH hf hN hd=>?_) h;have h1:=mV.ev hf hH x;have h2:=VD.r hH hy (mV.ev hf hH y);rw [hx] at h1;simp only [SVr] at h1 h2;obtain⟨hv,o,k1,k2,k3,k5,k4⟩:=h1;rw [hL] at k2;obtain rfl:=Option.some.inj k2;obtain⟨b,e1,e2⟩:=k4 rfl;obtain⟨hbg,hz,xs,m1,m2⟩:=hH.objs i _ hv hL k1;obtain⟨cs,c1,c2⟩:=h2;have hcl:=Rd.length _ _ c2;rw [hu] at hcl;rcases m1.2 with ⟨rfl,_⟩ | ⟨g,cap,cur,rfl,hg0,hg,hnc,hcm,hcs,htake⟩
 ·simp [blk] at e1
 simp only [blk,Option.some.injEq] at e1;subst e1;have hk':k < es.length:=(List.getElem?_eq_some_iff.1 hk).1;have h5:=Rds.get es xs k _ hz m2 hk;simp only [Rd] at h5;obtain⟨p1,p23,hxs,h6,h8⟩:=Rds.split pre (old::post) _ h5;obtain⟨p2,p3,hp23,h7,h9⟩:=Rds.split [old] post _ h8;subst hp23;have hp3:=Rds.length _ _ h9;have hp1:=Rds.length _ _ h6;have hp2:=Rds.length _ _ h7;simp only [U.szs,Nat.add_zero,hou] at hp2;have hzz:(U.st (pre++old::post)).sz=z:=hz _ (List.mem_of_getElem? hk);have hszapp:∀(us vs:List U),U.szs (us++vs)=U.szs us+U.szs vs:=by
  intro us vs
  induction us with
  | nil=>simp [U.szs]
  | cons a us ih=>simp only [List.cons_append,U.szs,ih];omega
 have hzo:z=off+zu+U.szs post:=by
  simp only [U.sz,hszapp,U.szs,hou,hoff] at hzz;omega
 have hkz:(k+1)*z≤es.length*z:=Nat.mul_le_mul_right _ hk';have hcap:es.length*z≤cap*z:=Nat.mul_le_mul_right _ hnc;have hkz1:(k+1)*z=k*z+z:=by rw [Nat.add_mul];omega
 have hxl:=m1.1;have hst:=run_storeCells_at P g (k*z+off) e cs 0 cur w hg (by omega) (Rd.oneCell _ _ c2);rw [Nat.add_zero,hcl] at hst;have hel:(xs.drop (k*z)).take z=p1++(p2++p3):=hxs;have hcurk:(cur.toList.drop (k*z)).take z=p1++(p2++p3):=by
  rw [←hel,←htake,List.drop_take,List.take_take,Nat.min_eq_left (by omega)]
 have hsplit:cur.toList=cur.toList.take (k*z)++(p1++(p2++(p3++cur.toList.drop (k*z+z)))):=by
  conv=>lhs;rw [←List.take_append_drop (k*z) cur.toList,←List.take_append_drop z (cur.toList.drop (k*z)),hcurk,List.drop_drop]
  simp
 have hTl:(cur.toList.take (k*z)).length=k*z:=by rw [List.length_take,Array.length_toList];omega
 have hnew:cur.toList.take (k*z+off)++cs++cur.toList.drop (k*z+off+zu)=cur.toList.take (k*z)++(p1++(cs++p3))++cur.toList.drop (k*z+z):=by
  generalize hA1:cur.toList.take (k*z)=A1 at hsplit hTl;generalize hD1:cur.toList.drop (k*z+z)=D1 at hsplit;have e3:(A1++(p1++(p2++(p3++D1)))).take (k*z+off)=A1++p1:=by
   rw [←List.append_assoc,List.take_left' (by simp only [List.length_append];omega)]
  have e4:(A1++(p1++(p2++(p3++D1)))).drop (k*z+off+zu)=p3++D1:=by
   rw [←List.append_assoc,←List.append_assoc,List.drop_left' (by simp only [List.length_append];omega)]
  rw [hsplit,e3,e4];simp
 rw [hnew] at hst;have hpl:(p1++(cs++p3)).length=z:=by simp only [List.length_append];omega
 have hrd:Rd S w (.st (pre++u::post)) (p1++(cs++p3)):=by
  simp only [Rd];exact Rds.append pre p1 (u::post) (cs++p3) h6 (Rds.append [u] cs post p3 (by simp only [Rds];exact⟨cs,[],by simp,c2,rfl⟩) h9)
 have hus:(U.st (pre++u::post)).sz=z:=by simp only [U.sz,hszapp,U.szs];omega
 have hrow:=setRow_heap w g cur ((cur.toList.take (k*z)++(p1++(cs++p3))++cur.toList.drop (k*z+z)).toArray) e (0,0) hg
 obtain⟨hH',C⟩:=hH.turn (w':=w.setRow g (cur.toList.take (k*z)++(p1++(cs++p3))++cur.toList.drop (k*z+z)).toArray) i _ (.arr e z ver (es.set k (.st (pre++u::post)))) _ g hL rfl k1 rfl rfl rfl
  (setRow_size _ _ _) (fun k hk=>setRow_other w g k _ hk) rfl rfl rfl
  (fun C=>⟨by simpa using hbg,fun v hv=>by
    rcases List.mem_or_eq_of_mem_set hv with hv | rfl
    ·exact hz v hv
    ·exact hus,
   xs.take (k*z)++(p1++(cs++p3))++xs.drop ((k+1)*z),⟨by simp only [List.length_append,List.length_take,List.length_drop,List.length_set,hxl] at hpl ⊢;omega,.inr ⟨g,cap,_,by simp,hg0,hrow,by simpa using hnc,hcm,by simp only [List.size_toArray,List.length_append,List.length_take,List.length_drop,Array.length_toList] at hpl ⊢;omega,by
    rw [List.length_set,←htake,hkz1]
    have:=gIy cur.toList (k*z) (es.length*z) (p1++(cs++p3)) (by rw [hpl];omega) (by simp only [Array.length_toList];omega)
    rw [hpl] at this
    exact this⟩⟩,
   Rds.set es xs k _ (p1++(cs++p3)) hz (Rds.mono C.hS C.hw _ _ m2) (hrd.mono C.hS C.hw) hk'⟩)
 refine⟨.skip,_,?_,.inr ⟨rfl,gA9 hf hN hd hH' C⟩⟩;have hcells:(a.eval y).cells.toList=cs:=by rw [c1];exact gKk c2
 have hsz:(a.eval y).cells.size=zu:=by rw [←hcl,←hcells];simp
 have e2':a.eval x=.pointer (some ⟨g,k*z+off,none⟩):=e2;simp [execOp,Instr.storeAt,e2',Instr.sureAddr,storeVar,run_sizeOf hT,hsz,hcells,hst]
theorem gQk {α:Type}{en:α→U}{es:List α→List U}{z:Nat}[E:Enc α en es z]{l:List α}{T:TypeId}{i ver k off e:Nat}{gg:Bool}{zu bs:Nat}{fr:List (Nat × SV)}{L L':List LO}{N:Nat}(pre post:List U)(old u:U)(a a':α)(ha:l[k]? =some a) [TI P T gg zu bs]
  (h:VO P A ops rest ⟨fr,L',N⟩ K) (hx:(St.mk fr L N).ev x=.ep i ver z k off:=by rfl) (hL:L[i]? =some (.arr e z ver (es l)):=by rfl) (hea:en a=.st (pre++old::post):=by rfl) (hea':en a'=.st (pre++u::post):=by rfl) (hoff:U.szs pre=off:=by rfl)
  (hy:VD L ((St.mk fr L N).ev y) u:=by((repeat(first | exact trivial | exact rfl | exact⟨_,rfl⟩ | refine And.intro ?_ ?_));first | done | fail)) (hu:u.sz=zu:=by rfl) (hou:old.sz=zu:=by rfl) (hL':L.set i (.arr e z ver (es (l.set k a')))=L':=by rfl) :
  VO P A ops (⟨none,.store T x y,ty,pos,af,none⟩::rest) ⟨fr,L,N⟩ K:=by
 rw [Enc.set (es:=es),hea'] at hL';exact gZa hx hL (by rw [Enc.get (es:=es) ha,hea]) hoff hy TI.h hu hou hL' h
theorem gXx{α:Type}{en:α→U}{es:List α→List U}{z:Nat}[E:Enc α en es z]{e bs ver j:Nat}{T:TypeId}{i:Int}{gg:Bool}{l:List α}(h0:0≤i)(hk:i.toNat < l.length) [TE P T e] [TI P e gg z bs](hx:σ.ev x=.sl j ver:=by rfl)(hL:σ.L[j]? =some (.arr e z ver (es l)):=by rfl)(hy:σ.ev y=.d (.i .i64 i):=by rfl) :
  Quiet P A σ ⟨dst,.indexAddr T x y,ty,pos,af,g⟩ (.ep j ver z i.toNat 0):=by
 have:=gQj (P:=P) (A:=A) (dst:=dst) (ty:=ty) (pos:=pos) (af:=af) (g:=g) hx hL hy (TE.h:tyE P T=some e) (TI.h:tyI P e=some (gg,z,bs)) h0 (by rw [Enc.len];omega)
 simpa using this
end
section
variable {P:Program}{A:Amb}{ops:Array Oper}{K:St→Prop}{r:List (Nat × Bool)}{pf:PF}{fr:List (Nat × SV)}{L L1 L':List LO}{N i t m:Nat}
variable {ty:TypeId}{pos:String}{af:Array Edge}{x y:Operand}{T:TypeId}
theorem qL {α:Type}{en:α→U}{es:List α→List U}{z:Nat}[E:Enc α en es z]{e bs ver:Nat}{gg:Bool}{l:List α}(k:Nat)(hk:k < l.length) [TE P T e] [TI P e gg z bs] (h:VY P A ops K r pf ⟨(t,.ep m ver z k 0)::fr,L,N⟩)
  (hi:ops[i]? =some ⟨some t,.indexAddr T x y,ty,pos,af,none⟩:=by rfl) (hx:(St.mk fr L N).ev x=.sl m ver:=by rfl) (hL:L[m]? =some (.arr e z ver (es l)):=by rfl) (hy:(St.mk fr L N).ev y=.d (.i .i64 (k:Int)):=by rfl) (ht:Nat.blt t N=true:=by rfl)
  (hp:vE ops i L pf:=by(repeat(first | exact vE.nil | (apply vE.keep;focus ((repeat constructor);done)) | (apply vE.dep;focus kernel_rfl)))):VY P A ops K ((i,false)::r) pf ⟨fr,L,N⟩:=
 gFo hi (fun fr' he' K' hK=>yS (gWh (j:=m) k hk (by rw [he' x (by simp [Op.operands])];exact hx) hL (by rw [he' y (by simp [Op.operands])];exact hy)) (gCz hK) ht) hp h
theorem qN {α:Type}{en:α→U}{es:List α→List U}{z:Nat}[E:Enc α en es z]{l:List α}{ver k off e' f fo:Nat} [TF P T f fo] (h:VY P A ops K r pf ⟨(t,.ep m ver z k (off+fo))::fr,L,N⟩)
  (hi:ops[i]? =some ⟨some t,.fieldAddr T x f,ty,pos,af,none⟩:=by rfl) (hx:(St.mk fr L N).ev x=.ep m ver z k off:=by rfl) (hL:L[m]? =some (.arr e' z ver (es l)):=by rfl) (ht:Nat.blt t N=true:=by rfl)
  (hp:vE ops i L pf:=by(repeat(first | exact vE.nil | (apply vE.keep;focus ((repeat constructor);done)) | (apply vE.dep;focus kernel_rfl)))):VY P A ops K ((i,false)::r) pf ⟨fr,L,N⟩:=
 gFo hi (fun fr' he' K' hK=>yS (gWi (j:=m) (by rw [he' x (by simp [Op.operands])];exact hx) hL) (gCz hK) ht) hp h
theorem qO {α:Type}{en:α→U}{es:List α→List U}{z:Nat}[E:Enc α en es z]{l:List α}{ver k off e:Nat}{gg:Bool}{zu bs:Nat}(pre post:List U)(old u:U)(a a':α)(ha:l[k]? =some a) [TI P T gg zu bs]
  (h:VY P A ops K r pf ⟨fr,L',N⟩)
  (hi:ops[i]? =some ⟨none,.store T x y,ty,pos,af,none⟩:=by rfl) (hx:(St.mk fr L N).ev x=.ep m ver z k off:=by rfl) (hL:L[m]? =some (.arr e z ver (es l)):=by rfl) (hea:en a=.st (pre++old::post):=by rfl) (hea':en a'=.st (pre++u::post):=by rfl) (hoff:U.szs pre=off:=by rfl)
  (hy:VD L ((St.mk fr L N).ev y) u:=by((repeat(first | exact trivial | exact rfl | exact⟨_,rfl⟩ | refine And.intro ?_ ?_));first | done | fail)) (hu:u.sz=zu:=by rfl) (hou:old.sz=zu:=by rfl) (hL':L.set m (.arr e z ver (es (l.set k a')))=L':=by rfl)
  (hp:vE ops i L' pf:=by(repeat(first | exact vE.nil | (apply vE.keep;focus ((repeat constructor);done)) | (apply vE.dep;focus kernel_rfl)))):VY P A ops K ((i,false)::r) pf ⟨fr,L,N⟩:=
 gFo (sv:=.junk) hi (fun fr' he' K' hK=>gQk pre post old u a a' ha (gCz hK) (by rw [he' x (by simp [Op.operands])];exact hx) hL hea hea' hoff (by rw [he' y (by simp [Op.operands])];exact hy) hu hou hL') hp h
end
section
variable {P:Program}{A:Amb}{Q Q2:Exit→St→Prop}{c x y:Code}
theorem gAn{σ:St}(σJ:St)(h1:V P A x σ (thenS (fun s=>Le s σJ) Q))(h2:V P A y σJ Q2)(hA:A.L0.length≤σJ.L.length:=by rw [gC7.h (A:=A)];exact Nat.le_of_ble_eq_true rfl):V P A x σ (thenS (fun s=>V P A y s Q2) Q):=
 V.mono h1 (fun e s hq=>by
  cases e with
  | normal=>exact hPk hq h2 hA
  | _=>exact hq)
theorem mV.nild{a:Act}{w:World}{fr:List (Nat × SV)}{L:List LO}{N:Nat}{cs cs':List SV}{z j:Nat}(hL:L[j]? =some (.box cs))(k:Nat)(hc:cs[k]? =some .nilsl)(hcs:cs.set k (.d (.sl z []))=cs')(h:mV A ⟨fr,L,N⟩ a w):mV A ⟨fr,L.set j (.box cs'),N⟩ a w:=by
 subst hcs;obtain⟨S,env,hH,hf,hN,hd⟩:=h;have hj:=(List.getElem?_eq_some_iff.1 hL).1;obtain⟨hv,he⟩:∃hv,env[j]? =some hv:=⟨_,List.getElem?_eq_getElem (by rw [hH.len];exact hj)⟩
 obtain⟨b,vals,e',r1,r2,r3,r4⟩:=hH.objs j _ hv hL he
 obtain⟨hH2,C2⟩:=hH.turnF (w':=w) j (.box cs) (.box (cs.set k (.d (.sl z [])))) hv hL rfl he rfl rfl (fun _ _=>rfl) rfl rfl rfl (fun k hk=>hk) (fun C=>⟨b,vals,e',r1,r2,by
  have r3':=kK.carry C _ _ r3;rw [kK.iff] at r3' ⊢;obtain⟨v,v1,v2⟩:=yR.get ((kK.iff _ _).1 r3) k _ hc;simp only [SVr] at v2;subst v2
  have hset:=yR.set k (.d (.sl z [])) (.slice none 0 0) r3' (by
   simp only [SVr]
   exact⟨[.slice none 0 0],rfl,by simp [Rd]⟩)
  have hk:k < vals.toList.length:=(List.getElem?_eq_some_iff.1 v1).1
  have:vals.toList.set k (.slice none 0 0)=vals.toList:=by
   apply List.ext_getElem?;intro m;rw [List.getElem?_set];by_cases hm:k=m
   ·subst hm;rw [if_pos rfl,if_pos hk,v1]
   ·rw [if_neg hm]
  rwa [this] at hset,r4⟩)
 exact⟨S,_,hH2,fun t=>SVr.carry C2 _ _ (hf t),hN,hd⟩
theorem gR0{fr:List (Nat × SV)}{L L1:List LO}{N:Nat}{cs cs':List SV}(z j k:Nat)(hL:L[j]? =some (.box cs))(hc:cs[k]? =some .nilsl)(hcs:St1 (.d (.sl z [])) k cs cs')(h1:St1 (.box cs') j L L1)(h:V P A c ⟨fr,L1,N⟩ Q):V P A c ⟨fr,L,N⟩ Q:=by
 have e2:=hcs.spec;have e3:=h1.spec;subst e2;subst e3;exact fun a w hr=>h a w (hr.nild hL k hc rfl)
end
section
variable {P:Program}{A:Amb}{σ:St}{K:St→Prop}{Q:Exit→St→Prop}
variable {ops:Array Oper}{rest:List Oper}{x y:Operand}
theorem mV.share{a:Act}{w:World}{fr:List (Nat × SV)}{L:List LO}{N i e z ver:Nat}{es:List U}(hL:L[i]? =some (.own e z ver es))(h:mV A ⟨fr,L,N⟩ a w):mV A ⟨fr,L.set i (.arr e z ver es),N⟩ a w:=by
 obtain⟨S,env,hH,hf,hN,hd⟩:=h;have hi:=(List.getElem?_eq_some_iff.1 hL).1;have hie:i < env.length:=by rw [hH.len];exact hi
 obtain⟨hv,he⟩:∃hv,env[i]? =some hv:=⟨_,List.getElem?_eq_getElem hie⟩
 have hob:=hH.objs i _ hv hL he;obtain⟨o1,o2,⟨xs,o3,o4⟩,o5⟩:=hob;have hfp:∀b,b∈U.fps w es xs→b∈(U.sl z es).fp w [hv]∧blk hv≠some b:=by
  intro b hb;rcases gF4 o2 o3 with ⟨rfl,rfl,hf⟩ | ⟨g,cap,rfl,hf⟩
  ·simp [U.fps] at hb
  ·rw [hf] at o5 ⊢;exact⟨by simp [hb],fun hg=>by simp [blk] at hg;subst hg;exact(List.nodup_cons.1 o5).1 hb⟩
 have hblk:∀b,blk hv=some b→b∈(U.sl z es).fp w [hv]:=by
  intro b hb;rcases gF4 o2 o3 with ⟨rfl,rfl,hf⟩ | ⟨g,cap,rfl,hf⟩
  ·simp [blk] at hb
  ·rw [hf];simp [blk] at hb;simp [hb]
 let S':Nat→Prop:=fun b=>S b∨b∈U.fps w es xs;have hset:∀(j:Nat)(o':LO),(L.set i (.arr e z ver es))[j]? =some o'→(j=i∧o'=.arr e z ver es)∨(j≠i∧L[j]? =some o'):=by
  intro j o' hj;by_cases hij:i=j
  ·subst hij;rw [List.getElem?_set_self hi] at hj;exact .inl ⟨rfl,(Option.some.inj hj).symm⟩
  ·rw [List.getElem?_set_ne hij] at hj;exact .inr ⟨fun e=>hij e.symm,hj⟩
 have C:Carry S L env w S' (L.set i (.arr e z ver es)) env w:=by
  refine⟨fun b hb _=>.inl hb,fun _ _ _=>rfl,fun _ _ h=>h,fun j hv' o' h1 h2=>?_⟩;by_cases hij:i=j
  ·subst hij;rw [hL] at h2;obtain rfl:=Option.some.inj h2;exact⟨hv',.arr e z ver es,h1,by rw [List.getElem?_set_self hi],Nat.le_refl _,fun _=>rfl⟩
  ·exact⟨hv',o',h1,by rw [List.getElem?_set_ne hij];exact h2,Nat.le_refl _,fun _=>rfl⟩
 refine⟨S',env,⟨by simp [hH.len],?_,?_,?_,?_,?_,hH.frame,hH.size,hH.os,hH.tape,hH.output,hH.base.carry C hH.len (by simp),hH.glob⟩,fun t=>SVr.carry C _ _ (hf t),hN,hd⟩
 ·intro j o' hv' h1 h2;rcases hset j o' h1 with ⟨rfl,rfl⟩ | ⟨hj,h3⟩
  ·rw [he] at h2;obtain rfl:=Option.some.inj h2;exact⟨o1,o2,xs,o3,Trs.rd _ _ o4 (fun b hb=>.inr hb)⟩
  ·exact gG9.carry C (fun _ _ _=>rfl) (hH.objs j o' hv' h3 h2)
 ·intro j o' hv' b h1 hl h2 hb;rcases hset j o' h1 with ⟨rfl,rfl⟩ | ⟨hj,h3⟩
  ·rw [he] at h2;obtain rfl:=Option.some.inj h2
   have:=hH.excl j _ hv b hL rfl he (hblk b hb)
   exact⟨fun hs=>hs.elim this.1 (fun hs=>(hfp b hs).2 hb),this.2⟩
  ·have:=hH.excl j o' hv' b h3 hl h2 hb
   exact⟨fun hs=>hs.elim this.1 (fun hs=>hj (hH.dist j i o' _ hv' hv b h3 hL hl rfl h2 he hb (hfp b hs).1)),this.2⟩
 ·intro j j' o1' o2' hv1 hv2 k h1 h2 hl1 hl2 e1 e2 b1 b2;rcases hset j o1' h1 with ⟨rfl,rfl⟩ | ⟨hj,h3⟩<;>rcases hset j' o2' h2 with ⟨rfl,rfl⟩ | ⟨hj',h3'⟩
  ·rfl
  ·rw [he] at e1;obtain rfl:=Option.some.inj e1;exact hH.dist j j' _ o2' hv hv2 k hL h3' rfl hl2 he e2 (hblk k b1) b2
  ·rw [he] at e2;obtain rfl:=Option.some.inj e2;exact hH.dist j j' o1' _ hv1 hv k h3 hL hl1 rfl e1 he b1 (hblk k b2)
  ·exact hH.dist j j' o1' o2' hv1 hv2 k h3 h3' hl1 hl2 e1 e2 b1 b2
 ·intro b hb;rcases hb with hb | hb
  ·exact hH.sS b hb
  ·exact(hH.excl i _ hv b hL rfl he (hfp b hb).1).2.2
 ·intro b hb;rcases hb with hb | hb
  ·exact hH.sA b hb
  ·exact .inr (hH.excl i _ hv b hL rfl he (hfp b hb).1).2.1
end
section
variable {P:Program}{A:Amb}{σ:St}{K:St→Prop}
variable {ops:Array Oper}{rest:List Oper}
end
section
variable {P:Program}{A:Amb}{σ:St}{K:St→Prop}
variable {ops:Array Oper}{rest:List Oper}{x y:Operand}{dst:Option Nat}{g:Option (Nat × Bool)}{ty:TypeId}{pos:String}{af:Array Edge}
end
section
variable {P:Program}{A:Amb}{σ:St}{K:St→Prop}{Q:Exit→St→Prop}
end
section
end
theorem hMf{P:Program}{A:Amb}{σ:St}{x h:Operand}{dst:Option Nat}{g:Option (Nat × Bool)}{T ty:TypeId}{pos:String}{af:Array Edge}{α:Type}{en:α→U}{es:List α→List U}{z:Nat}[E:Enc α en es z]{e bs j ver e':Nat}{gg:Bool}{l:List α}{k:Int}(hk:0≤k∧k≤l.length) [TE P T e] [TI P e gg z bs](hx:σ.ev x=.sl j ver:=by rfl)(hL:σ.L[j]? =some (.frz e' z ver (es l)):=by rfl)(hh:σ.ev h=.d (.i .i64 k):=by rfl) :
  Quiet P A σ ⟨dst,.slice T x none (some h) none,ty,pos,af,g⟩ (.d (.sl z (es (l.take k.toNat)))):=Quiet.pure fun S env a w hH ho=>by
 have h1:=ho x (by simp [Op.operands]);have h2:=ho h (by simp [Op.operands]);rw [hx] at h1;rw [hh,SVr.int] at h2;simp only [SVr] at h1;obtain⟨hv,o,q1,q2,q3,q5,q4⟩:=h1;rw [hL] at q2;obtain rfl:=Option.some.inj q2;have h1:SVr S σ.L env w (.d (.sl z (es l))) (a.eval x):=by
  rw [q4 rfl];simp only [SVr];exact hH.objs j _ hv hL q1
 rw [SVr.slice] at h1;obtain⟨hbg,base,cap,h3,h4⟩:=h1;have hlen:(es l).length=l.length:=Enc.len l;have htk:es (l.take k.toNat)=(es l).take k.toNat:=by rw [E.h,E.h,List.map_take]
 have hT:P.underlying T=some (.slice e):=zB TE.h;have hel:P.elem T=e:=by simp [Program.elem,hT]
 have hT':P.underlying T=some (.slice (P.elem T)):=by rw [hel];exact hT
 obtain⟨hk0,hk1⟩:=hk;have hkn:k.toNat≤(es l).length:=by omega
 have hrun:=run_slice_h (w:=w) T base (es l).length ((es l).length+cap) hT' .i64 k hk0 (by omega);have hsz:=run_sizeOf (w:=w) (TI.h:tyI P e=some (gg,z,bs));rw [hel,hsz] at hrun;simp only [Result.andThen] at hrun;refine⟨sliced base 0 k.toNat ((es l).length+cap) z,?_,?_⟩
 ·simp [execOp,h3,h2,Instr.sliceAt,run_underlying hT,hrun]
 ·rw [SVr.slice,htk];have htl:((es l).take k.toNat).length=k.toNat:=by rw [List.length_take];omega
  refine⟨by omega,?_⟩;rcases h4 with h4 | ⟨b,off,rfl,h5,h6⟩
  ·have hl0:(es l).length=0:=by rw [h4];rfl
   have hk2:k.toNat=0:=by omega
   refine⟨if 0+cap=0 then base else base.map (·.add (0*z)),cap,?_,.inl (by rw [h4];simp)⟩;rw [htl,hl0,hk2];simp [sliced]
  ·by_cases hc:(es l).length+cap=0
   ·have hk2:k.toNat=0:=by omega
    have hnil:(es l).take k.toNat=[]:=List.eq_nil_of_length_eq_zero (by omega);refine⟨some ⟨b,off,none⟩,0,?_,.inl hnil⟩;rw [htl,hc,hk2];simp [sliced]
   ·refine⟨some ⟨b,off,none⟩,(es l).length+cap - k.toNat,?_,.inr ⟨b,off,rfl,h5,RdE.take _ _ _ h6⟩⟩;rw [htl]
    have:k.toNat+((es l).length+cap - k.toNat)=(es l).length+cap:=by omega
    rw [this];simp [sliced,hc,Addr.add_lit]
section
variable {P:Program}{A:Amb}{ops:Array Oper}{K:St→Prop}{r:List (Nat × Bool)}{pf:PF}{fr:List (Nat × SV)}{L L1 L':List LO}{N i t m:Nat}
variable {ty:TypeId}{pos:String}{af:Array Edge}{x y:Operand}{T:TypeId}
theorem hB5 {α:Type}{en:α→U}{es:List α→List U}{z:Nat}[E:Enc α en es z]{e bs ver e':Nat}{gg:Bool}{l:List α}{k:Int}(hk:0≤k∧k≤l.length) [TE P T e] [TI P e gg z bs] (h:VY P A ops K r pf ⟨(t,.d (.sl z (es (l.take k.toNat))))::fr,L,N⟩)
  (hi:ops[i]? =some ⟨some t,.slice T x none (some y) none,ty,pos,af,none⟩:=by rfl) (hx:(St.mk fr L N).ev x=.sl m ver:=by rfl) (hL:L[m]? =some (.frz e' z ver (es l)):=by rfl) (hy:(St.mk fr L N).ev y=.d (.i .i64 k):=by rfl) (ht:Nat.blt t N=true:=by rfl)
  (hp:vE ops i L pf:=by(repeat(first | exact vE.nil | (apply vE.keep;focus ((repeat constructor);done)) | (apply vE.dep;focus kernel_rfl)))):VY P A ops K ((i,false)::r) pf ⟨fr,L,N⟩:=
 gFo hi (fun fr' he' K' hK=>yS (hMf (j:=m) hk (by rw [he' x (by simp [Op.operands])];exact hx) hL (by rw [he' y (by simp [Op.operands])];exact hy)) (gCz hK) ht) hp h
end
section
variable {P:Program}{A:Amb}{ops:Array Oper}{K:St→Prop}{t:OT}{pf:PF}{fr:List (Nat × SV)}{L:List LO}{N i d:Nat}{b:Bool}{op:Op}{ty:TypeId}{pos:String}{af:Array Edge}{sv:SV}
theorem hFh(hi:ops[i]? =some ⟨some d,op,ty,pos,af,none⟩)(hq:QR P ⟨fr,[],N⟩ ⟨some d,op,ty,pos,af,none⟩ sv)(h:VT P A ops K t ((i,[])::pf) ⟨(d,sv)::fr,L,N⟩ false)(hd:Nat.blt d N=true:=by rfl):VT P A ops K (.q i t) pf ⟨fr,L,N⟩ b:=
 ⟨_,sv,[],hi,⟨fun d' hd'=>by cases hd';exact hd,fun k cs hk=>by simp at hk,.inl ⟨rfl,fun fr' L' he _=>hq A fr' L' (fun x hx=>(he x hx).trans (by cases x<;>rfl)) (fun k cs hk=>by simp at hk)⟩⟩,h⟩
end
end Go.Eng
