import Derived.Test.YtfjncckelekpiaaGreatEng53
import Derived.MapKept
import Derived.Lib.AppendZeros
import Derived.Lib.AppendStr
import Derived.Laws.BytesString
import Derived.Laws.Strings2
import Derived.Laws.Strings3
set_option linter.unusedVariables false
set_option linter.unusedSimpArgs false
namespace Go.Eng
open Go Go.RowKit Go.MapKept
section
variable {P:Program}{A:Amb}{σ:St}{K:St→Prop}
variable {ops:Array Oper}{rest:List Oper}{t:Nat}{dst:Option Nat}{g:Option (Nat × Bool)}{ty:TypeId}{pos:String}{af:Array Edge}{x y z:Operand}{sv:SV}{T:TypeId}
end
theorem RdE.drop{S:Nat→Prop}{w:World}{z b:Nat}:∀(us:List U)(off k:Nat),RdE S w z b off us→RdE S w z b (off+k*z) (us.drop k)
 | us,off,0,h=>by simpa using h
 | [],_,_+1,_=>by simp [RdE]
 | u::us,off,k+1,h=>by
   simp only [RdE] at h;simp only [List.drop_succ_cons]
   have:=RdE.drop us (off+z) k h.2
   rwa [show off+(k+1)*z=off+z+k*z by rw [Nat.add_mul];omega]
section
variable {P:Program}{σ:St}{dst:Option Nat}{ty T:TypeId}{pos:String}{af:Array Edge}{g:Option (Nat × Bool)}{x y h:Operand}
theorem gQi{α:Type}{en:α→U}{es:List α→List U}{z:Nat}[E:Enc α en es z]{e bs:Nat}{gg:Bool}{l:List α}{k:Int}(hk:0≤k∧k≤l.length) [TE P T e] [TI P e gg z bs](hx:σ.ev x=.d (.sl z (es l)):=by rfl)(hh:σ.ev h=.d (.i .i64 k):=by rfl) :
  QR P σ ⟨dst,.slice T x (some h) none none,ty,pos,af,g⟩ (.d (.sl z (es (l.drop k.toNat)))):=fun A fr' L' he _=>Quiet.pure fun S env a w hH ho=>by
 have h1:=ho x (by simp [Op.operands]);have h2:=ho h (by simp [Op.operands]);rw [he x (by simp [Op.operands]),hx] at h1;rw [he h (by simp [Op.operands]),hh,SVr.int] at h2;rw [SVr.slice] at h1;obtain⟨hbg,base,cap,h3,h4⟩:=h1;have hlen:(es l).length=l.length:=Enc.len l;have htk:es (l.drop k.toNat)=(es l).drop k.toNat:=by rw [E.h,E.h,List.map_drop]
 have hT:P.underlying T=some (.slice e):=gA8 TE.h;have hel:P.elem T=e:=by simp [Program.elem,hT]
 have hT':P.underlying T=some (.slice (P.elem T)):=by rw [hel];exact hT
 obtain⟨hk0,hk1⟩:=hk;have hkn:k.toNat≤(es l).length:=by omega
 have hrun:=run_slice_l (w:=w) T base (es l).length ((es l).length+cap) hT' .i64 k hk0 (by omega);have hsz:=run_sizeOf (w:=w) (TI.h:tyI P e=some (gg,z,bs));rw [hel,hsz] at hrun;simp only [Result.andThen] at hrun;refine⟨sliced base k.toNat (es l).length ((es l).length+cap) z,?_,?_⟩
 ·simp [execOp,h3,h2,Instr.sliceAt,run_underlying hT,hrun]
 ·rw [SVr.slice,htk];have htl:((es l).drop k.toNat).length=(es l).length - k.toNat:=by rw [List.length_drop]
  refine⟨by omega,?_⟩;have hcap:(es l).length+cap - k.toNat=(es l).length - k.toNat+cap:=by omega
  refine⟨if (es l).length+cap=k.toNat then base else base.map (·.add (k.toNat*z)),cap,?_,?_⟩
  ·rw [htl,←hcap];rfl
  ·by_cases hnil:(es l).drop k.toNat=[]
   ·exact .inl hnil
   ·right;rcases h4 with h4 | ⟨b,off,rfl,h5,h6⟩
    ·rw [h4] at hnil;simp at hnil
    ·have hne:¬ (es l).length+cap=k.toNat:=fun e=>hnil (List.drop_eq_nil_of_le (by omega));refine⟨b,off+k.toNat*z,by rw [if_neg hne];simp [Addr.add_lit],h5,RdE.drop _ _ _ h6⟩
end
section
variable {P:Program}{σ:St}
end
section
variable {P:Program}{A:Amb}{ops:Array Oper}{K:St→Prop}{r:List (Nat × Bool)}{pf:PF}{fr:List (Nat × SV)}{L L':List LO}{N i t:Nat}{sv:SV}
variable {ty:TypeId}{pos:String}{af:Array Edge}
theorem gTs(hp:gDf ops i L' pf)(h:VY P A ops K r pf ⟨(t,sv)::fr,L',N⟩):gDf ops i L' pf∧VY P A ops K r pf ⟨(t,sv)::fr,L',N⟩:=⟨hp,h⟩
theorem gWz {f:Operand}{fi:Nat}{caps:List SV}{args:Array Operand}{at_:Array TypeId}{cargs:List SV}{Lc:List LO}{Q:SV→List LO→Prop}(js:List Nat)(hspec:Spec P fi cargs Lc Q)
  (h:∀sv Lo,Q sv Lo→gDf ops i (gNn js (Lo.map (LO.ren (rn js L.length))) L) pf∧VY P A ops K r pf ⟨(t,sv.ren (rn js L.length))::fr,gNn js (Lo.map (LO.ren (rn js L.length))) L,N⟩)
  (hi:ops[i]? =some ⟨some t,.call { callee:=.value f,args:=args,argTypes:=at_ },ty,pos,af,none⟩:=by rfl)
  (hf:(St.mk fr L N).ev f=.fn fi caps:=by rfl) (hp:gZ4 L (rn js L.length) 0 Lc:=by((repeat(first | exact trivial | exact rfl | refine And.intro ?_ ?_));first | done | fail))
  (hjs:(decide js.Nodup && (js.all fun j=>Nat.blt j L.length) && js.length==Lc.length && LO.lts Lc.length Lc)=true:=by rfl)
  (hargs:AGs L (rn js L.length) Lc.length (args.toList.map (St.mk fr L N).ev++caps) cargs:=by((repeat(first | exact trivial | exact .inl ⟨rfl,rfl⟩ | exact .inr ⟨_,rfl,by((repeat(first | exact trivial | exact rfl | exact⟨_,rfl⟩ | refine And.intro ?_ ?_));first | done | fail)⟩ | refine And.intro ?_ ?_));first | done | fail))
  (ht:Nat.blt t N=true:=by rfl):VY P A ops K ((i,false)::r) pf ⟨fr,L,N⟩:=by
 refine⟨_,fun s l=>∃sv Lo,Q sv Lo∧s=sv.ren (rn js L.length)∧l=gNn js (Lo.map (LO.ren (rn js L.length))) L,hi,?_,?_⟩
 ·intro fr' he K' hK;have hm:args.toList.map (St.mk fr' L N).ev=args.toList.map (St.mk fr L N).ev:=List.map_congr_left fun x hx=>he x (by simp only [Op.operands,Call.operands];simp;exact .inr (by simpa using hx));refine gLg (caps:=caps) js hspec ?_ (by rw [he f (by simp [Op.operands,Call.operands])];exact hf) hp hjs (by rw [hm];exact hargs) ht;intro sv Lo hq;exact gF4 (hK _ _ ⟨sv,Lo,hq,rfl,rfl⟩)
 ·rintro _ _ ⟨sv,Lo,hq,rfl,rfl⟩;obtain⟨h1,h2⟩:=h sv Lo hq;exact⟨h1.ok,h2⟩
end
end Go.Eng
namespace Go.Eng
open Go Go.RowKit
theorem hCm{w:World}{S:Nat→Prop}{L:List LO}{env:List Value}{e z ver:Nat}{es:List U}{hv:Value}(hn:U.noSls es=true)(h:gLm S L env w (.arr e z ver es) hv):(∀S' L' env',gLm S' L' env' w (.own e z ver es) hv)∧∀b,(LO.own e z ver es).ft w hv b↔(LO.arr e z ver es).ft w hv b:=by
 obtain⟨h1,h2,xs,h3,h4⟩:=h;obtain⟨k1,k2⟩:=Rds.tr (w':=w) _ _ hn h4;have hf:=gJ6 h2 h3;constructor
 ·intro S' L' env';refine⟨h1,h2,⟨xs,h3,k1⟩,?_⟩;rcases hf with ⟨_,_,hf⟩ | ⟨g,cap,_,hf⟩
  ·rw [hf];exact List.nodup_nil
  ·rw [hf,k2];simp
 ·intro b;simp only [LO.ft];rcases hf with ⟨rfl,_,hf⟩ | ⟨g,cap,rfl,hf⟩
  ·rw [hf];simp [blk]
  ·rw [hf,k2];simp [blk,eq_comm]
section
variable {P:Program}{A:Amb}{σ:St}{K:St→Prop}{Q:Exit→St→Prop}{ops:Array Oper}{rest:List Oper}{r:List (Nat × Bool)}{pf:PF}
theorem mP.arrOwn{a:Act}{w:World}{fr:List (Nat × SV)}{L:List LO}{N i e z ver:Nat}{es:List U}(hL:L[i]? =some (.arr e z ver es))(hn:U.noSls es=true)(h:mP A ⟨fr,L,N⟩ a w):mP A ⟨fr,L.set i (.own e z ver es),N⟩ a w:=by
 obtain⟨S,env,hH,hf,hN,hd⟩:=h;have hi:=(List.getElem?_eq_some_iff.1 hL).1;obtain⟨hv,hhv⟩:∃hv,env[i]? =some hv:=⟨_,List.getElem?_eq_getElem (by rw [hH.len];exact hi)⟩
 have hob:=hH.objs i _ hv hL hhv;obtain⟨hH',C⟩:pU A S (L.set i (.own e z ver es)) env w∧Carry S L env w S (L.set i (.own e z ver es)) env w:=by
  refine hH.eat [] i _ hv (by rw [List.length_set];exact hH.len) (fun j hj=>?_) (List.getElem?_set_self hi) (fun _ _=>rfl) hhv (fun _ _ _=>rfl) (fun o hv1 h1 h2=>?_) (Nat.le_refl _) rfl rfl rfl (fun k hk=>?_) (fun C=>(hCm hn hob).1 _ _ _)
  ·rw [List.getElem?_set_ne (fun e=>hj e.symm)];simp
  ·rw [hL] at h1;rw [hhv] at h2;cases h1;cases h2;exact⟨Nat.le_refl _,fun _=>rfl,fun _ _=>rfl⟩
  ·have:=((hCm hn hob).2 k).1 hk
   exact⟨(hH.excl i _ hv k hL rfl hhv this).2.2,.inr ⟨i,_,hv,.inl rfl,hL,rfl,hhv,this⟩⟩
 exact⟨S,env,hH',fun t=>SVr.carry C _ _ (hf t),hN,hd⟩
theorem jEz{fr:List (Nat × SV)}{L L':List LO}{N e z ver:Nat}{es:List U}(i:Nat)(h:VO P A ops rest ⟨fr,L',N⟩ K)(hL:L[i]? =some (.arr e z ver es):=by rfl)(hn:U.noSls es=true:=by first | exact gS7 _ | exact gS8 _)(hL':St1 (.own e z ver es) i L L':=by repeat constructor):VO P A ops rest ⟨fr,L,N⟩ K:=by
 have:=hL'.spec
 subst this;exact fun R hR a w hr=>h R hR a w (hr.arrOwn hL hn)
end
section
variable {P:Program}{A:Amb}{σ:St}{K:St→Prop}{Q:Exit→St→Prop}
variable {ops:Array Oper}{rest:List Oper}{t:Nat}{ty:TypeId}{pos:String}{af:Array Edge}{x y:Operand}{sv:SV}{dst:Option Nat}{g:Option (Nat × Bool)}
theorem hM6{α:Type}{en:α→U}{es:List α→List U}{z:Nat}[E:Enc α en es z]{e bs ver j:Nat}{T:TypeId}{i:Int}{gg:Bool}{l:List α}(h0:0≤i)(hk:i.toNat < l.length) [TE P T e] [TI P e gg z bs](hx:σ.ev x=.sl j ver:=by rfl)(hL:σ.L[j]? =some (.arr e z ver (es l)):=by rfl)(hy:σ.ev y=.d (.i .i64 i):=by rfl) :
  Quiet P A σ ⟨dst,.indexAddr T x y,ty,pos,af,g⟩ (.ep j ver z i.toNat 0):=by
 have:=gW3 (P:=P) (A:=A) (dst:=dst) (ty:=ty) (pos:=pos) (af:=af) (g:=g) hx hL hy (TE.h:tyE P T=some e) (TI.h:tyI P e=some (gg,z,bs)) h0 (by rw [Enc.len];omega)
 simpa using this
end
section
variable {P:Program}{A:Amb}{ops:Array Oper}{K:St→Prop}{r:List (Nat × Bool)}{pf:PF}{fr:List (Nat × SV)}{L L1 L':List LO}{N i t m:Nat}
variable {ty:TypeId}{pos:String}{af:Array Edge}{x y:Operand}{T:TypeId}
end
section
variable {P:Program}{A:Amb}{Q Q2:Exit→St→Prop}{c x y:Code}
theorem gHf{σ:St}(σJ:St)(h1:V P A x σ (thenS (fun s=>Le s σJ) Q))(h2:V P A y σJ Q2)(hA:A.L0.length≤σJ.L.length:=by rw [gBp.h (A:=A)];exact Nat.le_of_ble_eq_true rfl):V P A x σ (thenS (fun s=>V P A y s Q2) Q):=
 V.mono h1 (fun e s hq=>by
  cases e with
  | normal=>exact jA8 hq h2 hA
  | _=>exact hq)
theorem mP.nild{a:Act}{w:World}{fr:List (Nat × SV)}{L:List LO}{N:Nat}{cs cs':List SV}{z j:Nat}(hL:L[j]? =some (.box cs))(k:Nat)(hc:cs[k]? =some .nilsl)(hcs:cs.set k (.d (.sl z []))=cs')(h:mP A ⟨fr,L,N⟩ a w):mP A ⟨fr,L.set j (.box cs'),N⟩ a w:=by
 subst hcs;obtain⟨S,env,hH,hf,hN,hd⟩:=h;have hj:=(List.getElem?_eq_some_iff.1 hL).1;obtain⟨hv,he⟩:∃hv,env[j]? =some hv:=⟨_,List.getElem?_eq_getElem (by rw [hH.len];exact hj)⟩
 obtain⟨b,vals,e',r1,r2,r3,r4⟩:=hH.objs j _ hv hL he
 obtain⟨hH2,C2⟩:=hH.turnF (w':=w) j (.box cs) (.box (cs.set k (.d (.sl z [])))) hv hL rfl he rfl rfl (fun _ _=>rfl) rfl rfl rfl (fun k hk=>hk) (fun C=>⟨b,vals,e',r1,r2,by
  have r3':=kV.carry C _ _ r3;rw [kV.iff] at r3' ⊢;obtain⟨v,v1,v2⟩:=zX.get ((kV.iff _ _).1 r3) k _ hc;simp only [SVr] at v2;subst v2
  have hset:=zX.set k (.d (.sl z [])) (.slice none 0 0) r3' (by
   simp only [SVr]
   exact⟨[.slice none 0 0],rfl,by simp [Rd]⟩)
  have hk:k < vals.toList.length:=(List.getElem?_eq_some_iff.1 v1).1
  have:vals.toList.set k (.slice none 0 0)=vals.toList:=by
   apply List.ext_getElem?;intro m;rw [List.getElem?_set];by_cases hm:k=m
   ·subst hm;rw [if_pos rfl,if_pos hk,v1]
   ·rw [if_neg hm]
  rwa [this] at hset,r4⟩)
 exact⟨S,_,hH2,fun t=>SVr.carry C2 _ _ (hf t),hN,hd⟩
theorem hM7{fr:List (Nat × SV)}{L L1:List LO}{N:Nat}{cs cs':List SV}(z j k:Nat)(hL:L[j]? =some (.box cs))(hc:cs[k]? =some .nilsl)(hcs:St1 (.d (.sl z [])) k cs cs')(h1:St1 (.box cs') j L L1)(h:V P A c ⟨fr,L1,N⟩ Q):V P A c ⟨fr,L,N⟩ Q:=by
 have e2:=hcs.spec;have e3:=h1.spec;subst e2;subst e3;exact fun a w hr=>h a w (hr.nild hL k hc rfl)
end
section
variable {P:Program}{A:Amb}{σ:St}{K:St→Prop}{Q:Exit→St→Prop}
variable {ops:Array Oper}{rest:List Oper}{x y:Operand}
theorem mP.share{a:Act}{w:World}{fr:List (Nat × SV)}{L:List LO}{N i e z ver:Nat}{es:List U}(hL:L[i]? =some (.own e z ver es))(h:mP A ⟨fr,L,N⟩ a w):mP A ⟨fr,L.set i (.arr e z ver es),N⟩ a w:=by
 obtain⟨S,env,hH,hf,hN,hd⟩:=h;have hi:=(List.getElem?_eq_some_iff.1 hL).1;have hie:i < env.length:=by rw [hH.len];exact hi
 obtain⟨hv,he⟩:∃hv,env[i]? =some hv:=⟨_,List.getElem?_eq_getElem hie⟩
 have hob:=hH.objs i _ hv hL he;obtain⟨o1,o2,⟨xs,o3,o4⟩,o5⟩:=hob;have hfp:∀b,b∈U.fps w es xs→b∈(U.sl z es).fp w [hv]∧blk hv≠some b:=by
  intro b hb;rcases gJ6 o2 o3 with ⟨rfl,rfl,hf⟩ | ⟨g,cap,rfl,hf⟩
  ·simp [U.fps] at hb
  ·rw [hf] at o5 ⊢;exact⟨by simp [hb],fun hg=>by simp [blk] at hg;subst hg;exact(List.nodup_cons.1 o5).1 hb⟩
 have hblk:∀b,blk hv=some b→b∈(U.sl z es).fp w [hv]:=by
  intro b hb;rcases gJ6 o2 o3 with ⟨rfl,rfl,hf⟩ | ⟨g,cap,rfl,hf⟩
  ·simp [blk] at hb
  ·rw [hf];simp [blk] at hb;simp [hb]
 let S':Nat→Prop:=fun b=>S b∨b∈U.fps w es xs;have hset:∀(j:Nat)(o':LO),(L.set i (.arr e z ver es))[j]? =some o'→(j=i∧o'=.arr e z ver es)∨(j≠i∧L[j]? =some o'):=by
  intro j o' hj;by_cases hij:i=j
  ·subst hij;rw [List.getElem?_set_self hi] at hj;exact .inl ⟨rfl,(Option.some.inj hj).symm⟩
  ·rw [List.getElem?_set_ne hij] at hj;exact .inr ⟨fun e=>hij e.symm,hj⟩
 have C:Carry S L env w S' (L.set i (.arr e z ver es)) env w:=by
  refine⟨fun b hb _=>.inl hb,fun _ _ _=>rfl,fun _ _ h=>h,fun j hv' o' h1 h2=>?_⟩;by_cases hij:i=j
  ·subst hij;rw [hL] at h2;obtain rfl:=Option.some.inj h2;exact⟨hv',.arr e z ver es,h1,by rw [List.getElem?_set_self hi],Nat.le_refl _,fun _=>rfl⟩
  ·exact⟨hv',o',h1,by rw [List.getElem?_set_ne hij];exact h2,Nat.le_refl _,fun _=>rfl⟩
 refine⟨S',env,⟨by simp [hH.len],?_,?_,?_,?_,?_,hH.frame,hH.size,hH.os,hH.tape,hH.output,hH.base.carry C hH.len (by simp),hH.glob⟩,fun t=>SVr.carry C _ _ (hf t),hN,hd⟩
 ·intro j o' hv' h1 h2;rcases hset j o' h1 with ⟨rfl,rfl⟩ | ⟨hj,h3⟩
  ·rw [he] at h2;obtain rfl:=Option.some.inj h2;exact⟨o1,o2,xs,o3,Trs.rd _ _ o4 (fun b hb=>.inr hb)⟩
  ·exact gLm.carry C (fun _ _ _=>rfl) (hH.objs j o' hv' h3 h2)
 ·intro j o' hv' b h1 hl h2 hb;rcases hset j o' h1 with ⟨rfl,rfl⟩ | ⟨hj,h3⟩
  ·rw [he] at h2;obtain rfl:=Option.some.inj h2
   have:=hH.excl j _ hv b hL rfl he (hblk b hb)
   exact⟨fun hs=>hs.elim this.1 (fun hs=>(hfp b hs).2 hb),this.2⟩
  ·have:=hH.excl j o' hv' b h3 hl h2 hb
   exact⟨fun hs=>hs.elim this.1 (fun hs=>hj (hH.dist j i o' _ hv' hv b h3 hL hl rfl h2 he hb (hfp b hs).1)),this.2⟩
 ·intro j j' o1' o2' hv1 hv2 k h1 h2 hl1 hl2 e1 e2 b1 b2;rcases hset j o1' h1 with ⟨rfl,rfl⟩ | ⟨hj,h3⟩<;>rcases hset j' o2' h2 with ⟨rfl,rfl⟩ | ⟨hj',h3'⟩
  ·rfl
  ·rw [he] at e1;obtain rfl:=Option.some.inj e1;exact hH.dist j j' _ o2' hv hv2 k hL h3' rfl hl2 he e2 (hblk k b1) b2
  ·rw [he] at e2;obtain rfl:=Option.some.inj e2;exact hH.dist j j' o1' _ hv1 hv k h3 hL hl1 rfl e1 he b1 (hblk k b2)
  ·exact hH.dist j j' o1' o2' hv1 hv2 k h3 h3' hl1 hl2 e1 e2 b1 b2
 ·intro b hb;rcases hb with hb | hb
  ·exact hH.sS b hb
  ·exact(hH.excl i _ hv b hL rfl he (hfp b hb).1).2.2
 ·intro b hb;rcases hb with hb | hb
  ·exact hH.sA b hb
  ·exact .inr (hH.excl i _ hv b hL rfl he (hfp b hb).1).2.1
end
section
variable {P:Program}{A:Amb}{σ:St}{K:St→Prop}
variable {ops:Array Oper}{rest:List Oper}
end
section
variable {P:Program}{A:Amb}{σ:St}{K:St→Prop}
variable {ops:Array Oper}{rest:List Oper}{x y:Operand}{dst:Option Nat}{g:Option (Nat × Bool)}{ty:TypeId}{pos:String}{af:Array Edge}
end
section
variable {P:Program}{A:Amb}{σ:St}{K:St→Prop}{Q:Exit→St→Prop}
end
section
end
section
variable {P:Program}{A:Amb}{ops:Array Oper}{K:St→Prop}{r:List (Nat × Bool)}{pf:PF}{fr:List (Nat × SV)}{L L1 L':List LO}{N i t m:Nat}
variable {ty:TypeId}{pos:String}{af:Array Edge}{x y:Operand}{T:TypeId}
end
section
variable {P:Program}{A:Amb}{ops:Array Oper}{K:St→Prop}{t:OT}{pf:PF}{fr:List (Nat × SV)}{L:List LO}{N i d:Nat}{b:Bool}{op:Op}{ty:TypeId}{pos:String}{af:Array Edge}{sv:SV}
end
structure yT where
 s:LB
 at_:Int
 deep:Int
 size:Int
 bad:Bool
section
variable {P:Program}{σ:St}{dst:Option Nat}{ty T:TypeId}{pos:String}{af:Array Edge}{g:Option (Nat × Bool)}{x lo hi:Operand}
theorem hSh [TS P T]{l:LB}{i j:Int}(hk:0≤i∧i≤j∧j≤(l.length:Int))(hx:σ.ev x=.d (.s l):=by rfl)(hi_:σ.ev lo=.d (.i .i64 i):=by rfl)(hj:σ.ev hi=.d (.i .i64 j):=by rfl) :
  QR P σ ⟨dst,.slice T x (some lo) (some hi) none,ty,pos,af,g⟩ (.d (.s ((l.drop i.toNat).take (j.toNat - i.toNat)))):=fun A fr' L' he _=>Quiet.pure fun S env a w hH ho=>by
 have h1:=ho x (by simp [Op.operands]);have h2:=ho lo (by simp [Op.operands]);have h3:=ho hi (by simp [Op.operands]);rw [he x (by simp [Op.operands]),hx] at h1;rw [he lo (by simp [Op.operands]),hi_,SVr.int] at h2;rw [he hi (by simp [Op.operands]),hj,SVr.int] at h3;obtain⟨hb,h1⟩:=SVr.str.1 h1;obtain⟨k0,k1,k2⟩:=hk;have hsz:(ByteArray.mk l.toArray).size=l.length:=by simp [ByteArray.size]
 have hrun:=run_slice_string (P:=P) (w:=w) T (ByteArray.mk l.toArray) .i64 .i64 i j TS.h k0 k1 (by rw [hsz];exact k2);rw [ByteArray.extract_mk] at hrun;refine⟨.string ⟨((l.drop i.toNat).take (j.toNat - i.toNat)).toArray⟩,?_,SVr.str.2 ⟨?_,rfl⟩⟩
 ·simp [execOp,h1,h2,h3,Instr.sliceAt,run_underlying TS.h,hrun]
 ·have:((l.drop i.toNat).take (j.toNat - i.toNat)).length≤l.length:=by simp;omega
  omega
theorem hSi [TS P T]{l:LB}{i:Int}(hk:0≤i∧i≤(l.length:Int))(hx:σ.ev x=.d (.s l):=by rfl)(hi_:σ.ev lo=.d (.i .i64 i):=by rfl) :
  QR P σ ⟨dst,.slice T x (some lo) none none,ty,pos,af,g⟩ (.d (.s (l.drop i.toNat))):=fun A fr' L' he _=>Quiet.pure fun S env a w hH ho=>by
 have h1:=ho x (by simp [Op.operands]);have h2:=ho lo (by simp [Op.operands]);rw [he x (by simp [Op.operands]),hx] at h1;rw [he lo (by simp [Op.operands]),hi_,SVr.int] at h2;obtain⟨hb,h1⟩:=SVr.str.1 h1;have hsz:(ByteArray.mk l.toArray).size=l.length:=by simp [ByteArray.size]
 have hrun:=run_slice_string_from_if (P:=P) (w:=w) T (ByteArray.mk l.toArray) .i64 i TS.h;rw [if_pos (by rw [hsz];exact hk),ByteArray.extract_mk,hsz,←List.length_drop,List.take_length] at hrun;refine⟨.string ⟨(l.drop i.toNat).toArray⟩,?_,SVr.str.2 ⟨?_,rfl⟩⟩
 ·simp [execOp,h1,h2,Instr.sliceAt,run_underlying TS.h,hrun]
 ·have:(l.drop i.toNat).length≤l.length:=by simp
  omega
theorem hSk{α:Type}{en:α→U}{es:List α→List U}{z:Nat}[E:Enc α en es z]{e bs:Nat}{gg:Bool}{l:List α}{i j:Int}(hk:0≤i∧i≤j∧j≤(l.length:Int)) [TE P T e] [TI P e gg z bs](hx:σ.ev x=.d (.sl z (es l)):=by rfl)(hi_:σ.ev lo=.d (.i .i64 i):=by rfl)(hj:σ.ev hi=.d (.i .i64 j):=by rfl) :
  QR P σ ⟨dst,.slice T x (some lo) (some hi) none,ty,pos,af,g⟩ (.d (.sl z (es ((l.drop i.toNat).take (j.toNat - i.toNat))))):=fun A fr' L' he _=>Quiet.pure fun S env a w hH ho=>by
 have h1:=ho x (by simp [Op.operands]);have h2:=ho lo (by simp [Op.operands]);have h2':=ho hi (by simp [Op.operands]);rw [he x (by simp [Op.operands]),hx] at h1;rw [he lo (by simp [Op.operands]),hi_,SVr.int] at h2;rw [he hi (by simp [Op.operands]),hj,SVr.int] at h2';rw [SVr.slice] at h1;obtain⟨hbg,base,cap,h3,h4⟩:=h1;have hlen:(es l).length=l.length:=Enc.len l;have htk:es ((l.drop i.toNat).take (j.toNat - i.toNat))=((es l).drop i.toNat).take (j.toNat - i.toNat):=by rw [E.h,E.h,List.map_take,List.map_drop]
 have hT:P.underlying T=some (.slice e):=gA8 TE.h;have hel:P.elem T=e:=by simp [Program.elem,hT]
 have hT':P.underlying T=some (.slice (P.elem T)):=by rw [hel];exact hT
 obtain⟨hk0,hk1,hk2⟩:=hk;have hrun:=run_slice_lh (w:=w) T base (es l).length ((es l).length+cap) hT' .i64 .i64 i j hk0 hk1 (by omega);have hsz:=run_sizeOf (w:=w) (TI.h:tyI P e=some (gg,z,bs));rw [hel,hsz] at hrun;simp only [Result.andThen] at hrun;refine⟨sliced base i.toNat j.toNat ((es l).length+cap) z,?_,?_⟩
 ·simp [execOp,h3,h2,h2',Instr.sliceAt,run_underlying hT,hrun]
 ·rw [SVr.slice,htk];have htl:(((es l).drop i.toNat).take (j.toNat - i.toNat)).length=j.toNat - i.toNat:=by rw [List.length_take,List.length_drop];omega
  refine⟨by omega,if (es l).length+cap=i.toNat then base else base.map (·.add (i.toNat*z)),(es l).length+cap - j.toNat,?_,?_⟩
  ·rw [htl,show j.toNat - i.toNat+((es l).length+cap - j.toNat)=(es l).length+cap - i.toNat by omega];rfl
  ·by_cases hnil:((es l).drop i.toNat).take (j.toNat - i.toNat)=[]
   ·exact .inl hnil
   ·right;rcases h4 with h4 | ⟨b,off,rfl,h5,h6⟩
    ·rw [h4] at hnil;simp at hnil
    ·have hne:¬ (es l).length+cap=i.toNat:=fun e=>hnil (by rw [List.drop_eq_nil_of_le (by omega)];simp);refine⟨b,off+i.toNat*z,by rw [if_neg hne];simp [Addr.add_lit],h5,RdE.take _ _ _ (RdE.drop _ _ _ h6)⟩
end
def jH7(P:Program)(T:TypeId)(f:Nat):Option (Nat × Bool × Nat):=
 match P.underlying T with
 | some (.struct fs)=>match fs[f]? with
   | some fd=>(tyI P fd.type).map fun x=>(fd.offset,x.1,x.2.1)
   | none=>none
 | _=>none
theorem Rds.at{S:Nat→Prop}{w:World}{u:U}:∀(us:List U)(cs:List Value)(f:Nat),Rds S w us cs→us[f]? =some u→∃c1 c2 c3,cs=c1++c2++c3∧c1.length=U.szs (us.take f)∧Rd S w u c2
 | [],cs,f,_,hf=>by simp at hf
 | u0::us,cs,f,h,hf=>by
   simp only [Rds] at h;obtain⟨d1,d2,rfl,k2,k3⟩:=h;cases f with
   | zero=>
     simp only [List.getElem?_cons_zero,Option.some.injEq] at hf;subst hf;exact⟨[],d1,d2,rfl,rfl,k2⟩
   | succ f=>
     obtain⟨c1,c2,c3,rfl,e1,e2⟩:=Rds.at us d2 f k3 (by simpa using hf);refine⟨d1++c1,c2,c3,by simp,?_,e2⟩
     have:=Rd.length u0 d1 k2
     simp only [List.length_append,List.take_succ_cons,U.szs];omega
section
variable {P:Program}{σ:St}{dst:Option Nat}{ty T:TypeId}{pos:String}{af:Array Edge}{g:Option (Nat × Bool)}{x:Operand}
theorem gL4{us:List U}{u:U}{f:Nat}(hx:σ.ev x=.d (.st us):=by rfl)(hu:us[f]? =some u:=by rfl)(hF:jH7 P T f=some (U.szs (us.take f),u.isSt,u.sz):=by kernel_rfl) :
  QR P σ ⟨dst,.field T x f,ty,pos,af,g⟩ (.d u):=fun A fr' L' he _=>Quiet.pure fun S env a w hH ho=>by
 have h1:=ho x (by simp [Op.operands]);rw [he x (by simp [Op.operands]),hx] at h1;simp only [SVr] at h1;obtain⟨cs,h2,h3⟩:=h1;simp only [Rd] at h3;obtain⟨c1,c2,c3,rfl,e1,e2⟩:=Rds.at us cs f h3 hu;have e3:=Rd.length u c2 e2;unfold jH7 at hF;split at hF
 ·rename_i fs hund;split at hF
  ·rename_i fd hfd;cases hty:tyI P fd.type with
   | none=>rw [hty] at hF;cases hF
   | some t3=>
     obtain⟨q1,q2,q3⟩:=t3;rw [hty] at hF;simp only [Option.map_some,Option.some.injEq,Prod.mk.injEq] at hF;obtain⟨f1,rfl,rfl⟩:=hF;refine⟨val u c2,?_,by simp only [SVr];exact⟨c2,rfl,e2⟩⟩;rw [←e1] at f1;cases hs:u.isSt with
     | true=>
       rw [hs] at hty;have hex:(c1++c2++c3).toArray.extract c1.length (c1.length+c2.length)=c2.toArray:=by
        apply Array.ext';simp
       have hv:val u c2=.agg c2.toArray:=by unfold val;rw [if_pos hs]
       have h2':a.eval x=.agg (c1++c2++c3).toArray:=h2;rw [hv,←hex];simp only [execOp,h2',Instr.field,Sem.run_bind,run_underlying hund,Result.andThen_ok,hfd,asAgg,Sem.run_pure,part,gO6 hty,run_sizeOf hty,f1,←e3,if_true]
     | false=>
       rw [hs] at hty;have hl:c2.length=1:=by rw [e3];cases u<;>first | rfl | simp [U.isSt] at hs
       obtain⟨v,rfl⟩:=List.length_eq_one_iff.1 hl;have hv:val u [v]=v:=by unfold val;rw [if_neg (by rw [hs];decide)];rfl
       have h2':a.eval x=.agg (c1++[v]++c3).toArray:=h2;rw [hv];simp [execOp,h2',Instr.field,run_underlying hund,hfd,asAgg,part,gO6 hty,f1]
  ·cases hF
 ·cases hF
end
end Go.Eng
set_option linter.unusedSectionVars false
namespace Go.Eng
open Go
theorem Spec.verF {P:Program}{f e z v:Nat}{args:List SV}{es0 es:List U}{g:Nat→SV}(h:Go.Eng.Spec P f args [.arr e z v es0] (fun sv Lo=>∃v',sv=g v'∧Lo=[.arr e z v' es]))
  (hg:∀(S:Nat→Prop)(hv:Value)(w:World)(v':Nat)(r:Value),SVr S [.arr e z v' es] [hv] w (g v') r→SVr S [.arr e z (v+1) es] [hv] w (g (v+1)) r) :
  Go.Eng.Spec P f args [.arr e z v es0] (fun sv Lo=>sv=g (v+1)∧Lo=[.arr e z (v+1) es]):=by
 refine⟨h.1,fun A S env w vs h1 h2 h3 h4 hH hargs=>(h.2 A S env w vs h1 h2 h3 h4 hH hargs).mono ?_⟩;rintro ex w' ⟨r,sv,S',L',env',hr,⟨v',rfl,rfl⟩,hH',hsv⟩;obtain⟨hv,rfl⟩:∃hv,env'=[hv]:=by
  have:=hH'.len
  match env',this with
  | [hv],_=>exact⟨hv,rfl⟩
 refine⟨r,_,S',_,[hv],hr,⟨rfl,rfl⟩,?_,hg S' hv w' v' r hsv⟩;refine⟨rfl,fun i o hv1 k1 k2=>?_,fun i o hv1 b k1 k2 k3 k4=>?_,fun i j o o' hv1 hv2 b k1 k2 k3 k4 k5 k6 k7 k8=>?_,hH'.sS,hH'.sA,hH'.frame,hH'.size,hH'.os,hH'.tape,hH'.output,?_,hH'.glob⟩
 ·cases i with
  | zero=>
    simp at k1 k2;subst k1;subst k2;exact hH'.objs 0 (.arr e z v' es) hv rfl rfl
  | succ i=>simp at k1
 ·cases i with
  | zero=>
    simp at k1 k3;subst k1;subst k3;exact hH'.excl 0 (.arr e z v' es) hv b rfl rfl rfl k4
  | succ i=>simp at k1
 ·cases i with
  | zero=>cases j with
    | zero=>rfl
    | succ j=>simp at k2
  | succ i=>simp at k1
 ·have hb:=hH'.base;refine⟨by simpa using hb.1,fun i hv1 o hv2 o' k1 k2 k3 k4=>?_⟩;cases i with
  | zero=>
    simp at k3 k4;subst k3;subst k4;rw [h3] at k2;simp at k2;subst k2;have hb2:=hb.2 0 hv1 (.arr e z v es0) hv (.arr e z v' es) k1 (by rw [h3];rfl) rfl rfl;refine⟨by simp [LO.ver],fun he=>by simp [LO.ver] at he,hb2.2.2⟩
  | succ i=>simp at k3
theorem hW9{S:Nat→Prop}{e z v v':Nat}{es:List U}{hv:Value}{w:World}{r:Value}(h:SVr S [.arr e z v' es] [hv] w (.sl 0 v') r):SVr S [.arr e z v es] [hv] w (.sl 0 v) r:=by
 simp only [SVr] at h ⊢;obtain⟨hv1,o,q1,q2,q3,q4,q5⟩:=h;simp at q1 q2;subst q1;subst q2;exact⟨hv,_,rfl,rfl,Nat.le_refl _,q4,fun _=>q5 rfl⟩
theorem hXa{S:Nat→Prop}{e z v v':Nat}{es:List U}{hv:Value}{w:World}{u:U}{r:Value}(h:SVr S [.arr e z v' es] [hv] w (.ag [.d u,.sl 0 v']) r):SVr S [.arr e z v es] [hv] w (.ag [.d u,.sl 0 v]) r:=by
 simp only [SVr] at h;obtain⟨xs,rfl,hxs⟩:=h
 match xs,hxs with
 | [x0,x1],hxs=>
   simp only [kV] at hxs;simp only [SVr];refine⟨[x0,x1],rfl,?_⟩;simp only [kV];refine⟨?_,hW9 hxs.2.1,trivial⟩
   have:=hxs.1
   simp only [SVr] at this ⊢;exact this
mutual
inductive DzS (L:List LO):SV→SV→Prop
 | frz {i v e z:Nat} {es:List U} (h:L[i]? =some (.frz e z v es)):DzS L (.sl i v) (.d (.sl z es))
 | same {sv:SV}:DzS L sv sv
 | ag {cs ds:List SV} (h:hOq L cs ds):DzS L (.ag cs) (.ag ds)
inductive hOq (L:List LO):List SV→List SV→Prop
 | nil:hOq L [] []
 | cons {a b:SV} {az bs:List SV} (h:DzS L a b) (h2:hOq L az bs):hOq L (a::az) (b::bs)
end
inductive DzO (L:List LO):LO→LO→Prop
 | box {cs ds:List SV} (h:hOq L cs ds):DzO L (.box cs) (.box ds)
 | same {o:LO}:DzO L o o
inductive DzL (L:List LO):List LO→List LO→Prop
 | nil:DzL L [] []
 | cons {a b:LO} {az bs:List LO} (h:DzO L a b) (h2:DzL L az bs):DzL L (a::az) (b::bs)
inductive DzF (L:List LO):List (Nat × SV)→List (Nat × SV)→Prop
 | nil:DzF L [] []
 | cons {t:Nat} {a b:SV} {az bs:List (Nat × SV)} (h:DzS L a b) (h2:DzF L az bs):DzF L ((t,a)::az) ((t,b)::bs)
section
variable {A:Amb}{S:Nat→Prop}{L L':List LO}{env:List Value}{w:World}
mutual
theorem DzS.r(hH:pU A S L env w):∀{a b:SV}{x:Value},DzS L a b→SVr S L env w a x→SVr S L env w b x
 | _,_,x,.frz h,hx=>by
   simp only [SVr] at hx;obtain⟨hv,o,k1,k2,k3,k4,k5⟩:=hx;rw [h] at k2;obtain rfl:=Option.some.inj k2
   have:=hH.objs _ _ _ h k1
   rw [k5 rfl];simp only [SVr];exact this
 | _,_,x,.same,hx=>hx
 | _,_,x,.ag hs,hx=>by
   simp only [SVr] at hx ⊢;obtain⟨vs,h1,h2⟩:=hx;exact⟨vs,h1,hOq.r hH hs h2⟩
theorem hOq.r(hH:pU A S L env w):∀{az bs:List SV}{xs:List Value},hOq L az bs→kV S L env w az xs→kV S L env w bs xs
 | _,_,[],.nil,h=>by simp only [kV]
 | _,_,_::_,.nil,h=>by simp only [kV] at h
 | _,_,[],.cons _ _,h=>by simp only [kV] at h
 | _,_,_::_,.cons h1 h2,h=>by
   simp only [kV] at h ⊢;exact⟨DzS.r hH h1 h.1,hOq.r hH h2 h.2⟩
end
theorem DzL.get{L0:List LO}:∀{az bs:List LO},DzL L0 az bs→az.length=bs.length∧∀(m:Nat)(b:LO),bs[m]? =some b→∃a,az[m]? =some a∧DzO L0 a b
 | _,_,.nil=>⟨rfl,fun m b h=>by simp at h⟩
 | _,_,.cons (a:=a0) h h2=>by
   obtain⟨k1,k2⟩:=DzL.get h2;refine⟨by simp [k1],fun m b hb=>?_⟩;cases m with
   | zero=>simp at hb;subst hb;exact⟨a0,by simp,h⟩
   | succ m=>
     obtain⟨a,q1,q2⟩:=k2 m b (by simpa using hb);exact⟨a,by simpa using q1,q2⟩
theorem DzF.look{L0:List LO}:∀{az bs:List (Nat × SV)},DzF L0 az bs→∀t,DzS L0 (Go.Eng.look az t) (Go.Eng.look bs t)
 | _,_,.nil,t=>.same
 | _,_,.cons (t:=t0) h h2,t=>by
   simp only [Go.Eng.look];by_cases ht:t=t0
   ·simp only [ht,if_true];exact h
   ·simp only [if_neg ht];exact DzF.look h2 t
theorem mP.dz{a:Act}{fr fr':List (Nat × SV)}{N:Nat}(hL:DzL L L L')(hfr:DzF L fr fr')(h:mP A ⟨fr,L,N⟩ a w):mP A ⟨fr',L',N⟩ a w:=by
 obtain⟨S,env,hH,hf,hN,hd⟩:=h;obtain⟨hlen,hget⟩:=hL.get;have hback:∀(m:Nat)(o:LO),L[m]? =some o→∃o',L'[m]? =some o'∧DzO L o o':=by
  intro m o ho;have hm:m < L'.length:=by rw [←hlen];exact(List.getElem?_eq_some_iff.1 ho).1
  obtain⟨o0,k1,k2⟩:=hget m _ (List.getElem?_eq_getElem hm);rw [ho] at k1;obtain rfl:=Option.some.inj k1;exact⟨_,List.getElem?_eq_getElem hm,k2⟩
 have hver:∀{o o':LO},DzO L o o'→o'.ver=o.ver∧o'.live=o.live∧∀hv b,o'.ft w hv b↔o.ft w hv b:=by
  intro o o' h;cases h with
  | _=>exact⟨rfl,rfl,fun _ _=>Iff.rfl⟩
 have C:Carry S L env w S L' env w:=⟨fun _ h _=>h,fun _ _ _=>rfl,fun _ _ h=>h,fun i hv o h1 h2=>by
  obtain⟨o',k1,k2⟩:=hback i o h2
  exact⟨hv,o',h1,k1,by rw [(hver k2).1];exact Nat.le_refl _,fun _=>rfl⟩⟩
 refine⟨S,env,⟨by rw [←hlen];exact hH.len,fun i o' hv h1 h2=>?_,fun i o' hv b h1 h2 h3 h4=>?_,fun i k o1 o2 hv1 hv2 b h1 h2 h3 h4 h5 h6 h7 h8=>?_,hH.sS,hH.sA,hH.frame,hH.size,hH.os,hH.tape,hH.output,?_,hH.glob⟩,fun t=>SVr.carry C _ _ (DzS.r hH (hfr.look t) (hf t)),hN,hd⟩
 ·obtain⟨o,k1,k2⟩:=hget i o' h1;have hob:=hH.objs i o hv k1 h2;cases k2 with
  | same=>exact gLm.carry C (fun _ _ _=>rfl) hob
  | box hs=>
    obtain⟨b,vals,e,r1,r2,r3,r4⟩:=hob;exact gLm.carry C (fun _ _ _=>rfl) (show gLm S L env w _ hv from⟨b,vals,e,r1,r2,hOq.r hH hs r3,r4⟩)
 ·obtain⟨o,k1,k2⟩:=hget i o' h1;obtain⟨_,q1,q2⟩:=hver k2;exact hH.excl i o hv b k1 (by rw [←q1];exact h2) h3 ((q2 hv b).1 h4)
 ·obtain⟨p1,k1,k2⟩:=hget i o1 h1;obtain⟨p2,k3,k4⟩:=hget k o2 h2;obtain⟨_,q1,q2⟩:=hver k2;obtain⟨_,q3,q4⟩:=hver k4;exact hH.dist i k p1 p2 hv1 hv2 b k1 k3 (by rw [←q1];exact h3) (by rw [←q3];exact h4) h5 h6 ((q2 _ _).1 h7) ((q4 _ _).1 h8)
 ·refine⟨by rw [←hlen];exact hH.base.1,fun i hv o hv' o' h1 h2 h3 h4=>?_⟩;obtain⟨o0,k1,k2⟩:=hget i o' h4
  have:=hH.base.2 i hv o hv' o0 h1 h2 h3 k1
  rw [(hver k2).1];exact this
end
section
variable {P:Program}{A:Amb}{ops:Array Oper}{K:St→Prop}{r:List (Nat × Bool)}{pf:PF}{fr fr':List (Nat × SV)}{L L':List LO}{N i m t:Nat}{rest:List Oper}{Q:Exit→St→Prop}
variable {ty T:TypeId}{pos:String}{af:Array Edge}
theorem hZx {c:Code}(h:V P A c ⟨fr',L',N⟩ Q)(hL:DzL L L L':=by(repeat(first | exact DzS.frz rfl | refine DzS.ag ?_ | exact DzS.same | refine DzO.box ?_ | exact DzO.same | constructor));first | done | fail)
  (hfr:DzF L fr fr':=by(repeat(first | exact DzS.frz rfl | refine DzS.ag ?_ | exact DzS.same | constructor));first | done | fail):V P A c ⟨fr,L,N⟩ Q:=fun a w hr=>h a w (hr.dz hL hfr)
theorem hEn (h:VO P A ops rest ⟨fr',L',N⟩ K)(hL:DzL L L L':=by(repeat(first | exact DzS.frz rfl | refine DzS.ag ?_ | exact DzS.same | refine DzO.box ?_ | exact DzO.same | constructor));first | done | fail)
  (hfr:DzF L fr fr':=by(repeat(first | exact DzS.frz rfl | refine DzS.ag ?_ | exact DzS.same | constructor));first | done | fail):VO P A ops rest ⟨fr,L,N⟩ K:=fun R hR a w hr=>h R hR a w (hr.dz hL hfr)
end
section
variable {P:Program}{σ:St}{dst:Option Nat}{ty T:TypeId}{pos:String}{af:Array Edge}{g:Option (Nat × Bool)}{x:Operand}
end
section
variable {P:Program}{A:Amb}{ops:Array Oper}{K:St→Prop}{Q:Exit→St→Prop}{rest:List Oper}{σ:St}{c:Code}
theorem gW0 {α0 α1 α2 α3 α4 α5 α6 α7 α8:Type}(I:α0→α1→α2→α3→α4→α5→α6→α7→α8→St)(J:α0→α1→α2→α3→α4→α5→α6→α7→α8→Prop)(μ:α0→α1→α2→α3→α4→α5→α6→α7→α8→Nat)(x0:α0)(x1:α1)(x2:α2)(x3:α3)(x4:α4)(x5:α5)(x6:α6)(x7:α7)(x8:α8)(h0:Le σ (I x0 x1 x2 x3 x4 x5 x6 x7 x8))(hJ:J x0 x1 x2 x3 x4 x5 x6 x7 x8)
  (round:∀a0 a1 a2 a3 a4 a5 a6 a7 a8,J a0 a1 a2 a3 a4 a5 a6 a7 a8→V P A c (I a0 a1 a2 a3 a4 a5 a6 a7 a8) (thenS (fun s=>∃b0 b1 b2 b3 b4 b5 b6 b7 b8,J b0 b1 b2 b3 b4 b5 b6 b7 b8∧μ b0 b1 b2 b3 b4 b5 b6 b7 b8 < μ a0 a1 a2 a3 a4 a5 a6 a7 a8∧Le s (I b0 b1 b2 b3 b4 b5 b6 b7 b8)) Q)) (hA:∀a0 a1 a2 a3 a4 a5 a6 a7 a8,A.L0.length≤(I a0 a1 a2 a3 a4 a5 a6 a7 a8).L.length:=by intros;rw [gBp.h (A:=A)];exact Nat.le_of_ble_eq_true rfl):V P A (.loop c) σ Q:=
 gQg (α:=α0 × α1 × α2 × α3 × α4 × α5 × α6 × α7 × α8) (fun x=>I (x.1) (x.2.1) (x.2.2.1) (x.2.2.2.1) (x.2.2.2.2.1) (x.2.2.2.2.2.1) (x.2.2.2.2.2.2.1) (x.2.2.2.2.2.2.2.1) (x.2.2.2.2.2.2.2.2)) (fun x=>J (x.1) (x.2.1) (x.2.2.1) (x.2.2.2.1) (x.2.2.2.2.1) (x.2.2.2.2.2.1) (x.2.2.2.2.2.2.1) (x.2.2.2.2.2.2.2.1) (x.2.2.2.2.2.2.2.2)) (fun x=>μ (x.1) (x.2.1) (x.2.2.1) (x.2.2.2.1) (x.2.2.2.2.1) (x.2.2.2.2.2.1) (x.2.2.2.2.2.2.1) (x.2.2.2.2.2.2.2.1) (x.2.2.2.2.2.2.2.2)) (x0,x1,x2,x3,x4,x5,x6,x7,x8) h0 hJ (fun x hx=>V.mono (round (x.1) (x.2.1) (x.2.2.1) (x.2.2.2.1) (x.2.2.2.2.1) (x.2.2.2.2.2.1) (x.2.2.2.2.2.2.1) (x.2.2.2.2.2.2.2.1) (x.2.2.2.2.2.2.2.2) hx) (fun e s hq=>by
  cases e with
  | normal=>
    obtain⟨b0,b1,b2,b3,b4,b5,b6,b7,b8,h1,h2,h3⟩:=hq;exact⟨(b0,b1,b2,b3,b4,b5,b6,b7,b8),h1,h2,h3⟩
  | _=>exact hq)) (fun x=>hA (x.1) (x.2.1) (x.2.2.1) (x.2.2.2.1) (x.2.2.2.2.1) (x.2.2.2.2.2.1) (x.2.2.2.2.2.2.1) (x.2.2.2.2.2.2.2.1) (x.2.2.2.2.2.2.2.2))
theorem hQp {α0 α1 α2 α3 α4 α5 α6 α7 α8 α9 α10 α11 α12:Type}(I:α0→α1→α2→α3→α4→α5→α6→α7→α8→α9→α10→α11→α12→St)(J:α0→α1→α2→α3→α4→α5→α6→α7→α8→α9→α10→α11→α12→Prop)(μ:α0→α1→α2→α3→α4→α5→α6→α7→α8→α9→α10→α11→α12→Nat)(x0:α0)(x1:α1)(x2:α2)(x3:α3)(x4:α4)(x5:α5)(x6:α6)(x7:α7)(x8:α8)(x9:α9)(x10:α10)(x11:α11)(x12:α12)(h0:Le σ (I x0 x1 x2 x3 x4 x5 x6 x7 x8 x9 x10 x11 x12))(hJ:J x0 x1 x2 x3 x4 x5 x6 x7 x8 x9 x10 x11 x12)
  (round:∀a0 a1 a2 a3 a4 a5 a6 a7 a8 a9 a10 a11 a12,J a0 a1 a2 a3 a4 a5 a6 a7 a8 a9 a10 a11 a12→V P A c (I a0 a1 a2 a3 a4 a5 a6 a7 a8 a9 a10 a11 a12) (thenS (fun s=>∃b0 b1 b2 b3 b4 b5 b6 b7 b8 b9 b10 b11 b12,J b0 b1 b2 b3 b4 b5 b6 b7 b8 b9 b10 b11 b12∧μ b0 b1 b2 b3 b4 b5 b6 b7 b8 b9 b10 b11 b12 < μ a0 a1 a2 a3 a4 a5 a6 a7 a8 a9 a10 a11 a12∧Le s (I b0 b1 b2 b3 b4 b5 b6 b7 b8 b9 b10 b11 b12)) Q)) (hA:∀a0 a1 a2 a3 a4 a5 a6 a7 a8 a9 a10 a11 a12,A.L0.length≤(I a0 a1 a2 a3 a4 a5 a6 a7 a8 a9 a10 a11 a12).L.length:=by intros;rw [gBp.h (A:=A)];exact Nat.le_of_ble_eq_true rfl):V P A (.loop c) σ Q:=
 gQg (α:=α0 × α1 × α2 × α3 × α4 × α5 × α6 × α7 × α8 × α9 × α10 × α11 × α12) (fun x=>I (x.1) (x.2.1) (x.2.2.1) (x.2.2.2.1) (x.2.2.2.2.1) (x.2.2.2.2.2.1) (x.2.2.2.2.2.2.1) (x.2.2.2.2.2.2.2.1) (x.2.2.2.2.2.2.2.2.1) (x.2.2.2.2.2.2.2.2.2.1) (x.2.2.2.2.2.2.2.2.2.2.1) (x.2.2.2.2.2.2.2.2.2.2.2.1) (x.2.2.2.2.2.2.2.2.2.2.2.2)) (fun x=>J (x.1) (x.2.1) (x.2.2.1) (x.2.2.2.1) (x.2.2.2.2.1) (x.2.2.2.2.2.1) (x.2.2.2.2.2.2.1) (x.2.2.2.2.2.2.2.1) (x.2.2.2.2.2.2.2.2.1) (x.2.2.2.2.2.2.2.2.2.1) (x.2.2.2.2.2.2.2.2.2.2.1) (x.2.2.2.2.2.2.2.2.2.2.2.1) (x.2.2.2.2.2.2.2.2.2.2.2.2)) (fun x=>μ (x.1) (x.2.1) (x.2.2.1) (x.2.2.2.1) (x.2.2.2.2.1) (x.2.2.2.2.2.1) (x.2.2.2.2.2.2.1) (x.2.2.2.2.2.2.2.1) (x.2.2.2.2.2.2.2.2.1) (x.2.2.2.2.2.2.2.2.2.1) (x.2.2.2.2.2.2.2.2.2.2.1) (x.2.2.2.2.2.2.2.2.2.2.2.1) (x.2.2.2.2.2.2.2.2.2.2.2.2)) (x0,x1,x2,x3,x4,x5,x6,x7,x8,x9,x10,x11,x12) h0 hJ (fun x hx=>V.mono (round (x.1) (x.2.1) (x.2.2.1) (x.2.2.2.1) (x.2.2.2.2.1) (x.2.2.2.2.2.1) (x.2.2.2.2.2.2.1) (x.2.2.2.2.2.2.2.1) (x.2.2.2.2.2.2.2.2.1) (x.2.2.2.2.2.2.2.2.2.1) (x.2.2.2.2.2.2.2.2.2.2.1) (x.2.2.2.2.2.2.2.2.2.2.2.1) (x.2.2.2.2.2.2.2.2.2.2.2.2) hx) (fun e s hq=>by
  cases e with
  | normal=>
    obtain⟨b0,b1,b2,b3,b4,b5,b6,b7,b8,b9,b10,b11,b12,h1,h2,h3⟩:=hq;exact⟨(b0,b1,b2,b3,b4,b5,b6,b7,b8,b9,b10,b11,b12),h1,h2,h3⟩
  | _=>exact hq)) (fun x=>hA (x.1) (x.2.1) (x.2.2.1) (x.2.2.2.1) (x.2.2.2.2.1) (x.2.2.2.2.2.1) (x.2.2.2.2.2.2.1) (x.2.2.2.2.2.2.2.1) (x.2.2.2.2.2.2.2.2.1) (x.2.2.2.2.2.2.2.2.2.1) (x.2.2.2.2.2.2.2.2.2.2.1) (x.2.2.2.2.2.2.2.2.2.2.2.1) (x.2.2.2.2.2.2.2.2.2.2.2.2))
end
section
variable {P:Program}{A:Amb}{ops:Array Oper}{K:St→Prop}{r:List (Nat × Bool)}{pf:PF}{fr:List (Nat × SV)}{L:List LO}{N i t:Nat}{pos:String}{af:Array Edge}{x:Operand}
theorem hSl {α:Type}{e:α→U}{es:List α→List U}{z z':Nat}[E:Enc α e es z]{el:TypeId}{T T':TypeId} [TE P T el] {l:List α} {j ver e':Nat} (h:VY P A ops K r pf ⟨(t,.d (.i .i64 (l.length:Int)))::fr,L,N⟩)
  (hi:ops[i]? =some ⟨some t,.call { callee:=.builtin .len,args:=#[x],argTypes:=#[T] },T',pos,af,none⟩:=by rfl) (hx:(St.mk fr L N).ev x=.sl j ver:=by rfl) (hL:L[j]? =some (.arr e' z' ver (es l)):=by rfl) (ht:Nat.blt t N=true:=by rfl)
  (hp:gDf ops i L pf:=by(repeat(first | exact gDf.nil | (apply gDf.keep;focus ((repeat constructor);done)) | (apply gDf.dep;focus kernel_rfl)))):VY P A ops K ((i,false)::r) pf ⟨fr,L,N⟩:=
 gTq hi (fun fr' he' K' hK=>uX (hCl (es:=es) (l:=l) (by rw [he' x (by simp [Op.operands,Call.operands])];exact hx) hL) (gF4 hK) ht) hp h
end
def SV.isD:SV→Bool
 | .d _=>true
 | _=>false
theorem gUq{ρ:Nat→Nat}:∀{ds:List SV},ds.all SV.isD=true→SV.rens ρ ds=ds
 | [],_=>rfl
 | sv::ds,h=>by
   simp only [List.all_cons,Bool.and_eq_true] at h;have h1:SV.ren ρ sv=sv:=by
    cases sv with
    | d u=>rfl
    | _=>simp [SV.isD] at h
   simp only [SV.rens,h1,gUq h.2]
section
variable {P:Program}{A:Amb}{ops:Array Oper}{K:St→Prop}{r:List (Nat × Bool)}{pf:PF}{fr:List (Nat × SV)}{L L':List LO}{N i t:Nat}{rest:List Oper}
variable {ty:TypeId}{pos:String}{af:Array Edge}
theorem gCt {f:Operand}{fi:Nat}{caps:List SV}{args:Array Operand}{at_:Array TypeId}{cargs ds0 ds:List SV}{sv:SV}(j:Nat)(hspec:Spec P fi cargs [.box ds0] (fun s Lo=>s=sv∧Lo=[.box ds]))(h:VO P A ops rest ⟨(t,sv)::fr,L',N⟩ K)
  (hL':St1 (.box ds) j L L':=by repeat constructor) (hsv:sv.ren (rn [j] L.length)=sv:=by rfl) (hds:ds.all SV.isD=true:=by rfl)
  (hf:(St.mk fr L N).ev f=.fn fi caps:=by rfl) (hp:gZ4 L (rn [j] L.length) 0 [.box ds0]:=by((repeat(first | exact trivial | exact rfl | refine And.intro ?_ ?_));first | done | fail))
  (hjs:(decide [j].Nodup && ([j].all fun j=>Nat.blt j L.length) && [j].length==[LO.box ds0].length && LO.lts [LO.box ds0].length [LO.box ds0])=true:=by rfl)
  (hargs:AGs L (rn [j] L.length) [LO.box ds0].length (args.toList.map (St.mk fr L N).ev++caps) cargs:=by((repeat(first | exact trivial | exact .inl ⟨rfl,rfl⟩ | exact .inr ⟨_,rfl,by((repeat(first | exact trivial | exact rfl | exact⟨_,rfl⟩ | refine And.intro ?_ ?_));first | done | fail)⟩ | refine And.intro ?_ ?_));first | done | fail))
  (ht:Nat.blt t N=true:=by rfl) :
  VO P A ops (⟨some t,.call { callee:=.value f,args:=args,argTypes:=at_ },ty,pos,af,none⟩::rest) ⟨fr,L,N⟩ K:=by
 refine gLg [j] hspec ?_ hf hp hjs hargs ht;rintro _ _ ⟨rfl,rfl⟩;rw [hsv,show gNn [j] ([LO.box ds].map (LO.ren (rn [j] L.length))) L=L' from by simp only [List.map_cons,List.map_nil,LO.ren,gUq hds,gNn,List.append_nil];exact hL'.spec];exact h
theorem eJ{s t:St}(h:Le s t:=by refine⟨rfl,?_,⟨_,rfl⟩,rfl⟩;repeat(first | exact trivial | refine And.intro ⟨rfl,rfl⟩ ?_)):Le s t:=h
end
@[reducible] def SV.N(n:Nat):SV:=.d (.i .i64 (n:Int))
@[reducible] def SV.I(n:Int):SV:=.d (.i .i64 n)
@[reducible] def SV.S(s:LB):SV:=.d (.s s)
@[reducible] def SV.L(t:Nat)(l:List U):SV:=.d (.sl t l)
@[reducible] def SV.B(b:Bool):SV:=.d (.b b)
section
variable {P:Program}{A:Amb}{ops:Array Oper}{K:St→Prop}{Q:Exit→St→Prop}{rest:List Oper}{σ σ' σJ:St}{fr:List (Nat × SV)}{L:List LO}{N t:Nat}{sv:SV}
variable {ty:TypeId}{pos:String}{af:Array Edge}{op:Op}
theorem goS {X Y:Prop}(hy:Y)(h:Y→X:=by
  intro hy;refine gCs ?_;show V _ _ _ _ _
  exact goL hy):X:=h hy
theorem goX {X Y:Prop}(hy:Y)(h:Y→X:=by
  intro hy;refine hGb ?_;show V _ _ _ _ _
  exact goL hy):X:=h hy
theorem goR {X E:Prop}(h:E)(g:E→X:=by
  intro h;refine goL ?_;refine jH ?_;cases h
  exact mM):X:=g h
theorem noS {X Y:Prop}(hy:Y)(h:Y→X:=by
  intro hy;refine gCs ?_;show V _ _ _ _ _
  exact hy):X:=h hy
theorem noX {X Y:Prop}(hy:Y)(h:Y→X:=by
  intro hy;refine hGb ?_;show V _ _ _ _ _
  exact hy):X:=h hy
theorem noB {X Y:Prop}(hy:Y)(h:Y→X:=by
  intro hy;refine gP ?_;show V _ _ _ _ _
  exact hy):X:=h hy
theorem gTa{x y:Code}{Q2:Exit→St→Prop}{σ:St}(σJ:Nat→St)(h1:V P A x σ (thenS (fun s=>∃v,Le s (σJ v)) Q))(h2:∀v,V P A y (σJ v) Q2)(hA:∀v,A.L0.length≤(σJ v).L.length:=by intro v;rw [gBp.h (A:=A)];exact Nat.le_of_ble_eq_true rfl):V P A x σ (thenS (fun s=>V P A y s Q2) Q):=
 V.mono h1 (fun e s hq=>by
  cases e with
  | normal=>
    obtain⟨v,h⟩:=hq;exact jA8 h (h2 v) (hA v)
  | _=>exact hq)
theorem gX(hq:QR P ⟨fr,L,N⟩ ⟨some t,op,ty,pos,af,none⟩ sv){Y:Prop}(hy:Y)(h:Y→VO P A ops rest ⟨(t,sv)::fr,L,N⟩ K:=by intro hy;exact goL hy)(ht:Nat.blt t N=true:=by rfl):VO P A ops (⟨some t,op,ty,pos,af,none⟩::rest) ⟨fr,L,N⟩ K:=pX hq (h hy) ht
theorem gC1(hq:Quiet P A ⟨fr,L,N⟩ ⟨some t,op,ty,pos,af,none⟩ sv){Y:Prop}(hy:Y)(h:Y→VO P A ops rest ⟨(t,sv)::fr,L,N⟩ K:=by intro hy;exact goL hy)(ht:Nat.blt t N=true:=by rfl):VO P A ops (⟨some t,op,ty,pos,af,none⟩::rest) ⟨fr,L,N⟩ K:=uX hq (h hy) ht
theorem jE0{α:Type}{b:Bool}{u v r:α}(h:cnd b u v=r){c:Operand}{x y:Code}(ht:b=true→u=r→V P A x σ Q)(hf:b=false→v=r→V P A y σ Q)(hc:σ.ev c=.d (.b b):=by rfl):V P A (.cond c x y) σ Q:=kN (fun e=>ht e (jU e h)) (fun e=>hf e (jV e h)) hc
theorem goC {α:Type}{b:Bool}{u v r:α}(h:cnd b u v=r){X Y Z:Prop}(ht:b=true→u=r→Y)(hf:b=false→v=r→Z)(g:(b=true→u=r→Y)→(b=false→v=r→Z)→X:=by
  intro ht hf;refine goL ?_
  exact jE0 h ht hf):X:=g ht hf
theorem hXb {c:Code}{fr':List (Nat × SV)}{L':List LO}(h:V P A c ⟨fr',L',N⟩ Q)(hL:DzL L L L':=by(repeat(first | exact DzS.frz rfl | apply DzS.ag | exact DzS.same | apply DzO.box | exact DzO.same | constructor));first | done | fail)
  (hfr:DzF L fr fr':=by(repeat(first | exact DzS.frz rfl | apply DzS.ag | exact DzS.same | constructor));first | done | fail):V P A c ⟨fr,L,N⟩ Q:=hZx h hL hfr
theorem SpI {f:Nat}{fn:Func}{c:Code}{args:List SV}{us:List U}(hf:P.funcs[f]? =some fn)(h:∀A [gBp A 0],V P A c ⟨gO2 0 args,[],fn.ntmps⟩ (vF P fn us))(hb:fn.body=some c:=by rfl)(hname:(fn.name== "runtime.NumGoroutine")=false:=by kernel_rfl)
  (hn:Nat.ble args.length fn.ntmps=true:=by rfl):gW P f args us:=gWk hf hb hname hn h
end
@[reducible] def bTy(x0:Int)(x1:LB)(x2:List gF):LO:=.box [.I x0,.S x1,.L 3 (jJ x2)]
@[reducible] def bIn(x0:LB)(x1:LS)(x2:Int)(x3:LB)(x4:List gF)(x5:List gU)(x6:Bool)(x7:Bool)(x8:Int)(x9:LB)(x10:List gF)(x11:List qX):LO:=.box [.S x0,.L 1 (kD x1),.I x2,.S x3,.L 3 (jJ x4),.L 4 (kM x5),.B x6,.B x7,.I x8,.S x9,.L 3 (jJ x10),.L 11 (gEt x11)]
@[reducible] def bEx(x0:Int)(x1:LB)(x2:LB)(x3:Int)(x4:Int)(x5:LB)(x6:List gF)(x7:List gY)(x8:List gJs):LO:=.box [.I x0,.S x1,.S x2,.I x3,.I x4,.S x5,.L 3 (jJ x6),.L 9 (vP x7),.L 11 (gBv x8)]
@[reducible] def bSt(x0:Int)(x1:Int)(x2:Int)(x3:List gM)(x4:List kK)(x5:List jZ)(x6:Int)(x7:Int):LO:=.box [.I x0,.I x1,.I x2,.L 4 (jM x3),.L 7 (vV x4),.L 5 (uY x5),.I x6,.I x7]
@[reducible] def bSx(x0:LB)(x1:List gH):LO:=.box [.S x0,.L 2 (kE x1)]
@[reducible] def bSg(x0:LB)(x1:List gF)(x2:Int)(x3:LB)(x4:List gF)(x5:Bool)(x6:LS)(x7:Int)(x8:LB)(x9:LB)(x10:Int)(x11:Int)(x12:LB)(x13:List gF)(x14:List gY)(x15:List gJs):LO:=.box [.S x0,.L 3 (jJ x1),.I x2,.S x3,.L 3 (jJ x4),.B x5,.L 1 (kD x6),.I x7,.S x8,.S x9,.I x10,.I x11,.S x12,.L 3 (jJ x13),.L 9 (vP x14),.L 11 (gBv x15)]
@[reducible] def bPk(x0:LB)(x1:LS)(x2:List mE)(x3:List jW)(x4:List jF)(x5:List kF):LO:=.box [.S x0,.L 1 (kD x1),.L 5 (gFr x2),.L 3 (gAl x3),.L 12 (gAm x4),.L 16 (gAn x5)]
@[reducible] def bTr(x0:LB)(x1:LS)(x2:Bool)(x3:Bool)(x4:List kW):LO:=.box [.S x0,.L 1 (kD x1),.B x2,.B x3,.L 16 (gA6 x4)]
@[reducible] def bCu(x0:LB)(x1:Int)(x2:Int):LO:=.box [.L 1 (gHs x0),.I x1,.I x2]
@[reducible] def bPr(x0:List jL):LO:=.box [.L 6 (gAx x0)]
@[reducible] def bBd(x0:LB)(x1:Int)(x2:LB)(x3:List gF):LO:=.box [.S x0,.I x1,.S x2,.L 3 (jJ x3)]
@[reducible] def bDa(x0:LB)(x1:LS)(x2:List mJ):LO:=.box [.S x0,.L 1 (kD x1),.L 2 (zN x2)]
@[reducible] def bIp(x0:LB)(x1:Int)(x2:Int)(x3:Int)(x4:Bool):LO:=.box [.S x0,.I x1,.I x2,.I x3,.B x4]
section
variable {P:Program}{A:Amb}{ops:Array Oper}{K:St→Prop}{rest:List Oper}{fr:List (Nat × SV)}{L:List LO}{N:Nat}
variable {c:Bool}{α:Type}{u v r:α}{Y Z:Prop}
theorem gqA (tj:Nat)(h:cnd c u v=r)(ht:c=true→u=r→Y)
  (g:Y→VO P A ops rest ⟨(tj,.d (.b true))::fr,L,N⟩ K:=by
   intro hy;refine goL ?_
   first | (refine gRx ?_;exact hy) | exact hy)
  (hf:c=false→v=r→VO P A ops rest ⟨(tj,.d (.b false))::fr,L,N⟩ K:=by
   intro c h;refine goL ?_;cases h
   exact eJ)
  (hb:look fr tj=.d (.b c):=by rfl):VO P A ops rest ⟨fr,L,N⟩ K:=uJ tj (fun e=>g (ht e (jU e h))) (fun e=>hf e (jV e h)) hb
theorem gqO (tj:Nat)(h:cnd c u v=r)(hf:c=false→v=r→Y)
  (g:Y→VO P A ops rest ⟨(tj,.d (.b false))::fr,L,N⟩ K:=by
   intro hy;refine goL ?_
   first | (refine gRx ?_;exact hy) | exact hy)
  (ht:c=true→u=r→VO P A ops rest ⟨(tj,.d (.b true))::fr,L,N⟩ K:=by
   intro c h;refine goL ?_;cases h
   exact eJ)
  (hb:look fr tj=.d (.b c):=by rfl):VO P A ops rest ⟨fr,L,N⟩ K:=uJ tj (fun e=>ht e (jU e h)) (fun e=>g (hf e (jV e h))) hb
theorem gqZ (tj:Nat)(h:cnd c u v=r)
  (ht:c=true→u=r→VO P A ops rest ⟨(tj,.d (.b true))::fr,L,N⟩ K:=by
   intro c h;refine goL ?_;cases h
   exact eJ)
  (hf:c=false→v=r→VO P A ops rest ⟨(tj,.d (.b false))::fr,L,N⟩ K:=by
   intro c h;refine goL ?_;cases h
   exact eJ)
  (hb:look fr tj=.d (.b c):=by rfl):VO P A ops rest ⟨fr,L,N⟩ K:=uJ tj (fun e=>ht e (jU e h)) (fun e=>hf e (jV e h)) hb
theorem gqV (tj:Nat)(h:cnd c u v=r)(ht:c=true→u=r→Y)(hf:c=false→v=r→Z)
  (g:Y→VO P A ops rest ⟨(tj,.d (.b true))::fr,L,N⟩ K:=by
   intro hy;refine goL ?_
   first | (refine gRx ?_;exact hy) | exact hy)
  (g':Z→VO P A ops rest ⟨(tj,.d (.b false))::fr,L,N⟩ K:=by
   intro hy;refine goL ?_
   first | (refine gRx ?_;exact hy) | exact hy)
  (hb:look fr tj=.d (.b c):=by rfl):VO P A ops rest ⟨fr,L,N⟩ K:=uJ tj (fun e=>g (ht e (jU e h))) (fun e=>g' (hf e (jV e h))) hb
end
end Go.Eng
namespace Go.Eng
open Go Go.RowKit
section
variable {P:Program}{A:Amb}
end
mutual
theorem hUl{w:World}:∀(u:U)(cs:List Value),u.noSl=true→u.fp w cs=[]
 | .i _ _,_,_=>rfl
 | .b _,_,_=>rfl
 | .s _,_,_=>rfl
 | .st us,cs,h=>by
   simp only [U.noSl] at h;simp only [U.fp];exact gR2 us cs h
 | .sl _ _,_,h=>by cases h
theorem gR2{w:World}:∀(us:List U)(cs:List Value),U.noSls us=true→U.fps w us cs=[]
 | [],_,_=>by simp only [U.fps]
 | u::us,cs,h=>by
   simp only [U.noSls,Bool.and_eq_true] at h;simp only [U.fps];rw [hUl u _ h.1,gR2 us _ h.2,List.append_nil]
end
theorem hCn:∀(us vs:List U),U.noSls (us++vs)=(U.noSls us && U.noSls vs)
 | [],vs=>by simp [U.noSls]
 | u::us,vs=>by simp only [List.cons_append,U.noSls,hCn us vs,Bool.and_assoc]
theorem hIb(us:List U)(k:Nat)(h:U.noSls us=true):U.noSls (us.take k)=true∧U.noSls (us.drop k)=true:=by
 have:=hCn (us.take k) (us.drop k)
 rw [List.take_append_drop,h] at this;simpa [Bool.and_eq_true] using this.symm
section
variable {P:Program}{A:Amb}{K:St→Prop}{ops:Array Oper}{rest:List Oper}{t:Nat}{ty ty2:TypeId}{pos pos2:String}{af af2:Array Edge}{x y:Operand}
theorem hUm {T e:TypeId}{gg:Bool}{zz bs i ver k:Nat}{es:List U}{fr:List (Nat × SV)}{L L':List LO}{N:Nat} [TE P T e] [TI P e gg zz bs] (hk:k≤es.length) (hns:U.noSls es=true)
  (h:VO P A ops rest ⟨(t,.sl i (ver+1))::fr,L',N⟩ K)
  (hx:(St.mk fr L N).ev x=.sl i ver:=by rfl) (hL:L[i]? =some (.own e zz ver es):=by rfl) (hy:(St.mk fr L N).ev y=.d (.i .i64 (k:Int)):=by rfl) (ht:Nat.blt t N=true:=by rfl) (hL':St1 (.own e zz (ver+1) (es.take k)) i L L':=by repeat constructor) :
  VO P A ops (⟨some t,.slice T x none (some y) none,ty,pos,af,none⟩::rest) ⟨fr,L,N⟩ K:=by
 have:=hL'.spec
 subst this;refine gH9 rfl (fun S env a w hH hf hN hd=>?_) h;have h1:=mP.ev hf hH x;have h2:=mP.ev hf hH y;rw [hx] at h1;rw [hy,SVr.int] at h2;simp only [SVr] at h1;obtain⟨hv,o,k1,k2,_,_,k3⟩:=h1;rw [hL] at k2;cases k2;have hxe:=k3 rfl;have hob:=hH.objs i _ hv hL k1;obtain⟨o1,o2,⟨xs,o3,o4⟩,o5⟩:=hob;have hi:=(List.getElem?_eq_some_iff.1 hL).1;have hie:i < env.length:=by rw [hH.len];exact hi
 have hT:P.underlying T=some (.slice e):=gA8 TE.h;have hel:P.elem T=e:=by simp [Program.elem,hT]
 have hT':P.underlying T=some (.slice (P.elem T)):=by rw [hel];exact hT
 have hsz:=run_sizeOf (w:=w) (TI.h:tyI P e=some (gg,zz,bs));have hrunh:∀(base:Option Addr)(cap:Nat),es.length≤cap→(Instr.slice T (.slice base es.length cap) none (some (.int .i64 (k:Int))) none).run P w=.ok (.slice base k cap) w:=by
  intro base cap hc;have hrun:=run_slice_h (w:=w) T base es.length cap hT' .i64 (k:Int) (by omega) (by omega);rw [hel,hsz] at hrun;simp only [Result.andThen] at hrun;rw [hrun];cases base<;>simp [sliced,Addr.add_lit];rename_i a0;obtain⟨b0,o0,p0⟩:=a0;cases p0<;>simp [Addr.add]
 have htl:(es.take k).length=k:=by rw [List.length_take];omega
 have hz1':∀v∈es.take k,v.sz=zz:=fun v hv=>o2 v (List.mem_of_mem_take hv);have s1:U.szs (es.take k)=k*zz:=by rw [gWt _ hz1',htl]
 have o4':=o4;rw [←List.take_append_drop k es] at o4';obtain⟨p1,_,_⟩:=Trs.split (es.take k) xs _ o4';rw [s1] at p1;obtain⟨n1,n2⟩:=hIb es k hns;have form:∃base cap,hv=.slice base es.length cap∧es.length≤cap∧(base=none∧cap=0∨∃g cur,base=some ⟨g,0,none⟩∧w.heap[g]? =some (.cells cur e (0,0))∧cap≤maxLen∧cur.size=cap*zz∧cur.toList.take (es.length*zz)=xs∧g∈(U.sl zz es).fp w [hv]):=by
  rcases o3.2 with ⟨rfl,h0⟩ | ⟨g,cap,cur,rfl,_,r1,r2,r3,r4,r5⟩
  ·exact⟨none,0,by rw [h0],by omega,.inl ⟨rfl,rfl⟩⟩
  ·exact⟨some ⟨g,0,none⟩,cap,rfl,r2,.inr ⟨g,cur,rfl,r1,r3,r4,r5,by simp [U.fp]⟩⟩
 obtain⟨base,cap,f1,f0,f3⟩:=form;obtain⟨hH',C⟩:pU A S (L.set i (.own e zz (ver+1) (es.take k))) (env.set i (.slice base k cap)) w∧Carry S L env w S (L.set i (.own e zz (ver+1) (es.take k))) (env.set i (.slice base k cap)) w:=by
  refine hH.eat [] i _ (.slice base k cap) (by rw [List.length_set,List.length_set];exact hH.len) (fun j hj=>?_) (List.getElem?_set_self hi) (fun j hj=>List.getElem?_set_ne (fun e=>hj e.symm)) (List.getElem?_set_self hie) (fun _ _ _=>rfl) (fun o hv1 h1 h2=>?_) (Nat.le_refl _) rfl rfl rfl (fun k' hk'=>?_) (fun C=>?_)
  ·rw [List.getElem?_set_ne (fun e=>hj e.symm)];simp
  ·rw [hL] at h1;rw [k1] at h2;cases h1;cases h2;refine⟨Nat.le_succ _,fun h=>absurd h (by simp [LO.ver]),fun b hb=>?_⟩;rw [f1] at hb;cases hb
  ·rcases f3 with ⟨rfl,rfl⟩ | ⟨g,cur,rfl,r1,r2,r3,r5,r4⟩
   ·simp [LO.ft,U.fp] at hk'
   ·simp only [LO.ft,U.fp] at hk';rw [gR2 _ _ n1] at hk';simp at hk';subst hk';exact⟨(Array.getElem?_eq_some_iff.1 r1).1,.inr ⟨i,_,hv,.inl rfl,hL,rfl,k1,r4⟩⟩
  ·rcases f3 with ⟨rfl,rfl⟩ | ⟨g,cur,rfl,r1,r2,r3,r5,r4⟩
   ·have hes:es=[]:=List.eq_nil_of_length_eq_zero (by omega);subst hes;obtain rfl:k=0:=by simpa using hk
    exact⟨by simp [gAy],by simp,⟨[],World.ownsRow_nil w 0 e zz,by simp [Trs]⟩,by simp [U.fp]⟩
   ·refine⟨by rw [htl];omega,hz1',⟨xs.take (k*zz),⟨by rw [htl,List.length_take,o3.1,Nat.min_eq_left (Nat.mul_le_mul_right _ hk)],.inr ⟨g,cap,cur,by rw [htl],Nat.zero_le _,r1,by rw [htl];omega,r2,r3,?_⟩⟩,p1⟩,?_⟩
    ·rw [htl,←r5,List.take_take,Nat.min_eq_left (Nat.mul_le_mul_right _ hk)]
    ·simp only [U.fp];rw [gR2 _ _ n1];simp
 refine⟨.value (.slice base k cap),w,?_,.inl ⟨_,rfl,vZ hf hN hd ht hH' C ?_⟩⟩
 ·have hxe':a.eval x=.slice base es.length cap:=by rw [hxe,f1]
  simp [execOp,hxe',h2,Instr.sliceAt,run_underlying hT,hrunh base cap f0]
 ·simp only [SVr];exact⟨.slice base k cap,_,List.getElem?_set_self hie,List.getElem?_set_self hi,Nat.le_refl _,rfl,fun _=>rfl⟩
end
end Go.Eng
namespace Go.Eng
open Go
end Go.Eng
namespace Go.Eng
open Go Go.RowKit
section
variable {P:Program}{A:Amb}{K:St→Prop}{ops:Array Oper}{rest:List Oper}{t i:Nat}{ty ty2:TypeId}{pos pos2:String}{af af2:Array Edge}{x y:Operand}{fr:List (Nat × SV)}{L L':List LO}{N:Nat}
variable {α:Type}{en:α→U}{es:List α→List U}{z:Nat}[E:Enc α en es z]{ver:Nat}{T e bs:Nat}{gg:Bool}
theorem St1.mk{β:Type}{x:β}:∀{i:Nat}{l:List β},i < l.length→St1 x i l (l.set i x)
 | 0,_::_,_=>.z
 | i+1,_::l,h=>.s (St1.mk (by simpa using h))
theorem hSm{α:Type}{en:α→U}{es:List α→List U}{z:Nat}[E:Enc α en es z](hn:∀a:α,(en a).noSl=true)(l:List α):U.noSls (es l)=true:=by
 rw [E.h]
 induction l with
 | nil=>rfl
 | cons a l ih=>simp [U.noSls,hn a,ih]
theorem jE1{es:List U}(i:Nat)(h:VO P A ops rest ⟨fr,L',N⟩ K)(hL:L[i]? =some (.own e z ver es):=by rfl)(hL':L.set i (.arr e z ver es)=L':=by rfl):VO P A ops rest ⟨fr,L,N⟩ K:=by
 subst hL';exact fun R hR a w hr=>h R hR a w (hr.share hL)
theorem hUn {l:List α}{k:Int}(hk:0≤k∧k≤(l.length:Int)) [TE P T e] [TI P e gg z bs]
  (h:VO P A ops rest ⟨(t,.sl i (ver+1))::fr,L',N⟩ K)
  (hx:(St.mk fr L N).ev x=.sl i ver:=by rfl) (hL:L[i]? =some (.arr e z ver (es l)):=by rfl) (hy:(St.mk fr L N).ev y=.d (.i .i64 k):=by rfl) (ht:Nat.blt t N=true:=by rfl)
  (hn:∀a:α,(en a).noSl=true:=by exact fun _=>rfl) (hL':L.set i (.arr e z (ver+1) (es (l.take k.toNat)))=L':=by rfl) :
  VO P A ops (⟨some t,.slice T x none (some y) none,ty,pos,af,none⟩::rest) ⟨fr,L,N⟩ K:=by
 have hi:=(List.getElem?_eq_some_iff.1 hL).1;subst hL';rw [show k=((k.toNat:Nat):Int) by omega] at hy;refine jEz i ?_ hL (hSm (es:=es) hn l) (St1.mk hi);refine hUm (k:=k.toNat) (by rw [Enc.len];omega) (hSm (es:=es) hn l) ?_ hx (List.getElem?_set_self hi) hy ht (St1.mk (by simpa using hi));refine jE1 i ?_ (by rw [List.set_set];exact List.getElem?_set_self hi) rfl;rw [List.set_set,List.set_set];have e1:(es l).take k.toNat=es (l.take k.toNat):=by rw [Enc.h (es:=es),Enc.h (es:=es),List.map_take]
 rw [e1];exact h
end
section
variable {P:Program}{A:Amb}{ops:Array Oper}{K:St→Prop}{r:List (Nat × Bool)}{pf:PF}{fr:List (Nat × SV)}{L:List LO}{N i t:Nat}
variable {ty:TypeId}{pos:String}{af:Array Edge}{sv:SV}
end
theorem DzL.refl{L0:List LO}:∀(l:List LO),DzL L0 l l
 | []=>.nil
 | _::l=>.cons .same (DzL.refl l)
theorem DzF.refl{L0:List LO}:∀(l:List (Nat × SV)),DzF L0 l l
 | []=>.nil
 | (_,_)::l=>.cons .same (DzF.refl l)
theorem Sn.mk'{α:Type}{x:α}:∀(l:List α),Sn x l l.length (l++[x])
 | []=>.z
 | _::l=>.s (Sn.mk' l)
section
variable {P:Program}{A:Amb}{ops:Array Oper}{K:St→Prop}{r:List (Nat × Bool)}{pf:PF}{fr:List (Nat × SV)}{L L1 L':List LO}{N i t m:Nat}
variable {ty:TypeId}{pos:String}{af:Array Edge}{x y:Operand}{T:TypeId}
end
@[reducible] def hcT(i:Nat)(t:OT):OT:=.h i t .nil
@[reducible] def hzT(i:Nat):OT:=.h i .nil .nil
@[reducible] def q3T(i:Nat)(t:OT):OT:=.q i (.q (i+1) (.q (i+2) t))
section
variable {P:Program}{A:Amb}{ops:Array Oper}{K:St→Prop}{t:OT}{pf:PF}{i:Nat}{b:Bool}
end
def hXc(l:List Int):U:=.sl 1 (yC l)
def gW1:List (List Int)→List U
 | []=>[]
 | a::l=>.sl 1 (yC a)::gW1 l
instance:Enc (List Int) hXc gW1 1:=⟨fun l=>by induction l with | nil=>rfl | cons a l ih=>simp [gW1,ih,hXc],fun _=>rfl⟩
structure kH where
 w:gG
 i:Int
 where_:List gU
 keep:Bool
mutual
def gF5:kH→U
 | ⟨f0,f1,f2,f3⟩=>.st [jX f0,.i .i64 f1,.sl 4 (kM f2),.b f3]
def hUo:List kH→List U
 | []=>[]
 | a::l=>gF5 a::hUo l
end
structure mF where
 code:Int
 package:Int
 kind:LB
 name:LB
mutual
def gPy:mF→U
 | ⟨f0,f1,f2,f3⟩=>.st [.i .i64 f0,.i .i64 f1,.s f2,.s f3]
def vM:List mF→List U
 | []=>[]
 | a::l=>gPy a::vM l
end
theorem gZ6(x:mF):(gPy x).sz=4:=by cases x;simp [gPy,U.sz,U.szs]
instance:Enc mF gPy vM 4:=⟨fun l=>by induction l with | nil=>rfl | cons a l ih=>simp [vM,ih],gZ6⟩
structure pW where
 code:Int
 at_:gI
mutual
def gHg:pW→U
 | ⟨f0,f1⟩=>.st [.i .i64 f0,qQ f1]
def gCu:List pW→List U
 | []=>[]
 | a::l=>gHg a::gCu l
end
theorem gR3(x:pW):(gHg x).sz=3:=by cases x;simp [gHg,U.sz,U.szs,gHe]
instance:Enc pW gHg gCu 3:=⟨fun l=>by induction l with | nil=>rfl | cons a l ih=>simp [gCu,ih],gR3⟩
end Go.Eng
