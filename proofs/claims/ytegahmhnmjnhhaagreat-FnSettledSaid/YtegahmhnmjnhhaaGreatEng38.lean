import Derived.Test.YtegahmhnmjnhhaaGreatEng36
import Derived.Test.YtegahmhnmjnhhaaGreatProg
set_option linter.unusedVariables false
set_option linter.unusedSimpArgs false
namespace Go.Eng
open Go Go.RowKit
section
variable {P:Program} {A:Amb} {ops:Array Oper} {K:St→Prop} {Q:Exit→St→Prop} {rest:List Oper} {σ:St} {fr:List (Nat × SV)} {L L1 L':List LO} {N i t:Nat} {sv:SV} {o:Oper} {c:Code}
variable {ty T:TypeId} {pos:String} {af:Array Edge} {x y:Operand} {g:Option (Nat × Bool)} {dst:Option Nat} {op:Op}
theorem gLn{α:Type}{e:α→U}{es:List α→List U}{z z':Nat} [E:Enc α e es z]{el:TypeId} [TE P T el]{T':TypeId}{l:List α}(hx:σ.ev x=.d (.sl z' (es l)):=by rfl):QR P σ ⟨dst,.call { callee:=.builtin .len,args:=#[x],argTypes:=#[T] },T',pos,af,g⟩ (.d (.i .i64 (l.length:Int))):=
 fun A fr' L' he _=>by
  rw [←Enc.len (es:=es) l];exact hRc (by rw [he x (by simp [Op.operands,Call.operands])];exact hx) TE.h
theorem hCp{α:Type}{e:α→U}{es:List α→List U}{z z':Nat} [E:Enc α e es z]{el:TypeId} [TE P T el]{T':TypeId}{l:List α}{i ver e':Nat}(hx:σ.ev x=.sl i ver:=by rfl)(hL:σ.L[i]? =some (.own e' z' ver (es l)):=by rfl):Quiet P A σ ⟨dst,.call { callee:=.builtin .len,args:=#[x],argTypes:=#[T] },T',pos,af,g⟩ (.d (.i .i64 (l.length:Int))):=by
 rw [←Enc.len (es:=es) l];exact gYb hx hL .own TE.h
theorem gLo{i off:Nat}(hx:σ.ev x=.ptr i off:=by rfl):QR P σ ⟨dst,.nilCheck x,ty,pos,af,g⟩ (.ptr i off):=fun A fr' L' he _=>Quiet.pure fun S env a w hH ho=>by
 have h1:=ho x (by simp [Op.operands]);rw [he x (by simp [Op.operands]),hx] at h1;refine⟨a.eval x,?_,h1⟩;simp only [SVr] at h1;obtain⟨b,_,hv⟩:=h1;simp [execOp,hv]
theorem hUi{j tj:Nat}{want x:Bool}{o':Oper}(h:VO P A ops rest ⟨(t,.tup [])::fr,L,N⟩ K)(hj:ops[j]? =some o':=by rfl)(hdst:o'.dst=some tj:=by rfl)(htj:Nat.blt tj N=true:=by rfl)(hb:look fr tj=.d (.b x):=by rfl)(hx:(x==want)=false:=by rfl)(ht:Nat.blt t N=true:=by rfl) :
  VO P A ops (⟨some t,op,ty,pos,af,some (j,want)⟩::rest) ⟨fr,L,N⟩ K:=by
 intro R hR a w ⟨S,env,hH,hf,hN,hd⟩;have h1:=h R hR (a.put (some t) undef) w (qW hf hN hd ht hH Carry.refl (by simp only [SVr];exact⟨[],rfl,by simp [kK]⟩));have h2:=hf tj;rw [hb] at h2;have h3:=SVr.bool.1 h2;have ht':tj < a.tmps.size:=by rw [hN];simpa [Nat.blt_eq] using htj
 have hy:yielded ops a.tmps j=some x:=by
  simp only [yielded,hj,hdst,Option.bind_some]
  have:a.tmps[tj]? =some (.bool x):=by
   rw [Array.getD_eq_getD_getElem?,Array.getElem?_eq_getElem ht'] at h3;rw [Array.getElem?_eq_getElem ht'];have h3':a.tmps[tj]=.bool x:=by simpa using h3
   rw [h3']
  rw [this]
 unfold wpList;simp only [Region.wanted,hy];have hne:(some x==some want)=false:=by simpa using hx
 rw [hne];exact h1
theorem hUj{j tj:Nat}{want:Bool}{o':Oper}(h:VO P A ops rest ⟨(t,.tup [])::fr,L,N⟩ K)(hj:ops[j]? =some o':=by rfl)(hdst:o'.dst=some tj:=by rfl)(htj:Nat.blt tj N=true:=by rfl)(hb:look fr tj=.tup []:=by rfl)(ht:Nat.blt t N=true:=by rfl) :
  VO P A ops (⟨some t,op,ty,pos,af,some (j,want)⟩::rest) ⟨fr,L,N⟩ K:=by
 intro R hR a w ⟨S,env,hH,hf,hN,hd⟩;have h1:=h R hR (a.put (some t) undef) w (qW hf hN hd ht hH Carry.refl (by simp only [SVr];exact⟨[],rfl,by simp [kK]⟩));have h2:=hf tj;rw [hb] at h2;simp only [SVr] at h2;obtain⟨vs,h3,h4⟩:=h2;have hvs:vs=[]:=by cases vs with
  | nil=>rfl
  | cons _ _=>simp [kK] at h4
 subst hvs;have ht':tj < a.tmps.size:=by rw [hN];simpa [Nat.blt_eq] using htj
 have hy:yielded ops a.tmps j=none:=by
  simp only [yielded,hj,hdst,Option.bind_some]
  have:a.tmps[tj]? =some (.tuple #[]):=by
   rw [Array.getD_eq_getD_getElem?,Array.getElem?_eq_getElem ht'] at h3;rw [Array.getElem?_eq_getElem ht'];have h3':a.tmps[tj]=.tuple #[]:=by simpa using h3
   rw [h3']
  rw [this]
 unfold wpList;simp only [Region.wanted,hy];have hne:((none:Option Bool)==some want)=false:=by rfl
 rw [hne];exact h1
def gSm(L:List LO)(ρ:Nat→Nat):Nat→List LO→Prop
 | _,[]=>True
 | m,o::os=>L[ρ m]? =some (o.ren ρ)∧gSm L ρ (m+1) os
theorem gLp{L:List LO}{ρ:Nat→Nat}:∀{Lc:List LO} {n:Nat},gSm L ρ n Lc→∀(m:Nat) (o:LO),Lc[m]? =some o→L[ρ (n+m)]? =some (o.ren ρ)
 | [],_,_,m,o,h=>by simp at h
 | o0::os,n,hp,0,o,h=>by simp at h;subst h;exact hp.1
 | o0::os,n,hp,m+1,o,h=>by
   have:=gLp hp.2 m o (by simpa using h)
   rwa [show n+1+m=n+(m+1) by omega] at this
theorem yY {f:Operand} {fi:Nat} {caps:List SV} {args:Array Operand} {at_:Array TypeId} {cargs:List SV} {Lc:List LO} {Q:SV→List LO→Prop} (js:List Nat) (hspec:Spec P fi cargs Lc Q)
  (h:∀(sv:SV) (Lo:List LO),Q sv Lo→VO P A ops rest ⟨(t,sv.ren (rn js L.length))::fr,gKq js (Lo.map (LO.ren (rn js L.length))) L,N⟩ K)
  (hf:(St.mk fr L N).ev f=.fn fi caps:=by rfl) (hp:gSm L (rn js L.length) 0 Lc:=by((repeat(first | exact trivial | exact rfl | refine And.intro ?_ ?_));first | done | fail))
  (hjs:(decide js.Nodup && (js.all fun j=>Nat.blt j L.length) && js.length==Lc.length && LO.lts Lc.length Lc)=true:=by rfl)
  (hargs:AGs L (rn js L.length) Lc.length (args.toList.map (St.mk fr L N).ev++caps) cargs:=by((repeat(first | exact trivial | exact .inl ⟨rfl,rfl⟩ | exact .inr ⟨_,rfl,by((repeat(first | exact trivial | exact rfl | exact⟨_,rfl⟩ | refine And.intro ?_ ?_));first | done | fail)⟩ | refine And.intro ?_ ?_));first | done | fail))
  (ht:Nat.blt t N=true:=by rfl) :
  VO P A ops (⟨some t,.call { callee:=.value f,args:=args,argTypes:=at_ },ty,pos,af,none⟩::rest) ⟨fr,L,N⟩ K:=by
 have hjs':=hjs;simp only [Bool.and_eq_true,decide_eq_true_eq,List.all_eq_true,Nat.blt_eq,beq_iff_eq] at hjs';obtain⟨⟨⟨hnd,hlt⟩,hn⟩,hlts⟩:=hjs';refine hM3 js hf hspec ⟨fun m o ho=>by simpa using gLp hp m o ho,fun m m' _ _ he=>hCm hlt hnd he,hlts⟩ ?_ hargs ht h;simp only [Bool.and_eq_true,decide_eq_true_eq,List.all_eq_true,Nat.blt_eq,beq_iff_eq];exact⟨⟨hnd,hlt⟩,hn⟩
theorem jCu {fn:Func} {Q:SV→List LO→Prop} {n:Nat} (svs:List SV) (Lo:List LO) (hq:Q (mkG svs) Lo) (hL:∃L2,σ.L=Lo++L2:=by exact⟨_,rfl⟩) (hl:(LO.lts Lo.length Lo && SV.lts Lo.length svs && Nat.ble n Lo.length)=true:=by rfl)
  (hr:gZ0 P σ fn.results.toList svs:=by((repeat(first | exact .nil | refine .data rfl rfl ?_ | refine .same rfl ?_ | refine .data (gI1 rfl rfl TI.h rfl rfl) (by((repeat(first | exact trivial | exact rfl | exact⟨_,rfl⟩ | refine And.intro ?_ ?_));first | done | fail)) ?_));first | done | fail)):mI P fn Q n .normal σ:=by
 obtain⟨L2,hL⟩:=hL;exact⟨trivial,svs,Lo,L2,hL,hl,hq,hr⟩
theorem jCv {fn:Func} {Q:SV→List LO→Prop} {n:Nat} (svs:List SV) (Lo:List LO) (hq:Q (mkG svs) Lo) (hL:∃L2,σ.L=Lo++L2:=by exact⟨_,rfl⟩) (hl:(LO.lts Lo.length Lo && SV.lts Lo.length svs && Nat.ble n Lo.length)=true:=by rfl)
  (hr:gZ0 P σ fn.results.toList svs:=by((repeat(first | exact .nil | refine .data rfl rfl ?_ | refine .same rfl ?_ | refine .data (gI1 rfl rfl TI.h rfl rfl) (by((repeat(first | exact trivial | exact rfl | exact⟨_,rfl⟩ | refine And.intro ?_ ?_));first | done | fail)) ?_));first | done | fail)):mI P fn Q n .ret σ:=⟨trivial,(jCu svs Lo hq hL hl hr).2⟩
theorem qA{fn:Func}{us:List U}(h:gZw P σ fn.results.toList us:=by((repeat(first | exact trivial | exact⟨_,rfl,rfl⟩ | exact⟨_,rfl,⟨_,rfl⟩⟩ | exact⟨_,gI1 rfl rfl TI.h rfl rfl,(by(repeat(first | exact trivial | exact rfl | exact⟨_,rfl⟩ | refine And.intro ?_ ?_));first | done | fail)⟩ | exact⟨_,ResV_one rfl rfl TI.h rfl,rfl⟩ | refine And.intro ?_ ?_));first | done | fail)):mU P fn us .ret σ:=⟨trivial,h⟩
theorem gPw{fn:Func}{es:List TypeId}{us:List U}{ps:List (Option Nat)}(h:ROs P σ fn.results.toList us es ps:=by((repeat(first | exact rfl | exact gI1 rfl rfl TI.h rfl rfl | exact ResV_one rfl rfl TI.h rfl | constructor));first | done | fail))(hn:decide ((ps.filterMap id).Nodup)=true:=by rfl):mV P fn es us .ret σ:=⟨trivial,ps,h,hn⟩
theorem gN9 {f:Operand} {fi:Nat} {caps:List SV} {args:Array Operand} {at_:Array TypeId} {dargs:List SV} {us:List U} (hspec:jC P fi (dargs++caps) us) (hc:SV.lts 0 caps=true) (hf:σ.ev f=.fn fi caps:=by rfl)
  (hargs:∀L',VAs L' (args.toList.map σ.ev) dargs:=by(intro L';(repeat(first | exact trivial | exact rfl | exact⟨_,rfl⟩ | refine And.intro ?_ ?_));first | done | fail)) :
  QR P σ ⟨dst,.call { callee:=.value f,args:=args,argTypes:=at_ },ty,pos,af,g⟩ (mkR us):=
 fun A fr' L' he _=>hQx (by rw [he f (by simp [Op.operands,Call.operands])];exact hf) hspec (by
  have:args.toList.map (St.ev ⟨fr',L',σ.N⟩)=args.toList.map σ.ev:=List.map_congr_left fun x hx=>he x (by simp only [Op.operands,Call.operands];simp;exact .inr (by simpa using hx))
  rw [this]
  exact hargs L') hc
theorem gF9{e z bs:Nat}{gg:Bool} [TE P T e] [TI P e gg z bs](h:VO P A ops rest ⟨(t,.sl i 0)::fr,L',N⟩ K)(ht:Nat.blt t N=true:=by rfl)(hL':Sn (.own e z 0 []) L i L':=by repeat constructor) :
  VO P A ops (⟨some t,.buildSlice T 0 #[],ty,pos,af,none⟩::rest) ⟨fr,L,N⟩ K:=hCi TE.h TI.h ht hL' h
theorem hUk {e z bs:Nat} {gg:Bool} [TE P T e] [TI P e gg z bs] {zs:List Value} [TZ P e zs] {u:U} {js:List Nat} (h:VO P A ops rest ⟨(t,.sl i 0)::fr,L',N⟩ K) (hy:OV L ((St.mk fr L N).ev x) u js:=by((repeat constructor);first | done | fail)) (hjs:decide js.Nodup=true:=by decide)
  (hz:(Nat.blt 0 z && Nat.blt z 16777216 && zs.length==z)=true:=by rfl) (hu:u.sz=z:=by rfl) (ht:Nat.blt t N=true:=by rfl) (hk1:KR js L L1:=by repeat constructor) (hL':Sn (.own e z 0 [u]) L1 i L':=by repeat constructor) :
  VO P A ops (⟨some t,.buildSlice T 1 #[(0,x)],ty,pos,af,none⟩::rest) ⟨fr,L,N⟩ K:=gV0 hy hjs TE.h TI.h TZ.h hz hu ht hk1 hL' h
theorem gAk {e z bs:Nat} {gg:Bool} [TE P T e] [TI P e gg z bs] {zs:List Value} [TZ P e zs] {u:U} (h:VO P A ops rest ⟨(t,.sl i 0)::fr,L',N⟩ K) (hy:VD L ((St.mk fr L N).ev x) u:=by((repeat(first | exact trivial | exact rfl | exact⟨_,rfl⟩ | refine And.intro ?_ ?_));first | done | fail))
  (hz:(Nat.blt 0 z && Nat.blt z 16777216 && zs.length==z)=true:=by rfl) (hu:u.sz=z:=by rfl) (ht:Nat.blt t N=true:=by rfl) (hL':Sn (.arr e z 0 [u]) L i L':=by repeat constructor) :
  VO P A ops (⟨some t,.buildSlice T 1 #[(0,x)],ty,pos,af,none⟩::rest) ⟨fr,L,N⟩ K:=by
 obtain⟨hi,hL''⟩:=hL'.spec;subst hi;subst hL'';have hT:tyE P T=some e:=TE.h;have he:tyI P e=some (gg,z,bs):=TI.h;have hZ:tyZ P e=some zs:=TZ.h;simp only [Bool.and_eq_true,Nat.blt_eq,beq_iff_eq] at hz;refine gDh rfl (fun S env a w hH hf hN hd=>?_) h;have hr:=VD.r hH hy (kZ.ev hf hH x);simp only [SVr] at hr;obtain⟨cs,c1,c2⟩:=hr;have hcells:(a.eval x).cells.toList=cs:=by rw [c1];exact gOc c2
 have hcl:=Rd.length _ _ c2;rw [hu] at hcl;obtain⟨zv,hrz,hzc⟩:=gOb hZ w;have hsz:(a.eval x).cells.size=z:=by rw [←hcl,←hcells];simp
 have hold:∀b,b < w.heap.size→(w.alloc (.cells (a.eval x).cells e)).heap[b]? =w.heap[b]? :=fun b hb=>heap_alloc_old w _ hb
 obtain⟨hH',C⟩:=hH.new (w':=w.alloc (.cells (a.eval x).cells e)) (.arr e z 0 [u]) (.slice (some ⟨w.heap.size,0,none⟩) 1 1) (by simp) hold rfl rfl rfl
  (fun b hb=>by simp [LO.ft,blk] at hb;subst hb;simp)
  (fun C=>⟨by simp [wY],by simpa using hu,cs,⟨by simp [hcl],.inr ⟨w.heap.size,1,_,rfl,Nat.zero_le _,heap_alloc_new w _,Nat.le_refl _,by simp [maxLen],by rw [hsz];simp,by rw [hcells];rw [List.take_of_length_le (by simp [hcl])]⟩⟩,by
   have:=c2.mono C.hS C.hw
   simp only [Rds]
   exact⟨cs,[],by simp,this,rfl⟩⟩)
 refine⟨.value (.slice (some ⟨w.heap.size,0,none⟩) 1 1),_,?_,.inl ⟨_,rfl,qW hf hN hd ht hH' C ?_⟩⟩
 ·have hzs:zv.cells.size=z:=by rw [←hz.2,←hzc];simp
  have hfill:Instr.fill (fun i=>some (i*z,z)) ((Array.range (1*z)).map (zv.cells[· % zv.cells.size]!)) [(0,a.eval x)]=some (a.eval x).cells:=by
   rw [gQm (off:=0) (n:=z) (by simp) hsz (by simp)];simp only [Instr.fill,Option.some.injEq,List.take_zero,List.nil_append,Nat.zero_add];apply Array.ext';simp
  have h1:¬z > 2^24:=by omega
  have h2:¬z=0:=by omega
  simp only [Nat.one_mul] at hfill;simp [execOp,Instr.buildSlice,run_underlying (wS hT),run_sizeOf he,hrz,h1,h2,newRow];simp only [gt_iff_lt] at h1;simp [hfill]
 ·simp only [SVr];exact⟨.slice (some ⟨w.heap.size,0,none⟩) 1 1,.arr e z 0 [u],by rw [←hH.len];simp,by simp,Nat.le_refl _,rfl,fun _=>rfl⟩
theorem gH3 {α:Type} {en:α→U} {es:List α→List U} {z:Nat} [E:Enc α en es z] {l r:List α} (hg:l.length+r.length≤4294967296) {e bs ver:Nat} {gg:Bool} [TE P T e] [TI P e gg z bs] {zs:List Value} [TZ P e zs] {js:List Nat} {T':TypeId}
  (h:VO P A ops rest ⟨(t,.sl i (ver+1))::fr,L',N⟩ K) (hx:(St.mk fr L N).ev x=.sl i ver:=by rfl) (hL:L[i]? =some (.own e z ver (es l)):=by rfl) (hs:hLb L z ((St.mk fr L N).ev y) (es r) js:=by first | exact .own rfl | exact .nil | exact .data (Enc.all _) (gPf _) | exact .data (Enc.all _) (gPg _))
  (hjs:(decide js.Nodup && !js.contains i)=true:=by decide) (hz:(Nat.blt 0 z && zs.length==z)=true:=by rfl) (hb:Nat.ble bs 32768=true:=by rfl)
  (ht:Nat.blt t N=true:=by rfl) (hk1:KR js L L1:=by repeat constructor) (hL':St1 (.own e z (ver+1) (es (l++r))) i L1 L':=by repeat constructor) :
  VO P A ops (⟨some t,.call { callee:=.builtin .append,args:=#[x,y],argTypes:=#[T,T] },T',pos,af,none⟩::rest) ⟨fr,L,N⟩ K:=by
 have h1:(es l).length=l.length:=Enc.len l;have h2:(es r).length=r.length:=Enc.len r;have hb:=Nat.le_of_ble_eq_true hb;rw [Enc.app (es:=es)] at hL';refine gXv hx hL hs hjs TE.h TI.h TZ.h hz (by rw [wY];omega) ?_ ht hk1 hL' h;rw [h1,h2];exact Nat.le_trans (Nat.mul_le_mul hg hb) (by decide)
theorem kZ.freezeO{a:Act}{w:World}{i e z ver:Nat}{es:List U}(hL:σ.L[i]? =some (.own e z ver es))(h:kZ A σ a w):kZ A ⟨σ.fr,σ.L.set i (.frz e z ver es),σ.N⟩ a w:=by
 obtain⟨S,env,hH,hf,hN,hd⟩:=h;have hi:=(List.getElem?_eq_some_iff.1 hL).1;have hie:i < env.length:=by rw [hH.len];exact hi
 obtain⟨hv,he⟩:∃hv,env[i]? =some hv:=⟨_,List.getElem?_eq_getElem hie⟩
 have hob:=hH.objs i _ hv hL he;let S':Nat→Prop:=fun b=>S b∨b∈(U.sl z es).fp w [hv];have hset:∀(j:Nat) (o':LO),(σ.L.set i (.frz e z ver es))[j]? =some o'→(j=i∧o'=.frz e z ver es)∨(j≠i∧σ.L[j]? =some o'):=by
  intro j o' hj;by_cases hij:i=j
  ·subst hij;rw [List.getElem?_set_self hi] at hj;exact .inl ⟨rfl,(Option.some.inj hj).symm⟩
  ·rw [List.getElem?_set_ne hij] at hj;exact .inr ⟨fun e=>hij e.symm,hj⟩
 have C:Carry S σ.L env w S' (σ.L.set i (.frz e z ver es)) env w:=by
  refine⟨fun b hb _=>.inl hb,fun _ _ _=>rfl,fun _ _ h=>h,fun j hv' o' h1 h2=>?_⟩;by_cases hij:i=j
  ·subst hij;rw [hL] at h2;obtain rfl:=Option.some.inj h2;exact⟨hv',.frz e z ver es,h1,by rw [List.getElem?_set_self hi],Nat.le_refl _,fun _=>rfl⟩
  ·exact⟨hv',o',h1,by rw [List.getElem?_set_ne hij];exact h2,Nat.le_refl _,fun _=>rfl⟩
 refine⟨S',env,⟨by simp [hH.len],?_,?_,?_,?_,?_,hH.frame,hH.size,hH.os,hH.tape,hH.output,hH.base.carry C hH.len (by simp),hH.glob⟩,fun t=>SVr.carry C _ _ (hf t),hN,hd⟩
 ·intro j o' hv' h1 h2;rcases hset j o' h1 with ⟨rfl,rfl⟩ | ⟨hj,h3⟩
  ·rw [he] at h2;obtain rfl:=Option.some.inj h2;exact⟨[hv],rfl,Tr.rd _ _ (gSg hob) (fun b hb=>.inr hb)⟩
  ·exact gF3.carry C (fun _ _ _=>rfl) (hH.objs j o' hv' h3 h2)
 ·intro j o' hv' b h1 hl h2 hb;rcases hset j o' h1 with ⟨rfl,rfl⟩ | ⟨hj,h3⟩
  ·cases hl
  ·have:=hH.excl j o' hv' b h3 hl h2 hb
   refine⟨fun hs=>hs.elim this.1 (fun hs=>hj (hH.dist j i o' _ hv' hv b h3 hL hl rfl h2 he hb (show(LO.own e z ver es).ft w hv b from hs))),this.2⟩
 ·intro j j' o1 o1' hv1 hv1' k h1 h2 hl1 hl2 e1 e2 b1 b2;rcases hset j o1 h1 with ⟨rfl,rfl⟩ | ⟨hj,h3⟩
  ·cases hl1
  ·rcases hset j' o1' h2 with ⟨rfl,rfl⟩ | ⟨hj',h3'⟩
   ·cases hl2
   ·exact hH.dist j j' o1 o1' hv1 hv1' k h3 h3' hl1 hl2 e1 e2 b1 b2
 ·intro b hb;rcases hb with hb | hb
  ·exact hH.sS b hb
  ·exact(hH.excl i _ hv b hL rfl he hb).2.2
 ·intro b hb;rcases hb with hb | hb
  ·exact hH.sA b hb
  ·exact .inr (hH.excl i _ hv b hL rfl he hb).2.1
theorem uH(i:Nat){e z ver:Nat}{es:List U}(hL:L[i]? =some (.own e z ver es))(hL':L.set i (.frz e z ver es)=L')(h:V P A c ⟨fr,L',N⟩ Q):V P A c ⟨fr,L,N⟩ Q:=by
 subst hL';exact fun a w hr=>h a w (hr.freezeO (σ:=⟨fr,L,N⟩) hL)
theorem gMg(i:Nat){e z ver:Nat}{es:List U}(hL:L[i]? =some (.own e z ver es))(hL':L.set i (.frz e z ver es)=L')(h:VO P A ops rest ⟨fr,L',N⟩ K):VO P A ops rest ⟨fr,L,N⟩ K:=by
 subst hL';exact fun R hR a w hr=>h R hR a w (hr.freezeO (σ:=⟨fr,L,N⟩) hL)
theorem gBx{α:Type}{e:α→U}{es:List α→List U}{z:Nat} [E:Enc α e es z]{l:List α}{z':Nat}(j:Nat)(h:l.length≤140737488355328→V P A c ⟨fr,L,N⟩ Q)(hb:look fr j=.d (.sl z' (es l)):=by rfl):V P A c ⟨fr,L,N⟩ Q:=by
 intro a w hr;refine h ?_ a w hr;obtain⟨S,env,hH,hf,hN,hd⟩:=hr
 have:=hf j
 simp only at this;rw [hb] at this
 have:=(SVr.slice.1 this).1
 rwa [Enc.len,wY] at this
theorem wN{α:Type}{e:α→U}{es:List α→List U}{z:Nat} [E:Enc α e es z]{l:List α}{z':Nat}{cs:List SV}(i j:Nat)(h:l.length≤140737488355328→V P A c ⟨fr,L,N⟩ Q)(hL:L[i]? =some (.box cs):=by rfl)(hb:cs[j]? =some (.d (.sl z' (es l))):=by rfl):V P A c ⟨fr,L,N⟩ Q:=by
 intro a w hr;refine h ?_ a w hr;obtain⟨S,env,hH,hf,hN,hd⟩:=hr;obtain⟨hv,he⟩:∃hv,env[i]? =some hv:=⟨_,List.getElem?_eq_getElem (by rw [hH.len];exact(List.getElem?_eq_some_iff.1 hL).1)⟩
 obtain⟨b,vals,e',r1,r2,r3,r4⟩:=hH.objs i _ hv hL he;obtain⟨v,v1,v2⟩:=kK.get r3 j _ hb
 have:=(SVr.slice.1 v2).1
 rwa [Enc.len,wY] at this
theorem hId{l:List UInt8}(j:Nat)(h:l.length≤140737488355328→V P A c ⟨fr,L,N⟩ Q)(hb:look fr j=.d (.s l):=by rfl):V P A c ⟨fr,L,N⟩ Q:=by
 intro a w hr;refine h ?_ a w hr;obtain⟨S,env,hH,hf,hN,hd⟩:=hr
 have:=hf j
 simp only at this;rw [hb] at this
 have:=(SVr.str.1 this).1
 rwa [wY] at this
theorem hUl{l:List UInt8}{cs:List SV}(i j:Nat)(h:l.length≤140737488355328→V P A c ⟨fr,L,N⟩ Q)(hL:L[i]? =some (.box cs):=by rfl)(hb:cs[j]? =some (.d (.s l)):=by rfl):V P A c ⟨fr,L,N⟩ Q:=by
 intro a w hr;refine h ?_ a w hr;obtain⟨S,env,hH,hf,hN,hd⟩:=hr;obtain⟨hv,he⟩:∃hv,env[i]? =some hv:=⟨_,List.getElem?_eq_getElem (by rw [hH.len];exact(List.getElem?_eq_some_iff.1 hL).1)⟩
 obtain⟨b,vals,e',r1,r2,r3,r4⟩:=hH.objs i _ hv hL he;obtain⟨v,v1,v2⟩:=kK.get r3 j _ hb
 have:=(SVr.str.1 v2).1
 rwa [wY] at this
end
theorem hEy{P:Program}{A:Amb}{ops:Array Oper}{K:St→Prop}{fr:List (Nat × SV)}{L:List LO}{N i t:Nat}{sv:SV}{op:Op}{ty:TypeId}{pos:String}{af:Array Edge}{r:List (Nat × Bool)}{pf:PF}(hi:ops[i]? =some ⟨some t,op,ty,pos,af,none⟩)(hq:QR P ⟨fr,L,N⟩ ⟨some t,op,ty,pos,af,none⟩ sv)(hv:VY P A ops K r ((i,L)::pf) ⟨(t,sv)::fr,L,N⟩)(ht:Nat.blt t N=true:=by rfl) :
  VY P A ops K ((i,true)::r) pf ⟨fr,L,N⟩:=jCq hq hv hi ht
theorem goY {X Y:Prop} (hy:Y) (h:Y→X:=by
  intro hy
  repeat(first | refine hEy rfl gLn ?_ | refine hEy rfl gLo ?_ | refine hYo rfl ?_ (by(repeat constructor);first | done | fail) | refine hSy rfl (by repeat constructor) (by repeat(first | exact vV.nil | (apply vV.keep;focus ((repeat constructor);done)) | (apply vV.dep;focus kernel_rfl))) ?_)
  exact hy):X:=h hy
end Go.Eng
namespace Go.Proofs.YtegahmhnmjnhhaaGreat
open Go Go.Eng
instance ti3:TI Tryz.prog 3 false 1 8:=⟨by kernel_rfl⟩
instance tz3:TZ Tryz.prog 3 [.int .i64 0]:=⟨by kernel_rfl⟩
instance ti4:TI Tryz.prog 4 false 1 1:=⟨by kernel_rfl⟩
instance tb4:TB Tryz.prog 4:=⟨by kernel_rfl⟩
instance ti5:TI Tryz.prog 5 false 1 1:=⟨by kernel_rfl⟩
instance tz5:TZ Tryz.prog 5 [.int .u8 0]:=⟨by kernel_rfl⟩
instance ti9:TI Tryz.prog 9 false 1 16:=⟨by kernel_rfl⟩
instance jGs:TS Tryz.prog 9:=⟨by kernel_rfl⟩
instance tz9:TZ Tryz.prog 9 [.string ⟨#[]⟩]:=⟨by kernel_rfl⟩
instance jGt:TI Tryz.prog 22 false 1 24:=⟨by kernel_rfl⟩
instance jGu:TE Tryz.prog 22 5:=⟨by kernel_rfl⟩
instance jGv:TI Tryz.prog 24 false 1 24:=⟨by kernel_rfl⟩
instance jGw:TE Tryz.prog 24 110:=⟨by kernel_rfl⟩
instance jGx:TI Tryz.prog 26 true 1 24:=⟨by kernel_rfl⟩
instance jCw:TF Tryz.prog 26 0 0:=⟨by kernel_rfl⟩
instance jEi:TBd Tryz.prog 26:=⟨by kernel_rfl⟩
instance jGy:TZ Tryz.prog 26 [.slice none 0 0]:=⟨by kernel_rfl⟩
instance jGz:TI Tryz.prog 27 false 1 24:=⟨by kernel_rfl⟩
instance jG0:TE Tryz.prog 27 73:=⟨by kernel_rfl⟩
instance jG1:TI Tryz.prog 28 false 1 24:=⟨by kernel_rfl⟩
instance jG2:TE Tryz.prog 28 101:=⟨by kernel_rfl⟩
instance jG3:TI Tryz.prog 29 false 1 24:=⟨by kernel_rfl⟩
instance jG4:TE Tryz.prog 29 79:=⟨by kernel_rfl⟩
instance jG5:TI Tryz.prog 30 false 1 24:=⟨by kernel_rfl⟩
instance jG6:TE Tryz.prog 30 81:=⟨by kernel_rfl⟩
instance jG7:TI Tryz.prog 32 true 8 112:=⟨by kernel_rfl⟩
instance jCx:TF Tryz.prog 32 2 2:=⟨by kernel_rfl⟩
instance jCy:TF Tryz.prog 32 3 3:=⟨by kernel_rfl⟩
instance jCz:TF Tryz.prog 32 4 4:=⟨by kernel_rfl⟩
instance jC0:TF Tryz.prog 32 5 5:=⟨by kernel_rfl⟩
instance jC1:TF Tryz.prog 32 6 6:=⟨by kernel_rfl⟩
instance jC2:TF Tryz.prog 32 7 7:=⟨by kernel_rfl⟩
instance jEj:TBd Tryz.prog 32:=⟨by kernel_rfl⟩
instance hYu:TFS Tryz.prog 32 0 0 1:=⟨by kernel_rfl⟩
instance hYv:TFS Tryz.prog 32 2 2 1:=⟨by kernel_rfl⟩
instance jG8:TZ Tryz.prog 32 [.int .i64 0,.int .i64 0,.int .i64 0,.slice none 0 0,.slice none 0 0,.slice none 0 0,.int .i64 0,.int .i64 0]:=⟨by kernel_rfl⟩
instance jG9:TI Tryz.prog 33 false 1 24:=⟨by kernel_rfl⟩
instance jHa:TE Tryz.prog 33 35:=⟨by kernel_rfl⟩
instance jHb:TI Tryz.prog 35 true 3 48:=⟨by kernel_rfl⟩
instance jC3:TF Tryz.prog 35 0 0:=⟨by kernel_rfl⟩
instance jC4:TF Tryz.prog 35 1 1:=⟨by kernel_rfl⟩
instance jC5:TF Tryz.prog 35 2 2:=⟨by kernel_rfl⟩
instance jEk:TBd Tryz.prog 35:=⟨by kernel_rfl⟩
instance hYw:TFS Tryz.prog 35 0 0 1:=⟨by kernel_rfl⟩
instance hYx:TFS Tryz.prog 35 1 1 1:=⟨by kernel_rfl⟩
instance hYy:TFS Tryz.prog 35 2 2 1:=⟨by kernel_rfl⟩
instance jHc:TZ Tryz.prog 35 [.int .i64 0,.string ⟨#[]⟩,.slice none 0 0]:=⟨by kernel_rfl⟩
instance jHd:TI Tryz.prog 57 false 1 24:=⟨by kernel_rfl⟩
instance jHe:TE Tryz.prog 57 9:=⟨by kernel_rfl⟩
instance jHf:TZ Tryz.prog 57 [.slice none 0 0]:=⟨by kernel_rfl⟩
instance jC6:TF Tryz.prog 66 0 0:=⟨by kernel_rfl⟩
instance jC7:TF Tryz.prog 66 1 1:=⟨by kernel_rfl⟩
instance jC8:TF Tryz.prog 66 2 2:=⟨by kernel_rfl⟩
instance jEl:TBd Tryz.prog 66:=⟨by kernel_rfl⟩
instance hYz:TFS Tryz.prog 66 0 0 1:=⟨by kernel_rfl⟩
instance hY1:TFS Tryz.prog 66 2 2 1:=⟨by kernel_rfl⟩
instance jHg:TZ Tryz.prog 66 [.slice none 0 0,.int .i64 0,.int .i64 0]:=⟨by kernel_rfl⟩
instance jHh:TI Tryz.prog 73 true 4 64:=⟨by kernel_rfl⟩
instance jC9:TF Tryz.prog 73 0 0:=⟨by kernel_rfl⟩
instance jDa:TF Tryz.prog 73 1 1:=⟨by kernel_rfl⟩
instance jEm:TBd Tryz.prog 73:=⟨by kernel_rfl⟩
instance hY3:TFS Tryz.prog 73 0 0 1:=⟨by kernel_rfl⟩
instance hY4:TFS Tryz.prog 73 1 1 3:=⟨by kernel_rfl⟩
instance jHi:TZ Tryz.prog 73 [.string ⟨#[]⟩,.int .i64 0,.string ⟨#[]⟩,.slice none 0 0]:=⟨by kernel_rfl⟩
instance jHj:TI Tryz.prog 79 true 7 104:=⟨by kernel_rfl⟩
instance jDb:TF Tryz.prog 79 0 0:=⟨by kernel_rfl⟩
instance jDc:TF Tryz.prog 79 1 3:=⟨by kernel_rfl⟩
instance jDd:TF Tryz.prog 79 2 6:=⟨by kernel_rfl⟩
instance jEn:TBd Tryz.prog 79:=⟨by kernel_rfl⟩
instance hY5:TFS Tryz.prog 79 0 0 3:=⟨by kernel_rfl⟩
instance hY6:TFS Tryz.prog 79 1 3 3:=⟨by kernel_rfl⟩
instance hY7:TFS Tryz.prog 79 2 6 1:=⟨by kernel_rfl⟩
instance jHk:TZ Tryz.prog 79 [.int .i64 0,.string ⟨#[]⟩,.slice none 0 0,.int .i64 0,.string ⟨#[]⟩,.slice none 0 0,.int .i64 0]:=⟨by kernel_rfl⟩
instance jHl:TI Tryz.prog 81 true 5 72:=⟨by kernel_rfl⟩
instance jDe:TF Tryz.prog 81 0 0:=⟨by kernel_rfl⟩
instance jDf:TF Tryz.prog 81 1 4:=⟨by kernel_rfl⟩
instance jEo:TBd Tryz.prog 81:=⟨by kernel_rfl⟩
instance hY8:TFS Tryz.prog 81 0 0 4:=⟨by kernel_rfl⟩
instance hY9:TFS Tryz.prog 81 1 4 1:=⟨by kernel_rfl⟩
instance jHm:TZ Tryz.prog 81 [.string ⟨#[]⟩,.int .i64 0,.string ⟨#[]⟩,.slice none 0 0,.int .i64 0]:=⟨by kernel_rfl⟩
instance jHn:TI Tryz.prog 82 false 1 8:=⟨by kernel_rfl⟩
instance jHo:TI Tryz.prog 88 false 1 24:=⟨by kernel_rfl⟩
instance jHp:TE Tryz.prog 88 121:=⟨by kernel_rfl⟩
instance jDg:TF Tryz.prog 91 0 0:=⟨by kernel_rfl⟩
instance jDh:TF Tryz.prog 91 1 1:=⟨by kernel_rfl⟩
instance jEp:TBd Tryz.prog 91:=⟨by kernel_rfl⟩
instance hZa:TFS Tryz.prog 91 0 0 1:=⟨by kernel_rfl⟩
instance hZb:TFS Tryz.prog 91 1 1 1:=⟨by kernel_rfl⟩
instance jHq:TZ Tryz.prog 91 [.slice none 0 0,.slice none 0 0]:=⟨by kernel_rfl⟩
instance jEq:TI Tryz.prog 101 true 4 64:=⟨by kernel_rfl⟩
instance hZc:TF Tryz.prog 101 0 0:=⟨by kernel_rfl⟩
instance hZd:TF Tryz.prog 101 1 1:=⟨by kernel_rfl⟩
instance jDi:TBd Tryz.prog 101:=⟨by kernel_rfl⟩
instance hV4:TFS Tryz.prog 101 0 0 1:=⟨by kernel_rfl⟩
instance hV5:TFS Tryz.prog 101 1 1 3:=⟨by kernel_rfl⟩
instance jEr:TZ Tryz.prog 101 [.string ⟨#[]⟩,.int .i64 0,.string ⟨#[]⟩,.slice none 0 0]:=⟨by kernel_rfl⟩
instance jEs:TI Tryz.prog 105 false 1 24:=⟨by kernel_rfl⟩
instance jEt:TE Tryz.prog 105 173:=⟨by kernel_rfl⟩
instance jEu:TI Tryz.prog 106 false 1 24:=⟨by kernel_rfl⟩
instance jEv:TE Tryz.prog 106 195:=⟨by kernel_rfl⟩
instance jEw:TI Tryz.prog 107 false 1 24:=⟨by kernel_rfl⟩
instance jEx:TE Tryz.prog 107 181:=⟨by kernel_rfl⟩
instance jEy:TI Tryz.prog 108 false 1 24:=⟨by kernel_rfl⟩
instance jEz:TE Tryz.prog 108 205:=⟨by kernel_rfl⟩
instance jE0:TI Tryz.prog 110 true 6 136:=⟨by kernel_rfl⟩
instance hZe:TF Tryz.prog 110 0 0:=⟨by kernel_rfl⟩
instance hZf:TF Tryz.prog 110 1 1:=⟨by kernel_rfl⟩
instance hZg:TF Tryz.prog 110 2 2:=⟨by kernel_rfl⟩
instance hZh:TF Tryz.prog 110 3 3:=⟨by kernel_rfl⟩
instance hZi:TF Tryz.prog 110 4 4:=⟨by kernel_rfl⟩
instance hZj:TF Tryz.prog 110 5 5:=⟨by kernel_rfl⟩
instance jDj:TBd Tryz.prog 110:=⟨by kernel_rfl⟩
instance hV6:TFS Tryz.prog 110 0 0 1:=⟨by kernel_rfl⟩
instance hV7:TFS Tryz.prog 110 1 1 1:=⟨by kernel_rfl⟩
instance jE1:TZ Tryz.prog 110 [.string ⟨#[]⟩,.slice none 0 0,.slice none 0 0,.slice none 0 0,.slice none 0 0,.slice none 0 0]:=⟨by kernel_rfl⟩
instance jE2:TI Tryz.prog 119 false 1 24:=⟨by kernel_rfl⟩
instance jE3:TE Tryz.prog 119 3:=⟨by kernel_rfl⟩
instance jE4:TI Tryz.prog 121 true 6 96:=⟨by kernel_rfl⟩
instance hZk:TF Tryz.prog 121 0 0:=⟨by kernel_rfl⟩
instance hZl:TF Tryz.prog 121 1 4:=⟨by kernel_rfl⟩
instance hZm:TF Tryz.prog 121 2 5:=⟨by kernel_rfl⟩
instance jDk:TBd Tryz.prog 121:=⟨by kernel_rfl⟩
instance hV8:TFS Tryz.prog 121 0 0 4:=⟨by kernel_rfl⟩
instance hV9:TFS Tryz.prog 121 1 4 1:=⟨by kernel_rfl⟩
instance hWb:TFS Tryz.prog 121 2 5 1:=⟨by kernel_rfl⟩
instance jE5:TZ Tryz.prog 121 [.string ⟨#[]⟩,.int .i64 0,.string ⟨#[]⟩,.slice none 0 0,.int .i64 0,.slice none 0 0]:=⟨by kernel_rfl⟩
instance jE6:TI Tryz.prog 133 false 1 24:=⟨by kernel_rfl⟩
instance jE7:TE Tryz.prog 133 135:=⟨by kernel_rfl⟩
instance jE8:TI Tryz.prog 135 true 2 40:=⟨by kernel_rfl⟩
instance hZn:TF Tryz.prog 135 0 0:=⟨by kernel_rfl⟩
instance hZo:TF Tryz.prog 135 1 1:=⟨by kernel_rfl⟩
instance jDl:TBd Tryz.prog 135:=⟨by kernel_rfl⟩
instance hWe:TFS Tryz.prog 135 0 0 1:=⟨by kernel_rfl⟩
instance hWg:TFS Tryz.prog 135 1 1 1:=⟨by kernel_rfl⟩
instance jE9:TZ Tryz.prog 135 [.string ⟨#[]⟩,.slice none 0 0]:=⟨by kernel_rfl⟩
instance jFa:TI Tryz.prog 144 true 2 16:=⟨by kernel_rfl⟩
instance hZp:TF Tryz.prog 144 0 0:=⟨by kernel_rfl⟩
instance hZq:TF Tryz.prog 144 1 1:=⟨by kernel_rfl⟩
instance jDm:TBd Tryz.prog 144:=⟨by kernel_rfl⟩
instance hWi:TFS Tryz.prog 144 0 0 1:=⟨by kernel_rfl⟩
instance hWk:TFS Tryz.prog 144 1 1 1:=⟨by kernel_rfl⟩
instance jFb:TZ Tryz.prog 144 [.int .i64 0,.int .i64 0]:=⟨by kernel_rfl⟩
instance jFc:TI Tryz.prog 145 false 1 24:=⟨by kernel_rfl⟩
instance jFd:TE Tryz.prog 145 147:=⟨by kernel_rfl⟩
instance jFe:TI Tryz.prog 147 true 5 56:=⟨by kernel_rfl⟩
instance hZr:TF Tryz.prog 147 0 0:=⟨by kernel_rfl⟩
instance hZt:TF Tryz.prog 147 2 2:=⟨by kernel_rfl⟩
instance hZu:TF Tryz.prog 147 3 4:=⟨by kernel_rfl⟩
instance jDn:TBd Tryz.prog 147:=⟨by kernel_rfl⟩
instance hWl:TFS Tryz.prog 147 0 0 1:=⟨by kernel_rfl⟩
instance hWm:TFS Tryz.prog 147 1 1 1:=⟨by kernel_rfl⟩
instance hWn:TFS Tryz.prog 147 2 2 2:=⟨by kernel_rfl⟩
instance hWo:TFS Tryz.prog 147 3 4 1:=⟨by kernel_rfl⟩
instance jFf:TZ Tryz.prog 147 [.int .i64 0,.int .i64 0,.int .i64 0,.int .i64 0,.slice none 0 0]:=⟨by kernel_rfl⟩
instance hZv:TF Tryz.prog 159 0 0:=⟨by kernel_rfl⟩
instance hZw:TF Tryz.prog 159 1 1:=⟨by kernel_rfl⟩
instance hZx:TF Tryz.prog 159 2 2:=⟨by kernel_rfl⟩
instance hZy:TF Tryz.prog 159 3 3:=⟨by kernel_rfl⟩
instance hZz:TF Tryz.prog 159 4 4:=⟨by kernel_rfl⟩
instance jDo:TBd Tryz.prog 159:=⟨by kernel_rfl⟩
instance hWp:TFS Tryz.prog 159 0 0 1:=⟨by kernel_rfl⟩
instance jFg:TZ Tryz.prog 159 [.string ⟨#[]⟩,.int .i64 0,.int .i64 0,.int .i64 0,.bool false]:=⟨by kernel_rfl⟩
instance jFh:TI Tryz.prog 171 false 1 24:=⟨by kernel_rfl⟩
instance jFi:TE Tryz.prog 171 235:=⟨by kernel_rfl⟩
instance jFj:TI Tryz.prog 173 true 5 72:=⟨by kernel_rfl⟩
instance hZ0:TF Tryz.prog 173 0 0:=⟨by kernel_rfl⟩
instance hZ4:TF Tryz.prog 173 1 1:=⟨by kernel_rfl⟩
instance hZ5:TF Tryz.prog 173 2 2:=⟨by kernel_rfl⟩
instance hZ6:TF Tryz.prog 173 3 3:=⟨by kernel_rfl⟩
instance hZ7:TF Tryz.prog 173 4 4:=⟨by kernel_rfl⟩
instance jDp:TBd Tryz.prog 173:=⟨by kernel_rfl⟩
instance hWq:TFS Tryz.prog 173 0 0 1:=⟨by kernel_rfl⟩
instance hWr:TFS Tryz.prog 173 1 1 1:=⟨by kernel_rfl⟩
instance hWt:TFS Tryz.prog 173 2 2 1:=⟨by kernel_rfl⟩
instance hWu:TFS Tryz.prog 173 3 3 1:=⟨by kernel_rfl⟩
instance jFk:TZ Tryz.prog 173 [.string ⟨#[]⟩,.slice none 0 0,.bool false,.bool false,.slice none 0 0]:=⟨by kernel_rfl⟩
instance jFl:TI Tryz.prog 179 false 1 24:=⟨by kernel_rfl⟩
instance jFm:TE Tryz.prog 179 242:=⟨by kernel_rfl⟩
instance jFn:TI Tryz.prog 181 true 12 192:=⟨by kernel_rfl⟩
instance hZ8:TF Tryz.prog 181 0 0:=⟨by kernel_rfl⟩
instance hZ9:TF Tryz.prog 181 1 1:=⟨by kernel_rfl⟩
instance jAa:TF Tryz.prog 181 2 2:=⟨by kernel_rfl⟩
instance jAb:TF Tryz.prog 181 3 5:=⟨by kernel_rfl⟩
instance jAc:TF Tryz.prog 181 4 6:=⟨by kernel_rfl⟩
instance jAd:TF Tryz.prog 181 5 7:=⟨by kernel_rfl⟩
instance jAe:TF Tryz.prog 181 6 8:=⟨by kernel_rfl⟩
instance jAf:TF Tryz.prog 181 7 11:=⟨by kernel_rfl⟩
instance jDq:TBd Tryz.prog 181:=⟨by kernel_rfl⟩
instance hWv:TFS Tryz.prog 181 0 0 1:=⟨by kernel_rfl⟩
instance hWx:TFS Tryz.prog 181 1 1 1:=⟨by kernel_rfl⟩
instance hWy:TFS Tryz.prog 181 2 2 3:=⟨by kernel_rfl⟩
instance hWz:TFS Tryz.prog 181 3 5 1:=⟨by kernel_rfl⟩
instance hW4:TFS Tryz.prog 181 4 6 1:=⟨by kernel_rfl⟩
instance jFo:TZ Tryz.prog 181 [.string ⟨#[]⟩,.slice none 0 0,.int .i64 0,.string ⟨#[]⟩,.slice none 0 0,.slice none 0 0,.bool false,.bool false,.int .i64 0,.string ⟨#[]⟩,.slice none 0 0,.slice none 0 0]:=⟨by kernel_rfl⟩
instance jFp:TI Tryz.prog 193 false 1 24:=⟨by kernel_rfl⟩
instance jFq:TE Tryz.prog 193 221:=⟨by kernel_rfl⟩
instance jFr:TI Tryz.prog 195 true 3 64:=⟨by kernel_rfl⟩
instance jAg:TF Tryz.prog 195 0 0:=⟨by kernel_rfl⟩
instance jAh:TF Tryz.prog 195 1 1:=⟨by kernel_rfl⟩
instance jAi:TF Tryz.prog 195 2 2:=⟨by kernel_rfl⟩
instance jDr:TBd Tryz.prog 195:=⟨by kernel_rfl⟩
instance hW5:TFS Tryz.prog 195 0 0 1:=⟨by kernel_rfl⟩
instance hW6:TFS Tryz.prog 195 1 1 1:=⟨by kernel_rfl⟩
instance jFs:TZ Tryz.prog 195 [.string ⟨#[]⟩,.slice none 0 0,.slice none 0 0]:=⟨by kernel_rfl⟩
instance jFt:TI Tryz.prog 199 false 1 24:=⟨by kernel_rfl⟩
instance jFu:TE Tryz.prog 199 245:=⟨by kernel_rfl⟩
instance jFv:TI Tryz.prog 200 false 1 24:=⟨by kernel_rfl⟩
instance jFw:TE Tryz.prog 200 203:=⟨by kernel_rfl⟩
instance jFx:TI Tryz.prog 201 false 1 24:=⟨by kernel_rfl⟩
instance jFy:TE Tryz.prog 201 266:=⟨by kernel_rfl⟩
instance jFz:TI Tryz.prog 203 true 9 144:=⟨by kernel_rfl⟩
instance jAj:TF Tryz.prog 203 0 0:=⟨by kernel_rfl⟩
instance jAk:TF Tryz.prog 203 1 1:=⟨by kernel_rfl⟩
instance jAl:TF Tryz.prog 203 2 2:=⟨by kernel_rfl⟩
instance jAm:TF Tryz.prog 203 3 3:=⟨by kernel_rfl⟩
instance jAn:TF Tryz.prog 203 4 4:=⟨by kernel_rfl⟩
instance jAo:TF Tryz.prog 203 5 7:=⟨by kernel_rfl⟩
instance jAp:TF Tryz.prog 203 6 8:=⟨by kernel_rfl⟩
instance jDs:TBd Tryz.prog 203:=⟨by kernel_rfl⟩
instance hW7:TFS Tryz.prog 203 0 0 1:=⟨by kernel_rfl⟩
instance hW8:TFS Tryz.prog 203 1 1 1:=⟨by kernel_rfl⟩
instance hW9:TFS Tryz.prog 203 2 2 1:=⟨by kernel_rfl⟩
instance hXa:TFS Tryz.prog 203 3 3 1:=⟨by kernel_rfl⟩
instance hXb:TFS Tryz.prog 203 4 4 3:=⟨by kernel_rfl⟩
instance hXc:TFS Tryz.prog 203 5 7 1:=⟨by kernel_rfl⟩
instance jF0:TZ Tryz.prog 203 [.int .i64 0,.string ⟨#[]⟩,.string ⟨#[]⟩,.int .i64 0,.int .i64 0,.string ⟨#[]⟩,.slice none 0 0,.slice none 0 0,.slice none 0 0]:=⟨by kernel_rfl⟩
instance jF1:TI Tryz.prog 205 true 16 280:=⟨by kernel_rfl⟩
instance jAq:TF Tryz.prog 205 0 0:=⟨by kernel_rfl⟩
instance jAr:TF Tryz.prog 205 1 1:=⟨by kernel_rfl⟩
instance jAs:TF Tryz.prog 205 2 2:=⟨by kernel_rfl⟩
instance jAt:TF Tryz.prog 205 3 3:=⟨by kernel_rfl⟩
instance jAu:TF Tryz.prog 205 4 4:=⟨by kernel_rfl⟩
instance jAv:TF Tryz.prog 205 5 7:=⟨by kernel_rfl⟩
instance jDt:TBd Tryz.prog 205:=⟨by kernel_rfl⟩
instance hXd:TFS Tryz.prog 205 0 0 1:=⟨by kernel_rfl⟩
instance hXe:TFS Tryz.prog 205 1 1 1:=⟨by kernel_rfl⟩
instance hXf:TFS Tryz.prog 205 2 2 1:=⟨by kernel_rfl⟩
instance hXg:TFS Tryz.prog 205 4 4 3:=⟨by kernel_rfl⟩
instance hXh:TFS Tryz.prog 205 5 7 9:=⟨by kernel_rfl⟩
instance jF2:TZ Tryz.prog 205 [.string ⟨#[]⟩,.slice none 0 0,.slice none 0 0,.slice none 0 0,.int .i64 0,.string ⟨#[]⟩,.slice none 0 0,.int .i64 0,.string ⟨#[]⟩,.string ⟨#[]⟩,.int .i64 0,.int .i64 0,.string ⟨#[]⟩,.slice none 0 0,.slice none 0 0,.slice none 0 0]:=⟨by kernel_rfl⟩
instance jF3:TI Tryz.prog 221 true 2 40:=⟨by kernel_rfl⟩
instance jAw:TF Tryz.prog 221 0 0:=⟨by kernel_rfl⟩
instance jAx:TF Tryz.prog 221 1 1:=⟨by kernel_rfl⟩
instance jDu:TBd Tryz.prog 221:=⟨by kernel_rfl⟩
instance hXi:TFS Tryz.prog 221 0 0 1:=⟨by kernel_rfl⟩
instance hXj:TFS Tryz.prog 221 1 1 1:=⟨by kernel_rfl⟩
instance jF4:TZ Tryz.prog 221 [.string ⟨#[]⟩,.slice none 0 0]:=⟨by kernel_rfl⟩
instance jF5:TE Tryz.prog 222 144:=⟨by kernel_rfl⟩
instance jF6:TI Tryz.prog 235 true 16 264:=⟨by kernel_rfl⟩
instance jAy:TF Tryz.prog 235 0 0:=⟨by kernel_rfl⟩
instance jAz:TF Tryz.prog 235 1 1:=⟨by kernel_rfl⟩
instance jA0:TF Tryz.prog 235 2 2:=⟨by kernel_rfl⟩
instance jA1:TF Tryz.prog 235 3 5:=⟨by kernel_rfl⟩
instance jA2:TF Tryz.prog 235 4 6:=⟨by kernel_rfl⟩
instance jA3:TF Tryz.prog 235 5 7:=⟨by kernel_rfl⟩
instance jDv:TBd Tryz.prog 235:=⟨by kernel_rfl⟩
instance hXk:TFS Tryz.prog 235 0 0 1:=⟨by kernel_rfl⟩
instance hXl:TFS Tryz.prog 235 1 1 1:=⟨by kernel_rfl⟩
instance hXm:TFS Tryz.prog 235 2 2 3:=⟨by kernel_rfl⟩
instance jF7:TZ Tryz.prog 235 [.string ⟨#[]⟩,.slice none 0 0,.int .i64 0,.string ⟨#[]⟩,.slice none 0 0,.bool false,.slice none 0 0,.int .i64 0,.string ⟨#[]⟩,.string ⟨#[]⟩,.int .i64 0,.int .i64 0,.string ⟨#[]⟩,.slice none 0 0,.slice none 0 0,.slice none 0 0]:=⟨by kernel_rfl⟩
instance jF8:TI Tryz.prog 242 true 11 184:=⟨by kernel_rfl⟩
instance jA4:TF Tryz.prog 242 0 0:=⟨by kernel_rfl⟩
instance jA5:TF Tryz.prog 242 1 1:=⟨by kernel_rfl⟩
instance jA6:TF Tryz.prog 242 2 2:=⟨by kernel_rfl⟩
instance jDw:TBd Tryz.prog 242:=⟨by kernel_rfl⟩
instance hXn:TFS Tryz.prog 242 0 0 1:=⟨by kernel_rfl⟩
instance hXo:TFS Tryz.prog 242 1 1 1:=⟨by kernel_rfl⟩
instance hXp:TFS Tryz.prog 242 2 2 9:=⟨by kernel_rfl⟩
instance jF9:TZ Tryz.prog 242 [.string ⟨#[]⟩,.slice none 0 0,.int .i64 0,.string ⟨#[]⟩,.string ⟨#[]⟩,.int .i64 0,.int .i64 0,.string ⟨#[]⟩,.slice none 0 0,.slice none 0 0,.slice none 0 0]:=⟨by kernel_rfl⟩
instance jGa:TI Tryz.prog 245 true 4 64:=⟨by kernel_rfl⟩
instance jA7:TF Tryz.prog 245 0 0:=⟨by kernel_rfl⟩
instance jA8:TF Tryz.prog 245 1 1:=⟨by kernel_rfl⟩
instance jDx:TBd Tryz.prog 245:=⟨by kernel_rfl⟩
instance hXq:TFS Tryz.prog 245 0 0 1:=⟨by kernel_rfl⟩
instance hXr:TFS Tryz.prog 245 1 1 3:=⟨by kernel_rfl⟩
instance jGb:TZ Tryz.prog 245 [.string ⟨#[]⟩,.int .i64 0,.string ⟨#[]⟩,.slice none 0 0]:=⟨by kernel_rfl⟩
instance jGc:TI Tryz.prog 266 true 11 184:=⟨by kernel_rfl⟩
instance jA9:TF Tryz.prog 266 0 0:=⟨by kernel_rfl⟩
instance jBa:TF Tryz.prog 266 1 1:=⟨by kernel_rfl⟩
instance jBb:TF Tryz.prog 266 2 2:=⟨by kernel_rfl⟩
instance jDy:TBd Tryz.prog 266:=⟨by kernel_rfl⟩
instance hXs:TFS Tryz.prog 266 0 0 1:=⟨by kernel_rfl⟩
instance hXt:TFS Tryz.prog 266 1 1 1:=⟨by kernel_rfl⟩
instance hXu:TFS Tryz.prog 266 2 2 9:=⟨by kernel_rfl⟩
instance jGd:TZ Tryz.prog 266 [.string ⟨#[]⟩,.slice none 0 0,.int .i64 0,.string ⟨#[]⟩,.string ⟨#[]⟩,.int .i64 0,.int .i64 0,.string ⟨#[]⟩,.slice none 0 0,.slice none 0 0,.slice none 0 0]:=⟨by kernel_rfl⟩
theorem jGe:Tryz.prog.follows .mixedOrders=true:=by kernel_rfl
instance:Mix Tryz.prog:=⟨jGe⟩
end Go.Proofs.YtegahmhnmjnhhaaGreat
namespace Go.Eng
open Go Go.RowKit
end Go.Eng
