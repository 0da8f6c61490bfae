import Derived.Test.YtfpdlnkkcnmebaaGreatEng36
import Derived.Test.YtfpdlnkkcnmebaaGreatProg
set_option linter.unusedVariables false
set_option linter.unusedSimpArgs false
namespace Go.Eng
open Go Go.RowKit
section
variable {P:Program}{A:Amb}{ops:Array Oper}{K:St→Prop}{Q:Exit→St→Prop}{rest:List Oper}{σ:St}{fr:List (Nat × SV)}{L L1 L':List LO}{N i t:Nat}{sv:SV}{o:Oper}{c:Code}
variable {ty T:TypeId}{pos:String}{af:Array Edge}{x y:Operand}{g:Option (Nat × Bool)}{dst:Option Nat}{op:Op}
theorem gLc{α:Type}{e:α→U}{es:List α→List U}{z z':Nat}[E:Enc α e es z]{el:TypeId} [TE P T el]{T':TypeId}{l:List α}(hx:σ.ev x=.d (.sl z' (es l)):=by rfl):QR P σ ⟨dst,.call { callee:=.builtin .len,args:=#[x],argTypes:=#[T] },T',pos,af,g⟩ (.d (.i .i64 (l.length:Int))):=
 fun A fr' L' he _=>by
  rw [←Enc.len (es:=es) l];exact hMw (by rw [he x (by simp [Op.operands,Call.operands])];exact hx) TE.h
theorem gY7{α:Type}{e:α→U}{es:List α→List U}{z z':Nat}[E:Enc α e es z]{el:TypeId} [TE P T el]{T':TypeId}{l:List α}{i ver e':Nat}(hx:σ.ev x=.sl i ver:=by rfl)(hL:σ.L[i]? =some (.own e' z' ver (es l)):=by rfl):Quiet P A σ ⟨dst,.call { callee:=.builtin .len,args:=#[x],argTypes:=#[T] },T',pos,af,g⟩ (.d (.i .i64 (l.length:Int))):=by
 rw [←Enc.len (es:=es) l];exact gVu hx hL .own TE.h
theorem gLd{i off:Nat}(hx:σ.ev x=.ptr i off:=by rfl):QR P σ ⟨dst,.nilCheck x,ty,pos,af,g⟩ (.ptr i off):=fun A fr' L' he _=>Quiet.pure fun S env a w hH ho=>by
 have h1:=ho x (by simp [Op.operands]);rw [he x (by simp [Op.operands]),hx] at h1;refine⟨a.eval x,?_,h1⟩;simp only [SVr] at h1;obtain⟨b,_,hv⟩:=h1;simp [execOp,hv]
theorem hO1{j tj:Nat}{want x:Bool}{o':Oper}(h:VO P A ops rest ⟨(t,.tup [])::fr,L,N⟩ K)(hj:ops[j]? =some o':=by rfl)(hdst:o'.dst=some tj:=by rfl)(htj:Nat.blt tj N=true:=by rfl)(hb:look fr tj=.d (.b x):=by rfl)(hx:(x==want)=false:=by rfl)(ht:Nat.blt t N=true:=by rfl) :
  VO P A ops (⟨some t,op,ty,pos,af,some (j,want)⟩::rest) ⟨fr,L,N⟩ K:=by
 intro R hR a w ⟨S,env,hH,hf,hN,hd⟩;have h1:=h R hR (a.put (some t) undef) w (uU hf hN hd ht hH Carry.refl (by simp only [SVr];exact⟨[],rfl,by simp [kP]⟩));have h2:=hf tj;rw [hb] at h2;have h3:=SVr.bool.1 h2;have ht':tj < a.tmps.size:=by rw [hN];simpa [Nat.blt_eq] using htj
 have hy:yielded ops a.tmps j=some x:=by
  simp only [yielded,hj,hdst,Option.bind_some]
  have:a.tmps[tj]? =some (.bool x):=by
   rw [Array.getD_eq_getD_getElem?,Array.getElem?_eq_getElem ht'] at h3;rw [Array.getElem?_eq_getElem ht'];have h3':a.tmps[tj]=.bool x:=by simpa using h3
   rw [h3']
  rw [this]
 unfold wpList;simp only [Region.wanted,hy];have hne:(some x==some want)=false:=by simpa using hx
 rw [hne];exact h1
theorem hO5{j tj:Nat}{want:Bool}{o':Oper}(h:VO P A ops rest ⟨(t,.tup [])::fr,L,N⟩ K)(hj:ops[j]? =some o':=by rfl)(hdst:o'.dst=some tj:=by rfl)(htj:Nat.blt tj N=true:=by rfl)(hb:look fr tj=.tup []:=by rfl)(ht:Nat.blt t N=true:=by rfl) :
  VO P A ops (⟨some t,op,ty,pos,af,some (j,want)⟩::rest) ⟨fr,L,N⟩ K:=by
 intro R hR a w ⟨S,env,hH,hf,hN,hd⟩;have h1:=h R hR (a.put (some t) undef) w (uU hf hN hd ht hH Carry.refl (by simp only [SVr];exact⟨[],rfl,by simp [kP]⟩));have h2:=hf tj;rw [hb] at h2;simp only [SVr] at h2;obtain⟨vs,h3,h4⟩:=h2;have hvs:vs=[]:=by cases vs with
  | nil=>rfl
  | cons _ _=>simp [kP] at h4
 subst hvs;have ht':tj < a.tmps.size:=by rw [hN];simpa [Nat.blt_eq] using htj
 have hy:yielded ops a.tmps j=none:=by
  simp only [yielded,hj,hdst,Option.bind_some]
  have:a.tmps[tj]? =some (.tuple #[]):=by
   rw [Array.getD_eq_getD_getElem?,Array.getElem?_eq_getElem ht'] at h3;rw [Array.getElem?_eq_getElem ht'];have h3':a.tmps[tj]=.tuple #[]:=by simpa using h3
   rw [h3']
  rw [this]
 unfold wpList;simp only [Region.wanted,hy];have hne:((none:Option Bool)==some want)=false:=by rfl
 rw [hne];exact h1
def gOr(L:List LO)(ρ:Nat→Nat):Nat→List LO→Prop
 | _,[]=>True
 | m,o::os=>L[ρ m]? =some (o.ren ρ)∧gOr L ρ (m+1) os
theorem gNv{L:List LO}{ρ:Nat→Nat}:∀{Lc:List LO}{n:Nat},gOr L ρ n Lc→∀(m:Nat)(o:LO),Lc[m]? =some o→L[ρ (n+m)]? =some (o.ren ρ)
 | [],_,_,m,o,h=>by simp at h
 | o0::os,n,hp,0,o,h=>by simp at h;subst h;exact hp.1
 | o0::os,n,hp,m+1,o,h=>by
   have:=gNv hp.2 m o (by simpa using h)
   rwa [show n+1+m=n+(m+1) by omega] at this
theorem gBz {f:Operand}{fi:Nat}{caps:List SV}{args:Array Operand}{at_:Array TypeId}{cargs:List SV}{Lc:List LO}{Q:SV→List LO→Prop}(js:List Nat)(hspec:Spec P fi cargs Lc Q)
  (h:∀(sv:SV)(Lo:List LO),Q sv Lo→VO P A ops rest ⟨(t,sv.ren (rn js L.length))::fr,gI1 js (Lo.map (LO.ren (rn js L.length))) L,N⟩ K)
  (hf:(St.mk fr L N).ev f=.fn fi caps:=by rfl) (hp:gOr L (rn js L.length) 0 Lc:=by((repeat(first | exact trivial | exact rfl | refine And.intro ?_ ?_));first | done | fail))
  (hjs:(decide js.Nodup && (js.all fun j=>Nat.blt j L.length) && js.length==Lc.length && LO.lts Lc.length Lc)=true:=by rfl)
  (hargs:AGs L (rn js L.length) Lc.length (args.toList.map (St.mk fr L N).ev++caps) cargs:=by((repeat(first | exact trivial | exact .inl ⟨rfl,rfl⟩ | exact .inr ⟨_,rfl,by((repeat(first | exact trivial | exact rfl | exact⟨_,rfl⟩ | refine And.intro ?_ ?_));first | done | fail)⟩ | refine And.intro ?_ ?_));first | done | fail))
  (ht:Nat.blt t N=true:=by rfl) :
  VO P A ops (⟨some t,.call { callee:=.value f,args:=args,argTypes:=at_ },ty,pos,af,none⟩::rest) ⟨fr,L,N⟩ K:=by
 have hjs':=hjs;simp only [Bool.and_eq_true,decide_eq_true_eq,List.all_eq_true,Nat.blt_eq,beq_iff_eq] at hjs';obtain⟨⟨⟨hnd,hlt⟩,hn⟩,hlts⟩:=hjs';refine hH8 js hf hspec ⟨fun m o ho=>by simpa using gNv hp m o ho,fun m m' _ _ he=>hDq hlt hnd he,hlts⟩ ?_ hargs ht h;simp only [Bool.and_eq_true,decide_eq_true_eq,List.all_eq_true,Nat.blt_eq,beq_iff_eq];exact⟨⟨hnd,hlt⟩,hn⟩
theorem hXf {fn:Func}{Q:SV→List LO→Prop}{n:Nat}(svs:List SV)(Lo:List LO)(hq:Q (mkG svs) Lo)(hL:∃L2,σ.L=Lo++L2:=by exact⟨_,rfl⟩)(hl:(LO.lts Lo.length Lo && SV.lts Lo.length svs && Nat.ble n Lo.length)=true:=by rfl)
  (hr:gXb P σ fn.results.toList svs:=by((repeat(first | exact .nil | refine .data rfl rfl ?_ | refine .same rfl ?_ | refine .data (gIv rfl rfl TI.h rfl rfl) (by((repeat(first | exact trivial | exact rfl | exact⟨_,rfl⟩ | refine And.intro ?_ ?_));first | done | fail)) ?_));first | done | fail)):pX P fn Q n .normal σ:=by
 obtain⟨L2,hL⟩:=hL;exact⟨trivial,svs,Lo,L2,hL,hl,hq,hr⟩
theorem hXg {fn:Func}{Q:SV→List LO→Prop}{n:Nat}(svs:List SV)(Lo:List LO)(hq:Q (mkG svs) Lo)(hL:∃L2,σ.L=Lo++L2:=by exact⟨_,rfl⟩)(hl:(LO.lts Lo.length Lo && SV.lts Lo.length svs && Nat.ble n Lo.length)=true:=by rfl)
  (hr:gXb P σ fn.results.toList svs:=by((repeat(first | exact .nil | refine .data rfl rfl ?_ | refine .same rfl ?_ | refine .data (gIv rfl rfl TI.h rfl rfl) (by((repeat(first | exact trivial | exact rfl | exact⟨_,rfl⟩ | refine And.intro ?_ ?_));first | done | fail)) ?_));first | done | fail)):pX P fn Q n .ret σ:=⟨trivial,(hXf svs Lo hq hL hl hr).2⟩
theorem uM{fn:Func}{us:List U}(h:gW6 P σ fn.results.toList us:=by((repeat(first | exact trivial | exact⟨_,rfl,rfl⟩ | exact⟨_,rfl,⟨_,rfl⟩⟩ | exact⟨_,gIv rfl rfl TI.h rfl rfl,(by(repeat(first | exact trivial | exact rfl | exact⟨_,rfl⟩ | refine And.intro ?_ ?_));first | done | fail)⟩ | exact⟨_,ResV_one rfl rfl TI.h rfl,rfl⟩ | refine And.intro ?_ ?_));first | done | fail)):qE P fn us .ret σ:=⟨trivial,h⟩
theorem gNw{fn:Func}{es:List TypeId}{us:List U}{ps:List (Option Nat)}(h:ROs P σ fn.results.toList us es ps:=by((repeat(first | exact rfl | exact gIv rfl rfl TI.h rfl rfl | exact ResV_one rfl rfl TI.h rfl | constructor));first | done | fail))(hn:decide ((ps.filterMap id).Nodup)=true:=by rfl):qA P fn es us .ret σ:=⟨trivial,ps,h,hn⟩
theorem gPv {f:Operand}{fi:Nat}{caps:List SV}{args:Array Operand}{at_:Array TypeId}{dargs:List SV}{us:List U}(hspec:jI P fi (dargs++caps) us)(hc:SV.lts 0 caps=true)(hf:σ.ev f=.fn fi caps:=by rfl)
  (hargs:∀L',VAs L' (args.toList.map σ.ev) dargs:=by(intro L';(repeat(first | exact trivial | exact rfl | exact⟨_,rfl⟩ | refine And.intro ?_ ?_));first | done | fail)) :
  QR P σ ⟨dst,.call { callee:=.value f,args:=args,argTypes:=at_ },ty,pos,af,g⟩ (mkR us):=
 fun A fr' L' he _=>hMd (by rw [he f (by simp [Op.operands,Call.operands])];exact hf) hspec (by
  have:args.toList.map (St.ev ⟨fr',L',σ.N⟩)=args.toList.map σ.ev:=List.map_congr_left fun x hx=>he x (by simp only [Op.operands,Call.operands];simp;exact .inr (by simpa using hx))
  rw [this]
  exact hargs L') hc
theorem gC1{e z bs:Nat}{gg:Bool} [TE P T e] [TI P e gg z bs](h:VO P A ops rest ⟨(t,.sl i 0)::fr,L',N⟩ K)(ht:Nat.blt t N=true:=by rfl)(hL':Sn (.own e z 0 []) L i L':=by repeat constructor) :
  VO P A ops (⟨some t,.buildSlice T 0 #[],ty,pos,af,none⟩::rest) ⟨fr,L,N⟩ K:=gY3 TE.h TI.h ht hL' h
theorem hO6 {e z bs:Nat}{gg:Bool} [TE P T e] [TI P e gg z bs] {zs:List Value} [TZ P e zs] {u:U} {js:List Nat} (h:VO P A ops rest ⟨(t,.sl i 0)::fr,L',N⟩ K) (hy:OV L ((St.mk fr L N).ev x) u js:=by((repeat constructor);first | done | fail)) (hjs:decide js.Nodup=true:=by decide)
  (hz:(Nat.blt 0 z && Nat.blt z 16777216 && zs.length==z)=true:=by rfl) (hu:u.sz=z:=by rfl) (ht:Nat.blt t N=true:=by rfl) (hk1:KR js L L1:=by repeat constructor) (hL':Sn (.own e z 0 [u]) L1 i L':=by repeat constructor) :
  VO P A ops (⟨some t,.buildSlice T 1 #[(0,x)],ty,pos,af,none⟩::rest) ⟨fr,L,N⟩ K:=gT6 hy hjs TE.h TI.h TZ.h hz hu ht hk1 hL' h
theorem uO {e z bs:Nat}{gg:Bool} [TE P T e] [TI P e gg z bs] {zs:List Value} [TZ P e zs] {u:U} (h:VO P A ops rest ⟨(t,.sl i 0)::fr,L',N⟩ K) (hy:VD L ((St.mk fr L N).ev x) u:=by((repeat(first | exact trivial | exact rfl | exact⟨_,rfl⟩ | refine And.intro ?_ ?_));first | done | fail))
  (hz:(Nat.blt 0 z && Nat.blt z 16777216 && zs.length==z)=true:=by rfl) (hu:u.sz=z:=by rfl) (ht:Nat.blt t N=true:=by rfl) (hL':Sn (.arr e z 0 [u]) L i L':=by repeat constructor) :
  VO P A ops (⟨some t,.buildSlice T 1 #[(0,x)],ty,pos,af,none⟩::rest) ⟨fr,L,N⟩ K:=by
 obtain⟨hi,hL''⟩:=hL'.spec;subst hi;subst hL'';have hT:tyE P T=some e:=TE.h;have he:tyI P e=some (gg,z,bs):=TI.h;have hZ:tyZ P e=some zs:=TZ.h;simp only [Bool.and_eq_true,Nat.blt_eq,beq_iff_eq] at hz;refine gDd rfl (fun S env a w hH hf hN hd=>?_) h;have hr:=VD.r hH hy (mY.ev hf hH x);simp only [SVr] at hr;obtain⟨cs,c1,c2⟩:=hr;have hcells:(a.eval x).cells.toList=cs:=by rw [c1];exact gLg c2
 have hcl:=Rd.length _ _ c2;rw [hu] at hcl;obtain⟨zv,hrz,hzc⟩:=gNy hZ w;have hsz:(a.eval x).cells.size=z:=by rw [←hcl,←hcells];simp
 have hold:∀b,b < w.heap.size→(w.alloc (.cells (a.eval x).cells e)).heap[b]? =w.heap[b]? :=fun b hb=>heap_alloc_old w _ hb
 obtain⟨hH',C⟩:=hH.new (w':=w.alloc (.cells (a.eval x).cells e)) (.arr e z 0 [u]) (.slice (some ⟨w.heap.size,0,none⟩) 1 1) (by simp) hold rfl rfl rfl
  (fun b hb=>by simp [LO.ft,blk] at hb;subst hb;simp)
  (fun C=>⟨by simp [yY],by simpa using hu,cs,⟨by simp [hcl],.inr ⟨w.heap.size,1,_,rfl,Nat.zero_le _,heap_alloc_new w _,Nat.le_refl _,by simp [maxLen],by rw [hsz];simp,by rw [hcells];rw [List.take_of_length_le (by simp [hcl])]⟩⟩,by
   have:=c2.mono C.hS C.hw
   simp only [Rds]
   exact⟨cs,[],by simp,this,rfl⟩⟩)
 refine⟨.value (.slice (some ⟨w.heap.size,0,none⟩) 1 1),_,?_,.inl ⟨_,rfl,uU hf hN hd ht hH' C ?_⟩⟩
 ·have hzs:zv.cells.size=z:=by rw [←hz.2,←hzc];simp
  have hfill:Instr.fill (fun i=>some (i*z,z)) ((Array.range (1*z)).map (zv.cells[· % zv.cells.size]!)) [(0,a.eval x)]=some (a.eval x).cells:=by
   rw [gPs (off:=0) (n:=z) (by simp) hsz (by simp)];simp only [Instr.fill,Option.some.injEq,List.take_zero,List.nil_append,Nat.zero_add];apply Array.ext';simp
  have h1:¬z > 2^24:=by omega
  have h2:¬z=0:=by omega
  simp only [Nat.one_mul] at hfill;simp [execOp,Instr.buildSlice,run_underlying (zN hT),run_sizeOf he,hrz,h1,h2,newRow];simp only [gt_iff_lt] at h1;simp [hfill]
 ·simp only [SVr];exact⟨.slice (some ⟨w.heap.size,0,none⟩) 1 1,.arr e z 0 [u],by rw [←hH.len];simp,by simp,Nat.le_refl _,rfl,fun _=>rfl⟩
theorem gDl {α:Type}{en:α→U}{es:List α→List U}{z:Nat}[E:Enc α en es z]{l r:List α}(hg:l.length+r.length≤4294967296){e bs ver:Nat}{gg:Bool} [TE P T e] [TI P e gg z bs] {zs:List Value} [TZ P e zs] {js:List Nat} {T':TypeId}
  (h:VO P A ops rest ⟨(t,.sl i (ver+1))::fr,L',N⟩ K) (hx:(St.mk fr L N).ev x=.sl i ver:=by rfl) (hL:L[i]? =some (.own e z ver (es l)):=by rfl) (hs:gW9 L z ((St.mk fr L N).ev y) (es r) js:=by first | exact .own rfl | exact .nil | exact .data (Enc.all _) (gCz _) | exact .data (Enc.all _) (gC0 _))
  (hjs:(decide js.Nodup && !js.contains i)=true:=by decide) (hz:(Nat.blt 0 z && zs.length==z)=true:=by rfl) (hb:Nat.ble bs 32768=true:=by rfl)
  (ht:Nat.blt t N=true:=by rfl) (hk1:KR js L L1:=by repeat constructor) (hL':St1 (.own e z (ver+1) (es (l++r))) i L1 L':=by repeat constructor) :
  VO P A ops (⟨some t,.call { callee:=.builtin .append,args:=#[x,y],argTypes:=#[T,T] },T',pos,af,none⟩::rest) ⟨fr,L,N⟩ K:=by
 have h1:(es l).length=l.length:=Enc.len l;have h2:(es r).length=r.length:=Enc.len r;have hb:=Nat.le_of_ble_eq_true hb;rw [Enc.app (es:=es)] at hL';refine gVg hx hL hs hjs TE.h TI.h TZ.h hz (by rw [yY];omega) ?_ ht hk1 hL' h;rw [h1,h2];exact Nat.le_trans (Nat.mul_le_mul hg hb) (by decide)
theorem mY.freezeO{a:Act}{w:World}{i e z ver:Nat}{es:List U}(hL:σ.L[i]? =some (.own e z ver es))(h:mY A σ a w):mY A ⟨σ.fr,σ.L.set i (.frz e z ver es),σ.N⟩ a w:=by
 obtain⟨S,env,hH,hf,hN,hd⟩:=h;have hi:=(List.getElem?_eq_some_iff.1 hL).1;have hie:i < env.length:=by rw [hH.len];exact hi
 obtain⟨hv,he⟩:∃hv,env[i]? =some hv:=⟨_,List.getElem?_eq_getElem hie⟩
 have hob:=hH.objs i _ hv hL he;let S':Nat→Prop:=fun b=>S b∨b∈(U.sl z es).fp w [hv];have hset:∀(j:Nat)(o':LO),(σ.L.set i (.frz e z ver es))[j]? =some o'→(j=i∧o'=.frz e z ver es)∨(j≠i∧σ.L[j]? =some o'):=by
  intro j o' hj;by_cases hij:i=j
  ·subst hij;rw [List.getElem?_set_self hi] at hj;exact .inl ⟨rfl,(Option.some.inj hj).symm⟩
  ·rw [List.getElem?_set_ne hij] at hj;exact .inr ⟨fun e=>hij e.symm,hj⟩
 have C:Carry S σ.L env w S' (σ.L.set i (.frz e z ver es)) env w:=by
  refine⟨fun b hb _=>.inl hb,fun _ _ _=>rfl,fun _ _ h=>h,fun j hv' o' h1 h2=>?_⟩;by_cases hij:i=j
  ·subst hij;rw [hL] at h2;obtain rfl:=Option.some.inj h2;exact⟨hv',.frz e z ver es,h1,by rw [List.getElem?_set_self hi],Nat.le_refl _,fun _=>rfl⟩
  ·exact⟨hv',o',h1,by rw [List.getElem?_set_ne hij];exact h2,Nat.le_refl _,fun _=>rfl⟩
 refine⟨S',env,⟨by simp [hH.len],?_,?_,?_,?_,?_,hH.frame,hH.size,hH.os,hH.tape,hH.output,hH.base.carry C hH.len (by simp),hH.glob⟩,fun t=>SVr.carry C _ _ (hf t),hN,hd⟩
 ·intro j o' hv' h1 h2;rcases hset j o' h1 with ⟨rfl,rfl⟩ | ⟨hj,h3⟩
  ·rw [he] at h2;obtain rfl:=Option.some.inj h2;exact⟨[hv],rfl,Tr.rd _ _ (gRa hob) (fun b hb=>.inr hb)⟩
  ·exact gH2.carry C (fun _ _ _=>rfl) (hH.objs j o' hv' h3 h2)
 ·intro j o' hv' b h1 hl h2 hb;rcases hset j o' h1 with ⟨rfl,rfl⟩ | ⟨hj,h3⟩
  ·cases hl
  ·have:=hH.excl j o' hv' b h3 hl h2 hb
   refine⟨fun hs=>hs.elim this.1 (fun hs=>hj (hH.dist j i o' _ hv' hv b h3 hL hl rfl h2 he hb (show(LO.own e z ver es).ft w hv b from hs))),this.2⟩
 ·intro j j' o1 o1' hv1 hv1' k h1 h2 hl1 hl2 e1 e2 b1 b2;rcases hset j o1 h1 with ⟨rfl,rfl⟩ | ⟨hj,h3⟩
  ·cases hl1
  ·rcases hset j' o1' h2 with ⟨rfl,rfl⟩ | ⟨hj',h3'⟩
   ·cases hl2
   ·exact hH.dist j j' o1 o1' hv1 hv1' k h3 h3' hl1 hl2 e1 e2 b1 b2
 ·intro b hb;rcases hb with hb | hb
  ·exact hH.sS b hb
  ·exact(hH.excl i _ hv b hL rfl he hb).2.2
 ·intro b hb;rcases hb with hb | hb
  ·exact hH.sA b hb
  ·exact .inr (hH.excl i _ hv b hL rfl he hb).2.1
theorem mP(i:Nat){e z ver:Nat}{es:List U}(hL:L[i]? =some (.own e z ver es))(hL':L.set i (.frz e z ver es)=L')(h:V P A c ⟨fr,L',N⟩ Q):V P A c ⟨fr,L,N⟩ Q:=by
 subst hL';exact fun a w hr=>h a w (hr.freezeO (σ:=⟨fr,L,N⟩) hL)
theorem gBv(i:Nat){e z ver:Nat}{es:List U}(hL:L[i]? =some (.own e z ver es))(hL':L.set i (.frz e z ver es)=L')(h:VO P A ops rest ⟨fr,L',N⟩ K):VO P A ops rest ⟨fr,L,N⟩ K:=by
 subst hL';exact fun R hR a w hr=>h R hR a w (hr.freezeO (σ:=⟨fr,L,N⟩) hL)
theorem gCw{α:Type}{e:α→U}{es:List α→List U}{z:Nat}[E:Enc α e es z]{l:List α}{z':Nat}(j:Nat)(h:l.length≤140737488355328→V P A c ⟨fr,L,N⟩ Q)(hb:look fr j=.d (.sl z' (es l)):=by rfl):V P A c ⟨fr,L,N⟩ Q:=by
 intro a w hr;refine h ?_ a w hr;obtain⟨S,env,hH,hf,hN,hd⟩:=hr
 have:=hf j
 simp only at this;rw [hb] at this
 have:=(SVr.slice.1 this).1
 rwa [Enc.len,yY] at this
theorem yC{α:Type}{e:α→U}{es:List α→List U}{z:Nat}[E:Enc α e es z]{l:List α}{z':Nat}{cs:List SV}(i j:Nat)(h:l.length≤140737488355328→V P A c ⟨fr,L,N⟩ Q)(hL:L[i]? =some (.box cs):=by rfl)(hb:cs[j]? =some (.d (.sl z' (es l))):=by rfl):V P A c ⟨fr,L,N⟩ Q:=by
 intro a w hr;refine h ?_ a w hr;obtain⟨S,env,hH,hf,hN,hd⟩:=hr;obtain⟨hv,he⟩:∃hv,env[i]? =some hv:=⟨_,List.getElem?_eq_getElem (by rw [hH.len];exact(List.getElem?_eq_some_iff.1 hL).1)⟩
 obtain⟨b,vals,e',r1,r2,r3,r4⟩:=hH.objs i _ hv hL he;obtain⟨v,v1,v2⟩:=kP.get r3 j _ hb
 have:=(SVr.slice.1 v2).1
 rwa [Enc.len,yY] at this
theorem hIa{l:LB}(j:Nat)(h:l.length≤140737488355328→V P A c ⟨fr,L,N⟩ Q)(hb:look fr j=.d (.s l):=by rfl):V P A c ⟨fr,L,N⟩ Q:=by
 intro a w hr;refine h ?_ a w hr;obtain⟨S,env,hH,hf,hN,hd⟩:=hr
 have:=hf j
 simp only at this;rw [hb] at this
 have:=(SVr.str.1 this).1
 rwa [yY] at this
end
theorem hAo{P:Program}{A:Amb}{ops:Array Oper}{K:St→Prop}{fr:List (Nat × SV)}{L:List LO}{N i t:Nat}{sv:SV}{op:Op}{ty:TypeId}{pos:String}{af:Array Edge}{r:List (Nat × Bool)}{pf:PF}(hi:ops[i]? =some ⟨some t,op,ty,pos,af,none⟩)(hq:QR P ⟨fr,L,N⟩ ⟨some t,op,ty,pos,af,none⟩ sv)(hv:VY P A ops K r ((i,L)::pf) ⟨(t,sv)::fr,L,N⟩)(ht:Nat.blt t N=true:=by rfl) :
  VY P A ops K ((i,true)::r) pf ⟨fr,L,N⟩:=hXc hq hv hi ht
theorem goY {X Y:Prop}(hy:Y)(h:Y→X:=by
  intro hy
  repeat(first | refine hAo rfl gLc ?_ | refine hAo rfl gLd ?_ | refine hSx rfl ?_ (by(repeat constructor);first | done | fail) | refine hSy rfl (by repeat constructor) (by repeat(first | exact vU.nil | (apply vU.keep;focus ((repeat constructor);done)) | (apply vU.dep;focus kernel_rfl))) ?_)
  exact hy):X:=h hy
end Go.Eng
namespace Go.Proofs.YtfpdlnkkcnmebaaGreat
open Go Go.Eng
instance ti3:TI Tryz.prog 3 false 1 8:=⟨by kernel_rfl⟩
instance tz3:TZ Tryz.prog 3 [.int .i64 0]:=⟨by kernel_rfl⟩
instance ti4:TI Tryz.prog 4 false 1 1:=⟨by kernel_rfl⟩
instance tb4:TB Tryz.prog 4:=⟨by kernel_rfl⟩
instance tz4:TZ Tryz.prog 4 [.bool false]:=⟨by kernel_rfl⟩
instance ti5:TI Tryz.prog 5 false 1 1:=⟨by kernel_rfl⟩
instance tz5:TZ Tryz.prog 5 [.int .u8 0]:=⟨by kernel_rfl⟩
instance ti9:TI Tryz.prog 9 false 1 16:=⟨by kernel_rfl⟩
instance jA4:TS Tryz.prog 9:=⟨by kernel_rfl⟩
instance tz9:TZ Tryz.prog 9 [.string ⟨#[]⟩]:=⟨by kernel_rfl⟩
instance jA5:TI Tryz.prog 22 false 1 24:=⟨by kernel_rfl⟩
instance jA6:TE Tryz.prog 22 5:=⟨by kernel_rfl⟩
instance jA7:TI Tryz.prog 24 false 1 24:=⟨by kernel_rfl⟩
instance jA8:TE Tryz.prog 24 91:=⟨by kernel_rfl⟩
instance jA9:TI Tryz.prog 26 true 1 24:=⟨by kernel_rfl⟩
instance hXh:TF Tryz.prog 26 0 0:=⟨by kernel_rfl⟩
instance hZf:TBd Tryz.prog 26:=⟨by kernel_rfl⟩
instance jBa:TZ Tryz.prog 26 [.slice none 0 0]:=⟨by kernel_rfl⟩
instance jBb:TI Tryz.prog 28 true 2 16:=⟨by kernel_rfl⟩
instance hXi:TF Tryz.prog 28 0 0:=⟨by kernel_rfl⟩
instance hXj:TF Tryz.prog 28 1 1:=⟨by kernel_rfl⟩
instance hZg:TBd Tryz.prog 28:=⟨by kernel_rfl⟩
instance hS9:TFS Tryz.prog 28 0 0 1:=⟨by kernel_rfl⟩
instance hTa:TFS Tryz.prog 28 1 1 1:=⟨by kernel_rfl⟩
instance jBc:TZ Tryz.prog 28 [.int .i64 0,.int .i64 0]:=⟨by kernel_rfl⟩
instance jBd:TI Tryz.prog 31 false 1 24:=⟨by kernel_rfl⟩
instance jBe:TE Tryz.prog 31 51:=⟨by kernel_rfl⟩
instance jBf:TI Tryz.prog 34 false 1 24:=⟨by kernel_rfl⟩
instance jBg:TE Tryz.prog 34 9:=⟨by kernel_rfl⟩
instance jBh:TZ Tryz.prog 34 [.slice none 0 0]:=⟨by kernel_rfl⟩
instance jBi:TI Tryz.prog 35 false 1 24:=⟨by kernel_rfl⟩
instance jBj:TE Tryz.prog 35 37:=⟨by kernel_rfl⟩
instance jBk:TI Tryz.prog 37 true 3 48:=⟨by kernel_rfl⟩
instance hXk:TF Tryz.prog 37 0 0:=⟨by kernel_rfl⟩
instance hXl:TF Tryz.prog 37 1 1:=⟨by kernel_rfl⟩
instance hXm:TF Tryz.prog 37 2 2:=⟨by kernel_rfl⟩
instance hZh:TBd Tryz.prog 37:=⟨by kernel_rfl⟩
instance hTb:TFS Tryz.prog 37 0 0 1:=⟨by kernel_rfl⟩
instance hTc:TFS Tryz.prog 37 1 1 1:=⟨by kernel_rfl⟩
instance hTd:TFS Tryz.prog 37 2 2 1:=⟨by kernel_rfl⟩
instance jBl:TZ Tryz.prog 37 [.int .i64 0,.string ⟨#[]⟩,.slice none 0 0]:=⟨by kernel_rfl⟩
instance jBm:TI Tryz.prog 38 false 1 24:=⟨by kernel_rfl⟩
instance jBn:TE Tryz.prog 38 53:=⟨by kernel_rfl⟩
instance jBo:TI Tryz.prog 39 false 1 24:=⟨by kernel_rfl⟩
instance jBp:TE Tryz.prog 39 103:=⟨by kernel_rfl⟩
instance jBq:TI Tryz.prog 41 true 12 192:=⟨by kernel_rfl⟩
instance hXn:TF Tryz.prog 41 0 0:=⟨by kernel_rfl⟩
instance hXo:TF Tryz.prog 41 1 1:=⟨by kernel_rfl⟩
instance hXp:TF Tryz.prog 41 2 2:=⟨by kernel_rfl⟩
instance hXq:TF Tryz.prog 41 3 5:=⟨by kernel_rfl⟩
instance hXr:TF Tryz.prog 41 4 6:=⟨by kernel_rfl⟩
instance hXs:TF Tryz.prog 41 5 7:=⟨by kernel_rfl⟩
instance hXt:TF Tryz.prog 41 6 8:=⟨by kernel_rfl⟩
instance hXu:TF Tryz.prog 41 7 11:=⟨by kernel_rfl⟩
instance hZi:TBd Tryz.prog 41:=⟨by kernel_rfl⟩
instance hTf:TFS Tryz.prog 41 0 0 1:=⟨by kernel_rfl⟩
instance hTg:TFS Tryz.prog 41 1 1 1:=⟨by kernel_rfl⟩
instance hTh:TFS Tryz.prog 41 2 2 3:=⟨by kernel_rfl⟩
instance hTi:TFS Tryz.prog 41 3 5 1:=⟨by kernel_rfl⟩
instance hTk:TFS Tryz.prog 41 4 6 1:=⟨by kernel_rfl⟩
instance hTm:TFS Tryz.prog 41 7 11 1:=⟨by kernel_rfl⟩
instance jBr:TZ Tryz.prog 41 [.string ⟨#[]⟩,.slice none 0 0,.int .i64 0,.string ⟨#[]⟩,.slice none 0 0,.slice none 0 0,.bool false,.bool false,.int .i64 0,.string ⟨#[]⟩,.slice none 0 0,.slice none 0 0]:=⟨by kernel_rfl⟩
instance jBs:TI Tryz.prog 44 false 1 24:=⟨by kernel_rfl⟩
instance jBt:TE Tryz.prog 44 108:=⟨by kernel_rfl⟩
instance jBu:TI Tryz.prog 46 true 5 72:=⟨by kernel_rfl⟩
instance hXv:TF Tryz.prog 46 0 0:=⟨by kernel_rfl⟩
instance hXw:TF Tryz.prog 46 1 1:=⟨by kernel_rfl⟩
instance hXx:TF Tryz.prog 46 2 2:=⟨by kernel_rfl⟩
instance hXy:TF Tryz.prog 46 3 3:=⟨by kernel_rfl⟩
instance hXz:TF Tryz.prog 46 4 4:=⟨by kernel_rfl⟩
instance hZj:TBd Tryz.prog 46:=⟨by kernel_rfl⟩
instance hTn:TFS Tryz.prog 46 0 0 1:=⟨by kernel_rfl⟩
instance hTo:TFS Tryz.prog 46 1 1 1:=⟨by kernel_rfl⟩
instance hTp:TFS Tryz.prog 46 2 2 1:=⟨by kernel_rfl⟩
instance hTq:TFS Tryz.prog 46 3 3 1:=⟨by kernel_rfl⟩
instance hTt:TFS Tryz.prog 46 4 4 1:=⟨by kernel_rfl⟩
instance jBv:TZ Tryz.prog 46 [.string ⟨#[]⟩,.slice none 0 0,.bool false,.bool false,.slice none 0 0]:=⟨by kernel_rfl⟩
instance jBw:TI Tryz.prog 51 true 5 56:=⟨by kernel_rfl⟩
instance hX3:TF Tryz.prog 51 0 0:=⟨by kernel_rfl⟩
instance hX4:TF Tryz.prog 51 1 1:=⟨by kernel_rfl⟩
instance hX5:TF Tryz.prog 51 2 2:=⟨by kernel_rfl⟩
instance hX6:TF Tryz.prog 51 3 4:=⟨by kernel_rfl⟩
instance hZk:TBd Tryz.prog 51:=⟨by kernel_rfl⟩
instance hTu:TFS Tryz.prog 51 0 0 1:=⟨by kernel_rfl⟩
instance hTv:TFS Tryz.prog 51 1 1 1:=⟨by kernel_rfl⟩
instance hTw:TFS Tryz.prog 51 2 2 2:=⟨by kernel_rfl⟩
instance hTz:TFS Tryz.prog 51 3 4 1:=⟨by kernel_rfl⟩
instance jBx:TZ Tryz.prog 51 [.int .i64 0,.int .i64 0,.int .i64 0,.int .i64 0,.slice none 0 0]:=⟨by kernel_rfl⟩
instance jBy:TI Tryz.prog 53 true 4 64:=⟨by kernel_rfl⟩
instance hX7:TF Tryz.prog 53 0 0:=⟨by kernel_rfl⟩
instance hX8:TF Tryz.prog 53 1 1:=⟨by kernel_rfl⟩
instance hZl:TBd Tryz.prog 53:=⟨by kernel_rfl⟩
instance hT2:TFS Tryz.prog 53 0 0 1:=⟨by kernel_rfl⟩
instance hT3:TFS Tryz.prog 53 1 1 3:=⟨by kernel_rfl⟩
instance jBz:TZ Tryz.prog 53 [.string ⟨#[]⟩,.int .i64 0,.string ⟨#[]⟩,.slice none 0 0]:=⟨by kernel_rfl⟩
instance jB0:TI Tryz.prog 54 false 1 24:=⟨by kernel_rfl⟩
instance jB1:TE Tryz.prog 54 59:=⟨by kernel_rfl⟩
instance jB2:TI Tryz.prog 57 false 1 24:=⟨by kernel_rfl⟩
instance jB3:TE Tryz.prog 57 3:=⟨by kernel_rfl⟩
instance jB4:TI Tryz.prog 59 true 5 72:=⟨by kernel_rfl⟩
instance hX9:TF Tryz.prog 59 0 0:=⟨by kernel_rfl⟩
instance hYa:TF Tryz.prog 59 1 1:=⟨by kernel_rfl⟩
instance hYb:TF Tryz.prog 59 2 3:=⟨by kernel_rfl⟩
instance hYc:TF Tryz.prog 59 3 4:=⟨by kernel_rfl⟩
instance hZm:TBd Tryz.prog 59:=⟨by kernel_rfl⟩
instance hT4:TFS Tryz.prog 59 0 0 1:=⟨by kernel_rfl⟩
instance hT5:TFS Tryz.prog 59 1 1 2:=⟨by kernel_rfl⟩
instance hT6:TFS Tryz.prog 59 2 3 1:=⟨by kernel_rfl⟩
instance jB5:TZ Tryz.prog 59 [.int .i64 0,.int .i64 0,.int .i64 0,.slice none 0 0,.slice none 0 0]:=⟨by kernel_rfl⟩
instance jB6:TI Tryz.prog 86 false 1 24:=⟨by kernel_rfl⟩
instance jB7:TE Tryz.prog 86 46:=⟨by kernel_rfl⟩
instance jB8:TI Tryz.prog 87 false 1 24:=⟨by kernel_rfl⟩
instance jB9:TE Tryz.prog 87 171:=⟨by kernel_rfl⟩
instance jCa:TI Tryz.prog 88 false 1 24:=⟨by kernel_rfl⟩
instance jCb:TE Tryz.prog 88 41:=⟨by kernel_rfl⟩
instance jCc:TI Tryz.prog 89 false 1 24:=⟨by kernel_rfl⟩
instance jCd:TE Tryz.prog 89 176:=⟨by kernel_rfl⟩
instance jCe:TI Tryz.prog 91 true 6 136:=⟨by kernel_rfl⟩
instance hYe:TF Tryz.prog 91 0 0:=⟨by kernel_rfl⟩
instance hYf:TF Tryz.prog 91 1 1:=⟨by kernel_rfl⟩
instance hYg:TF Tryz.prog 91 2 2:=⟨by kernel_rfl⟩
instance hYh:TF Tryz.prog 91 3 3:=⟨by kernel_rfl⟩
instance hYi:TF Tryz.prog 91 4 4:=⟨by kernel_rfl⟩
instance hYj:TF Tryz.prog 91 5 5:=⟨by kernel_rfl⟩
instance hZn:TBd Tryz.prog 91:=⟨by kernel_rfl⟩
instance hT7:TFS Tryz.prog 91 0 0 1:=⟨by kernel_rfl⟩
instance hT8:TFS Tryz.prog 91 1 1 1:=⟨by kernel_rfl⟩
instance jCf:TZ Tryz.prog 91 [.string ⟨#[]⟩,.slice none 0 0,.slice none 0 0,.slice none 0 0,.slice none 0 0,.slice none 0 0]:=⟨by kernel_rfl⟩
instance jCg:TI Tryz.prog 96 false 1 24:=⟨by kernel_rfl⟩
instance jCh:TE Tryz.prog 96 139:=⟨by kernel_rfl⟩
instance jCi:TI Tryz.prog 98 false 1 24:=⟨by kernel_rfl⟩
instance jCj:TE Tryz.prog 98 101:=⟨by kernel_rfl⟩
instance jCk:TI Tryz.prog 99 false 1 24:=⟨by kernel_rfl⟩
instance jCl:TE Tryz.prog 99 147:=⟨by kernel_rfl⟩
instance hZo:TI Tryz.prog 101 true 9 144:=⟨by kernel_rfl⟩
instance hT9:TF Tryz.prog 101 0 0:=⟨by kernel_rfl⟩
instance hUa:TF Tryz.prog 101 1 1:=⟨by kernel_rfl⟩
instance hUb:TF Tryz.prog 101 2 2:=⟨by kernel_rfl⟩
instance hUc:TF Tryz.prog 101 3 3:=⟨by kernel_rfl⟩
instance hUd:TF Tryz.prog 101 4 4:=⟨by kernel_rfl⟩
instance hUe:TF Tryz.prog 101 5 7:=⟨by kernel_rfl⟩
instance hUf:TF Tryz.prog 101 6 8:=⟨by kernel_rfl⟩
instance hYk:TBd Tryz.prog 101:=⟨by kernel_rfl⟩
instance hQo:TFS Tryz.prog 101 0 0 1:=⟨by kernel_rfl⟩
instance hQp:TFS Tryz.prog 101 1 1 1:=⟨by kernel_rfl⟩
instance hQq:TFS Tryz.prog 101 2 2 1:=⟨by kernel_rfl⟩
instance hQr:TFS Tryz.prog 101 3 3 1:=⟨by kernel_rfl⟩
instance hQs:TFS Tryz.prog 101 4 4 3:=⟨by kernel_rfl⟩
instance hQt:TFS Tryz.prog 101 5 7 1:=⟨by kernel_rfl⟩
instance hQu:TFS Tryz.prog 101 6 8 1:=⟨by kernel_rfl⟩
instance hZp:TZ Tryz.prog 101 [.int .i64 0,.string ⟨#[]⟩,.string ⟨#[]⟩,.int .i64 0,.int .i64 0,.string ⟨#[]⟩,.slice none 0 0,.slice none 0 0,.slice none 0 0]:=⟨by kernel_rfl⟩
instance hZq:TI Tryz.prog 103 true 11 184:=⟨by kernel_rfl⟩
instance hUg:TF Tryz.prog 103 0 0:=⟨by kernel_rfl⟩
instance hUh:TF Tryz.prog 103 1 1:=⟨by kernel_rfl⟩
instance hUi:TF Tryz.prog 103 2 2:=⟨by kernel_rfl⟩
instance hYm:TBd Tryz.prog 103:=⟨by kernel_rfl⟩
instance hQv:TFS Tryz.prog 103 0 0 1:=⟨by kernel_rfl⟩
instance hQw:TFS Tryz.prog 103 1 1 1:=⟨by kernel_rfl⟩
instance hQx:TFS Tryz.prog 103 2 2 9:=⟨by kernel_rfl⟩
instance hZr:TZ Tryz.prog 103 [.string ⟨#[]⟩,.slice none 0 0,.int .i64 0,.string ⟨#[]⟩,.string ⟨#[]⟩,.int .i64 0,.int .i64 0,.string ⟨#[]⟩,.slice none 0 0,.slice none 0 0,.slice none 0 0]:=⟨by kernel_rfl⟩
instance hZt:TI Tryz.prog 108 true 16 264:=⟨by kernel_rfl⟩
instance hUj:TF Tryz.prog 108 0 0:=⟨by kernel_rfl⟩
instance hUk:TF Tryz.prog 108 1 1:=⟨by kernel_rfl⟩
instance hUl:TF Tryz.prog 108 2 2:=⟨by kernel_rfl⟩
instance hUm:TF Tryz.prog 108 3 5:=⟨by kernel_rfl⟩
instance hUn:TF Tryz.prog 108 4 6:=⟨by kernel_rfl⟩
instance hUo:TF Tryz.prog 108 5 7:=⟨by kernel_rfl⟩
instance hYn:TBd Tryz.prog 108:=⟨by kernel_rfl⟩
instance hQy:TFS Tryz.prog 108 0 0 1:=⟨by kernel_rfl⟩
instance hQz:TFS Tryz.prog 108 1 1 1:=⟨by kernel_rfl⟩
instance hQ0:TFS Tryz.prog 108 2 2 3:=⟨by kernel_rfl⟩
instance hQ1:TFS Tryz.prog 108 3 5 1:=⟨by kernel_rfl⟩
instance hQ2:TFS Tryz.prog 108 4 6 1:=⟨by kernel_rfl⟩
instance hQ3:TFS Tryz.prog 108 5 7 9:=⟨by kernel_rfl⟩
instance hZu:TZ Tryz.prog 108 [.string ⟨#[]⟩,.slice none 0 0,.int .i64 0,.string ⟨#[]⟩,.slice none 0 0,.bool false,.slice none 0 0,.int .i64 0,.string ⟨#[]⟩,.string ⟨#[]⟩,.int .i64 0,.int .i64 0,.string ⟨#[]⟩,.slice none 0 0,.slice none 0 0,.slice none 0 0]:=⟨by kernel_rfl⟩
instance hZv:TE Tryz.prog 118 192:=⟨by kernel_rfl⟩
instance hUp:TF Tryz.prog 123 0 0:=⟨by kernel_rfl⟩
instance hUq:TF Tryz.prog 123 1 1:=⟨by kernel_rfl⟩
instance hUr:TF Tryz.prog 123 2 2:=⟨by kernel_rfl⟩
instance hYo:TBd Tryz.prog 123:=⟨by kernel_rfl⟩
instance hQ4:TFS Tryz.prog 123 0 0 1:=⟨by kernel_rfl⟩
instance hQ5:TFS Tryz.prog 123 2 2 1:=⟨by kernel_rfl⟩
instance hZw:TZ Tryz.prog 123 [.slice none 0 0,.int .i64 0,.int .i64 0]:=⟨by kernel_rfl⟩
instance hUs:TF Tryz.prog 136 0 0:=⟨by kernel_rfl⟩
instance hUt:TF Tryz.prog 136 1 1:=⟨by kernel_rfl⟩
instance hYp:TBd Tryz.prog 136:=⟨by kernel_rfl⟩
instance hQ6:TFS Tryz.prog 136 0 0 1:=⟨by kernel_rfl⟩
instance hQ7:TFS Tryz.prog 136 1 1 1:=⟨by kernel_rfl⟩
instance hZx:TZ Tryz.prog 136 [.slice none 0 0,.slice none 0 0]:=⟨by kernel_rfl⟩
instance hZy:TI Tryz.prog 139 true 6 96:=⟨by kernel_rfl⟩
instance hUu:TF Tryz.prog 139 0 0:=⟨by kernel_rfl⟩
instance hUv:TF Tryz.prog 139 1 4:=⟨by kernel_rfl⟩
instance hUw:TF Tryz.prog 139 2 5:=⟨by kernel_rfl⟩
instance hYq:TBd Tryz.prog 139:=⟨by kernel_rfl⟩
instance hQ8:TFS Tryz.prog 139 0 0 4:=⟨by kernel_rfl⟩
instance hQ9:TFS Tryz.prog 139 1 4 1:=⟨by kernel_rfl⟩
instance hRa:TFS Tryz.prog 139 2 5 1:=⟨by kernel_rfl⟩
instance hZz:TZ Tryz.prog 139 [.string ⟨#[]⟩,.int .i64 0,.string ⟨#[]⟩,.slice none 0 0,.int .i64 0,.slice none 0 0]:=⟨by kernel_rfl⟩
instance hZ0:TI Tryz.prog 147 true 11 184:=⟨by kernel_rfl⟩
instance hUx:TF Tryz.prog 147 0 0:=⟨by kernel_rfl⟩
instance hUy:TF Tryz.prog 147 1 1:=⟨by kernel_rfl⟩
instance hU0:TF Tryz.prog 147 2 2:=⟨by kernel_rfl⟩
instance hYr:TBd Tryz.prog 147:=⟨by kernel_rfl⟩
instance hRc:TFS Tryz.prog 147 0 0 1:=⟨by kernel_rfl⟩
instance hRd:TFS Tryz.prog 147 1 1 1:=⟨by kernel_rfl⟩
instance hRf:TFS Tryz.prog 147 2 2 9:=⟨by kernel_rfl⟩
instance hZ4:TZ Tryz.prog 147 [.string ⟨#[]⟩,.slice none 0 0,.int .i64 0,.string ⟨#[]⟩,.string ⟨#[]⟩,.int .i64 0,.int .i64 0,.string ⟨#[]⟩,.slice none 0 0,.slice none 0 0,.slice none 0 0]:=⟨by kernel_rfl⟩
instance hZ5:TE Tryz.prog 150 28:=⟨by kernel_rfl⟩
instance hZ6:TI Tryz.prog 169 false 1 24:=⟨by kernel_rfl⟩
instance hZ7:TE Tryz.prog 169 188:=⟨by kernel_rfl⟩
instance hZ8:TI Tryz.prog 171 true 3 64:=⟨by kernel_rfl⟩
instance hU1:TF Tryz.prog 171 0 0:=⟨by kernel_rfl⟩
instance hU2:TF Tryz.prog 171 1 1:=⟨by kernel_rfl⟩
instance hU3:TF Tryz.prog 171 2 2:=⟨by kernel_rfl⟩
instance hYt:TBd Tryz.prog 171:=⟨by kernel_rfl⟩
instance hRg:TFS Tryz.prog 171 0 0 1:=⟨by kernel_rfl⟩
instance hRh:TFS Tryz.prog 171 1 1 1:=⟨by kernel_rfl⟩
instance hRi:TFS Tryz.prog 171 2 2 1:=⟨by kernel_rfl⟩
instance hZ9:TZ Tryz.prog 171 [.string ⟨#[]⟩,.slice none 0 0,.slice none 0 0]:=⟨by kernel_rfl⟩
instance jAa:TI Tryz.prog 174 false 1 24:=⟨by kernel_rfl⟩
instance jAb:TE Tryz.prog 174 212:=⟨by kernel_rfl⟩
instance jAc:TI Tryz.prog 176 true 16 280:=⟨by kernel_rfl⟩
instance hU4:TF Tryz.prog 176 0 0:=⟨by kernel_rfl⟩
instance hU5:TF Tryz.prog 176 1 1:=⟨by kernel_rfl⟩
instance hU6:TF Tryz.prog 176 2 2:=⟨by kernel_rfl⟩
instance hU7:TF Tryz.prog 176 3 3:=⟨by kernel_rfl⟩
instance hU9:TF Tryz.prog 176 4 4:=⟨by kernel_rfl⟩
instance hVa:TF Tryz.prog 176 5 7:=⟨by kernel_rfl⟩
instance hYu:TBd Tryz.prog 176:=⟨by kernel_rfl⟩
instance hRm:TFS Tryz.prog 176 0 0 1:=⟨by kernel_rfl⟩
instance hRn:TFS Tryz.prog 176 1 1 1:=⟨by kernel_rfl⟩
instance hRo:TFS Tryz.prog 176 2 2 1:=⟨by kernel_rfl⟩
instance hRp:TFS Tryz.prog 176 3 3 1:=⟨by kernel_rfl⟩
instance hRq:TFS Tryz.prog 176 4 4 3:=⟨by kernel_rfl⟩
instance hRt:TFS Tryz.prog 176 5 7 9:=⟨by kernel_rfl⟩
instance jAd:TZ Tryz.prog 176 [.string ⟨#[]⟩,.slice none 0 0,.slice none 0 0,.slice none 0 0,.int .i64 0,.string ⟨#[]⟩,.slice none 0 0,.int .i64 0,.string ⟨#[]⟩,.string ⟨#[]⟩,.int .i64 0,.int .i64 0,.string ⟨#[]⟩,.slice none 0 0,.slice none 0 0,.slice none 0 0]:=⟨by kernel_rfl⟩
instance jAe:TI Tryz.prog 188 true 2 40:=⟨by kernel_rfl⟩
instance hVb:TF Tryz.prog 188 0 0:=⟨by kernel_rfl⟩
instance hVc:TF Tryz.prog 188 1 1:=⟨by kernel_rfl⟩
instance hYv:TBd Tryz.prog 188:=⟨by kernel_rfl⟩
instance hRu:TFS Tryz.prog 188 0 0 1:=⟨by kernel_rfl⟩
instance hRw:TFS Tryz.prog 188 1 1 1:=⟨by kernel_rfl⟩
instance jAf:TZ Tryz.prog 188 [.string ⟨#[]⟩,.slice none 0 0]:=⟨by kernel_rfl⟩
instance jAg:TI Tryz.prog 192 true 4 64:=⟨by kernel_rfl⟩
instance hVd:TF Tryz.prog 192 0 0:=⟨by kernel_rfl⟩
instance hVe:TF Tryz.prog 192 1 1:=⟨by kernel_rfl⟩
instance hYw:TBd Tryz.prog 192:=⟨by kernel_rfl⟩
instance hRx:TFS Tryz.prog 192 0 0 1:=⟨by kernel_rfl⟩
instance hRz:TFS Tryz.prog 192 1 1 3:=⟨by kernel_rfl⟩
instance jAh:TZ Tryz.prog 192 [.string ⟨#[]⟩,.int .i64 0,.string ⟨#[]⟩,.slice none 0 0]:=⟨by kernel_rfl⟩
instance jAi:TI Tryz.prog 212 true 4 64:=⟨by kernel_rfl⟩
instance hVf:TF Tryz.prog 212 0 0:=⟨by kernel_rfl⟩
instance hVg:TF Tryz.prog 212 1 1:=⟨by kernel_rfl⟩
instance hYx:TBd Tryz.prog 212:=⟨by kernel_rfl⟩
instance hR1:TFS Tryz.prog 212 0 0 1:=⟨by kernel_rfl⟩
instance hR3:TFS Tryz.prog 212 1 1 3:=⟨by kernel_rfl⟩
instance jAj:TZ Tryz.prog 212 [.string ⟨#[]⟩,.int .i64 0,.string ⟨#[]⟩,.slice none 0 0]:=⟨by kernel_rfl⟩
instance jAk:TI Tryz.prog 221 false 1 24:=⟨by kernel_rfl⟩
instance jAl:TE Tryz.prog 221 223:=⟨by kernel_rfl⟩
instance jAm:TI Tryz.prog 223 true 2 40:=⟨by kernel_rfl⟩
instance hVh:TF Tryz.prog 223 0 0:=⟨by kernel_rfl⟩
instance hVi:TF Tryz.prog 223 1 1:=⟨by kernel_rfl⟩
instance hYy:TBd Tryz.prog 223:=⟨by kernel_rfl⟩
instance hR4:TFS Tryz.prog 223 0 0 1:=⟨by kernel_rfl⟩
instance hR5:TFS Tryz.prog 223 1 1 1:=⟨by kernel_rfl⟩
instance jAn:TZ Tryz.prog 223 [.string ⟨#[]⟩,.slice none 0 0]:=⟨by kernel_rfl⟩
instance hVk:TF Tryz.prog 230 0 0:=⟨by kernel_rfl⟩
instance hVl:TF Tryz.prog 230 1 1:=⟨by kernel_rfl⟩
instance hVm:TF Tryz.prog 230 2 2:=⟨by kernel_rfl⟩
instance hVn:TF Tryz.prog 230 3 3:=⟨by kernel_rfl⟩
instance hVo:TF Tryz.prog 230 4 4:=⟨by kernel_rfl⟩
instance hYz:TBd Tryz.prog 230:=⟨by kernel_rfl⟩
instance hR6:TFS Tryz.prog 230 0 0 1:=⟨by kernel_rfl⟩
instance jAo:TZ Tryz.prog 230 [.string ⟨#[]⟩,.int .i64 0,.int .i64 0,.int .i64 0,.bool false]:=⟨by kernel_rfl⟩
instance jCm:TP Tryz.prog 28:=by
 refine⟨?_⟩;intro w a b c d;refine⟨by kernel_rfl,?_⟩;have hund:Tryz.prog.underlying 28=some (.struct (Tryz.prog.fieldsOf 28)):=by kernel_rfl
 have hh:Tryz.prog.stoodInHeld 28=false:=by kernel_rfl
 have hf:(Tryz.prog.fieldsOf 28).toList=[{ name:= "Package",type:=3,offset:=0,embedded:=false,tag:= "",pkgPath:= "",byteOffset:=0 },{ name:= "At",type:=3,offset:=1,embedded:=false,tag:= "",pkgPath:= "",byteOffset:=8 }]:=by kernel_rfl
 have hi:Tryz.prog.underlying 3=some (.int .i64):=by kernel_rfl
 have hg:tyI Tryz.prog 3=some (false,1,8):=by kernel_rfl
 have hint:∀(d:Nat)(w:World)(a c:Int),(Op.equalIn (d+1) 3 (.int .i64 a) (.int .i64 c)).run Tryz.prog w=.ok (a==c) w:=by
  intro d w a c;simp [Op.equalIn,run_underlying hi]
 unfold Op.equal Op.maxDepth;rw [run_equalIn_struct w 9999 28 _ _ hund hh,hf];have h9:=hint 9998;rw [show 9998+1=9999 from rfl] at h9;by_cases h1:a=c<;>by_cases h2:b=d<;>simp [Op.eqFields,part,gLe hg,h9,h1,h2]
theorem jAp:Tryz.prog.follows .mixedOrders=true:=by kernel_rfl
instance:Mix Tryz.prog:=⟨jAp⟩
end Go.Proofs.YtfpdlnkkcnmebaaGreat
namespace Go.Eng
open Go Go.RowKit
end Go.Eng
