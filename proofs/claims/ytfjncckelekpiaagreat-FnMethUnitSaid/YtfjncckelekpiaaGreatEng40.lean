import Derived.Test.YtfjncckelekpiaaGreatEng36
import Derived.Test.YtfjncckelekpiaaGreatProg
set_option linter.unusedVariables false
set_option linter.unusedSimpArgs false
namespace Go.Eng
open Go Go.RowKit
section
variable {P:Program}{A:Amb}{ops:Array Oper}{K:St→Prop}{Q:Exit→St→Prop}{rest:List Oper}{σ:St}{fr:List (Nat × SV)}{L L1 L':List LO}{N i t:Nat}{sv:SV}{o:Oper}{c:Code}
variable {ty T:TypeId}{pos:String}{af:Array Edge}{x y:Operand}{g:Option (Nat × Bool)}{dst:Option Nat}{op:Op}
theorem gO7{α:Type}{e:α→U}{es:List α→List U}{z z':Nat}[E:Enc α e es z]{el:TypeId} [TE P T el]{T':TypeId}{l:List α}(hx:σ.ev x=.d (.sl z' (es l)):=by rfl):QR P σ ⟨dst,.call { callee:=.builtin .len,args:=#[x],argTypes:=#[T] },T',pos,af,g⟩ (.d (.i .i64 (l.length:Int))):=
 fun A fr' L' he _=>by
  rw [←Enc.len (es:=es) l];exact hUp (by rw [he x (by simp [Op.operands,Call.operands])];exact hx) TE.h
theorem hGe{α:Type}{e:α→U}{es:List α→List U}{z z':Nat}[E:Enc α e es z]{el:TypeId} [TE P T el]{T':TypeId}{l:List α}{i ver e':Nat}(hx:σ.ev x=.sl i ver:=by rfl)(hL:σ.L[i]? =some (.own e' z' ver (es l)):=by rfl):Quiet P A σ ⟨dst,.call { callee:=.builtin .len,args:=#[x],argTypes:=#[T] },T',pos,af,g⟩ (.d (.i .i64 (l.length:Int))):=by
 rw [←Enc.len (es:=es) l];exact hCq hx hL .own TE.h
theorem gO8{i off:Nat}(hx:σ.ev x=.ptr i off:=by rfl):QR P σ ⟨dst,.nilCheck x,ty,pos,af,g⟩ (.ptr i off):=fun A fr' L' he _=>Quiet.pure fun S env a w hH ho=>by
 have h1:=ho x (by simp [Op.operands]);rw [he x (by simp [Op.operands]),hx] at h1;refine⟨a.eval x,?_,h1⟩;simp only [SVr] at h1;obtain⟨b,_,hv⟩:=h1;simp [execOp,hv]
theorem hWu{j tj:Nat}{want x:Bool}{o':Oper}(h:VO P A ops rest ⟨(t,.tup [])::fr,L,N⟩ K)(hj:ops[j]? =some o':=by rfl)(hdst:o'.dst=some tj:=by rfl)(htj:Nat.blt tj N=true:=by rfl)(hb:look fr tj=.d (.b x):=by rfl)(hx:(x==want)=false:=by rfl)(ht:Nat.blt t N=true:=by rfl) :
  VO P A ops (⟨some t,op,ty,pos,af,some (j,want)⟩::rest) ⟨fr,L,N⟩ K:=by
 intro R hR a w ⟨S,env,hH,hf,hN,hd⟩;have h1:=h R hR (a.put (some t) undef) w (vZ hf hN hd ht hH Carry.refl (by simp only [SVr];exact⟨[],rfl,by simp [kV]⟩));have h2:=hf tj;rw [hb] at h2;have h3:=SVr.bool.1 h2;have ht':tj < a.tmps.size:=by rw [hN];simpa [Nat.blt_eq] using htj
 have hy:yielded ops a.tmps j=some x:=by
  simp only [yielded,hj,hdst,Option.bind_some]
  have:a.tmps[tj]? =some (.bool x):=by
   rw [Array.getD_eq_getD_getElem?,Array.getElem?_eq_getElem ht'] at h3;rw [Array.getElem?_eq_getElem ht'];have h3':a.tmps[tj]=.bool x:=by simpa using h3
   rw [h3']
  rw [this]
 unfold wpList;simp only [Region.wanted,hy];have hne:(some x==some want)=false:=by simpa using hx
 rw [hne];exact h1
theorem hWv{j tj:Nat}{want:Bool}{o':Oper}(h:VO P A ops rest ⟨(t,.tup [])::fr,L,N⟩ K)(hj:ops[j]? =some o':=by rfl)(hdst:o'.dst=some tj:=by rfl)(htj:Nat.blt tj N=true:=by rfl)(hb:look fr tj=.tup []:=by rfl)(ht:Nat.blt t N=true:=by rfl) :
  VO P A ops (⟨some t,op,ty,pos,af,some (j,want)⟩::rest) ⟨fr,L,N⟩ K:=by
 intro R hR a w ⟨S,env,hH,hf,hN,hd⟩;have h1:=h R hR (a.put (some t) undef) w (vZ hf hN hd ht hH Carry.refl (by simp only [SVr];exact⟨[],rfl,by simp [kV]⟩));have h2:=hf tj;rw [hb] at h2;simp only [SVr] at h2;obtain⟨vs,h3,h4⟩:=h2;have hvs:vs=[]:=by cases vs with
  | nil=>rfl
  | cons _ _=>simp [kV] at h4
 subst hvs;have ht':tj < a.tmps.size:=by rw [hN];simpa [Nat.blt_eq] using htj
 have hy:yielded ops a.tmps j=none:=by
  simp only [yielded,hj,hdst,Option.bind_some]
  have:a.tmps[tj]? =some (.tuple #[]):=by
   rw [Array.getD_eq_getD_getElem?,Array.getElem?_eq_getElem ht'] at h3;rw [Array.getElem?_eq_getElem ht'];have h3':a.tmps[tj]=.tuple #[]:=by simpa using h3
   rw [h3']
  rw [this]
 unfold wpList;simp only [Region.wanted,hy];have hne:((none:Option Bool)==some want)=false:=by rfl
 rw [hne];exact h1
def gZ4(L:List LO)(ρ:Nat→Nat):Nat→List LO→Prop
 | _,[]=>True
 | m,o::os=>L[ρ m]? =some (o.ren ρ)∧gZ4 L ρ (m+1) os
theorem gR1{L:List LO}{ρ:Nat→Nat}:∀{Lc:List LO}{n:Nat},gZ4 L ρ n Lc→∀(m:Nat)(o:LO),Lc[m]? =some o→L[ρ (n+m)]? =some (o.ren ρ)
 | [],_,_,m,o,h=>by simp at h
 | o0::os,n,hp,0,o,h=>by simp at h;subst h;exact hp.1
 | o0::os,n,hp,m+1,o,h=>by
   have:=gR1 hp.2 m o (by simpa using h)
   rwa [show n+1+m=n+(m+1) by omega] at this
theorem gLg {f:Operand}{fi:Nat}{caps:List SV}{args:Array Operand}{at_:Array TypeId}{cargs:List SV}{Lc:List LO}{Q:SV→List LO→Prop}(js:List Nat)(hspec:Spec P fi cargs Lc Q)
  (h:∀(sv:SV)(Lo:List LO),Q sv Lo→VO P A ops rest ⟨(t,sv.ren (rn js L.length))::fr,gNn js (Lo.map (LO.ren (rn js L.length))) L,N⟩ K)
  (hf:(St.mk fr L N).ev f=.fn fi caps:=by rfl) (hp:gZ4 L (rn js L.length) 0 Lc:=by((repeat(first | exact trivial | exact rfl | refine And.intro ?_ ?_));first | done | fail))
  (hjs:(decide js.Nodup && (js.all fun j=>Nat.blt j L.length) && js.length==Lc.length && LO.lts Lc.length Lc)=true:=by rfl)
  (hargs:AGs L (rn js L.length) Lc.length (args.toList.map (St.mk fr L N).ev++caps) cargs:=by((repeat(first | exact trivial | exact .inl ⟨rfl,rfl⟩ | exact .inr ⟨_,rfl,by((repeat(first | exact trivial | exact rfl | exact⟨_,rfl⟩ | refine And.intro ?_ ?_));first | done | fail)⟩ | refine And.intro ?_ ?_));first | done | fail))
  (ht:Nat.blt t N=true:=by rfl) :
  VO P A ops (⟨some t,.call { callee:=.value f,args:=args,argTypes:=at_ },ty,pos,af,none⟩::rest) ⟨fr,L,N⟩ K:=by
 have hjs':=hjs;simp only [Bool.and_eq_true,decide_eq_true_eq,List.all_eq_true,Nat.blt_eq,beq_iff_eq] at hjs';obtain⟨⟨⟨hnd,hlt⟩,hn⟩,hlts⟩:=hjs';refine hQc js hf hspec ⟨fun m o ho=>by simpa using gR1 hp m o ho,fun m m' _ _ he=>hMm hlt hnd he,hlts⟩ ?_ hargs ht h;simp only [Bool.and_eq_true,decide_eq_true_eq,List.all_eq_true,Nat.blt_eq,beq_iff_eq];exact⟨⟨hnd,hlt⟩,hn⟩
theorem jFr {fn:Func}{Q:SV→List LO→Prop}{n:Nat}(svs:List SV)(Lo:List LO)(hq:Q (mkG svs) Lo)(hL:∃L2,σ.L=Lo++L2:=by exact⟨_,rfl⟩)(hl:(LO.lts Lo.length Lo && SV.lts Lo.length svs && Nat.ble n Lo.length)=true:=by rfl)
  (hr:hEf P σ fn.results.toList svs:=by((repeat(first | exact .nil | refine .data rfl rfl ?_ | refine .same rfl ?_ | refine .data (gMg rfl rfl TI.h rfl rfl) (by((repeat(first | exact trivial | exact rfl | exact⟨_,rfl⟩ | refine And.intro ?_ ?_));first | done | fail)) ?_));first | done | fail)):uI P fn Q n .normal σ:=by
 obtain⟨L2,hL⟩:=hL;exact⟨trivial,svs,Lo,L2,hL,hl,hq,hr⟩
theorem jFs {fn:Func}{Q:SV→List LO→Prop}{n:Nat}(svs:List SV)(Lo:List LO)(hq:Q (mkG svs) Lo)(hL:∃L2,σ.L=Lo++L2:=by exact⟨_,rfl⟩)(hl:(LO.lts Lo.length Lo && SV.lts Lo.length svs && Nat.ble n Lo.length)=true:=by rfl)
  (hr:hEf P σ fn.results.toList svs:=by((repeat(first | exact .nil | refine .data rfl rfl ?_ | refine .same rfl ?_ | refine .data (gMg rfl rfl TI.h rfl rfl) (by((repeat(first | exact trivial | exact rfl | exact⟨_,rfl⟩ | refine And.intro ?_ ?_));first | done | fail)) ?_));first | done | fail)):uI P fn Q n .ret σ:=⟨trivial,(jFr svs Lo hq hL hl hr).2⟩
theorem mM{fn:Func}{us:List U}(h:hD9 P σ fn.results.toList us:=by((repeat(first | exact trivial | exact⟨_,rfl,rfl⟩ | exact⟨_,rfl,⟨_,rfl⟩⟩ | exact⟨_,gMg rfl rfl TI.h rfl rfl,(by(repeat(first | exact trivial | exact rfl | exact⟨_,rfl⟩ | refine And.intro ?_ ?_));first | done | fail)⟩ | exact⟨_,ResV_one rfl rfl TI.h rfl,rfl⟩ | refine And.intro ?_ ?_));first | done | fail)):vF P fn us .ret σ:=⟨trivial,h⟩
theorem hCk{fn:Func}{es:List TypeId}{us:List U}{ps:List (Option Nat)}(h:ROs P σ fn.results.toList us es ps:=by((repeat(first | exact rfl | exact gMg rfl rfl TI.h rfl rfl | exact ResV_one rfl rfl TI.h rfl | constructor));first | done | fail))(hn:decide ((ps.filterMap id).Nodup)=true:=by rfl):uW P fn es us .ret σ:=⟨trivial,ps,h,hn⟩
theorem gZ5 {f:Operand}{fi:Nat}{caps:List SV}{args:Array Operand}{at_:Array TypeId}{dargs:List SV}{us:List U}(hspec:gW P fi (dargs++caps) us)(hc:SV.lts 0 caps=true)(hf:σ.ev f=.fn fi caps:=by rfl)
  (hargs:∀L',VAs L' (args.toList.map σ.ev) dargs:=by(intro L';(repeat(first | exact trivial | exact rfl | exact⟨_,rfl⟩ | refine And.intro ?_ ?_));first | done | fail)) :
  QR P σ ⟨dst,.call { callee:=.value f,args:=args,argTypes:=at_ },ty,pos,af,g⟩ (mkR us):=
 fun A fr' L' he _=>hT4 (by rw [he f (by simp [Op.operands,Call.operands])];exact hf) hspec (by
  have:args.toList.map (St.ev ⟨fr',L',σ.N⟩)=args.toList.map σ.ev:=List.map_congr_left fun x hx=>he x (by simp only [Op.operands,Call.operands];simp;exact .inr (by simpa using hx))
  rw [this]
  exact hargs L') hc
theorem gFh{e z bs:Nat}{gg:Bool} [TE P T e] [TI P e gg z bs](h:VO P A ops rest ⟨(t,.sl i 0)::fr,L',N⟩ K)(ht:Nat.blt t N=true:=by rfl)(hL':Sn (.own e z 0 []) L i L':=by repeat constructor) :
  VO P A ops (⟨some t,.buildSlice T 0 #[],ty,pos,af,none⟩::rest) ⟨fr,L,N⟩ K:=hF8 TE.h TI.h ht hL' h
theorem hWx {e z bs:Nat}{gg:Bool} [TE P T e] [TI P e gg z bs] {zs:List Value} [TZ P e zs] {u:U} {js:List Nat} (h:VO P A ops rest ⟨(t,.sl i 0)::fr,L',N⟩ K) (hy:OV L ((St.mk fr L N).ev x) u js:=by((repeat constructor);first | done | fail)) (hjs:decide js.Nodup=true:=by decide)
  (hz:(Nat.blt 0 z && Nat.blt z 16777216 && zs.length==z)=true:=by rfl) (hu:u.sz=z:=by rfl) (ht:Nat.blt t N=true:=by rfl) (hk1:KR js L L1:=by repeat constructor) (hL':Sn (.own e z 0 [u]) L1 i L':=by repeat constructor) :
  VO P A ops (⟨some t,.buildSlice T 1 #[(0,x)],ty,pos,af,none⟩::rest) ⟨fr,L,N⟩ K:=gZt hy hjs TE.h TI.h TZ.h hz hu ht hk1 hL' h
theorem uN {e z bs:Nat}{gg:Bool} [TE P T e] [TI P e gg z bs] {zs:List Value} [TZ P e zs] {u:U} (h:VO P A ops rest ⟨(t,.sl i 0)::fr,L',N⟩ K) (hy:VD L ((St.mk fr L N).ev x) u:=by((repeat(first | exact trivial | exact rfl | exact⟨_,rfl⟩ | refine And.intro ?_ ?_));first | done | fail))
  (hz:(Nat.blt 0 z && Nat.blt z 16777216 && zs.length==z)=true:=by rfl) (hu:u.sz=z:=by rfl) (ht:Nat.blt t N=true:=by rfl) (hL':Sn (.arr e z 0 [u]) L i L':=by repeat constructor) :
  VO P A ops (⟨some t,.buildSlice T 1 #[(0,x)],ty,pos,af,none⟩::rest) ⟨fr,L,N⟩ K:=by
 obtain⟨hi,hL''⟩:=hL'.spec;subst hi;subst hL'';have hT:tyE P T=some e:=TE.h;have he:tyI P e=some (gg,z,bs):=TI.h;have hZ:tyZ P e=some zs:=TZ.h;simp only [Bool.and_eq_true,Nat.blt_eq,beq_iff_eq] at hz;refine gH9 rfl (fun S env a w hH hf hN hd=>?_) h;have hr:=VD.r hH hy (mP.ev hf hH x);simp only [SVr] at hr;obtain⟨cs,c1,c2⟩:=hr;have hcells:(a.eval x).cells.toList=cs:=by rw [c1];exact gW4 c2
 have hcl:=Rd.length _ _ c2;rw [hu] at hcl;obtain⟨zv,hrz,hzc⟩:=gR4 hZ w;have hsz:(a.eval x).cells.size=z:=by rw [←hcl,←hcells];simp
 have hold:∀b,b < w.heap.size→(w.alloc (.cells (a.eval x).cells e)).heap[b]? =w.heap[b]? :=fun b hb=>heap_alloc_old w _ hb
 obtain⟨hH',C⟩:=hH.new (w':=w.alloc (.cells (a.eval x).cells e)) (.arr e z 0 [u]) (.slice (some ⟨w.heap.size,0,none⟩) 1 1) (by simp) hold rfl rfl rfl
  (fun b hb=>by simp [LO.ft,blk] at hb;subst hb;simp)
  (fun C=>⟨by simp [gAy],by simpa using hu,cs,⟨by simp [hcl],.inr ⟨w.heap.size,1,_,rfl,Nat.zero_le _,heap_alloc_new w _,Nat.le_refl _,by simp [maxLen],by rw [hsz];simp,by rw [hcells];rw [List.take_of_length_le (by simp [hcl])]⟩⟩,by
   have:=c2.mono C.hS C.hw
   simp only [Rds]
   exact⟨cs,[],by simp,this,rfl⟩⟩)
 refine⟨.value (.slice (some ⟨w.heap.size,0,none⟩) 1 1),_,?_,.inl ⟨_,rfl,vZ hf hN hd ht hH' C ?_⟩⟩
 ·have hzs:zv.cells.size=z:=by rw [←hz.2,←hzc];simp
  have hfill:Instr.fill (fun i=>some (i*z,z)) ((Array.range (1*z)).map (zv.cells[· % zv.cells.size]!)) [(0,a.eval x)]=some (a.eval x).cells:=by
   rw [gUk (off:=0) (n:=z) (by simp) hsz (by simp)];simp only [Instr.fill,Option.some.injEq,List.take_zero,List.nil_append,Nat.zero_add];apply Array.ext';simp
  have h1:¬z > 2^24:=by omega
  have h2:¬z=0:=by omega
  simp only [Nat.one_mul] at hfill;simp [execOp,Instr.buildSlice,run_underlying (gA8 hT),run_sizeOf he,hrz,h1,h2,newRow];simp only [gt_iff_lt] at h1;simp [hfill]
 ·simp only [SVr];exact⟨.slice (some ⟨w.heap.size,0,none⟩) 1 1,.arr e z 0 [u],by rw [←hH.len];simp,by simp,Nat.le_refl _,rfl,fun _=>rfl⟩
theorem gDj {α:Type}{en:α→U}{es:List α→List U}{z:Nat}[E:Enc α en es z]{l r:List α}(hg:l.length+r.length≤4294967296){e bs ver:Nat}{gg:Bool} [TE P T e] [TI P e gg z bs] {zs:List Value} [TZ P e zs] {js:List Nat} {T':TypeId}
  (h:VO P A ops rest ⟨(t,.sl i (ver+1))::fr,L',N⟩ K) (hx:(St.mk fr L N).ev x=.sl i ver:=by rfl) (hL:L[i]? =some (.own e z ver (es l)):=by rfl) (hs:hOp L z ((St.mk fr L N).ev y) (es r) js:=by first | exact .own rfl | exact .nil | exact .data (Enc.all _) (gS7 _) | exact .data (Enc.all _) (gS8 _))
  (hjs:(decide js.Nodup && !js.contains i)=true:=by decide) (hz:(Nat.blt 0 z && zs.length==z)=true:=by rfl) (hb:Nat.ble bs 32768=true:=by rfl)
  (ht:Nat.blt t N=true:=by rfl) (hk1:KR js L L1:=by repeat constructor) (hL':St1 (.own e z (ver+1) (es (l++r))) i L1 L':=by repeat constructor) :
  VO P A ops (⟨some t,.call { callee:=.builtin .append,args:=#[x,y],argTypes:=#[T,T] },T',pos,af,none⟩::rest) ⟨fr,L,N⟩ K:=by
 have h1:(es l).length=l.length:=Enc.len l;have h2:(es r).length=r.length:=Enc.len r;have hb:=Nat.le_of_ble_eq_true hb;rw [Enc.app (es:=es)] at hL';refine hCb hx hL hs hjs TE.h TI.h TZ.h hz (by rw [gAy];omega) ?_ ht hk1 hL' h;rw [h1,h2];exact Nat.le_trans (Nat.mul_le_mul hg hb) (by decide)
theorem mP.freezeO{a:Act}{w:World}{i e z ver:Nat}{es:List U}(hL:σ.L[i]? =some (.own e z ver es))(h:mP A σ a w):mP A ⟨σ.fr,σ.L.set i (.frz e z ver es),σ.N⟩ a w:=by
 obtain⟨S,env,hH,hf,hN,hd⟩:=h;have hi:=(List.getElem?_eq_some_iff.1 hL).1;have hie:i < env.length:=by rw [hH.len];exact hi
 obtain⟨hv,he⟩:∃hv,env[i]? =some hv:=⟨_,List.getElem?_eq_getElem hie⟩
 have hob:=hH.objs i _ hv hL he;let S':Nat→Prop:=fun b=>S b∨b∈(U.sl z es).fp w [hv];have hset:∀(j:Nat)(o':LO),(σ.L.set i (.frz e z ver es))[j]? =some o'→(j=i∧o'=.frz e z ver es)∨(j≠i∧σ.L[j]? =some o'):=by
  intro j o' hj;by_cases hij:i=j
  ·subst hij;rw [List.getElem?_set_self hi] at hj;exact .inl ⟨rfl,(Option.some.inj hj).symm⟩
  ·rw [List.getElem?_set_ne hij] at hj;exact .inr ⟨fun e=>hij e.symm,hj⟩
 have C:Carry S σ.L env w S' (σ.L.set i (.frz e z ver es)) env w:=by
  refine⟨fun b hb _=>.inl hb,fun _ _ _=>rfl,fun _ _ h=>h,fun j hv' o' h1 h2=>?_⟩;by_cases hij:i=j
  ·subst hij;rw [hL] at h2;obtain rfl:=Option.some.inj h2;exact⟨hv',.frz e z ver es,h1,by rw [List.getElem?_set_self hi],Nat.le_refl _,fun _=>rfl⟩
  ·exact⟨hv',o',h1,by rw [List.getElem?_set_ne hij];exact h2,Nat.le_refl _,fun _=>rfl⟩
 refine⟨S',env,⟨by simp [hH.len],?_,?_,?_,?_,?_,hH.frame,hH.size,hH.os,hH.tape,hH.output,hH.base.carry C hH.len (by simp),hH.glob⟩,fun t=>SVr.carry C _ _ (hf t),hN,hd⟩
 ·intro j o' hv' h1 h2;rcases hset j o' h1 with ⟨rfl,rfl⟩ | ⟨hj,h3⟩
  ·rw [he] at h2;obtain rfl:=Option.some.inj h2;exact⟨[hv],rfl,Tr.rd _ _ (gWu hob) (fun b hb=>.inr hb)⟩
  ·exact gLm.carry C (fun _ _ _=>rfl) (hH.objs j o' hv' h3 h2)
 ·intro j o' hv' b h1 hl h2 hb;rcases hset j o' h1 with ⟨rfl,rfl⟩ | ⟨hj,h3⟩
  ·cases hl
  ·have:=hH.excl j o' hv' b h3 hl h2 hb
   refine⟨fun hs=>hs.elim this.1 (fun hs=>hj (hH.dist j i o' _ hv' hv b h3 hL hl rfl h2 he hb (show(LO.own e z ver es).ft w hv b from hs))),this.2⟩
 ·intro j j' o1 o1' hv1 hv1' k h1 h2 hl1 hl2 e1 e2 b1 b2;rcases hset j o1 h1 with ⟨rfl,rfl⟩ | ⟨hj,h3⟩
  ·cases hl1
  ·rcases hset j' o1' h2 with ⟨rfl,rfl⟩ | ⟨hj',h3'⟩
   ·cases hl2
   ·exact hH.dist j j' o1 o1' hv1 hv1' k h3 h3' hl1 hl2 e1 e2 b1 b2
 ·intro b hb;rcases hb with hb | hb
  ·exact hH.sS b hb
  ·exact(hH.excl i _ hv b hL rfl he hb).2.2
 ·intro b hb;rcases hb with hb | hb
  ·exact hH.sA b hb
  ·exact .inr (hH.excl i _ hv b hL rfl he hb).2.1
theorem qW(i:Nat){e z ver:Nat}{es:List U}(hL:L[i]? =some (.own e z ver es))(hL':L.set i (.frz e z ver es)=L')(h:V P A c ⟨fr,L',N⟩ Q):V P A c ⟨fr,L,N⟩ Q:=by
 subst hL';exact fun a w hr=>h a w (hr.freezeO (σ:=⟨fr,L,N⟩) hL)
theorem gS9(i:Nat){e z ver:Nat}{es:List U}(hL:L[i]? =some (.own e z ver es))(hL':L.set i (.frz e z ver es)=L')(h:VO P A ops rest ⟨fr,L',N⟩ K):VO P A ops rest ⟨fr,L,N⟩ K:=by
 subst hL';exact fun R hR a w hr=>h R hR a w (hr.freezeO (σ:=⟨fr,L,N⟩) hL)
theorem gB0{α:Type}{e:α→U}{es:List α→List U}{z:Nat}[E:Enc α e es z]{l:List α}{z':Nat}(j:Nat)(h:l.length≤140737488355328→V P A c ⟨fr,L,N⟩ Q)(hb:look fr j=.d (.sl z' (es l)):=by rfl):V P A c ⟨fr,L,N⟩ Q:=by
 intro a w hr;refine h ?_ a w hr;obtain⟨S,env,hH,hf,hN,hd⟩:=hr
 have:=hf j
 simp only at this;rw [hb] at this
 have:=(SVr.slice.1 this).1
 rwa [Enc.len,gAy] at this
theorem pG{α:Type}{e:α→U}{es:List α→List U}{z:Nat}[E:Enc α e es z]{l:List α}{z':Nat}{cs:List SV}(i j:Nat)(h:l.length≤140737488355328→V P A c ⟨fr,L,N⟩ Q)(hL:L[i]? =some (.box cs):=by rfl)(hb:cs[j]? =some (.d (.sl z' (es l))):=by rfl):V P A c ⟨fr,L,N⟩ Q:=by
 intro a w hr;refine h ?_ a w hr;obtain⟨S,env,hH,hf,hN,hd⟩:=hr;obtain⟨hv,he⟩:∃hv,env[i]? =some hv:=⟨_,List.getElem?_eq_getElem (by rw [hH.len];exact(List.getElem?_eq_some_iff.1 hL).1)⟩
 obtain⟨b,vals,e',r1,r2,r3,r4⟩:=hH.objs i _ hv hL he;obtain⟨v,v1,v2⟩:=kV.get r3 j _ hb
 have:=(SVr.slice.1 v2).1
 rwa [Enc.len,gAy] at this
theorem hQf{l:LB}(j:Nat)(h:l.length≤140737488355328→V P A c ⟨fr,L,N⟩ Q)(hb:look fr j=.d (.s l):=by rfl):V P A c ⟨fr,L,N⟩ Q:=by
 intro a w hr;refine h ?_ a w hr;obtain⟨S,env,hH,hf,hN,hd⟩:=hr
 have:=hf j
 simp only at this;rw [hb] at this
 have:=(SVr.str.1 this).1
 rwa [gAy] at this
theorem hWy{l:LB}{cs:List SV}(i j:Nat)(h:l.length≤140737488355328→V P A c ⟨fr,L,N⟩ Q)(hL:L[i]? =some (.box cs):=by rfl)(hb:cs[j]? =some (.d (.s l)):=by rfl):V P A c ⟨fr,L,N⟩ Q:=by
 intro a w hr;refine h ?_ a w hr;obtain⟨S,env,hH,hf,hN,hd⟩:=hr;obtain⟨hv,he⟩:∃hv,env[i]? =some hv:=⟨_,List.getElem?_eq_getElem (by rw [hH.len];exact(List.getElem?_eq_some_iff.1 hL).1)⟩
 obtain⟨b,vals,e',r1,r2,r3,r4⟩:=hH.objs i _ hv hL he;obtain⟨v,v1,v2⟩:=kV.get r3 j _ hb
 have:=(SVr.str.1 v2).1
 rwa [gAy] at this
end
theorem goY {X Y:Prop}(hy:Y)(h:Y→X:=by
  intro hy
  repeat(first | refine VY_rj rfl gO7 ?_ | refine VY_rj rfl gO8 ?_ | refine jFn rfl ?_ (by(repeat constructor);first | done | fail) | refine jFo rfl (by repeat constructor) (by repeat(first | exact gDf.nil | (apply gDf.keep;focus ((repeat constructor);done)) | (apply gDf.dep;focus kernel_rfl))) ?_)
  exact hy):X:=h hy
end Go.Eng
namespace Go.Proofs.YtfjncckelekpiaaGreat
open Go Go.Eng
instance ti3:TI Tryz.prog 3 false 1 8:=⟨by kernel_rfl⟩
instance tz3:TZ Tryz.prog 3 [.int .i64 0]:=⟨by kernel_rfl⟩
instance ti4:TI Tryz.prog 4 false 1 1:=⟨by kernel_rfl⟩
instance tb4:TB Tryz.prog 4:=⟨by kernel_rfl⟩
instance ti5:TI Tryz.prog 5 false 1 1:=⟨by kernel_rfl⟩
instance tz5:TZ Tryz.prog 5 [.int .u8 0]:=⟨by kernel_rfl⟩
instance ti9:TI Tryz.prog 9 false 1 16:=⟨by kernel_rfl⟩
instance jKj:TS Tryz.prog 9:=⟨by kernel_rfl⟩
instance tz9:TZ Tryz.prog 9 [.string ⟨#[]⟩]:=⟨by kernel_rfl⟩
instance jKk:TI Tryz.prog 22 false 1 24:=⟨by kernel_rfl⟩
instance jKl:TE Tryz.prog 22 5:=⟨by kernel_rfl⟩
instance jKm:TI Tryz.prog 24 false 1 24:=⟨by kernel_rfl⟩
instance jKn:TE Tryz.prog 24 86:=⟨by kernel_rfl⟩
instance jKo:TI Tryz.prog 26 true 1 24:=⟨by kernel_rfl⟩
instance jFt:TF Tryz.prog 26 0 0:=⟨by kernel_rfl⟩
instance jIm:TBd Tryz.prog 26:=⟨by kernel_rfl⟩
instance jKp:TZ Tryz.prog 26 [.slice none 0 0]:=⟨by kernel_rfl⟩
instance jKq:TI Tryz.prog 27 false 1 24:=⟨by kernel_rfl⟩
instance jKr:TE Tryz.prog 27 50:=⟨by kernel_rfl⟩
instance jKs:TI Tryz.prog 29 true 2 16:=⟨by kernel_rfl⟩
instance jFu:TF Tryz.prog 29 0 0:=⟨by kernel_rfl⟩
instance jFv:TF Tryz.prog 29 1 1:=⟨by kernel_rfl⟩
instance jIn:TBd Tryz.prog 29:=⟨by kernel_rfl⟩
instance jBj:TFS Tryz.prog 29 0 0 1:=⟨by kernel_rfl⟩
instance jBk:TFS Tryz.prog 29 1 1 1:=⟨by kernel_rfl⟩
instance jKt:TZ Tryz.prog 29 [.int .i64 0,.int .i64 0]:=⟨by kernel_rfl⟩
instance jKu:TI Tryz.prog 30 false 1 24:=⟨by kernel_rfl⟩
instance jKv:TE Tryz.prog 30 3:=⟨by kernel_rfl⟩
instance jKw:TZ Tryz.prog 30 [.slice none 0 0]:=⟨by kernel_rfl⟩
instance jKx:TI Tryz.prog 31 false 1 24:=⟨by kernel_rfl⟩
instance jKy:TE Tryz.prog 31 33:=⟨by kernel_rfl⟩
instance jKz:TI Tryz.prog 33 true 5 72:=⟨by kernel_rfl⟩
instance jFw:TF Tryz.prog 33 0 0:=⟨by kernel_rfl⟩
instance jFx:TF Tryz.prog 33 1 1:=⟨by kernel_rfl⟩
instance jFy:TF Tryz.prog 33 2 3:=⟨by kernel_rfl⟩
instance jFz:TF Tryz.prog 33 3 4:=⟨by kernel_rfl⟩
instance jIo:TBd Tryz.prog 33:=⟨by kernel_rfl⟩
instance jBl:TFS Tryz.prog 33 0 0 1:=⟨by kernel_rfl⟩
instance jBm:TFS Tryz.prog 33 1 1 2:=⟨by kernel_rfl⟩
instance jBn:TFS Tryz.prog 33 2 3 1:=⟨by kernel_rfl⟩
instance jK0:TZ Tryz.prog 33 [.int .i64 0,.int .i64 0,.int .i64 0,.slice none 0 0,.slice none 0 0]:=⟨by kernel_rfl⟩
instance jK1:TI Tryz.prog 38 false 1 24:=⟨by kernel_rfl⟩
instance jK2:TE Tryz.prog 38 9:=⟨by kernel_rfl⟩
instance jK3:TI Tryz.prog 39 false 1 24:=⟨by kernel_rfl⟩
instance jK4:TE Tryz.prog 39 110:=⟨by kernel_rfl⟩
instance jK5:TI Tryz.prog 40 false 1 24:=⟨by kernel_rfl⟩
instance jK6:TE Tryz.prog 40 225:=⟨by kernel_rfl⟩
instance jK7:TI Tryz.prog 41 false 1 24:=⟨by kernel_rfl⟩
instance jK8:TE Tryz.prog 41 43:=⟨by kernel_rfl⟩
instance jK9:TI Tryz.prog 43 true 3 48:=⟨by kernel_rfl⟩
instance jF0:TF Tryz.prog 43 0 0:=⟨by kernel_rfl⟩
instance jF1:TF Tryz.prog 43 1 1:=⟨by kernel_rfl⟩
instance jF2:TF Tryz.prog 43 2 2:=⟨by kernel_rfl⟩
instance jIp:TBd Tryz.prog 43:=⟨by kernel_rfl⟩
instance jBo:TFS Tryz.prog 43 0 0 1:=⟨by kernel_rfl⟩
instance jBp:TFS Tryz.prog 43 1 1 1:=⟨by kernel_rfl⟩
instance jBq:TFS Tryz.prog 43 2 2 1:=⟨by kernel_rfl⟩
instance jLa:TZ Tryz.prog 43 [.int .i64 0,.string ⟨#[]⟩,.slice none 0 0]:=⟨by kernel_rfl⟩
instance jLb:TI Tryz.prog 44 false 1 24:=⟨by kernel_rfl⟩
instance jLc:TE Tryz.prog 44 106:=⟨by kernel_rfl⟩
instance jLd:TI Tryz.prog 45 false 1 24:=⟨by kernel_rfl⟩
instance jLe:TE Tryz.prog 45 48:=⟨by kernel_rfl⟩
instance jLf:TI Tryz.prog 46 false 1 24:=⟨by kernel_rfl⟩
instance jLg:TE Tryz.prog 46 312:=⟨by kernel_rfl⟩
instance jLh:TI Tryz.prog 48 true 11 192:=⟨by kernel_rfl⟩
instance jF3:TF Tryz.prog 48 0 0:=⟨by kernel_rfl⟩
instance jF4:TF Tryz.prog 48 1 1:=⟨by kernel_rfl⟩
instance jF5:TF Tryz.prog 48 2 2:=⟨by kernel_rfl⟩
instance jF6:TF Tryz.prog 48 3 3:=⟨by kernel_rfl⟩
instance jF7:TF Tryz.prog 48 4 4:=⟨by kernel_rfl⟩
instance jF8:TF Tryz.prog 48 5 7:=⟨by kernel_rfl⟩
instance jF9:TF Tryz.prog 48 6 8:=⟨by kernel_rfl⟩
instance jGa:TF Tryz.prog 48 7 9:=⟨by kernel_rfl⟩
instance jGb:TF Tryz.prog 48 8 10:=⟨by kernel_rfl⟩
instance jIq:TBd Tryz.prog 48:=⟨by kernel_rfl⟩
instance jBr:TFS Tryz.prog 48 0 0 1:=⟨by kernel_rfl⟩
instance jBs:TFS Tryz.prog 48 1 1 1:=⟨by kernel_rfl⟩
instance jBt:TFS Tryz.prog 48 2 2 1:=⟨by kernel_rfl⟩
instance jBu:TFS Tryz.prog 48 3 3 1:=⟨by kernel_rfl⟩
instance jBv:TFS Tryz.prog 48 4 4 3:=⟨by kernel_rfl⟩
instance jBw:TFS Tryz.prog 48 5 7 1:=⟨by kernel_rfl⟩
instance jBx:TFS Tryz.prog 48 6 8 1:=⟨by kernel_rfl⟩
instance jBy:TFS Tryz.prog 48 7 9 1:=⟨by kernel_rfl⟩
instance jLi:TZ Tryz.prog 48 [.int .i64 0,.string ⟨#[]⟩,.string ⟨#[]⟩,.int .i64 0,.int .i64 0,.string ⟨#[]⟩,.slice none 0 0,.slice none 0 0,.slice none 0 0,.slice none 0 0,.slice none 0 0]:=⟨by kernel_rfl⟩
instance jLj:TI Tryz.prog 50 true 21 344:=⟨by kernel_rfl⟩
instance jGc:TF Tryz.prog 50 0 0:=⟨by kernel_rfl⟩
instance jGd:TF Tryz.prog 50 1 1:=⟨by kernel_rfl⟩
instance jGe:TF Tryz.prog 50 2 2:=⟨by kernel_rfl⟩
instance jGf:TF Tryz.prog 50 3 3:=⟨by kernel_rfl⟩
instance jGg:TF Tryz.prog 50 5 5:=⟨by kernel_rfl⟩
instance jGh:TF Tryz.prog 50 6 6:=⟨by kernel_rfl⟩
instance jGi:TF Tryz.prog 50 7 7:=⟨by kernel_rfl⟩
instance jGj:TF Tryz.prog 50 8 10:=⟨by kernel_rfl⟩
instance jIr:TBd Tryz.prog 50:=⟨by kernel_rfl⟩
instance jBz:TFS Tryz.prog 50 0 0 1:=⟨by kernel_rfl⟩
instance jB0:TFS Tryz.prog 50 1 1 1:=⟨by kernel_rfl⟩
instance jB1:TFS Tryz.prog 50 2 2 1:=⟨by kernel_rfl⟩
instance jB2:TFS Tryz.prog 50 3 3 1:=⟨by kernel_rfl⟩
instance jB3:TFS Tryz.prog 50 4 4 1:=⟨by kernel_rfl⟩
instance jB4:TFS Tryz.prog 50 5 5 1:=⟨by kernel_rfl⟩
instance jB5:TFS Tryz.prog 50 6 6 1:=⟨by kernel_rfl⟩
instance jB6:TFS Tryz.prog 50 7 7 3:=⟨by kernel_rfl⟩
instance jLk:TZ Tryz.prog 50 [.int .i64 0,.int .i64 0,.int .i64 0,.int .i64 0,.slice none 0 0,.slice none 0 0,.slice none 0 0,.int .i64 0,.string ⟨#[]⟩,.slice none 0 0,.int .i64 0,.string ⟨#[]⟩,.string ⟨#[]⟩,.int .i64 0,.int .i64 0,.string ⟨#[]⟩,.slice none 0 0,.slice none 0 0,.slice none 0 0,.slice none 0 0,.slice none 0 0]:=⟨by kernel_rfl⟩
instance jLl:TI Tryz.prog 55 false 1 24:=⟨by kernel_rfl⟩
instance jLm:TE Tryz.prog 55 98:=⟨by kernel_rfl⟩
instance jLn:TI Tryz.prog 60 false 1 24:=⟨by kernel_rfl⟩
instance jLo:TE Tryz.prog 60 116:=⟨by kernel_rfl⟩
instance jLp:TI Tryz.prog 62 true 12 192:=⟨by kernel_rfl⟩
instance jGk:TF Tryz.prog 62 0 0:=⟨by kernel_rfl⟩
instance jGl:TF Tryz.prog 62 1 1:=⟨by kernel_rfl⟩
instance jGm:TF Tryz.prog 62 2 2:=⟨by kernel_rfl⟩
instance jGn:TF Tryz.prog 62 3 5:=⟨by kernel_rfl⟩
instance jGo:TF Tryz.prog 62 4 6:=⟨by kernel_rfl⟩
instance jGp:TF Tryz.prog 62 5 7:=⟨by kernel_rfl⟩
instance jGq:TF Tryz.prog 62 6 8:=⟨by kernel_rfl⟩
instance jGr:TF Tryz.prog 62 7 11:=⟨by kernel_rfl⟩
instance jIs:TBd Tryz.prog 62:=⟨by kernel_rfl⟩
instance jB7:TFS Tryz.prog 62 0 0 1:=⟨by kernel_rfl⟩
instance jB8:TFS Tryz.prog 62 1 1 1:=⟨by kernel_rfl⟩
instance jB9:TFS Tryz.prog 62 2 2 3:=⟨by kernel_rfl⟩
instance jCa:TFS Tryz.prog 62 3 5 1:=⟨by kernel_rfl⟩
instance jCb:TFS Tryz.prog 62 4 6 1:=⟨by kernel_rfl⟩
instance jLq:TZ Tryz.prog 62 [.string ⟨#[]⟩,.slice none 0 0,.int .i64 0,.string ⟨#[]⟩,.slice none 0 0,.slice none 0 0,.bool false,.bool false,.int .i64 0,.string ⟨#[]⟩,.slice none 0 0,.slice none 0 0]:=⟨by kernel_rfl⟩
instance jLr:TI Tryz.prog 68 false 1 24:=⟨by kernel_rfl⟩
instance jLs:TE Tryz.prog 68 78:=⟨by kernel_rfl⟩
instance jLt:TI Tryz.prog 70 true 5 72:=⟨by kernel_rfl⟩
instance jGs:TF Tryz.prog 70 0 0:=⟨by kernel_rfl⟩
instance jGt:TF Tryz.prog 70 1 1:=⟨by kernel_rfl⟩
instance jGu:TF Tryz.prog 70 2 2:=⟨by kernel_rfl⟩
instance jGv:TF Tryz.prog 70 3 3:=⟨by kernel_rfl⟩
instance jGw:TF Tryz.prog 70 4 4:=⟨by kernel_rfl⟩
instance jIt:TBd Tryz.prog 70:=⟨by kernel_rfl⟩
instance jCc:TFS Tryz.prog 70 0 0 1:=⟨by kernel_rfl⟩
instance jCd:TFS Tryz.prog 70 1 1 1:=⟨by kernel_rfl⟩
instance jCe:TFS Tryz.prog 70 2 2 1:=⟨by kernel_rfl⟩
instance jCf:TFS Tryz.prog 70 3 3 1:=⟨by kernel_rfl⟩
instance jLu:TZ Tryz.prog 70 [.string ⟨#[]⟩,.slice none 0 0,.bool false,.bool false,.slice none 0 0]:=⟨by kernel_rfl⟩
instance jLv:TI Tryz.prog 73 false 1 24:=⟨by kernel_rfl⟩
instance jLw:TE Tryz.prog 73 76:=⟨by kernel_rfl⟩
instance jLx:TI Tryz.prog 74 false 1 24:=⟨by kernel_rfl⟩
instance jLy:TE Tryz.prog 74 230:=⟨by kernel_rfl⟩
instance jLz:TI Tryz.prog 76 true 9 144:=⟨by kernel_rfl⟩
instance jGx:TF Tryz.prog 76 0 0:=⟨by kernel_rfl⟩
instance jGy:TF Tryz.prog 76 1 1:=⟨by kernel_rfl⟩
instance jGz:TF Tryz.prog 76 2 2:=⟨by kernel_rfl⟩
instance jG0:TF Tryz.prog 76 3 3:=⟨by kernel_rfl⟩
instance jG1:TF Tryz.prog 76 4 4:=⟨by kernel_rfl⟩
instance jG2:TF Tryz.prog 76 5 7:=⟨by kernel_rfl⟩
instance jG3:TF Tryz.prog 76 6 8:=⟨by kernel_rfl⟩
instance jIu:TBd Tryz.prog 76:=⟨by kernel_rfl⟩
instance jCg:TFS Tryz.prog 76 0 0 1:=⟨by kernel_rfl⟩
instance jCh:TFS Tryz.prog 76 1 1 1:=⟨by kernel_rfl⟩
instance jCi:TFS Tryz.prog 76 2 2 1:=⟨by kernel_rfl⟩
instance jCj:TFS Tryz.prog 76 3 3 1:=⟨by kernel_rfl⟩
instance jCk:TFS Tryz.prog 76 4 4 3:=⟨by kernel_rfl⟩
instance jCl:TFS Tryz.prog 76 5 7 1:=⟨by kernel_rfl⟩
instance jL0:TZ Tryz.prog 76 [.int .i64 0,.string ⟨#[]⟩,.string ⟨#[]⟩,.int .i64 0,.int .i64 0,.string ⟨#[]⟩,.slice none 0 0,.slice none 0 0,.slice none 0 0]:=⟨by kernel_rfl⟩
instance jL1:TI Tryz.prog 78 true 16 264:=⟨by kernel_rfl⟩
instance jG4:TF Tryz.prog 78 0 0:=⟨by kernel_rfl⟩
instance jG5:TF Tryz.prog 78 1 1:=⟨by kernel_rfl⟩
instance jG6:TF Tryz.prog 78 2 2:=⟨by kernel_rfl⟩
instance jG7:TF Tryz.prog 78 3 5:=⟨by kernel_rfl⟩
instance jG8:TF Tryz.prog 78 4 6:=⟨by kernel_rfl⟩
instance jG9:TF Tryz.prog 78 5 7:=⟨by kernel_rfl⟩
instance jIv:TBd Tryz.prog 78:=⟨by kernel_rfl⟩
instance jCm:TFS Tryz.prog 78 0 0 1:=⟨by kernel_rfl⟩
instance jCn:TFS Tryz.prog 78 1 1 1:=⟨by kernel_rfl⟩
instance jCo:TFS Tryz.prog 78 2 2 3:=⟨by kernel_rfl⟩
instance jL2:TZ Tryz.prog 78 [.string ⟨#[]⟩,.slice none 0 0,.int .i64 0,.string ⟨#[]⟩,.slice none 0 0,.bool false,.slice none 0 0,.int .i64 0,.string ⟨#[]⟩,.string ⟨#[]⟩,.int .i64 0,.int .i64 0,.string ⟨#[]⟩,.slice none 0 0,.slice none 0 0,.slice none 0 0]:=⟨by kernel_rfl⟩
instance jL3:TI Tryz.prog 81 false 1 24:=⟨by kernel_rfl⟩
instance jL4:TE Tryz.prog 81 70:=⟨by kernel_rfl⟩
instance jL5:TI Tryz.prog 82 false 1 24:=⟨by kernel_rfl⟩
instance jL6:TE Tryz.prog 82 209:=⟨by kernel_rfl⟩
instance jL7:TI Tryz.prog 83 false 1 24:=⟨by kernel_rfl⟩
instance jL8:TE Tryz.prog 83 62:=⟨by kernel_rfl⟩
instance jL9:TI Tryz.prog 84 false 1 24:=⟨by kernel_rfl⟩
instance jMa:TE Tryz.prog 84 162:=⟨by kernel_rfl⟩
instance jMb:TI Tryz.prog 86 true 6 136:=⟨by kernel_rfl⟩
instance jHa:TF Tryz.prog 86 0 0:=⟨by kernel_rfl⟩
instance jHb:TF Tryz.prog 86 1 1:=⟨by kernel_rfl⟩
instance jHc:TF Tryz.prog 86 2 2:=⟨by kernel_rfl⟩
instance jHd:TF Tryz.prog 86 3 3:=⟨by kernel_rfl⟩
instance jHe:TF Tryz.prog 86 4 4:=⟨by kernel_rfl⟩
instance jHf:TF Tryz.prog 86 5 5:=⟨by kernel_rfl⟩
instance jIw:TBd Tryz.prog 86:=⟨by kernel_rfl⟩
instance jCp:TFS Tryz.prog 86 0 0 1:=⟨by kernel_rfl⟩
instance jCq:TFS Tryz.prog 86 1 1 1:=⟨by kernel_rfl⟩
instance jMc:TZ Tryz.prog 86 [.string ⟨#[]⟩,.slice none 0 0,.slice none 0 0,.slice none 0 0,.slice none 0 0,.slice none 0 0]:=⟨by kernel_rfl⟩
instance jHg:TF Tryz.prog 92 0 0:=⟨by kernel_rfl⟩
instance jHh:TF Tryz.prog 92 1 1:=⟨by kernel_rfl⟩
instance jHi:TF Tryz.prog 92 2 2:=⟨by kernel_rfl⟩
instance jIx:TBd Tryz.prog 92:=⟨by kernel_rfl⟩
instance jCr:TFS Tryz.prog 92 0 0 1:=⟨by kernel_rfl⟩
instance jCs:TFS Tryz.prog 92 2 2 1:=⟨by kernel_rfl⟩
instance jMd:TZ Tryz.prog 92 [.slice none 0 0,.int .i64 0,.int .i64 0]:=⟨by kernel_rfl⟩
instance jMe:TI Tryz.prog 98 true 6 48:=⟨by kernel_rfl⟩
instance jIy:TBd Tryz.prog 98:=⟨by kernel_rfl⟩
instance jCt:TFS Tryz.prog 98 0 0 1:=⟨by kernel_rfl⟩
instance jCu:TFS Tryz.prog 98 1 1 1:=⟨by kernel_rfl⟩
instance jCv:TFS Tryz.prog 98 2 2 1:=⟨by kernel_rfl⟩
instance jCw:TFS Tryz.prog 98 3 3 1:=⟨by kernel_rfl⟩
instance jCx:TFS Tryz.prog 98 4 4 1:=⟨by kernel_rfl⟩
instance jCy:TFS Tryz.prog 98 5 5 1:=⟨by kernel_rfl⟩
instance jMf:TZ Tryz.prog 98 [.int .i64 0,.int .i64 0,.int .i64 0,.int .i64 0,.int .i64 0,.int .i64 0]:=⟨by kernel_rfl⟩
instance jCz:TF Tryz.prog 101 0 0:=⟨by kernel_rfl⟩
instance jC0:TF Tryz.prog 101 1 1:=⟨by kernel_rfl⟩
instance jHj:TBd Tryz.prog 101:=⟨by kernel_rfl⟩
instance jIz:TZ Tryz.prog 101 [.slice none 0 0,.slice none 0 0]:=⟨by kernel_rfl⟩
instance jI0:TI Tryz.prog 106 true 5 56:=⟨by kernel_rfl⟩
instance jC1:TF Tryz.prog 106 0 0:=⟨by kernel_rfl⟩
instance jC2:TF Tryz.prog 106 1 1:=⟨by kernel_rfl⟩
instance jC3:TF Tryz.prog 106 2 2:=⟨by kernel_rfl⟩
instance jC4:TF Tryz.prog 106 3 4:=⟨by kernel_rfl⟩
instance jHk:TBd Tryz.prog 106:=⟨by kernel_rfl⟩
instance hX6:TFS Tryz.prog 106 0 0 1:=⟨by kernel_rfl⟩
instance hX7:TFS Tryz.prog 106 1 1 1:=⟨by kernel_rfl⟩
instance hX8:TFS Tryz.prog 106 2 2 2:=⟨by kernel_rfl⟩
instance hX9:TFS Tryz.prog 106 3 4 1:=⟨by kernel_rfl⟩
instance jI1:TZ Tryz.prog 106 [.int .i64 0,.int .i64 0,.int .i64 0,.int .i64 0,.slice none 0 0]:=⟨by kernel_rfl⟩
instance jI2:TI Tryz.prog 110 true 4 64:=⟨by kernel_rfl⟩
instance jC5:TF Tryz.prog 110 0 0:=⟨by kernel_rfl⟩
instance jC6:TF Tryz.prog 110 1 1:=⟨by kernel_rfl⟩
instance jHl:TBd Tryz.prog 110:=⟨by kernel_rfl⟩
instance hYa:TFS Tryz.prog 110 0 0 1:=⟨by kernel_rfl⟩
instance hYb:TFS Tryz.prog 110 1 1 3:=⟨by kernel_rfl⟩
instance jI3:TZ Tryz.prog 110 [.string ⟨#[]⟩,.int .i64 0,.string ⟨#[]⟩,.slice none 0 0]:=⟨by kernel_rfl⟩
instance jI4:TI Tryz.prog 116 true 11 184:=⟨by kernel_rfl⟩
instance jC7:TF Tryz.prog 116 0 0:=⟨by kernel_rfl⟩
instance jC8:TF Tryz.prog 116 1 1:=⟨by kernel_rfl⟩
instance jC9:TF Tryz.prog 116 2 2:=⟨by kernel_rfl⟩
instance jHm:TBd Tryz.prog 116:=⟨by kernel_rfl⟩
instance hYc:TFS Tryz.prog 116 0 0 1:=⟨by kernel_rfl⟩
instance hYe:TFS Tryz.prog 116 1 1 1:=⟨by kernel_rfl⟩
instance hYf:TFS Tryz.prog 116 2 2 9:=⟨by kernel_rfl⟩
instance jI5:TZ Tryz.prog 116 [.string ⟨#[]⟩,.slice none 0 0,.int .i64 0,.string ⟨#[]⟩,.string ⟨#[]⟩,.int .i64 0,.int .i64 0,.string ⟨#[]⟩,.slice none 0 0,.slice none 0 0,.slice none 0 0]:=⟨by kernel_rfl⟩
instance jI6:TE Tryz.prog 130 153:=⟨by kernel_rfl⟩
instance jI7:TE Tryz.prog 132 156:=⟨by kernel_rfl⟩
instance jI8:TE Tryz.prog 140 180:=⟨by kernel_rfl⟩
instance jI9:TI Tryz.prog 146 false 1 24:=⟨by kernel_rfl⟩
instance jJa:TE Tryz.prog 146 148:=⟨by kernel_rfl⟩
instance jJb:TI Tryz.prog 148 true 2 40:=⟨by kernel_rfl⟩
instance jDa:TF Tryz.prog 148 0 0:=⟨by kernel_rfl⟩
instance jDb:TF Tryz.prog 148 1 1:=⟨by kernel_rfl⟩
instance jHn:TBd Tryz.prog 148:=⟨by kernel_rfl⟩
instance hYg:TFS Tryz.prog 148 0 0 1:=⟨by kernel_rfl⟩
instance hYh:TFS Tryz.prog 148 1 1 1:=⟨by kernel_rfl⟩
instance jJc:TZ Tryz.prog 148 [.string ⟨#[]⟩,.slice none 0 0]:=⟨by kernel_rfl⟩
instance jJd:TI Tryz.prog 153 true 4 48:=⟨by kernel_rfl⟩
instance jHo:TBd Tryz.prog 153:=⟨by kernel_rfl⟩
instance hYi:TFS Tryz.prog 153 0 0 1:=⟨by kernel_rfl⟩
instance hYj:TFS Tryz.prog 153 1 1 1:=⟨by kernel_rfl⟩
instance hYk:TFS Tryz.prog 153 2 2 1:=⟨by kernel_rfl⟩
instance hYm:TFS Tryz.prog 153 3 3 1:=⟨by kernel_rfl⟩
instance jJe:TZ Tryz.prog 153 [.int .i64 0,.int .i64 0,.string ⟨#[]⟩,.string ⟨#[]⟩]:=⟨by kernel_rfl⟩
instance jJf:TI Tryz.prog 156 true 3 24:=⟨by kernel_rfl⟩
instance jHp:TBd Tryz.prog 156:=⟨by kernel_rfl⟩
instance hYn:TFS Tryz.prog 156 0 0 1:=⟨by kernel_rfl⟩
instance hYo:TFS Tryz.prog 156 1 1 2:=⟨by kernel_rfl⟩
instance jJg:TZ Tryz.prog 156 [.int .i64 0,.int .i64 0,.int .i64 0]:=⟨by kernel_rfl⟩
instance jJh:TE Tryz.prog 157 29:=⟨by kernel_rfl⟩
instance jJi:TI Tryz.prog 162 true 16 280:=⟨by kernel_rfl⟩
instance jDc:TF Tryz.prog 162 0 0:=⟨by kernel_rfl⟩
instance jDd:TF Tryz.prog 162 1 1:=⟨by kernel_rfl⟩
instance jDe:TF Tryz.prog 162 2 2:=⟨by kernel_rfl⟩
instance jDf:TF Tryz.prog 162 3 3:=⟨by kernel_rfl⟩
instance jDg:TF Tryz.prog 162 4 4:=⟨by kernel_rfl⟩
instance jDh:TF Tryz.prog 162 5 7:=⟨by kernel_rfl⟩
instance jHq:TBd Tryz.prog 162:=⟨by kernel_rfl⟩
instance hYp:TFS Tryz.prog 162 0 0 1:=⟨by kernel_rfl⟩
instance hYq:TFS Tryz.prog 162 1 1 1:=⟨by kernel_rfl⟩
instance hYr:TFS Tryz.prog 162 2 2 1:=⟨by kernel_rfl⟩
instance hYt:TFS Tryz.prog 162 4 4 3:=⟨by kernel_rfl⟩
instance hYu:TFS Tryz.prog 162 5 7 9:=⟨by kernel_rfl⟩
instance jJj:TZ Tryz.prog 162 [.string ⟨#[]⟩,.slice none 0 0,.slice none 0 0,.slice none 0 0,.int .i64 0,.string ⟨#[]⟩,.slice none 0 0,.int .i64 0,.string ⟨#[]⟩,.string ⟨#[]⟩,.int .i64 0,.int .i64 0,.string ⟨#[]⟩,.slice none 0 0,.slice none 0 0,.slice none 0 0]:=⟨by kernel_rfl⟩
instance jJk:TI Tryz.prog 166 false 1 24:=⟨by kernel_rfl⟩
instance jJl:TE Tryz.prog 166 253:=⟨by kernel_rfl⟩
instance jJm:TI Tryz.prog 167 false 1 24:=⟨by kernel_rfl⟩
instance jJn:TE Tryz.prog 167 239:=⟨by kernel_rfl⟩
instance jJo:TI Tryz.prog 168 false 1 24:=⟨by kernel_rfl⟩
instance jJp:TE Tryz.prog 168 300:=⟨by kernel_rfl⟩
instance jJq:TI Tryz.prog 170 true 8 112:=⟨by kernel_rfl⟩
instance jDi:TF Tryz.prog 170 0 0:=⟨by kernel_rfl⟩
instance jDj:TF Tryz.prog 170 1 1:=⟨by kernel_rfl⟩
instance jDk:TF Tryz.prog 170 2 2:=⟨by kernel_rfl⟩
instance jDl:TF Tryz.prog 170 3 3:=⟨by kernel_rfl⟩
instance jDm:TF Tryz.prog 170 4 4:=⟨by kernel_rfl⟩
instance jDn:TF Tryz.prog 170 5 5:=⟨by kernel_rfl⟩
instance jDo:TF Tryz.prog 170 6 6:=⟨by kernel_rfl⟩
instance jDp:TF Tryz.prog 170 7 7:=⟨by kernel_rfl⟩
instance jHr:TBd Tryz.prog 170:=⟨by kernel_rfl⟩
instance hYv:TFS Tryz.prog 170 0 0 1:=⟨by kernel_rfl⟩
instance hYw:TFS Tryz.prog 170 1 1 1:=⟨by kernel_rfl⟩
instance hYx:TFS Tryz.prog 170 2 2 1:=⟨by kernel_rfl⟩
instance hYy:TFS Tryz.prog 170 6 6 1:=⟨by kernel_rfl⟩
instance hYz:TFS Tryz.prog 170 7 7 1:=⟨by kernel_rfl⟩
instance jJr:TZ Tryz.prog 170 [.int .i64 0,.int .i64 0,.int .i64 0,.slice none 0 0,.slice none 0 0,.slice none 0 0,.int .i64 0,.int .i64 0]:=⟨by kernel_rfl⟩
instance jJs:TI Tryz.prog 180 true 6 96:=⟨by kernel_rfl⟩
instance jDq:TF Tryz.prog 180 0 0:=⟨by kernel_rfl⟩
instance jDr:TF Tryz.prog 180 1 4:=⟨by kernel_rfl⟩
instance jDs:TF Tryz.prog 180 2 5:=⟨by kernel_rfl⟩
instance jHs:TBd Tryz.prog 180:=⟨by kernel_rfl⟩
instance hY1:TFS Tryz.prog 180 0 0 4:=⟨by kernel_rfl⟩
instance hY3:TFS Tryz.prog 180 1 4 1:=⟨by kernel_rfl⟩
instance hY4:TFS Tryz.prog 180 2 5 1:=⟨by kernel_rfl⟩
instance jJt:TZ Tryz.prog 180 [.string ⟨#[]⟩,.int .i64 0,.string ⟨#[]⟩,.slice none 0 0,.int .i64 0,.slice none 0 0]:=⟨by kernel_rfl⟩
instance jDt:TF Tryz.prog 193 0 0:=⟨by kernel_rfl⟩
instance jDu:TF Tryz.prog 193 1 1:=⟨by kernel_rfl⟩
instance jDv:TF Tryz.prog 193 2 2:=⟨by kernel_rfl⟩
instance jDw:TF Tryz.prog 193 3 3:=⟨by kernel_rfl⟩
instance jDx:TF Tryz.prog 193 4 4:=⟨by kernel_rfl⟩
instance jHt:TBd Tryz.prog 193:=⟨by kernel_rfl⟩
instance hY5:TFS Tryz.prog 193 0 0 1:=⟨by kernel_rfl⟩
instance jJu:TZ Tryz.prog 193 [.string ⟨#[]⟩,.int .i64 0,.int .i64 0,.int .i64 0,.bool false]:=⟨by kernel_rfl⟩
instance jJv:TI Tryz.prog 207 false 1 24:=⟨by kernel_rfl⟩
instance jJw:TE Tryz.prog 207 255:=⟨by kernel_rfl⟩
instance jJx:TI Tryz.prog 209 true 3 64:=⟨by kernel_rfl⟩
instance jDy:TF Tryz.prog 209 0 0:=⟨by kernel_rfl⟩
instance jDz:TF Tryz.prog 209 1 1:=⟨by kernel_rfl⟩
instance jD0:TF Tryz.prog 209 2 2:=⟨by kernel_rfl⟩
instance jHu:TBd Tryz.prog 209:=⟨by kernel_rfl⟩
instance hY6:TFS Tryz.prog 209 0 0 1:=⟨by kernel_rfl⟩
instance hY7:TFS Tryz.prog 209 1 1 1:=⟨by kernel_rfl⟩
instance jJy:TZ Tryz.prog 209 [.string ⟨#[]⟩,.slice none 0 0,.slice none 0 0]:=⟨by kernel_rfl⟩
instance jJz:TI Tryz.prog 225 true 4 64:=⟨by kernel_rfl⟩
instance jD1:TF Tryz.prog 225 0 0:=⟨by kernel_rfl⟩
instance jD2:TF Tryz.prog 225 1 1:=⟨by kernel_rfl⟩
instance jHv:TBd Tryz.prog 225:=⟨by kernel_rfl⟩
instance hY8:TFS Tryz.prog 225 0 0 1:=⟨by kernel_rfl⟩
instance hY9:TFS Tryz.prog 225 1 1 3:=⟨by kernel_rfl⟩
instance jJ0:TZ Tryz.prog 225 [.string ⟨#[]⟩,.int .i64 0,.string ⟨#[]⟩,.slice none 0 0]:=⟨by kernel_rfl⟩
instance jJ1:TI Tryz.prog 230 true 11 184:=⟨by kernel_rfl⟩
instance jD3:TF Tryz.prog 230 0 0:=⟨by kernel_rfl⟩
instance jD4:TF Tryz.prog 230 1 1:=⟨by kernel_rfl⟩
instance jD5:TF Tryz.prog 230 2 2:=⟨by kernel_rfl⟩
instance jHw:TBd Tryz.prog 230:=⟨by kernel_rfl⟩
instance hZa:TFS Tryz.prog 230 0 0 1:=⟨by kernel_rfl⟩
instance hZb:TFS Tryz.prog 230 1 1 1:=⟨by kernel_rfl⟩
instance hZc:TFS Tryz.prog 230 2 2 9:=⟨by kernel_rfl⟩
instance jJ2:TZ Tryz.prog 230 [.string ⟨#[]⟩,.slice none 0 0,.int .i64 0,.string ⟨#[]⟩,.string ⟨#[]⟩,.int .i64 0,.int .i64 0,.string ⟨#[]⟩,.slice none 0 0,.slice none 0 0,.slice none 0 0]:=⟨by kernel_rfl⟩
instance jJ3:TI Tryz.prog 235 true 4 64:=⟨by kernel_rfl⟩
instance jD6:TF Tryz.prog 235 0 0:=⟨by kernel_rfl⟩
instance jD7:TF Tryz.prog 235 2 2:=⟨by kernel_rfl⟩
instance jD8:TF Tryz.prog 235 3 3:=⟨by kernel_rfl⟩
instance jHx:TBd Tryz.prog 235:=⟨by kernel_rfl⟩
instance hZd:TFS Tryz.prog 235 0 0 1:=⟨by kernel_rfl⟩
instance hZe:TFS Tryz.prog 235 1 1 1:=⟨by kernel_rfl⟩
instance hZf:TFS Tryz.prog 235 2 2 1:=⟨by kernel_rfl⟩
instance jJ4:TZ Tryz.prog 235 [.slice none 0 0,.int .i64 0,.slice none 0 0,.bool false]:=⟨by kernel_rfl⟩
instance jJ5:TI Tryz.prog 239 true 7 104:=⟨by kernel_rfl⟩
instance jD9:TF Tryz.prog 239 0 0:=⟨by kernel_rfl⟩
instance jEa:TF Tryz.prog 239 1 3:=⟨by kernel_rfl⟩
instance jEb:TF Tryz.prog 239 2 6:=⟨by kernel_rfl⟩
instance jHy:TBd Tryz.prog 239:=⟨by kernel_rfl⟩
instance hZg:TFS Tryz.prog 239 0 0 3:=⟨by kernel_rfl⟩
instance hZh:TFS Tryz.prog 239 1 3 3:=⟨by kernel_rfl⟩
instance hZi:TFS Tryz.prog 239 2 6 1:=⟨by kernel_rfl⟩
instance jJ6:TZ Tryz.prog 239 [.int .i64 0,.string ⟨#[]⟩,.slice none 0 0,.int .i64 0,.string ⟨#[]⟩,.slice none 0 0,.int .i64 0]:=⟨by kernel_rfl⟩
instance jEc:TF Tryz.prog 244 0 0:=⟨by kernel_rfl⟩
instance jEd:TF Tryz.prog 244 1 1:=⟨by kernel_rfl⟩
instance jEe:TF Tryz.prog 244 2 2:=⟨by kernel_rfl⟩
instance jEf:TF Tryz.prog 244 3 10:=⟨by kernel_rfl⟩
instance jEg:TF Tryz.prog 244 4 11:=⟨by kernel_rfl⟩
instance jHz:TBd Tryz.prog 244:=⟨by kernel_rfl⟩
instance hZj:TFS Tryz.prog 244 0 0 1:=⟨by kernel_rfl⟩
instance hZk:TFS Tryz.prog 244 1 1 1:=⟨by kernel_rfl⟩
instance hZl:TFS Tryz.prog 244 2 2 8:=⟨by kernel_rfl⟩
instance hZm:TFS Tryz.prog 244 3 10 1:=⟨by kernel_rfl⟩
instance jJ7:TZ Tryz.prog 244 [.slice none 0 0,.slice none 0 0,.int .i64 0,.int .i64 0,.int .i64 0,.slice none 0 0,.slice none 0 0,.slice none 0 0,.int .i64 0,.int .i64 0,.slice none 0 0,.int .i64 0]:=⟨by kernel_rfl⟩
instance jJ8:TI Tryz.prog 253 true 4 64:=⟨by kernel_rfl⟩
instance jEh:TF Tryz.prog 253 0 0:=⟨by kernel_rfl⟩
instance jEi:TF Tryz.prog 253 1 1:=⟨by kernel_rfl⟩
instance jH0:TBd Tryz.prog 253:=⟨by kernel_rfl⟩
instance hZn:TFS Tryz.prog 253 0 0 1:=⟨by kernel_rfl⟩
instance hZo:TFS Tryz.prog 253 1 1 3:=⟨by kernel_rfl⟩
instance jJ9:TZ Tryz.prog 253 [.string ⟨#[]⟩,.int .i64 0,.string ⟨#[]⟩,.slice none 0 0]:=⟨by kernel_rfl⟩
instance jKa:TI Tryz.prog 255 true 2 40:=⟨by kernel_rfl⟩
instance jEj:TF Tryz.prog 255 0 0:=⟨by kernel_rfl⟩
instance jEk:TF Tryz.prog 255 1 1:=⟨by kernel_rfl⟩
instance jH1:TBd Tryz.prog 255:=⟨by kernel_rfl⟩
instance hZp:TFS Tryz.prog 255 0 0 1:=⟨by kernel_rfl⟩
instance hZq:TFS Tryz.prog 255 1 1 1:=⟨by kernel_rfl⟩
instance jKb:TZ Tryz.prog 255 [.string ⟨#[]⟩,.slice none 0 0]:=⟨by kernel_rfl⟩
instance jKc:TI Tryz.prog 300 true 5 72:=⟨by kernel_rfl⟩
instance jEl:TF Tryz.prog 300 0 0:=⟨by kernel_rfl⟩
instance jEm:TF Tryz.prog 300 1 4:=⟨by kernel_rfl⟩
instance jH2:TBd Tryz.prog 300:=⟨by kernel_rfl⟩
instance hZr:TFS Tryz.prog 300 0 0 4:=⟨by kernel_rfl⟩
instance hZt:TFS Tryz.prog 300 1 4 1:=⟨by kernel_rfl⟩
instance jKd:TZ Tryz.prog 300 [.string ⟨#[]⟩,.int .i64 0,.string ⟨#[]⟩,.slice none 0 0,.int .i64 0]:=⟨by kernel_rfl⟩
instance jKe:TI Tryz.prog 312 true 13 232:=⟨by kernel_rfl⟩
instance jEn:TF Tryz.prog 312 0 0:=⟨by kernel_rfl⟩
instance jEo:TF Tryz.prog 312 1 1:=⟨by kernel_rfl⟩
instance jEp:TF Tryz.prog 312 2 2:=⟨by kernel_rfl⟩
instance jH3:TBd Tryz.prog 312:=⟨by kernel_rfl⟩
instance hZu:TFS Tryz.prog 312 0 0 1:=⟨by kernel_rfl⟩
instance hZv:TFS Tryz.prog 312 1 1 1:=⟨by kernel_rfl⟩
instance hZw:TFS Tryz.prog 312 2 2 11:=⟨by kernel_rfl⟩
instance jKf:TZ Tryz.prog 312 [.string ⟨#[]⟩,.slice none 0 0,.int .i64 0,.string ⟨#[]⟩,.string ⟨#[]⟩,.int .i64 0,.int .i64 0,.string ⟨#[]⟩,.slice none 0 0,.slice none 0 0,.slice none 0 0,.slice none 0 0,.slice none 0 0]:=⟨by kernel_rfl⟩
instance jKg:TE Tryz.prog 374 30:=⟨by kernel_rfl⟩
instance jMg:TP Tryz.prog 29:=by
 refine⟨?_⟩;intro w a b c d;refine⟨by kernel_rfl,?_⟩;have hund:Tryz.prog.underlying 29=some (.struct (Tryz.prog.fieldsOf 29)):=by kernel_rfl
 have hh:Tryz.prog.stoodInHeld 29=false:=by kernel_rfl
 have hf:(Tryz.prog.fieldsOf 29).toList=[{ name:= "Package",type:=3,offset:=0,embedded:=false,tag:= "",pkgPath:= "",byteOffset:=0 },{ name:= "At",type:=3,offset:=1,embedded:=false,tag:= "",pkgPath:= "",byteOffset:=8 }]:=by kernel_rfl
 have hi:Tryz.prog.underlying 3=some (.int .i64):=by kernel_rfl
 have hg:tyI Tryz.prog 3=some (false,1,8):=by kernel_rfl
 have hint:∀(d:Nat)(w:World)(a c:Int),(Op.equalIn (d+1) 3 (.int .i64 a) (.int .i64 c)).run Tryz.prog w=.ok (a==c) w:=by
  intro d w a c;simp [Op.equalIn,run_underlying hi]
 unfold Op.equal Op.maxDepth;rw [run_equalIn_struct w 9999 29 _ _ hund hh,hf];have h9:=hint 9998;rw [show 9998+1=9999 from rfl] at h9;by_cases h1:a=c<;>by_cases h2:b=d<;>simp [Op.eqFields,part,gO6 hg,h9,h1,h2]
theorem jKh:Tryz.prog.follows .mixedOrders=true:=by kernel_rfl
instance:Mix Tryz.prog:=⟨jKh⟩
end Go.Proofs.YtfjncckelekpiaaGreat
namespace Go.Eng
open Go Go.RowKit
theorem hGf{z:Nat}(hz:0 < z):∀(vs:List Value)(k:Nat)(pre post:List Value),(∀v∈vs,v.cells.size=z)→pre.length=k*z→post.length=vs.length*z→
  Instr.fill (fun i=>some (i*z,z)) (pre++post).toArray ((vs.zipIdx k).map fun p=>(p.2,p.1))=some (pre++vs.flatMap fun v=>v.cells.toList).toArray
 | [],k,pre,post,_,_,hp=>by
   simp only [List.length_nil,Nat.zero_mul,List.length_eq_zero_iff] at hp;subst hp;simp [Instr.fill]
 | v::vs,k,pre,post,hv,h1,h2=>by
   have hvz:=hv v (by simp);have hpl:z≤post.length:=by rw [h2,List.length_cons,Nat.add_mul];omega
   simp only [List.zipIdx_cons,List.map_cons];rw [gUk (off:=k*z) (n:=z) rfl hvz (by simp only [List.size_toArray,List.length_append];omega)];have e1:(pre++post).toArray.toList.take (k*z)=pre:=by simp [←h1]
   have e2:(pre++post).toArray.toList.drop (k*z+z)=post.drop z:=by
    show(pre++post).drop (k*z+z)=_;rw [←h1,List.drop_append,List.drop_eq_nil_of_le (by omega),Nat.add_sub_cancel_left,List.nil_append]
   rw [e1,e2];have hcl:v.cells.toList.length=z:=by simpa using hvz
   have:=hGf hz vs (k+1) (pre++v.cells.toList) (post.drop z) (fun w hw=>hv w (by simp [hw])) (by simp [h1,hvz,Nat.add_mul]) (by simp [h2,Nat.add_mul])
   rw [this];simp
inductive VDs (σ:St):List Operand→List U→Prop
 | nil:VDs σ [] []
 | cons {x:Operand} {l:List Operand} {u:U} {us:List U} (h:VD σ.L (σ.ev x) u) (h2:VDs σ l us):VDs σ (x::l) (u::us)
theorem VDs.r{A:Amb}{S:Nat→Prop}{env:List Value}{a:Act}{w:World}{σ:St}{z:Nat}(hH:pU A S σ.L env w)(hf:∀t,SVr S σ.L env w (look σ.fr t) (a.tmps.getD t undef)){l:List Operand}{us:List U}(h:VDs σ l us):(∀u∈us,u.sz=z)→
  l.length=us.length∧(∀v∈l.map a.eval,v.cells.size=z)∧Rds S w us ((l.map a.eval).flatMap fun v=>v.cells.toList):=by
 induction h with
 | nil=>intro _;exact⟨rfl,by simp,rfl⟩
 | @cons x l u us h h2 ih=>
   intro hz;obtain⟨k1,k2,k3⟩:=ih (fun u hu=>hz u (by simp [hu]));have hr:=VD.r hH h (mP.ev hf hH x);simp only [SVr] at hr;obtain⟨cs,c1,c2⟩:=hr;have hcells:(a.eval x).cells.toList=cs:=by rw [c1];exact gW4 c2
   have hcl:=Rd.length _ _ c2;rw [hz u (by simp)] at hcl;refine⟨by simp [k1],?_,?_⟩
   ·intro v hv;simp only [List.map_cons,List.mem_cons] at hv;rcases hv with rfl | hv
    ·rw [←hcl,←hcells];simp
    ·exact k2 v hv
   ·simp only [List.map_cons,List.flatMap_cons,Rds];exact⟨cs,_,by rw [hcells],c2,k3⟩
section
variable {P:Program}{A:Amb}{ops:Array Oper}{K:St→Prop}{Q:Exit→St→Prop}{rest:List Oper}{σ:St}{fr:List (Nat × SV)}{L L1 L':List LO}{N i t:Nat}{sv:SV}{o:Oper}{c:Code}
variable {ty T:TypeId}{pos:String}{af:Array Edge}{x y:Operand}{g:Option (Nat × Bool)}{dst:Option Nat}{op:Op}
theorem hQg {e z bs:Nat}{gg:Bool}{zs:List Value}{a:Act}{w:World}{n:Nat}{ps:Array (Nat × Operand)}{l:List Operand}(hT:tyE P T=some e)(he:tyI P e=some (gg,z,bs))(hZ:tyZ P e=some zs)(hz:(Nat.blt 0 z && Nat.ble (n*z) 16777216 && zs.length==z)=true)
  (hn:l.length=n) (h0:0 < n) (hps:ps.toList=(l.zipIdx 0).map fun p=>(p.2,p.1)) (hv:∀v∈l.map a.eval,v.cells.size=z) :
  (execOp a.eval ⟨dst,.buildSlice T n ps,ty,pos,af,g⟩).run P w=.ok (.value (.slice (some ⟨w.heap.size,0,none⟩) n n)) (w.alloc (.cells ((l.map a.eval).flatMap fun v=>v.cells.toList).toArray e)):=by
 simp only [Bool.and_eq_true,Nat.blt_eq,beq_iff_eq] at hz;obtain⟨⟨hz0,hz1⟩,hz2⟩:=hz;have hz1:=Nat.le_of_ble_eq_true hz1;obtain⟨zv,hrz,hzc⟩:=gR4 hZ w;have hzs:zv.cells.size=z:=by rw [←hz2,←hzc];simp
 have hpar:(ps.map fun p=>(p.1,a.eval p.2)).toList=((l.map a.eval).zipIdx 0).map fun p=>(p.2,p.1):=by
  rw [Array.toList_map,hps,List.zipIdx_map,List.map_map,List.map_map];rfl
 have hfill:=hGf hz0 (l.map a.eval) 0 [] ((List.range (n*z)).map (zv.cells[· % zv.cells.size]!)) hv (by simp) (by simp [hn]);simp only [List.nil_append] at hfill;have hne:¬n*z=0:=by
  have:=Nat.mul_pos h0 hz0
  omega
 have harr:(Array.range (n*z)).map (zv.cells[· % zv.cells.size]!)=((List.range (n*z)).map (zv.cells[· % zv.cells.size]!)).toArray:=by
  apply Array.ext';simp
 have h2:¬n*z > 2^24:=by omega
 simp only [execOp,Instr.buildSlice,Sem.run_bind,run_underlying (gA8 hT),Result.andThen_ok,run_sizeOf he,h2,if_false,hne,hrz,Sem.run_pure,harr,hpar,hfill,newRow];simp
theorem jEq {e z bs n:Nat}{gg:Bool} [TE P T e] [TI P e gg z bs] {zs:List Value} [TZ P e zs] {us:List U} {ps:Array (Nat × Operand)} {l:List Operand} (h:VO P A ops rest ⟨(t,.sl i 0)::fr,L',N⟩ K) (hps:ps.toList=(l.zipIdx 0).map fun p=>(p.2,p.1):=by rfl)
  (hy:VDs ⟨fr,L,N⟩ l us:=by(repeat(first | exact .nil | refine .cons (by((repeat(first | exact trivial | exact rfl | exact⟨_,rfl⟩ | refine And.intro ?_ ?_));first | done | fail)) ?_))) (hu:(us.all fun u=>u.sz==z)=true:=by rfl) (hn:(l.length==n && Nat.blt 0 n)=true:=by rfl)
  (hz:(Nat.blt 0 z && Nat.ble (n*z) 16777216 && zs.length==z)=true:=by rfl) (ht:Nat.blt t N=true:=by rfl) (hL':Sn (.arr e z 0 us) L i L':=by repeat constructor) :
  VO P A ops (⟨some t,.buildSlice T n ps,ty,pos,af,none⟩::rest) ⟨fr,L,N⟩ K:=by
 obtain⟨hi,hL''⟩:=hL'.spec;subst hi;subst hL'';simp only [Bool.and_eq_true,beq_iff_eq,Nat.blt_eq] at hn;have hsz:∀u∈us,u.sz=z:=by simpa using hu
 refine gH9 rfl (fun S env a w hH hf hN hd=>?_) h;obtain⟨k1,k2,k3⟩:=VDs.r hH hf hy hsz;have hlen:=Rds.length _ _ k3;have hszs:U.szs us=us.length*z:=by
  have:∀(us:List U),(∀u∈us,u.sz=z)→U.szs us=us.length*z:=by
   intro us
   induction us with
   | nil=>intro _;simp [U.szs]
   | cons u us ih=>intro h;simp only [U.szs,List.length_cons,Nat.add_mul];rw [h u (by simp),ih (fun v hv=>h v (by simp [hv]))];omega
  exact this us hsz
 have hbig:us.length≤16777216:=by
  simp only [Bool.and_eq_true,Nat.blt_eq] at hz;have h1:=Nat.le_of_ble_eq_true hz.1.2;have h2:n*1≤n*z:=Nat.mul_le_mul_left n hz.1.1;omega
 have hold:∀b,b < w.heap.size→(w.alloc (.cells ((l.map a.eval).flatMap fun v=>v.cells.toList).toArray e)).heap[b]? =w.heap[b]? :=fun b hb=>heap_alloc_old w _ hb
 obtain⟨hH',C⟩:=hH.new (w':=w.alloc (.cells ((l.map a.eval).flatMap fun v=>v.cells.toList).toArray e)) (.arr e z 0 us) (.slice (some ⟨w.heap.size,0,none⟩) n n) (by simp) hold rfl rfl rfl
  (fun b hb=>by simp [LO.ft,blk] at hb;subst hb;simp)
  (fun C=>⟨by rw [gAy];omega,hsz,_,⟨by rw [hlen,hszs],.inr ⟨w.heap.size,n,_,by rw [←k1,hn.1],Nat.zero_le _,heap_alloc_new w _,by omega,by simp [maxLen];omega,by simp only [List.size_toArray];rw [hlen,hszs,←k1,hn.1],by
   rw [List.take_of_length_le]
   simp only [hlen,hszs,Nat.le_refl]⟩⟩,Rds.mono C.hS C.hw _ _ k3⟩)
 refine⟨.value (.slice (some ⟨w.heap.size,0,none⟩) n n),_,hQg TE.h TI.h TZ.h hz hn.1 hn.2 hps k2,.inl ⟨_,rfl,vZ hf hN hd ht hH' C ?_⟩⟩;simp only [SVr];exact⟨.slice (some ⟨w.heap.size,0,none⟩) n n,.arr e z 0 us,by rw [←hH.len];simp,by simp,Nat.le_refl _,rfl,fun _=>rfl⟩
end
section
variable {P:Program}{A:Amb}{ops:Array Oper}{K:St→Prop}{Q:Exit→St→Prop}{rest:List Oper}{σ:St}{fr:List (Nat × SV)}{L L1 L' news:List LO}{N i t n:Nat}{sv:SV}{o:Oper}{c:Code}
variable {ty T:TypeId}{pos:String}{af:Array Edge}{x y:Operand}{g:Option (Nat × Bool)}{dst:Option Nat}{op:Op}{r:List (Nat × Bool)}{pf:PF}{j:Nat}
theorem gO9 {f:Operand}{fi:Nat}{args:Array Operand}{at_:Array TypeId}{dargs:List SV}{es:List TypeId}{us:List U}(hspec:pJ P fi dargs es us)(h:VO P A ops rest ⟨(t,sv)::fr,L',N⟩ K)(hf:(St.mk fr L N).ev f=.fn fi []:=by rfl)
  (hargs:WCs L (args.toList.map (St.mk fr L N).ev) dargs:=by((repeat(first | exact trivial | exact rfl | exact⟨_,rfl⟩ | refine And.intro ?_ ?_));first | done | fail)) (hn:Ln L n:=by repeat constructor) (hy:OYr n es us sv news:=by((repeat constructor);first | done | fail)) (hj:Jn L news L':=by repeat constructor) (ht:Nat.blt t N=true:=by rfl) :
  VO P A ops (⟨some t,.call { callee:=.value f,args:=args,argTypes:=at_ },ty,pos,af,none⟩::rest) ⟨fr,L,N⟩ K:=hF7 hf hspec hargs hn hy hj ht h
theorem hUc {f:Operand}{fi:Nat}{args:Array Operand}{at_:Array TypeId}{dargs:List SV}{es:List TypeId}{us:List U}(hspec:pJ P fi dargs es us)(h:VY P A ops K r pf ⟨(t,sv)::fr,L',N⟩)
  (hi:ops[i]? =some ⟨some t,.call { callee:=.value f,args:=args,argTypes:=at_ },ty,pos,af,none⟩:=by rfl) (hf:(St.mk fr L N).ev f=.fn fi []:=by rfl)
  (hargs:WCs L (args.toList.map (St.mk fr L N).ev) dargs:=by((repeat(first | exact trivial | exact rfl | exact⟨_,rfl⟩ | refine And.intro ?_ ?_));first | done | fail)) (hn:Ln L n:=by repeat constructor) (hy:OYr n es us sv news:=by((repeat constructor);first | done | fail)) (hj:Jn L news L':=by repeat constructor) (ht:Nat.blt t N=true:=by rfl)
  (hp:gDf ops i L' pf:=by(repeat(first | exact gDf.nil | (apply gDf.keep;focus ((repeat constructor);done)) | (apply gDf.dep;focus kernel_rfl)))) :
  VY P A ops K ((i,false)::r) pf ⟨fr,L,N⟩:=gTq hi (hMc hf hspec hargs hn hy hj ht) hp h
theorem jEr {α:Type}{en:α→U}{es:List α→List U}{z:Nat}[E:Enc α en es z](a0:α){e bs m:Nat}{gg:Bool}(hg:m≤4294967296) [TE P T e] [TI P e gg z bs] {zs:List Value} [TZ P e zs] (h:VO P A ops rest ⟨(t,.sl i 0)::fr,L',N⟩ K)
  (hx:(St.mk fr L N).ev x=.d (.i .i64 (m:Int)):=by rfl) (hy:(St.mk fr L N).ev y=.d (.i .i64 (m:Int)):=by rfl) (hzu:hMf (en a0) zs:=by exact jA1 (by repeat constructor) (by repeat constructor)) (hz:(Nat.blt 0 z && zs.length==z)=true:=by rfl) (hb:Nat.ble bs 32768=true:=by rfl)
  (ht:Nat.blt t N=true:=by rfl) (hL':Sn (.own e z 0 (es (List.replicate m a0))) L i L':=by repeat constructor) :
  VO P A ops (⟨some t,.makeSlice T x y,ty,pos,af,none⟩::rest) ⟨fr,L,N⟩ K:=by
 have hb:=Nat.le_of_ble_eq_true hb;rw [Enc.rep (es:=es)] at hL';refine hT6 hx hy TE.h TI.h TZ.h hz hzu (Int.natCast_nonneg m) (Int.le_refl _) (by rw [gAy];omega) ?_ ht (by rwa [Int.toNat_natCast]) h
 have:bs*m≤32768*4294967296:=Nat.mul_le_mul hb hg
 omega
theorem jEs{α:Type}{en:α→U}{es:List α→List U}{z:Nat}[E:Enc α en es z]{e bs ver e':Nat}{gg:Bool}{l:List α}(k:Nat)(hk:k < l.length) [TE P T e] [TI P e gg z bs](hx:σ.ev x=.sl j ver:=by rfl)(hL:σ.L[j]? =some (.own e' z ver (es l)):=by rfl)(hy:σ.ev y=.d (.i .i64 (k:Int)):=by rfl) :
  Quiet P A σ ⟨dst,.indexAddr T x y,ty,pos,af,g⟩ (.ep j ver z k 0):=by
 have:=hEp (P:=P) (A:=A) (dst:=dst) (ty:=ty) (pos:=pos) (af:=af) (g:=g) hx hL .own hy (TE.h:tyE P T=some e) (TI.h:tyI P e=some (gg,z,bs)) (Int.natCast_nonneg k) (by rw [Enc.len];omega)
 simpa using this
theorem jEt {α:Type}{en:α→U}{es:List α→List U}{z:Nat}[E:Enc α en es z]{e bs ver k:Nat}{gg:Bool}{l:List α}(a:α){js:List Nat}(hk:k < l.length) [TI P T gg z bs] (h:VO P A ops rest ⟨fr,L',N⟩ K) (hx:(St.mk fr L N).ev x=.ep i ver z k 0:=by rfl) (hL:L[i]? =some (.own e z ver (es l)):=by rfl)
  (hy:OV L ((St.mk fr L N).ev y) (en a) js:=by((repeat constructor);first | done | fail)) (hjs:(decide js.Nodup && !js.contains i)=true:=by decide) (hk1:KR js L L1:=by repeat constructor) (hL':St1 (.own e z ver (es (l.set k a))) i L1 L':=by repeat constructor) :
  VO P A ops (⟨none,.store T x y,ty,pos,af,none⟩::rest) ⟨fr,L,N⟩ K:=by
 rw [Enc.set (es:=es)] at hL';exact hQb hx hL hy hjs TI.h (Enc.hz a) (by rw [Enc.len];exact hk) hk1 hL' h
theorem gAz {α:Type}{en:α→U}{es:List α→List U}{z:Nat}[E:Enc α en es z](a:α){e bs:Nat}{gg:Bool} [TE P T e] [TI P e gg z bs] {zs:List Value} [TZ P e zs] {js:List Nat} (h:VO P A ops rest ⟨(t,.sl i 0)::fr,L',N⟩ K) (hy:OV L ((St.mk fr L N).ev x) (en a) js:=by((repeat constructor);first | done | fail)) (hjs:decide js.Nodup=true:=by decide)
  (hz:(Nat.blt 0 z && Nat.blt z 16777216 && zs.length==z)=true:=by rfl) (ht:Nat.blt t N=true:=by rfl) (hk1:KR js L L1:=by repeat constructor) (hL':Sn (.own e z 0 (es [a])) L1 i L':=by repeat constructor) :
  VO P A ops (⟨some t,.buildSlice T 1 #[(0,x)],ty,pos,af,none⟩::rest) ⟨fr,L,N⟩ K:=by
 have e1:es [a]=[en a]:=by rw [E.h];rfl
 rw [e1] at hL';exact gZt hy hjs TE.h TI.h TZ.h hz (Enc.hz a) ht hk1 hL' h
theorem hR9 {α:Type}{en:α→U}{es:List α→List U}{z:Nat}[E:Enc α en es z](a:α){e bs m:Nat}{gg:Bool} [TE P T e] [TI P e gg z bs] {zs:List Value} [TZ P e zs] {js:List Nat} (h:VY P A ops K r pf ⟨(t,.sl m 0)::fr,L',N⟩) (hi:ops[i]? =some ⟨some t,.buildSlice T 1 #[(0,x)],ty,pos,af,none⟩:=by rfl) (hy:OV L ((St.mk fr L N).ev x) (en a) js:=by((repeat constructor);first | done | fail)) (hjs:decide js.Nodup=true:=by decide)
  (hz:(Nat.blt 0 z && Nat.blt z 16777216 && zs.length==z)=true:=by rfl) (ht:Nat.blt t N=true:=by rfl) (hk1:KR js L L1:=by repeat constructor) (hL':Sn (.own e z 0 (es [a])) L1 m L':=by repeat constructor)
  (hp:gDf ops i L' pf:=by(repeat(first | exact gDf.nil | (apply gDf.keep;focus ((repeat constructor);done)) | (apply gDf.dep;focus kernel_rfl)))) :
  VY P A ops K ((i,false)::r) pf ⟨fr,L,N⟩:=by
 have e1:es [a]=[en a]:=by rw [E.h];rfl
 rw [e1] at hL';exact gTq hi (hMi hy hjs TE.h TI.h TZ.h hz (Enc.hz a) ht hk1 hL') hp h
theorem jEu {e z bs m:Nat}{gg:Bool} [TE P T e] [TI P e gg z bs] (h:VY P A ops K r pf ⟨(t,.sl m 0)::fr,L',N⟩) (hi:ops[i]? =some ⟨some t,.buildSlice T 0 #[],ty,pos,af,none⟩:=by rfl) (ht:Nat.blt t N=true:=by rfl) (hL':Sn (.own e z 0 []) L m L':=by repeat constructor)
  (hp:gDf ops i L' pf:=by(repeat(first | exact gDf.nil | (apply gDf.keep;focus ((repeat constructor);done)) | (apply gDf.dep;focus kernel_rfl)))) :
  VY P A ops K ((i,false)::r) pf ⟨fr,L,N⟩:=gTq hi (hMk TE.h TI.h ht hL') hp h
theorem hUd {α:Type}{en:α→U}{es:List α→List U}{z:Nat}[E:Enc α en es z]{l l':List α}(hg:l.length+l'.length≤4294967296){e bs ver m:Nat}{gg:Bool} [TE P T e] [TI P e gg z bs] {zs:List Value} [TZ P e zs] {js:List Nat} {T':TypeId}
  (h:VY P A ops K r pf ⟨(t,.sl m (ver+1))::fr,L',N⟩) (hi:ops[i]? =some ⟨some t,.call { callee:=.builtin .append,args:=#[x,y],argTypes:=#[T,T] },T',pos,af,none⟩:=by rfl) (hx:(St.mk fr L N).ev x=.sl m ver:=by rfl) (hL:L[m]? =some (.own e z ver (es l)):=by rfl) (hs:hOp L z ((St.mk fr L N).ev y) (es l') js:=by first | exact .own rfl | exact .nil | exact .data (Enc.all _) (gS7 _) | exact .data (Enc.all _) (gS8 _))
  (hjs:(decide js.Nodup && !js.contains m)=true:=by decide) (hz:(Nat.blt 0 z && zs.length==z)=true:=by rfl) (hb:Nat.ble bs 32768=true:=by rfl)
  (ht:Nat.blt t N=true:=by rfl) (hk1:KR js L L1:=by repeat constructor) (hL':St1 (.own e z (ver+1) (es (l++l'))) m L1 L':=by repeat constructor)
  (hp:gDf ops i L' pf:=by(repeat(first | exact gDf.nil | (apply gDf.keep;focus ((repeat constructor);done)) | (apply gDf.dep;focus kernel_rfl)))) :
  VY P A ops K ((i,false)::r) pf ⟨fr,L,N⟩:=by
 have h1:(es l).length=l.length:=Enc.len l;have h2:(es l').length=l'.length:=Enc.len l';have hb:=Nat.le_of_ble_eq_true hb;rw [Enc.app (es:=es)] at hL';refine gTq hi (hH4 hx hL hs hjs TE.h TI.h TZ.h hz (by rw [gAy];omega) ?_ ht hk1 hL') hp h;rw [h1,h2];exact Nat.le_trans (Nat.mul_le_mul hg hb) (by decide)
end
end Go.Eng
