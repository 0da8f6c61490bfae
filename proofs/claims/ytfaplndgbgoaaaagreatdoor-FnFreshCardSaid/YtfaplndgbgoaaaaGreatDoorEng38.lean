import Derived.Test.YtfaplndgbgoaaaaGreatDoorEng36
import Derived.Test.YtfaplndgbgoaaaaGreatDoorProg
set_option linter.unusedVariables false
set_option linter.unusedSimpArgs false
namespace Go.Eng
open Go Go.RowKit
section
variable {P:Program} {A:Amb} {ops:Array Oper} {K:St→Prop} {Q:Exit→St→Prop} {rest:List Oper} {σ:St} {fr:List (Nat × SV)} {L L1 L':List LO} {N i t:Nat} {sv:SV} {o:Oper} {c:Code}
variable {ty T:TypeId} {pos:String} {af:Array Edge} {x y:Operand} {g:Option (Nat × Bool)} {dst:Option Nat} {op:Op}
theorem gIx{α:Type}{e:α→U}{es:List α→List U}{z z':Nat} [E:Enc α e es z]{el:TypeId} [TE P T el]{T':TypeId}{l:List α}(hx:σ.ev x=.d (.sl z' (es l)):=by rfl):QR P σ ⟨dst,.call { callee:=.builtin .len,args:=#[x],argTypes:=#[T] },T',pos,af,g⟩ (.d (.i .i64 (l.length:Int))):=
 fun A fr' L' he _=>by
  rw [←Enc.len (es:=es) l]
  exact hEj (by rw [he x (by simp [Op.operands,Call.operands])];exact hx) TE.h
theorem gTw{α:Type}{e:α→U}{es:List α→List U}{z z':Nat} [E:Enc α e es z]{el:TypeId} [TE P T el]{T':TypeId}{l:List α}{i ver e':Nat}(hx:σ.ev x=.sl i ver:=by rfl)(hL:σ.L[i]? =some (.own e' z' ver (es l)):=by rfl):Quiet P A σ ⟨dst,.call { callee:=.builtin .len,args:=#[x],argTypes:=#[T] },T',pos,af,g⟩ (.d (.i .i64 (l.length:Int))):=by
 rw [←Enc.len (es:=es) l]
 exact gQ5 hx hL .own TE.h
theorem gIy{i off:Nat}(hx:σ.ev x=.ptr i off:=by rfl):QR P σ ⟨dst,.nilCheck x,ty,pos,af,g⟩ (.ptr i off):=fun A fr' L' he _=>Quiet.pure fun S env a w hH ho=>by
 have h1:=ho x (by simp [Op.operands])
 rw [he x (by simp [Op.operands]),hx] at h1
 refine⟨a.eval x,?_,h1⟩
 simp only [SVr] at h1
 obtain⟨b,_,hv⟩:=h1
 simp [execOp,hv]
theorem hGm{j tj:Nat}{want x:Bool}{o':Oper}(h:VO P A ops rest ⟨(t,.tup [])::fr,L,N⟩ K)(hj:ops[j]? =some o':=by rfl)(hdst:o'.dst=some tj:=by rfl)(htj:Nat.blt tj N=true:=by rfl)(hb:look fr tj=.d (.b x):=by rfl)(hx:(x==want)=false:=by rfl)(ht:Nat.blt t N=true:=by rfl) :
  VO P A ops (⟨some t,op,ty,pos,af,some (j,want)⟩::rest) ⟨fr,L,N⟩ K:=by
 intro R hR a w ⟨S,env,hH,hf,hN,hd⟩
 have h1:=h R hR (a.put (some t) undef) w (qY hf hN hd ht hH Carry.refl (by simp only [SVr];exact⟨[],rfl,by simp [jV]⟩))
 have h2:=hf tj
 rw [hb] at h2
 have h3:=SVr.bool.1 h2
 have ht':tj < a.tmps.size:=by rw [hN];simpa [Nat.blt_eq] using htj
 have hy:yielded ops a.tmps j=some x:=by
  simp only [yielded,hj,hdst,Option.bind_some]
  have:a.tmps[tj]? =some (.bool x):=by
   rw [Array.getD_eq_getD_getElem?,Array.getElem?_eq_getElem ht'] at h3
   rw [Array.getElem?_eq_getElem ht']
   have h3':a.tmps[tj]=.bool x:=by simpa using h3
   rw [h3']
  rw [this]
 unfold wpList
 simp only [Region.wanted,hy]
 have hne:(some x==some want)=false:=by simpa using hx
 rw [hne]
 exact h1
theorem hGo{j tj:Nat}{want:Bool}{o':Oper}(h:VO P A ops rest ⟨(t,.tup [])::fr,L,N⟩ K)(hj:ops[j]? =some o':=by rfl)(hdst:o'.dst=some tj:=by rfl)(htj:Nat.blt tj N=true:=by rfl)(hb:look fr tj=.tup []:=by rfl)(ht:Nat.blt t N=true:=by rfl) :
  VO P A ops (⟨some t,op,ty,pos,af,some (j,want)⟩::rest) ⟨fr,L,N⟩ K:=by
 intro R hR a w ⟨S,env,hH,hf,hN,hd⟩
 have h1:=h R hR (a.put (some t) undef) w (qY hf hN hd ht hH Carry.refl (by simp only [SVr];exact⟨[],rfl,by simp [jV]⟩))
 have h2:=hf tj
 rw [hb] at h2
 simp only [SVr] at h2
 obtain⟨vs,h3,h4⟩:=h2
 have hvs:vs=[]:=by cases vs with
  | nil=>rfl
  | cons _ _=>simp [jV] at h4
 subst hvs
 have ht':tj < a.tmps.size:=by rw [hN];simpa [Nat.blt_eq] using htj
 have hy:yielded ops a.tmps j=none:=by
  simp only [yielded,hj,hdst,Option.bind_some]
  have:a.tmps[tj]? =some (.tuple #[]):=by
   rw [Array.getD_eq_getD_getElem?,Array.getElem?_eq_getElem ht'] at h3
   rw [Array.getElem?_eq_getElem ht']
   have h3':a.tmps[tj]=.tuple #[]:=by simpa using h3
   rw [h3']
  rw [this]
 unfold wpList
 simp only [Region.wanted,hy]
 have hne:((none:Option Bool)==some want)=false:=by rfl
 rw [hne]
 exact h1
def gN0(L:List LO)(ρ:Nat→Nat):Nat→List LO→Prop
 | _,[]=>True
 | m,o::os=>L[ρ m]? =some (o.ren ρ)∧gN0 L ρ (m+1) os
theorem gJ6{L:List LO}{ρ:Nat→Nat}:∀{Lc:List LO} {n:Nat},gN0 L ρ n Lc→∀(m:Nat) (o:LO),Lc[m]? =some o→L[ρ (n+m)]? =some (o.ren ρ)
 | [],_,_,m,o,h=>by simp at h
 | o0::os,n,hp,0,o,h=>by simp at h;subst h;exact hp.1
 | o0::os,n,hp,m+1,o,h=>by
   have:=gJ6 hp.2 m o (by simpa using h)
   rwa [show n+1+m=n+(m+1) by omega] at this
theorem gG0 {f:Operand} {fi:Nat} {caps:List SV} {args:Array Operand} {at_:Array TypeId} {cargs:List SV} {Lc:List LO} {Q:SV→List LO→Prop} (js:List Nat) (hspec:Spec P fi cargs Lc Q)
  (h:∀(sv:SV) (Lo:List LO),Q sv Lo→VO P A ops rest ⟨(t,sv.ren (rn js L.length))::fr,gHe js (Lo.map (LO.ren (rn js L.length))) L,N⟩ K)
  (hf:(St.mk fr L N).ev f=.fn fi caps:=by rfl) (hp:gN0 L (rn js L.length) 0 Lc:=by((repeat(first | exact trivial | exact rfl | refine And.intro ?_ ?_));first | done | fail))
  (hjs:(decide js.Nodup && (js.all fun j=>Nat.blt j L.length) && js.length==Lc.length && LO.lts Lc.length Lc)=true:=by rfl)
  (hargs:AGs L (rn js L.length) Lc.length (args.toList.map (St.mk fr L N).ev++caps) cargs:=by((repeat(first | exact trivial | exact .inl ⟨rfl,rfl⟩ | exact .inr ⟨_,rfl,by((repeat(first | exact trivial | exact rfl | exact⟨_,rfl⟩ | refine And.intro ?_ ?_));first | done | fail)⟩ | refine And.intro ?_ ?_));first | done | fail))
  (ht:Nat.blt t N=true:=by rfl) :
  VO P A ops (⟨some t,.call { callee:=.value f,args:=args,argTypes:=at_ },ty,pos,af,none⟩::rest) ⟨fr,L,N⟩ K:=by
 have hjs':=hjs
 simp only [Bool.and_eq_true,decide_eq_true_eq,List.all_eq_true,Nat.blt_eq,beq_iff_eq] at hjs'
 obtain⟨⟨⟨hnd,hlt⟩,hn⟩,hlts⟩:=hjs'
 refine hAl js hf hspec ⟨fun m o ho=>by simpa using gJ6 hp m o ho,fun m m' _ _ he=>gXb hlt hnd he,hlts⟩ ?_ hargs ht h
 simp only [Bool.and_eq_true,decide_eq_true_eq,List.all_eq_true,Nat.blt_eq,beq_iff_eq]
 exact⟨⟨hnd,hlt⟩,hn⟩
theorem hPy {fn:Func} {Q:SV→List LO→Prop} {n:Nat} (svs:List SV) (Lo:List LO) (hq:Q (mkG svs) Lo) (hL:∃L2,σ.L=Lo++L2:=by exact⟨_,rfl⟩) (hl:(LO.lts Lo.length Lo && SV.lts Lo.length svs && Nat.ble n Lo.length)=true:=by rfl)
  (hr:gSi P σ fn.results.toList svs:=by((repeat(first | exact .nil | refine .data rfl rfl ?_ | refine .same rfl ?_ | refine .data (gF5 rfl rfl TI.h rfl rfl) (by((repeat(first | exact trivial | exact rfl | exact⟨_,rfl⟩ | refine And.intro ?_ ?_));first | done | fail)) ?_));first | done | fail)):qW P fn Q n .normal σ:=by
 obtain⟨L2,hL⟩:=hL
 exact⟨trivial,svs,Lo,L2,hL,hl,hq,hr⟩
theorem hPz {fn:Func} {Q:SV→List LO→Prop} {n:Nat} (svs:List SV) (Lo:List LO) (hq:Q (mkG svs) Lo) (hL:∃L2,σ.L=Lo++L2:=by exact⟨_,rfl⟩) (hl:(LO.lts Lo.length Lo && SV.lts Lo.length svs && Nat.ble n Lo.length)=true:=by rfl)
  (hr:gSi P σ fn.results.toList svs:=by((repeat(first | exact .nil | refine .data rfl rfl ?_ | refine .same rfl ?_ | refine .data (gF5 rfl rfl TI.h rfl rfl) (by((repeat(first | exact trivial | exact rfl | exact⟨_,rfl⟩ | refine And.intro ?_ ?_));first | done | fail)) ?_));first | done | fail)):qW P fn Q n .ret σ:=⟨trivial,(hPy svs Lo hq hL hl hr).2⟩
theorem qK{fn:Func}{us:List U}(h:gSw P σ fn.results.toList us:=by((repeat(first | exact trivial | exact⟨_,rfl,rfl⟩ | exact⟨_,rfl,⟨_,rfl⟩⟩ | exact⟨_,gF5 rfl rfl TI.h rfl rfl,(by(repeat(first | exact trivial | exact rfl | exact⟨_,rfl⟩ | refine And.intro ?_ ?_));first | done | fail)⟩ | exact⟨_,ResV_one rfl rfl TI.h rfl,rfl⟩ | refine And.intro ?_ ?_));first | done | fail)):uJ P fn us .ret σ:=⟨trivial,h⟩
theorem gPi{fn:Func}{es:List TypeId}{us:List U}{ps:List (Option Nat)}(h:ROs P σ fn.results.toList us es ps:=by((repeat(first | exact rfl | exact gF5 rfl rfl TI.h rfl rfl | exact ResV_one rfl rfl TI.h rfl | constructor));first | done | fail))(hn:decide ((ps.filterMap id).Nodup)=true:=by rfl):uY P fn es us .ret σ:=⟨trivial,ps,h,hn⟩
theorem hAo {f:Operand} {fi:Nat} {caps:List SV} {args:Array Operand} {at_:Array TypeId} {dargs:List SV} {us:List U} (hspec:jB P fi (dargs++caps) us) (hc:SV.lts 0 caps=true) (hf:σ.ev f=.fn fi caps:=by rfl)
  (hargs:∀L',VAs L' (args.toList.map σ.ev) dargs:=by(intro L';(repeat(first | exact trivial | exact rfl | exact⟨_,rfl⟩ | refine And.intro ?_ ?_));first | done | fail)) :
  QR P σ ⟨dst,.call { callee:=.value f,args:=args,argTypes:=at_ },ty,pos,af,g⟩ (mkR us):=
 fun A fr' L' he _=>hDq (by rw [he f (by simp [Op.operands,Call.operands])];exact hf) hspec (by
  have:args.toList.map (St.ev ⟨fr',L',σ.N⟩)=args.toList.map σ.ev:=List.map_congr_left fun x hx=>he x (by simp only [Op.operands,Call.operands];simp;exact .inr (by simpa using hx))
  rw [this]
  exact hargs L') hc
theorem gFc{e z bs:Nat}{gg:Bool} [TE P T e] [TI P e gg z bs](h:VO P A ops rest ⟨(t,.sl i 0)::fr,L',N⟩ K)(ht:Nat.blt t N=true:=by rfl)(hL':Sn (.own e z 0 []) L i L':=by repeat constructor) :
  VO P A ops (⟨some t,.buildSlice T 0 #[],ty,pos,af,none⟩::rest) ⟨fr,L,N⟩ K:=gTq TE.h TI.h ht hL' h
theorem hGp {e z bs:Nat} {gg:Bool} [TE P T e] [TI P e gg z bs] {zs:List Value} [TZ P e zs] {u:U} {js:List Nat} (h:VO P A ops rest ⟨(t,.sl i 0)::fr,L',N⟩ K) (hy:OV L ((St.mk fr L N).ev x) u js:=by((repeat constructor);first | done | fail)) (hjs:decide js.Nodup=true:=by decide)
  (hz:(Nat.blt 0 z && Nat.blt z 16777216 && zs.length==z)=true:=by rfl) (hu:u.sz=z:=by rfl) (ht:Nat.blt t N=true:=by rfl) (hk1:KR js L L1:=by repeat constructor) (hL':Sn (.own e z 0 [u]) L1 i L':=by repeat constructor) :
  VO P A ops (⟨some t,.buildSlice T 1 #[(0,x)],ty,pos,af,none⟩::rest) ⟨fr,L,N⟩ K:=gPd hy hjs TE.h TI.h TZ.h hz hu ht hk1 hL' h
theorem gBc {e z bs:Nat} {gg:Bool} [TE P T e] [TI P e gg z bs] {zs:List Value} [TZ P e zs] {u:U} (h:VO P A ops rest ⟨(t,.sl i 0)::fr,L',N⟩ K) (hy:VD L ((St.mk fr L N).ev x) u:=by((repeat(first | exact trivial | exact rfl | exact⟨_,rfl⟩ | refine And.intro ?_ ?_));first | done | fail))
  (hz:(Nat.blt 0 z && Nat.blt z 16777216 && zs.length==z)=true:=by rfl) (hu:u.sz=z:=by rfl) (ht:Nat.blt t N=true:=by rfl) (hL':Sn (.arr e z 0 [u]) L i L':=by repeat constructor) :
  VO P A ops (⟨some t,.buildSlice T 1 #[(0,x)],ty,pos,af,none⟩::rest) ⟨fr,L,N⟩ K:=by
 obtain⟨hi,hL''⟩:=hL'.spec
 subst hi;subst hL''
 have hT:tyE P T=some e:=TE.h
 have he:tyI P e=some (gg,z,bs):=TI.h
 have hZ:tyZ P e=some zs:=TZ.h
 simp only [Bool.and_eq_true,Nat.blt_eq,beq_iff_eq] at hz
 refine gCv rfl (fun S env a w hH hf hN hd=>?_) h
 have hr:=VD.r hH hy (mH.ev hf hH x)
 simp only [SVr] at hr
 obtain⟨cs,c1,c2⟩:=hr
 have hcells:(a.eval x).cells.toList=cs:=by rw [c1];exact gM7 c2
 have hcl:=Rd.length _ _ c2
 rw [hu] at hcl
 obtain⟨zv,hrz,hzc⟩:=gJ8 hZ w
 have hsz:(a.eval x).cells.size=z:=by rw [←hcl,←hcells];simp
 have hold:∀b,b < w.heap.size→(w.alloc (.cells (a.eval x).cells e)).heap[b]? =w.heap[b]? :=fun b hb=>heap_alloc_old w _ hb
 obtain⟨hH',C⟩:=hH.new (w':=w.alloc (.cells (a.eval x).cells e)) (.arr e z 0 [u]) (.slice (some ⟨w.heap.size,0,none⟩) 1 1) (by simp) hold rfl rfl rfl
  (fun b hb=>by simp [LO.ft,blk] at hb;subst hb;simp)
  (fun C=>⟨by simp [yH],by simpa using hu,cs,⟨by simp [hcl],.inr ⟨w.heap.size,1,_,rfl,Nat.zero_le _,heap_alloc_new w _,Nat.le_refl _,by simp [maxLen],by rw [hsz];simp,by rw [hcells];rw [List.take_of_length_le (by simp [hcl])]⟩⟩,by
   have:=c2.mono C.hS C.hw
   simp only [Rds]
   exact⟨cs,[],by simp,this,rfl⟩⟩)
 refine⟨.value (.slice (some ⟨w.heap.size,0,none⟩) 1 1),_,?_,.inl ⟨_,rfl,qY hf hN hd ht hH' C ?_⟩⟩
 ·have hzs:zv.cells.size=z:=by rw [←hz.2,←hzc];simp
  have hfill:Instr.fill (fun i=>some (i*z,z)) ((Array.range (1*z)).map (zv.cells[· % zv.cells.size]!)) [(0,a.eval x)]=some (a.eval x).cells:=by
   rw [gLr (off:=0) (n:=z) (by simp) hsz (by simp)]
   simp only [Instr.fill,Option.some.injEq,List.take_zero,List.nil_append,Nat.zero_add]
   apply Array.ext'
   simp
  have h1:¬z > 2^24:=by omega
  have h2:¬z=0:=by omega
  simp only [Nat.one_mul] at hfill
  simp [execOp,Instr.buildSlice,run_underlying (wO hT),run_sizeOf he,hrz,h1,h2,newRow]
  simp only [gt_iff_lt] at h1
  simp [hfill]
 ·simp only [SVr]
  exact⟨.slice (some ⟨w.heap.size,0,none⟩) 1 1,.arr e z 0 [u],by rw [←hH.len];simp,by simp,Nat.le_refl _,rfl,fun _=>rfl⟩
theorem gGg {α:Type} {en:α→U} {es:List α→List U} {z:Nat} [E:Enc α en es z] {l r:List α} (hg:l.length+r.length≤4294967296) {e bs ver:Nat} {gg:Bool} [TE P T e] [TI P e gg z bs] {zs:List Value} [TZ P e zs] {js:List Nat} {T':TypeId}
  (h:VO P A ops rest ⟨(t,.sl i (ver+1))::fr,L',N⟩ K) (hx:(St.mk fr L N).ev x=.sl i ver:=by rfl) (hL:L[i]? =some (.own e z ver (es l)):=by rfl) (hs:gZk L z ((St.mk fr L N).ev y) (es r) js:=by first | exact .own rfl | exact .nil | exact .data (Enc.all _) (gOf _) | exact .data (Enc.all _) (gOg _))
  (hjs:(decide js.Nodup && !js.contains i)=true:=by decide) (hz:(Nat.blt 0 z && zs.length==z)=true:=by rfl) (hb:Nat.ble bs 32768=true:=by rfl)
  (ht:Nat.blt t N=true:=by rfl) (hk1:KR js L L1:=by repeat constructor) (hL':St1 (.own e z (ver+1) (es (l++r))) i L1 L':=by repeat constructor) :
  VO P A ops (⟨some t,.call { callee:=.builtin .append,args:=#[x,y],argTypes:=#[T,T] },T',pos,af,none⟩::rest) ⟨fr,L,N⟩ K:=by
 have h1:(es l).length=l.length:=Enc.len l
 have h2:(es r).length=r.length:=Enc.len r
 have hb:=Nat.le_of_ble_eq_true hb
 rw [Enc.app (es:=es)] at hL'
 refine gQq hx hL hs hjs TE.h TI.h TZ.h hz (by rw [yH];omega) ?_ ht hk1 hL' h
 rw [h1,h2]
 exact Nat.le_trans (Nat.mul_le_mul hg hb) (by decide)
theorem mH.freezeO{a:Act}{w:World}{i e z ver:Nat}{es:List U}(hL:σ.L[i]? =some (.own e z ver es))(h:mH A σ a w):mH A ⟨σ.fr,σ.L.set i (.frz e z ver es),σ.N⟩ a w:=by
 obtain⟨S,env,hH,hf,hN,hd⟩:=h
 have hi:=(List.getElem?_eq_some_iff.1 hL).1
 have hie:i < env.length:=by rw [hH.len];exact hi
 obtain⟨hv,he⟩:∃hv,env[i]? =some hv:=⟨_,List.getElem?_eq_getElem hie⟩
 have hob:=hH.objs i _ hv hL he
 let S':Nat→Prop:=fun b=>S b∨b∈(U.sl z es).fp w [hv]
 have hset:∀(j:Nat) (o':LO),(σ.L.set i (.frz e z ver es))[j]? =some o'→(j=i∧o'=.frz e z ver es)∨(j≠i∧σ.L[j]? =some o'):=by
  intro j o' hj
  by_cases hij:i=j
  ·subst hij
   rw [List.getElem?_set_self hi] at hj
   exact .inl ⟨rfl,(Option.some.inj hj).symm⟩
  ·rw [List.getElem?_set_ne hij] at hj
   exact .inr ⟨fun e=>hij e.symm,hj⟩
 have C:Carry S σ.L env w S' (σ.L.set i (.frz e z ver es)) env w:=by
  refine⟨fun b hb _=>.inl hb,fun _ _ _=>rfl,fun _ _ h=>h,fun j hv' o' h1 h2=>?_⟩
  by_cases hij:i=j
  ·subst hij
   rw [hL] at h2
   obtain rfl:=Option.some.inj h2
   exact⟨hv',.frz e z ver es,h1,by rw [List.getElem?_set_self hi],Nat.le_refl _,fun _=>rfl⟩
  ·exact⟨hv',o',h1,by rw [List.getElem?_set_ne hij];exact h2,Nat.le_refl _,fun _=>rfl⟩
 refine⟨S',env,⟨by simp [hH.len],?_,?_,?_,?_,?_,hH.frame,hH.size,hH.os,hH.tape,hH.output,hH.base.carry C hH.len (by simp),hH.glob⟩,fun t=>SVr.carry C _ _ (hf t),hN,hd⟩
 ·intro j o' hv' h1 h2
  rcases hset j o' h1 with ⟨rfl,rfl⟩ | ⟨hj,h3⟩
  ·rw [he] at h2
   obtain rfl:=Option.some.inj h2
   exact⟨[hv],rfl,Tr.rd _ _ (gMw hob) (fun b hb=>.inr hb)⟩
  ·exact gE5.carry C (fun _ _ _=>rfl) (hH.objs j o' hv' h3 h2)
 ·intro j o' hv' b h1 hl h2 hb
  rcases hset j o' h1 with ⟨rfl,rfl⟩ | ⟨hj,h3⟩
  ·cases hl
  ·have:=hH.excl j o' hv' b h3 hl h2 hb
   refine⟨fun hs=>hs.elim this.1 (fun hs=>hj (hH.dist j i o' _ hv' hv b h3 hL hl rfl h2 he hb (show(LO.own e z ver es).ft w hv b from hs))),this.2⟩
 ·intro j j' o1 o1' hv1 hv1' k h1 h2 hl1 hl2 e1 e2 b1 b2
  rcases hset j o1 h1 with ⟨rfl,rfl⟩ | ⟨hj,h3⟩
  ·cases hl1
  ·rcases hset j' o1' h2 with ⟨rfl,rfl⟩ | ⟨hj',h3'⟩
   ·cases hl2
   ·exact hH.dist j j' o1 o1' hv1 hv1' k h3 h3' hl1 hl2 e1 e2 b1 b2
 ·intro b hb
  rcases hb with hb | hb
  ·exact hH.sS b hb
  ·exact(hH.excl i _ hv b hL rfl he hb).2.2
 ·intro b hb
  rcases hb with hb | hb
  ·exact hH.sA b hb
  ·exact .inr (hH.excl i _ hv b hL rfl he hb).2.1
theorem wL(i:Nat){e z ver:Nat}{es:List U}(hL:L[i]? =some (.own e z ver es))(hL':L.set i (.frz e z ver es)=L')(h:V P A c ⟨fr,L',N⟩ Q):V P A c ⟨fr,L,N⟩ Q:=by
 subst hL'
 exact fun a w hr=>h a w (hr.freezeO (σ:=⟨fr,L,N⟩) hL)
theorem gKr(i:Nat){e z ver:Nat}{es:List U}(hL:L[i]? =some (.own e z ver es))(hL':L.set i (.frz e z ver es)=L')(h:VO P A ops rest ⟨fr,L',N⟩ K):VO P A ops rest ⟨fr,L,N⟩ K:=by
 subst hL'
 exact fun R hR a w hr=>h R hR a w (hr.freezeO (σ:=⟨fr,L,N⟩) hL)
theorem gFj{α:Type}{e:α→U}{es:List α→List U}{z:Nat} [E:Enc α e es z]{l:List α}{z':Nat}(j:Nat)(h:l.length≤140737488355328→V P A c ⟨fr,L,N⟩ Q)(hb:look fr j=.d (.sl z' (es l)):=by rfl):V P A c ⟨fr,L,N⟩ Q:=by
 intro a w hr
 refine h ?_ a w hr
 obtain⟨S,env,hH,hf,hN,hd⟩:=hr
 have:=hf j
 simp only at this
 rw [hb] at this
 have:=(SVr.slice.1 this).1
 rwa [Enc.len,yH] at this
theorem vN{α:Type}{e:α→U}{es:List α→List U}{z:Nat} [E:Enc α e es z]{l:List α}{z':Nat}{cs:List SV}(i j:Nat)(h:l.length≤140737488355328→V P A c ⟨fr,L,N⟩ Q)(hL:L[i]? =some (.box cs):=by rfl)(hb:cs[j]? =some (.d (.sl z' (es l))):=by rfl):V P A c ⟨fr,L,N⟩ Q:=by
 intro a w hr
 refine h ?_ a w hr
 obtain⟨S,env,hH,hf,hN,hd⟩:=hr
 obtain⟨hv,he⟩:∃hv,env[i]? =some hv:=⟨_,List.getElem?_eq_getElem (by rw [hH.len];exact(List.getElem?_eq_some_iff.1 hL).1)⟩
 obtain⟨b,vals,e',r1,r2,r3,r4⟩:=hH.objs i _ hv hL he
 obtain⟨v,v1,v2⟩:=jV.get r3 j _ hb
 have:=(SVr.slice.1 v2).1
 rwa [Enc.len,yH] at this
theorem gXm{l:List UInt8}(j:Nat)(h:l.length≤140737488355328→V P A c ⟨fr,L,N⟩ Q)(hb:look fr j=.d (.s l):=by rfl):V P A c ⟨fr,L,N⟩ Q:=by
 intro a w hr
 refine h ?_ a w hr
 obtain⟨S,env,hH,hf,hN,hd⟩:=hr
 have:=hf j
 simp only at this
 rw [hb] at this
 have:=(SVr.str.1 this).1
 rwa [yH] at this
theorem hGq{l:List UInt8}{cs:List SV}(i j:Nat)(h:l.length≤140737488355328→V P A c ⟨fr,L,N⟩ Q)(hL:L[i]? =some (.box cs):=by rfl)(hb:cs[j]? =some (.d (.s l)):=by rfl):V P A c ⟨fr,L,N⟩ Q:=by
 intro a w hr
 refine h ?_ a w hr
 obtain⟨S,env,hH,hf,hN,hd⟩:=hr
 obtain⟨hv,he⟩:∃hv,env[i]? =some hv:=⟨_,List.getElem?_eq_getElem (by rw [hH.len];exact(List.getElem?_eq_some_iff.1 hL).1)⟩
 obtain⟨b,vals,e',r1,r2,r3,r4⟩:=hH.objs i _ hv hL he
 obtain⟨v,v1,v2⟩:=jV.get r3 j _ hb
 have:=(SVr.str.1 v2).1
 rwa [yH] at this
end
theorem hAp{P:Program}{A:Amb}{ops:Array Oper}{K:St→Prop}{fr:List (Nat × SV)}{L:List LO}{N i t:Nat}{sv:SV}{op:Op}{ty:TypeId}{pos:String}{af:Array Edge}{r:List (Nat × Bool)}{pf:PF}(hi:ops[i]? =some ⟨some t,op,ty,pos,af,none⟩)(hq:QR P ⟨fr,L,N⟩ ⟨some t,op,ty,pos,af,none⟩ sv)(hv:VY P A ops K r ((i,L)::pf) ⟨(t,sv)::fr,L,N⟩)(ht:Nat.blt t N=true:=by rfl) :
  VY P A ops K ((i,true)::r) pf ⟨fr,L,N⟩:=hPv hq hv hi ht
theorem goY {X Y:Prop} (hy:Y) (h:Y→X:=by
  intro hy
  repeat(first | refine hAp rfl gIx ?_ | refine hAp rfl gIy ?_ | refine hPt rfl ?_ (by(repeat constructor);first | done | fail) | refine hPu rfl (by repeat constructor) (by repeat(first | exact yG.nil | (apply yG.keep;focus ((repeat constructor);done)) | (apply yG.dep;focus kernel_rfl))) ?_)
  exact hy):X:=h hy
end Go.Eng
namespace Go.Proofs.YtfaplndgbgoaaaaGreatDoor
open Go Go.Eng
instance ti3:TI Tryz.prog 3 false 1 8:=⟨by kernel_rfl⟩
instance tz3:TZ Tryz.prog 3 [.int .i64 0]:=⟨by kernel_rfl⟩
instance ti4:TI Tryz.prog 4 false 1 1:=⟨by kernel_rfl⟩
instance tb4:TB Tryz.prog 4:=⟨by kernel_rfl⟩
instance ti5:TI Tryz.prog 5 false 1 1:=⟨by kernel_rfl⟩
instance tz5:TZ Tryz.prog 5 [.int .u8 0]:=⟨by kernel_rfl⟩
instance ti9:TI Tryz.prog 9 false 1 16:=⟨by kernel_rfl⟩
instance hUx:TS Tryz.prog 9:=⟨by kernel_rfl⟩
instance tz9:TZ Tryz.prog 9 [.string ⟨#[]⟩]:=⟨by kernel_rfl⟩
instance hUy:TI Tryz.prog 22 false 1 24:=⟨by kernel_rfl⟩
instance hU0:TE Tryz.prog 22 5:=⟨by kernel_rfl⟩
instance hU1:TI Tryz.prog 24 false 1 24:=⟨by kernel_rfl⟩
instance hU2:TE Tryz.prog 24 92:=⟨by kernel_rfl⟩
instance hU3:TI Tryz.prog 25 false 1 24:=⟨by kernel_rfl⟩
instance hU4:TE Tryz.prog 25 69:=⟨by kernel_rfl⟩
instance hU5:TI Tryz.prog 26 false 1 24:=⟨by kernel_rfl⟩
instance hU6:TE Tryz.prog 26 72:=⟨by kernel_rfl⟩
instance hU7:TI Tryz.prog 28 true 8 112:=⟨by kernel_rfl⟩
instance hP0:TF Tryz.prog 28 0 0:=⟨by kernel_rfl⟩
instance hP4:TF Tryz.prog 28 2 2:=⟨by kernel_rfl⟩
instance hP5:TF Tryz.prog 28 3 3:=⟨by kernel_rfl⟩
instance hP6:TF Tryz.prog 28 4 4:=⟨by kernel_rfl⟩
instance hP7:TF Tryz.prog 28 5 5:=⟨by kernel_rfl⟩
instance hP8:TF Tryz.prog 28 6 6:=⟨by kernel_rfl⟩
instance hP9:TF Tryz.prog 28 7 7:=⟨by kernel_rfl⟩
instance hR6:TBd Tryz.prog 28:=⟨by kernel_rfl⟩
instance hLc:TFS Tryz.prog 28 0 0 1:=⟨by kernel_rfl⟩
instance hLd:TFS Tryz.prog 28 2 2 1:=⟨by kernel_rfl⟩
instance hU9:TZ Tryz.prog 28 [.int .i64 0,.int .i64 0,.int .i64 0,.slice none 0 0,.slice none 0 0,.slice none 0 0,.int .i64 0,.int .i64 0]:=⟨by kernel_rfl⟩
instance hVa:TI Tryz.prog 30 false 1 24:=⟨by kernel_rfl⟩
instance hVb:TE Tryz.prog 30 32:=⟨by kernel_rfl⟩
instance hVc:TI Tryz.prog 32 true 3 48:=⟨by kernel_rfl⟩
instance hQa:TF Tryz.prog 32 0 0:=⟨by kernel_rfl⟩
instance hQb:TF Tryz.prog 32 1 1:=⟨by kernel_rfl⟩
instance hQc:TF Tryz.prog 32 2 2:=⟨by kernel_rfl⟩
instance hR7:TBd Tryz.prog 32:=⟨by kernel_rfl⟩
instance hLf:TFS Tryz.prog 32 0 0 1:=⟨by kernel_rfl⟩
instance hLg:TFS Tryz.prog 32 1 1 1:=⟨by kernel_rfl⟩
instance hLh:TFS Tryz.prog 32 2 2 1:=⟨by kernel_rfl⟩
instance hVd:TZ Tryz.prog 32 [.int .i64 0,.string ⟨#[]⟩,.slice none 0 0]:=⟨by kernel_rfl⟩
instance hVe:TI Tryz.prog 41 false 1 24:=⟨by kernel_rfl⟩
instance hVf:TE Tryz.prog 41 88:=⟨by kernel_rfl⟩
instance hVg:TI Tryz.prog 43 true 1 24:=⟨by kernel_rfl⟩
instance hQd:TF Tryz.prog 43 0 0:=⟨by kernel_rfl⟩
instance hR8:TBd Tryz.prog 43:=⟨by kernel_rfl⟩
instance hVh:TZ Tryz.prog 43 [.slice none 0 0]:=⟨by kernel_rfl⟩
instance hVi:TI Tryz.prog 45 false 1 24:=⟨by kernel_rfl⟩
instance hVk:TE Tryz.prog 45 66:=⟨by kernel_rfl⟩
instance hVl:TI Tryz.prog 50 false 1 24:=⟨by kernel_rfl⟩
instance hVm:TE Tryz.prog 50 9:=⟨by kernel_rfl⟩
instance hVn:TZ Tryz.prog 50 [.slice none 0 0]:=⟨by kernel_rfl⟩
instance hQe:TF Tryz.prog 55 0 0:=⟨by kernel_rfl⟩
instance hQf:TF Tryz.prog 55 1 1:=⟨by kernel_rfl⟩
instance hQg:TF Tryz.prog 55 2 2:=⟨by kernel_rfl⟩
instance hR9:TBd Tryz.prog 55:=⟨by kernel_rfl⟩
instance hLl:TFS Tryz.prog 55 0 0 1:=⟨by kernel_rfl⟩
instance hLm:TFS Tryz.prog 55 2 2 1:=⟨by kernel_rfl⟩
instance hVo:TZ Tryz.prog 55 [.slice none 0 0,.int .i64 0,.int .i64 0]:=⟨by kernel_rfl⟩
instance hVp:TI Tryz.prog 66 true 4 64:=⟨by kernel_rfl⟩
instance hQh:TF Tryz.prog 66 0 0:=⟨by kernel_rfl⟩
instance hQi:TF Tryz.prog 66 1 1:=⟨by kernel_rfl⟩
instance hSa:TBd Tryz.prog 66:=⟨by kernel_rfl⟩
instance hLp:TFS Tryz.prog 66 0 0 1:=⟨by kernel_rfl⟩
instance hLq:TFS Tryz.prog 66 1 1 3:=⟨by kernel_rfl⟩
instance hVq:TZ Tryz.prog 66 [.string ⟨#[]⟩,.int .i64 0,.string ⟨#[]⟩,.slice none 0 0]:=⟨by kernel_rfl⟩
instance hVr:TI Tryz.prog 69 true 7 104:=⟨by kernel_rfl⟩
instance hQj:TF Tryz.prog 69 0 0:=⟨by kernel_rfl⟩
instance hQk:TF Tryz.prog 69 1 3:=⟨by kernel_rfl⟩
instance hQl:TF Tryz.prog 69 2 6:=⟨by kernel_rfl⟩
instance hSc:TBd Tryz.prog 69:=⟨by kernel_rfl⟩
instance hLr:TFS Tryz.prog 69 0 0 3:=⟨by kernel_rfl⟩
instance hLs:TFS Tryz.prog 69 1 3 3:=⟨by kernel_rfl⟩
instance hLt:TFS Tryz.prog 69 2 6 1:=⟨by kernel_rfl⟩
instance hVs:TZ Tryz.prog 69 [.int .i64 0,.string ⟨#[]⟩,.slice none 0 0,.int .i64 0,.string ⟨#[]⟩,.slice none 0 0,.int .i64 0]:=⟨by kernel_rfl⟩
instance hVt:TI Tryz.prog 72 true 5 72:=⟨by kernel_rfl⟩
instance hQm:TF Tryz.prog 72 0 0:=⟨by kernel_rfl⟩
instance hQo:TF Tryz.prog 72 1 4:=⟨by kernel_rfl⟩
instance hSe:TBd Tryz.prog 72:=⟨by kernel_rfl⟩
instance hLu:TFS Tryz.prog 72 0 0 4:=⟨by kernel_rfl⟩
instance hLv:TFS Tryz.prog 72 1 4 1:=⟨by kernel_rfl⟩
instance hVu:TZ Tryz.prog 72 [.string ⟨#[]⟩,.int .i64 0,.string ⟨#[]⟩,.slice none 0 0,.int .i64 0]:=⟨by kernel_rfl⟩
instance hVv:TI Tryz.prog 83 false 1 24:=⟨by kernel_rfl⟩
instance hVw:TE Tryz.prog 83 151:=⟨by kernel_rfl⟩
instance hVx:TI Tryz.prog 84 false 1 24:=⟨by kernel_rfl⟩
instance hVy:TE Tryz.prog 84 156:=⟨by kernel_rfl⟩
instance hVz:TI Tryz.prog 85 false 1 24:=⟨by kernel_rfl⟩
instance hV0:TE Tryz.prog 85 161:=⟨by kernel_rfl⟩
instance hV3:TI Tryz.prog 86 false 1 24:=⟨by kernel_rfl⟩
instance hV4:TE Tryz.prog 86 170:=⟨by kernel_rfl⟩
instance hV5:TI Tryz.prog 88 true 6 136:=⟨by kernel_rfl⟩
instance hQp:TF Tryz.prog 88 0 0:=⟨by kernel_rfl⟩
instance hQq:TF Tryz.prog 88 1 1:=⟨by kernel_rfl⟩
instance hQr:TF Tryz.prog 88 2 2:=⟨by kernel_rfl⟩
instance hQs:TF Tryz.prog 88 3 3:=⟨by kernel_rfl⟩
instance hQt:TF Tryz.prog 88 4 4:=⟨by kernel_rfl⟩
instance hQu:TF Tryz.prog 88 5 5:=⟨by kernel_rfl⟩
instance hSf:TBd Tryz.prog 88:=⟨by kernel_rfl⟩
instance hLw:TFS Tryz.prog 88 0 0 1:=⟨by kernel_rfl⟩
instance hLx:TFS Tryz.prog 88 1 1 1:=⟨by kernel_rfl⟩
instance hV6:TZ Tryz.prog 88 [.string ⟨#[]⟩,.slice none 0 0,.slice none 0 0,.slice none 0 0,.slice none 0 0,.slice none 0 0]:=⟨by kernel_rfl⟩
instance hV7:TI Tryz.prog 92 true 4 64:=⟨by kernel_rfl⟩
instance hQv:TF Tryz.prog 92 0 0:=⟨by kernel_rfl⟩
instance hQw:TF Tryz.prog 92 1 1:=⟨by kernel_rfl⟩
instance hSg:TBd Tryz.prog 92:=⟨by kernel_rfl⟩
instance hLy:TFS Tryz.prog 92 0 0 1:=⟨by kernel_rfl⟩
instance hL8:TFS Tryz.prog 92 1 1 3:=⟨by kernel_rfl⟩
instance hV8:TZ Tryz.prog 92 [.string ⟨#[]⟩,.int .i64 0,.string ⟨#[]⟩,.slice none 0 0]:=⟨by kernel_rfl⟩
instance hSh:TI Tryz.prog 105 false 1 24:=⟨by kernel_rfl⟩
instance hSi:TE Tryz.prog 105 107:=⟨by kernel_rfl⟩
instance hSk:TI Tryz.prog 107 true 2 40:=⟨by kernel_rfl⟩
instance hL9:TF Tryz.prog 107 0 0:=⟨by kernel_rfl⟩
instance hMa:TF Tryz.prog 107 1 1:=⟨by kernel_rfl⟩
instance hQx:TBd Tryz.prog 107:=⟨by kernel_rfl⟩
instance hIl:TFS Tryz.prog 107 0 0 1:=⟨by kernel_rfl⟩
instance hIm:TFS Tryz.prog 107 1 1 1:=⟨by kernel_rfl⟩
instance hSl:TZ Tryz.prog 107 [.string ⟨#[]⟩,.slice none 0 0]:=⟨by kernel_rfl⟩
instance hMb:TF Tryz.prog 125 0 0:=⟨by kernel_rfl⟩
instance hMc:TF Tryz.prog 125 1 1:=⟨by kernel_rfl⟩
instance hMd:TF Tryz.prog 125 2 2:=⟨by kernel_rfl⟩
instance hMf:TF Tryz.prog 125 3 3:=⟨by kernel_rfl⟩
instance hMg:TF Tryz.prog 125 4 4:=⟨by kernel_rfl⟩
instance hQy:TBd Tryz.prog 125:=⟨by kernel_rfl⟩
instance hIo:TFS Tryz.prog 125 0 0 1:=⟨by kernel_rfl⟩
instance hSm:TZ Tryz.prog 125 [.string ⟨#[]⟩,.int .i64 0,.int .i64 0,.int .i64 0,.bool false]:=⟨by kernel_rfl⟩
instance hSn:TI Tryz.prog 149 false 1 24:=⟨by kernel_rfl⟩
instance hSq:TE Tryz.prog 149 194:=⟨by kernel_rfl⟩
instance hSs:TI Tryz.prog 151 true 5 72:=⟨by kernel_rfl⟩
instance hMi:TF Tryz.prog 151 0 0:=⟨by kernel_rfl⟩
instance hMk:TF Tryz.prog 151 1 1:=⟨by kernel_rfl⟩
instance hMl:TF Tryz.prog 151 2 2:=⟨by kernel_rfl⟩
instance hMm:TF Tryz.prog 151 3 3:=⟨by kernel_rfl⟩
instance hMn:TF Tryz.prog 151 4 4:=⟨by kernel_rfl⟩
instance hQz:TBd Tryz.prog 151:=⟨by kernel_rfl⟩
instance hIp:TFS Tryz.prog 151 0 0 1:=⟨by kernel_rfl⟩
instance hIq:TFS Tryz.prog 151 1 1 1:=⟨by kernel_rfl⟩
instance hIr:TFS Tryz.prog 151 2 2 1:=⟨by kernel_rfl⟩
instance hIt:TFS Tryz.prog 151 3 3 1:=⟨by kernel_rfl⟩
instance hSu:TZ Tryz.prog 151 [.string ⟨#[]⟩,.slice none 0 0,.bool false,.bool false,.slice none 0 0]:=⟨by kernel_rfl⟩
instance hSv:TI Tryz.prog 154 false 1 24:=⟨by kernel_rfl⟩
instance hSx:TE Tryz.prog 154 199:=⟨by kernel_rfl⟩
instance hSy:TI Tryz.prog 156 true 3 64:=⟨by kernel_rfl⟩
instance hMo:TF Tryz.prog 156 0 0:=⟨by kernel_rfl⟩
instance hMp:TF Tryz.prog 156 1 1:=⟨by kernel_rfl⟩
instance hMq:TF Tryz.prog 156 2 2:=⟨by kernel_rfl⟩
instance hQ0:TBd Tryz.prog 156:=⟨by kernel_rfl⟩
instance hIu:TFS Tryz.prog 156 0 0 1:=⟨by kernel_rfl⟩
instance hIv:TFS Tryz.prog 156 1 1 1:=⟨by kernel_rfl⟩
instance hS3:TZ Tryz.prog 156 [.string ⟨#[]⟩,.slice none 0 0,.slice none 0 0]:=⟨by kernel_rfl⟩
instance hS4:TI Tryz.prog 159 false 1 24:=⟨by kernel_rfl⟩
instance hS6:TE Tryz.prog 159 203:=⟨by kernel_rfl⟩
instance hS7:TI Tryz.prog 161 true 12 192:=⟨by kernel_rfl⟩
instance hMr:TF Tryz.prog 161 0 0:=⟨by kernel_rfl⟩
instance hMu:TF Tryz.prog 161 1 1:=⟨by kernel_rfl⟩
instance hMv:TF Tryz.prog 161 2 2:=⟨by kernel_rfl⟩
instance hMw:TF Tryz.prog 161 3 5:=⟨by kernel_rfl⟩
instance hMx:TF Tryz.prog 161 4 6:=⟨by kernel_rfl⟩
instance hMy:TF Tryz.prog 161 5 7:=⟨by kernel_rfl⟩
instance hMz:TF Tryz.prog 161 6 8:=⟨by kernel_rfl⟩
instance hM3:TF Tryz.prog 161 7 11:=⟨by kernel_rfl⟩
instance hQ1:TBd Tryz.prog 161:=⟨by kernel_rfl⟩
instance hIw:TFS Tryz.prog 161 0 0 1:=⟨by kernel_rfl⟩
instance hIy:TFS Tryz.prog 161 1 1 1:=⟨by kernel_rfl⟩
instance hIz:TFS Tryz.prog 161 2 2 3:=⟨by kernel_rfl⟩
instance hI3:TFS Tryz.prog 161 3 5 1:=⟨by kernel_rfl⟩
instance hI4:TFS Tryz.prog 161 4 6 1:=⟨by kernel_rfl⟩
instance hS8:TZ Tryz.prog 161 [.string ⟨#[]⟩,.slice none 0 0,.int .i64 0,.string ⟨#[]⟩,.slice none 0 0,.slice none 0 0,.bool false,.bool false,.int .i64 0,.string ⟨#[]⟩,.slice none 0 0,.slice none 0 0]:=⟨by kernel_rfl⟩
instance hS9:TI Tryz.prog 164 false 1 24:=⟨by kernel_rfl⟩
instance hTa:TE Tryz.prog 164 206:=⟨by kernel_rfl⟩
instance hTb:TI Tryz.prog 165 false 1 24:=⟨by kernel_rfl⟩
instance hTc:TE Tryz.prog 165 168:=⟨by kernel_rfl⟩
instance hTd:TI Tryz.prog 166 false 1 24:=⟨by kernel_rfl⟩
instance hTf:TE Tryz.prog 166 227:=⟨by kernel_rfl⟩
instance hTg:TI Tryz.prog 168 true 9 144:=⟨by kernel_rfl⟩
instance hM4:TF Tryz.prog 168 0 0:=⟨by kernel_rfl⟩
instance hM5:TF Tryz.prog 168 1 1:=⟨by kernel_rfl⟩
instance hM6:TF Tryz.prog 168 2 2:=⟨by kernel_rfl⟩
instance hM7:TF Tryz.prog 168 3 3:=⟨by kernel_rfl⟩
instance hM8:TF Tryz.prog 168 4 4:=⟨by kernel_rfl⟩
instance hM9:TF Tryz.prog 168 5 7:=⟨by kernel_rfl⟩
instance hNa:TF Tryz.prog 168 6 8:=⟨by kernel_rfl⟩
instance hQ2:TBd Tryz.prog 168:=⟨by kernel_rfl⟩
instance hI5:TFS Tryz.prog 168 0 0 1:=⟨by kernel_rfl⟩
instance hI6:TFS Tryz.prog 168 1 1 1:=⟨by kernel_rfl⟩
instance hI7:TFS Tryz.prog 168 2 2 1:=⟨by kernel_rfl⟩
instance hI8:TFS Tryz.prog 168 3 3 1:=⟨by kernel_rfl⟩
instance hI9:TFS Tryz.prog 168 4 4 3:=⟨by kernel_rfl⟩
instance hJa:TFS Tryz.prog 168 5 7 1:=⟨by kernel_rfl⟩
instance hTh:TZ Tryz.prog 168 [.int .i64 0,.string ⟨#[]⟩,.string ⟨#[]⟩,.int .i64 0,.int .i64 0,.string ⟨#[]⟩,.slice none 0 0,.slice none 0 0,.slice none 0 0]:=⟨by kernel_rfl⟩
instance hTi:TI Tryz.prog 170 true 16 280:=⟨by kernel_rfl⟩
instance hNd:TF Tryz.prog 170 0 0:=⟨by kernel_rfl⟩
instance hNe:TF Tryz.prog 170 1 1:=⟨by kernel_rfl⟩
instance hNg:TF Tryz.prog 170 2 2:=⟨by kernel_rfl⟩
instance hNh:TF Tryz.prog 170 3 3:=⟨by kernel_rfl⟩
instance hNi:TF Tryz.prog 170 4 4:=⟨by kernel_rfl⟩
instance hNj:TF Tryz.prog 170 5 7:=⟨by kernel_rfl⟩
instance hQ3:TBd Tryz.prog 170:=⟨by kernel_rfl⟩
instance hJb:TFS Tryz.prog 170 0 0 1:=⟨by kernel_rfl⟩
instance hJc:TFS Tryz.prog 170 1 1 1:=⟨by kernel_rfl⟩
instance hJf:TFS Tryz.prog 170 2 2 1:=⟨by kernel_rfl⟩
instance hJg:TFS Tryz.prog 170 4 4 3:=⟨by kernel_rfl⟩
instance hJh:TFS Tryz.prog 170 5 7 9:=⟨by kernel_rfl⟩
instance hTk:TZ Tryz.prog 170 [.string ⟨#[]⟩,.slice none 0 0,.slice none 0 0,.slice none 0 0,.int .i64 0,.string ⟨#[]⟩,.slice none 0 0,.int .i64 0,.string ⟨#[]⟩,.string ⟨#[]⟩,.int .i64 0,.int .i64 0,.string ⟨#[]⟩,.slice none 0 0,.slice none 0 0,.slice none 0 0]:=⟨by kernel_rfl⟩
instance hTl:TI Tryz.prog 181 true 2 16:=⟨by kernel_rfl⟩
instance hNk:TF Tryz.prog 181 0 0:=⟨by kernel_rfl⟩
instance hNl:TF Tryz.prog 181 1 1:=⟨by kernel_rfl⟩
instance hQ4:TBd Tryz.prog 181:=⟨by kernel_rfl⟩
instance hJi:TFS Tryz.prog 181 0 0 1:=⟨by kernel_rfl⟩
instance hJj:TFS Tryz.prog 181 1 1 1:=⟨by kernel_rfl⟩
instance hTm:TZ Tryz.prog 181 [.int .i64 0,.int .i64 0]:=⟨by kernel_rfl⟩
instance hTn:TI Tryz.prog 182 false 1 24:=⟨by kernel_rfl⟩
instance hTo:TE Tryz.prog 182 184:=⟨by kernel_rfl⟩
instance hTp:TI Tryz.prog 184 true 5 56:=⟨by kernel_rfl⟩
instance hNm:TF Tryz.prog 184 0 0:=⟨by kernel_rfl⟩
instance hNn:TF Tryz.prog 184 2 2:=⟨by kernel_rfl⟩
instance hNo:TF Tryz.prog 184 3 4:=⟨by kernel_rfl⟩
instance hQ5:TBd Tryz.prog 184:=⟨by kernel_rfl⟩
instance hJk:TFS Tryz.prog 184 0 0 1:=⟨by kernel_rfl⟩
instance hJl:TFS Tryz.prog 184 1 1 1:=⟨by kernel_rfl⟩
instance hJm:TFS Tryz.prog 184 2 2 2:=⟨by kernel_rfl⟩
instance hJn:TFS Tryz.prog 184 3 4 1:=⟨by kernel_rfl⟩
instance hTq:TZ Tryz.prog 184 [.int .i64 0,.int .i64 0,.int .i64 0,.int .i64 0,.slice none 0 0]:=⟨by kernel_rfl⟩
instance hTt:TI Tryz.prog 194 true 16 264:=⟨by kernel_rfl⟩
instance hNp:TF Tryz.prog 194 0 0:=⟨by kernel_rfl⟩
instance hNq:TF Tryz.prog 194 1 1:=⟨by kernel_rfl⟩
instance hNr:TF Tryz.prog 194 2 2:=⟨by kernel_rfl⟩
instance hNt:TF Tryz.prog 194 3 5:=⟨by kernel_rfl⟩
instance hNu:TF Tryz.prog 194 4 6:=⟨by kernel_rfl⟩
instance hNv:TF Tryz.prog 194 5 7:=⟨by kernel_rfl⟩
instance hQ6:TBd Tryz.prog 194:=⟨by kernel_rfl⟩
instance hJo:TFS Tryz.prog 194 0 0 1:=⟨by kernel_rfl⟩
instance hJp:TFS Tryz.prog 194 1 1 1:=⟨by kernel_rfl⟩
instance hJq:TFS Tryz.prog 194 2 2 3:=⟨by kernel_rfl⟩
instance hTu:TZ Tryz.prog 194 [.string ⟨#[]⟩,.slice none 0 0,.int .i64 0,.string ⟨#[]⟩,.slice none 0 0,.bool false,.slice none 0 0,.int .i64 0,.string ⟨#[]⟩,.string ⟨#[]⟩,.int .i64 0,.int .i64 0,.string ⟨#[]⟩,.slice none 0 0,.slice none 0 0,.slice none 0 0]:=⟨by kernel_rfl⟩
instance hTv:TI Tryz.prog 199 true 2 40:=⟨by kernel_rfl⟩
instance hNw:TF Tryz.prog 199 0 0:=⟨by kernel_rfl⟩
instance hNx:TF Tryz.prog 199 1 1:=⟨by kernel_rfl⟩
instance hQ7:TBd Tryz.prog 199:=⟨by kernel_rfl⟩
instance hJr:TFS Tryz.prog 199 0 0 1:=⟨by kernel_rfl⟩
instance hJt:TFS Tryz.prog 199 1 1 1:=⟨by kernel_rfl⟩
instance hTw:TZ Tryz.prog 199 [.string ⟨#[]⟩,.slice none 0 0]:=⟨by kernel_rfl⟩
instance hTz:TI Tryz.prog 203 true 11 184:=⟨by kernel_rfl⟩
instance hNy:TF Tryz.prog 203 0 0:=⟨by kernel_rfl⟩
instance hNz:TF Tryz.prog 203 1 1:=⟨by kernel_rfl⟩
instance hN2:TF Tryz.prog 203 2 2:=⟨by kernel_rfl⟩
instance hQ8:TBd Tryz.prog 203:=⟨by kernel_rfl⟩
instance hJu:TFS Tryz.prog 203 0 0 1:=⟨by kernel_rfl⟩
instance hJw:TFS Tryz.prog 203 1 1 1:=⟨by kernel_rfl⟩
instance hJz:TFS Tryz.prog 203 2 2 9:=⟨by kernel_rfl⟩
instance hT2:TZ Tryz.prog 203 [.string ⟨#[]⟩,.slice none 0 0,.int .i64 0,.string ⟨#[]⟩,.string ⟨#[]⟩,.int .i64 0,.int .i64 0,.string ⟨#[]⟩,.slice none 0 0,.slice none 0 0,.slice none 0 0]:=⟨by kernel_rfl⟩
instance hT3:TI Tryz.prog 206 true 4 64:=⟨by kernel_rfl⟩
instance hN3:TF Tryz.prog 206 0 0:=⟨by kernel_rfl⟩
instance hN4:TF Tryz.prog 206 1 1:=⟨by kernel_rfl⟩
instance hQ9:TBd Tryz.prog 206:=⟨by kernel_rfl⟩
instance hJ1:TFS Tryz.prog 206 0 0 1:=⟨by kernel_rfl⟩
instance hJ4:TFS Tryz.prog 206 1 1 3:=⟨by kernel_rfl⟩
instance hT4:TZ Tryz.prog 206 [.string ⟨#[]⟩,.int .i64 0,.string ⟨#[]⟩,.slice none 0 0]:=⟨by kernel_rfl⟩
instance hT5:TE Tryz.prog 216 246:=⟨by kernel_rfl⟩
instance hT6:TI Tryz.prog 227 true 11 184:=⟨by kernel_rfl⟩
instance hN5:TF Tryz.prog 227 0 0:=⟨by kernel_rfl⟩
instance hN6:TF Tryz.prog 227 1 1:=⟨by kernel_rfl⟩
instance hN7:TF Tryz.prog 227 2 2:=⟨by kernel_rfl⟩
instance hRa:TBd Tryz.prog 227:=⟨by kernel_rfl⟩
instance hJ5:TFS Tryz.prog 227 0 0 1:=⟨by kernel_rfl⟩
instance hJ6:TFS Tryz.prog 227 1 1 1:=⟨by kernel_rfl⟩
instance hJ7:TFS Tryz.prog 227 2 2 9:=⟨by kernel_rfl⟩
instance hT7:TZ Tryz.prog 227 [.string ⟨#[]⟩,.slice none 0 0,.int .i64 0,.string ⟨#[]⟩,.string ⟨#[]⟩,.int .i64 0,.int .i64 0,.string ⟨#[]⟩,.slice none 0 0,.slice none 0 0,.slice none 0 0]:=⟨by kernel_rfl⟩
instance hT8:TI Tryz.prog 244 false 1 24:=⟨by kernel_rfl⟩
instance hT9:TE Tryz.prog 244 3:=⟨by kernel_rfl⟩
instance hUa:TI Tryz.prog 246 true 6 96:=⟨by kernel_rfl⟩
instance hN8:TF Tryz.prog 246 0 0:=⟨by kernel_rfl⟩
instance hN9:TF Tryz.prog 246 1 4:=⟨by kernel_rfl⟩
instance hOa:TF Tryz.prog 246 2 5:=⟨by kernel_rfl⟩
instance hRc:TBd Tryz.prog 246:=⟨by kernel_rfl⟩
instance hJ8:TFS Tryz.prog 246 0 0 4:=⟨by kernel_rfl⟩
instance hJ9:TFS Tryz.prog 246 1 4 1:=⟨by kernel_rfl⟩
instance hKd:TFS Tryz.prog 246 2 5 1:=⟨by kernel_rfl⟩
instance hUb:TZ Tryz.prog 246 [.string ⟨#[]⟩,.int .i64 0,.string ⟨#[]⟩,.slice none 0 0,.int .i64 0,.slice none 0 0]:=⟨by kernel_rfl⟩
instance hUc:TE Tryz.prog 275 181:=⟨by kernel_rfl⟩
theorem hUd:Tryz.prog.follows .mixedOrders=true:=by kernel_rfl
instance:Mix Tryz.prog:=⟨hUd⟩
end Go.Proofs.YtfaplndgbgoaaaaGreatDoor
set_option linter.unusedVariables false
set_option linter.unusedSimpArgs false
namespace Go.Eng
open Go Go.RowKit
end Go.Eng
