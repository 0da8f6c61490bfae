import Derived.Test.YtfpdlnkkcnmebaaGreatEng38
set_option linter.unusedVariables false
set_option linter.unusedSimpArgs false
namespace Go.Eng
open Go Go.RowKit
theorem gY8{z:Nat}(hz:0 < z):∀(vs:List Value)(k:Nat)(pre post:List Value),(∀v∈vs,v.cells.size=z)→pre.length=k*z→post.length=vs.length*z→
  Instr.fill (fun i=>some (i*z,z)) (pre++post).toArray ((vs.zipIdx k).map fun p=>(p.2,p.1))=some (pre++vs.flatMap fun v=>v.cells.toList).toArray
 | [],k,pre,post,_,_,hp=>by
   simp only [List.length_nil,Nat.zero_mul,List.length_eq_zero_iff] at hp;subst hp;simp [Instr.fill]
 | v::vs,k,pre,post,hv,h1,h2=>by
   have hvz:=hv v (by simp);have hpl:z≤post.length:=by rw [h2,List.length_cons,Nat.add_mul];omega
   simp only [List.zipIdx_cons,List.map_cons];rw [gPs (off:=k*z) (n:=z) rfl hvz (by simp only [List.size_toArray,List.length_append];omega)];have e1:(pre++post).toArray.toList.take (k*z)=pre:=by simp [←h1]
   have e2:(pre++post).toArray.toList.drop (k*z+z)=post.drop z:=by
    show(pre++post).drop (k*z+z)=_;rw [←h1,List.drop_append,List.drop_eq_nil_of_le (by omega),Nat.add_sub_cancel_left,List.nil_append]
   rw [e1,e2];have hcl:v.cells.toList.length=z:=by simpa using hvz
   have:=gY8 hz vs (k+1) (pre++v.cells.toList) (post.drop z) (fun w hw=>hv w (by simp [hw])) (by simp [h1,hvz,Nat.add_mul]) (by simp [h2,Nat.add_mul])
   rw [this];simp
inductive VDs (σ:St):List Operand→List U→Prop
 | nil:VDs σ [] []
 | cons {x:Operand} {l:List Operand} {u:U} {us:List U} (h:VD σ.L (σ.ev x) u) (h2:VDs σ l us):VDs σ (x::l) (u::us)
theorem VDs.r{A:Amb}{S:Nat→Prop}{env:List Value}{a:Act}{w:World}{σ:St}{z:Nat}(hH:pW A S σ.L env w)(hf:∀t,SVr S σ.L env w (look σ.fr t) (a.tmps.getD t undef)){l:List Operand}{us:List U}(h:VDs σ l us):(∀u∈us,u.sz=z)→
  l.length=us.length∧(∀v∈l.map a.eval,v.cells.size=z)∧Rds S w us ((l.map a.eval).flatMap fun v=>v.cells.toList):=by
 induction h with
 | nil=>intro _;exact⟨rfl,by simp,rfl⟩
 | @cons x l u us h h2 ih=>
   intro hz;obtain⟨k1,k2,k3⟩:=ih (fun u hu=>hz u (by simp [hu]));have hr:=VD.r hH h (mY.ev hf hH x);simp only [SVr] at hr;obtain⟨cs,c1,c2⟩:=hr;have hcells:(a.eval x).cells.toList=cs:=by rw [c1];exact gLg c2
   have hcl:=Rd.length _ _ c2;rw [hz u (by simp)] at hcl;refine⟨by simp [k1],?_,?_⟩
   ·intro v hv;simp only [List.map_cons,List.mem_cons] at hv;rcases hv with rfl | hv
    ·rw [←hcl,←hcells];simp
    ·exact k2 v hv
   ·simp only [List.map_cons,List.flatMap_cons,Rds];exact⟨cs,_,by rw [hcells],c2,k3⟩
section
variable {P:Program}{A:Amb}{ops:Array Oper}{K:St→Prop}{Q:Exit→St→Prop}{rest:List Oper}{σ:St}{fr:List (Nat × SV)}{L L1 L':List LO}{N i t:Nat}{sv:SV}{o:Oper}{c:Code}
variable {ty T:TypeId}{pos:String}{af:Array Edge}{x y:Operand}{g:Option (Nat × Bool)}{dst:Option Nat}{op:Op}
theorem hIb {e z bs:Nat}{gg:Bool}{zs:List Value}{a:Act}{w:World}{n:Nat}{ps:Array (Nat × Operand)}{l:List Operand}(hT:tyE P T=some e)(he:tyI P e=some (gg,z,bs))(hZ:tyZ P e=some zs)(hz:(Nat.blt 0 z && Nat.ble (n*z) 16777216 && zs.length==z)=true)
  (hn:l.length=n) (h0:0 < n) (hps:ps.toList=(l.zipIdx 0).map fun p=>(p.2,p.1)) (hv:∀v∈l.map a.eval,v.cells.size=z) :
  (execOp a.eval ⟨dst,.buildSlice T n ps,ty,pos,af,g⟩).run P w=.ok (.value (.slice (some ⟨w.heap.size,0,none⟩) n n)) (w.alloc (.cells ((l.map a.eval).flatMap fun v=>v.cells.toList).toArray e)):=by
 simp only [Bool.and_eq_true,Nat.blt_eq,beq_iff_eq] at hz;obtain⟨⟨hz0,hz1⟩,hz2⟩:=hz;have hz1:=Nat.le_of_ble_eq_true hz1;obtain⟨zv,hrz,hzc⟩:=gNy hZ w;have hzs:zv.cells.size=z:=by rw [←hz2,←hzc];simp
 have hpar:(ps.map fun p=>(p.1,a.eval p.2)).toList=((l.map a.eval).zipIdx 0).map fun p=>(p.2,p.1):=by
  rw [Array.toList_map,hps,List.zipIdx_map,List.map_map,List.map_map];rfl
 have hfill:=gY8 hz0 (l.map a.eval) 0 [] ((List.range (n*z)).map (zv.cells[· % zv.cells.size]!)) hv (by simp) (by simp [hn]);simp only [List.nil_append] at hfill;have hne:¬n*z=0:=by
  have:=Nat.mul_pos h0 hz0
  omega
 have harr:(Array.range (n*z)).map (zv.cells[· % zv.cells.size]!)=((List.range (n*z)).map (zv.cells[· % zv.cells.size]!)).toArray:=by
  apply Array.ext';simp
 have h2:¬n*z > 2^24:=by omega
 simp only [execOp,Instr.buildSlice,Sem.run_bind,run_underlying (zN hT),Result.andThen_ok,run_sizeOf he,h2,if_false,hne,hrz,Sem.run_pure,harr,hpar,hfill,newRow];simp
theorem hV0 {e z bs n:Nat}{gg:Bool} [TE P T e] [TI P e gg z bs] {zs:List Value} [TZ P e zs] {us:List U} {ps:Array (Nat × Operand)} {l:List Operand} (h:VO P A ops rest ⟨(t,.sl i 0)::fr,L',N⟩ K) (hps:ps.toList=(l.zipIdx 0).map fun p=>(p.2,p.1):=by rfl)
  (hy:VDs ⟨fr,L,N⟩ l us:=by(repeat(first | exact .nil | refine .cons (by((repeat(first | exact trivial | exact rfl | exact⟨_,rfl⟩ | refine And.intro ?_ ?_));first | done | fail)) ?_))) (hu:(us.all fun u=>u.sz==z)=true:=by rfl) (hn:(l.length==n && Nat.blt 0 n)=true:=by rfl)
  (hz:(Nat.blt 0 z && Nat.ble (n*z) 16777216 && zs.length==z)=true:=by rfl) (ht:Nat.blt t N=true:=by rfl) (hL':Sn (.arr e z 0 us) L i L':=by repeat constructor) :
  VO P A ops (⟨some t,.buildSlice T n ps,ty,pos,af,none⟩::rest) ⟨fr,L,N⟩ K:=by
 obtain⟨hi,hL''⟩:=hL'.spec;subst hi;subst hL'';simp only [Bool.and_eq_true,beq_iff_eq,Nat.blt_eq] at hn;have hsz:∀u∈us,u.sz=z:=by simpa using hu
 refine gDd rfl (fun S env a w hH hf hN hd=>?_) h;obtain⟨k1,k2,k3⟩:=VDs.r hH hf hy hsz;have hlen:=Rds.length _ _ k3;have hszs:U.szs us=us.length*z:=by
  have:∀(us:List U),(∀u∈us,u.sz=z)→U.szs us=us.length*z:=by
   intro us
   induction us with
   | nil=>intro _;simp [U.szs]
   | cons u us ih=>intro h;simp only [U.szs,List.length_cons,Nat.add_mul];rw [h u (by simp),ih (fun v hv=>h v (by simp [hv]))];omega
  exact this us hsz
 have hbig:us.length≤16777216:=by
  simp only [Bool.and_eq_true,Nat.blt_eq] at hz;have h1:=Nat.le_of_ble_eq_true hz.1.2;have h2:n*1≤n*z:=Nat.mul_le_mul_left n hz.1.1;omega
 have hold:∀b,b < w.heap.size→(w.alloc (.cells ((l.map a.eval).flatMap fun v=>v.cells.toList).toArray e)).heap[b]? =w.heap[b]? :=fun b hb=>heap_alloc_old w _ hb
 obtain⟨hH',C⟩:=hH.new (w':=w.alloc (.cells ((l.map a.eval).flatMap fun v=>v.cells.toList).toArray e)) (.arr e z 0 us) (.slice (some ⟨w.heap.size,0,none⟩) n n) (by simp) hold rfl rfl rfl
  (fun b hb=>by simp [LO.ft,blk] at hb;subst hb;simp)
  (fun C=>⟨by rw [yY];omega,hsz,_,⟨by rw [hlen,hszs],.inr ⟨w.heap.size,n,_,by rw [←k1,hn.1],Nat.zero_le _,heap_alloc_new w _,by omega,by simp [maxLen];omega,by simp only [List.size_toArray];rw [hlen,hszs,←k1,hn.1],by
   rw [List.take_of_length_le]
   simp only [hlen,hszs,Nat.le_refl]⟩⟩,Rds.mono C.hS C.hw _ _ k3⟩)
 refine⟨.value (.slice (some ⟨w.heap.size,0,none⟩) n n),_,hIb TE.h TI.h TZ.h hz hn.1 hn.2 hps k2,.inl ⟨_,rfl,uU hf hN hd ht hH' C ?_⟩⟩;simp only [SVr];exact⟨.slice (some ⟨w.heap.size,0,none⟩) n n,.arr e z 0 us,by rw [←hH.len];simp,by simp,Nat.le_refl _,rfl,fun _=>rfl⟩
end
section
variable {P:Program}{A:Amb}{ops:Array Oper}{K:St→Prop}{Q:Exit→St→Prop}{rest:List Oper}{σ:St}{fr:List (Nat × SV)}{L L1 L' news:List LO}{N i t n:Nat}{sv:SV}{o:Oper}{c:Code}
variable {ty T:TypeId}{pos:String}{af:Array Edge}{x y:Operand}{g:Option (Nat × Bool)}{dst:Option Nat}{op:Op}{r:List (Nat × Bool)}{pf:PF}{j:Nat}
theorem gE3 {f:Operand}{fi:Nat}{args:Array Operand}{at_:Array TypeId}{dargs:List SV}{es:List TypeId}{us:List U}(hspec:mK P fi dargs es us)(h:VO P A ops rest ⟨(t,sv)::fr,L',N⟩ K)(hf:(St.mk fr L N).ev f=.fn fi []:=by rfl)
  (hargs:WCs L (args.toList.map (St.mk fr L N).ev) dargs:=by((repeat(first | exact trivial | exact rfl | exact⟨_,rfl⟩ | refine And.intro ?_ ?_));first | done | fail)) (hn:Ln L n:=by repeat constructor) (hy:OYr n es us sv news:=by((repeat constructor);first | done | fail)) (hj:Jn L news L':=by repeat constructor) (ht:Nat.blt t N=true:=by rfl) :
  VO P A ops (⟨some t,.call { callee:=.value f,args:=args,argTypes:=at_ },ty,pos,af,none⟩::rest) ⟨fr,L,N⟩ K:=gY1 hf hspec hargs hn hy hj ht h
theorem gRi {f:Operand}{fi:Nat}{args:Array Operand}{at_:Array TypeId}{dargs:List SV}{es:List TypeId}{us:List U}(hspec:mK P fi dargs es us)(h:VY P A ops K r pf ⟨(t,sv)::fr,L',N⟩)
  (hi:ops[i]? =some ⟨some t,.call { callee:=.value f,args:=args,argTypes:=at_ },ty,pos,af,none⟩:=by rfl) (hf:(St.mk fr L N).ev f=.fn fi []:=by rfl)
  (hargs:WCs L (args.toList.map (St.mk fr L N).ev) dargs:=by((repeat(first | exact trivial | exact rfl | exact⟨_,rfl⟩ | refine And.intro ?_ ?_));first | done | fail)) (hn:Ln L n:=by repeat constructor) (hy:OYr n es us sv news:=by((repeat constructor);first | done | fail)) (hj:Jn L news L':=by repeat constructor) (ht:Nat.blt t N=true:=by rfl)
  (hp:vU ops i L' pf:=by(repeat(first | exact vU.nil | (apply vU.keep;focus ((repeat constructor);done)) | (apply vU.dep;focus kernel_rfl)))) :
  VY P A ops K ((i,false)::r) pf ⟨fr,L,N⟩:=gE5 hi (hDh hf hspec hargs hn hy hj ht) hp h
theorem hIc {α:Type}{en:α→U}{es:List α→List U}{z:Nat}[E:Enc α en es z](a0:α){e bs m:Nat}{gg:Bool}(hg:m≤4294967296) [TE P T e] [TI P e gg z bs] {zs:List Value} [TZ P e zs] (h:VO P A ops rest ⟨(t,.sl i 0)::fr,L',N⟩ K)
  (hx:(St.mk fr L N).ev x=.d (.i .i64 (m:Int)):=by rfl) (hy:(St.mk fr L N).ev y=.d (.i .i64 (m:Int)):=by rfl) (hzu:gW8 (en a0) zs:=by exact hOy (by repeat constructor) (by repeat constructor)) (hz:(Nat.blt 0 z && zs.length==z)=true:=by rfl) (hb:Nat.ble bs 32768=true:=by rfl)
  (ht:Nat.blt t N=true:=by rfl) (hL':Sn (.own e z 0 (es (List.replicate m a0))) L i L':=by repeat constructor) :
  VO P A ops (⟨some t,.makeSlice T x y,ty,pos,af,none⟩::rest) ⟨fr,L,N⟩ K:=by
 have hb:=Nat.le_of_ble_eq_true hb;rw [Enc.rep (es:=es)] at hL';refine hMf hx hy TE.h TI.h TZ.h hz hzu (Int.natCast_nonneg m) (Int.le_refl _) (by rw [yY];omega) ?_ ht (by rwa [Int.toNat_natCast]) h
 have:bs*m≤32768*4294967296:=Nat.mul_le_mul hb hg
 omega
theorem hId{α:Type}{en:α→U}{es:List α→List U}{z:Nat}[E:Enc α en es z]{e bs ver e':Nat}{gg:Bool}{l:List α}(k:Nat)(hk:k < l.length) [TE P T e] [TI P e gg z bs](hx:σ.ev x=.sl j ver:=by rfl)(hL:σ.L[j]? =some (.own e' z ver (es l)):=by rfl)(hy:σ.ev y=.d (.i .i64 (k:Int)):=by rfl) :
  Quiet P A σ ⟨dst,.indexAddr T x y,ty,pos,af,g⟩ (.ep j ver z k 0):=by
 have:=gXl (P:=P) (A:=A) (dst:=dst) (ty:=ty) (pos:=pos) (af:=af) (g:=g) hx hL .own hy (TE.h:tyE P T=some e) (TI.h:tyI P e=some (gg,z,bs)) (Int.natCast_nonneg k) (by rw [Enc.len];omega)
 simpa using this
theorem hIf {α:Type}{en:α→U}{es:List α→List U}{z:Nat}[E:Enc α en es z]{e bs ver k:Nat}{gg:Bool}{l:List α}(a:α){js:List Nat}(hk:k < l.length) [TI P T gg z bs] (h:VO P A ops rest ⟨fr,L',N⟩ K) (hx:(St.mk fr L N).ev x=.ep i ver z k 0:=by rfl) (hL:L[i]? =some (.own e z ver (es l)):=by rfl)
  (hy:OV L ((St.mk fr L N).ev y) (en a) js:=by((repeat constructor);first | done | fail)) (hjs:(decide js.Nodup && !js.contains i)=true:=by decide) (hk1:KR js L L1:=by repeat constructor) (hL':St1 (.own e z ver (es (l.set k a))) i L1 L':=by repeat constructor) :
  VO P A ops (⟨none,.store T x y,ty,pos,af,none⟩::rest) ⟨fr,L,N⟩ K:=by
 rw [Enc.set (es:=es)] at hL';exact hH4 hx hL hy hjs TI.h (Enc.hz a) (by rw [Enc.len];exact hk) hk1 hL' h
theorem wX {α:Type}{en:α→U}{es:List α→List U}{z:Nat}[E:Enc α en es z](a:α){e bs:Nat}{gg:Bool} [TE P T e] [TI P e gg z bs] {zs:List Value} [TZ P e zs] {js:List Nat} (h:VO P A ops rest ⟨(t,.sl i 0)::fr,L',N⟩ K) (hy:OV L ((St.mk fr L N).ev x) (en a) js:=by((repeat constructor);first | done | fail)) (hjs:decide js.Nodup=true:=by decide)
  (hz:(Nat.blt 0 z && Nat.blt z 16777216 && zs.length==z)=true:=by rfl) (ht:Nat.blt t N=true:=by rfl) (hk1:KR js L L1:=by repeat constructor) (hL':Sn (.own e z 0 (es [a])) L1 i L':=by repeat constructor) :
  VO P A ops (⟨some t,.buildSlice T 1 #[(0,x)],ty,pos,af,none⟩::rest) ⟨fr,L,N⟩ K:=by
 have e1:es [a]=[en a]:=by rw [E.h];rfl
 rw [e1] at hL';exact gT6 hy hjs TE.h TI.h TZ.h hz (Enc.hz a) ht hk1 hL' h
theorem gLf {α:Type}{en:α→U}{es:List α→List U}{z:Nat}[E:Enc α en es z](a:α){e bs m:Nat}{gg:Bool} [TE P T e] [TI P e gg z bs] {zs:List Value} [TZ P e zs] {js:List Nat} (h:VY P A ops K r pf ⟨(t,.sl m 0)::fr,L',N⟩) (hi:ops[i]? =some ⟨some t,.buildSlice T 1 #[(0,x)],ty,pos,af,none⟩:=by rfl) (hy:OV L ((St.mk fr L N).ev x) (en a) js:=by((repeat constructor);first | done | fail)) (hjs:decide js.Nodup=true:=by decide)
  (hz:(Nat.blt 0 z && Nat.blt z 16777216 && zs.length==z)=true:=by rfl) (ht:Nat.blt t N=true:=by rfl) (hk1:KR js L L1:=by repeat constructor) (hL':Sn (.own e z 0 (es [a])) L1 m L':=by repeat constructor)
  (hp:vU ops i L' pf:=by(repeat(first | exact vU.nil | (apply vU.keep;focus ((repeat constructor);done)) | (apply vU.dep;focus kernel_rfl)))) :
  VY P A ops K ((i,false)::r) pf ⟨fr,L,N⟩:=by
 have e1:es [a]=[en a]:=by rw [E.h];rfl
 rw [e1] at hL';exact gE5 hi (hDk hy hjs TE.h TI.h TZ.h hz (Enc.hz a) ht hk1 hL') hp h
theorem hMn {e z bs m:Nat}{gg:Bool} [TE P T e] [TI P e gg z bs] (h:VY P A ops K r pf ⟨(t,.sl m 0)::fr,L',N⟩) (hi:ops[i]? =some ⟨some t,.buildSlice T 0 #[],ty,pos,af,none⟩:=by rfl) (ht:Nat.blt t N=true:=by rfl) (hL':Sn (.own e z 0 []) L m L':=by repeat constructor)
  (hp:vU ops i L' pf:=by(repeat(first | exact vU.nil | (apply vU.keep;focus ((repeat constructor);done)) | (apply vU.dep;focus kernel_rfl)))) :
  VY P A ops K ((i,false)::r) pf ⟨fr,L,N⟩:=gE5 hi (hDm TE.h TI.h ht hL') hp h
theorem gOs {α:Type}{en:α→U}{es:List α→List U}{z:Nat}[E:Enc α en es z]{l l':List α}(hg:l.length+l'.length≤4294967296){e bs ver m:Nat}{gg:Bool} [TE P T e] [TI P e gg z bs] {zs:List Value} [TZ P e zs] {js:List Nat} {T':TypeId}
  (h:VY P A ops K r pf ⟨(t,.sl m (ver+1))::fr,L',N⟩) (hi:ops[i]? =some ⟨some t,.call { callee:=.builtin .append,args:=#[x,y],argTypes:=#[T,T] },T',pos,af,none⟩:=by rfl) (hx:(St.mk fr L N).ev x=.sl m ver:=by rfl) (hL:L[m]? =some (.own e z ver (es l)):=by rfl) (hs:gW9 L z ((St.mk fr L N).ev y) (es l') js:=by first | exact .own rfl | exact .nil | exact .data (Enc.all _) (gCz _) | exact .data (Enc.all _) (gC0 _))
  (hjs:(decide js.Nodup && !js.contains m)=true:=by decide) (hz:(Nat.blt 0 z && zs.length==z)=true:=by rfl) (hb:Nat.ble bs 32768=true:=by rfl)
  (ht:Nat.blt t N=true:=by rfl) (hk1:KR js L L1:=by repeat constructor) (hL':St1 (.own e z (ver+1) (es (l++l'))) m L1 L':=by repeat constructor)
  (hp:vU ops i L' pf:=by(repeat(first | exact vU.nil | (apply vU.keep;focus ((repeat constructor);done)) | (apply vU.dep;focus kernel_rfl)))) :
  VY P A ops K ((i,false)::r) pf ⟨fr,L,N⟩:=by
 have h1:(es l).length=l.length:=Enc.len l;have h2:(es l').length=l'.length:=Enc.len l';have hb:=Nat.le_of_ble_eq_true hb;rw [Enc.app (es:=es)] at hL';refine gE5 hi (hAj hx hL hs hjs TE.h TI.h TZ.h hz (by rw [yY];omega) ?_ ht hk1 hL') hp h;rw [h1,h2];exact Nat.le_trans (Nat.mul_le_mul hg hb) (by decide)
theorem hPa {α:Type}{en:α→U}{es:List α→List U}{z:Nat}[E:Enc α en es z]{l':List α}(hg:l'.length≤4294967296){e bs:Nat}{gg:Bool} [TE P T e] [TI P e gg z bs] {zs:List Value} [TZ P e zs] {js:List Nat} {T':TypeId}
  (h:VO P A ops rest ⟨(t,.sl i 0)::fr,L',N⟩ K) (hx:(St.mk fr L N).ev x=.nilsl:=by rfl) (hs:gW9 L z ((St.mk fr L N).ev y) (es l') js:=by first | exact .own rfl | exact .nil | exact .data (Enc.all _) (gCz _) | exact .data (Enc.all _) (gC0 _))
  (hjs:decide js.Nodup=true:=by decide) (hz:(Nat.blt 0 z && zs.length==z)=true:=by rfl) (hb:Nat.ble bs 32768=true:=by rfl)
  (ht:Nat.blt t N=true:=by rfl) (hk1:KR js L L1:=by repeat constructor) (hL':Sn (.own e z 0 (es l')) L1 i L':=by repeat constructor) :
  VO P A ops (⟨some t,.call { callee:=.builtin .append,args:=#[x,y],argTypes:=#[T,T] },T',pos,af,none⟩::rest) ⟨fr,L,N⟩ K:=by
 have h2:(es l').length=l'.length:=Enc.len l';have hb:=Nat.le_of_ble_eq_true hb;refine gNr hx hs hjs TE.h TI.h TZ.h hz (by rw [yY];omega) ?_ ht hk1 hL' h;rw [h2];exact Nat.le_trans (Nat.mul_le_mul hg hb) (by decide)
end
inductive OT where
 | nil
 | q (i:Nat) (t:OT)
 | h (i:Nat) (t r:OT)
def OT.heads:OT→List Nat
 | .h i _ r=>i::r.heads
 | _=>[]
def gIa(md:Region.Mode)(ops:Array Oper):OT→Nat→Array Bool→Bool→Bool
 | .nil,n,listed,b=>b || (n==0 && (Region.ready md ops listed).isEmpty)
 | .q i t,n,listed,b=> !b && Nat.blt 0 n && (Region.ready md ops listed).contains i && Region.free md ops listed i && gIa md ops t (n - 1) (listed.setIfInBounds i true) false
 | .h i t r,n,listed,b=>Nat.blt 0 n && (b || Region.ready md ops listed==i::r.heads) && gIa md ops t (n - 1) (listed.setIfInBounds i true) false && gIa md ops r n listed true
section
variable {P:Program}{A:Amb}{ops:Array Oper}{K:St→Prop}{σ σ':St}{t r:OT}{pf:PF}{i:Nat}{b:Bool}
def VT(P:Program)(A:Amb)(ops:Array Oper)(K:St→Prop):OT→PF→St→Bool→Prop
 | .nil,_,σ,b=>b=true∨K σ
 | .q i t,pf,σ,_=>∃o sv B,ops[i]? =some o∧PSt P A ops B σ o sv∧VT P A ops K t ((i,B)::pf) (σ.setO o.dst sv) false
 | .h i t r,pf,σ,_=>(∃o Z,ops[i]? =some o∧hGv P A ops σ o Z∧∀sv L',Z sv L'→(∀p∈pf,hBq .any ops ops.size p.1 i=true∨gQ8 p.2 L')∧VT P A ops K t pf (St.setO ⟨σ.fr,L',σ.N⟩ o.dst sv) false)∧VT P A ops K r pf σ true
theorem VT.vx(hK:∀σ σ',Alike σ σ'→K σ→K σ'):∀(T:OT)(n:Nat)(listed:Array Bool)(pf:PF)(σ:St),Closed .any ops listed→
  (gIa .any ops T n listed false=true→VT P A ops K T pf σ false→VX P A .any ops K n listed pf σ)∧
  (gIa .any ops T (n+1) listed true=true→VT P A ops K T pf σ true→∀j∈T.heads,j∈Region.ready .any ops listed→∃o,ops[j]? =some o∧∃Z,hGv P A ops σ o Z∧∀sv L',Z sv L'→(∀p∈pf,hBq .any ops ops.size p.1 j=true∨gQ8 p.2 L')∧VX P A .any ops K n (listed.setIfInBounds j true) pf (St.setO ⟨σ.fr,L',σ.N⟩ o.dst sv)):=by
 intro T
 induction T with
 | nil=>
   intro n listed pf σ hc;refine⟨fun hB h=>?_,fun _ _ j hj=>by simp [OT.heads] at hj⟩;simp only [gIa,Bool.false_or,Bool.and_eq_true,beq_iff_eq] at hB;simp only [VT,Bool.false_eq_true,false_or] at h;obtain⟨rfl,hB⟩:=hB;exact⟨by simpa using hB,h⟩
 | q i t ih=>
   intro n listed pf σ hc;refine⟨fun hB h=>?_,fun hB=>by simp [gIa] at hB⟩;simp only [gIa,Bool.not_false,Bool.true_and,Bool.and_eq_true,Nat.blt_eq] at hB;obtain⟨⟨⟨h0,hr⟩,hfr⟩,hB⟩:=hB;obtain⟨m,rfl⟩:∃m,n=m+1:=⟨n - 1,by omega⟩
   simp only [Nat.add_sub_cancel] at hB;obtain⟨o,sv,B,h1,h2,h3⟩:=h;have hr:i∈Region.ready .any ops listed:=by simpa using hr
   exact VX.first hK h1 m listed pf σ hc (Region.free_spec h1 hfr) hr h2 ((ih m _ _ _ (hc.step hr)).1 hB h3)
 | h i t r iht ihr=>
   intro n listed pf σ hc;have key:∀(m:Nat)(b:Bool),gIa .any ops (.h i t r) (m+1) listed b=true→VT P A ops K (.h i t r) pf σ b→∀j∈(OT.h i t r).heads,j∈Region.ready .any ops listed→∃o,ops[j]? =some o∧∃Z,hGv P A ops σ o Z∧∀sv L',Z sv L'→(∀p∈pf,hBq .any ops ops.size p.1 j=true∨gQ8 p.2 L')∧VX P A .any ops K m (listed.setIfInBounds j true) pf (St.setO ⟨σ.fr,L',σ.N⟩ o.dst sv):=by
    intro m b hB h j hj hr;simp only [gIa,Bool.and_eq_true,Nat.add_sub_cancel] at hB;obtain⟨⟨_,hB1⟩,hB2⟩:=hB;obtain⟨⟨o,Z,h1,h2,h3⟩,h5⟩:=h;simp only [OT.heads,List.mem_cons] at hj;rcases hj with rfl | hj
    ·exact⟨o,h1,Z,h2,fun sv L' hz=>⟨(h3 sv L' hz).1,(iht m _ _ _ (hc.step hr)).1 hB1 (h3 sv L' hz).2⟩⟩
    ·exact(ihr m listed pf σ hc).2 hB2 h5 j hj hr
   refine⟨fun hB h=>?_,fun hB h=>key n true hB h⟩;have hB':=hB;simp only [gIa,Bool.and_eq_true,Nat.blt_eq,Bool.false_or,beq_iff_eq] at hB';obtain⟨⟨⟨h0,hrd⟩,_⟩,_⟩:=hB';obtain⟨m,rfl⟩:∃m,n=m+1:=⟨n - 1,by omega⟩
   refine⟨fun h0=>(by rw [hrd] at h0;cases h0),fun j hj=>?_⟩;obtain⟨o,h1,Z,h2,h3⟩:=key m false hB h j (by simp only [OT.heads];rw [←hrd];exact hj) hj;exact⟨o,h1,.inr ⟨Z,h2,h3⟩⟩
theorem VT.mono{K':St→Prop}(hK:∀s,K s→K' s):∀(T:OT)(pf:PF)(σ:St)(b:Bool),VT P A ops K T pf σ b→VT P A ops K' T pf σ b
 | .nil,_,_,_,h=>h.imp id (hK _)
 | .q _ t,_,_,_,⟨o,sv,B,h1,h2,h3⟩=>⟨o,sv,B,h1,h2,VT.mono hK t _ _ _ h3⟩
 | .h _ t r,_,_,_,⟨⟨o,Z,h1,h2,h3⟩,h5⟩=>⟨⟨o,Z,h1,h2,fun sv L' hz=>⟨(h3 sv L' hz).1,VT.mono hK t _ _ _ (h3 sv L' hz).2⟩⟩,VT.mono hK r _ _ _ h5⟩
theorem hMo {id:Nat}{l:List Oper}{Q:Exit→St→Prop}(hm:P.follows .mixedOrders=true)(T:OT)(hB:gIa .any l.toArray T l.length (Array.replicate l.length false) false=true)
  (h:VT P A l.toArray (Q .normal) T [] σ false):V P A (.region id l.toArray true) σ Q:=by
 intro a w hr;refine wp_region_any hm ?_;have h1:=VT.mono (K':=fun s=>∃s',Alike s s'∧Q .normal s') (fun s hs=>⟨s,.refl,hs⟩) T [] σ false h;have hc:Closed .any l.toArray (Array.replicate l.length false):=fun k o _ hl=>by rw [Array.getD_eq_getD_getElem?,Array.getElem?_replicate] at hl;split at hl<;>simp at hl
 have h2:=(VT.vx (fun σ σ' ha ⟨s',k1,k2⟩=>⟨s',ha.symm.trans k1,k2⟩) T l.length _ _ _ hc).1 hB h1;have h3:=VX.wp (R:=fun e a' w'=>∃σ',Q e σ'∧mY A σ' a' w') (fun s a' w' ⟨s',k1,k2⟩ hr'=>⟨s',k2,k1.realz hr'⟩) l.length _ _ σ a _ hr.drew h2;simpa using h3
theorem gZ:VY P A ops (fun s=>s=σ) [] pf σ:=rfl
theorem gGt(h1:VY P A ops (fun s=>s=σ') [(i,true)] pf σ)(h:VT P A ops K t ((i,σ.L)::pf) σ' false):VT P A ops K (.q i t) pf σ b:=by
 obtain⟨o,sv,k1,k2,k3⟩:=h1;have k3:σ.setO o.dst sv=σ':=k3;exact⟨o,sv,σ.L,k1,k2,by rw [k3];exact h⟩
theorem hPb{d N:Nat}{x:Operand}{ty:TypeId}{pos:String}{af:Array Edge}{fr:List (Nat × SV)}{L:List LO}{sv:SV}(h:VT P A ops K t ((i,[])::pf) ⟨(d,sv)::fr,L,N⟩ false)(hi:ops[i]? =some ⟨some d,.move x,ty,pos,af,none⟩:=by rfl)(hx:(St.mk fr L N).ev x=sv:=by rfl)(hd:Nat.blt d N=true:=by rfl):VT P A ops K (.q i t) pf ⟨fr,L,N⟩ b:=
 ⟨_,sv,[],hi,⟨fun d' hd'=>by cases hd';exact hd,fun k cs hk=>by simp at hk,.inl ⟨rfl,fun fr' L' he _=>hEc (by rw [he x (by simp [Op.operands])];exact hx)⟩⟩,h⟩
theorem uD(h1:VY P A ops (fun s=>s=σ') [(i,false)] pf σ)(h:VT P A ops K t pf σ' false)(hr:VT P A ops K r pf σ true):VT P A ops K (.h i t r) pf σ b:=by
 obtain⟨o,Z,k1,k2,k3⟩:=h1
 exact⟨⟨o,Z,k1,k2,fun sv L' hz=>⟨(k3 sv L' hz).1,by
  have k4:St.setO ⟨σ.fr,L',σ.N⟩ o.dst sv=σ':=(k3 sv L' hz).2
  rw [k4];exact h⟩⟩,hr⟩
theorem gQ(h1:VY P A ops (fun s=>s=σ') [(i,false)] pf σ)(h:VT P A ops K t pf σ' false):VT P A ops K (.h i t .nil) pf σ b:=uD h1 h (.inl rfl)
theorem jL(h:K σ):VT P A ops K .nil pf σ b:=.inr h
theorem hEf {c:Code}{Q:Exit→St→Prop}{fr fr':List (Nat × SV)}{L Lc:List LO}{N:Nat}(n:Nat) [gDv A n] (js:List Nat) (h:V P A c ⟨fr',Lc,N⟩ Q) (hp:gOr L (rn js L.length) 0 Lc:=by((repeat(first | exact trivial | exact rfl | refine And.intro ?_ ?_));first | done | fail))
  (hjs:(decide js.Nodup && (js.all fun j=>Nat.blt j L.length) && LO.lts Lc.length Lc)=true:=by rfl) (hn:(js.length==Lc.length && Nat.ble n Lc.length && (List.range n).all fun i=>js[i]? ==some i)=true:=by rfl)
  (hfr:hH9 (rn js L.length) fr Lc.length fr':=by((repeat(first | exact trivial | exact rfl | refine And.intro ?_ ?_));first | done | fail)):V P A c ⟨fr,L,N⟩ Q:=by
 simp only [Bool.and_eq_true,decide_eq_true_eq,List.all_eq_true,Nat.blt_eq] at hjs;obtain⟨⟨hnd,hlt⟩,hlts⟩:=hjs;exact hOz (n:=n) js h ⟨fun m o ho=>by simpa using gNv hp m o ho,fun m m' _ _ he=>hDq hlt hnd he,hlts⟩ hn hfr
theorem goT {X Y:Prop}(hy:Y)(h:Y→X:=by
  intro hy
  repeat(first | refine hPb ?_ | refine gGt (hAo rfl gLc gZ) ?_ | refine gGt (hAo rfl gLd gZ) ?_ | refine gGt (hSx rfl gZ (by(repeat constructor);first | done | fail)) ?_ | refine gQ (hSy rfl (by repeat constructor) (by repeat(first | exact vU.nil | (apply vU.keep;focus ((repeat constructor);done)) | (apply vU.dep;focus kernel_rfl))) gZ) ?_)
  exact hy):X:=h hy
end
section
variable {P:Program}{A:Amb}{ops:Array Oper}{K:St→Prop}{Q:Exit→St→Prop}{rest:List Oper}{σ σ' σJ:St}{fr:List (Nat × SV)}{L:List LO}{N t:Nat}{sv:SV}
variable {ty:TypeId}{pos:String}{af:Array Edge}{op:Op}
theorem VQ.alike(hK:∀s s',Alike s s'→K s→K s'):∀(l:List Oper){σ σ':St},Alike σ σ'→VQ P A ops l σ K→VQ P A ops l σ' K
 | [],_,_,ha,h=>hK _ _ ha h
 | o::l,_,_,ha,⟨sv,h1,h2⟩=>⟨sv,YS.congr ha.L.symm ha.N.symm (fun t _=>(ha.fr t).symm) h1,VQ.alike hK l (ha.setO o.dst sv) h2⟩
theorem LeF.alike{n:Nat}(hl:∀t,Go.Eng.look σ.fr t=Go.Eng.look σ'.fr t):∀{fr':List (Nat × SV)},LeF σ.fr n fr'→LeF σ'.fr n fr'
 | [],h=>h
 | p::r,h=>⟨⟨by rw [←hl];exact h.1.1,h.1.2⟩,LeF.alike hl h.2⟩
theorem Le.alike(ha:Alike σ σ')(h:Le σ σJ):Le σ' σJ:=⟨by rw [←ha.N];exact h.N,LeF.alike ha.fr h.fr,by rw [←ha.L];exact h.L,h.lt⟩
theorem gAl{c:Bool}(tj:Nat)(ht:c=true→VQ P A ops rest ⟨(tj,.d (.b true))::fr,L,N⟩ (fun s=>Le s σJ))(hf:c=false→VQ P A ops rest ⟨(tj,.d (.b false))::fr,L,N⟩ (fun s=>Le s σJ))(hb:look fr tj=.d (.b c):=by rfl):VQ P A ops rest ⟨fr,L,N⟩ (fun s=>Le s σJ):=by
 have key:∀c',c=c'→Alike (σ:=⟨(tj,.d (.b c'))::fr,L,N⟩) (σ':=⟨fr,L,N⟩):=fun c' hc=>⟨rfl,rfl,fun t=>by
  simp only [look];by_cases h:t=tj
  ·subst h;rw [if_pos rfl,←hc,←hb]
  ·rw [if_neg h]⟩
 cases hc:c with
 | true=>exact VQ.alike (fun _ _=>Le.alike) rest (key true hc) (ht hc)
 | false=>exact VQ.alike (fun _ _=>Le.alike) rest (key false hc) (hf hc)
theorem gGh{j tj:Nat}{want:Bool}{o':Oper}(hq:QR P ⟨fr,L,N⟩ ⟨some t,op,ty,pos,af,some (j,want)⟩ sv)(h:VQ P A ops rest ⟨(t,sv)::fr,L,N⟩ K)(hj:ops[j]? =some o':=by rfl)(hdst:o'.dst=some tj:=by rfl)(htj:Nat.blt tj N=true:=by rfl)(hb:look fr tj=.d (.b want):=by rfl)(ht:Nat.blt t N=true:=by rfl) :
  VQ P A ops (⟨some t,op,ty,pos,af,some (j,want)⟩::rest) ⟨fr,L,N⟩ K:=gYx hj hdst htj hb hq.q ht h
theorem hIg{j tj:Nat}{want:Bool}{o':Oper}(hq:Quiet P A ⟨fr,L,N⟩ ⟨some t,op,ty,pos,af,some (j,want)⟩ sv)(h:VQ P A ops rest ⟨(t,sv)::fr,L,N⟩ K)(hj:ops[j]? =some o':=by rfl)(hdst:o'.dst=some tj:=by rfl)(htj:Nat.blt tj N=true:=by rfl)(hb:look fr tj=.d (.b want):=by rfl)(ht:Nat.blt t N=true:=by rfl) :
  VQ P A ops (⟨some t,op,ty,pos,af,some (j,want)⟩::rest) ⟨fr,L,N⟩ K:=gYx hj hdst htj hb hq ht h
theorem wG{id:Nat}{l:List Oper}{y:Code}(hm:P.follows .mixedOrders=true)(σJ:St)(hB:Region.lexB .any l.toArray=true)(h1:VQ P A l.toArray l σ (fun s=>Le s σJ))(h2:V P A y σJ Q)(hA:A.L0.length≤σJ.L.length:=by rw [gDv.h (A:=A)];exact Nat.le_of_ble_eq_true rfl) :
  V P A (.seq (.region id l.toArray true) y) σ Q:=hO0 σJ (hC8 hm hB h1) h2 hA
theorem qY {id:Nat}{l:List Oper}(hm:P.follows .mixedOrders=true)(T:OT)(σ':St)(hB:gIa .any l.toArray T l.length (Array.replicate l.length false) false=true)
  (h:VT P A l.toArray (fun s=>∀a w,mY A s a w→mY A σ' a w) T [] σ false) (hr:Q .normal σ'):V P A (.region id l.toArray true) σ Q:=fun a w hw=>
 wp_mono (hMo (Q:=fun e s=>e=.normal∧∀a w,mY A s a w→mY A σ' a w) hm T hB (VT.mono (fun s hs=>⟨rfl,hs⟩) T [] σ false h) a w hw) fun e a' w' ⟨s,⟨k0,k1⟩,k2⟩=>by subst k0;exact⟨σ',hr,k1 _ _ k2⟩
theorem uC {id:Nat}{l:List Oper}{y:Code}(hm:P.follows .mixedOrders=true)(T:OT)(σ':St)(hB:gIa .any l.toArray T l.length (Array.replicate l.length false) false=true)
  (h:VT P A l.toArray (fun s=>∀a w,mY A s a w→mY A σ' a w) T [] σ false) (hr:V P A y σ' Q):V P A (.seq (.region id l.toArray true) y) σ Q:=kI (qY hm T σ' hB h hr)
theorem pQ {fr':List (Nat × SV)}{Lc:List LO}(n:Nat) [gDv A n] (js:List Nat) (hp:gOr L (rn js L.length) 0 Lc:=by((repeat(first | exact trivial | exact rfl | refine And.intro ?_ ?_));first | done | fail))
  (hjs:(decide js.Nodup && (js.all fun j=>Nat.blt j L.length) && LO.lts Lc.length Lc)=true:=by rfl) (hn:(js.length==Lc.length && Nat.ble n Lc.length && (List.range n).all fun i=>js[i]? ==some i)=true:=by rfl)
  (hfr:hH9 (rn js L.length) fr Lc.length fr':=by((repeat(first | exact trivial | exact rfl | refine And.intro ?_ ?_));first | done | fail)):∀a w,mY A ⟨fr,L,N⟩ a w→mY A ⟨fr',Lc,N⟩ a w:=by
 intro a w hr;simp only [Bool.and_eq_true,decide_eq_true_eq,List.all_eq_true,Nat.blt_eq] at hjs;obtain⟨⟨hnd,hlt⟩,hlts⟩:=hjs;exact hr.pick (n:=n) js ⟨fun m o ho=>by simpa using gNv hp m o ho,fun m m' _ _ he=>hDq hlt hnd he,hlts⟩ hn hfr
theorem yQ {e z bs n i:Nat}{T:TypeId}{L':List LO}{gg:Bool} [TE P T e] [TI P e gg z bs] {zs:List Value} [TZ P e zs] {us:List U} {ps:Array (Nat × Operand)} (h:VO P A ops rest ⟨(t,.sl i 0)::fr,L',N⟩ K) (hps:ps.toList=((ps.toList.map Prod.snd).zipIdx 0).map (fun p=>(p.2,p.1)):=by rfl)
  (hy:VDs ⟨fr,L,N⟩ (ps.toList.map Prod.snd) us:=by(repeat(first | exact .nil | refine .cons (by((repeat(first | exact trivial | exact rfl | exact⟨_,rfl⟩ | refine And.intro ?_ ?_));first | done | fail)) ?_))) (hu:(us.all fun u=>u.sz==z)=true:=by rfl) (hn:((ps.toList.map Prod.snd).length==n && Nat.blt 0 n)=true:=by rfl)
  (hz:(Nat.blt 0 z && Nat.ble (n*z) 16777216 && zs.length==z)=true:=by rfl) (ht:Nat.blt t N=true:=by rfl) (hL':Sn (.arr e z 0 us) L i L':=by repeat constructor) :
  VO P A ops (⟨some t,.buildSlice T n ps,ty,pos,af,none⟩::rest) ⟨fr,L,N⟩ K:=hV0 h hps hy hu hn hz ht hL'
theorem hIi{j tj:Nat}{want:Bool}{o':Oper}(hq:QR P ⟨fr,L,N⟩ ⟨some t,op,ty,pos,af,none⟩ sv)(h:VO P A ops rest ⟨(t,sv)::fr,L,N⟩ K)(hj:ops[j]? =some o':=by rfl)(hdst:o'.dst=some tj:=by rfl)(htj:Nat.blt tj N=true:=by rfl)(hb:look fr tj=.d (.b want):=by rfl)(ht:Nat.blt t N=true:=by rfl) :
  VO P A ops (⟨some t,op,ty,pos,af,some (j,want)⟩::rest) ⟨fr,L,N⟩ K:=gRd (uN hq h ht) hj hdst htj hb
theorem hIk{j tj:Nat}{want:Bool}{o':Oper}(hq:Quiet P A ⟨fr,L,N⟩ ⟨some t,op,ty,pos,af,none⟩ sv)(h:VO P A ops rest ⟨(t,sv)::fr,L,N⟩ K)(hj:ops[j]? =some o':=by rfl)(hdst:o'.dst=some tj:=by rfl)(htj:Nat.blt tj N=true:=by rfl)(hb:look fr tj=.d (.b want):=by rfl)(ht:Nat.blt t N=true:=by rfl) :
  VO P A ops (⟨some t,op,ty,pos,af,some (j,want)⟩::rest) ⟨fr,L,N⟩ K:=gRd (vP hq h ht) hj hdst htj hb
theorem gVp{α:Type}{e:α→U}{es:List α→List U}{z z':Nat}[E:Enc α e es z]{el:TypeId}{T T':TypeId}{x:Operand}{g:Option (Nat × Bool)}{dst:Option Nat} [TE P T el]{l:List α}{i ver e':Nat}(hx:σ.ev x=.sl i ver:=by rfl)(hL:σ.L[i]? =some (.arr e' z' ver (es l)):=by rfl):Quiet P A σ ⟨dst,.call { callee:=.builtin .len,args:=#[x],argTypes:=#[T] },T',pos,af,g⟩ (.d (.i .i64 (l.length:Int))):=by
 rw [←Enc.len (es:=es) l];exact hEp hx hL TE.h
theorem gXh{α:Type}{en:α→U}{es:List α→List U}{z:Nat}[E:Enc α en es z]{e bs ver j:Nat}{T:TypeId}{x y:Operand}{g:Option (Nat × Bool)}{dst:Option Nat}{gg:Bool}{l:List α}(k:Nat)(hk:k < l.length) [TE P T e] [TI P e gg z bs](hx:σ.ev x=.sl j ver:=by rfl)(hL:σ.L[j]? =some (.arr e z ver (es l)):=by rfl)(hy:σ.ev y=.d (.i .i64 (k:Int)):=by rfl) :
  Quiet P A σ ⟨dst,.indexAddr T x y,ty,pos,af,g⟩ (.ep j ver z k 0):=by
 have:=gRl (P:=P) (A:=A) (dst:=dst) (ty:=ty) (pos:=pos) (af:=af) (g:=g) hx hL hy (TE.h:tyE P T=some e) (TI.h:tyI P e=some (gg,z,bs)) (Int.natCast_nonneg k) (by rw [Enc.len];omega)
 simpa using this
theorem hIl{α:Type}{en:α→U}{es:List α→List U}{z:Nat}[E:Enc α en es z]{bs ver e' j k:Nat}{T:TypeId}{x:Operand}{g:Option (Nat × Bool)}{dst:Option Nat}{gg:Bool}{l:List α}{a:α}(ha:l[k]? =some a) [TI P T gg z bs](hx:σ.ev x=.ep j ver z k 0:=by rfl)(hL:σ.L[j]? =some (.arr e' z ver (es l)):=by rfl)(hg:(en a).isSt=gg:=by rfl) :
  Quiet P A σ ⟨dst,.load T x,ty,pos,af,g⟩ (.d (en a)):=hEs hx hL (Enc.get ha) TI.h hg
theorem gAd {α:Type}{en:α→U}{es:List α→List U}{z:Nat}[E:Enc α en es z]{l r:List α}(hg:l.length+r.length≤4294967296){e bs ver i:Nat}{T T':TypeId}{x y:Operand}{L':List LO}{gg:Bool} [TE P T e] [TI P e gg z bs] {zs:List Value} [TZ P e zs]
  (h:VO P A ops rest ⟨(t,.sl i (ver+1))::fr,L',N⟩ K) (hx:(St.mk fr L N).ev x=.sl i ver:=by rfl) (hL:L[i]? =some (.arr e z ver (es l)):=by rfl) (hs:SrcOf ⟨fr,L,N⟩ z (es r) ((St.mk fr L N).ev y):=by first | exact⟨_,rfl⟩ | exact⟨rfl,rfl,Enc.all _⟩ | exact rfl)
  (hz:(Nat.blt 0 z && zs.length==z)=true:=by rfl) (hb:Nat.ble bs 32768=true:=by rfl) (ht:Nat.blt t N=true:=by rfl) (hL':L.set i (.arr e z (ver+1) (es (l++r)))=L':=by rfl) :
  VO P A ops (⟨some t,.call { callee:=.builtin .append,args:=#[x,y],argTypes:=#[T,T] },T',pos,af,none⟩::rest) ⟨fr,L,N⟩ K:=by
 have h1:(es l).length=l.length:=Enc.len l;have h2:(es r).length=r.length:=Enc.len r;have hb:=Nat.le_of_ble_eq_true hb;rw [Enc.app (es:=es)] at hL';refine hEw hx hL rfl hs TE.h TI.h TZ.h hz (Enc.all _) (by rw [yY];omega) ?_ ht hL' h;rw [h1,h2];exact Nat.le_trans (Nat.mul_le_mul hg hb) (by decide)
end
theorem goL {X Y:Prop}(hy:Y)(h:Y→X:=by
  intro hy
  repeat(first | refine uN gLc ?_ | refine uN gLd ?_ | refine vP gY7 ?_ | refine vP gVp ?_ | refine hIi gLc ?_ | refine hIi gLd ?_ | refine hIk gY7 ?_ | refine hIk gVp ?_ | refine hO1 ?_ | refine hO5 ?_ | refine hW9 ?_ (by(repeat constructor);first | done | fail) | refine gDi gLc ?_ | refine gDi gLd ?_ | refine gGh gLc ?_ | refine gGh gLd ?_ | refine hOr ?_ | refine hOs ?_ | refine hXa ?_ (by(repeat constructor);first | done | fail) | refine gDc ?_ | refine hKi ?_ | refine gO8 ?_ | refine gY5 ?_ | refine hAh Mix.h (by kernel_rfl) ?_ | refine gUd ?_ | refine hC8 Mix.h (by kernel_rfl) ?_)
  exact hy):X:=h hy
theorem gIb {X Y:Prop}(hy:Y)(h:Y→X:=by
  intro hy
  repeat(first | refine uN gLc ?_ | refine uN gLd ?_ | refine vP gY7 ?_ | refine vP gVp ?_ | refine hIi gLc ?_ | refine hIi gLd ?_ | refine hIk gY7 ?_ | refine hIk gVp ?_ | refine hO1 ?_ | refine hO5 ?_ | refine hW9 ?_ (by(repeat constructor);first | done | fail) | refine gDi gLc ?_ | refine gDi gLd ?_ | refine gGh gLc ?_ | refine gGh gLd ?_ | refine hOr ?_ | refine hOs ?_ | refine hXa ?_ (by(repeat constructor);first | done | fail) | refine gDc ?_ | refine hKi ?_ | refine gO8 ?_ | refine gY5 ?_ | refine gUd ?_)
  exact hy):X:=h hy
section
variable {P:Program}{A:Amb}{σ:St}{dst:Option Nat}{ty:TypeId}{pos:String}{af:Array Edge}{g:Option (Nat × Bool)}
theorem hV3 {f:Operand}{fi:Nat}{args:Array Operand}{at_:Array TypeId}{dargs:List SV}{u:U}
  (hspec:jI P fi dargs [u]) (hu:u.scal=true:=by rfl) (hf:σ.ev f=.fn fi []:=by rfl) (hargs:WCs σ.L (args.toList.map σ.ev) dargs:=by((repeat(first | exact trivial | exact rfl | exact⟨_,rfl⟩ | refine Exists.intro _ (And.intro rfl ?_) | refine And.intro ?_ ?_));first | done | fail)) :
  Quiet P A σ ⟨dst,.call { callee:=.value f,args:=args,argTypes:=at_ },ty,pos,af,g⟩ (.d u):=hDi hf hspec hu hargs
theorem gAu{ops:Array Oper}{K:St→Prop}{rest:List Oper}{fr:List (Nat × SV)}{L L':List LO}{N i t:Nat}{T e z bs:Nat}{gg:Bool} [TE P T e] [TI P e gg z bs](h:VO P A ops rest ⟨(t,.sl i 0)::fr,L',N⟩ K)(ht:Nat.blt t N=true:=by rfl)(hL':Sn (.arr e z 0 []) L i L':=by repeat constructor) :
  VO P A ops (⟨some t,.buildSlice T 0 #[],ty,pos,af,none⟩::rest) ⟨fr,L,N⟩ K:=by
 obtain⟨hi,hL2⟩:=hL'.spec;subst hi;subst hL2;have hT:tyE P T=some e:=TE.h;have he:tyI P e=some (gg,z,bs):=TI.h;refine gDd rfl (fun S env a w hH hf hN hd=>?_) h
 obtain⟨hH',C⟩:=hH.new (w':=w.alloc (.cells #[] e)) (.arr e z 0 []) (.slice (some ⟨w.heap.size,0,none⟩) 0 0) (by simp) (fun b hb=>heap_alloc_old w _ hb) rfl rfl rfl
  (fun b hb=>by simp [LO.ft,blk] at hb;subst hb;simp)
  (fun C=>⟨by simp [yY],by simp,[],⟨by simp,.inr ⟨w.heap.size,0,#[],rfl,Nat.zero_le _,heap_alloc_new w _,Nat.le_refl _,by simp [maxLen],by simp,by simp⟩⟩,by simp [Rds]⟩)
 refine⟨.value (.slice (some ⟨w.heap.size,0,none⟩) 0 0),_,?_,.inl ⟨_,rfl,uU hf hN hd ht hH' C ?_⟩⟩
 ·simp [execOp,Instr.buildSlice,run_underlying (zN hT),run_sizeOf he,Instr.fill,newRow];congr 2;apply Array.ext';simp
 ·simp only [SVr];exact⟨.slice (some ⟨w.heap.size,0,none⟩) 0 0,.arr e z 0 [],by rw [←hH.len];simp,by simp,Nat.le_refl _,rfl,fun _=>rfl⟩
theorem jW{ops:Array Oper}{K:St→Prop}{fr:List (Nat × SV)}{L:List LO}{N i t:Nat}{sv:SV}{op:Op}{r:List (Nat × Bool)}{pf:PF}(hi:ops[i]? =some ⟨some t,op,ty,pos,af,none⟩)(hq:QR P ⟨fr,L,N⟩ ⟨some t,op,ty,pos,af,none⟩ sv)(hv:VY P A ops K r ((i,L)::pf) ⟨(t,sv)::fr,L,N⟩)(ht:Nat.blt t N=true:=by rfl) :
  VY P A ops K ((i,true)::r) pf ⟨fr,L,N⟩:=hXc hq hv hi ht
end
section
variable {P:Program}{A:Amb}{σ:St}{dst:Option Nat}{ty T T':TypeId}{pos:String}{af:Array Edge}{g:Option (Nat × Bool)}{x y:Operand}{a b c d:Int}
end
end Go.Eng
